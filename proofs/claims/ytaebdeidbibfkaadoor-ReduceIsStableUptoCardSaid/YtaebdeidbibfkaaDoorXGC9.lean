/- Contracts: models of functions are right. No law is proved here. -/
import Derived.Test.YtaebdeidbibfkaaDoorXGMod
import Derived.Test.YtaebdeidbibfkaaDoorXTax
import Derived.Test.YtaebdeidbibfkaaDoorXSo
import Derived.Test.YtaebdeidbibfkaaDoorXSh
import Derived.Test.YtaebdeidbibfkaaDoorXGC0
import Derived.Test.YtaebdeidbibfkaaDoorXGC3
import Derived.Test.YtaebdeidbibfkaaDoorXGC4
import Derived.Test.YtaebdeidbibfkaaDoorXGC6
import Derived.Test.YtaebdeidbibfkaaDoorXGC7
namespace Go.Proofs.YtaebdeidbibfkaaDoor
open Go.Av Go.G
attribute [-simp] Int.natCast_tdiv_eq_ediv
attribute [local simp] runf guardA opf St.ev Go.Av.look St.setd constAV constAV0 opBin opLen intBin St.need lookT TT0 tab resA resOne resAll blt_dec ble_dec beq_dec isPure
attribute [local simp] opMakeSlice opCopy opIndexAddr opLoad opStore St.mem St.rows opUn calleeA toArgs toArg toArg0 toArgs0 shift shift0 shift1 splice cellsOf isFree ofCells TS.isAgg isCell strBin opConvert
attribute [local simp] opSlice3 opClear fz_clear opBuildSlice fillA opAppend eqC eqA cksB ckB St.newBox runI valKind withinB readsHp refsD refs noSl opFieldAddr opBuild opMax opMin placeOf Op.operands Call.operands opIndex opExtract opSlice opField partA
attribute [local simp] loA hiA lenA opMakeMap opLookup opMapUpdate keyOk findA_int findA_str findA_bool putA_strB putA_strI putA_strS putA_intB putA_intI putA_intS putA_boolI putA_boolB byteRow_rwN bytesOf_rwN opBytesStr mAV_length mAV_nil cA1 cA2 cA3 cA4 opNilCheck opMakeFunc opRange
attribute [local simp] aL cI cB cS cL rw_map fz_rw fz_const dropRow_rw fz_append fz_set fz_copy fz_rows rowLen_rw rowsLen_nil rowsLen_cons rowsLen_append rowsLen_map rowsLen_dm rowsLen_tm rowsLen_take rowsLen_drop rowsLen_replicate take_map_len take_map_le drop_map_len take_drop_len chunks isScalar isScalar0
attribute [local simp] putBack putAt objMap mapC mapA mapT map0 bid rid memB passed closedB argsH argH argH0 argsH0 objIds ids0 idsC isLocT isLocA isLocC isLoc0 LocObj
attribute [local congr] bind_congr1 map_congr1 cond_congr1
attribute [local simp] cApiAddr cApiContact cApiCoil cApiRung cReducePair cReduceEdge cTreeTree_eq TreeTree_Kind_mk TreeTree_N_mk TreeTree_Kids_mk eta_TreeTree
variable [Drawn]
set_option maxHeartbeats 4000000
set_option linter.unusedSectionVars false
set_option maxRecDepth 20000
set_option linter.unusedSimpArgs false
set_option linter.unusedVariables false

theorem con_reduce_parallel_v1 {n : Nat} {l0 : List ReduceEdge} {r : Bool × (List ReduceEdge)} (h : reduce_parallel_v1 n l0 = some r) : ConH Tryd.prog G0 29 [.sl 0 0 l0.length] [.arr 5 l0.length (rw (l0.map cReduceEdge))] (.tup [.sl 0 0 r.2.length, .bool r.1]) [.arr 5 r.2.length (rw (r.2.map cReduceEdge))] := by
  refine conH_of (T := TT0) tt_ok Tryd.func29 (c := _) (by unfold Tryd.f29; rfl) Tryd.ntmps29 (rs := [.tmp 2, .tmp 3]) (by rw [Tryd.results29]) (by unfold Tryd.f29; rfl) (by simp) (k := 1) rfl rfl ?_
  try simp only [argsCh]
  have F := True.intro
  dsimp only [reduce_parallel_v1] at h
  refine rs0 ?_
  iterate 2 refine vp ?_
  refine vn ?_
  refine Wp.seq ?_
  refine rs0 ?_
  iterate 3 refine vp ?_
  refine vn ?_
  refine Wp.block ?_
  refine lp [some 0] (fun p4114 : Int => { ch := [(0, .sl 0 0 l0.length), (7, .sl 0 0 l0.length), (8, .int .i64 (l0.length : Int)), (9, .int .i64 p4114)], hp := [.arr 5 l0.length (rw (l0.map cReduceEdge))], base := 1, n := 49, cond := True, gl := G0 }) (fun m x => reduce_parallel_v1_L1 n l0 m x = some r) n 0 h ?_
  rintro rec_n1 p4114 h
  dsimp only [reduce_parallel_v1_L1] at h
  try dsimp only
  refine rs0 ?_
  refine vp ?_
  refine vn ?_
  refine Wp.seq ?_
  refine sD h F (fun F h => ?_) fun F h => ?_
  refine cF ?_
  refine Wp.exit ?_
  refine sh ?_
  refine rs0 ?_
  iterate 3 refine vp ?_
  refine vn ?_
  cases h
  exact Wp.ret (enH [some 0])
  refine cT ?_
  refine Wp.skip ?_
  refine sh ?_
  refine Wp.seq ?_
  refine Wp.block ?_
  refine rs0 ?_
  refine vp ?_
  refine eI h F fun x4124 F h => ?_
  iterate 5 refine vp ?_
  refine vn ?_
  refine rs0 ?_
  iterate 3 refine vp ?_
  refine gd h F fun F h => ?_
  iterate 2 refine vp ?_
  obtain ⟨r4126, hr4125, h⟩ := obind h
  refine vh [0, 1] (con_slices_IndexFunc_reduce_edge_c50_v1 hr4125) ?_
  refine vp ?_
  refine vn ?_
  refine rs0 ?_
  iterate 2 refine vp ?_
  refine vn ?_
  refine sD h F (fun F h => ?_) fun F h => ?_
  refine cF ?_
  refine Wp.skip ?_
  refine sh ?_
  refine rg0 ?_
  iterate 2 refine vp ?_
  refine vn ?_
  exact nx [some 0] (IntKind.i64.wrap (p4114 + 1)) h
  refine cT ?_
  refine dw (fun _ => false) [0, 1] ?_
  refine du 9 ?_
  refine eI h F fun x4127 F h => ?_
  refine du 3 ?_
  obtain ⟨r4129, hr4128, h⟩ := obind h
  refine dc (con_reduce_join hr4128) ?_
  refine du 2 ?_
  refine db ?_
  refine nm cReduceEdge h F fun l4130 F h => ?_
  refine dn ?_
  refine rs0 ?_
  iterate 9 refine vp ?_
  obtain ⟨q4132, hr4131, h⟩ := obind h
  refine vh [0] (con_slices_Delete_reduce_edge_v1 hr4131) ?_
  iterate 2 refine vp ?_
  refine vn ?_
  cases h
  exact Wp.ret (enH [some 0])

theorem con_flow_DeadNodes_1 {n : Nat} {n_0 : Str} {b0 : List Str} {b1 : List Str} {r : Bool} (h : flow_DeadNodes_1 n n_0 b0 b1 = some r) : ConH Tryd.prog G0 80 [.str n_0, .hptr 0 0 0, .hptr 1 0 0] [.var [aL cS b0], .var [aL cS b1]] (.bool r) [.var [aL cS b0], .var [aL cS b1]] := by
  refine conH_of (T := TT0) tt_ok Tryd.func80 (c := _) (by unfold Tryd.f80; rfl) Tryd.ntmps80 (rs := [.tmp 4]) (by rw [Tryd.results80]) (by unfold Tryd.f80; rfl) (by simp) (k := 2) rfl rfl ?_
  try simp only [argsCh]
  have F := True.intro
  dsimp only [flow_DeadNodes_1] at h
  refine rs0 ?_
  refine vp ?_
  refine vn ?_
  refine rs0 ?_
  iterate 2 refine vp ?_
  obtain ⟨r3882, hr3881, h⟩ := obind h
  refine vc (con_slices_Contains_string hr3881) ?_
  refine vp ?_
  refine sB h F (fun F h => ?_) fun F h => ?_
  refine vs ?_
  refine vs ?_
  refine vs ?_
  iterate 2 refine vp ?_
  refine vn ?_
  cases h
  exact Wp.ret (enH [some 0, some 1])
  refine vg ?_
  refine vg ?_
  obtain ⟨r3884, hr3883, h⟩ := obind h
  refine vc (con_slices_Contains_string hr3883) ?_ (hg := by (simp [F]; done))
  iterate 2 refine vp ?_
  refine vn ?_
  cases h
  exact Wp.ret (enH [some 0, some 1])

theorem con_reduce_sorted_1 {n : Nat} {a0 : TreeTree} {b1 : TreeTree} {r : Int} (h : reduce_sorted_1 n a0 b1 = some r) : Con Tryd.prog G0 54 [.agg [.int .i64 a0.Kind, .int .i64 a0.N, aL cTreeTree a0.Kids], .agg [.int .i64 b1.Kind, .int .i64 b1.N, aL cTreeTree b1.Kids]] (.int .i64 r) [] := by
  refine con_of (T := TT0) tt_ok Tryd.func54 (c := _) (by unfold Tryd.f54; rfl) Tryd.ntmps54 (rs := [.tmp 4]) (by rw [Tryd.results54]) (by unfold Tryd.f54; rfl) (by simp) ?_
  simp only [argsCh]
  have F := True.intro
  dsimp only [reduce_sorted_1] at h
  refine rs0 ?_
  iterate 3 refine vp ?_
  refine vn ?_
  refine dw (fun _ => false) [0, 1] ?_
  refine du 1 ?_
  obtain ⟨r4425, hr4424, h⟩ := obind h
  refine dc (con_tree_Leaves _ hr4424) ?_
  obtain ⟨r4433, hr4432, h⟩ := obind h
  refine dc (con_slices_Min_int hr4432) ?_
  refine du 1 ?_
  obtain ⟨r4435, hr4434, h⟩ := obind h
  refine dc (con_tree_Leaves _ hr4434) ?_
  obtain ⟨r4437, hr4436, h⟩ := obind h
  refine dc (con_slices_Min_int hr4436) ?_
  obtain ⟨r4443, hr4442, h⟩ := obind h
  refine dc (con_cmp_Compare_int hr4442) ?_
  refine du 1 ?_
  refine dn ?_
  cases h
  exact Wp.ret en0

theorem con_slices_ContainsFunc_tree_Tree_c66 {n : Nat} {s0 : List TreeTree} {b0 : TreeTree} {r : Bool} (h : slices_ContainsFunc_tree_Tree_c66 n s0 b0 = some r) : ConH Tryd.prog G0 65 [aL cTreeTree s0, .clos 66 [] [.hptr 0 0 0]] [.var [.int .i64 b0.Kind, .int .i64 b0.N, aL cTreeTree b0.Kids]] (.bool r) [.var [.int .i64 b0.Kind, .int .i64 b0.N, aL cTreeTree b0.Kids]] := by
  refine conH_of (T := TT0) tt_ok Tryd.func65 (c := _) (by unfold Tryd.f65; rfl) Tryd.ntmps65 (rs := [.tmp 4]) (by rw [Tryd.results65]) (by unfold Tryd.f65; rfl) (by simp) (k := 1) rfl rfl ?_
  try simp only [argsCh]
  have F := True.intro
  dsimp only [slices_ContainsFunc_tree_Tree_c66] at h
  refine rs0 ?_
  refine vp ?_
  refine vn ?_
  refine rs0 ?_
  iterate 2 refine vp ?_
  obtain ⟨r4761, hr4760, h⟩ := obind h
  refine vh [0] (con_slices_IndexFunc_tree_Tree_c66 hr4760) ?_
  iterate 2 refine vp ?_
  refine vn ?_
  cases h
  exact Wp.ret (enH [some 0])

end Go.Proofs.YtaebdeidbibfkaaDoor
