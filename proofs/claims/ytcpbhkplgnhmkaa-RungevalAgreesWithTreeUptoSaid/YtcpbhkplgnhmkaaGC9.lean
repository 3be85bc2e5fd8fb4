/- Contracts: models of functions are right. No law is proved here. -/
import Derived.Test.YtcpbhkplgnhmkaaGMod
import Derived.Test.YtcpbhkplgnhmkaaTak
import Derived.Test.YtcpbhkplgnhmkaaLawM11
import Derived.Test.YtcpbhkplgnhmkaaGC0
import Derived.Test.YtcpbhkplgnhmkaaGC3
import Derived.Test.YtcpbhkplgnhmkaaGC4
import Derived.Test.YtcpbhkplgnhmkaaGC5
import Derived.Test.YtcpbhkplgnhmkaaGC6
namespace Go.Proofs.Ytcpbhkplgnhmkaa
open Go.Av Go.G
attribute [-simp] Int.natCast_tdiv_eq_ediv
attribute [local simp] runf guardA opf St.ev Go.Av.look St.setd constAV constAV0 opBin opLen intBin St.need lookT TT0 tab resA resOne resAll blt_dec ble_dec beq_dec isPure
attribute [local simp] opMakeSlice opCopy opIndexAddr opLoad opStore St.mem St.rows opUn calleeA toArgs toArg toArg0 toArgs0 shift shift0 shift1 splice cellsOf isFree ofCells TS.isAgg isCell strBin opConvert
attribute [local simp] opSlice3 opClear fz_clear opBuildSlice fillA opAppend eqC eqA cksB ckB St.newBox runI valKind withinB readsHp refsD refs noSl opFieldAddr opBuild opMax opMin placeOf Op.operands Call.operands opIndex opExtract opSlice opField partA
attribute [local simp] loA hiA lenA opMakeMap opLookup opMapUpdate keyOk findA_int findA_str findA_bool putA_strB putA_strI putA_strS putA_intB putA_intI putA_intS putA_boolI putA_boolB byteRow_rw bytesOf_rw opBytesStr mAV_length mAV_nil cA1 cA2 cA3 cA4 opNilCheck opMakeFunc opRange
attribute [local simp] aL cI cB cS cL rw_map fz_rw fz_const dropRow_rw fz_append fz_set fz_copy fz_rows rowLen_rw rowsLen_nil rowsLen_cons rowsLen_append rowsLen_map rowsLen_dm rowsLen_tm rowsLen_take rowsLen_drop rowsLen_replicate take_map_len take_map_le drop_map_len take_drop_len chunks isScalar isScalar0
attribute [local simp] putBack putAt objMap mapC mapA mapT map0 bid rid memB passed closedB argsH argH argH0 argsH0 objIds ids0 idsC isLocT isLocA isLocC isLoc0 LocObj
attribute [local congr] bind_congr1 map_congr1 cond_congr1
attribute [local simp] cApiAddr cApiContact cApiCoil cApiRung cApiState cReducePair cReduceEdge cTreeTree_eq TreeTree_Kind_mk TreeTree_N_mk TreeTree_Kids_mk eta_TreeTree
variable [Drawn]
set_option maxHeartbeats 4000000
set_option linter.unusedSectionVars false
set_option maxRecDepth 20000
set_option linter.unusedSimpArgs false
set_option linter.unusedVariables false

theorem con_reduce_parallel_v1 {n : Nat} {l0 : List ReduceEdge} {r : Bool × (List ReduceEdge)} (h : reduce_parallel_v1 n l0 = some r) : ConH Try.prog G0 15 [.sl 0 0 l0.length] [.arr 5 l0.length (rw (l0.map cReduceEdge))] (.tup [.sl 0 0 r.2.length, .bool r.1]) [.arr 5 r.2.length (rw (r.2.map cReduceEdge))] := by
  refine conH_of (T := TT0) tt_ok Try.func15 (c := _) (by unfold Try.f15; rfl) Try.ntmps15 (rs := [.tmp 2, .tmp 3]) (by rw [Try.results15]) (by unfold Try.f15; rfl) (by simp) (k := 1) rfl rfl ?_
  try simp only [argsCh]
  have F := True.intro
  dsimp only [reduce_parallel_v1] at h
  refine rs0 ?_
  iterate 2 refine vp ?_
  refine vn ?_
  refine Wp.seq ?_
  refine rs0 ?_
  iterate 3 refine vp ?_
  refine vn ?_
  refine Wp.block ?_
  refine lp [some 0] (fun p5101 : Int => { ch := [(0, .sl 0 0 l0.length), (7, .sl 0 0 l0.length), (8, .int .i64 (l0.length : Int)), (9, .int .i64 p5101)], hp := [.arr 5 l0.length (rw (l0.map cReduceEdge))], base := 1, n := 49, cond := True, gl := G0 }) (fun m x => reduce_parallel_v1_L1 n l0 m x = some r) n 0 h ?_
  rintro rec_n1 p5101 h
  dsimp only [reduce_parallel_v1_L1] at h
  try dsimp only
  refine rs0 ?_
  refine vp ?_
  refine vn ?_
  refine Wp.seq ?_
  refine sD h F (fun F h => ?_) fun F h => ?_
  refine cF ?_
  refine Wp.exit ?_
  refine sh ?_
  refine rs0 ?_
  iterate 3 refine vp ?_
  refine vn ?_
  cases h
  exact Wp.ret (enH [some 0])
  refine cT ?_
  refine Wp.skip ?_
  refine sh ?_
  refine Wp.seq ?_
  refine Wp.block ?_
  refine rs0 ?_
  refine vp ?_
  refine eI h F fun x5111 F h => ?_
  iterate 5 refine vp ?_
  refine vn ?_
  refine rs0 ?_
  iterate 3 refine vp ?_
  refine gd h F fun F h => ?_
  iterate 2 refine vp ?_
  obtain ⟨r5113, hr5112, h⟩ := obind h
  refine vh [0, 1] (con_slices_IndexFunc_reduce_edge_c27_v1 hr5112) ?_
  refine vp ?_
  refine vn ?_
  refine rs0 ?_
  iterate 2 refine vp ?_
  refine vn ?_
  refine sD h F (fun F h => ?_) fun F h => ?_
  refine cF ?_
  refine Wp.skip ?_
  refine sh ?_
  refine rg0 ?_
  iterate 2 refine vp ?_
  refine vn ?_
  exact nx [some 0] (IntKind.i64.wrap (p5101 + 1)) h
  refine cT ?_
  refine dw (fun _ => false) [0, 1] ?_
  refine du 9 ?_
  refine eI h F fun x5114 F h => ?_
  refine du 3 ?_
  obtain ⟨r5116, hr5115, h⟩ := obind h
  refine dc (con_reduce_join hr5115) ?_
  refine du 2 ?_
  refine db ?_
  refine nm cReduceEdge h F fun l5117 F h => ?_
  refine dn ?_
  refine rs0 ?_
  iterate 9 refine vp ?_
  obtain ⟨q5119, hr5118, h⟩ := obind h
  refine vh [0] (con_slices_Delete_reduce_edge_v1 hr5118) ?_
  iterate 2 refine vp ?_
  refine vn ?_
  cases h
  exact Wp.ret (enH [some 0])

theorem con_slices_IndexFunc_tree_Tree_c38_36 {slf_tree_Tree_eval : TreeTree → (List Bool) → Option (Bool)} (Hslf_tree_Tree_eval : ∀ {t0 : TreeTree} {on1 : List Bool} {r : Bool}, slf_tree_Tree_eval t0 on1 = some r → Con Try.prog G0 19 [.agg [.int .i64 t0.Kind, .int .i64 t0.N, aL cTreeTree t0.Kids], aL cB on1] (.bool r) []) {n : Nat} {s0 : List TreeTree} {b1 : List Bool} {r : Int} (h : slices_IndexFunc_tree_Tree_c38_36 slf_tree_Tree_eval n s0 b1 = some r) : ConH Try.prog G0 60 [aL cTreeTree s0, .clos 38 [] [.hptr 0 0 0]] [.var [.clos 36 [] [.hptr 1 0 0]], .var [aL cB b1]] (.int .i64 r) [.var [.clos 36 [] [.hptr 1 0 0]], .var [aL cB b1]] := by
  refine conH_of (T := TT0) tt_ok Try.func60 (c := _) (by unfold Try.f60; rfl) Try.ntmps60 (rs := [.tmp 4]) (by rw [Try.results60]) (by unfold Try.f60; rfl) (by simp) (k := 2) rfl rfl ?_
  try simp only [argsCh]
  have F := True.intro
  dsimp only [slices_IndexFunc_tree_Tree_c38_36] at h
  refine rs0 ?_
  refine vp ?_
  refine vn ?_
  refine Wp.seq ?_
  refine rs0 ?_
  iterate 3 refine vp ?_
  refine vn ?_
  refine Wp.block ?_
  refine lp [some 0, some 1] (fun p5590 : Int => { ch := [(0, aL cTreeTree s0), (1, .clos 38 [] [.hptr 0 0 0]), (7, .int .i64 (s0.length : Int)), (8, .int .i64 p5590)], hp := [.var [.clos 36 [] [.hptr 1 0 0]], .var [aL cB b1]], base := 2, n := 19, cond := True, gl := G0 }) (fun m x => slices_IndexFunc_tree_Tree_c38_36_L1 n s0 b1 slf_tree_Tree_eval m x = some r) n 0 h ?_
  rintro rec_n1 p5590 h
  dsimp only [slices_IndexFunc_tree_Tree_c38_36_L1] at h
  try dsimp only
  refine rs0 ?_
  refine vp ?_
  refine vn ?_
  refine Wp.seq ?_
  refine sD h F (fun F h => ?_) fun F h => ?_
  refine cF ?_
  refine Wp.exit ?_
  refine sh ?_
  refine rs0 ?_
  refine vp ?_
  refine vn ?_
  cases h
  exact Wp.ret (enH [some 0, some 1])
  refine cT ?_
  refine Wp.skip ?_
  refine sh ?_
  refine Wp.seq ?_
  refine Wp.block ?_
  refine rs0 ?_
  iterate 2 refine vp ?_
  refine vn ?_
  refine rs0 ?_
  iterate 3 refine vp ?_
  refine eI h F fun x5594 F h => ?_
  iterate 2 refine vp ?_
  obtain ⟨r5596, hr5595, h⟩ := obind h
  refine vh [0, 1] (con_tree_Tree_eval_2_c36 Hslf_tree_Tree_eval hr5595) ?_
  refine vn ?_
  refine sB h F (fun F h => ?_) fun F h => ?_
  refine cF ?_
  refine Wp.skip ?_
  refine sh ?_
  refine rg0 ?_
  iterate 2 refine vp ?_
  refine vn ?_
  exact nx [some 0, some 1] (IntKind.i64.wrap (p5590 + 1)) h
  refine cT ?_
  refine rs0 ?_
  iterate 2 refine vp ?_
  refine vn ?_
  cases h
  exact Wp.ret (enH [some 0, some 1])

theorem con_state_Read {n : Nat} {in0 : List Bool} {st1 : ApiState} {a2 : ApiAddr} {r : Bool × Int} (h : state_Read n in0 st1 a2 = some r) : Con Try.prog G0 40 [aL cB in0, .agg (cApiState st1), .agg (cApiAddr a2)] (.tup [.bool r.1, .int .i64 r.2]) [] := by
  refine con_of (T := TT0) tt_ok Try.func40 (c := _) (by unfold Try.f40; rfl) Try.ntmps40 (rs := [.tmp 6, .tmp 7]) (by rw [Try.results40]) (by unfold Try.f40; rfl) (by simp) ?_
  simp only [argsCh]
  have F := True.intro
  dsimp only [state_Read] at h
  refine rs0 ?_
  iterate 4 refine vp ?_
  refine vn ?_
  refine rs0 ?_
  iterate 8 refine vp ?_
  refine vn ?_
  refine Wp.seq ?_
  refine rs0 ?_
  iterate 4 refine vp ?_
  refine sD h F (fun F h => ?_) fun F h => ?_
  refine vg ?_
  refine vg ?_
  refine vg ?_
  refine vp ?_
  refine vn ?_
  refine sD h F (fun F h => ?_) fun F h => ?_
  refine cF ?_
  refine Wp.skip ?_
  refine sh ?_
  refine dw (fun _ => false) [1, 2] ?_
  refine du 2 ?_
  refine sP h F (fun F h => ?_) fun F h => ?_
  refine du 4 ?_
  obtain ⟨⟨r370, r371⟩, hr369, h⟩ := obind h
  dsimp only at h
  refine dc (con_image_Get hr369) ?_
  refine du 4 ?_
  refine dn ?_
  cases h
  exact Wp.ret en0
  refine sP h F (fun F h => ?_) fun F h => ?_
  refine du 4 ?_
  obtain ⟨⟨r373, r374⟩, hr372, h⟩ := obind h
  dsimp only at h
  refine dc (con_image_Get hr372) ?_
  refine du 4 ?_
  refine dn ?_
  cases h
  exact Wp.ret en0
  refine sP h F (fun F h => ?_) fun F h => ?_
  refine du 4 ?_
  obtain ⟨⟨r376, r377⟩, hr375, h⟩ := obind h
  dsimp only at h
  refine dc (con_image_Get hr375) ?_
  refine du 4 ?_
  refine dn ?_
  cases h
  exact Wp.ret en0
  cases h
  refine cT ?_
  refine rs0 ?_
  iterate 2 refine vp ?_
  refine vn ?_
  cases h
  exact Wp.ret en0
  refine vs ?_
  refine vs ?_
  refine vs ?_
  refine vp ?_
  refine vn ?_
  refine cT ?_
  refine rs0 ?_
  iterate 2 refine vp ?_
  refine vn ?_
  cases h
  exact Wp.ret en0

theorem con_slices_ContainsFunc_tree_Tree_c36 {slf_tree_Tree_eval : TreeTree → (List Bool) → Option (Bool)} (Hslf_tree_Tree_eval : ∀ {t0 : TreeTree} {on1 : List Bool} {r : Bool}, slf_tree_Tree_eval t0 on1 = some r → Con Try.prog G0 19 [.agg [.int .i64 t0.Kind, .int .i64 t0.N, aL cTreeTree t0.Kids], aL cB on1] (.bool r) []) {n : Nat} {s0 : List TreeTree} {b0 : List Bool} {r : Bool} (h : slices_ContainsFunc_tree_Tree_c36 slf_tree_Tree_eval n s0 b0 = some r) : ConH Try.prog G0 37 [aL cTreeTree s0, .clos 36 [] [.hptr 0 0 0]] [.var [aL cB b0]] (.bool r) [.var [aL cB b0]] := by
  refine conH_of (T := TT0) tt_ok Try.func37 (c := _) (by unfold Try.f37; rfl) Try.ntmps37 (rs := [.tmp 4]) (by rw [Try.results37]) (by unfold Try.f37; rfl) (by simp) (k := 1) rfl rfl ?_
  try simp only [argsCh]
  have F := True.intro
  dsimp only [slices_ContainsFunc_tree_Tree_c36] at h
  refine rs0 ?_
  refine vp ?_
  refine vn ?_
  refine rs0 ?_
  iterate 2 refine vp ?_
  obtain ⟨r5626, hr5625, h⟩ := obind h
  refine vh [0] (con_slices_IndexFunc_tree_Tree_c36 Hslf_tree_Tree_eval hr5625) ?_
  iterate 2 refine vp ?_
  refine vn ?_
  cases h
  exact Wp.ret (enH [some 0])

theorem con_slices_ContainsFunc_tree_Tree_c59 {n : Nat} {s0 : List TreeTree} {b0 : TreeTree} {r : Bool} (h : slices_ContainsFunc_tree_Tree_c59 n s0 b0 = some r) : ConH Try.prog G0 37 [aL cTreeTree s0, .clos 59 [] [.hptr 0 0 0]] [.var [.int .i64 b0.Kind, .int .i64 b0.N, aL cTreeTree b0.Kids]] (.bool r) [.var [.int .i64 b0.Kind, .int .i64 b0.N, aL cTreeTree b0.Kids]] := by
  refine conH_of (T := TT0) tt_ok Try.func37 (c := _) (by unfold Try.f37; rfl) Try.ntmps37 (rs := [.tmp 4]) (by rw [Try.results37]) (by unfold Try.f37; rfl) (by simp) (k := 1) rfl rfl ?_
  try simp only [argsCh]
  have F := True.intro
  dsimp only [slices_ContainsFunc_tree_Tree_c59] at h
  refine rs0 ?_
  refine vp ?_
  refine vn ?_
  refine rs0 ?_
  iterate 2 refine vp ?_
  obtain ⟨r5507, hr5506, h⟩ := obind h
  refine vh [0] (con_slices_IndexFunc_tree_Tree_c59 hr5506) ?_
  iterate 2 refine vp ?_
  refine vn ?_
  cases h
  exact Wp.ret (enH [some 0])

end Go.Proofs.Ytcpbhkplgnhmkaa
