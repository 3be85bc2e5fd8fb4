/- Contracts: models of functions are right. No law is proved here. -/
import Derived.Test.YtaebdeidbibfkaaGreatDoorWGMod
import Derived.Test.YtaebdeidbibfkaaGreatDoorWTaw
import Derived.Test.YtaebdeidbibfkaaGreatDoorWSoz
import Derived.Test.YtaebdeidbibfkaaGreatDoorWShw
import Derived.Test.YtaebdeidbibfkaaGreatDoorWGC0
import Derived.Test.YtaebdeidbibfkaaGreatDoorWGC3
import Derived.Test.YtaebdeidbibfkaaGreatDoorWGC4
import Derived.Test.YtaebdeidbibfkaaGreatDoorWGC6
import Derived.Test.YtaebdeidbibfkaaGreatDoorWGC8
namespace Go.Proofs.YtaebdeidbibfkaaGreatDoor
open Go.Av Go.G
attribute [-simp] Int.natCast_tdiv_eq_ediv
attribute [local simp] runf guardA opf St.ev Go.Av.look St.setd constAV constAV0 opBin opLen intBin St.need lookT TT0 tab resA resOne resAll blt_dec ble_dec beq_dec isPure
attribute [local simp] opMakeSlice opCopy opIndexAddr opLoad opStore St.mem St.rows opUn calleeA toArgs toArg toArg0 toArgs0 shift shift0 shift1 splice cellsOf isFree ofCells TS.isAgg isCell strBin opConvert
attribute [local simp] opSlice3 opClear fz_clear opBuildSlice fillA opAppend eqC eqA cksB ckB St.newBox runI valKind withinB readsHp refsD refs noSl opFieldAddr opBuild opMax opMin placeOf Op.operands Call.operands opIndex opExtract opSlice opField partA
attribute [local simp] loA hiA lenA opMakeMap opLookup opMapUpdate keyOk findA_int findA_str findA_bool putA_strB putA_strI putA_strS putA_intB putA_intI putA_intS putA_boolI putA_boolB byteRow_rwN bytesOf_rwN opBytesStr mAV_length mAV_nil cA1 cA2 cA3 cA4 opNilCheck opMakeFunc opRange
attribute [local simp] aL cI cB cS cL rw_map fz_rw fz_const dropRow_rw fz_append fz_set fz_copy fz_rows rowLen_rw rowsLen_nil rowsLen_cons rowsLen_append rowsLen_map rowsLen_dm rowsLen_tm rowsLen_take rowsLen_drop rowsLen_replicate take_map_len take_map_le drop_map_len take_drop_len chunks isScalar isScalar0
attribute [local simp] putBack putAt objMap mapC mapA mapT map0 bid rid memB passed closedB argsH argH argH0 argsH0 objIds ids0 idsC isLocT isLocA isLocC isLoc0 LocObj
attribute [local congr] bind_congr1 map_congr1 cond_congr1
attribute [local simp] cApiAddr cApiContact cApiCoil cApiRung cReducePair cReduceEdge cTreeTree_eq TreeTree_Kind_mk TreeTree_N_mk TreeTree_Kids_mk eta_TreeTree cRef14Tree_eq Ref14Tree_Kind_mk Ref14Tree_N_mk Ref14Tree_Kids_mk eta_Ref14Tree
variable [Drawn]
set_option maxHeartbeats 4000000
set_option linter.unusedSectionVars false
set_option maxRecDepth 20000
set_option linter.unusedSimpArgs false
set_option linter.unusedVariables false

theorem con_ref14_check_v1 (n : Nat) : ∀ {_append0 : Ref14Tree} {a1 : Int} {r : Int × (List Int)}, ref14_check_v1 n _append0 a1 = some r → Con Tryz.prog G0 80 [.agg [.int .i64 _append0.Kind, .int .i64 _append0.N, aL cRef14Tree _append0.Kids], .int .i64 a1, .nilsl] (.tup [.int .i64 r.1, aL (cI .i64) r.2]) [] := by
  induction n with
  | zero => intro _append0 a1 r h; simp [ref14_check_v1] at h
  | succ n Hslf_ref14_check_v1 =>
   intro _append0 a1 r h
   refine con_of (T := TT0) tt_ok Tryz.func80 (c := _) (by unfold Tryz.f80; rfl) Tryz.ntmps80 (rs := [.tmp 6, .tmp 7]) (by rw [Tryz.results80]) (by unfold Tryz.f80; rfl) (by simp) ?_
   simp only [argsCh]
   have F := True.intro
   dsimp only [ref14_check_v1] at h
   refine rs0 ?_
   iterate 3 refine vp ?_
   refine vn ?_
   refine Wp.seq ?_
   refine rs0 ?_
   iterate 4 refine vp ?_
   refine sD h F (fun F h => ?_) fun F h => ?_
   refine vg ?_
   refine vg ?_
   refine vg ?_
   refine vp ?_
   refine vn ?_
   refine sD h F (fun F h => ?_) fun F h => ?_
   refine cF ?_
   refine Wp.skip ?_
   refine sh ?_
   refine Wp.seq ?_
   refine rs0 ?_
   iterate 3 refine vp ?_
   refine vn ?_
   refine sB h F (fun F h => ?_) fun F h => ?_
   refine cF ?_
   refine Wp.skip ?_
   refine sh ?_
   refine Wp.seq ?_
   refine rs0 ?_
   iterate 3 refine vp ?_
   refine vn ?_
   refine sB h F (fun F h => ?_) fun F h => ?_
   refine cF ?_
   refine Wp.skip ?_
   refine sh ?_
   refine Wp.seq ?_
   refine rs0 ?_
   iterate 4 refine vp ?_
   refine vn ?_
   refine sD h F (fun F h => ?_) fun F h => ?_
   refine cF ?_
   refine Wp.skip ?_
   refine sh ?_
   refine jn (fun _ : Unit => { ch := [(1, .int .i64 a1), (2, .nilsl), (3, .hptr 0 0 0)], hp := [.var [.int .i64 _append0.Kind, .int .i64 _append0.N, aL cRef14Tree _append0.Kids]], base := 0, n := 109, cond := True, gl := G0 }) (fun x => ref14_check_v1_J2 n _append0 a1 = some r) ?_ ?_
   clear h
   rintro _ h
   dsimp only [ref14_check_v1_J2] at h
   try dsimp only
   refine Wp.seq ?_
   refine rs0 ?_
   refine vp ?_
   refine vn ?_
   refine Wp.block ?_
   refine lp [some 0, none] (fun x : Int × (List Int) => { ch := [(1, .int .i64 a1), (2, .sl 1 0 x.2.length), (3, .hptr 0 0 0), (10, .int .i64 x.1)], hp := [.var [.int .i64 _append0.Kind, .int .i64 _append0.N, aL cRef14Tree _append0.Kids], .arr 1 x.2.length (rw (x.2.map (cI .i64)))], base := 0, n := 109, cond := True, gl := G0 }) (fun m x => ref14_check_v1_L3 n _append0 a1 m x.1 x.2 = some r) n (0, []) h ?_
   rintro rec_n3 ⟨p5717, p5718⟩ h
   dsimp only [ref14_check_v1_L3] at h
   try dsimp only
   refine Wp.seq ?_
   refine rs0 ?_
   iterate 5 refine vp ?_
   refine vn ?_
   refine sD h F (fun F h => ?_) fun F h => ?_
   refine cF ?_
   refine Wp.exit ?_
   refine sh ?_
   refine rs0 ?_
   iterate 3 refine vp ?_
   refine vn ?_
   cases h
   exact Wp.ret en0
   refine cT ?_
   refine Wp.skip ?_
   refine sh ?_
   refine Wp.seq ?_
   refine Wp.block ?_
   refine rs (fun d => Nat.beq d 100) ?_
   iterate 3 refine vp ?_
   refine eI h F fun x5723 F h => ?_
   iterate 4 refine vp ?_
   obtain ⟨⟨r5725, q5726⟩, hr5724, h⟩ := obind h
   dsimp only at h
   refine vh [1] (con_ref14_check_o1_v1 hr5724) ?_
   iterate 5 refine vp ?_
   refine vn ?_
   refine Wp.seq ?_
   refine rs0 ?_
   iterate 2 refine vp ?_
   refine vn ?_
   refine sB h F (fun F h => ?_) fun F h => ?_
   refine cF ?_
   refine Wp.skip ?_
   refine sh ?_
   refine rg0 ?_
   iterate 2 refine vp ?_
   refine vn ?_
   refine sh ?_
   refine rg0 ?_
   iterate 3 refine vp ?_
   refine vn ?_
   exact nx [some 0, some 2] ((IntKind.i64.wrap (p5717 + 1)), q5726) h
   refine cT ?_
   refine rs0 ?_
   iterate 4 refine vp ?_
   refine vn ?_
   cases h
   exact Wp.ret en0
   refine rs0 ?_
   refine vp ?_
   refine vn ?_
   refine Wp.block ?_
   refine lp [some 0] (fun p5728 : Int => { ch := [(1, .int .i64 a1), (2, .nilsl), (3, .hptr 0 0 0), (9, .int .i64 p5728)], hp := [.var [.int .i64 _append0.Kind, .int .i64 _append0.N, aL cRef14Tree _append0.Kids]], base := 0, n := 109, cond := True, gl := G0 }) (fun m x => ref14_check_v1_L4 n _append0 a1 m x = some r) n 0 h ?_
   rintro rec_n4 p5728 h
   dsimp only [ref14_check_v1_L4] at h
   try dsimp only
   refine Wp.seq ?_
   refine rs0 ?_
   iterate 5 refine vp ?_
   refine vn ?_
   refine sD h F (fun F h => ?_) fun F h => ?_
   refine cF ?_
   refine Wp.exit ?_
   exact nx [some 0] () h
   refine cT ?_
   refine Wp.skip ?_
   refine sh ?_
   refine Wp.seq ?_
   refine Wp.block ?_
   refine dw (fun _ => false) [0] ?_
   refine du 3 ?_
   refine eI h F fun x5730 F h => ?_
   refine du 6 ?_
   refine dn ?_
   refine sB h F (fun F h => ?_) fun F h => ?_
   refine cF ?_
   refine Wp.skip ?_
   refine sh ?_
   refine rg0 ?_
   iterate 3 refine vp ?_
   refine vn ?_
   exact nx [some 0] (IntKind.i64.wrap (p5728 + 1)) h
   refine cT ?_
   refine rs0 ?_
   iterate 3 refine vp ?_
   refine vn ?_
   cases h
   exact Wp.ret en0
   refine cT ?_
   refine rs0 ?_
   iterate 3 refine vp ?_
   refine vn ?_
   cases h
   exact Wp.ret en0
   refine cT ?_
   refine rs0 ?_
   iterate 3 refine vp ?_
   refine vn ?_
   cases h
   exact Wp.ret en0
   refine cT ?_
   refine Wp.seq ?_
   refine rs0 ?_
   iterate 4 refine vp ?_
   refine vn ?_
   refine sD h F (fun F h => ?_) fun F h => ?_
   refine cF ?_
   refine Wp.skip ?_
   refine sh ?_
   refine Wp.seq ?_
   refine rs0 ?_
   iterate 4 refine vp ?_
   refine sD h F (fun F h => ?_) fun F h => ?_
   refine vg ?_
   refine vg ?_
   refine vg ?_
   refine vg ?_
   refine vp ?_
   refine vn ?_
   refine sD h F (fun F h => ?_) fun F h => ?_
   refine cF ?_
   refine Wp.skip ?_
   refine sh ?_
   refine Wp.seq ?_
   refine rs0 ?_
   refine vp ?_
   refine vn ?_
   refine Wp.block ?_
   refine lp [some 0] (fun _ : Unit => { ch := [(2, .nilsl), (3, .hptr 0 0 0), (8, .int .i64 0)], hp := [.var [.int .i64 _append0.Kind, .int .i64 _append0.N, aL cRef14Tree _append0.Kids]], base := 0, n := 109, cond := True, gl := G0 }) (fun m x => ref14_check_v1_L1 _append0 m  = some r) n () h ?_
   rintro rec_n1 _ h
   dsimp only [ref14_check_v1_L1] at h
   try dsimp only
   refine Wp.seq ?_
   refine rs0 ?_
   iterate 4 refine vp ?_
   refine vn ?_
   refine sD h F (fun F h => ?_) fun F h => ?_
   refine cF ?_
   refine Wp.exit ?_
   refine sh ?_
   refine rs0 ?_
   iterate 4 refine vp ?_
   refine gd h F fun F h => ?_
   iterate 3 refine vp ?_
   refine vn ?_
   cases h
   exact Wp.ret en0
   refine cT ?_
   refine Wp.skip ?_
   refine sh ?_
   refine Wp.seq ?_
   refine Wp.block ?_
   refine dw (fun _ => false) [0] ?_
   refine du 2 ?_
   cases h
   refine cT ?_
   refine rs0 ?_
   iterate 3 refine vp ?_
   refine vn ?_
   cases h
   exact Wp.ret en0
   refine vs ?_
   refine vs ?_
   refine vs ?_
   refine vs ?_
   refine vp ?_
   refine vn ?_
   refine cT ?_
   refine rs0 ?_
   iterate 3 refine vp ?_
   refine vn ?_
   cases h
   exact Wp.ret en0
   refine cT ?_
   refine rs0 ?_
   iterate 3 refine vp ?_
   refine vn ?_
   cases h
   exact Wp.ret en0
   refine cT ?_
   refine rs0 ?_
   iterate 3 refine vp ?_
   refine vn ?_
   cases h
   exact Wp.ret en0
   refine vs ?_
   refine vs ?_
   refine vs ?_
   refine vp ?_
   refine vn ?_
   refine cT ?_
   refine rs0 ?_
   iterate 3 refine vp ?_
   refine vn ?_
   cases h
   exact Wp.ret en0

theorem con_reduce_parallel_v1 {n : Nat} {l0 : List ReduceEdge} {r : Bool × (List ReduceEdge)} (h : reduce_parallel_v1 n l0 = some r) : ConH Tryz.prog G0 39 [.sl 0 0 l0.length] [.arr 5 l0.length (rw (l0.map cReduceEdge))] (.tup [.sl 0 0 r.2.length, .bool r.1]) [.arr 5 r.2.length (rw (r.2.map cReduceEdge))] := by
  refine conH_of (T := TT0) tt_ok Tryz.func39 (c := _) (by unfold Tryz.f39; rfl) Tryz.ntmps39 (rs := [.tmp 2, .tmp 3]) (by rw [Tryz.results39]) (by unfold Tryz.f39; rfl) (by simp) (k := 1) rfl rfl ?_
  try simp only [argsCh]
  have F := True.intro
  dsimp only [reduce_parallel_v1] at h
  refine rs0 ?_
  iterate 2 refine vp ?_
  refine vn ?_
  refine Wp.seq ?_
  refine rs0 ?_
  iterate 3 refine vp ?_
  refine vn ?_
  refine Wp.block ?_
  refine lp [some 0] (fun p4116 : Int => { ch := [(0, .sl 0 0 l0.length), (7, .sl 0 0 l0.length), (8, .int .i64 (l0.length : Int)), (9, .int .i64 p4116)], hp := [.arr 5 l0.length (rw (l0.map cReduceEdge))], base := 1, n := 49, cond := True, gl := G0 }) (fun m x => reduce_parallel_v1_L1 n l0 m x = some r) n 0 h ?_
  rintro rec_n1 p4116 h
  dsimp only [reduce_parallel_v1_L1] at h
  try dsimp only
  refine rs0 ?_
  refine vp ?_
  refine vn ?_
  refine Wp.seq ?_
  refine sD h F (fun F h => ?_) fun F h => ?_
  refine cF ?_
  refine Wp.exit ?_
  refine sh ?_
  refine rs0 ?_
  iterate 3 refine vp ?_
  refine vn ?_
  cases h
  exact Wp.ret (enH [some 0])
  refine cT ?_
  refine Wp.skip ?_
  refine sh ?_
  refine Wp.seq ?_
  refine Wp.block ?_
  refine rs0 ?_
  refine vp ?_
  refine eI h F fun x4126 F h => ?_
  iterate 5 refine vp ?_
  refine vn ?_
  refine rs0 ?_
  iterate 3 refine vp ?_
  refine gd h F fun F h => ?_
  iterate 2 refine vp ?_
  obtain ⟨r4128, hr4127, h⟩ := obind h
  refine vh [0, 1] (con_slices_IndexFunc_reduce_edge_c66_v1 hr4127) ?_
  refine vp ?_
  refine vn ?_
  refine rs0 ?_
  iterate 2 refine vp ?_
  refine vn ?_
  refine sD h F (fun F h => ?_) fun F h => ?_
  refine cF ?_
  refine Wp.skip ?_
  refine sh ?_
  refine rg0 ?_
  iterate 2 refine vp ?_
  refine vn ?_
  exact nx [some 0] (IntKind.i64.wrap (p4116 + 1)) h
  refine cT ?_
  refine dw (fun _ => false) [0, 1] ?_
  refine du 9 ?_
  refine eI h F fun x4129 F h => ?_
  refine du 3 ?_
  obtain ⟨r4131, hr4130, h⟩ := obind h
  refine dc (con_reduce_join hr4130) ?_
  refine du 2 ?_
  refine db ?_
  refine nm cReduceEdge h F fun l4132 F h => ?_
  refine dn ?_
  refine rs0 ?_
  iterate 9 refine vp ?_
  obtain ⟨q4134, hr4133, h⟩ := obind h
  refine vh [0] (con_slices_Delete_reduce_edge_v1 hr4133) ?_
  iterate 2 refine vp ?_
  refine vn ?_
  cases h
  exact Wp.ret (enH [some 0])

theorem con_reduce_sorted_1 {n : Nat} {a0 : TreeTree} {b1 : TreeTree} {r : Int} (h : reduce_sorted_1 n a0 b1 = some r) : Con Tryz.prog G0 70 [.agg [.int .i64 a0.Kind, .int .i64 a0.N, aL cTreeTree a0.Kids], .agg [.int .i64 b1.Kind, .int .i64 b1.N, aL cTreeTree b1.Kids]] (.int .i64 r) [] := by
  refine con_of (T := TT0) tt_ok Tryz.func70 (c := _) (by unfold Tryz.f70; rfl) Tryz.ntmps70 (rs := [.tmp 4]) (by rw [Tryz.results70]) (by unfold Tryz.f70; rfl) (by simp) ?_
  simp only [argsCh]
  have F := True.intro
  dsimp only [reduce_sorted_1] at h
  refine rs0 ?_
  iterate 3 refine vp ?_
  refine vn ?_
  refine dw (fun _ => false) [0, 1] ?_
  refine du 1 ?_
  obtain ⟨r4427, hr4426, h⟩ := obind h
  refine dc (con_tree_Leaves _ hr4426) ?_
  obtain ⟨r4435, hr4434, h⟩ := obind h
  refine dc (con_slices_Min_int hr4434) ?_
  refine du 1 ?_
  obtain ⟨r4437, hr4436, h⟩ := obind h
  refine dc (con_tree_Leaves _ hr4436) ?_
  obtain ⟨r4439, hr4438, h⟩ := obind h
  refine dc (con_slices_Min_int hr4438) ?_
  obtain ⟨r4445, hr4444, h⟩ := obind h
  refine dc (con_cmp_Compare_int hr4444) ?_
  refine du 1 ?_
  refine dn ?_
  cases h
  exact Wp.ret en0

theorem con_slices_ContainsFunc_tree_Tree_c92 {n : Nat} {s0 : List TreeTree} {b0 : TreeTree} {r : Bool} (h : slices_ContainsFunc_tree_Tree_c92 n s0 b0 = some r) : ConH Tryz.prog G0 91 [aL cTreeTree s0, .clos 92 [] [.hptr 0 0 0]] [.var [.int .i64 b0.Kind, .int .i64 b0.N, aL cTreeTree b0.Kids]] (.bool r) [.var [.int .i64 b0.Kind, .int .i64 b0.N, aL cTreeTree b0.Kids]] := by
  refine conH_of (T := TT0) tt_ok Tryz.func91 (c := _) (by unfold Tryz.f91; rfl) Tryz.ntmps91 (rs := [.tmp 4]) (by rw [Tryz.results91]) (by unfold Tryz.f91; rfl) (by simp) (k := 1) rfl rfl ?_
  try simp only [argsCh]
  have F := True.intro
  dsimp only [slices_ContainsFunc_tree_Tree_c92] at h
  refine rs0 ?_
  refine vp ?_
  refine vn ?_
  refine rs0 ?_
  iterate 2 refine vp ?_
  obtain ⟨r4737, hr4736, h⟩ := obind h
  refine vh [0] (con_slices_IndexFunc_tree_Tree_c92 hr4736) ?_
  iterate 2 refine vp ?_
  refine vn ?_
  cases h
  exact Wp.ret (enH [some 0])

theorem con_graph_Outgoing {n : Nat} {r_0 : ApiRung} {node1 : Str} {r : (List Int)} (h : graph_Outgoing n r_0 node1 = some r) : Con Tryz.prog G0 137 [.agg (cApiRung r_0), .str node1] (aL (cI .i64) r) [] := by
  refine con_of (T := TT0) tt_ok Tryz.func137 (c := _) (by unfold Tryz.f137; rfl) Tryz.ntmps137 (rs := [.tmp 4]) (by rw [Tryz.results137]) (by unfold Tryz.f137; rfl) (by simp) ?_
  simp only [argsCh]
  have F := True.intro
  dsimp only [graph_Outgoing] at h
  refine rs0 ?_
  iterate 3 refine vp ?_
  refine vn ?_
  refine rs0 ?_
  iterate 2 refine vp ?_
  obtain ⟨r3481, hr3480, h⟩ := obind h
  refine vh [1] (con_graph_numbers_c168 hr3480) ?_
  refine vp ?_
  refine vn ?_
  cases h
  exact Wp.ret en0

end Go.Proofs.YtaebdeidbibfkaaGreatDoor
