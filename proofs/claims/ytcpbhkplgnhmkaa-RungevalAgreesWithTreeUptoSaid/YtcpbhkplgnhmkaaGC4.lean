/- Contracts: models of functions are right. No law is proved here. -/
import Derived.Test.YtcpbhkplgnhmkaaGMod
import Derived.Test.YtcpbhkplgnhmkaaTak
import Derived.Test.YtcpbhkplgnhmkaaLawM11
import Derived.Test.YtcpbhkplgnhmkaaGC0
import Derived.Test.YtcpbhkplgnhmkaaGC2
import Derived.Test.YtcpbhkplgnhmkaaGC3
namespace Go.Proofs.Ytcpbhkplgnhmkaa
open Go.Av Go.G
attribute [-simp] Int.natCast_tdiv_eq_ediv
attribute [local simp] runf guardA opf St.ev Go.Av.look St.setd constAV constAV0 opBin opLen intBin St.need lookT TT0 tab resA resOne resAll blt_dec ble_dec beq_dec isPure
attribute [local simp] opMakeSlice opCopy opIndexAddr opLoad opStore St.mem St.rows opUn calleeA toArgs toArg toArg0 toArgs0 shift shift0 shift1 splice cellsOf isFree ofCells TS.isAgg isCell strBin opConvert
attribute [local simp] opSlice3 opClear fz_clear opBuildSlice fillA opAppend eqC eqA cksB ckB St.newBox runI valKind withinB readsHp refsD refs noSl opFieldAddr opBuild opMax opMin placeOf Op.operands Call.operands opIndex opExtract opSlice opField partA
attribute [local simp] loA hiA lenA opMakeMap opLookup opMapUpdate keyOk findA_int findA_str findA_bool putA_strB putA_strI putA_strS putA_intB putA_intI putA_intS putA_boolI putA_boolB byteRow_rw bytesOf_rw opBytesStr mAV_length mAV_nil cA1 cA2 cA3 cA4 opNilCheck opMakeFunc opRange
attribute [local simp] aL cI cB cS cL rw_map fz_rw fz_const dropRow_rw fz_append fz_set fz_copy fz_rows rowLen_rw rowsLen_nil rowsLen_cons rowsLen_append rowsLen_map rowsLen_dm rowsLen_tm rowsLen_take rowsLen_drop rowsLen_replicate take_map_len take_map_le drop_map_len take_drop_len chunks isScalar isScalar0
attribute [local simp] putBack putAt objMap mapC mapA mapT map0 bid rid memB passed closedB argsH argH argH0 argsH0 objIds ids0 idsC isLocT isLocA isLocC isLoc0 LocObj
attribute [local congr] bind_congr1 map_congr1 cond_congr1
attribute [local simp] cApiAddr cApiContact cApiCoil cApiRung cApiState cReducePair cReduceEdge cTreeTree_eq TreeTree_Kind_mk TreeTree_N_mk TreeTree_Kids_mk eta_TreeTree
variable [Drawn]
set_option maxHeartbeats 4000000
set_option linter.unusedSectionVars false
set_option maxRecDepth 20000
set_option linter.unusedSimpArgs false
set_option linter.unusedVariables false

theorem con_reduce_series_v1 {n : Nat} {l0 : List ReduceEdge} {r : Bool × (List ReduceEdge)} (h : reduce_series_v1 n l0 = some r) : ConH Try.prog G0 16 [.sl 0 0 l0.length] [.arr 5 l0.length (rw (l0.map cReduceEdge))] (.tup [.sl 0 0 r.2.length, .bool r.1]) [.arr 5 r.2.length (rw (r.2.map cReduceEdge))] := by
  refine conH_of (T := TT0) tt_ok Try.func16 (c := _) (by unfold Try.f16; rfl) Try.ntmps16 (rs := [.tmp 2, .tmp 3]) (by rw [Try.results16]) (by unfold Try.f16; rfl) (by simp) (k := 1) rfl rfl ?_
  try simp only [argsCh]
  have F := True.intro
  dsimp only [reduce_series_v1] at h
  refine rs0 ?_
  iterate 2 refine vp ?_
  refine vn ?_
  refine Wp.seq ?_
  refine rs0 ?_
  iterate 3 refine vp ?_
  refine vn ?_
  refine Wp.block ?_
  refine lp [some 0] (fun p5275 : Int => { ch := [(0, .sl 0 0 l0.length), (11, .sl 0 0 l0.length), (12, .int .i64 (l0.length : Int)), (13, .int .i64 p5275)], hp := [.arr 5 l0.length (rw (l0.map cReduceEdge))], base := 1, n := 90, cond := True, gl := G0 }) (fun m x => reduce_series_v1_L1 n l0 m x = some r) n 0 h ?_
  rintro rec_n1 p5275 h
  dsimp only [reduce_series_v1_L1] at h
  try dsimp only
  refine rs0 ?_
  refine vp ?_
  refine vn ?_
  refine Wp.seq ?_
  refine sD h F (fun F h => ?_) fun F h => ?_
  refine cF ?_
  refine Wp.exit ?_
  refine sh ?_
  refine rs0 ?_
  iterate 3 refine vp ?_
  refine vn ?_
  cases h
  exact Wp.ret (enH [some 0])
  refine cT ?_
  refine Wp.skip ?_
  refine sh ?_
  refine Wp.seq ?_
  refine Wp.block ?_
  refine rs0 ?_
  refine vp ?_
  refine eI h F fun x5310 F h => ?_
  iterate 5 refine vp ?_
  refine vn ?_
  refine Wp.seq ?_
  refine rs0 ?_
  iterate 5 refine vp ?_
  refine sE h F (fun _ F h => ?_) fun _ F h => ?_
  refine vg ?_
  refine vg ?_
  refine vg ?_
  refine vg ?_
  refine vp ?_
  refine vn ?_
  refine sE h F (fun _ F h => ?_) fun _ F h => ?_
  refine cF ?_
  refine Wp.skip ?_
  refine sh ?_
  refine rs0 ?_
  iterate 3 refine vp ?_
  refine vn ?_
  refine jn (fun x : Int × Int × Int => { ch := [(0, .sl 0 0 l0.length), (4, .int .i64 p5275), (5, .hptr 1 0 0), (6, .int .i64 x.2.2), (7, .int .i64 x.1), (8, .int .i64 x.2.1), (11, .sl 0 0 l0.length), (12, .int .i64 (l0.length : Int)), (13, .int .i64 p5275), (23, .hptr 1 0 0), (24, .hptr 1 0 1), (25, .str x5310.pair.to_), (26, .bool (decide (x5310.pair.to_ = (⟨#[82]⟩ : Str))))], hp := [.arr 5 l0.length (rw (l0.map cReduceEdge)), .var [.str x5310.pair.from_, .str x5310.pair.to_, .int .i64 x5310.t_.Kind, .int .i64 x5310.t_.N, aL cTreeTree x5310.t_.Kids]], base := 1, n := 90, cond := True, gl := G0 }) (fun x => reduce_series_v1_J2 n l0 p5275 (reduce_series_v1_L1 n l0 rec_n1) x5310 x.1 x.2.1 x.2.2 = some r) ?_ ?_
  clear h
  rintro ⟨p5323, p5324, p5325⟩ h
  dsimp only [reduce_series_v1_J2] at h
  try dsimp only
  refine rs0 ?_
  iterate 3 refine vp ?_
  refine sB h F (fun F h => ?_) fun F h => ?_
  refine vs ?_
  refine vs ?_
  refine vp ?_
  refine vn ?_
  refine cF ?_
  refine Wp.skip ?_
  refine sh ?_
  refine rg0 ?_
  iterate 2 refine vp ?_
  refine vn ?_
  exact nx [some 0] (IntKind.i64.wrap (p5275 + 1)) h
  refine vg ?_
  refine vg ?_
  refine vp ?_
  refine vn ?_
  refine sB h F (fun F h => ?_) fun F h => ?_
  refine cF ?_
  refine Wp.skip ?_
  refine sh ?_
  refine rg0 ?_
  iterate 2 refine vp ?_
  refine vn ?_
  exact nx [some 0] (IntKind.i64.wrap (p5275 + 1)) h
  refine cT ?_
  refine dw (fun _ => false) [0, 1] ?_
  refine du 7 ?_
  refine eI h F fun x5326 F h => ?_
  refine du 8 ?_
  refine du 4 ?_
  obtain ⟨r5328, hr5327, h⟩ := obind h
  refine dc (con_reduce_join hr5327) ?_
  refine du 2 ?_
  refine db ?_
  refine nm cReduceEdge h F fun l5329 F h => ?_
  refine dn ?_
  refine rs0 ?_
  iterate 4 refine vp ?_
  obtain ⟨q5331, hr5330, h⟩ := obind h
  refine vh [0] (con_slices_Delete_reduce_edge_v1 hr5330) ?_
  iterate 2 refine vp ?_
  refine vn ?_
  cases h
  exact Wp.ret (enH [some 0])
  refine rs0 ?_
  iterate 3 refine vp ?_
  refine vn ?_
  refine Wp.block ?_
  refine lp [some 0, some 1] (fun x : Int × Int × Int × Int => { ch := [(0, .sl 0 0 l0.length), (4, .int .i64 p5275), (5, .hptr 1 0 0), (6, .int .i64 x.2.2.2), (7, .int .i64 x.2.1), (8, .int .i64 x.2.2.1), (11, .sl 0 0 l0.length), (12, .int .i64 (l0.length : Int)), (13, .int .i64 p5275), (23, .hptr 1 0 0), (24, .hptr 1 0 1), (25, .str x5310.pair.to_), (26, .bool (decide (x5310.pair.to_ = (⟨#[82]⟩ : Str)))), (28, .sl 0 0 l0.length), (29, .int .i64 (l0.length : Int)), (30, .int .i64 x.1)], hp := [.arr 5 l0.length (rw (l0.map cReduceEdge)), .var [.str x5310.pair.from_, .str x5310.pair.to_, .int .i64 x5310.t_.Kind, .int .i64 x5310.t_.N, aL cTreeTree x5310.t_.Kids]], base := 1, n := 90, cond := True, gl := G0 }) (fun m x => reduce_series_v1_L3 n l0 p5275 (reduce_series_v1_L1 n l0 rec_n1) x5310 m x.1 x.2.1 x.2.2.1 x.2.2.2 = some r) n (0, 0, 0, 0) h ?_
  rintro rec_n3 ⟨p5334, p5335, p5336, p5339⟩ h
  dsimp only [reduce_series_v1_L3] at h
  try dsimp only
  refine rs0 ?_
  refine vp ?_
  refine vn ?_
  refine Wp.seq ?_
  refine sD h F (fun F h => ?_) fun F h => ?_
  refine cF ?_
  refine Wp.exit ?_
  exact nx [some 0, some 1] (p5335, p5336, p5339) h
  refine cT ?_
  refine Wp.skip ?_
  refine sh ?_
  refine Wp.seq ?_
  refine Wp.block ?_
  refine rs0 ?_
  refine vp ?_
  refine eI h F fun x5342 F h => ?_
  iterate 5 refine vp ?_
  refine vn ?_
  refine jn (fun p5343 : Int => { ch := [(0, .sl 0 0 l0.length), (4, .int .i64 p5275), (5, .hptr 2 0 0), (6, .int .i64 p5339), (7, .int .i64 p5343), (8, .int .i64 p5336), (9, .int .i64 p5334), (10, .hptr 1 0 0), (11, .sl 0 0 l0.length), (12, .int .i64 (l0.length : Int)), (13, .int .i64 p5275), (23, .hptr 2 0 0), (24, .hptr 2 0 1), (25, .str x5310.pair.to_), (26, .bool (decide (x5310.pair.to_ = (⟨#[82]⟩ : Str)))), (28, .sl 0 0 l0.length), (29, .int .i64 (l0.length : Int)), (30, .int .i64 p5334)], hp := [.arr 5 l0.length (rw (l0.map cReduceEdge)), .var [.str x5342.pair.from_, .str x5342.pair.to_, .int .i64 x5342.t_.Kind, .int .i64 x5342.t_.N, aL cTreeTree x5342.t_.Kids], .var [.str x5310.pair.from_, .str x5310.pair.to_, .int .i64 x5310.t_.Kind, .int .i64 x5310.t_.N, aL cTreeTree x5310.t_.Kids]], base := 1, n := 90, cond := True, gl := G0 }) (fun x => reduce_series_v1_J4 x5310 p5334 p5336 p5339 (reduce_series_v1_L3 n l0 p5275 (reduce_series_v1_L1 n l0 rec_n1) x5310 rec_n3) x5342 x = some r) ?_ ?_
  clear h
  rintro p5343 h
  dsimp only [reduce_series_v1_J4] at h
  try dsimp only
  refine rs0 ?_
  iterate 7 refine vp ?_
  refine vn ?_
  refine sE h F (fun _ F h => ?_) fun _ F h => ?_
  refine cF ?_
  refine Wp.skip ?_
  refine sh ?_
  refine rg0 ?_
  iterate 2 refine vp ?_
  refine vn ?_
  exact nx [some 0, some 2] ((IntKind.i64.wrap (p5334 + 1)), p5343, p5336, p5339) h
  refine cT ?_
  refine rs0 ?_
  iterate 3 refine vp ?_
  refine vn ?_
  refine rg0 ?_
  iterate 2 refine vp ?_
  refine vn ?_
  refine sh ?_
  refine rg0 ?_
  iterate 2 refine vp ?_
  refine vn ?_
  exact nx [some 0, some 2] ((IntKind.i64.wrap (p5334 + 1)), p5343, (IntKind.i64.wrap (p5336 + 1)), p5334) h
  refine rs0 ?_
  iterate 7 refine vp ?_
  refine vn ?_
  refine sE h F (fun _ F h => ?_) fun _ F h => ?_
  refine cF ?_
  refine Wp.skip ?_
  exact nx [some 0, some 2, some 1] p5335 h
  refine cT ?_
  refine rg0 ?_
  iterate 3 refine vp ?_
  refine vn ?_
  exact nx [some 0, some 2, some 1] (IntKind.i64.wrap (p5335 + 1)) h
  refine cT ?_
  refine Wp.exit ?_
  refine sh ?_
  refine rg0 ?_
  iterate 2 refine vp ?_
  refine vn ?_
  exact nx [some 0] (IntKind.i64.wrap (p5275 + 1)) h
  refine vs ?_
  refine vs ?_
  refine vs ?_
  refine vs ?_
  refine vp ?_
  refine vn ?_
  refine cT ?_
  refine Wp.exit ?_
  refine sh ?_
  refine rg0 ?_
  iterate 2 refine vp ?_
  refine vn ?_
  exact nx [some 0] (IntKind.i64.wrap (p5275 + 1)) h

theorem con_slices_IndexFunc_tree_Tree_c59 {n : Nat} {s0 : List TreeTree} {b0 : TreeTree} {r : Int} (h : slices_IndexFunc_tree_Tree_c59 n s0 b0 = some r) : ConH Try.prog G0 60 [aL cTreeTree s0, .clos 59 [] [.hptr 0 0 0]] [.var [.int .i64 b0.Kind, .int .i64 b0.N, aL cTreeTree b0.Kids]] (.int .i64 r) [.var [.int .i64 b0.Kind, .int .i64 b0.N, aL cTreeTree b0.Kids]] := by
  refine conH_of (T := TT0) tt_ok Try.func60 (c := _) (by unfold Try.f60; rfl) Try.ntmps60 (rs := [.tmp 4]) (by rw [Try.results60]) (by unfold Try.f60; rfl) (by simp) (k := 1) rfl rfl ?_
  try simp only [argsCh]
  have F := True.intro
  dsimp only [slices_IndexFunc_tree_Tree_c59] at h
  refine rs0 ?_
  refine vp ?_
  refine vn ?_
  refine Wp.seq ?_
  refine rs0 ?_
  iterate 3 refine vp ?_
  refine vn ?_
  refine Wp.block ?_
  refine lp [some 0] (fun p5497 : Int => { ch := [(0, aL cTreeTree s0), (1, .clos 59 [] [.hptr 0 0 0]), (7, .int .i64 (s0.length : Int)), (8, .int .i64 p5497)], hp := [.var [.int .i64 b0.Kind, .int .i64 b0.N, aL cTreeTree b0.Kids]], base := 1, n := 19, cond := True, gl := G0 }) (fun m x => slices_IndexFunc_tree_Tree_c59_L1 n s0 b0 m x = some r) n 0 h ?_
  rintro rec_n1 p5497 h
  dsimp only [slices_IndexFunc_tree_Tree_c59_L1] at h
  try dsimp only
  refine rs0 ?_
  refine vp ?_
  refine vn ?_
  refine Wp.seq ?_
  refine sD h F (fun F h => ?_) fun F h => ?_
  refine cF ?_
  refine Wp.exit ?_
  refine sh ?_
  refine rs0 ?_
  refine vp ?_
  refine vn ?_
  cases h
  exact Wp.ret (enH [some 0])
  refine cT ?_
  refine Wp.skip ?_
  refine sh ?_
  refine Wp.seq ?_
  refine Wp.block ?_
  refine rs0 ?_
  iterate 2 refine vp ?_
  refine vn ?_
  refine rs0 ?_
  iterate 3 refine vp ?_
  refine eI h F fun x5501 F h => ?_
  iterate 2 refine vp ?_
  obtain ⟨r5503, hr5502, h⟩ := obind h
  refine vh [0] (con_tree_Tree_check_1 hr5502) ?_
  refine vn ?_
  refine sB h F (fun F h => ?_) fun F h => ?_
  refine cF ?_
  refine Wp.skip ?_
  refine sh ?_
  refine rg0 ?_
  iterate 2 refine vp ?_
  refine vn ?_
  exact nx [some 0] (IntKind.i64.wrap (p5497 + 1)) h
  refine cT ?_
  refine rs0 ?_
  iterate 2 refine vp ?_
  refine vn ?_
  cases h
  exact Wp.ret (enH [some 0])

theorem con_tree_Tree_eval_2_c36 {slf_tree_Tree_eval : TreeTree → (List Bool) → Option (Bool)} (Hslf_tree_Tree_eval : ∀ {t0 : TreeTree} {on1 : List Bool} {r : Bool}, slf_tree_Tree_eval t0 on1 = some r → Con Try.prog G0 19 [.agg [.int .i64 t0.Kind, .int .i64 t0.N, aL cTreeTree t0.Kids], aL cB on1] (.bool r) []) {n : Nat} {k0 : TreeTree} {b1 : List Bool} {r : Bool} (h : tree_Tree_eval_2_c36 slf_tree_Tree_eval n k0 b1 = some r) : ConH Try.prog G0 38 [.agg [.int .i64 k0.Kind, .int .i64 k0.N, aL cTreeTree k0.Kids], .hptr 0 0 0] [.var [.clos 36 [] [.hptr 1 0 0]], .var [aL cB b1]] (.bool r) [.var [.clos 36 [] [.hptr 1 0 0]], .var [aL cB b1]] := by
  refine conH_of (T := TT0) tt_ok Try.func38 (c := _) (by unfold Try.f38; rfl) Try.ntmps38 (rs := [.tmp 3]) (by rw [Try.results38]) (by unfold Try.f38; rfl) (by simp) (k := 2) rfl rfl ?_
  try simp only [argsCh]
  have F := True.intro
  dsimp only [tree_Tree_eval_2_c36] at h
  refine rs0 ?_
  iterate 2 refine vp ?_
  refine vn ?_
  refine rs0 ?_
  iterate 2 refine vp ?_
  obtain ⟨r5577, hr5576, h⟩ := obind h
  refine vh [1] (con_tree_Tree_eval_1 Hslf_tree_Tree_eval hr5576) ?_
  iterate 2 refine vp ?_
  refine vn ?_
  cases h
  exact Wp.ret (enH [some 0, some 1])

theorem con_slices_Contains_string {n : Nat} {s0 : List Str} {v1 : Str} {r : Bool} (h : slices_Contains_string n s0 v1 = some r) : Con Try.prog G0 7 [aL cS s0, .str v1] (.bool r) [] := by
  refine con_of (T := TT0) tt_ok Try.func7 (c := _) (by unfold Try.f7; rfl) Try.ntmps7 (rs := [.tmp 4]) (by rw [Try.results7]) (by unfold Try.f7; rfl) (by simp) ?_
  simp only [argsCh]
  have F := True.intro
  dsimp only [slices_Contains_string] at h
  refine rs0 ?_
  refine vp ?_
  refine vn ?_
  refine rs0 ?_
  iterate 2 refine vp ?_
  obtain ⟨r1066, hr1065, h⟩ := obind h
  refine vc (con_slices_Index_string hr1065) ?_
  iterate 2 refine vp ?_
  refine vn ?_
  cases h
  exact Wp.ret en0

end Go.Proofs.Ytcpbhkplgnhmkaa
