/- Contracts: models of functions are right. No law is proved here. -/
import Derived.Test.YtaebdeidbibfkaaGreatDoorWGMod
import Derived.Test.YtaebdeidbibfkaaGreatDoorWTaw
import Derived.Test.YtaebdeidbibfkaaGreatDoorWSoz
import Derived.Test.YtaebdeidbibfkaaGreatDoorWShw
import Derived.Test.YtaebdeidbibfkaaGreatDoorWGC0
import Derived.Test.YtaebdeidbibfkaaGreatDoorWGC2
import Derived.Test.YtaebdeidbibfkaaGreatDoorWGC3
import Derived.Test.YtaebdeidbibfkaaGreatDoorWGC4
namespace Go.Proofs.YtaebdeidbibfkaaGreatDoor
open Go.Av Go.G
attribute [-simp] Int.natCast_tdiv_eq_ediv
attribute [local simp] runf guardA opf St.ev Go.Av.look St.setd constAV constAV0 opBin opLen intBin St.need lookT TT0 tab resA resOne resAll blt_dec ble_dec beq_dec isPure
attribute [local simp] opMakeSlice opCopy opIndexAddr opLoad opStore St.mem St.rows opUn calleeA toArgs toArg toArg0 toArgs0 shift shift0 shift1 splice cellsOf isFree ofCells TS.isAgg isCell strBin opConvert
attribute [local simp] opSlice3 opClear fz_clear opBuildSlice fillA opAppend eqC eqA cksB ckB St.newBox runI valKind withinB readsHp refsD refs noSl opFieldAddr opBuild opMax opMin placeOf Op.operands Call.operands opIndex opExtract opSlice opField partA
attribute [local simp] loA hiA lenA opMakeMap opLookup opMapUpdate keyOk findA_int findA_str findA_bool putA_strB putA_strI putA_strS putA_intB putA_intI putA_intS putA_boolI putA_boolB byteRow_rwN bytesOf_rwN opBytesStr mAV_length mAV_nil cA1 cA2 cA3 cA4 opNilCheck opMakeFunc opRange
attribute [local simp] aL cI cB cS cL rw_map fz_rw fz_const dropRow_rw fz_append fz_set fz_copy fz_rows rowLen_rw rowsLen_nil rowsLen_cons rowsLen_append rowsLen_map rowsLen_dm rowsLen_tm rowsLen_take rowsLen_drop rowsLen_replicate take_map_len take_map_le drop_map_len take_drop_len chunks isScalar isScalar0
attribute [local simp] putBack putAt objMap mapC mapA mapT map0 bid rid memB passed closedB argsH argH argH0 argsH0 objIds ids0 idsC isLocT isLocA isLocC isLoc0 LocObj
attribute [local congr] bind_congr1 map_congr1 cond_congr1
attribute [local simp] cApiAddr cApiContact cApiCoil cApiRung cReducePair cReduceEdge cTreeTree_eq TreeTree_Kind_mk TreeTree_N_mk TreeTree_Kids_mk eta_TreeTree cRef14Tree_eq Ref14Tree_Kind_mk Ref14Tree_N_mk Ref14Tree_Kids_mk eta_Ref14Tree
variable [Drawn]
set_option maxHeartbeats 4000000
set_option linter.unusedSectionVars false
set_option maxRecDepth 20000
set_option linter.unusedSimpArgs false
set_option linter.unusedVariables false

theorem con_reduce_series_v1 {n : Nat} {l0 : List ReduceEdge} {r : Bool × (List ReduceEdge)} (h : reduce_series_v1 n l0 = some r) : ConH Tryz.prog G0 40 [.sl 0 0 l0.length] [.arr 5 l0.length (rw (l0.map cReduceEdge))] (.tup [.sl 0 0 r.2.length, .bool r.1]) [.arr 5 r.2.length (rw (r.2.map cReduceEdge))] := by
  refine conH_of (T := TT0) tt_ok Tryz.func40 (c := _) (by unfold Tryz.f40; rfl) Tryz.ntmps40 (rs := [.tmp 2, .tmp 3]) (by rw [Tryz.results40]) (by unfold Tryz.f40; rfl) (by simp) (k := 1) rfl rfl ?_
  try simp only [argsCh]
  have F := True.intro
  dsimp only [reduce_series_v1] at h
  refine rs0 ?_
  iterate 2 refine vp ?_
  refine vn ?_
  refine Wp.seq ?_
  refine rs0 ?_
  iterate 3 refine vp ?_
  refine vn ?_
  refine Wp.block ?_
  refine lp [some 0] (fun p4290 : Int => { ch := [(0, .sl 0 0 l0.length), (11, .sl 0 0 l0.length), (12, .int .i64 (l0.length : Int)), (13, .int .i64 p4290)], hp := [.arr 5 l0.length (rw (l0.map cReduceEdge))], base := 1, n := 90, cond := True, gl := G0 }) (fun m x => reduce_series_v1_L1 n l0 m x = some r) n 0 h ?_
  rintro rec_n1 p4290 h
  dsimp only [reduce_series_v1_L1] at h
  try dsimp only
  refine rs0 ?_
  refine vp ?_
  refine vn ?_
  refine Wp.seq ?_
  refine sD h F (fun F h => ?_) fun F h => ?_
  refine cF ?_
  refine Wp.exit ?_
  refine sh ?_
  refine rs0 ?_
  iterate 3 refine vp ?_
  refine vn ?_
  cases h
  exact Wp.ret (enH [some 0])
  refine cT ?_
  refine Wp.skip ?_
  refine sh ?_
  refine Wp.seq ?_
  refine Wp.block ?_
  refine rs0 ?_
  refine vp ?_
  refine eI h F fun x4325 F h => ?_
  iterate 5 refine vp ?_
  refine vn ?_
  refine Wp.seq ?_
  refine rs0 ?_
  iterate 5 refine vp ?_
  refine sE h F (fun _ F h => ?_) fun _ F h => ?_
  refine vg ?_
  refine vg ?_
  refine vg ?_
  refine vg ?_
  refine vp ?_
  refine vn ?_
  refine sE h F (fun _ F h => ?_) fun _ F h => ?_
  refine cF ?_
  refine Wp.skip ?_
  refine sh ?_
  refine rs0 ?_
  iterate 3 refine vp ?_
  refine vn ?_
  refine jn (fun x : Int × Int × Int => { ch := [(0, .sl 0 0 l0.length), (4, .int .i64 p4290), (5, .hptr 1 0 0), (6, .int .i64 x.2.2), (7, .int .i64 x.1), (8, .int .i64 x.2.1), (11, .sl 0 0 l0.length), (12, .int .i64 (l0.length : Int)), (13, .int .i64 p4290), (23, .hptr 1 0 0), (24, .hptr 1 0 1), (25, .str x4325.pair.to_), (26, .bool (decide (x4325.pair.to_ = (⟨#[82]⟩ : Str))))], hp := [.arr 5 l0.length (rw (l0.map cReduceEdge)), .var [.str x4325.pair.from_, .str x4325.pair.to_, .int .i64 x4325.t_.Kind, .int .i64 x4325.t_.N, aL cTreeTree x4325.t_.Kids]], base := 1, n := 90, cond := True, gl := G0 }) (fun x => reduce_series_v1_J2 n l0 p4290 (reduce_series_v1_L1 n l0 rec_n1) x4325 x.1 x.2.1 x.2.2 = some r) ?_ ?_
  clear h
  rintro ⟨p4338, p4339, p4340⟩ h
  dsimp only [reduce_series_v1_J2] at h
  try dsimp only
  refine rs0 ?_
  iterate 3 refine vp ?_
  refine sB h F (fun F h => ?_) fun F h => ?_
  refine vs ?_
  refine vs ?_
  refine vp ?_
  refine vn ?_
  refine cF ?_
  refine Wp.skip ?_
  refine sh ?_
  refine rg0 ?_
  iterate 2 refine vp ?_
  refine vn ?_
  exact nx [some 0] (IntKind.i64.wrap (p4290 + 1)) h
  refine vg ?_
  refine vg ?_
  refine vp ?_
  refine vn ?_
  refine sB h F (fun F h => ?_) fun F h => ?_
  refine cF ?_
  refine Wp.skip ?_
  refine sh ?_
  refine rg0 ?_
  iterate 2 refine vp ?_
  refine vn ?_
  exact nx [some 0] (IntKind.i64.wrap (p4290 + 1)) h
  refine cT ?_
  refine dw (fun _ => false) [0, 1] ?_
  refine du 7 ?_
  refine eI h F fun x4341 F h => ?_
  refine du 8 ?_
  refine du 4 ?_
  obtain ⟨r4343, hr4342, h⟩ := obind h
  refine dc (con_reduce_join hr4342) ?_
  refine du 2 ?_
  refine db ?_
  refine nm cReduceEdge h F fun l4344 F h => ?_
  refine dn ?_
  refine rs0 ?_
  iterate 4 refine vp ?_
  obtain ⟨q4346, hr4345, h⟩ := obind h
  refine vh [0] (con_slices_Delete_reduce_edge_v1 hr4345) ?_
  iterate 2 refine vp ?_
  refine vn ?_
  cases h
  exact Wp.ret (enH [some 0])
  refine rs0 ?_
  iterate 3 refine vp ?_
  refine vn ?_
  refine Wp.block ?_
  refine lp [some 0, some 1] (fun x : Int × Int × Int × Int => { ch := [(0, .sl 0 0 l0.length), (4, .int .i64 p4290), (5, .hptr 1 0 0), (6, .int .i64 x.2.2.2), (7, .int .i64 x.2.1), (8, .int .i64 x.2.2.1), (11, .sl 0 0 l0.length), (12, .int .i64 (l0.length : Int)), (13, .int .i64 p4290), (23, .hptr 1 0 0), (24, .hptr 1 0 1), (25, .str x4325.pair.to_), (26, .bool (decide (x4325.pair.to_ = (⟨#[82]⟩ : Str)))), (28, .sl 0 0 l0.length), (29, .int .i64 (l0.length : Int)), (30, .int .i64 x.1)], hp := [.arr 5 l0.length (rw (l0.map cReduceEdge)), .var [.str x4325.pair.from_, .str x4325.pair.to_, .int .i64 x4325.t_.Kind, .int .i64 x4325.t_.N, aL cTreeTree x4325.t_.Kids]], base := 1, n := 90, cond := True, gl := G0 }) (fun m x => reduce_series_v1_L3 n l0 p4290 (reduce_series_v1_L1 n l0 rec_n1) x4325 m x.1 x.2.1 x.2.2.1 x.2.2.2 = some r) n (0, 0, 0, 0) h ?_
  rintro rec_n3 ⟨p4349, p4350, p4351, p4354⟩ h
  dsimp only [reduce_series_v1_L3] at h
  try dsimp only
  refine rs0 ?_
  refine vp ?_
  refine vn ?_
  refine Wp.seq ?_
  refine sD h F (fun F h => ?_) fun F h => ?_
  refine cF ?_
  refine Wp.exit ?_
  exact nx [some 0, some 1] (p4350, p4351, p4354) h
  refine cT ?_
  refine Wp.skip ?_
  refine sh ?_
  refine Wp.seq ?_
  refine Wp.block ?_
  refine rs0 ?_
  refine vp ?_
  refine eI h F fun x4357 F h => ?_
  iterate 5 refine vp ?_
  refine vn ?_
  refine jn (fun p4358 : Int => { ch := [(0, .sl 0 0 l0.length), (4, .int .i64 p4290), (5, .hptr 2 0 0), (6, .int .i64 p4354), (7, .int .i64 p4358), (8, .int .i64 p4351), (9, .int .i64 p4349), (10, .hptr 1 0 0), (11, .sl 0 0 l0.length), (12, .int .i64 (l0.length : Int)), (13, .int .i64 p4290), (23, .hptr 2 0 0), (24, .hptr 2 0 1), (25, .str x4325.pair.to_), (26, .bool (decide (x4325.pair.to_ = (⟨#[82]⟩ : Str)))), (28, .sl 0 0 l0.length), (29, .int .i64 (l0.length : Int)), (30, .int .i64 p4349)], hp := [.arr 5 l0.length (rw (l0.map cReduceEdge)), .var [.str x4357.pair.from_, .str x4357.pair.to_, .int .i64 x4357.t_.Kind, .int .i64 x4357.t_.N, aL cTreeTree x4357.t_.Kids], .var [.str x4325.pair.from_, .str x4325.pair.to_, .int .i64 x4325.t_.Kind, .int .i64 x4325.t_.N, aL cTreeTree x4325.t_.Kids]], base := 1, n := 90, cond := True, gl := G0 }) (fun x => reduce_series_v1_J4 x4325 p4349 p4351 p4354 (reduce_series_v1_L3 n l0 p4290 (reduce_series_v1_L1 n l0 rec_n1) x4325 rec_n3) x4357 x = some r) ?_ ?_
  clear h
  rintro p4358 h
  dsimp only [reduce_series_v1_J4] at h
  try dsimp only
  refine rs0 ?_
  iterate 7 refine vp ?_
  refine vn ?_
  refine sE h F (fun _ F h => ?_) fun _ F h => ?_
  refine cF ?_
  refine Wp.skip ?_
  refine sh ?_
  refine rg0 ?_
  iterate 2 refine vp ?_
  refine vn ?_
  exact nx [some 0, some 2] ((IntKind.i64.wrap (p4349 + 1)), p4358, p4351, p4354) h
  refine cT ?_
  refine rs0 ?_
  iterate 3 refine vp ?_
  refine vn ?_
  refine rg0 ?_
  iterate 2 refine vp ?_
  refine vn ?_
  refine sh ?_
  refine rg0 ?_
  iterate 2 refine vp ?_
  refine vn ?_
  exact nx [some 0, some 2] ((IntKind.i64.wrap (p4349 + 1)), p4358, (IntKind.i64.wrap (p4351 + 1)), p4349) h
  refine rs0 ?_
  iterate 7 refine vp ?_
  refine vn ?_
  refine sE h F (fun _ F h => ?_) fun _ F h => ?_
  refine cF ?_
  refine Wp.skip ?_
  exact nx [some 0, some 2, some 1] p4350 h
  refine cT ?_
  refine rg0 ?_
  iterate 3 refine vp ?_
  refine vn ?_
  exact nx [some 0, some 2, some 1] (IntKind.i64.wrap (p4350 + 1)) h
  refine cT ?_
  refine Wp.exit ?_
  refine sh ?_
  refine rg0 ?_
  iterate 2 refine vp ?_
  refine vn ?_
  exact nx [some 0] (IntKind.i64.wrap (p4290 + 1)) h
  refine vs ?_
  refine vs ?_
  refine vs ?_
  refine vs ?_
  refine vp ?_
  refine vn ?_
  refine cT ?_
  refine Wp.exit ?_
  refine sh ?_
  refine rg0 ?_
  iterate 2 refine vp ?_
  refine vn ?_
  exact nx [some 0] (IntKind.i64.wrap (p4290 + 1)) h

theorem con_slices_IndexFunc_int_c102 {n : Nat} {s0 : List Int} {m1 : List (Str × Bool)} {b2 : ApiRung} {r : Int} (h : slices_IndexFunc_int_c102 n s0 m1 b2 = some r) : ConH Tryz.prog G0 132 [aL (cI .i64) s0, .clos 102 [] [.hptr 0 0 0, .hptr 2 0 0]] [.var [.mp 1], .map (mAV AV.str cB m1), .var [.str b2.Label, aL cApiContact b2.Contacts, aL cApiCoil b2.Coils, .str b2.Jump]] (.int .i64 r) [.var [.mp 1], .map (mAV AV.str cB m1), .var [.str b2.Label, aL cApiContact b2.Contacts, aL cApiCoil b2.Coils, .str b2.Jump]] := by
  refine conH_of (T := TT0) tt_ok Tryz.func132 (c := _) (by unfold Tryz.f132; rfl) Tryz.ntmps132 (rs := [.tmp 4]) (by rw [Tryz.results132]) (by unfold Tryz.f132; rfl) (by simp) (k := 3) rfl rfl ?_
  try simp only [argsCh]
  have F := True.intro
  dsimp only [slices_IndexFunc_int_c102] at h
  refine rs0 ?_
  refine vp ?_
  refine vn ?_
  refine Wp.seq ?_
  refine rs0 ?_
  iterate 3 refine vp ?_
  refine vn ?_
  refine Wp.block ?_
  refine lp [some 0, some 1, some 2] (fun p2423 : Int => { ch := [(0, aL (cI .i64) s0), (1, .clos 102 [] [.hptr 0 0 0, .hptr 2 0 0]), (7, .int .i64 (s0.length : Int)), (8, .int .i64 p2423)], hp := [.var [.mp 1], .map (mAV AV.str cB m1), .var [.str b2.Label, aL cApiContact b2.Contacts, aL cApiCoil b2.Coils, .str b2.Jump]], base := 3, n := 19, cond := True, gl := G0 }) (fun m x => slices_IndexFunc_int_c102_L1 n s0 m1 b2 m x = some r) n 0 h ?_
  rintro rec_n1 p2423 h
  dsimp only [slices_IndexFunc_int_c102_L1] at h
  try dsimp only
  refine rs0 ?_
  refine vp ?_
  refine vn ?_
  refine Wp.seq ?_
  refine sD h F (fun F h => ?_) fun F h => ?_
  refine cF ?_
  refine Wp.exit ?_
  refine sh ?_
  refine rs0 ?_
  refine vp ?_
  refine vn ?_
  cases h
  exact Wp.ret (enH [some 0, some 1, some 2])
  refine cT ?_
  refine Wp.skip ?_
  refine sh ?_
  refine Wp.seq ?_
  refine Wp.block ?_
  refine rs0 ?_
  iterate 2 refine vp ?_
  refine vn ?_
  refine rs0 ?_
  iterate 3 refine vp ?_
  refine eI h F fun x2427 F h => ?_
  iterate 2 refine vp ?_
  obtain ⟨r2429, hr2428, h⟩ := obind h
  refine vh [0, 1, 2] (con_graph_TopoSort_1_1 hr2428) ?_
  refine vn ?_
  refine sB h F (fun F h => ?_) fun F h => ?_
  refine cF ?_
  refine Wp.skip ?_
  refine sh ?_
  refine rg0 ?_
  iterate 2 refine vp ?_
  refine vn ?_
  exact nx [some 0, some 1, some 2] (IntKind.i64.wrap (p2423 + 1)) h
  refine cT ?_
  refine rs0 ?_
  iterate 2 refine vp ?_
  refine vn ?_
  cases h
  exact Wp.ret (enH [some 0, some 1, some 2])

theorem con_slices_IndexFunc_string_c167_v1 {n : Nat} {l0 : List Str} {m2 : List (Str × Bool)} {r : Int} (h : slices_IndexFunc_string_c167_v1 n l0 m2 = some r) : ConH Tryz.prog G0 98 [.sl 0 0 l0.length, .clos 167 [] [.hptr 1 0 0]] [.arr 1 l0.length (rw (l0.map cS)), .var [.mp 2], .map (mAV AV.str cB m2)] (.int .i64 r) [.arr 1 l0.length (rw (l0.map cS)), .var [.mp 2], .map (mAV AV.str cB m2)] := by
  refine conH_of (T := TT0) tt_ok Tryz.func98 (c := _) (by unfold Tryz.f98; rfl) Tryz.ntmps98 (rs := [.tmp 4]) (by rw [Tryz.results98]) (by unfold Tryz.f98; rfl) (by simp) (k := 3) rfl rfl ?_
  try simp only [argsCh]
  have F := True.intro
  dsimp only [slices_IndexFunc_string_c167_v1] at h
  refine rs0 ?_
  refine vp ?_
  refine vn ?_
  refine Wp.seq ?_
  refine rs0 ?_
  iterate 3 refine vp ?_
  refine vn ?_
  refine Wp.block ?_
  refine lp [some 0, some 1, some 2] (fun p3577 : Int => { ch := [(0, .sl 0 0 l0.length), (1, .clos 167 [] [.hptr 1 0 0]), (7, .int .i64 (l0.length : Int)), (8, .int .i64 p3577)], hp := [.arr 1 l0.length (rw (l0.map cS)), .var [.mp 2], .map (mAV AV.str cB m2)], base := 3, n := 19, cond := True, gl := G0 }) (fun m x => slices_IndexFunc_string_c167_v1_L1 n l0 m2 m x = some r) n 0 h ?_
  rintro rec_n1 p3577 h
  dsimp only [slices_IndexFunc_string_c167_v1_L1] at h
  try dsimp only
  refine rs0 ?_
  refine vp ?_
  refine vn ?_
  refine Wp.seq ?_
  refine sD h F (fun F h => ?_) fun F h => ?_
  refine cF ?_
  refine Wp.exit ?_
  refine sh ?_
  refine rs0 ?_
  refine vp ?_
  refine vn ?_
  cases h
  exact Wp.ret (enH [some 0, some 1, some 2])
  refine cT ?_
  refine Wp.skip ?_
  refine sh ?_
  refine Wp.seq ?_
  refine Wp.block ?_
  refine rs0 ?_
  iterate 2 refine vp ?_
  refine vn ?_
  refine rs0 ?_
  iterate 3 refine vp ?_
  refine eI h F fun x3581 F h => ?_
  iterate 2 refine vp ?_
  obtain ⟨r3583, hr3582, h⟩ := obind h
  refine vh [1, 2] (con_graph_gather_2 hr3582) ?_
  refine vn ?_
  refine sB h F (fun F h => ?_) fun F h => ?_
  refine cF ?_
  refine Wp.skip ?_
  refine sh ?_
  refine rg0 ?_
  iterate 2 refine vp ?_
  refine vn ?_
  exact nx [some 0, some 1, some 2] (IntKind.i64.wrap (p3577 + 1)) h
  refine cT ?_
  refine rs0 ?_
  iterate 2 refine vp ?_
  refine vn ?_
  cases h
  exact Wp.ret (enH [some 0, some 1, some 2])

theorem con_law14_TooLarge {n : Nat} {t0 : TreeTree} {r : Int} (h : law14_TooLarge n t0 = some r) : Con Tryz.prog G0 15 [.agg [.int .i64 t0.Kind, .int .i64 t0.N, aL cTreeTree t0.Kids]] (.int .i64 r) [] := by
  refine con_of (T := TT0) tt_ok Tryz.func15 (c := _) (by unfold Tryz.f15; rfl) Tryz.ntmps15 (rs := [.tmp 2]) (by rw [Tryz.results15]) (by unfold Tryz.f15; rfl) (by simp) ?_
  simp only [argsCh]
  have F := True.intro
  dsimp only [law14_TooLarge] at h
  refine rs0 ?_
  iterate 2 refine vp ?_
  refine vn ?_
  refine Wp.seq ?_
  refine rs0 ?_
  refine vp ?_
  obtain ⟨r13, hr12, h⟩ := obind h
  refine vc (con_law14_weight _ hr12) ?_
  refine vp ?_
  refine vn ?_
  refine sD h F (fun F h => ?_) fun F h => ?_
  refine cF ?_
  refine Wp.skip ?_
  refine sh ?_
  refine rs0 ?_
  refine vp ?_
  refine vn ?_
  cases h
  exact Wp.ret en0
  refine cT ?_
  refine rs0 ?_
  refine vp ?_
  refine vn ?_
  cases h
  exact Wp.ret en0

theorem con_slices_Contains_string {n : Nat} {s0 : List Str} {v1 : Str} {r : Bool} (h : slices_Contains_string n s0 v1 = some r) : Con Tryz.prog G0 108 [aL cS s0, .str v1] (.bool r) [] := by
  refine con_of (T := TT0) tt_ok Tryz.func108 (c := _) (by unfold Tryz.f108; rfl) Tryz.ntmps108 (rs := [.tmp 4]) (by rw [Tryz.results108]) (by unfold Tryz.f108; rfl) (by simp) ?_
  simp only [argsCh]
  have F := True.intro
  dsimp only [slices_Contains_string] at h
  refine rs0 ?_
  refine vp ?_
  refine vn ?_
  refine rs0 ?_
  iterate 2 refine vp ?_
  obtain ⟨r3393, hr3392, h⟩ := obind h
  refine vc (con_slices_Index_string hr3392) ?_
  iterate 2 refine vp ?_
  refine vn ?_
  cases h
  exact Wp.ret en0

end Go.Proofs.YtaebdeidbibfkaaGreatDoor
