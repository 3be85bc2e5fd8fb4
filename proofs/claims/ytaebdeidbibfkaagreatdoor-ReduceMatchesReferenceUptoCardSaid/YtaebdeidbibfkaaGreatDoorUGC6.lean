/- Contracts: models of functions are right. No law is proved here. -/
import Derived.Test.YtaebdeidbibfkaaGreatDoorUGMod
import Derived.Test.YtaebdeidbibfkaaGreatDoorUTau
import Derived.Test.YtaebdeidbibfkaaGreatDoorUSoz
import Derived.Test.YtaebdeidbibfkaaGreatDoorUShz
import Derived.Test.YtaebdeidbibfkaaGreatDoorUGC0
import Derived.Test.YtaebdeidbibfkaaGreatDoorUGC3
import Derived.Test.YtaebdeidbibfkaaGreatDoorUGC4
namespace Go.Proofs.YtaebdeidbibfkaaGreatDoor
open Go.Av Go.G
attribute [-simp] Int.natCast_tdiv_eq_ediv
attribute [local simp] runf guardA opf St.ev Go.Av.look St.setd constAV constAV0 opBin opLen intBin St.need lookT TT0 tab resA resOne resAll blt_dec ble_dec beq_dec isPure
attribute [local simp] opMakeSlice opCopy opIndexAddr opLoad opStore St.mem St.rows opUn calleeA toArgs toArg toArg0 toArgs0 shift shift0 shift1 splice cellsOf isFree ofCells TS.isAgg isCell strBin opConvert
attribute [local simp] opSlice3 opClear fz_clear opBuildSlice fillA opAppend eqC eqA cksB ckB St.newBox runI valKind withinB readsHp refsD refs noSl opFieldAddr opBuild opMax opMin placeOf Op.operands Call.operands opIndex opExtract opSlice opField partA
attribute [local simp] loA hiA lenA opMakeMap opLookup opMapUpdate keyOk findA_int findA_str findA_bool putA_strB putA_strI putA_strS putA_intB putA_intI putA_intS putA_boolI putA_boolB byteRow_rwN bytesOf_rwN opBytesStr mAV_length mAV_nil cA1 cA2 cA3 cA4 opNilCheck opMakeFunc opRange
attribute [local simp] aL cI cB cS cL rw_map fz_rw fz_const dropRow_rw fz_append fz_set fz_copy fz_rows rowLen_rw rowsLen_nil rowsLen_cons rowsLen_append rowsLen_map rowsLen_dm rowsLen_tm rowsLen_take rowsLen_drop rowsLen_replicate take_map_len take_map_le drop_map_len take_drop_len chunks isScalar isScalar0
attribute [local simp] putBack putAt objMap mapC mapA mapT map0 bid rid memB passed closedB argsH argH argH0 argsH0 objIds ids0 idsC isLocT isLocA isLocC isLoc0 LocObj
attribute [local congr] bind_congr1 map_congr1 cond_congr1
attribute [local simp] cApiAddr cApiContact cApiCoil cApiRung cReducePair cReduceEdge cRef15Edge cTreeTree_eq TreeTree_Kind_mk TreeTree_N_mk TreeTree_Kids_mk eta_TreeTree cRef14Tree_eq Ref14Tree_Kind_mk Ref14Tree_N_mk Ref14Tree_Kids_mk eta_Ref14Tree
variable [Drawn]
set_option maxHeartbeats 4000000
set_option linter.unusedSectionVars false
set_option maxRecDepth 20000
set_option linter.unusedSimpArgs false
set_option linter.unusedVariables false

theorem con_reduce_series_v1 {n : Nat} {l0 : List ReduceEdge} {r : Bool × (List ReduceEdge)} (h : reduce_series_v1 n l0 = some r) : ConH Tryz.prog G0 40 [.sl 0 0 l0.length] [.arr 5 l0.length (rw (l0.map cReduceEdge))] (.tup [.sl 0 0 r.2.length, .bool r.1]) [.arr 5 r.2.length (rw (r.2.map cReduceEdge))] := by
  refine conH_of (T := TT0) tt_ok Tryz.func40 (c := _) (by unfold Tryz.f40; rfl) Tryz.ntmps40 (rs := [.tmp 2, .tmp 3]) (by rw [Tryz.results40]) (by unfold Tryz.f40; rfl) (by simp) (k := 1) rfl rfl ?_
  try simp only [argsCh]
  have F := True.intro
  dsimp only [reduce_series_v1] at h
  refine rs0 ?_
  iterate 2 refine vp ?_
  refine vn ?_
  refine Wp.seq ?_
  refine rs0 ?_
  iterate 3 refine vp ?_
  refine vn ?_
  refine Wp.block ?_
  refine lp [some 0] (fun p4288 : Int => { ch := [(0, .sl 0 0 l0.length), (11, .sl 0 0 l0.length), (12, .int .i64 (l0.length : Int)), (13, .int .i64 p4288)], hp := [.arr 5 l0.length (rw (l0.map cReduceEdge))], base := 1, n := 90, cond := True, gl := G0 }) (fun m x => reduce_series_v1_L1 n l0 m x = some r) n 0 h ?_
  rintro rec_n1 p4288 h
  dsimp only [reduce_series_v1_L1] at h
  try dsimp only
  refine rs0 ?_
  refine vp ?_
  refine vn ?_
  refine Wp.seq ?_
  refine sD h F (fun F h => ?_) fun F h => ?_
  refine cF ?_
  refine Wp.exit ?_
  refine sh ?_
  refine rs0 ?_
  iterate 3 refine vp ?_
  refine vn ?_
  cases h
  exact Wp.ret (enH [some 0])
  refine cT ?_
  refine Wp.skip ?_
  refine sh ?_
  refine Wp.seq ?_
  refine Wp.block ?_
  refine rs0 ?_
  refine vp ?_
  refine eI h F fun x4323 F h => ?_
  iterate 5 refine vp ?_
  refine vn ?_
  refine Wp.seq ?_
  refine rs0 ?_
  iterate 5 refine vp ?_
  refine sE h F (fun _ F h => ?_) fun _ F h => ?_
  refine vg ?_
  refine vg ?_
  refine vg ?_
  refine vg ?_
  refine vp ?_
  refine vn ?_
  refine sE h F (fun _ F h => ?_) fun _ F h => ?_
  refine cF ?_
  refine Wp.skip ?_
  refine sh ?_
  refine rs0 ?_
  iterate 3 refine vp ?_
  refine vn ?_
  refine jn (fun x : Int × Int × Int => { ch := [(0, .sl 0 0 l0.length), (4, .int .i64 p4288), (5, .hptr 1 0 0), (6, .int .i64 x.2.2), (7, .int .i64 x.1), (8, .int .i64 x.2.1), (11, .sl 0 0 l0.length), (12, .int .i64 (l0.length : Int)), (13, .int .i64 p4288), (23, .hptr 1 0 0), (24, .hptr 1 0 1), (25, .str x4323.pair.to_), (26, .bool (decide (x4323.pair.to_ = (⟨#[82]⟩ : Str))))], hp := [.arr 5 l0.length (rw (l0.map cReduceEdge)), .var [.str x4323.pair.from_, .str x4323.pair.to_, .int .i64 x4323.t_.Kind, .int .i64 x4323.t_.N, aL cTreeTree x4323.t_.Kids]], base := 1, n := 90, cond := True, gl := G0 }) (fun x => reduce_series_v1_J2 n l0 p4288 (reduce_series_v1_L1 n l0 rec_n1) x4323 x.1 x.2.1 x.2.2 = some r) ?_ ?_
  clear h
  rintro ⟨p4336, p4337, p4338⟩ h
  dsimp only [reduce_series_v1_J2] at h
  try dsimp only
  refine rs0 ?_
  iterate 3 refine vp ?_
  refine sB h F (fun F h => ?_) fun F h => ?_
  refine vs ?_
  refine vs ?_
  refine vp ?_
  refine vn ?_
  refine cF ?_
  refine Wp.skip ?_
  refine sh ?_
  refine rg0 ?_
  iterate 2 refine vp ?_
  refine vn ?_
  exact nx [some 0] (IntKind.i64.wrap (p4288 + 1)) h
  refine vg ?_
  refine vg ?_
  refine vp ?_
  refine vn ?_
  refine sB h F (fun F h => ?_) fun F h => ?_
  refine cF ?_
  refine Wp.skip ?_
  refine sh ?_
  refine rg0 ?_
  iterate 2 refine vp ?_
  refine vn ?_
  exact nx [some 0] (IntKind.i64.wrap (p4288 + 1)) h
  refine cT ?_
  refine dw (fun _ => false) [0, 1] ?_
  refine du 7 ?_
  refine eI h F fun x4339 F h => ?_
  refine du 8 ?_
  refine du 4 ?_
  obtain ⟨r4341, hr4340, h⟩ := obind h
  refine dc (con_reduce_join hr4340) ?_
  refine du 2 ?_
  refine db ?_
  refine nm cReduceEdge h F fun l4342 F h => ?_
  refine dn ?_
  refine rs0 ?_
  iterate 4 refine vp ?_
  obtain ⟨q4344, hr4343, h⟩ := obind h
  refine vh [0] (con_slices_Delete_reduce_edge_v1 hr4343) ?_
  iterate 2 refine vp ?_
  refine vn ?_
  cases h
  exact Wp.ret (enH [some 0])
  refine rs0 ?_
  iterate 3 refine vp ?_
  refine vn ?_
  refine Wp.block ?_
  refine lp [some 0, some 1] (fun x : Int × Int × Int × Int => { ch := [(0, .sl 0 0 l0.length), (4, .int .i64 p4288), (5, .hptr 1 0 0), (6, .int .i64 x.2.2.2), (7, .int .i64 x.2.1), (8, .int .i64 x.2.2.1), (11, .sl 0 0 l0.length), (12, .int .i64 (l0.length : Int)), (13, .int .i64 p4288), (23, .hptr 1 0 0), (24, .hptr 1 0 1), (25, .str x4323.pair.to_), (26, .bool (decide (x4323.pair.to_ = (⟨#[82]⟩ : Str)))), (28, .sl 0 0 l0.length), (29, .int .i64 (l0.length : Int)), (30, .int .i64 x.1)], hp := [.arr 5 l0.length (rw (l0.map cReduceEdge)), .var [.str x4323.pair.from_, .str x4323.pair.to_, .int .i64 x4323.t_.Kind, .int .i64 x4323.t_.N, aL cTreeTree x4323.t_.Kids]], base := 1, n := 90, cond := True, gl := G0 }) (fun m x => reduce_series_v1_L3 n l0 p4288 (reduce_series_v1_L1 n l0 rec_n1) x4323 m x.1 x.2.1 x.2.2.1 x.2.2.2 = some r) n (0, 0, 0, 0) h ?_
  rintro rec_n3 ⟨p4347, p4348, p4349, p4352⟩ h
  dsimp only [reduce_series_v1_L3] at h
  try dsimp only
  refine rs0 ?_
  refine vp ?_
  refine vn ?_
  refine Wp.seq ?_
  refine sD h F (fun F h => ?_) fun F h => ?_
  refine cF ?_
  refine Wp.exit ?_
  exact nx [some 0, some 1] (p4348, p4349, p4352) h
  refine cT ?_
  refine Wp.skip ?_
  refine sh ?_
  refine Wp.seq ?_
  refine Wp.block ?_
  refine rs0 ?_
  refine vp ?_
  refine eI h F fun x4355 F h => ?_
  iterate 5 refine vp ?_
  refine vn ?_
  refine jn (fun p4356 : Int => { ch := [(0, .sl 0 0 l0.length), (4, .int .i64 p4288), (5, .hptr 2 0 0), (6, .int .i64 p4352), (7, .int .i64 p4356), (8, .int .i64 p4349), (9, .int .i64 p4347), (10, .hptr 1 0 0), (11, .sl 0 0 l0.length), (12, .int .i64 (l0.length : Int)), (13, .int .i64 p4288), (23, .hptr 2 0 0), (24, .hptr 2 0 1), (25, .str x4323.pair.to_), (26, .bool (decide (x4323.pair.to_ = (⟨#[82]⟩ : Str)))), (28, .sl 0 0 l0.length), (29, .int .i64 (l0.length : Int)), (30, .int .i64 p4347)], hp := [.arr 5 l0.length (rw (l0.map cReduceEdge)), .var [.str x4355.pair.from_, .str x4355.pair.to_, .int .i64 x4355.t_.Kind, .int .i64 x4355.t_.N, aL cTreeTree x4355.t_.Kids], .var [.str x4323.pair.from_, .str x4323.pair.to_, .int .i64 x4323.t_.Kind, .int .i64 x4323.t_.N, aL cTreeTree x4323.t_.Kids]], base := 1, n := 90, cond := True, gl := G0 }) (fun x => reduce_series_v1_J4 x4323 p4347 p4349 p4352 (reduce_series_v1_L3 n l0 p4288 (reduce_series_v1_L1 n l0 rec_n1) x4323 rec_n3) x4355 x = some r) ?_ ?_
  clear h
  rintro p4356 h
  dsimp only [reduce_series_v1_J4] at h
  try dsimp only
  refine rs0 ?_
  iterate 7 refine vp ?_
  refine vn ?_
  refine sE h F (fun _ F h => ?_) fun _ F h => ?_
  refine cF ?_
  refine Wp.skip ?_
  refine sh ?_
  refine rg0 ?_
  iterate 2 refine vp ?_
  refine vn ?_
  exact nx [some 0, some 2] ((IntKind.i64.wrap (p4347 + 1)), p4356, p4349, p4352) h
  refine cT ?_
  refine rs0 ?_
  iterate 3 refine vp ?_
  refine vn ?_
  refine rg0 ?_
  iterate 2 refine vp ?_
  refine vn ?_
  refine sh ?_
  refine rg0 ?_
  iterate 2 refine vp ?_
  refine vn ?_
  exact nx [some 0, some 2] ((IntKind.i64.wrap (p4347 + 1)), p4356, (IntKind.i64.wrap (p4349 + 1)), p4347) h
  refine rs0 ?_
  iterate 7 refine vp ?_
  refine vn ?_
  refine sE h F (fun _ F h => ?_) fun _ F h => ?_
  refine cF ?_
  refine Wp.skip ?_
  exact nx [some 0, some 2, some 1] p4348 h
  refine cT ?_
  refine rg0 ?_
  iterate 3 refine vp ?_
  refine vn ?_
  exact nx [some 0, some 2, some 1] (IntKind.i64.wrap (p4348 + 1)) h
  refine cT ?_
  refine Wp.exit ?_
  refine sh ?_
  refine rg0 ?_
  iterate 2 refine vp ?_
  refine vn ?_
  exact nx [some 0] (IntKind.i64.wrap (p4288 + 1)) h
  refine vs ?_
  refine vs ?_
  refine vs ?_
  refine vs ?_
  refine vp ?_
  refine vn ?_
  refine cT ?_
  refine Wp.exit ?_
  refine sh ?_
  refine rg0 ?_
  iterate 2 refine vp ?_
  refine vn ?_
  exact nx [some 0] (IntKind.i64.wrap (p4288 + 1)) h

theorem con_graph_numbers_c134 {n : Nat} {r_0 : ApiRung} {b0 : Str} {r : (List Int)} (h : graph_numbers_c134 n r_0 b0 = some r) : ConH Tryz.prog G0 133 [.agg (cApiRung r_0), .clos 134 [] [.hptr 0 0 0]] [.var [.str b0]] (aL (cI .i64) r) [.var [.str b0]] := by
  refine conH_of (T := TT0) tt_ok Tryz.func133 (c := _) (by unfold Tryz.f133; rfl) Tryz.ntmps133 (rs := [.tmp 4]) (by rw [Tryz.results133]) (by unfold Tryz.f133; rfl) (by simp) (k := 1) rfl rfl ?_
  try simp only [argsCh]
  have F := True.intro
  dsimp only [graph_numbers_c134] at h
  refine rs0 ?_
  iterate 2 refine vp ?_
  refine vn ?_
  refine rs0 ?_
  refine vp ?_
  refine vn ?_
  refine Wp.seq ?_
  refine rs0 ?_
  iterate 4 refine vp ?_
  refine vn ?_
  refine Wp.block ?_
  refine lp [some 0, none] (fun x : Int × (List Int) => { ch := [(1, .clos 134 [] [.hptr 0 0 0]), (5, .sl 1 0 x.2.length), (9, aL cApiContact r_0.Contacts), (10, .int .i64 (r_0.Contacts.length : Int)), (11, .int .i64 x.1)], hp := [.var [.str b0], .arr 1 x.2.length (rw (x.2.map (cI .i64)))], base := 1, n := 25, cond := True, gl := G0 }) (fun m x => graph_numbers_c134_L1 n r_0 b0 m x.1 x.2 = some r) n (0, []) h ?_
  rintro rec_n1 ⟨p2392, p2393⟩ h
  dsimp only [graph_numbers_c134_L1] at h
  try dsimp only
  refine rs0 ?_
  refine vp ?_
  refine vn ?_
  refine Wp.seq ?_
  refine sD h F (fun F h => ?_) fun F h => ?_
  refine cF ?_
  refine Wp.exit ?_
  refine sh ?_
  refine rs0 ?_
  iterate 2 refine vp ?_
  refine vn ?_
  cases h
  exact Wp.ret (enH [some 0])
  refine cT ?_
  refine Wp.skip ?_
  refine sh ?_
  refine Wp.seq ?_
  refine Wp.block ?_
  refine rs0 ?_
  refine vp ?_
  refine eI h F fun x2398 F h => ?_
  iterate 5 refine vp ?_
  refine vn ?_
  refine rs0 ?_
  iterate 2 refine vp ?_
  obtain ⟨r2400, hr2399, h⟩ := obind h
  refine vh [0] (con_graph_Incoming_1 hr2399) ?_
  refine vn ?_
  refine sB h F (fun F h => ?_) fun F h => ?_
  refine cF ?_
  refine Wp.skip ?_
  refine sh ?_
  refine rg0 ?_
  iterate 2 refine vp ?_
  refine vn ?_
  exact nx [some 0, some 1] ((IntKind.i64.wrap (p2392 + 1)), p2393) h
  refine cT ?_
  refine rg (fun d => Nat.beq d 22) ?_
  iterate 3 refine vp ?_
  refine gd h F fun F h => ?_
  refine vp ?_
  refine nm (cI .i64) h F fun l2401 F h => ?_
  refine vp ?_
  refine vn ?_
  refine sh ?_
  refine rg0 ?_
  iterate 2 refine vp ?_
  refine vn ?_
  exact nx [some 0, some 3] ((IntKind.i64.wrap (p2392 + 1)), l2401) h

theorem con_slices_IndexFunc_string_c167_v1 {n : Nat} {l0 : List Str} {m2 : List (Str × Bool)} {r : Int} (h : slices_IndexFunc_string_c167_v1 n l0 m2 = some r) : ConH Tryz.prog G0 98 [.sl 0 0 l0.length, .clos 167 [] [.hptr 1 0 0]] [.arr 1 l0.length (rw (l0.map cS)), .var [.mp 2], .map (mAV AV.str cB m2)] (.int .i64 r) [.arr 1 l0.length (rw (l0.map cS)), .var [.mp 2], .map (mAV AV.str cB m2)] := by
  refine conH_of (T := TT0) tt_ok Tryz.func98 (c := _) (by unfold Tryz.f98; rfl) Tryz.ntmps98 (rs := [.tmp 4]) (by rw [Tryz.results98]) (by unfold Tryz.f98; rfl) (by simp) (k := 3) rfl rfl ?_
  try simp only [argsCh]
  have F := True.intro
  dsimp only [slices_IndexFunc_string_c167_v1] at h
  refine rs0 ?_
  refine vp ?_
  refine vn ?_
  refine Wp.seq ?_
  refine rs0 ?_
  iterate 3 refine vp ?_
  refine vn ?_
  refine Wp.block ?_
  refine lp [some 0, some 1, some 2] (fun p3575 : Int => { ch := [(0, .sl 0 0 l0.length), (1, .clos 167 [] [.hptr 1 0 0]), (7, .int .i64 (l0.length : Int)), (8, .int .i64 p3575)], hp := [.arr 1 l0.length (rw (l0.map cS)), .var [.mp 2], .map (mAV AV.str cB m2)], base := 3, n := 19, cond := True, gl := G0 }) (fun m x => slices_IndexFunc_string_c167_v1_L1 n l0 m2 m x = some r) n 0 h ?_
  rintro rec_n1 p3575 h
  dsimp only [slices_IndexFunc_string_c167_v1_L1] at h
  try dsimp only
  refine rs0 ?_
  refine vp ?_
  refine vn ?_
  refine Wp.seq ?_
  refine sD h F (fun F h => ?_) fun F h => ?_
  refine cF ?_
  refine Wp.exit ?_
  refine sh ?_
  refine rs0 ?_
  refine vp ?_
  refine vn ?_
  cases h
  exact Wp.ret (enH [some 0, some 1, some 2])
  refine cT ?_
  refine Wp.skip ?_
  refine sh ?_
  refine Wp.seq ?_
  refine Wp.block ?_
  refine rs0 ?_
  iterate 2 refine vp ?_
  refine vn ?_
  refine rs0 ?_
  iterate 3 refine vp ?_
  refine eI h F fun x3579 F h => ?_
  iterate 2 refine vp ?_
  obtain ⟨r3581, hr3580, h⟩ := obind h
  refine vh [1, 2] (con_graph_gather_2 hr3580) ?_
  refine vn ?_
  refine sB h F (fun F h => ?_) fun F h => ?_
  refine cF ?_
  refine Wp.skip ?_
  refine sh ?_
  refine rg0 ?_
  iterate 2 refine vp ?_
  refine vn ?_
  exact nx [some 0, some 1, some 2] (IntKind.i64.wrap (p3575 + 1)) h
  refine cT ?_
  refine rs0 ?_
  iterate 2 refine vp ?_
  refine vn ?_
  cases h
  exact Wp.ret (enH [some 0, some 1, some 2])

theorem con_ref15_least {n : Nat} {t0 : Ref14Tree} {r : Int} (h : ref15_least n t0 = some r) : Con Tryz.prog G0 93 [.agg [.int .i64 t0.Kind, .int .i64 t0.N, aL cRef14Tree t0.Kids]] (.int .i64 r) [] := by
  refine con_of (T := TT0) tt_ok Tryz.func93 (c := _) (by unfold Tryz.f93; rfl) Tryz.ntmps93 (rs := [.tmp 2]) (by rw [Tryz.results93]) (by unfold Tryz.f93; rfl) (by simp) ?_
  simp only [argsCh]
  have F := True.intro
  dsimp only [ref15_least] at h
  refine rs0 ?_
  iterate 2 refine vp ?_
  refine vn ?_
  refine rs0 ?_
  refine vp ?_
  obtain ⟨r9542, hr9541, h⟩ := obind h
  refine vc (con_ref14_Leaves _ hr9541) ?_
  refine vp ?_
  refine vn ?_
  refine rs0 ?_
  refine vp ?_
  refine eN (m := 0) h F fun x9543 F h => ?_
  iterate 3 refine vp ?_
  refine vn ?_
  refine Wp.seq ?_
  refine rs0 ?_
  refine vp ?_
  refine vn ?_
  refine Wp.block ?_
  refine lp [] (fun x : Int × Int => { ch := [(3, aL (cI .i64) r9542), (4, .int .i64 x.2), (5, .int .i64 x.1)], hp := [], base := 0, n := 28, cond := True, gl := G0 }) (fun m x => ref15_least_L1 r9542 m x.1 x.2 = some r) n (0, x9543) h ?_
  rintro rec_n1 ⟨p9544, x9546⟩ h
  dsimp only [ref15_least_L1] at h
  try dsimp only
  refine Wp.seq ?_
  refine rs0 ?_
  iterate 4 refine vp ?_
  refine vn ?_
  refine sD h F (fun F h => ?_) fun F h => ?_
  refine cF ?_
  refine Wp.exit ?_
  refine sh ?_
  refine rs0 ?_
  iterate 2 refine vp ?_
  refine vn ?_
  cases h
  exact Wp.ret en0
  refine cT ?_
  refine Wp.skip ?_
  refine sh ?_
  refine Wp.seq ?_
  refine Wp.block ?_
  refine rs0 ?_
  iterate 2 refine vp ?_
  refine eI h F fun x9548 F h => ?_
  iterate 4 refine vp ?_
  refine vn ?_
  refine sD h F (fun F h => ?_) fun F h => ?_
  refine cF ?_
  refine Wp.skip ?_
  refine sh ?_
  refine rg0 ?_
  iterate 3 refine vp ?_
  refine vn ?_
  exact nx [] ((IntKind.i64.wrap (p9544 + 1)), x9546) h
  refine cT ?_
  refine rg0 ?_
  iterate 5 refine vp ?_
  refine vn ?_
  refine sh ?_
  refine rg0 ?_
  iterate 3 refine vp ?_
  refine vn ?_
  exact nx [] ((IntKind.i64.wrap (p9544 + 1)), x9548) h

end Go.Proofs.YtaebdeidbibfkaaGreatDoor
