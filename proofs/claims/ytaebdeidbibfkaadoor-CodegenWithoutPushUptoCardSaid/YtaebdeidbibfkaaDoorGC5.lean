/- Contracts: models of functions are right. No law is proved here. -/
import Derived.Test.YtaebdeidbibfkaaDoorGMod
import Derived.Test.YtaebdeidbibfkaaDoorTab
import Derived.Test.YtaebdeidbibfkaaDoorGC0
import Derived.Test.YtaebdeidbibfkaaDoorGC2
import Derived.Test.YtaebdeidbibfkaaDoorGC3
namespace Go.Proofs.YtaebdeidbibfkaaDoor
open Go.Av Go.G
attribute [-simp] Int.natCast_tdiv_eq_ediv
attribute [local simp] runf guardA opf St.ev Go.Av.look St.setd constAV constAV0 opBin opLen intBin St.need lookT TT0 tab resA resOne resAll blt_dec ble_dec beq_dec isPure
attribute [local simp] opMakeSlice opCopy opIndexAddr opLoad opStore St.mem St.rows opUn calleeA toArgs toArg toArg0 toArgs0 shift shift0 shift1 splice cellsOf isFree ofCells TS.isAgg isCell strBin opConvert
attribute [local simp] opSlice3 opClear fz_clear opBuildSlice fillA opAppend eqC eqA cksB ckB St.newBox runI valKind withinB readsHp refsD refs noSl opFieldAddr opBuild opMax opMin placeOf Op.operands Call.operands opIndex opExtract opSlice opField partA
attribute [local simp] loA hiA lenA opMakeMap opLookup opMapUpdate keyOk findA_int findA_str findA_bool putA_strB putA_strI putA_strS putA_intB putA_intI putA_intS putA_boolI putA_boolB mAV_length mAV_nil cA1 cA2 cA3 cA4 opNilCheck opMakeFunc opRange
attribute [local simp] aL cI cB cS cL rw_map fz_rw fz_const dropRow_rw fz_append fz_set fz_copy fz_rows rowLen_rw rowsLen_nil rowsLen_cons rowsLen_append rowsLen_map rowsLen_dm rowsLen_tm rowsLen_take rowsLen_drop rowsLen_replicate take_map_len take_map_le drop_map_len take_drop_len chunks isScalar isScalar0
attribute [local simp] putBack putAt objMap mapC mapA mapT map0 bid rid memB passed closedB argsH argH argH0 argsH0 objIds ids0 idsC isLocT isLocA isLocC isLoc0 LocObj
attribute [local congr] bind_congr1 map_congr1 cond_congr1
attribute [local simp] cApiAddr cApiContact cApiCoil cApiRung cApiIns cApiLadder cApiSize cApiProgram cReducePair cReduceEdge cTreeTree_eq TreeTree_Kind_mk TreeTree_N_mk TreeTree_Kids_mk eta_TreeTree
set_option maxHeartbeats 4000000
set_option maxRecDepth 20000
set_option linter.unusedSimpArgs false
set_option linter.unusedVariables false

theorem con_reduce_series_v1 {n : Nat} {l0 : List ReduceEdge} {r : Bool × (List ReduceEdge)} (h : reduce_series_v1 n l0 = some r) : ConH Tryd.prog G0 30 [.sl 0 0 l0.length] [.arr 5 l0.length (rw (l0.map cReduceEdge))] (.tup [.sl 0 0 r.2.length, .bool r.1]) [.arr 5 r.2.length (rw (r.2.map cReduceEdge))] := by
  refine conH_of (T := TT0) tt_ok Tryd.func30 (c := _) (by unfold Tryd.f30; rfl) Tryd.ntmps30 (rs := [.tmp 2, .tmp 3]) (by rw [Tryd.results30]) (by unfold Tryd.f30; rfl) (by simp) (k := 1) rfl rfl ?_
  try simp only [argsCh]
  have F := True.intro
  dsimp only [reduce_series_v1] at h
  refine rs0 ?_
  iterate 2 refine vp ?_
  refine vn ?_
  refine Wp.seq ?_
  refine rs0 ?_
  iterate 3 refine vp ?_
  refine vn ?_
  refine Wp.block ?_
  refine lp [some 0] (fun p46236 : Int => { ch := [(0, .sl 0 0 l0.length), (11, .sl 0 0 l0.length), (12, .int .i64 (l0.length : Int)), (13, .int .i64 p46236)], hp := [.arr 5 l0.length (rw (l0.map cReduceEdge))], base := 1, n := 90, cond := True, gl := G0 }) (fun m x => reduce_series_v1_L1 n l0 m x = some r) n 0 h ?_
  rintro rec_n1 p46236 h
  dsimp only [reduce_series_v1_L1] at h
  try dsimp only
  refine rs0 ?_
  refine vp ?_
  refine vn ?_
  refine Wp.seq ?_
  refine sD h F (fun F h => ?_) fun F h => ?_
  refine cF ?_
  refine Wp.exit ?_
  refine sh ?_
  refine rs0 ?_
  iterate 3 refine vp ?_
  refine vn ?_
  cases h
  exact Wp.ret (enH [some 0])
  refine cT ?_
  refine Wp.skip ?_
  refine sh ?_
  refine Wp.seq ?_
  refine Wp.block ?_
  refine rs0 ?_
  refine vp ?_
  refine eI h F fun x46271 F h => ?_
  iterate 5 refine vp ?_
  refine vn ?_
  refine Wp.seq ?_
  refine rs0 ?_
  iterate 5 refine vp ?_
  refine sE h F (fun _ F h => ?_) fun _ F h => ?_
  refine vg ?_
  refine vg ?_
  refine vg ?_
  refine vg ?_
  refine vp ?_
  refine vn ?_
  refine sE h F (fun _ F h => ?_) fun _ F h => ?_
  refine cF ?_
  refine Wp.skip ?_
  refine sh ?_
  refine rs0 ?_
  iterate 3 refine vp ?_
  refine vn ?_
  refine jn (fun x : Int × Int × Int => { ch := [(0, .sl 0 0 l0.length), (4, .int .i64 p46236), (5, .hptr 1 0 0), (6, .int .i64 x.2.2), (7, .int .i64 x.1), (8, .int .i64 x.2.1), (11, .sl 0 0 l0.length), (12, .int .i64 (l0.length : Int)), (13, .int .i64 p46236), (23, .hptr 1 0 0), (24, .hptr 1 0 1), (25, .str x46271.pair.to_), (26, .bool (decide (x46271.pair.to_ = (⟨#[82]⟩ : Str))))], hp := [.arr 5 l0.length (rw (l0.map cReduceEdge)), .var [.str x46271.pair.from_, .str x46271.pair.to_, .int .i64 x46271.t_.Kind, .int .i64 x46271.t_.N, aL cTreeTree x46271.t_.Kids]], base := 1, n := 90, cond := True, gl := G0 }) (fun x => reduce_series_v1_J2 n l0 p46236 (reduce_series_v1_L1 n l0 rec_n1) x46271 x.1 x.2.1 x.2.2 = some r) ?_ ?_
  clear h
  rintro ⟨p46284, p46285, p46286⟩ h
  dsimp only [reduce_series_v1_J2] at h
  try dsimp only
  refine rs0 ?_
  iterate 3 refine vp ?_
  refine sB h F (fun F h => ?_) fun F h => ?_
  refine vs ?_
  refine vs ?_
  refine vp ?_
  refine vn ?_
  refine cF ?_
  refine Wp.skip ?_
  refine sh ?_
  refine rg0 ?_
  iterate 2 refine vp ?_
  refine vn ?_
  exact nx [some 0] (IntKind.i64.wrap (p46236 + 1)) h
  refine vg ?_
  refine vg ?_
  refine vp ?_
  refine vn ?_
  refine sB h F (fun F h => ?_) fun F h => ?_
  refine cF ?_
  refine Wp.skip ?_
  refine sh ?_
  refine rg0 ?_
  iterate 2 refine vp ?_
  refine vn ?_
  exact nx [some 0] (IntKind.i64.wrap (p46236 + 1)) h
  refine cT ?_
  refine dw (fun _ => false) [0, 1] ?_
  refine du 7 ?_
  refine eI h F fun x46287 F h => ?_
  refine du 12 ?_
  obtain ⟨r46289, hr46288, h⟩ := obind h
  refine dc (con_reduce_join hr46288) ?_
  refine du 2 ?_
  refine db ?_
  refine nm cReduceEdge h F fun l46290 F h => ?_
  refine dn ?_
  refine rs0 ?_
  iterate 4 refine vp ?_
  obtain ⟨q46292, hr46291, h⟩ := obind h
  refine vh [0] (con_slices_Delete_reduce_edge_v1 hr46291) ?_
  iterate 2 refine vp ?_
  refine vn ?_
  cases h
  exact Wp.ret (enH [some 0])
  refine rs0 ?_
  iterate 3 refine vp ?_
  refine vn ?_
  refine Wp.block ?_
  refine lp [some 0, some 1] (fun x : Int × Int × Int × Int => { ch := [(0, .sl 0 0 l0.length), (4, .int .i64 p46236), (5, .hptr 1 0 0), (6, .int .i64 x.2.2.2), (7, .int .i64 x.2.1), (8, .int .i64 x.2.2.1), (11, .sl 0 0 l0.length), (12, .int .i64 (l0.length : Int)), (13, .int .i64 p46236), (23, .hptr 1 0 0), (24, .hptr 1 0 1), (25, .str x46271.pair.to_), (26, .bool (decide (x46271.pair.to_ = (⟨#[82]⟩ : Str)))), (28, .sl 0 0 l0.length), (29, .int .i64 (l0.length : Int)), (30, .int .i64 x.1)], hp := [.arr 5 l0.length (rw (l0.map cReduceEdge)), .var [.str x46271.pair.from_, .str x46271.pair.to_, .int .i64 x46271.t_.Kind, .int .i64 x46271.t_.N, aL cTreeTree x46271.t_.Kids]], base := 1, n := 90, cond := True, gl := G0 }) (fun m x => reduce_series_v1_L3 n l0 p46236 (reduce_series_v1_L1 n l0 rec_n1) x46271 m x.1 x.2.1 x.2.2.1 x.2.2.2 = some r) n (0, 0, 0, 0) h ?_
  rintro rec_n3 ⟨p46295, p46296, p46297, p46300⟩ h
  dsimp only [reduce_series_v1_L3] at h
  try dsimp only
  refine rs0 ?_
  refine vp ?_
  refine vn ?_
  refine Wp.seq ?_
  refine sD h F (fun F h => ?_) fun F h => ?_
  refine cF ?_
  refine Wp.exit ?_
  exact nx [some 0, some 1] (p46296, p46297, p46300) h
  refine cT ?_
  refine Wp.skip ?_
  refine sh ?_
  refine Wp.seq ?_
  refine Wp.block ?_
  refine rs0 ?_
  refine vp ?_
  refine eI h F fun x46303 F h => ?_
  iterate 5 refine vp ?_
  refine vn ?_
  refine jn (fun p46304 : Int => { ch := [(0, .sl 0 0 l0.length), (4, .int .i64 p46236), (5, .hptr 2 0 0), (6, .int .i64 p46300), (7, .int .i64 p46304), (8, .int .i64 p46297), (9, .int .i64 p46295), (10, .hptr 1 0 0), (11, .sl 0 0 l0.length), (12, .int .i64 (l0.length : Int)), (13, .int .i64 p46236), (23, .hptr 2 0 0), (24, .hptr 2 0 1), (25, .str x46271.pair.to_), (26, .bool (decide (x46271.pair.to_ = (⟨#[82]⟩ : Str)))), (28, .sl 0 0 l0.length), (29, .int .i64 (l0.length : Int)), (30, .int .i64 p46295)], hp := [.arr 5 l0.length (rw (l0.map cReduceEdge)), .var [.str x46303.pair.from_, .str x46303.pair.to_, .int .i64 x46303.t_.Kind, .int .i64 x46303.t_.N, aL cTreeTree x46303.t_.Kids], .var [.str x46271.pair.from_, .str x46271.pair.to_, .int .i64 x46271.t_.Kind, .int .i64 x46271.t_.N, aL cTreeTree x46271.t_.Kids]], base := 1, n := 90, cond := True, gl := G0 }) (fun x => reduce_series_v1_J4 x46271 p46295 p46297 p46300 (reduce_series_v1_L3 n l0 p46236 (reduce_series_v1_L1 n l0 rec_n1) x46271 rec_n3) x46303 x = some r) ?_ ?_
  clear h
  rintro p46304 h
  dsimp only [reduce_series_v1_J4] at h
  try dsimp only
  refine rs0 ?_
  iterate 7 refine vp ?_
  refine vn ?_
  refine sE h F (fun _ F h => ?_) fun _ F h => ?_
  refine cF ?_
  refine Wp.skip ?_
  refine sh ?_
  refine rg0 ?_
  iterate 2 refine vp ?_
  refine vn ?_
  exact nx [some 0, some 2] ((IntKind.i64.wrap (p46295 + 1)), p46304, p46297, p46300) h
  refine cT ?_
  refine rs0 ?_
  iterate 3 refine vp ?_
  refine vn ?_
  refine rg0 ?_
  iterate 2 refine vp ?_
  refine vn ?_
  refine sh ?_
  refine rg0 ?_
  iterate 2 refine vp ?_
  refine vn ?_
  exact nx [some 0, some 2] ((IntKind.i64.wrap (p46295 + 1)), p46304, (IntKind.i64.wrap (p46297 + 1)), p46295) h
  refine rs0 ?_
  iterate 7 refine vp ?_
  refine vn ?_
  refine sE h F (fun _ F h => ?_) fun _ F h => ?_
  refine cF ?_
  refine Wp.skip ?_
  exact nx [some 0, some 2, some 1] p46296 h
  refine cT ?_
  refine rg0 ?_
  iterate 3 refine vp ?_
  refine vn ?_
  exact nx [some 0, some 2, some 1] (IntKind.i64.wrap (p46296 + 1)) h
  refine cT ?_
  refine Wp.exit ?_
  refine sh ?_
  refine rg0 ?_
  iterate 2 refine vp ?_
  refine vn ?_
  exact nx [some 0] (IntKind.i64.wrap (p46236 + 1)) h
  refine vs ?_
  refine vs ?_
  refine vs ?_
  refine vs ?_
  refine vp ?_
  refine vn ?_
  refine cT ?_
  refine Wp.exit ?_
  refine sh ?_
  refine rg0 ?_
  iterate 2 refine vp ?_
  refine vn ?_
  exact nx [some 0] (IntKind.i64.wrap (p46236 + 1)) h

theorem con_graph_numbers_c129 {n : Nat} {r_0 : ApiRung} {b0 : Str} {r : (List Int)} (h : graph_numbers_c129 n r_0 b0 = some r) : ConH Tryd.prog G0 98 [.agg (cApiRung r_0), .clos 129 [] [.hptr 0 0 0]] [.var [.str b0]] (aL (cI .i64) r) [.var [.str b0]] := by
  refine conH_of (T := TT0) tt_ok Tryd.func98 (c := _) (by unfold Tryd.f98; rfl) Tryd.ntmps98 (rs := [.tmp 4]) (by rw [Tryd.results98]) (by unfold Tryd.f98; rfl) (by simp) (k := 1) rfl rfl ?_
  try simp only [argsCh]
  have F := True.intro
  dsimp only [graph_numbers_c129] at h
  refine rs0 ?_
  iterate 2 refine vp ?_
  refine vn ?_
  refine rs0 ?_
  refine vp ?_
  refine vn ?_
  refine Wp.seq ?_
  refine rs0 ?_
  iterate 4 refine vp ?_
  refine vn ?_
  refine Wp.block ?_
  refine lp [some 0, none] (fun x : Int × (List Int) => { ch := [(1, .clos 129 [] [.hptr 0 0 0]), (5, .sl 1 0 x.2.length), (9, aL cApiContact r_0.Contacts), (10, .int .i64 (r_0.Contacts.length : Int)), (11, .int .i64 x.1)], hp := [.var [.str b0], .arr 1 x.2.length (rw (x.2.map (cI .i64)))], base := 1, n := 25, cond := True, gl := G0 }) (fun m x => graph_numbers_c129_L1 n r_0 b0 m x.1 x.2 = some r) n (0, []) h ?_
  rintro rec_n1 ⟨p45505, p45506⟩ h
  dsimp only [graph_numbers_c129_L1] at h
  try dsimp only
  refine rs0 ?_
  refine vp ?_
  refine vn ?_
  refine Wp.seq ?_
  refine sD h F (fun F h => ?_) fun F h => ?_
  refine cF ?_
  refine Wp.exit ?_
  refine sh ?_
  refine rs0 ?_
  iterate 2 refine vp ?_
  refine vn ?_
  cases h
  exact Wp.ret (enH [some 0])
  refine cT ?_
  refine Wp.skip ?_
  refine sh ?_
  refine Wp.seq ?_
  refine Wp.block ?_
  refine rs0 ?_
  refine vp ?_
  refine eI h F fun x45511 F h => ?_
  iterate 5 refine vp ?_
  refine vn ?_
  refine rs0 ?_
  iterate 2 refine vp ?_
  obtain ⟨r45513, hr45512, h⟩ := obind h
  refine vh [0] (con_graph_Outgoing_1 hr45512) ?_
  refine vn ?_
  refine sB h F (fun F h => ?_) fun F h => ?_
  refine cF ?_
  refine Wp.skip ?_
  refine sh ?_
  refine rg0 ?_
  iterate 2 refine vp ?_
  refine vn ?_
  exact nx [some 0, some 1] ((IntKind.i64.wrap (p45505 + 1)), p45506) h
  refine cT ?_
  refine rg (fun d => Nat.beq d 22) ?_
  iterate 3 refine vp ?_
  refine gd h F fun F h => ?_
  refine vp ?_
  refine nm (cI .i64) h F fun l45514 F h => ?_
  refine vp ?_
  refine vn ?_
  refine sh ?_
  refine rg0 ?_
  iterate 2 refine vp ?_
  refine vn ?_
  exact nx [some 0, some 3] ((IntKind.i64.wrap (p45505 + 1)), l45514) h

theorem con_addr_CheckSize {n : Nat} {s0 : ApiSize} {r : Int} (h : addr_CheckSize n s0 = some r) : Con Tryd.prog G0 87 [.agg (cApiSize s0)] (.int .i64 r) [] := by
  refine con_of (T := TT0) tt_ok Tryd.func87 (c := _) (by unfold Tryd.f87; rfl) Tryd.ntmps87 (rs := [.tmp 2]) (by rw [Tryd.results87]) (by unfold Tryd.f87; rfl) (by simp) ?_
  simp only [argsCh]
  have F := True.intro
  dsimp only [addr_CheckSize] at h
  refine rs0 ?_
  iterate 2 refine vp ?_
  refine vn ?_
  refine Wp.seq ?_
  refine rs0 ?_
  iterate 2 refine vp ?_
  obtain ⟨r41956, hr41955, h⟩ := obind h
  refine vc (con_addr_within hr41955) ?_
  iterate 2 refine vp ?_
  refine sB h F (fun F h => ?_) fun F h => ?_
  refine vg ?_
  refine vg ?_
  obtain ⟨r41958, hr41957, h⟩ := obind h
  refine vc (con_addr_within hr41957) ?_ (hg := by (simp [F]; done))
  refine vg ?_
  iterate 2 refine vp ?_
  refine sB h F (fun F h => ?_) fun F h => ?_
  refine vg ?_
  refine vg ?_
  obtain ⟨r41960, hr41959, h⟩ := obind h
  refine vc (con_addr_within hr41959) ?_ (hg := by (simp [F]; done))
  refine vg ?_
  iterate 2 refine vp ?_
  refine sB h F (fun F h => ?_) fun F h => ?_
  refine vg ?_
  refine vg ?_
  obtain ⟨r41962, hr41961, h⟩ := obind h
  refine vc (con_addr_within hr41961) ?_ (hg := by (simp [F]; done))
  refine vg ?_
  refine vp ?_
  refine vn ?_
  refine sB h F (fun F h => ?_) fun F h => ?_
  refine cF ?_
  refine Wp.skip ?_
  refine sh ?_
  refine rs0 ?_
  refine vp ?_
  refine vn ?_
  cases h
  exact Wp.ret en0
  refine cT ?_
  refine rs0 ?_
  refine vp ?_
  refine vn ?_
  cases h
  exact Wp.ret en0
  refine vs ?_
  refine vs ?_
  refine vs ?_
  refine vs ?_
  refine vp ?_
  refine vn ?_
  refine cT ?_
  refine rs0 ?_
  refine vp ?_
  refine vn ?_
  cases h
  exact Wp.ret en0
  refine vs ?_
  refine vs ?_
  refine vs ?_
  refine vs ?_
  iterate 2 refine vp ?_
  refine vs ?_
  refine vs ?_
  refine vs ?_
  refine vs ?_
  refine vp ?_
  refine vn ?_
  refine cT ?_
  refine rs0 ?_
  refine vp ?_
  refine vn ?_
  cases h
  exact Wp.ret en0
  refine vs ?_
  refine vs ?_
  refine vs ?_
  refine vs ?_
  iterate 2 refine vp ?_
  refine vs ?_
  refine vs ?_
  refine vs ?_
  refine vs ?_
  iterate 2 refine vp ?_
  refine vs ?_
  refine vs ?_
  refine vs ?_
  refine vs ?_
  refine vp ?_
  refine vn ?_
  refine cT ?_
  refine rs0 ?_
  refine vp ?_
  refine vn ?_
  cases h
  exact Wp.ret en0

theorem con_slices_IndexFunc_api_Rung_c90 {n : Nat} {s0 : List ApiRung} {b0 : ApiRung} {r : Int} (h : slices_IndexFunc_api_Rung_c90 n s0 b0 = some r) : ConH Tryd.prog G0 119 [aL cApiRung s0, .clos 90 [] [.hptr 0 0 0]] [.var [.str b0.Label, aL cApiContact b0.Contacts, aL cApiCoil b0.Coils, .str b0.Jump]] (.int .i64 r) [.var [.str b0.Label, aL cApiContact b0.Contacts, aL cApiCoil b0.Coils, .str b0.Jump]] := by
  refine conH_of (T := TT0) tt_ok Tryd.func119 (c := _) (by unfold Tryd.f119; rfl) Tryd.ntmps119 (rs := [.tmp 4]) (by rw [Tryd.results119]) (by unfold Tryd.f119; rfl) (by simp) (k := 1) rfl rfl ?_
  try simp only [argsCh]
  have F := True.intro
  dsimp only [slices_IndexFunc_api_Rung_c90] at h
  refine rs0 ?_
  refine vp ?_
  refine vn ?_
  refine Wp.seq ?_
  refine rs0 ?_
  iterate 3 refine vp ?_
  refine vn ?_
  refine Wp.block ?_
  refine lp [some 0] (fun p42120 : Int => { ch := [(0, aL cApiRung s0), (1, .clos 90 [] [.hptr 0 0 0]), (7, .int .i64 (s0.length : Int)), (8, .int .i64 p42120)], hp := [.var [.str b0.Label, aL cApiContact b0.Contacts, aL cApiCoil b0.Coils, .str b0.Jump]], base := 1, n := 19, cond := True, gl := G0 }) (fun m x => slices_IndexFunc_api_Rung_c90_L1 n s0 b0 m x = some r) n 0 h ?_
  rintro rec_n1 p42120 h
  dsimp only [slices_IndexFunc_api_Rung_c90_L1] at h
  try dsimp only
  refine rs0 ?_
  refine vp ?_
  refine vn ?_
  refine Wp.seq ?_
  refine sD h F (fun F h => ?_) fun F h => ?_
  refine cF ?_
  refine Wp.exit ?_
  refine sh ?_
  refine rs0 ?_
  refine vp ?_
  refine vn ?_
  cases h
  exact Wp.ret (enH [some 0])
  refine cT ?_
  refine Wp.skip ?_
  refine sh ?_
  refine Wp.seq ?_
  refine Wp.block ?_
  refine rs0 ?_
  iterate 2 refine vp ?_
  refine vn ?_
  refine rs0 ?_
  iterate 3 refine vp ?_
  refine eI h F fun x42124 F h => ?_
  iterate 2 refine vp ?_
  obtain ⟨r42126, hr42125, h⟩ := obind h
  refine vh [0] (con_printer_Check_1 hr42125) ?_
  refine vn ?_
  refine sB h F (fun F h => ?_) fun F h => ?_
  refine cF ?_
  refine Wp.skip ?_
  refine sh ?_
  refine rg0 ?_
  iterate 2 refine vp ?_
  refine vn ?_
  exact nx [some 0] (IntKind.i64.wrap (p42120 + 1)) h
  refine cT ?_
  refine rs0 ?_
  iterate 2 refine vp ?_
  refine vn ?_
  cases h
  exact Wp.ret (enH [some 0])

theorem con_slices_IndexFunc_api_Contact_c36 {n : Nat} {s0 : List ApiContact} {r : Int} (h : slices_IndexFunc_api_Contact_c36 n s0 = some r) : Con Tryd.prog G0 58 [aL cApiContact s0, .clos 36 [] []] (.int .i64 r) [] := by
  refine con_of (T := TT0) tt_ok Tryd.func58 (c := _) (by unfold Tryd.f58; rfl) Tryd.ntmps58 (rs := [.tmp 4]) (by rw [Tryd.results58]) (by unfold Tryd.f58; rfl) (by simp) ?_
  simp only [argsCh]
  have F := True.intro
  dsimp only [slices_IndexFunc_api_Contact_c36] at h
  refine rs0 ?_
  refine vp ?_
  refine vn ?_
  refine Wp.seq ?_
  refine rs0 ?_
  iterate 3 refine vp ?_
  refine vn ?_
  refine Wp.block ?_
  refine lp [] (fun p46536 : Int => { ch := [(0, aL cApiContact s0), (1, .clos 36 [] []), (7, .int .i64 (s0.length : Int)), (8, .int .i64 p46536)], hp := [], base := 0, n := 19, cond := True, gl := G0 }) (fun m x => slices_IndexFunc_api_Contact_c36_L1 n s0 m x = some r) n 0 h ?_
  rintro rec_n1 p46536 h
  dsimp only [slices_IndexFunc_api_Contact_c36_L1] at h
  try dsimp only
  refine rs0 ?_
  refine vp ?_
  refine vn ?_
  refine Wp.seq ?_
  refine sD h F (fun F h => ?_) fun F h => ?_
  refine cF ?_
  refine Wp.exit ?_
  refine sh ?_
  refine rs0 ?_
  refine vp ?_
  refine vn ?_
  cases h
  exact Wp.ret en0
  refine cT ?_
  refine Wp.skip ?_
  refine sh ?_
  refine Wp.seq ?_
  refine Wp.block ?_
  refine rs0 ?_
  iterate 2 refine vp ?_
  refine vn ?_
  refine rs0 ?_
  iterate 3 refine vp ?_
  refine eI h F fun x46540 F h => ?_
  iterate 2 refine vp ?_
  obtain ⟨r46542, hr46541, h⟩ := obind h
  refine vc (con_codegen_Tree_1 hr46541) ?_
  refine vn ?_
  refine sB h F (fun F h => ?_) fun F h => ?_
  refine cF ?_
  refine Wp.skip ?_
  refine sh ?_
  refine rg0 ?_
  iterate 2 refine vp ?_
  refine vn ?_
  exact nx [] (IntKind.i64.wrap (p46536 + 1)) h
  refine cT ?_
  refine rs0 ?_
  iterate 2 refine vp ?_
  refine vn ?_
  cases h
  exact Wp.ret en0

end Go.Proofs.YtaebdeidbibfkaaDoor
