/- Contracts: models of functions are right. No law is proved here. -/
import Derived.Test.YtaebdeidbibfkaaDoorJGMod
import Derived.Test.YtaebdeidbibfkaaDoorJTaj
import Derived.Test.YtaebdeidbibfkaaDoorJSo
import Derived.Test.YtaebdeidbibfkaaDoorJGC0
import Derived.Test.YtaebdeidbibfkaaDoorJGC1
import Derived.Test.YtaebdeidbibfkaaDoorJGC2
import Derived.Test.YtaebdeidbibfkaaDoorJGC3
namespace Go.Proofs.YtaebdeidbibfkaaDoor
open Go.Av Go.G
attribute [-simp] Int.natCast_tdiv_eq_ediv
attribute [local simp] runf guardA opf St.ev Go.Av.look St.setd constAV constAV0 opBin opLen intBin St.need lookT TT0 tab resA resOne resAll blt_dec ble_dec beq_dec isPure
attribute [local simp] opMakeSlice opCopy opIndexAddr opLoad opStore St.mem St.rows opUn calleeA toArgs toArg toArg0 toArgs0 shift shift0 shift1 splice cellsOf isFree ofCells TS.isAgg isCell strBin opConvert
attribute [local simp] opSlice3 opClear fz_clear opBuildSlice fillA opAppend eqC eqA cksB ckB St.newBox runI valKind withinB readsHp refsD refs noSl opFieldAddr opBuild opMax opMin placeOf Op.operands Call.operands opIndex opExtract opSlice opField partA
attribute [local simp] loA hiA lenA opMakeMap opLookup opMapUpdate keyOk findA_int findA_str findA_bool putA_strB putA_strI putA_strS putA_intB putA_intI putA_intS putA_boolI putA_boolB byteRow_rwN bytesOf_rwN opBytesStr mAV_length mAV_nil cA1 cA2 cA3 cA4 opNilCheck opMakeFunc opRange
attribute [local simp] aL cI cB cS cL rw_map fz_rw fz_const dropRow_rw fz_append fz_set fz_copy fz_rows rowLen_rw rowsLen_nil rowsLen_cons rowsLen_append rowsLen_map rowsLen_dm rowsLen_tm rowsLen_take rowsLen_drop rowsLen_replicate take_map_len take_map_le drop_map_len take_drop_len chunks isScalar isScalar0
attribute [local simp] putBack putAt objMap mapC mapA mapT map0 bid rid memB passed closedB argsH argH argH0 argsH0 objIds ids0 idsC isLocT isLocA isLocC isLoc0 LocObj
attribute [local congr] bind_congr1 map_congr1 cond_congr1
attribute [local simp] cApiAddr cApiContact cApiCoil cApiRung cApiIns cApiLadder cApiSize cApiProgram cReducePair cReduceEdge cTreeTree_eq TreeTree_Kind_mk TreeTree_N_mk TreeTree_Kids_mk eta_TreeTree
variable [Drawn]
set_option maxHeartbeats 4000000
set_option linter.unusedSectionVars false
set_option maxRecDepth 20000
set_option linter.unusedSimpArgs false
set_option linter.unusedVariables false
theorem con_reduce_series_v1 {n : Nat} {l0 : List ReduceEdge} {r : Bool × (List ReduceEdge)} (h : reduce_series_v1 n l0 = some r) : ConH Tryd.prog G0 30 [.sl 0 0 l0.length] [.arr 5 l0.length (rw (l0.map cReduceEdge))] (.tup [.sl 0 0 r.2.length, .bool r.1]) [.arr 5 r.2.length (rw (r.2.map cReduceEdge))] := by
  refine conH_of (T := TT0) tt_ok Tryd.func30 (c := _) (by unfold Tryd.f30; rfl) Tryd.ntmps30 (rs := [.tmp 2, .tmp 3]) (by rw [Tryd.results30]) (by unfold Tryd.f30; rfl) (by simp) (k := 1) rfl rfl ?_
  try simp only [argsCh]
  have F := True.intro
  dsimp only [reduce_series_v1] at h
  refine rs0 ?_
  iterate 2 refine vp ?_
  refine vn ?_
  refine Wp.seq ?_
  refine rs0 ?_
  iterate 3 refine vp ?_
  refine vn ?_
  refine Wp.block ?_
  refine lp [some 0] (fun p15004 : Int => { ch := [(0, .sl 0 0 l0.length), (11, .sl 0 0 l0.length), (12, .int .i64 (l0.length : Int)), (13, .int .i64 p15004)], hp := [.arr 5 l0.length (rw (l0.map cReduceEdge))], base := 1, n := 90, cond := True, gl := G0 }) (fun m x => reduce_series_v1_L1 n l0 m x = some r) n 0 h ?_
  rintro rec_n1 p15004 h
  dsimp only [reduce_series_v1_L1] at h
  try dsimp only
  refine rs0 ?_
  refine vp ?_
  refine vn ?_
  refine Wp.seq ?_
  refine sD h F (fun F h => ?_) fun F h => ?_
  refine cF ?_
  refine Wp.exit ?_
  refine sh ?_
  refine rs0 ?_
  iterate 3 refine vp ?_
  refine vn ?_
  cases h
  exact Wp.ret (enH [some 0])
  refine cT ?_
  refine Wp.skip ?_
  refine sh ?_
  refine Wp.seq ?_
  refine Wp.block ?_
  refine rs0 ?_
  refine vp ?_
  refine eI h F fun x15039 F h => ?_
  iterate 5 refine vp ?_
  refine vn ?_
  refine Wp.seq ?_
  refine rs0 ?_
  iterate 5 refine vp ?_
  refine sE h F (fun _ F h => ?_) fun _ F h => ?_
  refine vg ?_
  refine vg ?_
  refine vg ?_
  refine vg ?_
  refine vp ?_
  refine vn ?_
  refine sE h F (fun _ F h => ?_) fun _ F h => ?_
  refine cF ?_
  refine Wp.skip ?_
  refine sh ?_
  refine rs0 ?_
  iterate 3 refine vp ?_
  refine vn ?_
  refine jn (fun x : Int × Int × Int => { ch := [(0, .sl 0 0 l0.length), (4, .int .i64 p15004), (5, .hptr 1 0 0), (6, .int .i64 x.2.2), (7, .int .i64 x.1), (8, .int .i64 x.2.1), (11, .sl 0 0 l0.length), (12, .int .i64 (l0.length : Int)), (13, .int .i64 p15004), (23, .hptr 1 0 0), (24, .hptr 1 0 1), (25, .str x15039.pair.to_), (26, .bool (decide (x15039.pair.to_ = (⟨#[82]⟩ : Str))))], hp := [.arr 5 l0.length (rw (l0.map cReduceEdge)), .var [.str x15039.pair.from_, .str x15039.pair.to_, .int .i64 x15039.t_.Kind, .int .i64 x15039.t_.N, aL cTreeTree x15039.t_.Kids]], base := 1, n := 90, cond := True, gl := G0 }) (fun x => reduce_series_v1_J2 n l0 p15004 (reduce_series_v1_L1 n l0 rec_n1) x15039 x.1 x.2.1 x.2.2 = some r) ?_ ?_
  clear h
  rintro ⟨p15052, p15053, p15054⟩ h
  dsimp only [reduce_series_v1_J2] at h
  try dsimp only
  refine rs0 ?_
  iterate 3 refine vp ?_
  refine sB h F (fun F h => ?_) fun F h => ?_
  refine vs ?_
  refine vs ?_
  refine vp ?_
  refine vn ?_
  refine cF ?_
  refine Wp.skip ?_
  refine sh ?_
  refine rg0 ?_
  iterate 2 refine vp ?_
  refine vn ?_
  exact nx [some 0] (IntKind.i64.wrap (p15004 + 1)) h
  refine vg ?_
  refine vg ?_
  refine vp ?_
  refine vn ?_
  refine sB h F (fun F h => ?_) fun F h => ?_
  refine cF ?_
  refine Wp.skip ?_
  refine sh ?_
  refine rg0 ?_
  iterate 2 refine vp ?_
  refine vn ?_
  exact nx [some 0] (IntKind.i64.wrap (p15004 + 1)) h
  refine cT ?_
  refine dw (fun _ => false) [0, 1] ?_
  refine du 7 ?_
  refine eI h F fun x15055 F h => ?_
  refine du 8 ?_
  refine du 4 ?_
  obtain ⟨r15057, hr15056, h⟩ := obind h
  refine dc (con_reduce_join hr15056) ?_
  refine du 2 ?_
  refine db ?_
  refine nm cReduceEdge h F fun l15058 F h => ?_
  refine dn ?_
  refine rs0 ?_
  iterate 4 refine vp ?_
  obtain ⟨q15060, hr15059, h⟩ := obind h
  refine vh [0] (con_slices_Delete_reduce_edge_v1 hr15059) ?_
  iterate 2 refine vp ?_
  refine vn ?_
  cases h
  exact Wp.ret (enH [some 0])
  refine rs0 ?_
  iterate 3 refine vp ?_
  refine vn ?_
  refine Wp.block ?_
  refine lp [some 0, some 1] (fun x : Int × Int × Int × Int => { ch := [(0, .sl 0 0 l0.length), (4, .int .i64 p15004), (5, .hptr 1 0 0), (6, .int .i64 x.2.2.2), (7, .int .i64 x.2.1), (8, .int .i64 x.2.2.1), (11, .sl 0 0 l0.length), (12, .int .i64 (l0.length : Int)), (13, .int .i64 p15004), (23, .hptr 1 0 0), (24, .hptr 1 0 1), (25, .str x15039.pair.to_), (26, .bool (decide (x15039.pair.to_ = (⟨#[82]⟩ : Str)))), (28, .sl 0 0 l0.length), (29, .int .i64 (l0.length : Int)), (30, .int .i64 x.1)], hp := [.arr 5 l0.length (rw (l0.map cReduceEdge)), .var [.str x15039.pair.from_, .str x15039.pair.to_, .int .i64 x15039.t_.Kind, .int .i64 x15039.t_.N, aL cTreeTree x15039.t_.Kids]], base := 1, n := 90, cond := True, gl := G0 }) (fun m x => reduce_series_v1_L3 n l0 p15004 (reduce_series_v1_L1 n l0 rec_n1) x15039 m x.1 x.2.1 x.2.2.1 x.2.2.2 = some r) n (0, 0, 0, 0) h ?_
  rintro rec_n3 ⟨p15063, p15064, p15065, p15068⟩ h
  dsimp only [reduce_series_v1_L3] at h
  try dsimp only
  refine rs0 ?_
  refine vp ?_
  refine vn ?_
  refine Wp.seq ?_
  refine sD h F (fun F h => ?_) fun F h => ?_
  refine cF ?_
  refine Wp.exit ?_
  exact nx [some 0, some 1] (p15064, p15065, p15068) h
  refine cT ?_
  refine Wp.skip ?_
  refine sh ?_
  refine Wp.seq ?_
  refine Wp.block ?_
  refine rs0 ?_
  refine vp ?_
  refine eI h F fun x15071 F h => ?_
  iterate 5 refine vp ?_
  refine vn ?_
  refine jn (fun p15072 : Int => { ch := [(0, .sl 0 0 l0.length), (4, .int .i64 p15004), (5, .hptr 2 0 0), (6, .int .i64 p15068), (7, .int .i64 p15072), (8, .int .i64 p15065), (9, .int .i64 p15063), (10, .hptr 1 0 0), (11, .sl 0 0 l0.length), (12, .int .i64 (l0.length : Int)), (13, .int .i64 p15004), (23, .hptr 2 0 0), (24, .hptr 2 0 1), (25, .str x15039.pair.to_), (26, .bool (decide (x15039.pair.to_ = (⟨#[82]⟩ : Str)))), (28, .sl 0 0 l0.length), (29, .int .i64 (l0.length : Int)), (30, .int .i64 p15063)], hp := [.arr 5 l0.length (rw (l0.map cReduceEdge)), .var [.str x15071.pair.from_, .str x15071.pair.to_, .int .i64 x15071.t_.Kind, .int .i64 x15071.t_.N, aL cTreeTree x15071.t_.Kids], .var [.str x15039.pair.from_, .str x15039.pair.to_, .int .i64 x15039.t_.Kind, .int .i64 x15039.t_.N, aL cTreeTree x15039.t_.Kids]], base := 1, n := 90, cond := True, gl := G0 }) (fun x => reduce_series_v1_J4 x15039 p15063 p15065 p15068 (reduce_series_v1_L3 n l0 p15004 (reduce_series_v1_L1 n l0 rec_n1) x15039 rec_n3) x15071 x = some r) ?_ ?_
  clear h
  rintro p15072 h
  dsimp only [reduce_series_v1_J4] at h
  try dsimp only
  refine rs0 ?_
  iterate 7 refine vp ?_
  refine vn ?_
  refine sE h F (fun _ F h => ?_) fun _ F h => ?_
  refine cF ?_
  refine Wp.skip ?_
  refine sh ?_
  refine rg0 ?_
  iterate 2 refine vp ?_
  refine vn ?_
  exact nx [some 0, some 2] ((IntKind.i64.wrap (p15063 + 1)), p15072, p15065, p15068) h
  refine cT ?_
  refine rs0 ?_
  iterate 3 refine vp ?_
  refine vn ?_
  refine rg0 ?_
  iterate 2 refine vp ?_
  refine vn ?_
  refine sh ?_
  refine rg0 ?_
  iterate 2 refine vp ?_
  refine vn ?_
  exact nx [some 0, some 2] ((IntKind.i64.wrap (p15063 + 1)), p15072, (IntKind.i64.wrap (p15065 + 1)), p15063) h
  refine rs0 ?_
  iterate 7 refine vp ?_
  refine vn ?_
  refine sE h F (fun _ F h => ?_) fun _ F h => ?_
  refine cF ?_
  refine Wp.skip ?_
  exact nx [some 0, some 2, some 1] p15064 h
  refine cT ?_
  refine rg0 ?_
  iterate 3 refine vp ?_
  refine vn ?_
  exact nx [some 0, some 2, some 1] (IntKind.i64.wrap (p15064 + 1)) h
  refine cT ?_
  refine Wp.exit ?_
  refine sh ?_
  refine rg0 ?_
  iterate 2 refine vp ?_
  refine vn ?_
  exact nx [some 0] (IntKind.i64.wrap (p15004 + 1)) h
  refine vs ?_
  refine vs ?_
  refine vs ?_
  refine vs ?_
  refine vp ?_
  refine vn ?_
  refine cT ?_
  refine Wp.exit ?_
  refine sh ?_
  refine rg0 ?_
  iterate 2 refine vp ?_
  refine vn ?_
  exact nx [some 0] (IntKind.i64.wrap (p15004 + 1)) h
theorem con_slices_IndexFunc_int_c75 {n : Nat} {s0 : List Int} {m1 : List (Str × Bool)} {b2 : ApiRung} {r : Int} (h : slices_IndexFunc_int_c75 n s0 m1 b2 = some r) : ConH Tryd.prog G0 97 [aL (cI .i64) s0, .clos 75 [] [.hptr 0 0 0, .hptr 2 0 0]] [.var [.mp 1], .map (mAV AV.str cB m1), .var [.str b2.Label, aL cApiContact b2.Contacts, aL cApiCoil b2.Coils, .str b2.Jump]] (.int .i64 r) [.var [.mp 1], .map (mAV AV.str cB m1), .var [.str b2.Label, aL cApiContact b2.Contacts, aL cApiCoil b2.Coils, .str b2.Jump]] := by
  refine conH_of (T := TT0) tt_ok Tryd.func97 (c := _) (by unfold Tryd.f97; rfl) Tryd.ntmps97 (rs := [.tmp 4]) (by rw [Tryd.results97]) (by unfold Tryd.f97; rfl) (by simp) (k := 3) rfl rfl ?_
  try simp only [argsCh]
  have F := True.intro
  dsimp only [slices_IndexFunc_int_c75] at h
  refine rs0 ?_
  refine vp ?_
  refine vn ?_
  refine Wp.seq ?_
  refine rs0 ?_
  iterate 3 refine vp ?_
  refine vn ?_
  refine Wp.block ?_
  refine lp [some 0, some 1, some 2] (fun p13226 : Int => { ch := [(0, aL (cI .i64) s0), (1, .clos 75 [] [.hptr 0 0 0, .hptr 2 0 0]), (7, .int .i64 (s0.length : Int)), (8, .int .i64 p13226)], hp := [.var [.mp 1], .map (mAV AV.str cB m1), .var [.str b2.Label, aL cApiContact b2.Contacts, aL cApiCoil b2.Coils, .str b2.Jump]], base := 3, n := 19, cond := True, gl := G0 }) (fun m x => slices_IndexFunc_int_c75_L1 n s0 m1 b2 m x = some r) n 0 h ?_
  rintro rec_n1 p13226 h
  dsimp only [slices_IndexFunc_int_c75_L1] at h
  try dsimp only
  refine rs0 ?_
  refine vp ?_
  refine vn ?_
  refine Wp.seq ?_
  refine sD h F (fun F h => ?_) fun F h => ?_
  refine cF ?_
  refine Wp.exit ?_
  refine sh ?_
  refine rs0 ?_
  refine vp ?_
  refine vn ?_
  cases h
  exact Wp.ret (enH [some 0, some 1, some 2])
  refine cT ?_
  refine Wp.skip ?_
  refine sh ?_
  refine Wp.seq ?_
  refine Wp.block ?_
  refine rs0 ?_
  iterate 2 refine vp ?_
  refine vn ?_
  refine rs0 ?_
  iterate 3 refine vp ?_
  refine eI h F fun x13230 F h => ?_
  iterate 2 refine vp ?_
  obtain ⟨r13232, hr13231, h⟩ := obind h
  refine vh [0, 1, 2] (con_graph_TopoSort_1_1 hr13231) ?_
  refine vn ?_
  refine sB h F (fun F h => ?_) fun F h => ?_
  refine cF ?_
  refine Wp.skip ?_
  refine sh ?_
  refine rg0 ?_
  iterate 2 refine vp ?_
  refine vn ?_
  exact nx [some 0, some 1, some 2] (IntKind.i64.wrap (p13226 + 1)) h
  refine cT ?_
  refine rs0 ?_
  iterate 2 refine vp ?_
  refine vn ?_
  cases h
  exact Wp.ret (enH [some 0, some 1, some 2])
theorem con_graph_numbers_c99 {n : Nat} {r_0 : ApiRung} {b0 : Str} {r : (List Int)} (h : graph_numbers_c99 n r_0 b0 = some r) : ConH Tryd.prog G0 98 [.agg (cApiRung r_0), .clos 99 [] [.hptr 0 0 0]] [.var [.str b0]] (aL (cI .i64) r) [.var [.str b0]] := by
  refine conH_of (T := TT0) tt_ok Tryd.func98 (c := _) (by unfold Tryd.f98; rfl) Tryd.ntmps98 (rs := [.tmp 4]) (by rw [Tryd.results98]) (by unfold Tryd.f98; rfl) (by simp) (k := 1) rfl rfl ?_
  try simp only [argsCh]
  have F := True.intro
  dsimp only [graph_numbers_c99] at h
  refine rs0 ?_
  iterate 2 refine vp ?_
  refine vn ?_
  refine rs0 ?_
  refine vp ?_
  refine vn ?_
  refine Wp.seq ?_
  refine rs0 ?_
  iterate 4 refine vp ?_
  refine vn ?_
  refine Wp.block ?_
  refine lp [some 0, none] (fun x : Int × (List Int) => { ch := [(1, .clos 99 [] [.hptr 0 0 0]), (5, .sl 1 0 x.2.length), (9, aL cApiContact r_0.Contacts), (10, .int .i64 (r_0.Contacts.length : Int)), (11, .int .i64 x.1)], hp := [.var [.str b0], .arr 1 x.2.length (rw (x.2.map (cI .i64)))], base := 1, n := 25, cond := True, gl := G0 }) (fun m x => graph_numbers_c99_L1 n r_0 b0 m x.1 x.2 = some r) n (0, []) h ?_
  rintro rec_n1 ⟨p13197, p13198⟩ h
  dsimp only [graph_numbers_c99_L1] at h
  try dsimp only
  refine rs0 ?_
  refine vp ?_
  refine vn ?_
  refine Wp.seq ?_
  refine sD h F (fun F h => ?_) fun F h => ?_
  refine cF ?_
  refine Wp.exit ?_
  refine sh ?_
  refine rs0 ?_
  iterate 2 refine vp ?_
  refine vn ?_
  cases h
  exact Wp.ret (enH [some 0])
  refine cT ?_
  refine Wp.skip ?_
  refine sh ?_
  refine Wp.seq ?_
  refine Wp.block ?_
  refine rs0 ?_
  refine vp ?_
  refine eI h F fun x13203 F h => ?_
  iterate 5 refine vp ?_
  refine vn ?_
  refine rs0 ?_
  iterate 2 refine vp ?_
  obtain ⟨r13205, hr13204, h⟩ := obind h
  refine vh [0] (con_graph_Incoming_1 hr13204) ?_
  refine vn ?_
  refine sB h F (fun F h => ?_) fun F h => ?_
  refine cF ?_
  refine Wp.skip ?_
  refine sh ?_
  refine rg0 ?_
  iterate 2 refine vp ?_
  refine vn ?_
  exact nx [some 0, some 1] ((IntKind.i64.wrap (p13197 + 1)), p13198) h
  refine cT ?_
  refine rg (fun d => Nat.beq d 22) ?_
  iterate 3 refine vp ?_
  refine gd h F fun F h => ?_
  refine vp ?_
  refine nm (cI .i64) h F fun l13206 F h => ?_
  refine vp ?_
  refine vn ?_
  refine sh ?_
  refine rg0 ?_
  iterate 2 refine vp ?_
  refine vn ?_
  exact nx [some 0, some 3] ((IntKind.i64.wrap (p13197 + 1)), l13206) h
theorem con_slices_IndexFunc_api_Rung_c117 {n : Nat} {s0 : List ApiRung} {b0 : ApiRung} {r : Int} (h : slices_IndexFunc_api_Rung_c117 n s0 b0 = some r) : ConH Tryd.prog G0 119 [aL cApiRung s0, .clos 117 [] [.hptr 0 0 0]] [.var [.str b0.Label, aL cApiContact b0.Contacts, aL cApiCoil b0.Coils, .str b0.Jump]] (.int .i64 r) [.var [.str b0.Label, aL cApiContact b0.Contacts, aL cApiCoil b0.Coils, .str b0.Jump]] := by
  refine conH_of (T := TT0) tt_ok Tryd.func119 (c := _) (by unfold Tryd.f119; rfl) Tryd.ntmps119 (rs := [.tmp 4]) (by rw [Tryd.results119]) (by unfold Tryd.f119; rfl) (by simp) (k := 1) rfl rfl ?_
  try simp only [argsCh]
  have F := True.intro
  dsimp only [slices_IndexFunc_api_Rung_c117] at h
  refine rs0 ?_
  refine vp ?_
  refine vn ?_
  refine Wp.seq ?_
  refine rs0 ?_
  iterate 3 refine vp ?_
  refine vn ?_
  refine Wp.block ?_
  refine lp [some 0] (fun p10759 : Int => { ch := [(0, aL cApiRung s0), (1, .clos 117 [] [.hptr 0 0 0]), (7, .int .i64 (s0.length : Int)), (8, .int .i64 p10759)], hp := [.var [.str b0.Label, aL cApiContact b0.Contacts, aL cApiCoil b0.Coils, .str b0.Jump]], base := 1, n := 19, cond := True, gl := G0 }) (fun m x => slices_IndexFunc_api_Rung_c117_L1 n s0 b0 m x = some r) n 0 h ?_
  rintro rec_n1 p10759 h
  dsimp only [slices_IndexFunc_api_Rung_c117_L1] at h
  try dsimp only
  refine rs0 ?_
  refine vp ?_
  refine vn ?_
  refine Wp.seq ?_
  refine sD h F (fun F h => ?_) fun F h => ?_
  refine cF ?_
  refine Wp.exit ?_
  refine sh ?_
  refine rs0 ?_
  refine vp ?_
  refine vn ?_
  cases h
  exact Wp.ret (enH [some 0])
  refine cT ?_
  refine Wp.skip ?_
  refine sh ?_
  refine Wp.seq ?_
  refine Wp.block ?_
  refine rs0 ?_
  iterate 2 refine vp ?_
  refine vn ?_
  refine rs0 ?_
  iterate 3 refine vp ?_
  refine eI h F fun x10763 F h => ?_
  iterate 2 refine vp ?_
  obtain ⟨r10765, hr10764, h⟩ := obind h
  refine vh [0] (con_printer_rung_1 hr10764) ?_
  refine vn ?_
  refine sB h F (fun F h => ?_) fun F h => ?_
  refine cF ?_
  refine Wp.skip ?_
  refine sh ?_
  refine rg0 ?_
  iterate 2 refine vp ?_
  refine vn ?_
  exact nx [some 0] (IntKind.i64.wrap (p10759 + 1)) h
  refine cT ?_
  refine rs0 ?_
  iterate 2 refine vp ?_
  refine vn ?_
  cases h
  exact Wp.ret (enH [some 0])
theorem con_cmp_Compare_int {n : Nat} {x_0 : Int} {y1 : Int} {r : Int} (h : cmp_Compare_int n x_0 y1 = some r) : Con Tryd.prog G0 55 [.int .i64 x_0, .int .i64 y1] (.int .i64 r) [] := by
  refine con_of (T := TT0) tt_ok Tryd.func55 (c := _) (by unfold Tryd.f55; rfl) Tryd.ntmps55 (rs := [.tmp 4]) (by rw [Tryd.results55]) (by unfold Tryd.f55; rfl) (by simp) ?_
  simp only [argsCh]
  have F := True.intro
  dsimp only [cmp_Compare_int] at h
  refine rs0 ?_
  refine vp ?_
  refine vn ?_
  refine rs0 ?_
  refine vp ?_
  obtain ⟨r15155, hr15154, h⟩ := obind h
  refine vc (con_cmp_isNaN_int hr15154) ?_
  refine vp ?_
  refine vn ?_
  refine rs0 ?_
  refine vp ?_
  obtain ⟨r15157, hr15156, h⟩ := obind h
  refine vc (con_cmp_isNaN_int hr15156) ?_
  refine vp ?_
  refine vn ?_
  refine Wp.seq ?_
  refine rs0 ?_
  refine vp ?_
  refine vn ?_
  refine sB h F (fun F h => ?_) fun F h => ?_
  refine cF ?_
  refine Wp.skip ?_
  refine sh ?_
  refine Wp.seq ?_
  refine rs0 ?_
  refine vp ?_
  refine vn ?_
  refine sB h F (fun F h => ?_) fun F h => ?_
  refine cF ?_
  refine Wp.skip ?_
  refine sh ?_
  refine Wp.seq ?_
  refine rs0 ?_
  iterate 3 refine vp ?_
  refine vn ?_
  refine sD h F (fun F h => ?_) fun F h => ?_
  refine cF ?_
  refine Wp.skip ?_
  refine sh ?_
  refine Wp.seq ?_
  refine rs0 ?_
  iterate 3 refine vp ?_
  refine vn ?_
  refine sD h F (fun F h => ?_) fun F h => ?_
  refine cF ?_
  refine Wp.skip ?_
  refine sh ?_
  refine rs0 ?_
  refine vp ?_
  refine vn ?_
  cases h
  exact Wp.ret en0
  refine cT ?_
  refine rs0 ?_
  refine vp ?_
  refine vn ?_
  cases h
  exact Wp.ret en0
  refine cT ?_
  refine rs0 ?_
  refine vp ?_
  refine vn ?_
  cases h
  exact Wp.ret en0
  refine cT ?_
  refine rs0 ?_
  refine vp ?_
  refine vn ?_
  cases h
  exact Wp.ret en0
  refine cT ?_
  refine Wp.seq ?_
  refine rs0 ?_
  refine vp ?_
  refine vn ?_
  refine sB h F (fun F h => ?_) fun F h => ?_
  refine cF ?_
  refine Wp.skip ?_
  refine sh ?_
  refine rs0 ?_
  refine vp ?_
  refine vn ?_
  cases h
  exact Wp.ret en0
  refine cT ?_
  refine rs0 ?_
  refine vp ?_
  refine vn ?_
  cases h
  exact Wp.ret en0
theorem con_addr_CheckAddr {n : Nat} {s0 : ApiSize} {a1 : ApiAddr} {r : Int} (h : addr_CheckAddr n s0 a1 = some r) : Con Tryd.prog G0 136 [.agg (cApiSize s0), .agg (cApiAddr a1)] (.int .i64 r) [] := by
  refine con_of (T := TT0) tt_ok Tryd.func136 (c := _) (by unfold Tryd.f136; rfl) Tryd.ntmps136 (rs := [.tmp 4]) (by rw [Tryd.results136]) (by unfold Tryd.f136; rfl) (by simp) ?_
  simp only [argsCh]
  have F := True.intro
  dsimp only [addr_CheckAddr] at h
  refine rs0 ?_
  iterate 3 refine vp ?_
  refine vn ?_
  refine Wp.seq ?_
  refine Wp.block ?_
  refine rs0 ?_
  iterate 2 refine vp ?_
  obtain ⟨r10774, hr10773, h⟩ := obind h
  refine vc (con_addr_within hr10773) ?_
  iterate 2 refine vp ?_
  refine vn ?_
  refine sB h F (fun F h => ?_) fun F h => ?_
  refine cF ?_
  refine dw (fun _ => false) [0, 1] ?_
  refine du 5 ?_
  obtain ⟨r10776, hr10775, h⟩ := obind h
  refine dc (con_addr_Width hr10775) ?_
  refine du 1 ?_
  obtain ⟨r10778, hr10777, h⟩ := obind h
  refine dc (con_addr_within hr10777) ?_
  refine du 2 ?_
  refine dn ?_
  refine sB h F (fun F h => ?_) fun F h => ?_
  refine cF ?_
  refine Wp.skip ?_
  refine sh ?_
  refine rs0 ?_
  refine vp ?_
  refine vn ?_
  cases h
  exact Wp.ret en0
  refine cT ?_
  refine rs0 ?_
  refine vp ?_
  refine vn ?_
  cases h
  exact Wp.ret en0
  refine cT ?_
  refine rs0 ?_
  refine vp ?_
  refine vn ?_
  cases h
  exact Wp.ret en0
end Go.Proofs.YtaebdeidbibfkaaDoor
