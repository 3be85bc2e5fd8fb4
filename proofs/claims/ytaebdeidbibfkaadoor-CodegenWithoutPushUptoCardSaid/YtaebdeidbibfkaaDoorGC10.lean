/- Contracts: models of functions are right. No law is proved here. -/
import Derived.Test.YtaebdeidbibfkaaDoorGMod
import Derived.Test.YtaebdeidbibfkaaDoorTab
import Derived.Test.YtaebdeidbibfkaaDoorGC1
import Derived.Test.YtaebdeidbibfkaaDoorGC5
import Derived.Test.YtaebdeidbibfkaaDoorGC7
import Derived.Test.YtaebdeidbibfkaaDoorGC8
import Derived.Test.YtaebdeidbibfkaaDoorGC9
namespace Go.Proofs.YtaebdeidbibfkaaDoor
open Go.Av Go.G
attribute [-simp] Int.natCast_tdiv_eq_ediv
attribute [local simp] runf guardA opf St.ev Go.Av.look St.setd constAV constAV0 opBin opLen intBin St.need lookT TT0 tab resA resOne resAll blt_dec ble_dec beq_dec isPure
attribute [local simp] opMakeSlice opCopy opIndexAddr opLoad opStore St.mem St.rows opUn calleeA toArgs toArg toArg0 toArgs0 shift shift0 shift1 splice cellsOf isFree ofCells TS.isAgg isCell strBin opConvert
attribute [local simp] opSlice3 opClear fz_clear opBuildSlice fillA opAppend eqC eqA cksB ckB St.newBox runI valKind withinB readsHp refsD refs noSl opFieldAddr opBuild opMax opMin placeOf Op.operands Call.operands opIndex opExtract opSlice opField partA
attribute [local simp] loA hiA lenA opMakeMap opLookup opMapUpdate keyOk findA_int findA_str findA_bool putA_strB putA_strI putA_strS putA_intB putA_intI putA_intS putA_boolI putA_boolB mAV_length mAV_nil cA1 cA2 cA3 cA4 opNilCheck opMakeFunc opRange
attribute [local simp] aL cI cB cS cL rw_map fz_rw fz_const dropRow_rw fz_append fz_set fz_copy fz_rows rowLen_rw rowsLen_nil rowsLen_cons rowsLen_append rowsLen_map rowsLen_dm rowsLen_tm rowsLen_take rowsLen_drop rowsLen_replicate take_map_len take_map_le drop_map_len take_drop_len chunks isScalar isScalar0
attribute [local simp] putBack putAt objMap mapC mapA mapT map0 bid rid memB passed closedB argsH argH argH0 argsH0 objIds ids0 idsC isLocT isLocA isLocC isLoc0 LocObj
attribute [local congr] bind_congr1 map_congr1 cond_congr1
attribute [local simp] cApiAddr cApiContact cApiCoil cApiRung cApiIns cApiLadder cApiSize cApiProgram cReducePair cReduceEdge cTreeTree_eq TreeTree_Kind_mk TreeTree_N_mk TreeTree_Kids_mk eta_TreeTree
set_option maxHeartbeats 4000000
set_option maxRecDepth 20000
set_option linter.unusedSimpArgs false
set_option linter.unusedVariables false

theorem con_printer_Check {n : Nat} {_append0 : ApiLadder} {r : Int × Int} (h : printer_Check n _append0 = some r) : Con Tryd.prog G0 60 [.agg (cApiLadder _append0)] (.tup [.int .i64 r.1, .int .i64 r.2]) [] := by
  refine con_of (T := TT0) tt_ok Tryd.func60 (c := _) (by unfold Tryd.f60; rfl) Tryd.ntmps60 (rs := [.tmp 2, .tmp 3]) (by rw [Tryd.results60]) (by unfold Tryd.f60; rfl) (by simp) ?_
  simp only [argsCh]
  have F := True.intro
  dsimp only [printer_Check] at h
  refine rs0 ?_
  iterate 3 refine vp ?_
  refine vn ?_
  refine rs0 ?_
  refine vp ?_
  obtain ⟨r41954, hr41953, h⟩ := obind h
  refine vc (con_printer_sizes hr41953) ?_
  iterate 2 refine vp ?_
  refine vn ?_
  refine Wp.seq ?_
  refine Wp.block ?_
  refine rs0 ?_
  refine vp ?_
  obtain ⟨r41966, hr41965, h⟩ := obind h
  refine vc (con_addr_CheckSize hr41965) ?_
  iterate 2 refine vp ?_
  refine vn ?_
  refine sB h F (fun F h => ?_) fun F h => ?_
  refine cF ?_
  refine rs0 ?_
  iterate 5 refine vp ?_
  refine vn ?_
  refine sD h F (fun F h => ?_) fun F h => ?_
  refine cF ?_
  refine Wp.skip ?_
  refine sh ?_
  refine jn (fun _ : Unit => { ch := [(1, .hptr 0 0 0)], hp := [.var [.int .i64 _append0.I, .int .i64 _append0.Q, .int .i64 _append0.M, aL cApiRung _append0.Rungs]], base := 0, n := 67, cond := True, gl := G0 }) (fun x => printer_Check_J1 n _append0 = some r) ?_ ?_
  clear h
  rintro _ h
  dsimp only [printer_Check_J1] at h
  try dsimp only
  refine Wp.seq ?_
  refine rs0 ?_
  iterate 4 refine vp ?_
  refine vn ?_
  refine Wp.block ?_
  refine lp [some 0] (fun p42133 : Int => { ch := [(1, .hptr 0 0 0), (42, aL cApiRung _append0.Rungs), (43, .int .i64 (_append0.Rungs.length : Int)), (44, .int .i64 p42133)], hp := [.var [.int .i64 _append0.I, .int .i64 _append0.Q, .int .i64 _append0.M, aL cApiRung _append0.Rungs]], base := 0, n := 67, cond := True, gl := G0 }) (fun m x => printer_Check_L2 n _append0 m x = some r) n 0 h ?_
  rintro rec_n2 p42133 h
  dsimp only [printer_Check_L2] at h
  try dsimp only
  refine rs0 ?_
  refine vp ?_
  refine vn ?_
  refine Wp.seq ?_
  refine sD h F (fun F h => ?_) fun F h => ?_
  refine cF ?_
  refine Wp.exit ?_
  refine sh ?_
  refine rs0 ?_
  iterate 5 refine vp ?_
  refine vn ?_
  cases h
  exact Wp.ret en0
  refine cT ?_
  refine Wp.skip ?_
  refine sh ?_
  refine Wp.seq ?_
  refine Wp.block ?_
  refine rs0 ?_
  refine vp ?_
  refine eI h F fun x42138 F h => ?_
  iterate 5 refine vp ?_
  refine vn ?_
  refine rs0 ?_
  iterate 4 refine vp ?_
  refine sEn h F (fun _ F h => ?_) fun _ F h => ?_
  refine vs ?_
  refine vs ?_
  refine vs ?_
  refine vs ?_
  refine vs ?_
  refine vs ?_
  refine vs ?_
  refine vs ?_
  refine vp ?_
  refine vn ?_
  refine cF ?_
  refine Wp.skip ?_
  refine sh ?_
  refine rg0 ?_
  iterate 2 refine vp ?_
  refine vn ?_
  exact nx [some 0] (IntKind.i64.wrap (p42133 + 1)) h
  refine vg ?_
  refine vg ?_
  refine vg ?_
  refine vg ?_
  refine gd h F fun F h => ?_
  refine vg ?_
  refine nm cApiRung h F fun l42139 F h => ?_
  refine vg ?_
  obtain ⟨r42141, hr42140, h⟩ := obind h
  refine vh [1] (con_slices_ContainsFunc_api_Rung_c90 hr42140) ?_ (hg := by (simp [F]; done))
  refine vg ?_
  refine vp ?_
  refine vn ?_
  refine sB h F (fun F h => ?_) fun F h => ?_
  refine cF ?_
  refine Wp.skip ?_
  refine sh ?_
  refine rg0 ?_
  iterate 2 refine vp ?_
  refine vn ?_
  exact nx [some 0] (IntKind.i64.wrap (p42133 + 1)) h
  refine cT ?_
  refine rs0 ?_
  iterate 3 refine vp ?_
  refine vn ?_
  cases h
  exact Wp.ret en0
  refine rs0 ?_
  iterate 4 refine vp ?_
  refine vn ?_
  refine Wp.block ?_
  refine lp [some 0, some 1] (fun p42146 : Int => { ch := [(1, .hptr 0 0 0), (4, .hptr 1 0 0), (22, aL cApiRung _append0.Rungs), (23, .int .i64 (_append0.Rungs.length : Int)), (24, .int .i64 p42146)], hp := [.var [.int .i64 _append0.I, .int .i64 _append0.Q, .int .i64 _append0.M, aL cApiRung _append0.Rungs], .var [.int .i64 r41954.I, .int .i64 r41954.Q, .int .i64 r41954.M, .int .i64 r41954.E]], base := 0, n := 67, cond := True, gl := G0 }) (fun m x => printer_Check_L3 n _append0 r41954 m x = some r) n 0 h ?_
  rintro rec_n3 p42146 h
  dsimp only [printer_Check_L3] at h
  try dsimp only
  refine rs0 ?_
  refine vp ?_
  refine vn ?_
  refine Wp.seq ?_
  refine sD h F (fun F h => ?_) fun F h => ?_
  refine cF ?_
  refine Wp.exit ?_
  exact nx [some 0] () h
  refine cT ?_
  refine Wp.skip ?_
  refine sh ?_
  refine Wp.seq ?_
  refine Wp.block ?_
  refine rs0 ?_
  refine vp ?_
  refine eI h F fun x42151 F h => ?_
  iterate 5 refine vp ?_
  refine vn ?_
  refine dw (fun _ => false) [0, 1, 2] ?_
  refine du 4 ?_
  refine gd h F fun F h => ?_
  refine du 1 ?_
  refine nm cApiRung h F fun l42152 F h => ?_
  refine du 1 ?_
  obtain ⟨r42154, hr42153, h⟩ := obind h
  refine dc (con_printer_rung hr42153) ?_
  refine du 1 ?_
  refine dn ?_
  refine rs0 ?_
  iterate 2 refine vp ?_
  refine vn ?_
  refine sB h F (fun F h => ?_) fun F h => ?_
  refine cF ?_
  refine Wp.skip ?_
  refine sh ?_
  refine rg0 ?_
  iterate 2 refine vp ?_
  refine vn ?_
  exact nx [some 0, some 1] (IntKind.i64.wrap (p42146 + 1)) h
  refine cT ?_
  refine rs0 ?_
  iterate 4 refine vp ?_
  refine vn ?_
  cases h
  exact Wp.ret en0
  refine cT ?_
  refine rs0 ?_
  iterate 2 refine vp ?_
  refine vn ?_
  cases h
  exact Wp.ret en0
  refine cT ?_
  refine rs0 ?_
  iterate 2 refine vp ?_
  refine vn ?_
  cases h
  exact Wp.ret en0

theorem con_slices_DeleteFunc_string_c80 {n : Nat} {l0 : List Str} {b1 : List Str} {b2 : List Str} {r : (List Str)} (h : slices_DeleteFunc_string_c80 n l0 b1 b2 = some r) : ConH Tryd.prog G0 79 [.sl 0 0 l0.length, .clos 80 [] [.hptr 1 0 0, .hptr 2 0 0]] [.arr 1 l0.length (rw (l0.map cS)), .var [aL cS b1], .var [aL cS b2]] (.sl 0 0 r.length) [.arr 1 r.length (rw (r.map cS)), .var [aL cS b1], .var [aL cS b2]] := by
  refine conH_of (T := TT0) tt_ok Tryd.func79 (c := _) (by unfold Tryd.f79; rfl) Tryd.ntmps79 (rs := [.tmp 4]) (by rw [Tryd.results79]) (by unfold Tryd.f79; rfl) (by simp) (k := 3) rfl rfl ?_
  try simp only [argsCh]
  have F := True.intro
  dsimp only [slices_DeleteFunc_string_c80] at h
  refine rs0 ?_
  refine vp ?_
  refine vn ?_
  refine rs0 ?_
  iterate 2 refine vp ?_
  obtain ⟨r45963, hr45962, h⟩ := obind h
  refine vh [0, 1, 2] (con_slices_IndexFunc_string_c80_v1 hr45962) ?_
  refine vp ?_
  refine vn ?_
  refine Wp.seq ?_
  refine rs0 ?_
  iterate 2 refine vp ?_
  refine vn ?_
  refine sB h F (fun F h => ?_) fun F h => ?_
  refine cF ?_
  refine Wp.skip ?_
  refine sh ?_
  refine Wp.seq ?_
  refine rs0 ?_
  iterate 3 refine vp ?_
  refine vn ?_
  refine Wp.block ?_
  refine lp [some 0, some 1, some 2] (fun x : (List Str) × Int × Int => { ch := [(0, .sl 0 0 x.1.length), (1, .clos 80 [] [.hptr 1 0 0, .hptr 2 0 0]), (5, .int .i64 x.2.1), (6, .int .i64 x.2.2)], hp := [.arr 1 x.1.length (rw (x.1.map cS)), .var [aL cS b1], .var [aL cS b2]], base := 3, n := 42, cond := True, gl := G0 }) (fun m x => slices_DeleteFunc_string_c80_L1 n b1 b2 m x.1 x.2.1 x.2.2 = some r) n (l0, r45963, (IntKind.i64.wrap (r45963 + 1))) h ?_
  rintro rec_n1 ⟨l45969, r45970, p45971⟩ h
  dsimp only [slices_DeleteFunc_string_c80_L1] at h
  try dsimp only
  refine Wp.seq ?_
  refine rs0 ?_
  iterate 4 refine vp ?_
  refine vn ?_
  refine sD h F (fun F h => ?_) fun F h => ?_
  refine cF ?_
  refine Wp.exit ?_
  refine sh ?_
  refine rs0 ?_
  iterate 2 refine vp ?_
  refine gd h F fun F h => ?_
  refine vp ?_
  refine gd h F fun F h => ?_
  refine vp ?_
  refine vn ?_
  refine rl [some 0, some 1, some 2] { ch := [(0, .sl 0 0 l45969.length), (1, .clos 80 [] [.hptr 1 0 0, .hptr 2 0 0]), (5, .int .i64 r45970), (6, .int .i64 p45971), (16, .int .i64 p45971), (17, .sl 0 0 l45969.length), (18, .int .i64 (l45969.length : Int)), (19, .bool (decide (p45971 < (l45969.length : Int)))), (36, .sl 0 0 l45969.length), (37, .int .i64 r45970), (38, .sl 0 r45970.toNat (l45969.length - r45970.toNat))], hp := [.arr 1 (l45969.take r45970.toNat).length (rw ((l45969.take r45970.toNat).map cS)), .var [aL cS b1], .var [aL cS b2]], base := 3, n := 42, cond := True, gl := G0 } ?_
  refine rs0 ?_
  iterate 2 refine vp ?_
  refine gd h F fun F h => ?_
  iterate 2 refine vp ?_
  refine vn ?_
  cases h
  exact Wp.ret (enH [some 0, some 1, some 2])
  refine cT ?_
  refine Wp.skip ?_
  refine sh ?_
  refine Wp.seq ?_
  refine Wp.block ?_
  refine rs0 ?_
  iterate 2 refine vp ?_
  refine eI h F fun x45977 F h => ?_
  iterate 3 refine vp ?_
  refine vn ?_
  refine rs0 ?_
  iterate 2 refine vp ?_
  obtain ⟨r45979, hr45978, h⟩ := obind h
  refine vh [1, 2] (con_flow_DeadNodes_1 hr45978) ?_
  refine vp ?_
  refine vn ?_
  refine sB h F (fun F h => ?_) fun F h => ?_
  refine cF ?_
  refine Wp.skip ?_
  refine sh ?_
  refine rg0 ?_
  iterate 3 refine vp ?_
  refine vn ?_
  exact nx [some 0, some 1, some 2] (l45969, r45970, (IntKind.i64.wrap (p45971 + 1))) h
  refine cT ?_
  refine rs0 ?_
  iterate 3 refine vp ?_
  refine eI h F fun x45980 F h => ?_
  iterate 2 refine vp ?_
  refine nm cS h F fun l45981 F h => ?_
  refine vn ?_
  refine rg0 ?_
  iterate 3 refine vp ?_
  refine vn ?_
  refine sh ?_
  refine rg0 ?_
  iterate 3 refine vp ?_
  refine vn ?_
  exact nx [some 0, some 1, some 2] (l45981, (IntKind.i64.wrap (r45970 + 1)), (IntKind.i64.wrap (p45971 + 1))) h
  refine cT ?_
  refine rs0 ?_
  iterate 2 refine vp ?_
  refine vn ?_
  cases h
  exact Wp.ret (enH [some 0, some 1, some 2])

theorem con_graph_gather_1_c101_127 (n : Nat) : ∀ {n_0 : Str} {m1 : List (Str × Bool)} {b3 : ApiRung} {r : (List (Str × Bool))}, graph_gather_1_c101_127 n n_0 m1 b3 = some r → ConH Tryd.prog G0 127 [.str n_0, .hptr 0 0 0, .hptr 2 0 0, .hptr 4 0 0] [.var [.mp 1], .map (mAV AV.str cB m1), .var [.clos 101 [] [.hptr 3 0 0]], .var [.str b3.Label, aL cApiContact b3.Contacts, aL cApiCoil b3.Coils, .str b3.Jump], .var [.clos 127 [] [.hptr 0 0 0, .hptr 2 0 0, .hptr 4 0 0]]] (.tup []) [.var [.mp 1], .map (mAV AV.str cB r), .var [.clos 101 [] [.hptr 3 0 0]], .var [.str b3.Label, aL cApiContact b3.Contacts, aL cApiCoil b3.Coils, .str b3.Jump], .var [.clos 127 [] [.hptr 0 0 0, .hptr 2 0 0, .hptr 4 0 0]]] := by
  induction n with
  | zero => intro n_0 m1 b3 r h; simp [graph_gather_1_c101_127] at h
  | succ n Hslf_graph_gather_1_c101_127 =>
   intro n_0 m1 b3 r h
   refine conH_of (T := TT0) tt_ok Tryd.func127 (c := _) (by unfold Tryd.f127; rfl) Tryd.ntmps127 (rs := []) (by rw [Tryd.results127]) (by unfold Tryd.f127; rfl) (by simp) (k := 5) rfl rfl ?_
   try simp only [argsCh]
   have F := True.intro
   dsimp only [graph_gather_1_c101_127] at h
   refine Wp.seq ?_
   refine rs0 ?_
   iterate 3 refine vp ?_
   refine vn ?_
   refine sB h F (fun F h => ?_) fun F h => ?_
   refine cF ?_
   refine Wp.skip ?_
   refine sh ?_
   refine rs0 ?_
   iterate 3 refine vp ?_
   refine vn ?_
   refine rs0 ?_
   iterate 2 refine vp ?_
   obtain ⟨r45563, hr45562, h⟩ := obind h
   refine vh [3] (con_graph_Reachable_1 hr45562) ?_
   iterate 2 refine vp ?_
   refine vn ?_
   refine Wp.block ?_
   refine lp [some 0, some 1, some 2, some 3, some 4] (fun x : (List (Str × Bool)) × Int => { ch := [(3, .hptr 4 0 0), (14, aL cS r45563), (15, .int .i64 (r45563.length : Int)), (16, .int .i64 x.2)], hp := [.var [.mp 1], .map (mAV AV.str cB x.1), .var [.clos 101 [] [.hptr 3 0 0]], .var [.str b3.Label, aL cApiContact b3.Contacts, aL cApiCoil b3.Coils, .str b3.Jump], .var [.clos 127 [] [.hptr 0 0 0, .hptr 2 0 0, .hptr 4 0 0]]], base := 5, n := 24, cond := True, gl := G0 }) (fun m x => graph_gather_1_c101_127_L1 b3 r45563 (graph_gather_1_c101_127 n) m x.1 x.2 = some r) n ((mPut m1 n_0 true), 0) h ?_
   rintro rec_n1 ⟨p45567, p45568⟩ h
   dsimp only [graph_gather_1_c101_127_L1] at h
   try dsimp only
   refine rs0 ?_
   refine vp ?_
   refine vn ?_
   refine Wp.seq ?_
   refine sD h F (fun F h => ?_) fun F h => ?_
   refine cF ?_
   refine Wp.exit ?_
   cases h
   exact n2r (enH [some 0, some 1, some 2, some 3, some 4])
   refine cT ?_
   refine Wp.skip ?_
   refine sh ?_
   refine Wp.seq ?_
   refine Wp.block ?_
   refine rs0 ?_
   refine eI h F fun x45572 F h => ?_
   iterate 3 refine vp ?_
   refine vn ?_
   refine rg0 ?_
   iterate 2 refine vp ?_
   obtain ⟨q45574, hr45573, h⟩ := obind h
   refine vh [0, 1, 2, 3, 4] (Hslf_graph_gather_1_c101_127 hr45573) ?_
   refine vn ?_
   refine sh ?_
   refine rg0 ?_
   iterate 2 refine vp ?_
   refine vn ?_
   exact nx [some 0, some 1, some 2, some 3, some 4] (q45574, (IntKind.i64.wrap (p45568 + 1))) h
   refine cT ?_
   cases h
   exact Wp.ret (enH [some 0, some 1, some 2, some 3, some 4])

theorem con_graph_gather_1_c103_127 (n : Nat) : ∀ {n_0 : Str} {m1 : List (Str × Bool)} {b3 : ApiRung} {r : (List (Str × Bool))}, graph_gather_1_c103_127 n n_0 m1 b3 = some r → ConH Tryd.prog G0 127 [.str n_0, .hptr 0 0 0, .hptr 2 0 0, .hptr 4 0 0] [.var [.mp 1], .map (mAV AV.str cB m1), .var [.clos 103 [] [.hptr 3 0 0]], .var [.str b3.Label, aL cApiContact b3.Contacts, aL cApiCoil b3.Coils, .str b3.Jump], .var [.clos 127 [] [.hptr 0 0 0, .hptr 2 0 0, .hptr 4 0 0]]] (.tup []) [.var [.mp 1], .map (mAV AV.str cB r), .var [.clos 103 [] [.hptr 3 0 0]], .var [.str b3.Label, aL cApiContact b3.Contacts, aL cApiCoil b3.Coils, .str b3.Jump], .var [.clos 127 [] [.hptr 0 0 0, .hptr 2 0 0, .hptr 4 0 0]]] := by
  induction n with
  | zero => intro n_0 m1 b3 r h; simp [graph_gather_1_c103_127] at h
  | succ n Hslf_graph_gather_1_c103_127 =>
   intro n_0 m1 b3 r h
   refine conH_of (T := TT0) tt_ok Tryd.func127 (c := _) (by unfold Tryd.f127; rfl) Tryd.ntmps127 (rs := []) (by rw [Tryd.results127]) (by unfold Tryd.f127; rfl) (by simp) (k := 5) rfl rfl ?_
   try simp only [argsCh]
   have F := True.intro
   dsimp only [graph_gather_1_c103_127] at h
   refine Wp.seq ?_
   refine rs0 ?_
   iterate 3 refine vp ?_
   refine vn ?_
   refine sB h F (fun F h => ?_) fun F h => ?_
   refine cF ?_
   refine Wp.skip ?_
   refine sh ?_
   refine rs0 ?_
   iterate 3 refine vp ?_
   refine vn ?_
   refine rs0 ?_
   iterate 2 refine vp ?_
   obtain ⟨r45851, hr45850, h⟩ := obind h
   refine vh [3] (con_graph_Ancestors_1 hr45850) ?_
   iterate 2 refine vp ?_
   refine vn ?_
   refine Wp.block ?_
   refine lp [some 0, some 1, some 2, some 3, some 4] (fun x : (List (Str × Bool)) × Int => { ch := [(3, .hptr 4 0 0), (14, aL cS r45851), (15, .int .i64 (r45851.length : Int)), (16, .int .i64 x.2)], hp := [.var [.mp 1], .map (mAV AV.str cB x.1), .var [.clos 103 [] [.hptr 3 0 0]], .var [.str b3.Label, aL cApiContact b3.Contacts, aL cApiCoil b3.Coils, .str b3.Jump], .var [.clos 127 [] [.hptr 0 0 0, .hptr 2 0 0, .hptr 4 0 0]]], base := 5, n := 24, cond := True, gl := G0 }) (fun m x => graph_gather_1_c103_127_L1 b3 r45851 (graph_gather_1_c103_127 n) m x.1 x.2 = some r) n ((mPut m1 n_0 true), 0) h ?_
   rintro rec_n1 ⟨p45855, p45856⟩ h
   dsimp only [graph_gather_1_c103_127_L1] at h
   try dsimp only
   refine rs0 ?_
   refine vp ?_
   refine vn ?_
   refine Wp.seq ?_
   refine sD h F (fun F h => ?_) fun F h => ?_
   refine cF ?_
   refine Wp.exit ?_
   cases h
   exact n2r (enH [some 0, some 1, some 2, some 3, some 4])
   refine cT ?_
   refine Wp.skip ?_
   refine sh ?_
   refine Wp.seq ?_
   refine Wp.block ?_
   refine rs0 ?_
   refine eI h F fun x45860 F h => ?_
   iterate 3 refine vp ?_
   refine vn ?_
   refine rg0 ?_
   iterate 2 refine vp ?_
   obtain ⟨q45862, hr45861, h⟩ := obind h
   refine vh [0, 1, 2, 3, 4] (Hslf_graph_gather_1_c103_127 hr45861) ?_
   refine vn ?_
   refine sh ?_
   refine rg0 ?_
   iterate 2 refine vp ?_
   refine vn ?_
   exact nx [some 0, some 1, some 2, some 3, some 4] (q45862, (IntKind.i64.wrap (p45856 + 1))) h
   refine cT ?_
   cases h
   exact Wp.ret (enH [some 0, some 1, some 2, some 3, some 4])

theorem con_slices_IndexFunc_string_c72_v1 {n : Nat} {l0 : List Str} {b1 : ApiRung} {m3 : List (Str × Bool)} {r : Int} (h : slices_IndexFunc_string_c72_v1 n l0 b1 m3 = some r) : ConH Tryd.prog G0 71 [.sl 0 0 l0.length, .clos 72 [] [.hptr 1 0 0, .hptr 2 0 0]] [.arr 1 l0.length (rw (l0.map cS)), .var [.str b1.Label, aL cApiContact b1.Contacts, aL cApiCoil b1.Coils, .str b1.Jump], .var [.mp 3], .map (mAV AV.str cB m3)] (.int .i64 r) [.arr 1 l0.length (rw (l0.map cS)), .var [.str b1.Label, aL cApiContact b1.Contacts, aL cApiCoil b1.Coils, .str b1.Jump], .var [.mp 3], .map (mAV AV.str cB m3)] := by
  refine conH_of (T := TT0) tt_ok Tryd.func71 (c := _) (by unfold Tryd.f71; rfl) Tryd.ntmps71 (rs := [.tmp 4]) (by rw [Tryd.results71]) (by unfold Tryd.f71; rfl) (by simp) (k := 4) rfl rfl ?_
  try simp only [argsCh]
  have F := True.intro
  dsimp only [slices_IndexFunc_string_c72_v1] at h
  refine rs0 ?_
  refine vp ?_
  refine vn ?_
  refine Wp.seq ?_
  refine rs0 ?_
  iterate 3 refine vp ?_
  refine vn ?_
  refine Wp.block ?_
  refine lp [some 0, some 1, some 2, some 3] (fun p44487 : Int => { ch := [(0, .sl 0 0 l0.length), (1, .clos 72 [] [.hptr 1 0 0, .hptr 2 0 0]), (7, .int .i64 (l0.length : Int)), (8, .int .i64 p44487)], hp := [.arr 1 l0.length (rw (l0.map cS)), .var [.str b1.Label, aL cApiContact b1.Contacts, aL cApiCoil b1.Coils, .str b1.Jump], .var [.mp 3], .map (mAV AV.str cB m3)], base := 4, n := 19, cond := True, gl := G0 }) (fun m x => slices_IndexFunc_string_c72_v1_L1 n l0 b1 m3 m x = some r) n 0 h ?_
  rintro rec_n1 p44487 h
  dsimp only [slices_IndexFunc_string_c72_v1_L1] at h
  try dsimp only
  refine rs0 ?_
  refine vp ?_
  refine vn ?_
  refine Wp.seq ?_
  refine sD h F (fun F h => ?_) fun F h => ?_
  refine cF ?_
  refine Wp.exit ?_
  refine sh ?_
  refine rs0 ?_
  refine vp ?_
  refine vn ?_
  cases h
  exact Wp.ret (enH [some 0, some 1, some 2, some 3])
  refine cT ?_
  refine Wp.skip ?_
  refine sh ?_
  refine Wp.seq ?_
  refine Wp.block ?_
  refine rs0 ?_
  iterate 2 refine vp ?_
  refine vn ?_
  refine rs0 ?_
  iterate 3 refine vp ?_
  refine eI h F fun x44491 F h => ?_
  iterate 2 refine vp ?_
  obtain ⟨r44493, hr44492, h⟩ := obind h
  refine vh [1, 2, 3] (con_graph_TopoSort_1 hr44492) ?_
  refine vn ?_
  refine sB h F (fun F h => ?_) fun F h => ?_
  refine cF ?_
  refine Wp.skip ?_
  refine sh ?_
  refine rg0 ?_
  iterate 2 refine vp ?_
  refine vn ?_
  exact nx [some 0, some 1, some 2, some 3] (IntKind.i64.wrap (p44487 + 1)) h
  refine cT ?_
  refine rs0 ?_
  iterate 2 refine vp ?_
  refine vn ?_
  cases h
  exact Wp.ret (enH [some 0, some 1, some 2, some 3])

theorem con_tree_Check {n : Nat} {t0 : TreeTree} {many1 : Int} {r : Int} (h : tree_Check n t0 many1 = some r) : Con Tryd.prog G0 26 [.agg [.int .i64 t0.Kind, .int .i64 t0.N, aL cTreeTree t0.Kids], .int .i64 many1] (.int .i64 r) [] := by
  refine con_of (T := TT0) tt_ok Tryd.func26 (c := _) (by unfold Tryd.f26; rfl) Tryd.ntmps26 (rs := [.tmp 4]) (by rw [Tryd.results26]) (by unfold Tryd.f26; rfl) (by simp) ?_
  simp only [argsCh]
  have F := True.intro
  dsimp only [tree_Check] at h
  refine rs0 ?_
  iterate 2 refine vp ?_
  refine vn ?_
  refine rs0 ?_
  iterate 2 refine vp ?_
  refine vn ?_
  refine rs0 ?_
  iterate 3 refine vp ?_
  obtain ⟨⟨r46494, q46495⟩, hr46493, h⟩ := obind h
  dsimp only at h
  refine vh [1] (con_tree_Tree_check _ hr46493) ?_
  refine vp ?_
  refine vn ?_
  refine Wp.seq ?_
  refine rs0 ?_
  iterate 3 refine vp ?_
  refine sB h F (fun F h => ?_) fun F h => ?_
  refine vs ?_
  refine vs ?_
  refine vs ?_
  refine vs ?_
  refine vs ?_
  refine vp ?_
  refine vn ?_
  refine cF ?_
  refine Wp.skip ?_
  refine sh ?_
  refine rs0 ?_
  iterate 2 refine vp ?_
  refine vn ?_
  cases h
  exact Wp.ret en0
  refine vg ?_
  refine vg ?_
  refine vg ?_
  refine vg ?_
  refine vg ?_
  refine vp ?_
  refine vn ?_
  refine sB h F (fun F h => ?_) fun F h => ?_
  refine cF ?_
  refine Wp.skip ?_
  refine sh ?_
  refine rs0 ?_
  iterate 2 refine vp ?_
  refine vn ?_
  cases h
  exact Wp.ret en0
  refine cT ?_
  refine rg0 ?_
  refine vp ?_
  refine vn ?_
  refine sh ?_
  refine rs0 ?_
  iterate 2 refine vp ?_
  refine vn ?_
  cases h
  exact Wp.ret en0

end Go.Proofs.YtaebdeidbibfkaaDoor
