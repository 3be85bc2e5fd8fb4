/- Contracts: models of functions are right. No law is proved here. -/
import Derived.Test.YtaebdeidbibfkaaGreatDoorGMod
import Derived.Test.YtaebdeidbibfkaaGreatDoorTaz
import Derived.Test.YtaebdeidbibfkaaGreatDoorGC6
import Derived.Test.YtaebdeidbibfkaaGreatDoorGC7
import Derived.Test.YtaebdeidbibfkaaGreatDoorGC8
import Derived.Test.YtaebdeidbibfkaaGreatDoorGC9
namespace Go.Proofs.YtaebdeidbibfkaaGreatDoor
open Go.Av Go.G
attribute [-simp] Int.natCast_tdiv_eq_ediv
attribute [local simp] runf guardA opf St.ev Go.Av.look St.setd constAV constAV0 opBin opLen intBin St.need lookT TT0 tab resA resOne resAll blt_dec ble_dec beq_dec isPure
attribute [local simp] opMakeSlice opCopy opIndexAddr opLoad opStore St.mem St.rows opUn calleeA toArgs toArg toArg0 toArgs0 shift shift0 shift1 splice cellsOf isFree ofCells TS.isAgg isCell strBin opConvert
attribute [local simp] opSlice3 opClear fz_clear opBuildSlice fillA opAppend eqC eqA cksB ckB St.newBox runI valKind withinB readsHp refsD refs noSl opFieldAddr opBuild opMax opMin placeOf Op.operands Call.operands opIndex opExtract opSlice opField partA
attribute [local simp] loA hiA lenA opMakeMap opLookup opMapUpdate keyOk findA_int findA_str findA_bool putA_strB putA_strI putA_strS putA_intB putA_intI putA_intS putA_boolI putA_boolB mAV_length mAV_nil cA1 cA2 cA3 cA4 opNilCheck opMakeFunc opRange
attribute [local simp] aL cI cB cS cL rw_map fz_rw fz_const dropRow_rw fz_append fz_set fz_copy fz_rows rowLen_rw rowsLen_nil rowsLen_cons rowsLen_append rowsLen_map rowsLen_dm rowsLen_tm rowsLen_take rowsLen_drop rowsLen_replicate take_map_len take_map_le drop_map_len take_drop_len chunks isScalar isScalar0
attribute [local simp] putBack putAt objMap mapC mapA mapT map0 bid rid memB passed closedB argsH argH argH0 argsH0 objIds ids0 idsC isLocT isLocA isLocC isLoc0 LocObj
attribute [local congr] bind_congr1 map_congr1 cond_congr1
attribute [local simp] cApiAddr cApiContact cApiCoil cApiRung cApiIns cApiLadder cApiSize cApiProgram cReducePair cReduceEdge cTreeTree_eq TreeTree_Kind_mk TreeTree_N_mk TreeTree_Kids_mk eta_TreeTree cRef14Tree_eq Ref14Tree_Kind_mk Ref14Tree_N_mk Ref14Tree_Kids_mk eta_Ref14Tree
set_option maxHeartbeats 4000000
set_option maxRecDepth 20000
set_option linter.unusedSimpArgs false
set_option linter.unusedVariables false

theorem con_printer_rung {n : Nat} {_append0 : ApiSize} {a1 : List ApiRung} {a2 : ApiRung} {r : Int} (h : printer_rung n _append0 a1 a2 = some r) : Con Tryz.prog G0 120 [.agg (cApiSize _append0), aL cApiRung a1, .agg (cApiRung a2)] (.int .i64 r) [] := by
  refine con_of (T := TT0) tt_ok Tryz.func120 (c := _) (by unfold Tryz.f120; rfl) Tryz.ntmps120 (rs := [.tmp 6]) (by rw [Tryz.results120]) (by unfold Tryz.f120; rfl) (by simp) ?_
  simp only [argsCh]
  have F := True.intro
  dsimp only [printer_rung] at h
  refine rs0 ?_
  iterate 3 refine vp ?_
  refine vn ?_
  refine jn (fun _ : Unit => { ch := [(3, .hptr 0 0 0), (5, .hptr 1 0 0)], hp := [.var [.int .i64 _append0.I, .int .i64 _append0.Q, .int .i64 _append0.M, .int .i64 _append0.E], .var [.str a2.Label, aL cApiContact a2.Contacts, aL cApiCoil a2.Coils, .str a2.Jump]], base := 0, n := 90, cond := True, gl := G0 }) (fun x => printer_rung_J1 n _append0 a2 = some r) ?_ ?_
  clear h
  rintro _ h
  dsimp only [printer_rung_J1] at h
  try dsimp only
  refine Wp.seq ?_
  refine rs0 ?_
  iterate 4 refine vp ?_
  refine vn ?_
  refine sD h F (fun F h => ?_) fun F h => ?_
  refine cF ?_
  refine Wp.skip ?_
  refine sh ?_
  refine jn (fun _ : Unit => { ch := [(3, .hptr 0 0 0), (5, .hptr 1 0 0)], hp := [.var [.int .i64 _append0.I, .int .i64 _append0.Q, .int .i64 _append0.M, .int .i64 _append0.E], .var [.str a2.Label, aL cApiContact a2.Contacts, aL cApiCoil a2.Coils, .str a2.Jump]], base := 0, n := 90, cond := True, gl := G0 }) (fun x => printer_rung_J2 n _append0 a2 = some r) ?_ ?_
  clear h
  rintro _ h
  dsimp only [printer_rung_J2] at h
  try dsimp only
  refine Wp.seq ?_
  refine rs0 ?_
  iterate 4 refine vp ?_
  refine vn ?_
  refine sD h F (fun F h => ?_) fun F h => ?_
  refine cF ?_
  refine Wp.skip ?_
  refine sh ?_
  refine jn (fun _ : Unit => { ch := [(5, .hptr 0 0 0)], hp := [.var [.str a2.Label, aL cApiContact a2.Contacts, aL cApiCoil a2.Coils, .str a2.Jump]], base := 0, n := 90, cond := True, gl := G0 }) (fun x => printer_rung_J3 n a2 = some r) ?_ ?_
  clear h
  rintro _ h
  dsimp only [printer_rung_J3] at h
  try dsimp only
  refine Wp.seq ?_
  refine rs0 ?_
  iterate 4 refine vp ?_
  refine sEn h F (fun _ F h => ?_) fun _ F h => ?_
  refine vs ?_
  refine vs ?_
  refine vs ?_
  refine vs ?_
  refine vp ?_
  refine vn ?_
  refine cF ?_
  refine Wp.skip ?_
  refine sh ?_
  refine rs0 ?_
  refine vp ?_
  refine vn ?_
  cases h
  exact Wp.ret en0
  refine vg ?_
  refine vg ?_
  obtain ⟨r10682, hr10681, h⟩ := obind h
  refine vc (con_lex_IsName hr10681) ?_ (hg := by (simp [F]; done))
  refine vg ?_
  refine vp ?_
  refine vn ?_
  refine sB h F (fun F h => ?_) fun F h => ?_
  refine cF ?_
  refine Wp.skip ?_
  refine sh ?_
  refine rs0 ?_
  refine vp ?_
  refine vn ?_
  cases h
  exact Wp.ret en0
  refine cT ?_
  refine rs0 ?_
  refine vp ?_
  refine vn ?_
  cases h
  exact Wp.ret en0
  refine rs0 ?_
  iterate 4 refine vp ?_
  refine vn ?_
  refine Wp.block ?_
  refine lp [some 0, some 1] (fun p10686 : Int => { ch := [(3, .hptr 0 0 0), (5, .hptr 1 0 0), (61, aL cApiCoil a2.Coils), (62, .int .i64 (a2.Coils.length : Int)), (63, .int .i64 p10686)], hp := [.var [.int .i64 _append0.I, .int .i64 _append0.Q, .int .i64 _append0.M, .int .i64 _append0.E], .var [.str a2.Label, aL cApiContact a2.Contacts, aL cApiCoil a2.Coils, .str a2.Jump]], base := 0, n := 90, cond := True, gl := G0 }) (fun m x => printer_rung_L4 n _append0 a2 m x = some r) n 0 h ?_
  rintro rec_n4 p10686 h
  dsimp only [printer_rung_L4] at h
  try dsimp only
  refine rs0 ?_
  refine vp ?_
  refine vn ?_
  refine Wp.seq ?_
  refine sD h F (fun F h => ?_) fun F h => ?_
  refine cF ?_
  refine Wp.exit ?_
  exact nx [some 1] () h
  refine cT ?_
  refine Wp.skip ?_
  refine sh ?_
  refine Wp.seq ?_
  refine Wp.block ?_
  refine rs0 ?_
  refine eI h F fun x10690 F h => ?_
  iterate 4 refine vp ?_
  refine vn ?_
  refine Wp.seq ?_
  refine rs0 ?_
  iterate 5 refine vp ?_
  obtain ⟨r10692, hr10691, h⟩ := obind h
  refine vc (con_printer_part hr10691) ?_
  refine vp ?_
  refine vn ?_
  refine rs0 ?_
  iterate 2 refine vp ?_
  refine vn ?_
  refine sB h F (fun F h => ?_) fun F h => ?_
  refine cF ?_
  refine Wp.skip ?_
  refine sh ?_
  refine rs0 ?_
  iterate 4 refine vp ?_
  refine vn ?_
  refine sB h F (fun F h => ?_) fun F h => ?_
  refine cF ?_
  refine Wp.skip ?_
  refine sh ?_
  refine rg0 ?_
  iterate 2 refine vp ?_
  refine vn ?_
  exact nx [some 0, some 1] (IntKind.i64.wrap (p10686 + 1)) h
  refine cT ?_
  refine rs0 ?_
  refine vp ?_
  refine vn ?_
  cases h
  exact Wp.ret en0
  refine cT ?_
  refine rs0 ?_
  iterate 2 refine vp ?_
  refine vn ?_
  cases h
  exact Wp.ret en0
  refine cT ?_
  refine rs0 ?_
  refine vp ?_
  refine vn ?_
  cases h
  exact Wp.ret en0
  refine rs0 ?_
  iterate 4 refine vp ?_
  refine vn ?_
  refine Wp.block ?_
  refine lp [some 0, some 1] (fun p10702 : Int => { ch := [(3, .hptr 0 0 0), (5, .hptr 1 0 0), (30, aL cApiContact a2.Contacts), (31, .int .i64 (a2.Contacts.length : Int)), (32, .int .i64 p10702)], hp := [.var [.int .i64 _append0.I, .int .i64 _append0.Q, .int .i64 _append0.M, .int .i64 _append0.E], .var [.str a2.Label, aL cApiContact a2.Contacts, aL cApiCoil a2.Coils, .str a2.Jump]], base := 0, n := 90, cond := True, gl := G0 }) (fun m x => printer_rung_L5 n _append0 a2 m x = some r) n 0 h ?_
  rintro rec_n5 p10702 h
  dsimp only [printer_rung_L5] at h
  try dsimp only
  refine rs0 ?_
  refine vp ?_
  refine vn ?_
  refine Wp.seq ?_
  refine sD h F (fun F h => ?_) fun F h => ?_
  refine cF ?_
  refine Wp.exit ?_
  exact nx [some 0, some 1] () h
  refine cT ?_
  refine Wp.skip ?_
  refine sh ?_
  refine Wp.seq ?_
  refine Wp.block ?_
  refine rs0 ?_
  refine eI h F fun x10712 F h => ?_
  iterate 4 refine vp ?_
  refine vn ?_
  refine Wp.seq ?_
  refine rs0 ?_
  iterate 5 refine vp ?_
  obtain ⟨r10716, hr10715, h⟩ := obind h
  refine vc (con_printer_part hr10715) ?_
  refine vp ?_
  refine vn ?_
  refine rs0 ?_
  iterate 2 refine vp ?_
  refine vn ?_
  refine sB h F (fun F h => ?_) fun F h => ?_
  refine cF ?_
  refine Wp.skip ?_
  refine sh ?_
  refine rs0 ?_
  iterate 2 refine vp ?_
  obtain ⟨r10718, hr10717, h⟩ := obind h
  refine vc (con_lex_IsName hr10717) ?_
  iterate 2 refine vp ?_
  refine sB h F (fun F h => ?_) fun F h => ?_
  refine vg ?_
  refine vg ?_
  obtain ⟨r10720, hr10719, h⟩ := obind h
  refine vc (con_lex_IsName hr10719) ?_ (hg := by (simp [F]; done))
  refine vg ?_
  refine vp ?_
  refine vn ?_
  refine sB h F (fun F h => ?_) fun F h => ?_
  refine cF ?_
  refine Wp.skip ?_
  refine sh ?_
  refine rg0 ?_
  iterate 2 refine vp ?_
  refine vn ?_
  exact nx [some 0, some 1] (IntKind.i64.wrap (p10702 + 1)) h
  refine cT ?_
  refine rs0 ?_
  refine vp ?_
  refine vn ?_
  cases h
  exact Wp.ret en0
  refine vs ?_
  refine vs ?_
  refine vs ?_
  refine vs ?_
  refine vp ?_
  refine vn ?_
  refine cT ?_
  refine rs0 ?_
  refine vp ?_
  refine vn ?_
  cases h
  exact Wp.ret en0
  refine cT ?_
  refine rs0 ?_
  iterate 2 refine vp ?_
  refine vn ?_
  cases h
  exact Wp.ret en0
  refine cT ?_
  refine rs0 ?_
  refine vp ?_
  refine vn ?_
  cases h
  exact Wp.ret en0
  refine rs0 ?_
  iterate 3 refine vp ?_
  refine vn ?_
  refine sEn h F (fun _ F h => ?_) fun _ F h => ?_
  refine cF ?_
  refine Wp.skip ?_
  exact nx [some 0, some 1] () h
  refine cT ?_
  refine Wp.block ?_
  refine rs0 ?_
  iterate 2 refine vp ?_
  obtain ⟨r10722, hr10721, h⟩ := obind h
  refine vc (con_lex_IsName hr10721) ?_
  iterate 2 refine vp ?_
  refine vn ?_
  refine sB h F (fun F h => ?_) fun F h => ?_
  refine cF ?_
  refine rs0 ?_
  iterate 2 refine vp ?_
  obtain ⟨r10724, hr10723, h⟩ := obind h
  refine vh [1] (con_slices_ContainsFunc_api_Rung_c153 hr10723) ?_
  refine vp ?_
  refine vn ?_
  refine sB h F (fun F h => ?_) fun F h => ?_
  refine cF ?_
  refine Wp.skip ?_
  exact nx [some 0, some 1] () h
  refine cT ?_
  refine rs0 ?_
  refine vp ?_
  refine vn ?_
  cases h
  exact Wp.ret en0
  refine cT ?_
  refine rs0 ?_
  refine vp ?_
  refine vn ?_
  cases h
  exact Wp.ret en0

theorem con_ref17_lay (n : Nat) : ∀ {_append0 : ApiRung} {a1 : Ref14Tree} {a2 : Int} {r : (List ApiIns)}, ref17_lay n _append0 a1 a2 = some r → Con Tryz.prog G0 51 [.agg (cApiRung _append0), .agg [.int .i64 a1.Kind, .int .i64 a1.N, aL cRef14Tree a1.Kids], .int .i64 a2] (aL cApiIns r) [] := by
  induction n with
  | zero => intro _append0 a1 a2 r h; simp [ref17_lay] at h
  | succ n Hslf_ref17_lay =>
   intro _append0 a1 a2 r h
   refine con_of (T := TT0) tt_ok Tryz.func51 (c := _) (by unfold Tryz.f51; rfl) Tryz.ntmps51 (rs := [.tmp 6]) (by rw [Tryz.results51]) (by unfold Tryz.f51; rfl) (by simp) ?_
   simp only [argsCh]
   have F := True.intro
   dsimp only [ref17_lay] at h
   refine rs0 ?_
   iterate 3 refine vp ?_
   refine vn ?_
   refine Wp.seq ?_
   refine rs0 ?_
   iterate 3 refine vp ?_
   refine vn ?_
   refine sB h F (fun F h => ?_) fun F h => ?_
   refine cF ?_
   refine Wp.skip ?_
   refine sh ?_
   refine dw (fun d => Nat.beq d 25) [0, 1] ?_
   refine du 3 ?_
   refine eN (m := 0) h F fun x16389 F h => ?_
   refine du 3 ?_
   obtain ⟨r16491, hr16490, h⟩ := obind h
   refine dx (con_ref17_lay_o0 Hslf_ref17_lay _ hr16490) ?_
   refine du 1 ?_
   refine dn ?_
   refine Wp.seq ?_
   refine rs0 ?_
   refine vp ?_
   refine vn ?_
   refine Wp.block ?_
   refine lp [some 0, some 1, some 2] (fun x : (List ApiIns) × Int => { ch := [(2, .int .i64 a2), (3, .hptr 0 0 0), (4, .hptr 1 0 0), (7, .sl 2 0 x.1.length), (8, .int .i64 x.2)], hp := [.var [.str _append0.Label, aL cApiContact _append0.Contacts, aL cApiCoil _append0.Coils, .str _append0.Jump], .var [.int .i64 a1.Kind, .int .i64 a1.N, aL cRef14Tree a1.Kids], .arr 4 x.1.length (rw (x.1.map cApiIns))], base := 0, n := 91, cond := True, gl := G0 }) (fun m x => ref17_lay_L1 _append0 a1 a2 (ref17_lay n) m x.1 x.2 = some r) n (r16491, 1) h ?_
   rintro rec_n1 ⟨r16514, p16515⟩ h
   dsimp only [ref17_lay_L1] at h
   try dsimp only
   refine Wp.seq ?_
   refine rs0 ?_
   iterate 5 refine vp ?_
   refine vn ?_
   refine sD h F (fun F h => ?_) fun F h => ?_
   refine cF ?_
   refine Wp.exit ?_
   refine sh ?_
   refine rs0 ?_
   iterate 2 refine vp ?_
   refine vn ?_
   cases h
   exact Wp.ret en0
   refine cT ?_
   refine Wp.skip ?_
   refine sh ?_
   refine Wp.seq ?_
   refine Wp.block ?_
   refine rs0 ?_
   iterate 3 refine vp ?_
   refine eI h F fun x16538 F h => ?_
   iterate 4 refine vp ?_
   refine vn ?_
   refine jn (fun _ : Unit => { ch := [(2, .int .i64 a2), (3, .hptr 0 0 0), (4, .hptr 1 0 0), (7, .sl 3 0 r16514.length), (8, .int .i64 p16515), (9, .hptr 2 0 0)], hp := [.var [.str _append0.Label, aL cApiContact _append0.Contacts, aL cApiCoil _append0.Coils, .str _append0.Jump], .var [.int .i64 a1.Kind, .int .i64 a1.N, aL cRef14Tree a1.Kids], .var [.int .i64 x16538.Kind, .int .i64 x16538.N, aL cRef14Tree x16538.Kids], .arr 4 r16514.length (rw (r16514.map cApiIns))], base := 0, n := 91, cond := True, gl := G0 }) (fun x => ref17_lay_J2 _append0 a1 a2 r16514 p16515 (ref17_lay_L1 _append0 a1 a2 (ref17_lay n) rec_n1) x16538 (ref17_lay n) = some r) ?_ ?_
   clear h
   rintro _ h
   dsimp only [ref17_lay_J2] at h
   try dsimp only
   refine rs0 ?_
   iterate 3 refine vp ?_
   refine gd h F fun F h => ?_
   refine vp ?_
   refine nm cApiIns h F fun l16553 F h => ?_
   refine vp ?_
   refine vn ?_
   refine rs0 ?_
   iterate 4 refine vp ?_
   obtain ⟨r16555, hr16554, h⟩ := obind h
   refine vc (Hslf_ref17_lay hr16554) ?_
   refine gd h F fun F h => ?_
   refine vp ?_
   refine nm cApiIns h F fun l16556 F h => ?_
   refine vp ?_
   refine vn ?_
   refine rg0 ?_
   iterate 6 refine vp ?_
   refine gd h F fun F h => ?_
   refine vp ?_
   refine nm cApiIns h F fun l16557 F h => ?_
   refine vp ?_
   refine vn ?_
   refine sh ?_
   refine rg0 ?_
   iterate 3 refine vp ?_
   refine vn ?_
   exact nx [some 0, some 1, some 6] (l16557, (IntKind.i64.wrap (p16515 + 1))) h
   refine rs0 ?_
   iterate 4 refine vp ?_
   refine sB h F (fun F h => ?_) fun F h => ?_
   refine vs ?_
   refine vs ?_
   refine vs ?_
   refine vs ?_
   refine vs ?_
   refine vs ?_
   refine vs ?_
   refine vs ?_
   refine vp ?_
   refine vn ?_
   refine cF ?_
   refine Wp.skip ?_
   exact nx [some 0, some 1, some 3, some 2] () h
   refine vg ?_
   refine vg ?_
   refine vg ?_
   refine vg ?_
   refine eI h F fun x16558 F h => ?_
   refine vg ?_
   refine vg ?_
   refine vg ?_
   refine vg ?_
   refine vp ?_
   refine vn ?_
   refine sD h F (fun F h => ?_) fun F h => ?_
   refine cF ?_
   refine Wp.skip ?_
   exact nx [some 0, some 1, some 3, some 2] () h
   refine cT ?_
   refine dw (fun d => Nat.beq d 72 || Nat.beq d 1072) [0, 1, 2, 3] ?_
   refine du 8 ?_
   refine du 8 ?_
   refine du 5 ?_
   refine gd h F fun F h => ?_
   refine db ?_
   refine nm cApiIns h F fun l16559 F h => ?_
   refine du 1 ?_
   refine dn ?_
   refine Wp.exit ?_
   refine sh ?_
   refine rg0 ?_
   iterate 3 refine vp ?_
   refine vn ?_
   exact nx [some 0, some 1, some 4] (l16559, (IntKind.i64.wrap (p16515 + 1))) h
   refine cT ?_
   refine rs0 ?_
   iterate 4 refine vp ?_
   obtain ⟨r16387, hr16386, h⟩ := obind h
   refine vc (con_ref17_load hr16386) ?_
   refine vp ?_
   refine nl cApiIns h F fun l16388 m F h => ?_
   try simp only [m]
   clear m
   refine vp ?_
   refine vn ?_
   cases h
   exact Wp.ret en0

theorem con_graph_Ancestors_1 {n : Nat} {n_0 : Str} {b0 : ApiRung} {r : (List Str)} (h : graph_Ancestors_1 n n_0 b0 = some r) : ConH Tryz.prog G0 138 [.str n_0, .hptr 0 0 0] [.var [.str b0.Label, aL cApiContact b0.Contacts, aL cApiCoil b0.Coils, .str b0.Jump]] (aL cS r) [.var [.str b0.Label, aL cApiContact b0.Contacts, aL cApiCoil b0.Coils, .str b0.Jump]] := by
  refine conH_of (T := TT0) tt_ok Tryz.func138 (c := _) (by unfold Tryz.f138; rfl) Tryz.ntmps138 (rs := [.tmp 3]) (by rw [Tryz.results138]) (by unfold Tryz.f138; rfl) (by simp) (k := 1) rfl rfl ?_
  try simp only [argsCh]
  have F := True.intro
  dsimp only [graph_Ancestors_1] at h
  refine rs0 ?_
  refine vp ?_
  refine vn ?_
  refine rs0 ?_
  refine vp ?_
  refine vn ?_
  refine Wp.seq ?_
  refine rs0 ?_
  iterate 2 refine vp ?_
  obtain ⟨r14450, hr14449, h⟩ := obind h
  refine vc (con_graph_Incoming hr14449) ?_
  iterate 2 refine vp ?_
  refine vn ?_
  refine Wp.block ?_
  refine lp [some 0, none] (fun x : Int × (List Str) => { ch := [(1, .hptr 0 0 0), (4, .sl 1 0 x.2.length), (9, aL (cI .i64) r14450), (10, .int .i64 (r14450.length : Int)), (11, .int .i64 x.1)], hp := [.var [.str b0.Label, aL cApiContact b0.Contacts, aL cApiCoil b0.Coils, .str b0.Jump], .arr 1 x.2.length (rw (x.2.map cS))], base := 1, n := 26, cond := True, gl := G0 }) (fun m x => graph_Ancestors_1_L1 b0 r14450 m x.1 x.2 = some r) n (0, []) h ?_
  rintro rec_n1 ⟨p14454, p14455⟩ h
  dsimp only [graph_Ancestors_1_L1] at h
  try dsimp only
  refine rs0 ?_
  refine vp ?_
  refine vn ?_
  refine Wp.seq ?_
  refine sD h F (fun F h => ?_) fun F h => ?_
  refine cF ?_
  refine Wp.exit ?_
  refine sh ?_
  refine rs0 ?_
  iterate 2 refine vp ?_
  refine vn ?_
  cases h
  exact Wp.ret (enH [some 0])
  refine cT ?_
  refine Wp.skip ?_
  refine sh ?_
  refine Wp.seq ?_
  refine Wp.block ?_
  refine rs0 ?_
  refine eI h F fun x14459 F h => ?_
  iterate 3 refine vp ?_
  refine vn ?_
  refine rg (fun d => Nat.beq d 23) ?_
  iterate 4 refine vp ?_
  refine eI h F fun x14460 F h => ?_
  iterate 4 refine vp ?_
  refine gd h F fun F h => ?_
  refine vp ?_
  refine nm cS h F fun l14461 F h => ?_
  refine vp ?_
  refine vn ?_
  refine sh ?_
  refine rg0 ?_
  iterate 2 refine vp ?_
  refine vn ?_
  exact nx [some 0, some 2] ((IntKind.i64.wrap (p14454 + 1)), l14461) h

theorem con_graph_TopoSort_1 {n : Nat} {n_0 : Str} {b0 : ApiRung} {m2 : List (Str × Bool)} {r : Bool} (h : graph_TopoSort_1 n n_0 b0 m2 = some r) : ConH Tryz.prog G0 99 [.str n_0, .hptr 0 0 0, .hptr 1 0 0] [.var [.str b0.Label, aL cApiContact b0.Contacts, aL cApiCoil b0.Coils, .str b0.Jump], .var [.mp 2], .map (mAV AV.str cB m2)] (.bool r) [.var [.str b0.Label, aL cApiContact b0.Contacts, aL cApiCoil b0.Coils, .str b0.Jump], .var [.mp 2], .map (mAV AV.str cB m2)] := by
  refine conH_of (T := TT0) tt_ok Tryz.func99 (c := _) (by unfold Tryz.f99; rfl) Tryz.ntmps99 (rs := [.tmp 4]) (by rw [Tryz.results99]) (by unfold Tryz.f99; rfl) (by simp) (k := 3) rfl rfl ?_
  try simp only [argsCh]
  have F := True.intro
  dsimp only [graph_TopoSort_1] at h
  refine rs0 ?_
  refine vp ?_
  refine vn ?_
  refine rs0 ?_
  iterate 2 refine vp ?_
  obtain ⟨r13103, hr13102, h⟩ := obind h
  refine vc (con_graph_Incoming hr13102) ?_
  refine vp ?_
  obtain ⟨r13105, hr13104, h⟩ := obind h
  refine vh [1, 2, 0] (con_slices_ContainsFunc_int_c102 hr13104) ?_
  iterate 2 refine vp ?_
  refine vn ?_
  cases h
  exact Wp.ret (enH [some 0, some 1, some 2])

end Go.Proofs.YtaebdeidbibfkaaGreatDoor
