/- Contracts: models of functions are right. No law is proved here. -/
import Derived.Test.YtfghchpnolfllaaGMod
import Derived.Test.YtfghchpnolfllaaTab
import Derived.Test.YtfghchpnolfllaaGC1
import Derived.Test.YtfghchpnolfllaaGC2
import Derived.Test.YtfghchpnolfllaaGC3
import Derived.Test.YtfghchpnolfllaaGC5
import Derived.Test.YtfghchpnolfllaaGC6
import Derived.Test.YtfghchpnolfllaaGC7
namespace Go.Proofs.Ytfghchpnolfllaa
open Go.Av Go.G
attribute [-simp] Int.natCast_tdiv_eq_ediv
attribute [local simp] runf guardA opf St.ev Go.Av.look St.setd constAV constAV0 opBin opLen intBin St.need lookT TT0 tab resA resOne resAll blt_dec ble_dec beq_dec isPure
attribute [local simp] opMakeSlice opCopy opIndexAddr opLoad opStore St.mem St.rows opUn calleeA toArgs toArg toArg0 toArgs0 shift shift0 shift1 splice cellsOf isFree ofCells TS.isAgg isCell strBin opConvert
attribute [local simp] opBuildSlice fillA opAppend eqC eqA cksB ckB St.newBox runI valKind withinB readsHp refsD refs noSl opFieldAddr opBuild placeOf Op.operands Call.operands opIndex opExtract opSlice opField partA
attribute [local simp] loA hiA lenA opMakeMap opLookup opMapUpdate keyOk findA_int findA_str putA_strB putA_strI putA_intB putA_intI mAV_length mAV_nil cA1 cA2 cA3 cA4 opNilCheck opMakeFunc opRange
attribute [local simp] aL cI cB cS cL rw_map fz_rw fz_const dropRow_rw fz_append fz_set fz_copy fz_rows rowLen_rw rowsLen_nil rowsLen_cons rowsLen_append rowsLen_map rowsLen_take rowsLen_drop rowsLen_replicate take_map_len take_map_le drop_map_len take_drop_len chunks isScalar isScalar0
attribute [local simp] putBack putAt objMap mapC mapA mapT map0 bid rid memB passed closedB argsH argH argH0 argsH0 objIds ids0 idsC isLocT isLocA isLocC isLoc0 LocObj
attribute [local congr] bind_congr1 map_congr1 cond_congr1
attribute [local simp] cApiAddr cApiContact cApiCoil cApiRung cApiLadder cApiState cApiSize
set_option maxHeartbeats 4000000
set_option maxRecDepth 20000
set_option linter.unusedSimpArgs false
set_option linter.unusedVariables false

theorem con_printer_rung {n : Nat} {_append0 : ApiSize} {a1 : List ApiRung} {a2 : ApiRung} {r : Int} (h : printer_rung n _append0 a1 a2 = some r) : Con Try.prog 52 [.agg (cApiSize _append0), aL cApiRung a1, .agg (cApiRung a2)] (.int .i64 r) [] := by
  refine con_of (T := TT0) tt_ok Try.func52 (c := _) (by unfold Try.f52; rfl) Try.ntmps52 (rs := [.tmp 6]) (by rw [Try.results52]) (by unfold Try.f52; rfl) (by simp) ?_
  simp only [argsCh]
  have F := True.intro
  dsimp only [printer_rung] at h
  refine rs0 ?_
  iterate 3 refine vp ?_
  refine vn ?_
  refine jn (fun _ : Unit => { ch := [(3, .hptr 0 0 0), (5, .hptr 1 0 0)], hp := [.var [.int .i64 _append0.I, .int .i64 _append0.Q, .int .i64 _append0.M, .int .i64 _append0.E], .var [.str a2.Label, aL cApiContact a2.Contacts, aL cApiCoil a2.Coils, .str a2.Jump]], base := 0, n := 90, cond := True }) (fun x => printer_rung_J1 n _append0 a2 = some r) ?_ ?_
  clear h
  rintro _ h
  dsimp only [printer_rung_J1] at h
  try dsimp only
  refine Wp.seq ?_
  refine rs0 ?_
  iterate 4 refine vp ?_
  refine vn ?_
  refine sD h F (fun F h => ?_) fun F h => ?_
  refine cF ?_
  refine Wp.skip ?_
  refine sh ?_
  refine jn (fun _ : Unit => { ch := [(3, .hptr 0 0 0), (5, .hptr 1 0 0)], hp := [.var [.int .i64 _append0.I, .int .i64 _append0.Q, .int .i64 _append0.M, .int .i64 _append0.E], .var [.str a2.Label, aL cApiContact a2.Contacts, aL cApiCoil a2.Coils, .str a2.Jump]], base := 0, n := 90, cond := True }) (fun x => printer_rung_J2 n _append0 a2 = some r) ?_ ?_
  clear h
  rintro _ h
  dsimp only [printer_rung_J2] at h
  try dsimp only
  refine Wp.seq ?_
  refine rs0 ?_
  iterate 4 refine vp ?_
  refine vn ?_
  refine sD h F (fun F h => ?_) fun F h => ?_
  refine cF ?_
  refine Wp.skip ?_
  refine sh ?_
  refine jn (fun _ : Unit => { ch := [(5, .hptr 0 0 0)], hp := [.var [.str a2.Label, aL cApiContact a2.Contacts, aL cApiCoil a2.Coils, .str a2.Jump]], base := 0, n := 90, cond := True }) (fun x => printer_rung_J3 n a2 = some r) ?_ ?_
  clear h
  rintro _ h
  dsimp only [printer_rung_J3] at h
  try dsimp only
  refine Wp.seq ?_
  refine rs0 ?_
  iterate 4 refine vp ?_
  refine sEn h F (fun _ F h => ?_) fun _ F h => ?_
  refine vs ?_
  refine vs ?_
  refine vs ?_
  refine vs ?_
  refine vp ?_
  refine vn ?_
  refine cF ?_
  refine Wp.skip ?_
  refine sh ?_
  refine rs0 ?_
  refine vp ?_
  refine vn ?_
  cases h
  exact Wp.ret en0
  refine vg ?_
  refine vg ?_
  obtain ⟨r793, hr792, h⟩ := obind h
  refine vc (con_lex_IsName hr792) ?_ (hg := by (simp [F]; done))
  refine vg ?_
  refine vp ?_
  refine vn ?_
  refine sB h F (fun F h => ?_) fun F h => ?_
  refine cF ?_
  refine Wp.skip ?_
  refine sh ?_
  refine rs0 ?_
  refine vp ?_
  refine vn ?_
  cases h
  exact Wp.ret en0
  refine cT ?_
  refine rs0 ?_
  refine vp ?_
  refine vn ?_
  cases h
  exact Wp.ret en0
  refine rs0 ?_
  iterate 4 refine vp ?_
  refine vn ?_
  refine Wp.block ?_
  refine lp [some 0, some 1] (fun p797 : Int => { ch := [(3, .hptr 0 0 0), (5, .hptr 1 0 0), (61, aL cApiCoil a2.Coils), (62, .int .i64 (a2.Coils.length : Int)), (63, .int .i64 p797)], hp := [.var [.int .i64 _append0.I, .int .i64 _append0.Q, .int .i64 _append0.M, .int .i64 _append0.E], .var [.str a2.Label, aL cApiContact a2.Contacts, aL cApiCoil a2.Coils, .str a2.Jump]], base := 0, n := 90, cond := True }) (fun m x => printer_rung_L4 n _append0 a2 m x = some r) n 0 h ?_
  rintro rec_n4 p797 h
  dsimp only [printer_rung_L4] at h
  try dsimp only
  refine rs0 ?_
  refine vp ?_
  refine vn ?_
  refine Wp.seq ?_
  refine sD h F (fun F h => ?_) fun F h => ?_
  refine cF ?_
  refine Wp.exit ?_
  exact nx [some 1] () h
  refine cT ?_
  refine Wp.skip ?_
  refine sh ?_
  refine Wp.seq ?_
  refine Wp.block ?_
  refine rs0 ?_
  refine eI h F fun x801 F h => ?_
  iterate 4 refine vp ?_
  refine vn ?_
  refine Wp.seq ?_
  refine rs0 ?_
  iterate 5 refine vp ?_
  obtain ⟨r803, hr802, h⟩ := obind h
  refine vc (con_printer_part hr802) ?_
  refine vp ?_
  refine vn ?_
  refine rs0 ?_
  iterate 2 refine vp ?_
  refine vn ?_
  refine sB h F (fun F h => ?_) fun F h => ?_
  refine cF ?_
  refine Wp.skip ?_
  refine sh ?_
  refine rs0 ?_
  iterate 4 refine vp ?_
  refine vn ?_
  refine sB h F (fun F h => ?_) fun F h => ?_
  refine cF ?_
  refine Wp.skip ?_
  refine sh ?_
  refine rg0 ?_
  iterate 2 refine vp ?_
  refine vn ?_
  exact nx [some 0, some 1] (IntKind.i64.wrap (p797 + 1)) h
  refine cT ?_
  refine rs0 ?_
  refine vp ?_
  refine vn ?_
  cases h
  exact Wp.ret en0
  refine cT ?_
  refine rs0 ?_
  iterate 2 refine vp ?_
  refine vn ?_
  cases h
  exact Wp.ret en0
  refine cT ?_
  refine rs0 ?_
  refine vp ?_
  refine vn ?_
  cases h
  exact Wp.ret en0
  refine rs0 ?_
  iterate 4 refine vp ?_
  refine vn ?_
  refine Wp.block ?_
  refine lp [some 0, some 1] (fun p813 : Int => { ch := [(3, .hptr 0 0 0), (5, .hptr 1 0 0), (30, aL cApiContact a2.Contacts), (31, .int .i64 (a2.Contacts.length : Int)), (32, .int .i64 p813)], hp := [.var [.int .i64 _append0.I, .int .i64 _append0.Q, .int .i64 _append0.M, .int .i64 _append0.E], .var [.str a2.Label, aL cApiContact a2.Contacts, aL cApiCoil a2.Coils, .str a2.Jump]], base := 0, n := 90, cond := True }) (fun m x => printer_rung_L5 n _append0 a2 m x = some r) n 0 h ?_
  rintro rec_n5 p813 h
  dsimp only [printer_rung_L5] at h
  try dsimp only
  refine rs0 ?_
  refine vp ?_
  refine vn ?_
  refine Wp.seq ?_
  refine sD h F (fun F h => ?_) fun F h => ?_
  refine cF ?_
  refine Wp.exit ?_
  exact nx [some 0, some 1] () h
  refine cT ?_
  refine Wp.skip ?_
  refine sh ?_
  refine Wp.seq ?_
  refine Wp.block ?_
  refine rs0 ?_
  refine eI h F fun x823 F h => ?_
  iterate 4 refine vp ?_
  refine vn ?_
  refine Wp.seq ?_
  refine rs0 ?_
  iterate 5 refine vp ?_
  obtain ⟨r827, hr826, h⟩ := obind h
  refine vc (con_printer_part hr826) ?_
  refine vp ?_
  refine vn ?_
  refine rs0 ?_
  iterate 2 refine vp ?_
  refine vn ?_
  refine sB h F (fun F h => ?_) fun F h => ?_
  refine cF ?_
  refine Wp.skip ?_
  refine sh ?_
  refine rs0 ?_
  iterate 2 refine vp ?_
  obtain ⟨r829, hr828, h⟩ := obind h
  refine vc (con_lex_IsName hr828) ?_
  iterate 2 refine vp ?_
  refine sB h F (fun F h => ?_) fun F h => ?_
  refine vg ?_
  refine vg ?_
  obtain ⟨r831, hr830, h⟩ := obind h
  refine vc (con_lex_IsName hr830) ?_ (hg := by (simp [F]; done))
  refine vg ?_
  refine vp ?_
  refine vn ?_
  refine sB h F (fun F h => ?_) fun F h => ?_
  refine cF ?_
  refine Wp.skip ?_
  refine sh ?_
  refine rg0 ?_
  iterate 2 refine vp ?_
  refine vn ?_
  exact nx [some 0, some 1] (IntKind.i64.wrap (p813 + 1)) h
  refine cT ?_
  refine rs0 ?_
  refine vp ?_
  refine vn ?_
  cases h
  exact Wp.ret en0
  refine vs ?_
  refine vs ?_
  refine vs ?_
  refine vs ?_
  refine vp ?_
  refine vn ?_
  refine cT ?_
  refine rs0 ?_
  refine vp ?_
  refine vn ?_
  cases h
  exact Wp.ret en0
  refine cT ?_
  refine rs0 ?_
  iterate 2 refine vp ?_
  refine vn ?_
  cases h
  exact Wp.ret en0
  refine cT ?_
  refine rs0 ?_
  refine vp ?_
  refine vn ?_
  cases h
  exact Wp.ret en0
  refine rs0 ?_
  iterate 3 refine vp ?_
  refine vn ?_
  refine sEn h F (fun _ F h => ?_) fun _ F h => ?_
  refine cF ?_
  refine Wp.skip ?_
  exact nx [some 0, some 1] () h
  refine cT ?_
  refine Wp.block ?_
  refine rs0 ?_
  iterate 2 refine vp ?_
  obtain ⟨r833, hr832, h⟩ := obind h
  refine vc (con_lex_IsName hr832) ?_
  iterate 2 refine vp ?_
  refine vn ?_
  refine sB h F (fun F h => ?_) fun F h => ?_
  refine cF ?_
  refine rs0 ?_
  iterate 2 refine vp ?_
  obtain ⟨r835, hr834, h⟩ := obind h
  refine vh [1] (con_slices_ContainsFunc_api_Rung_c86 hr834) ?_
  refine vp ?_
  refine vn ?_
  refine sB h F (fun F h => ?_) fun F h => ?_
  refine cF ?_
  refine Wp.skip ?_
  exact nx [some 0, some 1] () h
  refine cT ?_
  refine rs0 ?_
  refine vp ?_
  refine vn ?_
  cases h
  exact Wp.ret en0
  refine cT ?_
  refine rs0 ?_
  refine vp ?_
  refine vn ?_
  cases h
  exact Wp.ret en0

theorem con_rungeval_Contacts {n : Nat} {_append0 : ApiRung} {a1 : List Bool} {a2 : ApiState} {a3 : Int} {r : (List Bool) × ApiState × Int} (h : rungeval_Contacts n _append0 a1 a2 a3 = some r) : Con Try.prog 59 [.agg (cApiRung _append0), aL cB a1, .agg (cApiState a2), .int .i64 a3] (.tup [aL cB r.1, .agg (cApiState r.2.1), .int .i64 r.2.2]) [] := by
  refine con_of (T := TT0) tt_ok Try.func59 (c := _) (by unfold Try.f59; rfl) Try.ntmps59 (rs := [.tmp 8, .cell 9 27, .tmp 10]) (by rw [Try.results59]) (by unfold Try.f59; rfl) (by simp) ?_
  simp only [argsCh]
  have F := True.intro
  dsimp only [rungeval_Contacts] at h
  refine rs0 ?_
  iterate 5 refine vp ?_
  refine vn ?_
  refine rs (fun d => Nat.beq d 19) ?_
  refine vp ?_
  obtain ⟨r1026, hr1025, h⟩ := obind h
  refine vc (con_state_Clone_o2 hr1025) ?_
  iterate 2 refine vp ?_
  refine vn ?_
  refine rs0 ?_
  iterate 3 refine vp ?_
  refine gd h F fun F h => ?_
  refine vp ?_
  refine nm cB h F fun l1027 F h => ?_
  refine vp ?_
  refine vn ?_
  refine Wp.seq ?_
  refine rs0 ?_
  iterate 4 refine vp ?_
  refine vn ?_
  refine Wp.block ?_
  refine lp [some 4, some 3, some 5, some 1, some 2] (fun x : (List Bool) × (List Bool) × Int × Int => { ch := [(1, aL cB a1), (3, .int .i64 x.2.2.2), (6, .hptr 3 0 0), (9, .hptr 4 0 0), (11, .hptr 0 0 0), (12, .sl 2 0 x.2.1.length), (25, aL cApiContact _append0.Contacts), (26, .int .i64 (_append0.Contacts.length : Int)), (27, .int .i64 x.2.2.1)], hp := [.var [aL cB r1026.Q, aL cB r1026.M, .sl 1 0 x.1.length], .arr 1 x.1.length (rw (x.1.map cB)), .arr 1 x.2.1.length (rw (x.2.1.map cB)), .var [aL cB a2.Q, aL cB a2.M, aL cB a2.E], .var [.nilsl, .nilsl, .nilsl]], base := 0, n := 88, cond := True }) (fun m x => rungeval_Contacts_L1 n _append0 a1 a2 r1026 m x.1 x.2.1 x.2.2.1 x.2.2.2 = some r) n (r1026.E, l1027, 0, a3) h ?_
  rintro rec_n1 ⟨p1059, l1060, p1061, a1062⟩ h
  dsimp only [rungeval_Contacts_L1] at h
  try dsimp only
  refine rs0 ?_
  refine vp ?_
  refine vn ?_
  refine Wp.seq ?_
  refine sD h F (fun F h => ?_) fun F h => ?_
  refine cF ?_
  refine Wp.exit ?_
  refine sh ?_
  refine dw (fun _ => false) [0, 1, 2] ?_
  refine du 3 ?_
  refine db ?_
  refine du 1 ?_
  refine dn ?_
  cases h
  exact Wp.ret en0
  refine cT ?_
  refine Wp.skip ?_
  refine sh ?_
  refine Wp.seq ?_
  refine Wp.block ?_
  refine rs0 ?_
  refine vp ?_
  refine eI h F fun x1082 F h => ?_
  iterate 5 refine vp ?_
  refine vn ?_
  refine Wp.seq ?_
  refine rs0 ?_
  iterate 4 refine vp ?_
  refine sD h F (fun F h => ?_) fun F h => ?_
  refine vg ?_
  refine vg ?_
  refine vg ?_
  refine vp ?_
  refine vn ?_
  refine sD h F (fun F h => ?_) fun F h => ?_
  refine cF ?_
  refine Wp.skip ?_
  refine sh ?_
  refine rs0 ?_
  iterate 4 refine vp ?_
  obtain ⟨⟨r1084, r1085⟩, hr1083, h⟩ := obind h
  dsimp only at h
  refine vc (con_state_Read hr1083) ?_
  iterate 5 refine vp ?_
  refine vn ?_
  refine Wp.seq ?_
  refine rs0 ?_
  iterate 2 refine vp ?_
  refine vn ?_
  refine sB h F (fun F h => ?_) fun F h => ?_
  refine cF ?_
  refine Wp.skip ?_
  refine sh ?_
  refine rs0 ?_
  refine vp ?_
  refine vn ?_
  refine jn (fun x : (List Bool) × Bool × Int => { ch := [(1, aL cB a1), (3, .int .i64 x.2.2), (6, .hptr 4 0 0), (9, .hptr 5 0 0), (11, .hptr 0 0 0), (12, .sl 2 0 l1060.length), (13, .int .i64 p1061), (14, .hptr 3 0 0), (15, .bool r1084), (17, .bool x.2.1), (25, aL cApiContact _append0.Contacts), (26, .int .i64 (_append0.Contacts.length : Int)), (27, .int .i64 p1061), (36, .hptr 3 0 0), (37, .int .i64 x1082.Kind), (38, .bool (decide (x1082.Kind ≥ 4)))], hp := [.var [aL cB r1026.Q, aL cB r1026.M, .sl 1 0 x.1.length], .arr 1 x.1.length (rw (x.1.map cB)), .arr 1 l1060.length (rw (l1060.map cB)), .var [.int .i64 x1082.Kind, .int .i64 x1082.A.Space, .int .i64 x1082.A.N, .str x1082.From, .str x1082.To], .var [aL cB a2.Q, aL cB a2.M, aL cB a2.E], .var [.nilsl, .nilsl, .nilsl]], base := 0, n := 88, cond := True }) (fun x => rungeval_Contacts_J2 n l1060 p1061 (rungeval_Contacts_L1 n _append0 a1 a2 r1026 rec_n1) x1082 r1084 x.1 x.2.1 x.2.2 = some r) ?_ ?_
  clear h
  rintro ⟨l1090, x1091, p1092⟩ h
  dsimp only [rungeval_Contacts_J2] at h
  try dsimp only
  refine rg0 ?_
  iterate 6 refine vp ?_
  obtain ⟨r1094, hr1093, h⟩ := obind h
  refine vc (con_rungeval_conducting hr1093) ?_
  refine eI h F fun x1095 F h => ?_
  iterate 2 refine vp ?_
  refine nm cB h F fun l1096 F h => ?_
  refine vn ?_
  refine sh ?_
  refine rg0 ?_
  iterate 2 refine vp ?_
  refine vn ?_
  exact nx [some 0, some 1, some 2, some 4, some 5] (l1090, l1096, (IntKind.i64.wrap (p1061 + 1)), p1092) h
  refine rs0 ?_
  refine vp ?_
  obtain ⟨r1098, hr1097, h⟩ := obind h
  refine vc (con_rungeval_sees hr1097) ?_
  refine vn ?_
  refine sB h F (fun F h => ?_) fun F h => ?_
  refine cF ?_
  refine Wp.skip ?_
  exact nx [some 0, some 1, some 2, some 5, some 3, some 4] (p1059, false, a1062) h
  refine cT ?_
  refine Wp.seq ?_
  refine rs0 ?_
  iterate 3 refine vp ?_
  refine sD h F (fun F h => ?_) fun F h => ?_
  refine vg ?_
  refine vg ?_
  refine vg ?_
  refine vg ?_
  refine vg ?_
  refine vp ?_
  refine vn ?_
  refine sD h F (fun F h => ?_) fun F h => ?_
  refine cF ?_
  refine Wp.skip ?_
  refine sh ?_
  refine dw (fun _ => false) [0, 1] ?_
  refine du 6 ?_
  refine eI h F fun x1099 F h => ?_
  refine du 5 ?_
  refine db ?_
  refine nm cB h F fun l1100 F h => ?_
  refine dn ?_
  refine rg0 ?_
  iterate 3 refine vp ?_
  refine vn ?_
  exact nx [some 0, some 1, some 2, some 5, some 3, some 4] (l1100, x1099, (IntKind.i64.wrap (a1062 + 1))) h
  refine cT ?_
  refine rs0 ?_
  iterate 4 refine vp ?_
  refine vn ?_
  cases h
  exact Wp.ret en0
  refine vs ?_
  refine vs ?_
  refine vs ?_
  refine vs ?_
  refine vs ?_
  refine vp ?_
  refine vn ?_
  refine cT ?_
  refine rs0 ?_
  iterate 4 refine vp ?_
  refine vn ?_
  cases h
  exact Wp.ret en0
  refine cT ?_
  refine rs0 ?_
  iterate 5 refine vp ?_
  refine vn ?_
  cases h
  exact Wp.ret en0
  refine cT ?_
  refine rs0 ?_
  iterate 4 refine vp ?_
  refine vn ?_
  cases h
  exact Wp.ret en0
  refine vs ?_
  refine vs ?_
  refine vs ?_
  refine vp ?_
  refine vn ?_
  refine cT ?_
  refine rs0 ?_
  iterate 4 refine vp ?_
  refine vn ?_
  cases h
  exact Wp.ret en0

theorem con_rungeval_Coils {n : Nat} {r_0 : ApiRung} {st1 : ApiState} {on2 : Bool} {r : ApiState × Int} (h : rungeval_Coils n r_0 st1 on2 = some r) : Con Try.prog 60 [.agg (cApiRung r_0), .agg (cApiState st1), .bool on2] (.tup [.agg (cApiState r.1), .int .i64 r.2]) [] := by
  refine con_of (T := TT0) tt_ok Try.func60 (c := _) (by unfold Try.f60; rfl) Try.ntmps60 (rs := [.cell 6 27, .tmp 7]) (by rw [Try.results60]) (by unfold Try.f60; rfl) (by simp) ?_
  simp only [argsCh]
  have F := True.intro
  dsimp only [rungeval_Coils] at h
  refine rs0 ?_
  iterate 4 refine vp ?_
  refine vn ?_
  refine rs0 ?_
  refine vp ?_
  obtain ⟨r1160, hr1159, h⟩ := obind h
  refine vc (con_state_Clone hr1159) ?_
  iterate 2 refine vp ?_
  refine vn ?_
  refine Wp.seq ?_
  refine rs0 ?_
  iterate 4 refine vp ?_
  refine vn ?_
  refine Wp.block ?_
  refine lp [some 2, some 3] (fun x : Int × (List Bool) × (List Bool) × (List Bool) => { ch := [(2, .bool on2), (6, .hptr 0 0 0), (8, .hptr 1 0 0), (18, aL cApiCoil r_0.Coils), (19, .int .i64 (r_0.Coils.length : Int)), (20, .int .i64 x.1)], hp := [.var [.nilsl, .nilsl, .nilsl], .var [aL cB x.2.1, aL cB x.2.2.1, aL cB x.2.2.2]], base := 0, n := 56, cond := True }) (fun m x => rungeval_Coils_L1 n r_0 on2 m x.1 x.2.1 x.2.2.1 x.2.2.2 = some r) n (0, r1160.Q, r1160.M, r1160.E) h ?_
  rintro rec_n1 ⟨p1193, p1194, p1195, p1196⟩ h
  dsimp only [rungeval_Coils_L1] at h
  try dsimp only
  refine rs0 ?_
  refine vp ?_
  refine vn ?_
  refine Wp.seq ?_
  refine sD h F (fun F h => ?_) fun F h => ?_
  refine cF ?_
  refine Wp.exit ?_
  refine sh ?_
  refine rs0 ?_
  iterate 3 refine vp ?_
  refine vn ?_
  cases h
  exact Wp.ret en0
  refine cT ?_
  refine Wp.skip ?_
  refine sh ?_
  refine Wp.seq ?_
  refine Wp.block ?_
  refine rs0 ?_
  refine eI h F fun x1204 F h => ?_
  iterate 4 refine vp ?_
  refine vn ?_
  refine Wp.seq ?_
  refine rs0 ?_
  iterate 4 refine vp ?_
  refine sD h F (fun F h => ?_) fun F h => ?_
  refine vg ?_
  refine vg ?_
  refine vg ?_
  refine vp ?_
  refine vn ?_
  refine sD h F (fun F h => ?_) fun F h => ?_
  refine cF ?_
  refine Wp.skip ?_
  refine sh ?_
  refine rs0 ?_
  iterate 3 refine vp ?_
  obtain ⟨⟨r1206, r1207⟩, hr1205, h⟩ := obind h
  dsimp only at h
  refine vc (con_rungeval_writes hr1205) ?_
  iterate 5 refine vp ?_
  refine vn ?_
  refine rs0 ?_
  iterate 4 refine vp ?_
  obtain ⟨⟨r1209, r1210⟩, hr1208, h⟩ := obind h
  dsimp only at h
  refine vc (con_state_Write hr1208) ?_
  iterate 6 refine vp ?_
  refine vn ?_
  refine Wp.seq ?_
  refine rs0 ?_
  iterate 2 refine vp ?_
  refine vn ?_
  refine sB h F (fun F h => ?_) fun F h => ?_
  refine cF ?_
  refine Wp.skip ?_
  refine sh ?_
  refine rs0 ?_
  refine vp ?_
  refine vn ?_
  refine sB h F (fun F h => ?_) fun F h => ?_
  refine cF ?_
  refine Wp.skip ?_
  refine sh ?_
  refine rg0 ?_
  iterate 2 refine vp ?_
  refine vn ?_
  exact nx [some 0, some 1] ((IntKind.i64.wrap (p1193 + 1)), p1194, p1195, p1196) h
  refine cT ?_
  refine rg0 ?_
  iterate 2 refine vp ?_
  refine vn ?_
  refine sh ?_
  refine rg0 ?_
  iterate 2 refine vp ?_
  refine vn ?_
  exact nx [some 0, some 1] ((IntKind.i64.wrap (p1193 + 1)), r1209.Q, r1209.M, r1209.E) h
  refine cT ?_
  refine rs0 ?_
  iterate 4 refine vp ?_
  refine vn ?_
  cases h
  exact Wp.ret en0
  refine cT ?_
  refine rs0 ?_
  iterate 3 refine vp ?_
  refine vn ?_
  cases h
  exact Wp.ret en0
  refine vs ?_
  refine vs ?_
  refine vs ?_
  refine vp ?_
  refine vn ?_
  refine cT ?_
  refine rs0 ?_
  iterate 3 refine vp ?_
  refine vn ?_
  cases h
  exact Wp.ret en0

end Go.Proofs.Ytfghchpnolfllaa
