/- Contracts: models of functions are right. No law is proved here. -/
import Derived.Test.YtfghchpnolfllaaGMod
import Derived.Test.YtfghchpnolfllaaTab
import Derived.Test.YtfghchpnolfllaaGC0
import Derived.Test.YtfghchpnolfllaaGC1
import Derived.Test.YtfghchpnolfllaaGC2
namespace Go.Proofs.Ytfghchpnolfllaa
open Go.Av Go.G
attribute [-simp] Int.natCast_tdiv_eq_ediv
attribute [local simp] runf guardA opf St.ev Go.Av.look St.setd constAV constAV0 opBin opLen intBin St.need lookT TT0 tab resA resOne resAll blt_dec ble_dec beq_dec isPure
attribute [local simp] opMakeSlice opCopy opIndexAddr opLoad opStore St.mem St.rows opUn calleeA toArgs toArg toArg0 toArgs0 shift shift0 shift1 splice cellsOf isFree ofCells TS.isAgg isCell strBin opConvert
attribute [local simp] opBuildSlice fillA opAppend eqC eqA cksB ckB St.newBox runI valKind withinB readsHp refsD refs noSl opFieldAddr opBuild placeOf Op.operands Call.operands opIndex opExtract opSlice opField partA
attribute [local simp] loA hiA lenA opMakeMap opLookup opMapUpdate keyOk findA_int findA_str putA_strB putA_strI putA_intB putA_intI mAV_length mAV_nil cA1 cA2 cA3 cA4 opNilCheck opMakeFunc opRange
attribute [local simp] aL cI cB cS cL rw_map fz_rw fz_const dropRow_rw fz_append fz_set fz_copy fz_rows rowLen_rw rowsLen_nil rowsLen_cons rowsLen_append rowsLen_map rowsLen_take rowsLen_drop rowsLen_replicate take_map_len take_map_le drop_map_len take_drop_len chunks isScalar isScalar0
attribute [local simp] putBack putAt objMap mapC mapA mapT map0 bid rid memB passed closedB argsH argH argH0 argsH0 objIds ids0 idsC isLocT isLocA isLocC isLoc0 LocObj
attribute [local congr] bind_congr1 map_congr1 cond_congr1
attribute [local simp] cApiAddr cApiContact cApiCoil cApiRung cApiLadder cApiState cApiSize
set_option maxHeartbeats 4000000
set_option maxRecDepth 20000
set_option linter.unusedSimpArgs false
set_option linter.unusedVariables false

theorem con_ref16_Contacts {n : Nat} {_append0 : ApiRung} {a1 : List Bool} {a2 : ApiState} {a3 : Int} {r : (List Bool) × ApiState × Int} (h : ref16_Contacts n _append0 a1 a2 a3 = some r) : Con Try.prog 63 [.agg (cApiRung _append0), aL cB a1, .agg (cApiState a2), .int .i64 a3] (.tup [aL cB r.1, .agg (cApiState r.2.1), .int .i64 r.2.2]) [] := by
  refine con_of (T := TT0) tt_ok Try.func63 (c := _) (by unfold Try.f63; rfl) Try.ntmps63 (rs := [.tmp 8, .cell 9 27, .tmp 10]) (by rw [Try.results63]) (by unfold Try.f63; rfl) (by simp) ?_
  simp only [argsCh]
  have F := True.intro
  dsimp only [ref16_Contacts] at h
  refine rs0 ?_
  iterate 5 refine vp ?_
  refine vn ?_
  refine rs0 ?_
  refine vp ?_
  obtain ⟨r1538, hr1537, h⟩ := obind h
  refine vc (con_ref03_Clone hr1537) ?_
  iterate 2 refine vp ?_
  refine vn ?_
  refine rs0 ?_
  refine vp ?_
  refine vn ?_
  refine rs0 ?_
  refine vp ?_
  refine vn ?_
  refine Wp.seq ?_
  refine rs0 ?_
  refine vp ?_
  refine vn ?_
  refine Wp.block ?_
  refine lp [some 3, some 0, some 1, some 2, none] (fun x : (List Bool) × Int × (List Bool) × Int => { ch := [(1, aL cB a1), (3, .int .i64 a3), (4, .hptr 1 0 0), (6, .hptr 2 0 0), (9, .hptr 3 0 0), (11, .hptr 0 0 0), (12, .sl 4 0 x.1.length), (13, .int .i64 x.2.2.2), (14, .int .i64 x.2.1)], hp := [.var [aL cB r1538.Q, aL cB r1538.M, aL cB x.2.2.1], .var [.str _append0.Label, aL cApiContact _append0.Contacts, aL cApiCoil _append0.Coils, .str _append0.Jump], .var [aL cB a2.Q, aL cB a2.M, aL cB a2.E], .var [.nilsl, .nilsl, .nilsl], .arr 1 x.1.length (rw (x.1.map cB))], base := 0, n := 116, cond := True }) (fun m x => ref16_Contacts_L1 n _append0 a1 a2 a3 r1538 m x.1 x.2.1 x.2.2.1 x.2.2.2 = some r) n ([], 0, r1538.E, 0) h ?_
  rintro rec_n1 ⟨p1557, p1558, p1559, p1560⟩ h
  dsimp only [ref16_Contacts_L1] at h
  try dsimp only
  refine Wp.seq ?_
  refine rs0 ?_
  iterate 5 refine vp ?_
  refine vn ?_
  refine sD h F (fun F h => ?_) fun F h => ?_
  refine cF ?_
  refine Wp.exit ?_
  refine sh ?_
  refine dw (fun _ => false) [0, 4] ?_
  refine du 3 ?_
  refine db ?_
  refine du 1 ?_
  refine dn ?_
  cases h
  exact Wp.ret en0
  refine cT ?_
  refine Wp.skip ?_
  refine sh ?_
  refine Wp.seq ?_
  refine Wp.block ?_
  refine rs0 ?_
  iterate 3 refine vp ?_
  refine eI h F fun x1574 F h => ?_
  iterate 4 refine vp ?_
  refine vn ?_
  refine Wp.seq ?_
  refine rs0 ?_
  iterate 4 refine vp ?_
  refine sD h F (fun F h => ?_) fun F h => ?_
  refine vg ?_
  refine vg ?_
  refine vg ?_
  refine vp ?_
  refine vn ?_
  refine sD h F (fun F h => ?_) fun F h => ?_
  refine cF ?_
  refine Wp.skip ?_
  refine sh ?_
  refine rs0 ?_
  iterate 4 refine vp ?_
  obtain ⟨⟨r1576, r1577⟩, hr1575, h⟩ := obind h
  dsimp only at h
  refine vc (con_ref03_Read hr1575) ?_
  iterate 5 refine vp ?_
  refine vn ?_
  refine Wp.seq ?_
  refine rs0 ?_
  iterate 2 refine vp ?_
  refine vn ?_
  refine sB h F (fun F h => ?_) fun F h => ?_
  refine cF ?_
  refine Wp.skip ?_
  refine sh ?_
  refine Wp.seq ?_
  refine rs0 ?_
  iterate 3 refine vp ?_
  refine vn ?_
  refine sD h F (fun F h => ?_) fun F h => ?_
  refine cF ?_
  refine Wp.skip ?_
  refine sh ?_
  refine Wp.seq ?_
  refine rs0 ?_
  iterate 3 refine vp ?_
  refine sD h F (fun F h => ?_) fun F h => ?_
  refine vg ?_
  refine vg ?_
  refine vg ?_
  refine vg ?_
  refine vg ?_
  iterate 2 refine vp ?_
  refine sD h F (fun F h => ?_) fun F h => ?_
  refine vg ?_
  refine vg ?_
  refine vg ?_
  refine vg ?_
  refine vg ?_
  refine vg ?_
  refine vg ?_
  refine vp ?_
  refine vn ?_
  refine sD h F (fun F h => ?_) fun F h => ?_
  refine cF ?_
  refine Wp.skip ?_
  refine sh ?_
  refine rs0 ?_
  iterate 5 refine vp ?_
  refine eI h F fun x1580 F h => ?_
  iterate 3 refine vp ?_
  refine vn ?_
  refine rs (fun d => Nat.beq d 103) ?_
  iterate 5 refine vp ?_
  refine sB h F (fun F h => ?_) fun F h => ?_
  refine vs ?_
  refine vs ?_
  refine vs ?_
  refine vs ?_
  refine vs ?_
  iterate 2 refine vp ?_
  refine gd h F fun F h => ?_
  refine vp ?_
  refine nm cB h F fun l1584 F h => ?_
  refine vp ?_
  refine vn ?_
  refine rs0 ?_
  iterate 6 refine vp ?_
  obtain ⟨r1586, hr1585, h⟩ := obind h
  refine vc (con_ref02_Set hr1585) ?_
  iterate 2 refine vp ?_
  refine vn ?_
  refine rg0 ?_
  iterate 3 refine vp ?_
  refine vn ?_
  refine sh ?_
  refine rg0 ?_
  iterate 3 refine vp ?_
  refine vn ?_
  exact nx [some 0, some 1, some 2, some 3, some 6] (l1584, (IntKind.i64.wrap (p1558 + 1)), r1586, (IntKind.i64.wrap (p1560 + 1))) h
  refine vg ?_
  refine vg ?_
  refine vg ?_
  refine vg ?_
  refine vg ?_
  iterate 2 refine vp ?_
  refine gd h F fun F h => ?_
  refine vp ?_
  refine nm cB h F fun l1581 F h => ?_
  refine vp ?_
  refine vn ?_
  refine rs0 ?_
  iterate 6 refine vp ?_
  obtain ⟨r1583, hr1582, h⟩ := obind h
  refine vc (con_ref02_Set hr1582) ?_
  iterate 2 refine vp ?_
  refine vn ?_
  refine rg0 ?_
  iterate 3 refine vp ?_
  refine vn ?_
  refine sh ?_
  refine rg0 ?_
  iterate 3 refine vp ?_
  refine vn ?_
  exact nx [some 0, some 1, some 2, some 3, some 6] (l1581, (IntKind.i64.wrap (p1558 + 1)), r1583, (IntKind.i64.wrap (p1560 + 1))) h
  refine cT ?_
  refine rs0 ?_
  iterate 4 refine vp ?_
  refine vn ?_
  cases h
  exact Wp.ret en0
  refine vs ?_
  refine vs ?_
  refine vs ?_
  refine vs ?_
  refine vs ?_
  refine vs ?_
  refine vs ?_
  refine vp ?_
  refine vn ?_
  refine cT ?_
  refine rs0 ?_
  iterate 4 refine vp ?_
  refine vn ?_
  cases h
  exact Wp.ret en0
  refine vs ?_
  refine vs ?_
  refine vs ?_
  refine vs ?_
  refine vs ?_
  iterate 2 refine vp ?_
  refine vs ?_
  refine vs ?_
  refine vs ?_
  refine vs ?_
  refine vs ?_
  refine vs ?_
  refine vs ?_
  refine vp ?_
  refine vn ?_
  refine cT ?_
  refine rs0 ?_
  iterate 4 refine vp ?_
  refine vn ?_
  cases h
  exact Wp.ret en0
  refine cT ?_
  refine rs (fun d => Nat.beq d 64) ?_
  iterate 7 refine vp ?_
  refine gd h F fun F h => ?_
  refine vp ?_
  refine nm cB h F fun l1579 F h => ?_
  refine vp ?_
  refine vn ?_
  refine Wp.exit ?_
  refine sh ?_
  refine rg0 ?_
  iterate 3 refine vp ?_
  refine vn ?_
  exact nx [some 0, some 1, some 2, some 3, some 6] (l1579, (IntKind.i64.wrap (p1558 + 1)), p1559, p1560) h
  refine cT ?_
  refine rs0 ?_
  iterate 5 refine vp ?_
  refine vn ?_
  cases h
  exact Wp.ret en0
  refine cT ?_
  refine rs0 ?_
  iterate 4 refine vp ?_
  refine vn ?_
  cases h
  exact Wp.ret en0
  refine vs ?_
  refine vs ?_
  refine vs ?_
  refine vp ?_
  refine vn ?_
  refine cT ?_
  refine rs0 ?_
  iterate 4 refine vp ?_
  refine vn ?_
  cases h
  exact Wp.ret en0

theorem con_addr_CheckSize {n : Nat} {s0 : ApiSize} {r : Int} (h : addr_CheckSize n s0 = some r) : Con Try.prog 51 [.agg (cApiSize s0)] (.int .i64 r) [] := by
  refine con_of (T := TT0) tt_ok Try.func51 (c := _) (by unfold Try.f51; rfl) Try.ntmps51 (rs := [.tmp 2]) (by rw [Try.results51]) (by unfold Try.f51; rfl) (by simp) ?_
  simp only [argsCh]
  have F := True.intro
  dsimp only [addr_CheckSize] at h
  refine rs0 ?_
  iterate 2 refine vp ?_
  refine vn ?_
  refine Wp.seq ?_
  refine rs0 ?_
  iterate 2 refine vp ?_
  obtain ⟨r698, hr697, h⟩ := obind h
  refine vc (con_addr_within hr697) ?_
  iterate 2 refine vp ?_
  refine sB h F (fun F h => ?_) fun F h => ?_
  refine vg ?_
  refine vg ?_
  obtain ⟨r700, hr699, h⟩ := obind h
  refine vc (con_addr_within hr699) ?_ (hg := by (simp [F]; done))
  refine vg ?_
  iterate 2 refine vp ?_
  refine sB h F (fun F h => ?_) fun F h => ?_
  refine vg ?_
  refine vg ?_
  obtain ⟨r702, hr701, h⟩ := obind h
  refine vc (con_addr_within hr701) ?_ (hg := by (simp [F]; done))
  refine vg ?_
  iterate 2 refine vp ?_
  refine sB h F (fun F h => ?_) fun F h => ?_
  refine vg ?_
  refine vg ?_
  obtain ⟨r704, hr703, h⟩ := obind h
  refine vc (con_addr_within hr703) ?_ (hg := by (simp [F]; done))
  refine vg ?_
  refine vp ?_
  refine vn ?_
  refine sB h F (fun F h => ?_) fun F h => ?_
  refine cF ?_
  refine Wp.skip ?_
  refine sh ?_
  refine rs0 ?_
  refine vp ?_
  refine vn ?_
  cases h
  exact Wp.ret en0
  refine cT ?_
  refine rs0 ?_
  refine vp ?_
  refine vn ?_
  cases h
  exact Wp.ret en0
  refine vs ?_
  refine vs ?_
  refine vs ?_
  refine vs ?_
  refine vp ?_
  refine vn ?_
  refine cT ?_
  refine rs0 ?_
  refine vp ?_
  refine vn ?_
  cases h
  exact Wp.ret en0
  refine vs ?_
  refine vs ?_
  refine vs ?_
  refine vs ?_
  iterate 2 refine vp ?_
  refine vs ?_
  refine vs ?_
  refine vs ?_
  refine vs ?_
  refine vp ?_
  refine vn ?_
  refine cT ?_
  refine rs0 ?_
  refine vp ?_
  refine vn ?_
  cases h
  exact Wp.ret en0
  refine vs ?_
  refine vs ?_
  refine vs ?_
  refine vs ?_
  iterate 2 refine vp ?_
  refine vs ?_
  refine vs ?_
  refine vs ?_
  refine vs ?_
  iterate 2 refine vp ?_
  refine vs ?_
  refine vs ?_
  refine vs ?_
  refine vs ?_
  refine vp ?_
  refine vn ?_
  refine cT ?_
  refine rs0 ?_
  refine vp ?_
  refine vn ?_
  cases h
  exact Wp.ret en0

theorem con_slices_IndexFunc_api_Rung_c86 {n : Nat} {s0 : List ApiRung} {b0 : ApiRung} {r : Int} (h : slices_IndexFunc_api_Rung_c86 n s0 b0 = some r) : ConH Try.prog 88 [aL cApiRung s0, .clos 86 [] [.hptr 0 0 0]] [.var [.str b0.Label, aL cApiContact b0.Contacts, aL cApiCoil b0.Coils, .str b0.Jump]] (.int .i64 r) [.var [.str b0.Label, aL cApiContact b0.Contacts, aL cApiCoil b0.Coils, .str b0.Jump]] := by
  refine conH_of (T := TT0) tt_ok Try.func88 (c := _) (by unfold Try.f88; rfl) Try.ntmps88 (rs := [.tmp 4]) (by rw [Try.results88]) (by unfold Try.f88; rfl) (by simp) (k := 1) rfl rfl ?_
  have F := True.intro
  dsimp only [slices_IndexFunc_api_Rung_c86] at h
  refine rs0 ?_
  refine vp ?_
  refine vn ?_
  refine Wp.seq ?_
  refine rs0 ?_
  iterate 3 refine vp ?_
  refine vn ?_
  refine Wp.block ?_
  refine lp [some 0] (fun p733 : Int => { ch := [(0, aL cApiRung s0), (1, .clos 86 [] [.hptr 0 0 0]), (7, .int .i64 (s0.length : Int)), (8, .int .i64 p733)], hp := [.var [.str b0.Label, aL cApiContact b0.Contacts, aL cApiCoil b0.Coils, .str b0.Jump]], base := 1, n := 19, cond := True }) (fun m x => slices_IndexFunc_api_Rung_c86_L1 n s0 b0 m x = some r) n 0 h ?_
  rintro rec_n1 p733 h
  dsimp only [slices_IndexFunc_api_Rung_c86_L1] at h
  try dsimp only
  refine rs0 ?_
  refine vp ?_
  refine vn ?_
  refine Wp.seq ?_
  refine sD h F (fun F h => ?_) fun F h => ?_
  refine cF ?_
  refine Wp.exit ?_
  refine sh ?_
  refine rs0 ?_
  refine vp ?_
  refine vn ?_
  cases h
  exact Wp.ret (enH [some 0])
  refine cT ?_
  refine Wp.skip ?_
  refine sh ?_
  refine Wp.seq ?_
  refine Wp.block ?_
  refine rs0 ?_
  iterate 2 refine vp ?_
  refine vn ?_
  refine rs0 ?_
  iterate 3 refine vp ?_
  refine eI h F fun x737 F h => ?_
  iterate 2 refine vp ?_
  obtain ⟨r739, hr738, h⟩ := obind h
  refine vh [0] (con_printer_rung_1 hr738) ?_
  refine vn ?_
  refine sB h F (fun F h => ?_) fun F h => ?_
  refine cF ?_
  refine Wp.skip ?_
  refine sh ?_
  refine rg0 ?_
  iterate 2 refine vp ?_
  refine vn ?_
  exact nx [some 0] (IntKind.i64.wrap (p733 + 1)) h
  refine cT ?_
  refine rs0 ?_
  iterate 2 refine vp ?_
  refine vn ?_
  cases h
  exact Wp.ret (enH [some 0])

theorem con_image_Set {n : Nat} {l0 : List Bool} {n_1 : Int} {v2 : Bool} {r : (List Bool) × Int} (h : image_Set n l0 n_1 v2 = some r) : Con Try.prog 119 [aL cB l0, .int .i64 n_1, .bool v2] (.tup [aL cB r.1, .int .i64 r.2]) [] := by
  refine con_of (T := TT0) tt_ok Try.func119 (c := _) (by unfold Try.f119; rfl) Try.ntmps119 (rs := [.tmp 6, .tmp 7]) (by rw [Try.results119]) (by unfold Try.f119; rfl) (by simp) ?_
  simp only [argsCh]
  have F := True.intro
  dsimp only [image_Set] at h
  refine rs0 ?_
  iterate 2 refine vp ?_
  refine vn ?_
  refine Wp.seq ?_
  refine rs0 ?_
  iterate 2 refine vp ?_
  obtain ⟨r1170, hr1169, h⟩ := obind h
  refine vc (con_image_is hr1169) ?_
  refine vp ?_
  refine vn ?_
  refine sB h F (fun F h => ?_) fun F h => ?_
  refine cF ?_
  refine Wp.skip ?_
  refine sh ?_
  refine rs0 ?_
  iterate 2 refine vp ?_
  refine gd h F fun F h => ?_
  refine vp ?_
  refine nm cB h F fun l1171 F h => ?_
  refine vp ?_
  refine vn ?_
  refine rs0 ?_
  iterate 3 refine vp ?_
  refine nm cB h F fun l1172 F h => ?_
  refine vn ?_
  refine rs0 ?_
  iterate 3 refine vp ?_
  refine eI h F fun x1173 F h => ?_
  iterate 2 refine vp ?_
  refine nm cB h F fun l1174 F h => ?_
  refine vn ?_
  refine rs0 ?_
  iterate 3 refine vp ?_
  refine vn ?_
  cases h
  exact Wp.ret en0
  refine cT ?_
  refine rs0 ?_
  iterate 2 refine vp ?_
  refine vn ?_
  cases h
  exact Wp.ret en0

theorem con_addr_CheckAddr {n : Nat} {s0 : ApiSize} {a1 : ApiAddr} {r : Int} (h : addr_CheckAddr n s0 a1 = some r) : Con Try.prog 117 [.agg (cApiSize s0), .agg (cApiAddr a1)] (.int .i64 r) [] := by
  refine con_of (T := TT0) tt_ok Try.func117 (c := _) (by unfold Try.f117; rfl) Try.ntmps117 (rs := [.tmp 4]) (by rw [Try.results117]) (by unfold Try.f117; rfl) (by simp) ?_
  simp only [argsCh]
  have F := True.intro
  dsimp only [addr_CheckAddr] at h
  refine rs0 ?_
  iterate 3 refine vp ?_
  refine vn ?_
  refine Wp.seq ?_
  refine Wp.block ?_
  refine rs0 ?_
  iterate 2 refine vp ?_
  obtain ⟨r748, hr747, h⟩ := obind h
  refine vc (con_addr_within hr747) ?_
  iterate 2 refine vp ?_
  refine vn ?_
  refine sB h F (fun F h => ?_) fun F h => ?_
  refine cF ?_
  refine dw (fun _ => false) [0, 1] ?_
  refine du 5 ?_
  obtain ⟨r750, hr749, h⟩ := obind h
  refine dc (con_addr_Width hr749) ?_
  refine du 1 ?_
  obtain ⟨r752, hr751, h⟩ := obind h
  refine dc (con_addr_within hr751) ?_
  refine du 2 ?_
  refine dn ?_
  refine sB h F (fun F h => ?_) fun F h => ?_
  refine cF ?_
  refine Wp.skip ?_
  refine sh ?_
  refine rs0 ?_
  refine vp ?_
  refine vn ?_
  cases h
  exact Wp.ret en0
  refine cT ?_
  refine rs0 ?_
  refine vp ?_
  refine vn ?_
  cases h
  exact Wp.ret en0
  refine cT ?_
  refine rs0 ?_
  refine vp ?_
  refine vn ?_
  cases h
  exact Wp.ret en0

end Go.Proofs.Ytfghchpnolfllaa
