/- Contracts: models of functions are right. No law is proved here. -/
import Derived.Test.YtfghchpnolfllaaGMod
import Derived.Test.YtfghchpnolfllaaTab
import Derived.Test.YtfghchpnolfllaaGC0
import Derived.Test.YtfghchpnolfllaaGC1
import Derived.Test.YtfghchpnolfllaaGC2
namespace Go.Proofs.Ytfghchpnolfllaa
open Go.Av Go.G
attribute [-simp] Int.natCast_tdiv_eq_ediv
attribute [local simp] runf guardA opf St.ev Go.Av.look St.setd constAV constAV0 opBin opLen intBin St.need lookT TT0 tab resA resOne resAll blt_dec ble_dec beq_dec isPure
attribute [local simp] opMakeSlice opCopy opIndexAddr opLoad opStore St.mem St.rows opUn calleeA toArgs toArg toArg0 toArgs0 shift shift0 shift1 splice cellsOf isFree ofCells TS.isAgg isCell strBin opConvert
attribute [local simp] opBuildSlice fillA opAppend eqC eqA cksB ckB St.newBox runI valKind withinB readsHp refsD refs noSl opFieldAddr opBuild placeOf Op.operands Call.operands opIndex opExtract opSlice opField partA
attribute [local simp] loA hiA lenA opMakeMap opLookup opMapUpdate keyOk findA_int findA_str putA_strB putA_strI putA_intB putA_intI mAV_length mAV_nil cA1 cA2 cA3 cA4 opNilCheck opMakeFunc opRange
attribute [local simp] aL cI cB cS cL rw_map fz_rw fz_const dropRow_rw fz_append fz_set fz_copy fz_rows rowLen_rw rowsLen_nil rowsLen_cons rowsLen_append rowsLen_map rowsLen_take rowsLen_drop rowsLen_replicate take_map_len take_map_le drop_map_len take_drop_len chunks isScalar isScalar0
attribute [local simp] putBack putAt objMap mapC mapA mapT map0 bid rid memB passed closedB argsH argH argH0 argsH0 objIds ids0 idsC isLocT isLocA isLocC isLoc0 LocObj
attribute [local congr] bind_congr1 map_congr1 cond_congr1
attribute [local simp] cApiAddr cApiContact cApiCoil cApiRung cApiLadder cApiState cApiSize
set_option maxHeartbeats 4000000
set_option maxRecDepth 20000
set_option linter.unusedSimpArgs false
set_option linter.unusedVariables false

theorem con_lex_IsName {n : Nat} {word0 : Str} {r : Bool} (h : lex_IsName n word0 = some r) : Con Try.prog 85 [.str word0] (.bool r) [] := by
  refine con_of (T := TT0) tt_ok Try.func85 (c := _) (by unfold Try.f85; rfl) Try.ntmps85 (rs := [.tmp 2]) (by rw [Try.results85]) (by unfold Try.f85; rfl) (by simp) ?_
  simp only [argsCh]
  have F := True.intro
  dsimp only [lex_IsName] at h
  refine rs0 ?_
  refine vp ?_
  refine vn ?_
  refine Wp.seq ?_
  refine rs0 ?_
  iterate 3 refine vp ?_
  refine sE h F (fun _ F h => ?_) fun _ F h => ?_
  refine vg ?_
  refine vg ?_
  refine vg ?_
  refine vp ?_
  refine vn ?_
  refine sD h F (fun F h => ?_) fun F h => ?_
  refine cF ?_
  refine Wp.skip ?_
  refine sh ?_
  refine Wp.seq ?_
  refine rs0 ?_
  iterate 2 refine vp ?_
  refine vn ?_
  refine Wp.block ?_
  refine lp [some 0] (fun p713 : Nat => { ch := [(13, .hptr 0 0 0)], hp := [.siter word0 p713], base := 0, n := 37, cond := True }) (fun m x => lex_IsName_L1 n word0 m x = some r) n 0 h ?_
  rintro rec_n1 p713 h
  dsimp only [lex_IsName_L1] at h
  try dsimp only
  refine rs0 ?_
  refine sD h F (fun F h => ?_) fun F h => ?_
  refine v0 ?_
  refine vp ?_
  refine vn ?_
  refine Wp.seq ?_
  refine cF ?_
  refine Wp.exit ?_
  refine sh ?_
  refine rs0 ?_
  refine vp ?_
  refine vn ?_
  cases h
  exact Wp.ret en0
  refine v1 ?_
  refine vp ?_
  refine vn ?_
  refine Wp.seq ?_
  refine cT ?_
  refine Wp.skip ?_
  refine sh ?_
  refine Wp.block ?_
  refine rs0 ?_
  iterate 4 refine vp ?_
  refine vn ?_
  refine rs0 ?_
  refine vp ?_
  obtain ⟨r717, hr716, h⟩ := obind h
  refine vc (con_lex_letter hr716) ?_
  iterate 2 refine vp ?_
  refine sB h F (fun F h => ?_) fun F h => ?_
  refine vs ?_
  refine vs ?_
  refine vs ?_
  refine vs ?_
  refine vs ?_
  refine vs ?_
  refine vs ?_
  refine vs ?_
  refine vs ?_
  refine vs ?_
  refine vs ?_
  refine vs ?_
  refine vs ?_
  refine vs ?_
  refine vp ?_
  refine vn ?_
  refine cF ?_
  refine Wp.skip ?_
  exact nx [some 0] (p713 + (Utf8.decode word0 p713).2) h
  refine vg ?_
  refine vg ?_
  refine vg ?_
  refine sB h F (fun F h => ?_) fun F h => ?_
  refine vg ?_
  refine vg ?_
  refine vg ?_
  refine sB h F (fun F h => ?_) fun F h => ?_
  refine vs ?_
  refine vs ?_
  refine vs ?_
  refine vs ?_
  refine vs ?_
  refine vs ?_
  refine vg ?_
  refine vg ?_
  refine vp ?_
  refine vn ?_
  refine cF ?_
  refine Wp.skip ?_
  exact nx [some 0] (p713 + (Utf8.decode word0 p713).2) h
  refine vg ?_
  refine vg ?_
  refine vg ?_
  refine sD h F (fun F h => ?_) fun F h => ?_
  refine vg ?_
  refine vg ?_
  refine vg ?_
  refine vg ?_
  refine vg ?_
  refine vp ?_
  refine vn ?_
  refine sD h F (fun F h => ?_) fun F h => ?_
  refine cF ?_
  refine Wp.skip ?_
  exact nx [some 0] (p713 + (Utf8.decode word0 p713).2) h
  refine cT ?_
  refine rs0 ?_
  refine vp ?_
  refine vn ?_
  cases h
  exact Wp.ret en0
  refine vs ?_
  refine vs ?_
  refine vg ?_
  refine vg ?_
  refine vg ?_
  refine vp ?_
  refine vn ?_
  refine cT ?_
  refine rs0 ?_
  refine vp ?_
  refine vn ?_
  cases h
  exact Wp.ret en0
  refine vs ?_
  refine vs ?_
  refine vs ?_
  refine vs ?_
  refine vs ?_
  refine vs ?_
  refine vs ?_
  refine vs ?_
  refine vs ?_
  refine vs ?_
  refine vg ?_
  refine vp ?_
  refine vn ?_
  refine cT ?_
  refine rs0 ?_
  refine vp ?_
  refine vn ?_
  cases h
  exact Wp.ret en0
  refine cT ?_
  refine rs0 ?_
  refine vp ?_
  refine vn ?_
  cases h
  exact Wp.ret en0
  refine vs ?_
  refine vs ?_
  refine vs ?_
  refine vp ?_
  refine vn ?_
  refine cT ?_
  refine rs0 ?_
  refine vp ?_
  refine vn ?_
  cases h
  exact Wp.ret en0

theorem con_slices_IndexFunc_api_Rung_c86 {n : Nat} {s0 : List ApiRung} {b0 : ApiRung} {r : Int} (h : slices_IndexFunc_api_Rung_c86 n s0 b0 = some r) : ConH Try.prog 88 [aL cApiRung s0, .clos 86 [] [.hptr 0 0 0]] [.var [.str b0.Label, aL cApiContact b0.Contacts, aL cApiCoil b0.Coils, .str b0.Jump]] (.int .i64 r) [.var [.str b0.Label, aL cApiContact b0.Contacts, aL cApiCoil b0.Coils, .str b0.Jump]] := by
  refine conH_of (T := TT0) tt_ok Try.func88 (c := _) (by unfold Try.f88; rfl) Try.ntmps88 (rs := [.tmp 4]) (by rw [Try.results88]) (by unfold Try.f88; rfl) (by simp) (k := 1) rfl rfl ?_
  have F := True.intro
  dsimp only [slices_IndexFunc_api_Rung_c86] at h
  refine rs0 ?_
  refine vp ?_
  refine vn ?_
  refine Wp.seq ?_
  refine rs0 ?_
  iterate 3 refine vp ?_
  refine vn ?_
  refine Wp.block ?_
  refine lp [some 0] (fun p733 : Int => { ch := [(0, aL cApiRung s0), (1, .clos 86 [] [.hptr 0 0 0]), (7, .int .i64 (s0.length : Int)), (8, .int .i64 p733)], hp := [.var [.str b0.Label, aL cApiContact b0.Contacts, aL cApiCoil b0.Coils, .str b0.Jump]], base := 1, n := 19, cond := True }) (fun m x => slices_IndexFunc_api_Rung_c86_L1 n s0 b0 m x = some r) n 0 h ?_
  rintro rec_n1 p733 h
  dsimp only [slices_IndexFunc_api_Rung_c86_L1] at h
  try dsimp only
  refine rs0 ?_
  refine vp ?_
  refine vn ?_
  refine Wp.seq ?_
  refine sD h F (fun F h => ?_) fun F h => ?_
  refine cF ?_
  refine Wp.exit ?_
  refine sh ?_
  refine rs0 ?_
  refine vp ?_
  refine vn ?_
  cases h
  exact Wp.ret (enH [some 0])
  refine cT ?_
  refine Wp.skip ?_
  refine sh ?_
  refine Wp.seq ?_
  refine Wp.block ?_
  refine rs0 ?_
  iterate 2 refine vp ?_
  refine vn ?_
  refine rs0 ?_
  iterate 3 refine vp ?_
  refine eI h F fun x737 F h => ?_
  iterate 2 refine vp ?_
  obtain ⟨r739, hr738, h⟩ := obind h
  refine vh [0] (con_printer_rung_1 hr738) ?_
  refine vn ?_
  refine sB h F (fun F h => ?_) fun F h => ?_
  refine cF ?_
  refine Wp.skip ?_
  refine sh ?_
  refine rg0 ?_
  iterate 2 refine vp ?_
  refine vn ?_
  exact nx [some 0] (IntKind.i64.wrap (p733 + 1)) h
  refine cT ?_
  refine rs0 ?_
  iterate 2 refine vp ?_
  refine vn ?_
  cases h
  exact Wp.ret (enH [some 0])

theorem con_addr_CheckAddr {n : Nat} {s0 : ApiSize} {a1 : ApiAddr} {r : Int} (h : addr_CheckAddr n s0 a1 = some r) : Con Try.prog 117 [.agg (cApiSize s0), .agg (cApiAddr a1)] (.int .i64 r) [] := by
  refine con_of (T := TT0) tt_ok Try.func117 (c := _) (by unfold Try.f117; rfl) Try.ntmps117 (rs := [.tmp 4]) (by rw [Try.results117]) (by unfold Try.f117; rfl) (by simp) ?_
  simp only [argsCh]
  have F := True.intro
  dsimp only [addr_CheckAddr] at h
  refine rs0 ?_
  iterate 3 refine vp ?_
  refine vn ?_
  refine Wp.seq ?_
  refine Wp.block ?_
  refine rs0 ?_
  iterate 2 refine vp ?_
  obtain ⟨r748, hr747, h⟩ := obind h
  refine vc (con_addr_within hr747) ?_
  iterate 2 refine vp ?_
  refine vn ?_
  refine sB h F (fun F h => ?_) fun F h => ?_
  refine cF ?_
  refine dw (fun _ => false) [0, 1] ?_
  refine du 5 ?_
  obtain ⟨r750, hr749, h⟩ := obind h
  refine dc (con_addr_Width hr749) ?_
  refine du 1 ?_
  obtain ⟨r752, hr751, h⟩ := obind h
  refine dc (con_addr_within hr751) ?_
  refine du 2 ?_
  refine dn ?_
  refine sB h F (fun F h => ?_) fun F h => ?_
  refine cF ?_
  refine Wp.skip ?_
  refine sh ?_
  refine rs0 ?_
  refine vp ?_
  refine vn ?_
  cases h
  exact Wp.ret en0
  refine cT ?_
  refine rs0 ?_
  refine vp ?_
  refine vn ?_
  cases h
  exact Wp.ret en0
  refine cT ?_
  refine rs0 ?_
  refine vp ?_
  refine vn ?_
  cases h
  exact Wp.ret en0

theorem con_state_Clone {n : Nat} {st0 : ApiState} {r : ApiState} (h : state_Clone n st0 = some r) : Con Try.prog 33 [.agg (cApiState st0)] (.agg (cApiState r)) [] := by
  refine con_of (T := TT0) tt_ok Try.func33 (c := _) (by unfold Try.f33; rfl) Try.ntmps33 (rs := [.cell 2 27]) (by rw [Try.results33]) (by unfold Try.f33; rfl) (by simp) ?_
  simp only [argsCh]
  have F := True.intro
  dsimp only [state_Clone] at h
  refine rs0 ?_
  iterate 2 refine vp ?_
  refine vn ?_
  refine dw (fun _ => false) [0] ?_
  refine du 2 ?_
  obtain ⟨r974, hr973, h⟩ := obind h
  refine dc (con_slices_Clone_bool hr973) ?_
  refine du 2 ?_
  obtain ⟨r976, hr975, h⟩ := obind h
  refine dc (con_slices_Clone_bool hr975) ?_
  refine du 2 ?_
  obtain ⟨r978, hr977, h⟩ := obind h
  refine dc (con_slices_Clone_bool hr977) ?_
  refine du 1 ?_
  refine db ?_
  refine dn ?_
  cases h
  exact Wp.ret en0

end Go.Proofs.Ytfghchpnolfllaa
