/- Contracts: models of functions are right. No law is proved here. -/
import Derived.Test.YtfghchpnolfllaaGMod
import Derived.Test.YtfghchpnolfllaaTab
import Derived.Test.YtfghchpnolfllaaGC2
import Derived.Test.YtfghchpnolfllaaGC3
import Derived.Test.YtfghchpnolfllaaGC4
import Derived.Test.YtfghchpnolfllaaGC5
namespace Go.Proofs.Ytfghchpnolfllaa
open Go.Av Go.G
attribute [-simp] Int.natCast_tdiv_eq_ediv
attribute [local simp] runf guardA opf St.ev Go.Av.look St.setd constAV constAV0 opBin opLen intBin St.need lookT TT0 tab resA resOne resAll blt_dec ble_dec beq_dec isPure
attribute [local simp] opMakeSlice opCopy opIndexAddr opLoad opStore St.mem St.rows opUn calleeA toArgs toArg toArg0 toArgs0 shift shift0 shift1 splice cellsOf isFree ofCells TS.isAgg isCell strBin opConvert
attribute [local simp] opBuildSlice fillA opAppend eqC eqA cksB ckB St.newBox runI valKind withinB readsHp refsD refs noSl opFieldAddr opBuild placeOf Op.operands Call.operands opIndex opExtract opSlice opField partA
attribute [local simp] loA hiA lenA opMakeMap opLookup opMapUpdate keyOk findA_int findA_str putA_strB putA_strI putA_intB putA_intI mAV_length mAV_nil cA1 cA2 cA3 cA4 opNilCheck opMakeFunc opRange
attribute [local simp] aL cI cB cS cL rw_map fz_rw fz_const dropRow_rw fz_append fz_set fz_copy fz_rows rowLen_rw rowsLen_nil rowsLen_cons rowsLen_append rowsLen_map rowsLen_take rowsLen_drop rowsLen_replicate take_map_len take_map_le drop_map_len take_drop_len chunks isScalar isScalar0
attribute [local simp] putBack putAt objMap mapC mapA mapT map0 bid rid memB passed closedB argsH argH argH0 argsH0 objIds ids0 idsC isLocT isLocA isLocC isLoc0 LocObj
attribute [local congr] bind_congr1 map_congr1 cond_congr1
attribute [local simp] cApiAddr cApiContact cApiCoil cApiRung cApiLadder cApiState cApiSize
set_option maxHeartbeats 4000000
set_option maxRecDepth 20000
set_option linter.unusedSimpArgs false
set_option linter.unusedVariables false

theorem con_ref11_contacts {n : Nat} {s0 : ApiSize} {r_1 : ApiRung} {r : Int} (h : ref11_contacts n s0 r_1 = some r) : Con Try.prog 95 [.agg (cApiSize s0), .agg (cApiRung r_1)] (.int .i64 r) [] := by
  refine con_of (T := TT0) tt_ok Try.func95 (c := _) (by unfold Try.f95; rfl) Try.ntmps95 (rs := [.tmp 4]) (by rw [Try.results95]) (by unfold Try.f95; rfl) (by simp) ?_
  simp only [argsCh]
  have F := True.intro
  dsimp only [ref11_contacts] at h
  refine rs0 ?_
  iterate 3 refine vp ?_
  refine vn ?_
  refine Wp.seq ?_
  refine rs0 ?_
  iterate 4 refine vp ?_
  refine vn ?_
  refine sD h F (fun F h => ?_) fun F h => ?_
  refine cF ?_
  refine Wp.skip ?_
  refine sh ?_
  refine Wp.seq ?_
  refine rs0 ?_
  refine vp ?_
  refine vn ?_
  refine Wp.block ?_
  refine lp [some 0, some 1] (fun p1365 : Int => { ch := [(2, .hptr 0 0 0), (3, .hptr 1 0 0), (5, .int .i64 p1365)], hp := [.var [.int .i64 s0.I, .int .i64 s0.Q, .int .i64 s0.M, .int .i64 s0.E], .var [.str r_1.Label, aL cApiContact r_1.Contacts, aL cApiCoil r_1.Coils, .str r_1.Jump]], base := 0, n := 49, cond := True }) (fun m x => ref11_contacts_L1 n s0 r_1 m x = some r) n 0 h ?_
  rintro rec_n1 p1365 h
  dsimp only [ref11_contacts_L1] at h
  try dsimp only
  refine Wp.seq ?_
  refine rs0 ?_
  iterate 5 refine vp ?_
  refine vn ?_
  refine sD h F (fun F h => ?_) fun F h => ?_
  refine cF ?_
  refine Wp.exit ?_
  refine sh ?_
  refine rs0 ?_
  refine vp ?_
  refine vn ?_
  cases h
  exact Wp.ret en0
  refine cT ?_
  refine Wp.skip ?_
  refine sh ?_
  refine Wp.seq ?_
  refine Wp.block ?_
  refine rs0 ?_
  iterate 3 refine vp ?_
  refine eI h F fun x1373 F h => ?_
  iterate 4 refine vp ?_
  refine vn ?_
  refine Wp.seq ?_
  refine rs0 ?_
  iterate 4 refine vp ?_
  refine sD h F (fun F h => ?_) fun F h => ?_
  refine vg ?_
  refine vg ?_
  refine vg ?_
  refine vp ?_
  refine vn ?_
  refine sD h F (fun F h => ?_) fun F h => ?_
  refine cF ?_
  refine Wp.skip ?_
  refine sh ?_
  refine rs0 ?_
  iterate 3 refine vp ?_
  obtain ⟨r1375, hr1374, h⟩ := obind h
  refine vc (con_ref01_CheckAddr hr1374) ?_
  refine vp ?_
  refine vn ?_
  refine Wp.seq ?_
  refine rs0 ?_
  iterate 2 refine vp ?_
  refine vn ?_
  refine sB h F (fun F h => ?_) fun F h => ?_
  refine cF ?_
  refine Wp.skip ?_
  refine sh ?_
  refine rs0 ?_
  iterate 2 refine vp ?_
  obtain ⟨r1377, hr1376, h⟩ := obind h
  refine vc (con_ref09_IsName hr1376) ?_
  iterate 2 refine vp ?_
  refine sB h F (fun F h => ?_) fun F h => ?_
  refine vg ?_
  refine vg ?_
  obtain ⟨r1379, hr1378, h⟩ := obind h
  refine vc (con_ref09_IsName hr1378) ?_ (hg := by (simp [F]; done))
  refine vg ?_
  refine vp ?_
  refine vn ?_
  refine sB h F (fun F h => ?_) fun F h => ?_
  refine cF ?_
  refine Wp.skip ?_
  refine sh ?_
  refine rg0 ?_
  iterate 3 refine vp ?_
  refine vn ?_
  exact nx [some 0, some 1] (IntKind.i64.wrap (p1365 + 1)) h
  refine cT ?_
  refine rs0 ?_
  refine vp ?_
  refine vn ?_
  cases h
  exact Wp.ret en0
  refine vs ?_
  refine vs ?_
  refine vs ?_
  refine vs ?_
  refine vp ?_
  refine vn ?_
  refine cT ?_
  refine rs0 ?_
  refine vp ?_
  refine vn ?_
  cases h
  exact Wp.ret en0
  refine cT ?_
  refine rs0 ?_
  iterate 2 refine vp ?_
  refine vn ?_
  cases h
  exact Wp.ret en0
  refine cT ?_
  refine rs0 ?_
  refine vp ?_
  refine vn ?_
  cases h
  exact Wp.ret en0
  refine vs ?_
  refine vs ?_
  refine vs ?_
  refine vp ?_
  refine vn ?_
  refine cT ?_
  refine rs0 ?_
  refine vp ?_
  refine vn ?_
  cases h
  exact Wp.ret en0
  refine cT ?_
  refine rs0 ?_
  refine vp ?_
  refine vn ?_
  cases h
  exact Wp.ret en0

theorem con_state_Fits {n : Nat} {s0 : ApiSize} {st1 : ApiState} {r : Bool} (h : state_Fits n s0 st1 = some r) : Con Try.prog 32 [.agg (cApiSize s0), .agg (cApiState st1)] (.bool r) [] := by
  refine con_of (T := TT0) tt_ok Try.func32 (c := _) (by unfold Try.f32; rfl) Try.ntmps32 (rs := [.tmp 4]) (by rw [Try.results32]) (by unfold Try.f32; rfl) (by simp) ?_
  simp only [argsCh]
  have F := True.intro
  dsimp only [state_Fits] at h
  refine rs0 ?_
  iterate 3 refine vp ?_
  refine vn ?_
  refine rs0 ?_
  refine vp ?_
  obtain ⟨r952, hr951, h⟩ := obind h
  refine vc (con_state_images hr951) ?_
  iterate 2 refine vp ?_
  refine vn ?_
  refine Wp.seq ?_
  refine rs0 ?_
  iterate 8 refine vp ?_
  refine vn ?_
  refine Wp.block ?_
  refine lp [some 0, some 2] (fun p957 : Int => { ch := [(2, .hptr 0 0 0), (5, .hptr 1 0 0), (16, .agg [.int .i64 s0.Q, .int .i64 s0.M, .int .i64 s0.E]), (17, .int .i64 p957)], hp := [.var [.int .i64 s0.I, .int .i64 s0.Q, .int .i64 s0.M, .int .i64 s0.E], .var [aL cB r952.1, aL cB r952.2.1, aL cB r952.2.2]], base := 0, n := 31, cond := True }) (fun m x => state_Fits_L1 n s0 r952 m x = some r) n 0 h ?_
  rintro rec_n1 p957 h
  dsimp only [state_Fits_L1] at h
  try dsimp only
  refine rs0 ?_
  refine vp ?_
  refine vn ?_
  refine Wp.seq ?_
  refine sD h F (fun F h => ?_) fun F h => ?_
  refine cF ?_
  refine Wp.exit ?_
  refine sh ?_
  refine rs0 ?_
  refine vp ?_
  obtain ⟨r965, hr964, h⟩ := obind h
  refine vc (con_addr_CheckSize hr964) ?_
  iterate 2 refine vp ?_
  refine vn ?_
  cases h
  exact Wp.ret en0
  refine cT ?_
  refine Wp.skip ?_
  refine sh ?_
  refine Wp.seq ?_
  refine Wp.block ?_
  refine rs0 ?_
  refine vp ?_
  refine sP h F (fun F h => ?_) fun F h => ?_
  iterate 3 refine vp ?_
  refine vn ?_
  refine rs0 ?_
  iterate 6 refine vp ?_
  refine vn ?_
  refine sB h F (fun F h => ?_) fun F h => ?_
  refine cF ?_
  refine Wp.skip ?_
  refine sh ?_
  refine rg0 ?_
  iterate 2 refine vp ?_
  refine vn ?_
  exact nx [some 0, some 1] (IntKind.i64.wrap (p957 + 1)) h
  refine cT ?_
  refine rs0 ?_
  refine vp ?_
  refine vn ?_
  cases h
  exact Wp.ret en0
  refine sP h F (fun F h => ?_) fun F h => ?_
  iterate 3 refine vp ?_
  refine vn ?_
  refine rs0 ?_
  iterate 6 refine vp ?_
  refine vn ?_
  refine sB h F (fun F h => ?_) fun F h => ?_
  refine cF ?_
  refine Wp.skip ?_
  refine sh ?_
  refine rg0 ?_
  iterate 2 refine vp ?_
  refine vn ?_
  exact nx [some 0, some 1] (IntKind.i64.wrap (p957 + 1)) h
  refine cT ?_
  refine rs0 ?_
  refine vp ?_
  refine vn ?_
  cases h
  exact Wp.ret en0
  refine sP h F (fun F h => ?_) fun F h => ?_
  iterate 3 refine vp ?_
  refine vn ?_
  refine rs0 ?_
  iterate 6 refine vp ?_
  refine vn ?_
  refine sB h F (fun F h => ?_) fun F h => ?_
  refine cF ?_
  refine Wp.skip ?_
  refine sh ?_
  refine rg0 ?_
  iterate 2 refine vp ?_
  refine vn ?_
  exact nx [some 0, some 1] (IntKind.i64.wrap (p957 + 1)) h
  refine cT ?_
  refine rs0 ?_
  refine vp ?_
  refine vn ?_
  cases h
  exact Wp.ret en0
  cases h

theorem con_state_Read {n : Nat} {in0 : List Bool} {st1 : ApiState} {a2 : ApiAddr} {r : Bool × Int} (h : state_Read n in0 st1 a2 = some r) : Con Try.prog 90 [aL cB in0, .agg (cApiState st1), .agg (cApiAddr a2)] (.tup [.bool r.1, .int .i64 r.2]) [] := by
  refine con_of (T := TT0) tt_ok Try.func90 (c := _) (by unfold Try.f90; rfl) Try.ntmps90 (rs := [.tmp 6, .tmp 7]) (by rw [Try.results90]) (by unfold Try.f90; rfl) (by simp) ?_
  simp only [argsCh]
  have F := True.intro
  dsimp only [state_Read] at h
  refine rs0 ?_
  iterate 4 refine vp ?_
  refine vn ?_
  refine rs0 ?_
  iterate 8 refine vp ?_
  refine vn ?_
  refine Wp.seq ?_
  refine rs0 ?_
  iterate 4 refine vp ?_
  refine sD h F (fun F h => ?_) fun F h => ?_
  refine vg ?_
  refine vg ?_
  refine vg ?_
  refine vp ?_
  refine vn ?_
  refine sD h F (fun F h => ?_) fun F h => ?_
  refine cF ?_
  refine Wp.skip ?_
  refine sh ?_
  refine dw (fun _ => false) [1, 2] ?_
  refine du 2 ?_
  refine sP h F (fun F h => ?_) fun F h => ?_
  refine du 4 ?_
  obtain ⟨⟨r1033, r1034⟩, hr1032, h⟩ := obind h
  dsimp only at h
  refine dc (con_image_Get hr1032) ?_
  refine du 4 ?_
  refine dn ?_
  cases h
  exact Wp.ret en0
  refine sP h F (fun F h => ?_) fun F h => ?_
  refine du 4 ?_
  obtain ⟨⟨r1036, r1037⟩, hr1035, h⟩ := obind h
  dsimp only at h
  refine dc (con_image_Get hr1035) ?_
  refine du 4 ?_
  refine dn ?_
  cases h
  exact Wp.ret en0
  refine sP h F (fun F h => ?_) fun F h => ?_
  refine du 4 ?_
  obtain ⟨⟨r1039, r1040⟩, hr1038, h⟩ := obind h
  dsimp only at h
  refine dc (con_image_Get hr1038) ?_
  refine du 4 ?_
  refine dn ?_
  cases h
  exact Wp.ret en0
  cases h
  refine cT ?_
  refine rs0 ?_
  iterate 2 refine vp ?_
  refine vn ?_
  cases h
  exact Wp.ret en0
  refine vs ?_
  refine vs ?_
  refine vs ?_
  refine vp ?_
  refine vn ?_
  refine cT ?_
  refine rs0 ?_
  iterate 2 refine vp ?_
  refine vn ?_
  cases h
  exact Wp.ret en0

theorem con_slices_ContainsFunc_api_Rung_c54 {n : Nat} {s0 : List ApiRung} {b0 : ApiRung} {r : Bool} (h : slices_ContainsFunc_api_Rung_c54 n s0 b0 = some r) : ConH Try.prog 53 [aL cApiRung s0, .clos 54 [] [.hptr 0 0 0]] [.var [.str b0.Label, aL cApiContact b0.Contacts, aL cApiCoil b0.Coils, .str b0.Jump]] (.bool r) [.var [.str b0.Label, aL cApiContact b0.Contacts, aL cApiCoil b0.Coils, .str b0.Jump]] := by
  refine conH_of (T := TT0) tt_ok Try.func53 (c := _) (by unfold Try.f53; rfl) Try.ntmps53 (rs := [.tmp 4]) (by rw [Try.results53]) (by unfold Try.f53; rfl) (by simp) (k := 1) rfl rfl ?_
  have F := True.intro
  dsimp only [slices_ContainsFunc_api_Rung_c54] at h
  refine rs0 ?_
  refine vp ?_
  refine vn ?_
  refine rs0 ?_
  iterate 2 refine vp ?_
  obtain ⟨r872, hr871, h⟩ := obind h
  refine vh [0] (con_slices_IndexFunc_api_Rung_c54 hr871) ?_
  iterate 2 refine vp ?_
  refine vn ?_
  cases h
  exact Wp.ret (enH [some 0])

end Go.Proofs.Ytfghchpnolfllaa
