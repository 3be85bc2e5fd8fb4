/- Contracts: models of functions are right. No law is proved here. -/
import Derived.Test.YtfghchpnolfllaaGMod
import Derived.Test.YtfghchpnolfllaaTab
import Derived.Test.YtfghchpnolfllaaGC0
import Derived.Test.YtfghchpnolfllaaGC1
import Derived.Test.YtfghchpnolfllaaGC2
namespace Go.Proofs.Ytfghchpnolfllaa
open Go.Av Go.G
attribute [-simp] Int.natCast_tdiv_eq_ediv
attribute [local simp] runf guardA opf St.ev Go.Av.look St.setd constAV constAV0 opBin opLen intBin St.need lookT TT0 tab resA resOne resAll blt_dec ble_dec beq_dec isPure
attribute [local simp] opMakeSlice opCopy opIndexAddr opLoad opStore St.mem St.rows opUn calleeA toArgs toArg toArg0 toArgs0 shift shift0 shift1 splice cellsOf isFree ofCells TS.isAgg isCell strBin opConvert
attribute [local simp] opBuildSlice fillA opAppend eqC eqA cksB ckB St.newBox runI valKind withinB readsHp refsD refs noSl opFieldAddr opBuild placeOf Op.operands Call.operands opIndex opExtract opSlice opField partA
attribute [local simp] loA hiA lenA opMakeMap opLookup opMapUpdate keyOk findA_int findA_str putA_strB putA_strI putA_intB putA_intI mAV_length mAV_nil cA1 cA2 cA3 cA4 opNilCheck opMakeFunc opRange
attribute [local simp] aL cI cB cS cL rw_map fz_rw fz_const dropRow_rw fz_append fz_set fz_copy fz_rows rowLen_rw rowsLen_nil rowsLen_cons rowsLen_append rowsLen_map rowsLen_take rowsLen_drop rowsLen_replicate take_map_len take_map_le drop_map_len take_drop_len chunks isScalar isScalar0
attribute [local simp] putBack putAt objMap mapC mapA mapT map0 bid rid memB passed closedB argsH argH argH0 argsH0 objIds ids0 idsC isLocT isLocA isLocC isLoc0 LocObj
attribute [local congr] bind_congr1 map_congr1 cond_congr1
attribute [local simp] cApiAddr cApiContact cApiCoil cApiRung cApiLadder cApiState cApiSize
set_option maxHeartbeats 4000000
set_option maxRecDepth 20000
set_option linter.unusedSimpArgs false
set_option linter.unusedVariables false

theorem con_addr_CheckSize {n : Nat} {s0 : ApiSize} {r : Int} (h : addr_CheckSize n s0 = some r) : Con Try.prog 51 [.agg (cApiSize s0)] (.int .i64 r) [] := by
  refine con_of (T := TT0) tt_ok Try.func51 (c := _) (by unfold Try.f51; rfl) Try.ntmps51 (rs := [.tmp 2]) (by rw [Try.results51]) (by unfold Try.f51; rfl) (by simp) ?_
  simp only [argsCh]
  have F := True.intro
  dsimp only [addr_CheckSize] at h
  refine rs0 ?_
  iterate 2 refine vp ?_
  refine vn ?_
  refine Wp.seq ?_
  refine rs0 ?_
  iterate 2 refine vp ?_
  obtain ⟨r698, hr697, h⟩ := obind h
  refine vc (con_addr_within hr697) ?_
  iterate 2 refine vp ?_
  refine sB h F (fun F h => ?_) fun F h => ?_
  refine vg ?_
  refine vg ?_
  obtain ⟨r700, hr699, h⟩ := obind h
  refine vc (con_addr_within hr699) ?_ (hg := by (simp [F]; done))
  refine vg ?_
  iterate 2 refine vp ?_
  refine sB h F (fun F h => ?_) fun F h => ?_
  refine vg ?_
  refine vg ?_
  obtain ⟨r702, hr701, h⟩ := obind h
  refine vc (con_addr_within hr701) ?_ (hg := by (simp [F]; done))
  refine vg ?_
  iterate 2 refine vp ?_
  refine sB h F (fun F h => ?_) fun F h => ?_
  refine vg ?_
  refine vg ?_
  obtain ⟨r704, hr703, h⟩ := obind h
  refine vc (con_addr_within hr703) ?_ (hg := by (simp [F]; done))
  refine vg ?_
  refine vp ?_
  refine vn ?_
  refine sB h F (fun F h => ?_) fun F h => ?_
  refine cF ?_
  refine Wp.skip ?_
  refine sh ?_
  refine rs0 ?_
  refine vp ?_
  refine vn ?_
  cases h
  exact Wp.ret en0
  refine cT ?_
  refine rs0 ?_
  refine vp ?_
  refine vn ?_
  cases h
  exact Wp.ret en0
  refine vs ?_
  refine vs ?_
  refine vs ?_
  refine vs ?_
  refine vp ?_
  refine vn ?_
  refine cT ?_
  refine rs0 ?_
  refine vp ?_
  refine vn ?_
  cases h
  exact Wp.ret en0
  refine vs ?_
  refine vs ?_
  refine vs ?_
  refine vs ?_
  iterate 2 refine vp ?_
  refine vs ?_
  refine vs ?_
  refine vs ?_
  refine vs ?_
  refine vp ?_
  refine vn ?_
  refine cT ?_
  refine rs0 ?_
  refine vp ?_
  refine vn ?_
  cases h
  exact Wp.ret en0
  refine vs ?_
  refine vs ?_
  refine vs ?_
  refine vs ?_
  iterate 2 refine vp ?_
  refine vs ?_
  refine vs ?_
  refine vs ?_
  refine vs ?_
  iterate 2 refine vp ?_
  refine vs ?_
  refine vs ?_
  refine vs ?_
  refine vs ?_
  refine vp ?_
  refine vn ?_
  refine cT ?_
  refine rs0 ?_
  refine vp ?_
  refine vn ?_
  cases h
  exact Wp.ret en0

theorem con_slices_IndexFunc_api_Rung_c89 {n : Nat} {s0 : List ApiRung} {b0 : ApiLadder} {b1 : Int} {r : Int} (h : slices_IndexFunc_api_Rung_c89 n s0 b0 b1 = some r) : ConH Try.prog 88 [aL cApiRung s0, .clos 89 [] [.hptr 0 0 0, .hptr 1 0 0]] [.var [.int .i64 b0.I, .int .i64 b0.Q, .int .i64 b0.M, aL cApiRung b0.Rungs], .var [.int .i64 b1]] (.int .i64 r) [.var [.int .i64 b0.I, .int .i64 b0.Q, .int .i64 b0.M, aL cApiRung b0.Rungs], .var [.int .i64 b1]] := by
  refine conH_of (T := TT0) tt_ok Try.func88 (c := _) (by unfold Try.f88; rfl) Try.ntmps88 (rs := [.tmp 4]) (by rw [Try.results88]) (by unfold Try.f88; rfl) (by simp) (k := 2) rfl rfl ?_
  have F := True.intro
  dsimp only [slices_IndexFunc_api_Rung_c89] at h
  refine rs0 ?_
  refine vp ?_
  refine vn ?_
  refine Wp.seq ?_
  refine rs0 ?_
  iterate 3 refine vp ?_
  refine vn ?_
  refine Wp.block ?_
  refine lp [some 0, some 1] (fun p1241 : Int => { ch := [(0, aL cApiRung s0), (1, .clos 89 [] [.hptr 0 0 0, .hptr 1 0 0]), (7, .int .i64 (s0.length : Int)), (8, .int .i64 p1241)], hp := [.var [.int .i64 b0.I, .int .i64 b0.Q, .int .i64 b0.M, aL cApiRung b0.Rungs], .var [.int .i64 b1]], base := 2, n := 19, cond := True }) (fun m x => slices_IndexFunc_api_Rung_c89_L1 n s0 b0 b1 m x = some r) n 0 h ?_
  rintro rec_n1 p1241 h
  dsimp only [slices_IndexFunc_api_Rung_c89_L1] at h
  try dsimp only
  refine rs0 ?_
  refine vp ?_
  refine vn ?_
  refine Wp.seq ?_
  refine sD h F (fun F h => ?_) fun F h => ?_
  refine cF ?_
  refine Wp.exit ?_
  refine sh ?_
  refine rs0 ?_
  refine vp ?_
  refine vn ?_
  cases h
  exact Wp.ret (enH [some 0, some 1])
  refine cT ?_
  refine Wp.skip ?_
  refine sh ?_
  refine Wp.seq ?_
  refine Wp.block ?_
  refine rs0 ?_
  iterate 2 refine vp ?_
  refine vn ?_
  refine rs0 ?_
  iterate 3 refine vp ?_
  refine eI h F fun x1245 F h => ?_
  iterate 2 refine vp ?_
  obtain ⟨r1247, hr1246, h⟩ := obind h
  refine vh [0, 1] (con_pathmodel_behind_1 hr1246) ?_
  refine vn ?_
  refine sB h F (fun F h => ?_) fun F h => ?_
  refine cF ?_
  refine Wp.skip ?_
  refine sh ?_
  refine rg0 ?_
  iterate 2 refine vp ?_
  refine vn ?_
  exact nx [some 0, some 1] (IntKind.i64.wrap (p1241 + 1)) h
  refine cT ?_
  refine rs0 ?_
  iterate 2 refine vp ?_
  refine vn ?_
  cases h
  exact Wp.ret (enH [some 0, some 1])

theorem con_rungeval_EdgeCount {n : Nat} {r_0 : ApiRung} {r : Int} (h : rungeval_EdgeCount n r_0 = some r) : Con Try.prog 39 [.agg (cApiRung r_0)] (.int .i64 r) [] := by
  refine con_of (T := TT0) tt_ok Try.func39 (c := _) (by unfold Try.f39; rfl) Try.ntmps39 (rs := [.tmp 2]) (by rw [Try.results39]) (by unfold Try.f39; rfl) (by simp) ?_
  simp only [argsCh]
  have F := True.intro
  dsimp only [rungeval_EdgeCount] at h
  refine rs0 ?_
  iterate 2 refine vp ?_
  refine vn ?_
  refine rs0 ?_
  refine vp ?_
  refine vn ?_
  refine Wp.seq ?_
  refine rs0 ?_
  iterate 4 refine vp ?_
  refine vn ?_
  refine Wp.block ?_
  refine lp [] (fun x : Int × Int => { ch := [(3, .int .i64 x.1), (7, aL cApiContact r_0.Contacts), (8, .int .i64 (r_0.Contacts.length : Int)), (9, .int .i64 x.2)], hp := [], base := 0, n := 19, cond := True }) (fun m x => rungeval_EdgeCount_L1 n r_0 m x.1 x.2 = some r) n (0, 0) h ?_
  rintro rec_n1 ⟨p925, p926⟩ h
  dsimp only [rungeval_EdgeCount_L1] at h
  try dsimp only
  refine rs0 ?_
  refine vp ?_
  refine vn ?_
  refine Wp.seq ?_
  refine sD h F (fun F h => ?_) fun F h => ?_
  refine cF ?_
  refine Wp.exit ?_
  refine sh ?_
  refine rs0 ?_
  iterate 2 refine vp ?_
  refine vn ?_
  cases h
  exact Wp.ret en0
  refine cT ?_
  refine Wp.skip ?_
  refine sh ?_
  refine Wp.seq ?_
  refine Wp.block ?_
  refine rs0 ?_
  refine eI h F fun x930 F h => ?_
  iterate 4 refine vp ?_
  refine vn ?_
  refine rs0 ?_
  refine vp ?_
  obtain ⟨r932, hr931, h⟩ := obind h
  refine vc (con_rungeval_sees hr931) ?_
  refine vn ?_
  refine sB h F (fun F h => ?_) fun F h => ?_
  refine cF ?_
  refine Wp.skip ?_
  refine sh ?_
  refine rg0 ?_
  iterate 2 refine vp ?_
  refine vn ?_
  exact nx [] (p925, (IntKind.i64.wrap (p926 + 1))) h
  refine cT ?_
  refine rg0 ?_
  iterate 3 refine vp ?_
  refine vn ?_
  refine sh ?_
  refine rg0 ?_
  iterate 2 refine vp ?_
  refine vn ?_
  exact nx [] ((IntKind.i64.wrap (p925 + 1)), (IntKind.i64.wrap (p926 + 1))) h

theorem con_state_Clone_o2 {n : Nat} {st0 : ApiState} {r : ApiState} (h : state_Clone_o2 n st0 = some r) : Con Try.prog 33 [.agg (cApiState st0)] (.agg [aL cB r.Q, aL cB r.M, .sl 0 0 r.E.length]) [.arr 1 r.E.length (rw (r.E.map cB))] := by
  refine con_of (T := TT0) tt_ok Try.func33 (c := _) (by unfold Try.f33; rfl) Try.ntmps33 (rs := [.cell 2 27]) (by rw [Try.results33]) (by unfold Try.f33; rfl) (by simp) ?_
  simp only [argsCh]
  have F := True.intro
  dsimp only [state_Clone_o2] at h
  refine rs0 ?_
  iterate 2 refine vp ?_
  refine vn ?_
  refine dw (fun d => Nat.beq d 11) [0] ?_
  refine du 2 ?_
  obtain ⟨r1016, hr1015, h⟩ := obind h
  refine dc (con_slices_Clone_bool hr1015) ?_
  refine du 2 ?_
  obtain ⟨r1018, hr1017, h⟩ := obind h
  refine dc (con_slices_Clone_bool hr1017) ?_
  refine du 2 ?_
  obtain ⟨r1024, hr1023, h⟩ := obind h
  refine dx (con_slices_Clone_bool_o0 hr1023) ?_
  refine du 1 ?_
  refine db ?_
  refine dn ?_
  cases h
  exact Wp.ret (enH [some 2])

end Go.Proofs.Ytfghchpnolfllaa
