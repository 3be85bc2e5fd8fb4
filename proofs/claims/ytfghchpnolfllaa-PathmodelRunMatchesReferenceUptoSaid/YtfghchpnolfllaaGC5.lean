/- Contracts: models of functions are right. No law is proved here. -/
import Derived.Test.YtfghchpnolfllaaGMod
import Derived.Test.YtfghchpnolfllaaTab
import Derived.Test.YtfghchpnolfllaaGC0
import Derived.Test.YtfghchpnolfllaaGC1
import Derived.Test.YtfghchpnolfllaaGC2
namespace Go.Proofs.Ytfghchpnolfllaa
open Go.Av Go.G
attribute [-simp] Int.natCast_tdiv_eq_ediv
attribute [local simp] runf guardA opf St.ev Go.Av.look St.setd constAV constAV0 opBin opLen intBin St.need lookT TT0 tab resA resOne resAll blt_dec ble_dec beq_dec isPure
attribute [local simp] opMakeSlice opCopy opIndexAddr opLoad opStore St.mem St.rows opUn calleeA toArgs toArg toArg0 toArgs0 shift shift0 shift1 splice cellsOf isFree ofCells TS.isAgg isCell strBin opConvert
attribute [local simp] opBuildSlice fillA opAppend eqC eqA cksB ckB St.newBox runI valKind withinB readsHp refsD refs noSl opFieldAddr opBuild placeOf Op.operands Call.operands opIndex opExtract opSlice opField partA
attribute [local simp] loA hiA lenA opMakeMap opLookup opMapUpdate keyOk findA_int findA_str putA_strB putA_strI putA_intB putA_intI mAV_length mAV_nil cA1 cA2 cA3 cA4 opNilCheck opMakeFunc opRange
attribute [local simp] aL cI cB cS cL rw_map fz_rw fz_const dropRow_rw fz_append fz_set fz_copy fz_rows rowLen_rw rowsLen_nil rowsLen_cons rowsLen_append rowsLen_map rowsLen_take rowsLen_drop rowsLen_replicate take_map_len take_map_le drop_map_len take_drop_len chunks isScalar isScalar0
attribute [local simp] putBack putAt objMap mapC mapA mapT map0 bid rid memB passed closedB argsH argH argH0 argsH0 objIds ids0 idsC isLocT isLocA isLocC isLoc0 LocObj
attribute [local congr] bind_congr1 map_congr1 cond_congr1
attribute [local simp] cApiAddr cApiContact cApiCoil cApiRung cApiLadder cApiState cApiSize
set_option maxHeartbeats 4000000
set_option maxRecDepth 20000
set_option linter.unusedSimpArgs false
set_option linter.unusedVariables false

theorem con_lex_IsName {n : Nat} {word0 : Str} {r : Bool} (h : lex_IsName n word0 = some r) : Con Try.prog 85 [.str word0] (.bool r) [] := by
  refine con_of (T := TT0) tt_ok Try.func85 (c := _) (by unfold Try.f85; rfl) Try.ntmps85 (rs := [.tmp 2]) (by rw [Try.results85]) (by unfold Try.f85; rfl) (by simp) ?_
  simp only [argsCh]
  have F := True.intro
  dsimp only [lex_IsName] at h
  refine rs0 ?_
  refine vp ?_
  refine vn ?_
  refine Wp.seq ?_
  refine rs0 ?_
  iterate 3 refine vp ?_
  refine sE h F (fun _ F h => ?_) fun _ F h => ?_
  refine vg ?_
  refine vg ?_
  refine vg ?_
  refine vp ?_
  refine vn ?_
  refine sD h F (fun F h => ?_) fun F h => ?_
  refine cF ?_
  refine Wp.skip ?_
  refine sh ?_
  refine Wp.seq ?_
  refine rs0 ?_
  iterate 2 refine vp ?_
  refine vn ?_
  refine Wp.block ?_
  refine lp [some 0] (fun p713 : Nat => { ch := [(13, .hptr 0 0 0)], hp := [.siter word0 p713], base := 0, n := 37, cond := True }) (fun m x => lex_IsName_L1 n word0 m x = some r) n 0 h ?_
  rintro rec_n1 p713 h
  dsimp only [lex_IsName_L1] at h
  try dsimp only
  refine rs0 ?_
  refine sD h F (fun F h => ?_) fun F h => ?_
  refine v0 ?_
  refine vp ?_
  refine vn ?_
  refine Wp.seq ?_
  refine cF ?_
  refine Wp.exit ?_
  refine sh ?_
  refine rs0 ?_
  refine vp ?_
  refine vn ?_
  cases h
  exact Wp.ret en0
  refine v1 ?_
  refine vp ?_
  refine vn ?_
  refine Wp.seq ?_
  refine cT ?_
  refine Wp.skip ?_
  refine sh ?_
  refine Wp.block ?_
  refine rs0 ?_
  iterate 4 refine vp ?_
  refine vn ?_
  refine rs0 ?_
  refine vp ?_
  obtain ⟨r717, hr716, h⟩ := obind h
  refine vc (con_lex_letter hr716) ?_
  iterate 2 refine vp ?_
  refine sB h F (fun F h => ?_) fun F h => ?_
  refine vs ?_
  refine vs ?_
  refine vs ?_
  refine vs ?_
  refine vs ?_
  refine vs ?_
  refine vs ?_
  refine vs ?_
  refine vs ?_
  refine vs ?_
  refine vs ?_
  refine vs ?_
  refine vs ?_
  refine vs ?_
  refine vp ?_
  refine vn ?_
  refine cF ?_
  refine Wp.skip ?_
  exact nx [some 0] (p713 + (Utf8.decode word0 p713).2) h
  refine vg ?_
  refine vg ?_
  refine vg ?_
  refine sB h F (fun F h => ?_) fun F h => ?_
  refine vg ?_
  refine vg ?_
  refine vg ?_
  refine sB h F (fun F h => ?_) fun F h => ?_
  refine vs ?_
  refine vs ?_
  refine vs ?_
  refine vs ?_
  refine vs ?_
  refine vs ?_
  refine vg ?_
  refine vg ?_
  refine vp ?_
  refine vn ?_
  refine cF ?_
  refine Wp.skip ?_
  exact nx [some 0] (p713 + (Utf8.decode word0 p713).2) h
  refine vg ?_
  refine vg ?_
  refine vg ?_
  refine sD h F (fun F h => ?_) fun F h => ?_
  refine vg ?_
  refine vg ?_
  refine vg ?_
  refine vg ?_
  refine vg ?_
  refine vp ?_
  refine vn ?_
  refine sD h F (fun F h => ?_) fun F h => ?_
  refine cF ?_
  refine Wp.skip ?_
  exact nx [some 0] (p713 + (Utf8.decode word0 p713).2) h
  refine cT ?_
  refine rs0 ?_
  refine vp ?_
  refine vn ?_
  cases h
  exact Wp.ret en0
  refine vs ?_
  refine vs ?_
  refine vg ?_
  refine vg ?_
  refine vg ?_
  refine vp ?_
  refine vn ?_
  refine cT ?_
  refine rs0 ?_
  refine vp ?_
  refine vn ?_
  cases h
  exact Wp.ret en0
  refine vs ?_
  refine vs ?_
  refine vs ?_
  refine vs ?_
  refine vs ?_
  refine vs ?_
  refine vs ?_
  refine vs ?_
  refine vs ?_
  refine vs ?_
  refine vg ?_
  refine vp ?_
  refine vn ?_
  refine cT ?_
  refine rs0 ?_
  refine vp ?_
  refine vn ?_
  cases h
  exact Wp.ret en0
  refine cT ?_
  refine rs0 ?_
  refine vp ?_
  refine vn ?_
  cases h
  exact Wp.ret en0
  refine vs ?_
  refine vs ?_
  refine vs ?_
  refine vp ?_
  refine vn ?_
  refine cT ?_
  refine rs0 ?_
  refine vp ?_
  refine vn ?_
  cases h
  exact Wp.ret en0

theorem con_ref03_Write {n : Nat} {st0 : ApiState} {a1 : ApiAddr} {v2 : Bool} {r : ApiState × Int} (h : ref03_Write n st0 a1 v2 = some r) : Con Try.prog 99 [.agg (cApiState st0), .agg (cApiAddr a1), .bool v2] (.tup [.agg (cApiState r.1), .int .i64 r.2]) [] := by
  refine con_of (T := TT0) tt_ok Try.func99 (c := _) (by unfold Try.f99; rfl) Try.ntmps99 (rs := [.cell 6 27, .tmp 7]) (by rw [Try.results99]) (by unfold Try.f99; rfl) (by simp) ?_
  simp only [argsCh]
  have F := True.intro
  dsimp only [ref03_Write] at h
  refine rs0 ?_
  iterate 4 refine vp ?_
  refine vn ?_
  refine rs (fun d => Nat.beq d 10) ?_
  refine vp ?_
  obtain ⟨r2632, hr2631, h⟩ := obind h
  refine vc (con_ref03_Clone_o0_1 hr2631) ?_
  iterate 2 refine vp ?_
  refine vn ?_
  refine Wp.seq ?_
  refine rs0 ?_
  iterate 2 refine vp ?_
  refine vn ?_
  refine Wp.block ?_
  refine rs0 ?_
  iterate 2 refine vp ?_
  refine vn ?_
  refine sB h F (fun F h => ?_) fun F h => ?_
  refine cF ?_
  refine rs0 ?_
  iterate 2 refine vp ?_
  refine vn ?_
  refine sB h F (fun F h => ?_) fun F h => ?_
  refine cF ?_
  refine rs0 ?_
  iterate 3 refine vp ?_
  refine vn ?_
  cases h
  exact Wp.ret en0
  refine cT ?_
  refine Wp.seq ?_
  refine rs0 ?_
  iterate 4 refine vp ?_
  refine sD h F (fun F h => ?_) fun F h => ?_
  refine vg ?_
  refine vg ?_
  refine vg ?_
  refine vg ?_
  refine vg ?_
  refine vg ?_
  refine vp ?_
  refine vn ?_
  refine sD h F (fun F h => ?_) fun F h => ?_
  refine cF ?_
  refine Wp.skip ?_
  refine sh ?_
  refine rg0 ?_
  iterate 5 refine vp ?_
  refine eI h F fun x2635 F h => ?_
  iterate 2 refine vp ?_
  refine nm cB h F fun l2636 F h => ?_
  refine vn ?_
  refine sh ?_
  refine rs0 ?_
  iterate 3 refine vp ?_
  refine vn ?_
  cases h
  exact Wp.ret en0
  refine cT ?_
  refine rs0 ?_
  iterate 3 refine vp ?_
  refine vn ?_
  cases h
  exact Wp.ret en0
  refine vs ?_
  refine vs ?_
  refine vs ?_
  refine vs ?_
  refine vs ?_
  refine vs ?_
  refine vp ?_
  refine vn ?_
  refine cT ?_
  refine rs0 ?_
  iterate 3 refine vp ?_
  refine vn ?_
  cases h
  exact Wp.ret en0
  refine cT ?_
  refine Wp.seq ?_
  refine rs0 ?_
  iterate 4 refine vp ?_
  refine sD h F (fun F h => ?_) fun F h => ?_
  refine vg ?_
  refine vg ?_
  refine vg ?_
  refine vg ?_
  refine vg ?_
  refine vg ?_
  refine vp ?_
  refine vn ?_
  refine sD h F (fun F h => ?_) fun F h => ?_
  refine cF ?_
  refine Wp.skip ?_
  refine sh ?_
  refine rg0 ?_
  iterate 5 refine vp ?_
  refine eI h F fun x2633 F h => ?_
  iterate 2 refine vp ?_
  refine nm cB h F fun l2634 F h => ?_
  refine vn ?_
  refine sh ?_
  refine rs0 ?_
  iterate 3 refine vp ?_
  refine vn ?_
  cases h
  exact Wp.ret en0
  refine cT ?_
  refine rs0 ?_
  iterate 3 refine vp ?_
  refine vn ?_
  cases h
  exact Wp.ret en0
  refine vs ?_
  refine vs ?_
  refine vs ?_
  refine vs ?_
  refine vs ?_
  refine vs ?_
  refine vp ?_
  refine vn ?_
  refine cT ?_
  refine rs0 ?_
  iterate 3 refine vp ?_
  refine vn ?_
  cases h
  exact Wp.ret en0

theorem con_slices_IndexFunc_api_Rung_c89 {n : Nat} {s0 : List ApiRung} {b0 : ApiLadder} {b1 : Int} {r : Int} (h : slices_IndexFunc_api_Rung_c89 n s0 b0 b1 = some r) : ConH Try.prog 88 [aL cApiRung s0, .clos 89 [] [.hptr 0 0 0, .hptr 1 0 0]] [.var [.int .i64 b0.I, .int .i64 b0.Q, .int .i64 b0.M, aL cApiRung b0.Rungs], .var [.int .i64 b1]] (.int .i64 r) [.var [.int .i64 b0.I, .int .i64 b0.Q, .int .i64 b0.M, aL cApiRung b0.Rungs], .var [.int .i64 b1]] := by
  refine conH_of (T := TT0) tt_ok Try.func88 (c := _) (by unfold Try.f88; rfl) Try.ntmps88 (rs := [.tmp 4]) (by rw [Try.results88]) (by unfold Try.f88; rfl) (by simp) (k := 2) rfl rfl ?_
  have F := True.intro
  dsimp only [slices_IndexFunc_api_Rung_c89] at h
  refine rs0 ?_
  refine vp ?_
  refine vn ?_
  refine Wp.seq ?_
  refine rs0 ?_
  iterate 3 refine vp ?_
  refine vn ?_
  refine Wp.block ?_
  refine lp [some 0, some 1] (fun p1241 : Int => { ch := [(0, aL cApiRung s0), (1, .clos 89 [] [.hptr 0 0 0, .hptr 1 0 0]), (7, .int .i64 (s0.length : Int)), (8, .int .i64 p1241)], hp := [.var [.int .i64 b0.I, .int .i64 b0.Q, .int .i64 b0.M, aL cApiRung b0.Rungs], .var [.int .i64 b1]], base := 2, n := 19, cond := True }) (fun m x => slices_IndexFunc_api_Rung_c89_L1 n s0 b0 b1 m x = some r) n 0 h ?_
  rintro rec_n1 p1241 h
  dsimp only [slices_IndexFunc_api_Rung_c89_L1] at h
  try dsimp only
  refine rs0 ?_
  refine vp ?_
  refine vn ?_
  refine Wp.seq ?_
  refine sD h F (fun F h => ?_) fun F h => ?_
  refine cF ?_
  refine Wp.exit ?_
  refine sh ?_
  refine rs0 ?_
  refine vp ?_
  refine vn ?_
  cases h
  exact Wp.ret (enH [some 0, some 1])
  refine cT ?_
  refine Wp.skip ?_
  refine sh ?_
  refine Wp.seq ?_
  refine Wp.block ?_
  refine rs0 ?_
  iterate 2 refine vp ?_
  refine vn ?_
  refine rs0 ?_
  iterate 3 refine vp ?_
  refine eI h F fun x1245 F h => ?_
  iterate 2 refine vp ?_
  obtain ⟨r1247, hr1246, h⟩ := obind h
  refine vh [0, 1] (con_pathmodel_behind_1 hr1246) ?_
  refine vn ?_
  refine sB h F (fun F h => ?_) fun F h => ?_
  refine cF ?_
  refine Wp.skip ?_
  refine sh ?_
  refine rg0 ?_
  iterate 2 refine vp ?_
  refine vn ?_
  exact nx [some 0, some 1] (IntKind.i64.wrap (p1241 + 1)) h
  refine cT ?_
  refine rs0 ?_
  iterate 2 refine vp ?_
  refine vn ?_
  cases h
  exact Wp.ret (enH [some 0, some 1])

theorem con_ref20_SlotBases {n : Nat} {l0 : ApiLadder} {r : (List Int)} (h : ref20_SlotBases n l0 = some r) : Con Try.prog 18 [.agg (cApiLadder l0)] (aL (cI .i64) r) [] := by
  refine con_of (T := TT0) tt_ok Try.func18 (c := _) (by unfold Try.f18; rfl) Try.ntmps18 (rs := [.tmp 2]) (by rw [Try.results18]) (by unfold Try.f18; rfl) (by simp) ?_
  simp only [argsCh]
  have F := True.intro
  dsimp only [ref20_SlotBases] at h
  refine rs0 ?_
  iterate 2 refine vp ?_
  refine vn ?_
  refine rs (fun d => Nat.beq d 5) ?_
  refine vp ?_
  refine nl (cI .i64) h F fun l1458 m F h => ?_
  try simp only [m]
  clear m
  refine vp ?_
  refine vn ?_
  refine Wp.seq ?_
  refine rs0 ?_
  refine vp ?_
  refine vn ?_
  refine Wp.block ?_
  refine lp [some 0, some 1] (fun x : (List Int) × Int => { ch := [(1, .hptr 0 0 0), (3, .sl 1 0 x.1.length), (4, .int .i64 x.2)], hp := [.var [.int .i64 l0.I, .int .i64 l0.Q, .int .i64 l0.M, aL cApiRung l0.Rungs], .arr 1 x.1.length (rw (x.1.map (cI .i64)))], base := 0, n := 28, cond := True }) (fun m x => ref20_SlotBases_L1 n l0 m x.1 x.2 = some r) n (l1458, 0) h ?_
  rintro rec_n1 ⟨l1469, p1470⟩ h
  dsimp only [ref20_SlotBases_L1] at h
  try dsimp only
  refine Wp.seq ?_
  refine rs0 ?_
  iterate 5 refine vp ?_
  refine vn ?_
  refine sD h F (fun F h => ?_) fun F h => ?_
  refine cF ?_
  refine Wp.exit ?_
  refine sh ?_
  refine rs0 ?_
  iterate 2 refine vp ?_
  refine vn ?_
  cases h
  exact Wp.ret en0
  refine cT ?_
  refine Wp.skip ?_
  refine sh ?_
  refine Wp.seq ?_
  refine Wp.block ?_
  refine dw1 (fun d => Nat.beq d 26 || Nat.beq d 1026) [0, 1] ?_
  refine du 3 ?_
  refine eI h F fun x1476 F h => ?_
  refine du 5 ?_
  refine eI h F fun x1477 F h => ?_
  refine du 2 ?_
  obtain ⟨r1479, hr1478, h⟩ := obind h
  refine dc (con_ref16_EdgeCount hr1478) ?_
  refine du 2 ?_
  refine gd h F fun F h => ?_
  refine db ?_
  refine nm (cI .i64) h F fun l1480 F h => ?_
  refine du 1 ?_
  refine dn ?_
  refine sh ?_
  refine rg0 ?_
  iterate 3 refine vp ?_
  refine vn ?_
  exact nx [some 0, some 2] (l1480, (IntKind.i64.wrap (p1470 + 1))) h

theorem con_ref03_Equal {n : Nat} {a0 : ApiState} {b1 : ApiState} {r : Bool} (h : ref03_Equal n a0 b1 = some r) : Con Try.prog 14 [.agg (cApiState a0), .agg (cApiState b1)] (.bool r) [] := by
  refine con_of (T := TT0) tt_ok Try.func14 (c := _) (by unfold Try.f14; rfl) Try.ntmps14 (rs := [.tmp 4]) (by rw [Try.results14]) (by unfold Try.f14; rfl) (by simp) ?_
  simp only [argsCh]
  have F := True.intro
  dsimp only [ref03_Equal] at h
  refine rs0 ?_
  iterate 3 refine vp ?_
  refine vn ?_
  refine rs0 ?_
  iterate 4 refine vp ?_
  obtain ⟨r2697, hr2696, h⟩ := obind h
  refine vc (con_ref02_Equal hr2696) ?_
  refine vp ?_
  refine sB h F (fun F h => ?_) fun F h => ?_
  refine vs ?_
  refine vs ?_
  refine vs ?_
  refine vs ?_
  refine vs ?_
  iterate 2 refine vp ?_
  refine vs ?_
  refine vs ?_
  refine vs ?_
  refine vs ?_
  refine vs ?_
  iterate 2 refine vp ?_
  refine vn ?_
  cases h
  exact Wp.ret en0
  refine vg ?_
  refine vg ?_
  refine vg ?_
  refine vg ?_
  obtain ⟨r2699, hr2698, h⟩ := obind h
  refine vc (con_ref02_Equal hr2698) ?_ (hg := by (simp [F]; done))
  iterate 2 refine vp ?_
  refine sB h F (fun F h => ?_) fun F h => ?_
  refine vs ?_
  refine vs ?_
  refine vs ?_
  refine vs ?_
  refine vs ?_
  iterate 2 refine vp ?_
  refine vn ?_
  cases h
  exact Wp.ret en0
  refine vg ?_
  refine vg ?_
  refine vg ?_
  refine vg ?_
  obtain ⟨r2701, hr2700, h⟩ := obind h
  refine vc (con_ref02_Equal hr2700) ?_ (hg := by (simp [F]; done))
  iterate 2 refine vp ?_
  refine vn ?_
  cases h
  exact Wp.ret en0

theorem con_image_Get {n : Nat} {l0 : List Bool} {n_1 : Int} {r : Bool × Int} (h : image_Get n l0 n_1 = some r) : Con Try.prog 118 [aL cB l0, .int .i64 n_1] (.tup [.bool r.1, .int .i64 r.2]) [] := by
  refine con_of (T := TT0) tt_ok Try.func118 (c := _) (by unfold Try.f118; rfl) Try.ntmps118 (rs := [.tmp 4, .tmp 5]) (by rw [Try.results118]) (by unfold Try.f118; rfl) (by simp) ?_
  simp only [argsCh]
  have F := True.intro
  dsimp only [image_Get] at h
  refine rs0 ?_
  iterate 2 refine vp ?_
  refine vn ?_
  refine Wp.seq ?_
  refine rs0 ?_
  iterate 2 refine vp ?_
  obtain ⟨r1030, hr1029, h⟩ := obind h
  refine vc (con_image_is hr1029) ?_
  refine vp ?_
  refine vn ?_
  refine sB h F (fun F h => ?_) fun F h => ?_
  refine cF ?_
  refine Wp.skip ?_
  refine sh ?_
  refine rs0 ?_
  iterate 2 refine vp ?_
  refine eI h F fun x1031 F h => ?_
  iterate 4 refine vp ?_
  refine vn ?_
  cases h
  exact Wp.ret en0
  refine cT ?_
  refine rs0 ?_
  iterate 2 refine vp ?_
  refine vn ?_
  cases h
  exact Wp.ret en0

theorem con_state_Clone {n : Nat} {st0 : ApiState} {r : ApiState} (h : state_Clone n st0 = some r) : Con Try.prog 33 [.agg (cApiState st0)] (.agg (cApiState r)) [] := by
  refine con_of (T := TT0) tt_ok Try.func33 (c := _) (by unfold Try.f33; rfl) Try.ntmps33 (rs := [.cell 2 27]) (by rw [Try.results33]) (by unfold Try.f33; rfl) (by simp) ?_
  simp only [argsCh]
  have F := True.intro
  dsimp only [state_Clone] at h
  refine rs0 ?_
  iterate 2 refine vp ?_
  refine vn ?_
  refine dw (fun _ => false) [0] ?_
  refine du 2 ?_
  obtain ⟨r974, hr973, h⟩ := obind h
  refine dc (con_slices_Clone_bool hr973) ?_
  refine du 2 ?_
  obtain ⟨r976, hr975, h⟩ := obind h
  refine dc (con_slices_Clone_bool hr975) ?_
  refine du 2 ?_
  obtain ⟨r978, hr977, h⟩ := obind h
  refine dc (con_slices_Clone_bool hr977) ?_
  refine du 1 ?_
  refine db ?_
  refine dn ?_
  cases h
  exact Wp.ret en0

end Go.Proofs.Ytfghchpnolfllaa
