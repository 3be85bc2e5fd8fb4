/- Contracts: models of functions are right. No law is proved here. -/
import Derived.Test.YtfghchpnolfllaaGMod
import Derived.Test.YtfghchpnolfllaaTab
namespace Go.Proofs.Ytfghchpnolfllaa
open Go.Av Go.G
attribute [-simp] Int.natCast_tdiv_eq_ediv
attribute [local simp] runf guardA opf St.ev Go.Av.look St.setd constAV constAV0 opBin opLen intBin St.need lookT TT0 tab resA resOne resAll blt_dec ble_dec beq_dec isPure
attribute [local simp] opMakeSlice opCopy opIndexAddr opLoad opStore St.mem St.rows opUn calleeA toArgs toArg toArg0 toArgs0 shift shift0 shift1 splice cellsOf isFree ofCells TS.isAgg isCell strBin opConvert
attribute [local simp] opBuildSlice fillA opAppend eqC eqA cksB ckB St.newBox runI valKind withinB readsHp refsD refs noSl opFieldAddr opBuild placeOf Op.operands Call.operands opIndex opExtract opSlice opField partA
attribute [local simp] loA hiA lenA opMakeMap opLookup opMapUpdate keyOk findA_int findA_str putA_strB putA_strI putA_intB putA_intI mAV_length mAV_nil cA1 cA2 cA3 cA4 opNilCheck opMakeFunc opRange
attribute [local simp] aL cI cB cS cL rw_map fz_rw fz_const dropRow_rw fz_append fz_set fz_copy fz_rows rowLen_rw rowsLen_nil rowsLen_cons rowsLen_append rowsLen_map rowsLen_take rowsLen_drop rowsLen_replicate take_map_len take_map_le drop_map_len take_drop_len chunks isScalar isScalar0
attribute [local simp] putBack putAt objMap mapC mapA mapT map0 bid rid memB passed closedB argsH argH argH0 argsH0 objIds ids0 idsC isLocT isLocA isLocC isLoc0 LocObj
attribute [local congr] bind_congr1 map_congr1 cond_congr1
attribute [local simp] cApiAddr cApiContact cApiCoil cApiRung cApiLadder cApiState cApiSize
set_option maxHeartbeats 4000000
set_option maxRecDepth 20000
set_option linter.unusedSimpArgs false
set_option linter.unusedVariables false

theorem con_law03_TooLarge {n : Nat} {l0 : List ApiState} {r : Int} (h : law03_TooLarge n l0 = some r) : Con Try.prog 28 [aL cApiState l0] (.int .i64 r) [] := by
  refine con_of (T := TT0) tt_ok Try.func28 (c := _) (by unfold Try.f28; rfl) Try.ntmps28 (rs := [.tmp 2]) (by rw [Try.results28]) (by unfold Try.f28; rfl) (by simp) ?_
  simp only [argsCh]
  have F := True.intro
  dsimp only [law03_TooLarge] at h
  refine rs0 ?_
  refine vp ?_
  refine vn ?_
  refine Wp.seq ?_
  refine rs0 ?_
  iterate 3 refine vp ?_
  refine vn ?_
  refine Wp.block ?_
  refine lp [] (fun p7 : Int => { ch := [(5, aL cApiState l0), (6, .int .i64 (l0.length : Int)), (7, .int .i64 p7)], hp := [], base := 0, n := 28, cond := True }) (fun m x => law03_TooLarge_L1 l0 m x = some r) n 0 h ?_
  rintro rec_n1 p7 h
  dsimp only [law03_TooLarge_L1] at h
  try dsimp only
  refine rs0 ?_
  refine vp ?_
  refine vn ?_
  refine Wp.seq ?_
  refine sD h F (fun F h => ?_) fun F h => ?_
  refine cF ?_
  refine Wp.exit ?_
  refine sh ?_
  refine rs0 ?_
  refine vp ?_
  refine vn ?_
  cases h
  exact Wp.ret en0
  refine cT ?_
  refine Wp.skip ?_
  refine sh ?_
  refine Wp.seq ?_
  refine Wp.block ?_
  refine rs0 ?_
  refine eI h F fun x9 F h => ?_
  iterate 4 refine vp ?_
  refine vn ?_
  refine rs0 ?_
  iterate 5 refine vp ?_
  refine sD h F (fun F h => ?_) fun F h => ?_
  refine vg ?_
  refine vg ?_
  refine vg ?_
  refine vg ?_
  iterate 2 refine vp ?_
  refine sD h F (fun F h => ?_) fun F h => ?_
  refine vg ?_
  refine vg ?_
  refine vg ?_
  refine vg ?_
  refine vp ?_
  refine vn ?_
  refine sD h F (fun F h => ?_) fun F h => ?_
  refine cF ?_
  refine Wp.skip ?_
  refine sh ?_
  refine rg0 ?_
  iterate 2 refine vp ?_
  refine vn ?_
  exact nx [] (IntKind.i64.wrap (p7 + 1)) h
  refine cT ?_
  refine rs0 ?_
  refine vp ?_
  refine vn ?_
  cases h
  exact Wp.ret en0
  refine vs ?_
  refine vs ?_
  refine vs ?_
  refine vs ?_
  refine vp ?_
  refine vn ?_
  refine cT ?_
  refine rs0 ?_
  refine vp ?_
  refine vn ?_
  cases h
  exact Wp.ret en0
  refine vs ?_
  refine vs ?_
  refine vs ?_
  refine vs ?_
  iterate 2 refine vp ?_
  refine vs ?_
  refine vs ?_
  refine vs ?_
  refine vs ?_
  refine vp ?_
  refine vn ?_
  refine cT ?_
  refine rs0 ?_
  refine vp ?_
  refine vn ?_
  cases h
  exact Wp.ret en0

theorem con_slices_Equal_bool {n : Nat} {s10 : List Bool} {s21 : List Bool} {r : Bool} (h : slices_Equal_bool n s10 s21 = some r) : Con Try.prog 15 [aL cB s10, aL cB s21] (.bool r) [] := by
  refine con_of (T := TT0) tt_ok Try.func15 (c := _) (by unfold Try.f15; rfl) Try.ntmps15 (rs := [.tmp 4]) (by rw [Try.results15]) (by unfold Try.f15; rfl) (by simp) ?_
  simp only [argsCh]
  have F := True.intro
  dsimp only [slices_Equal_bool] at h
  refine rs0 ?_
  refine vp ?_
  refine vn ?_
  refine Wp.seq ?_
  refine rs0 ?_
  iterate 5 refine vp ?_
  refine vn ?_
  refine sB h F (fun F h => ?_) fun F h => ?_
  refine cF ?_
  refine Wp.skip ?_
  refine sh ?_
  refine Wp.seq ?_
  refine rs0 ?_
  iterate 3 refine vp ?_
  refine vn ?_
  refine Wp.block ?_
  refine lp [] (fun p1299 : Int => { ch := [(0, aL cB s10), (1, aL cB s21), (12, .int .i64 (s10.length : Int)), (13, .int .i64 p1299)], hp := [], base := 0, n := 26, cond := True }) (fun m x => slices_Equal_bool_L1 s10 s21 m x = some r) n 0 h ?_
  rintro rec_n1 p1299 h
  dsimp only [slices_Equal_bool_L1] at h
  try dsimp only
  refine rs0 ?_
  refine vp ?_
  refine vn ?_
  refine Wp.seq ?_
  refine sD h F (fun F h => ?_) fun F h => ?_
  refine cF ?_
  refine Wp.exit ?_
  refine sh ?_
  refine rs0 ?_
  refine vp ?_
  refine vn ?_
  cases h
  exact Wp.ret en0
  refine cT ?_
  refine Wp.skip ?_
  refine sh ?_
  refine Wp.seq ?_
  refine Wp.block ?_
  refine rs0 ?_
  iterate 2 refine vp ?_
  refine vn ?_
  refine dw (fun _ => false) [] ?_
  refine du 2 ?_
  refine eI h F fun x1302 F h => ?_
  refine du 4 ?_
  refine eI h F fun x1303 F h => ?_
  refine du 3 ?_
  refine dn ?_
  refine sB h F (fun F h => ?_) fun F h => ?_
  refine cF ?_
  refine Wp.skip ?_
  refine sh ?_
  refine rg0 ?_
  iterate 2 refine vp ?_
  refine vn ?_
  exact nx [] (IntKind.i64.wrap (p1299 + 1)) h
  refine cT ?_
  refine rs0 ?_
  refine vp ?_
  refine vn ?_
  cases h
  exact Wp.ret en0
  refine cT ?_
  refine rs0 ?_
  refine vp ?_
  refine vn ?_
  cases h
  exact Wp.ret en0

theorem con_rungeval_conducting {n : Nat} {kind0 : Int} {v1 : Bool} {was2 : Bool} {r : Bool} (h : rungeval_conducting n kind0 v1 was2 = some r) : Con Try.prog 91 [.int .i64 kind0, .bool v1, .bool was2] (.bool r) [] := by
  refine con_of (T := TT0) tt_ok Try.func91 (c := _) (by unfold Try.f91; rfl) Try.ntmps91 (rs := [.tmp 6]) (by rw [Try.results91]) (by unfold Try.f91; rfl) (by simp) ?_
  simp only [argsCh]
  have F := True.intro
  dsimp only [rungeval_conducting] at h
  refine rs0 ?_
  refine vp ?_
  refine vn ?_
  refine rs0 ?_
  iterate 5 refine vp ?_
  refine sB h F (fun F h => ?_) fun F h => ?_
  refine vs ?_
  refine vs ?_
  iterate 4 refine vp ?_
  refine vg ?_
  iterate 3 refine vp ?_
  refine sP h F (fun F h => ?_) fun F h => ?_
  iterate 2 refine vp ?_
  refine vn ?_
  cases h
  exact Wp.ret en0
  refine sP h F (fun F h => ?_) fun F h => ?_
  iterate 2 refine vp ?_
  refine vn ?_
  cases h
  exact Wp.ret en0
  refine sP h F (fun F h => ?_) fun F h => ?_
  iterate 2 refine vp ?_
  refine vn ?_
  cases h
  exact Wp.ret en0
  refine sP h F (fun F h => ?_) fun F h => ?_
  iterate 2 refine vp ?_
  refine vn ?_
  cases h
  exact Wp.ret en0
  cases h
  refine vg ?_
  refine vg ?_
  iterate 4 refine vp ?_
  refine vs ?_
  iterate 3 refine vp ?_
  refine sP h F (fun F h => ?_) fun F h => ?_
  iterate 2 refine vp ?_
  refine vn ?_
  cases h
  exact Wp.ret en0
  refine sP h F (fun F h => ?_) fun F h => ?_
  iterate 2 refine vp ?_
  refine vn ?_
  cases h
  exact Wp.ret en0
  refine sP h F (fun F h => ?_) fun F h => ?_
  iterate 2 refine vp ?_
  refine vn ?_
  cases h
  exact Wp.ret en0
  refine sP h F (fun F h => ?_) fun F h => ?_
  iterate 2 refine vp ?_
  refine vn ?_
  cases h
  exact Wp.ret en0
  cases h

theorem con_rungeval_writes {n : Nat} {kind0 : Int} {on1 : Bool} {r : Bool × Bool} (h : rungeval_writes n kind0 on1 = some r) : Con Try.prog 92 [.int .i64 kind0, .bool on1] (.tup [.bool r.1, .bool r.2]) [] := by
  refine con_of (T := TT0) tt_ok Try.func92 (c := _) (by unfold Try.f92; rfl) Try.ntmps92 (rs := [.tmp 4, .tmp 5]) (by rw [Try.results92]) (by unfold Try.f92; rfl) (by simp) ?_
  simp only [argsCh]
  have F := True.intro
  dsimp only [rungeval_writes] at h
  refine rs0 ?_
  iterate 2 refine vp ?_
  refine vn ?_
  refine rs0 ?_
  iterate 11 refine vp ?_
  refine sP h F (fun F h => ?_) fun F h => ?_
  iterate 3 refine vp ?_
  refine vn ?_
  refine dw (fun _ => false) [0] ?_
  refine du 6 ?_
  refine dn ?_
  cases h
  exact Wp.ret en0
  refine sP h F (fun F h => ?_) fun F h => ?_
  iterate 3 refine vp ?_
  refine vn ?_
  refine dw (fun _ => false) [0] ?_
  refine du 6 ?_
  refine dn ?_
  cases h
  exact Wp.ret en0
  refine sP h F (fun F h => ?_) fun F h => ?_
  iterate 3 refine vp ?_
  refine vn ?_
  refine dw (fun _ => false) [0] ?_
  refine du 6 ?_
  refine dn ?_
  cases h
  exact Wp.ret en0
  refine sP h F (fun F h => ?_) fun F h => ?_
  iterate 3 refine vp ?_
  refine vn ?_
  refine dw (fun _ => false) [0] ?_
  refine du 6 ?_
  refine dn ?_
  cases h
  exact Wp.ret en0
  cases h

theorem con_pathmodel_behind_1 {n : Nat} {r_0 : ApiRung} {b0 : ApiLadder} {b1 : Int} {r : Bool} (h : pathmodel_behind_1 n r_0 b0 b1 = some r) : ConH Try.prog 89 [.agg (cApiRung r_0), .hptr 0 0 0, .hptr 1 0 0] [.var [.int .i64 b0.I, .int .i64 b0.Q, .int .i64 b0.M, aL cApiRung b0.Rungs], .var [.int .i64 b1]] (.bool r) [.var [.int .i64 b0.I, .int .i64 b0.Q, .int .i64 b0.M, aL cApiRung b0.Rungs], .var [.int .i64 b1]] := by
  refine conH_of (T := TT0) tt_ok Try.func89 (c := _) (by unfold Try.f89; rfl) Try.ntmps89 (rs := [.tmp 4]) (by rw [Try.results89]) (by unfold Try.f89; rfl) (by simp) (k := 2) rfl rfl ?_
  have F := True.intro
  dsimp only [pathmodel_behind_1] at h
  refine rs0 ?_
  iterate 2 refine vp ?_
  refine vn ?_
  refine dw (fun _ => false) [0, 1, 2] ?_
  refine du 5 ?_
  refine eI h F fun x1228 F h => ?_
  refine du 5 ?_
  refine dn ?_
  cases h
  exact Wp.ret (enH [some 0, some 1])

theorem con_addr_within {n : Nat} {n_0 : Int} {most1 : Int} {r : Bool} (h : addr_within n n_0 most1 = some r) : Con Try.prog 84 [.int .i64 n_0, .int .i64 most1] (.bool r) [] := by
  refine con_of (T := TT0) tt_ok Try.func84 (c := _) (by unfold Try.f84; rfl) Try.ntmps84 (rs := [.tmp 4]) (by rw [Try.results84]) (by unfold Try.f84; rfl) (by simp) ?_
  simp only [argsCh]
  have F := True.intro
  dsimp only [addr_within] at h
  refine rs0 ?_
  refine vp ?_
  refine vn ?_
  refine rs0 ?_
  iterate 3 refine vp ?_
  refine sD h F (fun F h => ?_) fun F h => ?_
  refine vs ?_
  refine vs ?_
  refine vs ?_
  iterate 2 refine vp ?_
  refine vn ?_
  cases h
  exact Wp.ret en0
  refine vg ?_
  refine vg ?_
  refine vg ?_
  iterate 2 refine vp ?_
  refine vn ?_
  cases h
  exact Wp.ret en0

theorem con_printer_Check_1 {n : Nat} {x_0 : ApiRung} {b0 : ApiRung} {r : Bool} (h : printer_Check_1 n x_0 b0 = some r) : ConH Try.prog 54 [.agg (cApiRung x_0), .hptr 0 0 0] [.var [.str b0.Label, aL cApiContact b0.Contacts, aL cApiCoil b0.Coils, .str b0.Jump]] (.bool r) [.var [.str b0.Label, aL cApiContact b0.Contacts, aL cApiCoil b0.Coils, .str b0.Jump]] := by
  refine conH_of (T := TT0) tt_ok Try.func54 (c := _) (by unfold Try.f54; rfl) Try.ntmps54 (rs := [.tmp 3]) (by rw [Try.results54]) (by unfold Try.f54; rfl) (by simp) (k := 1) rfl rfl ?_
  have F := True.intro
  dsimp only [printer_Check_1] at h
  refine rs0 ?_
  iterate 2 refine vp ?_
  refine vn ?_
  refine rs0 ?_
  iterate 6 refine vp ?_
  refine vn ?_
  cases h
  exact Wp.ret (enH [some 0])

theorem con_printer_sizes {n : Nat} {l0 : ApiLadder} {r : ApiSize} (h : printer_sizes n l0 = some r) : Con Try.prog 50 [.agg (cApiLadder l0)] (.agg (cApiSize r)) [] := by
  refine con_of (T := TT0) tt_ok Try.func50 (c := _) (by unfold Try.f50; rfl) Try.ntmps50 (rs := [.cell 2 73]) (by rw [Try.results50]) (by unfold Try.f50; rfl) (by simp) ?_
  simp only [argsCh]
  have F := True.intro
  dsimp only [printer_sizes] at h
  refine rs0 ?_
  iterate 2 refine vp ?_
  refine vn ?_
  refine rs0 ?_
  iterate 8 refine vp ?_
  refine vn ?_
  cases h
  exact Wp.ret en0

end Go.Proofs.Ytfghchpnolfllaa
