/- Contracts: models of functions are right. No law is proved here. -/
import Derived.Test.YtfghchpnolfllaaGMod
import Derived.Test.YtfghchpnolfllaaTab
namespace Go.Proofs.Ytfghchpnolfllaa
open Go.Av Go.G
attribute [-simp] Int.natCast_tdiv_eq_ediv
attribute [local simp] runf guardA opf St.ev Go.Av.look St.setd constAV constAV0 opBin opLen intBin St.need lookT TT0 tab resA resOne resAll blt_dec ble_dec beq_dec isPure
attribute [local simp] opMakeSlice opCopy opIndexAddr opLoad opStore St.mem St.rows opUn calleeA toArgs toArg toArg0 toArgs0 shift shift0 shift1 splice cellsOf isFree ofCells TS.isAgg isCell strBin opConvert
attribute [local simp] opBuildSlice fillA opAppend eqC eqA cksB ckB St.newBox runI valKind withinB readsHp refsD refs noSl opFieldAddr opBuild placeOf Op.operands Call.operands opIndex opExtract opSlice opField partA
attribute [local simp] loA hiA lenA opMakeMap opLookup opMapUpdate keyOk findA_int findA_str putA_strB putA_strI putA_intB putA_intI mAV_length mAV_nil cA1 cA2 cA3 cA4 opNilCheck opMakeFunc opRange
attribute [local simp] aL cI cB cS cL rw_map fz_rw fz_const dropRow_rw fz_append fz_set fz_copy fz_rows rowLen_rw rowsLen_nil rowsLen_cons rowsLen_append rowsLen_map rowsLen_take rowsLen_drop rowsLen_replicate take_map_len take_map_le drop_map_len take_drop_len chunks isScalar isScalar0
attribute [local simp] putBack putAt objMap mapC mapA mapT map0 bid rid memB passed closedB argsH argH argH0 argsH0 objIds ids0 idsC isLocT isLocA isLocC isLoc0 LocObj
attribute [local congr] bind_congr1 map_congr1 cond_congr1
attribute [local simp] cApiAddr cApiContact cApiCoil cApiRung cApiLadder cApiState cApiSize
set_option maxHeartbeats 4000000
set_option maxRecDepth 20000
set_option linter.unusedSimpArgs false
set_option linter.unusedVariables false

theorem con_law11_TooLarge {n : Nat} {l0 : ApiLadder} {r : Int} (h : law11_TooLarge n l0 = some r) : Con Try.prog 49 [.agg (cApiLadder l0)] (.int .i64 r) [] := by
  refine con_of (T := TT0) tt_ok Try.func49 (c := _) (by unfold Try.f49; rfl) Try.ntmps49 (rs := [.tmp 2]) (by rw [Try.results49]) (by unfold Try.f49; rfl) (by simp) ?_
  simp only [argsCh]
  have F := True.intro
  dsimp only [law11_TooLarge] at h
  refine rs0 ?_
  iterate 2 refine vp ?_
  refine vn ?_
  refine rs0 ?_
  refine vp ?_
  refine vn ?_
  refine jn (fun p38 : Int => { ch := [(1, .hptr 0 0 0), (3, .int .i64 p38)], hp := [.var [.int .i64 l0.I, .int .i64 l0.Q, .int .i64 l0.M, aL cApiRung l0.Rungs]], base := 0, n := 58, cond := True }) (fun x => law11_TooLarge_J1 l0 x = some r) ?_ ?_
  clear h
  rintro p38 h
  dsimp only [law11_TooLarge_J1] at h
  try dsimp only
  refine Wp.seq ?_
  refine rs0 ?_
  iterate 5 refine vp ?_
  refine sD h F (fun F h => ?_) fun F h => ?_
  refine vg ?_
  refine vg ?_
  refine vp ?_
  refine vn ?_
  refine sD h F (fun F h => ?_) fun F h => ?_
  refine cF ?_
  refine Wp.skip ?_
  refine sh ?_
  refine rs0 ?_
  refine vp ?_
  refine vn ?_
  cases h
  exact Wp.ret en0
  refine cT ?_
  refine rs0 ?_
  refine vp ?_
  refine vn ?_
  cases h
  exact Wp.ret en0
  refine vs ?_
  refine vs ?_
  refine vp ?_
  refine vn ?_
  refine cT ?_
  refine rs0 ?_
  refine vp ?_
  refine vn ?_
  cases h
  exact Wp.ret en0
  refine rs0 ?_
  iterate 4 refine vp ?_
  refine vn ?_
  refine Wp.block ?_
  refine lp [some 0] (fun x : Int × Int => { ch := [(1, .hptr 0 0 0), (3, .int .i64 x.2), (9, aL cApiRung l0.Rungs), (10, .int .i64 (l0.Rungs.length : Int)), (11, .int .i64 x.1)], hp := [.var [.int .i64 l0.I, .int .i64 l0.Q, .int .i64 l0.M, aL cApiRung l0.Rungs]], base := 0, n := 58, cond := True }) (fun m x => law11_TooLarge_L2 n l0 m x.1 x.2 = some r) n (0, 0) h ?_
  rintro rec_n2 ⟨p45, p46⟩ h
  dsimp only [law11_TooLarge_L2] at h
  try dsimp only
  refine rs0 ?_
  refine vp ?_
  refine vn ?_
  refine Wp.seq ?_
  refine sD h F (fun F h => ?_) fun F h => ?_
  refine cF ?_
  refine Wp.exit ?_
  exact nx [some 0] p46 h
  refine cT ?_
  refine Wp.skip ?_
  refine sh ?_
  refine Wp.seq ?_
  refine Wp.block ?_
  refine rs0 ?_
  refine eI h F fun x53 F h => ?_
  iterate 4 refine vp ?_
  refine vn ?_
  refine rs0 ?_
  iterate 18 refine vp ?_
  refine vn ?_
  refine rs0 ?_
  iterate 4 refine vp ?_
  refine vn ?_
  refine Wp.block ?_
  refine lp [some 0] (fun x : Int × Int => { ch := [(1, .hptr 0 0 0), (3, .int .i64 x.1), (9, aL cApiRung l0.Rungs), (10, .int .i64 (l0.Rungs.length : Int)), (11, .int .i64 p45), (33, aL cApiContact x53.Contacts), (34, .int .i64 (x53.Contacts.length : Int)), (35, .int .i64 x.2)], hp := [.var [.int .i64 l0.I, .int .i64 l0.Q, .int .i64 l0.M, aL cApiRung l0.Rungs]], base := 0, n := 58, cond := True }) (fun m x => law11_TooLarge_L3 p45 (law11_TooLarge_L2 n l0 rec_n2) x53 m x.1 x.2 = some r) n ((IntKind.i64.wrap (p46 + (IntKind.i64.wrap ((IntKind.i64.wrap ((IntKind.i64.wrap ((x53.Contacts.length : Int) + (x53.Coils.length : Int))) + (x53.Label.size : Int))) + (x53.Jump.size : Int))))), 0) h ?_
  rintro rec_n3 ⟨p55, p56⟩ h
  dsimp only [law11_TooLarge_L3] at h
  try dsimp only
  refine rs0 ?_
  refine vp ?_
  refine vn ?_
  refine Wp.seq ?_
  refine sD h F (fun F h => ?_) fun F h => ?_
  refine cF ?_
  refine Wp.exit ?_
  refine sh ?_
  refine rg0 ?_
  iterate 2 refine vp ?_
  refine vn ?_
  exact nx [some 0] ((IntKind.i64.wrap (p45 + 1)), p55) h
  refine cT ?_
  refine Wp.skip ?_
  refine sh ?_
  refine Wp.seq ?_
  refine Wp.block ?_
  refine rs0 ?_
  refine eI h F fun x58 F h => ?_
  iterate 4 refine vp ?_
  refine vn ?_
  refine rg0 ?_
  iterate 10 refine vp ?_
  refine vn ?_
  refine sh ?_
  refine rg0 ?_
  iterate 2 refine vp ?_
  refine vn ?_
  exact nx [some 0] ((IntKind.i64.wrap (p55 + (IntKind.i64.wrap ((x58.From.size : Int) + (x58.To.size : Int))))), (IntKind.i64.wrap (p56 + 1))) h

theorem con_law20_example {n : Nat} {r : ApiLadder} (h : law20_example n  = some r) : Con Try.prog 30 [] (.agg (cApiLadder r)) [] := by
  refine con_of (T := TT0) tt_ok Try.func30 (c := _) (by unfold Try.f30; rfl) Try.ntmps30 (rs := [.cell 0 24]) (by rw [Try.results30]) (by unfold Try.f30; rfl) (by simp) ?_
  simp only [argsCh]
  have F := True.intro
  dsimp only [law20_example] at h
  refine rs0 ?_
  refine vp ?_
  refine vn ?_
  refine rs0 ?_
  iterate 2 refine vp ?_
  refine nl cApiContact h F fun l687 m F h => ?_
  try simp only [m]
  clear m
  refine vp ?_
  refine vn ?_
  refine rs0 ?_
  iterate 6 refine vp ?_
  refine nl cApiCoil h F fun l688 m F h => ?_
  try simp only [m]
  clear m
  iterate 5 refine vp ?_
  refine nl cApiCoil h F fun l689 m F h => ?_
  try simp only [m]
  clear m
  refine vp ?_
  refine vl [some 0] { ch := [(0, .hptr 0 0 0), (1, aL cApiContact l687), (2, .agg [.int .i64 0, .int .i64 0, .int .i64 0, .str (⟨#[76]⟩ : Str), .str (⟨#[82]⟩ : Str)]), (3, aL cApiContact l687), (4, aL cApiContact l687), (5, .agg [.str (⟨#[]⟩ : Str), aL cApiContact l687, aL cApiCoil ([] : List ApiCoil), .str (⟨#[122]⟩ : Str)]), (6, aL cApiContact l687), (7, .agg [.int .i64 1, .int .i64 0]), (8, .agg [.int .i64 0, .int .i64 1, .int .i64 0]), (9, aL cApiCoil l688), (10, .agg [.str (⟨#[]⟩ : Str), aL cApiContact l687, aL cApiCoil l688, .str (⟨#[]⟩ : Str)]), (11, aL cApiContact l687), (12, .agg [.int .i64 1, .int .i64 1]), (13, .agg [.int .i64 0, .int .i64 1, .int .i64 1]), (14, aL cApiCoil l689), (15, .agg [.str (⟨#[122]⟩ : Str), aL cApiContact l687, aL cApiCoil l689, .str (⟨#[]⟩ : Str)])], hp := [.var [.int .i64 0, .int .i64 0, .int .i64 0, .nilsl]], base := 0, n := 18, cond := True } ?_
  refine vp ?_
  refine nl cApiRung h F fun l690 m F h => ?_
  try simp only [m]
  clear m
  iterate 2 refine vp ?_
  refine vn ?_
  cases h
  exact Wp.ret en0

theorem con_addr_Width {n : Nat} {s0 : ApiSize} {space1 : Int} {r : Int} (h : addr_Width n s0 space1 = some r) : Con Try.prog 139 [.agg (cApiSize s0), .int .i64 space1] (.int .i64 r) [] := by
  refine con_of (T := TT0) tt_ok Try.func139 (c := _) (by unfold Try.f139; rfl) Try.ntmps139 (rs := [.tmp 4]) (by rw [Try.results139]) (by unfold Try.f139; rfl) (by simp) ?_
  simp only [argsCh]
  have F := True.intro
  dsimp only [addr_Width] at h
  refine rs0 ?_
  iterate 2 refine vp ?_
  refine vn ?_
  refine Wp.seq ?_
  refine rs0 ?_
  refine vp ?_
  refine vn ?_
  refine Wp.block ?_
  refine rs0 ?_
  iterate 2 refine vp ?_
  refine vn ?_
  refine sB h F (fun F h => ?_) fun F h => ?_
  refine cF ?_
  refine rs0 ?_
  iterate 2 refine vp ?_
  refine vn ?_
  refine sB h F (fun F h => ?_) fun F h => ?_
  refine cF ?_
  refine rs0 ?_
  iterate 2 refine vp ?_
  refine vn ?_
  refine sB h F (fun F h => ?_) fun F h => ?_
  refine cF ?_
  refine Wp.skip ?_
  refine sh ?_
  refine rs0 ?_
  refine vp ?_
  refine vn ?_
  cases h
  exact Wp.ret en0
  refine cT ?_
  refine rs0 ?_
  iterate 3 refine vp ?_
  refine vn ?_
  cases h
  exact Wp.ret en0
  refine cT ?_
  refine rs0 ?_
  iterate 3 refine vp ?_
  refine vn ?_
  cases h
  exact Wp.ret en0
  refine cT ?_
  refine rs0 ?_
  iterate 3 refine vp ?_
  refine vn ?_
  cases h
  exact Wp.ret en0

theorem con_slices_Clone_bool {n : Nat} {s0 : List Bool} {r : (List Bool)} (h : slices_Clone_bool n s0 = some r) : Con Try.prog 56 [aL cB s0] (aL cB r) [] := by
  refine con_of (T := TT0) tt_ok Try.func56 (c := _) (by unfold Try.f56; rfl) Try.ntmps56 (rs := [.tmp 2]) (by rw [Try.results56]) (by unfold Try.f56; rfl) (by simp) ?_
  simp only [argsCh]
  have F := True.intro
  dsimp only [slices_Clone_bool] at h
  refine rs0 ?_
  refine vp ?_
  refine vn ?_
  refine Wp.seq ?_
  refine rs0 ?_
  refine vp ?_
  refine regv_isnil rfl (.inl rfl) rfl rfl rfl rfl rfl fun hb971 hl972 => ?_
  refine ⟨_, rfl, ?_⟩
  cases hb971
  replace h := isnil_f h
  clear hl972
  simp only [reduceCtorEq, if_true, if_false, Bool.not_true, Bool.not_false]
  refine vn ?_
  refine cF ?_
  refine Wp.skip ?_
  refine sh ?_
  refine rs0 ?_
  iterate 2 refine vp ?_
  refine gd h F fun F h => ?_
  iterate 2 refine vp ?_
  refine vn ?_
  cases h
  exact Wp.ret en0
  replace h := isnil_t (hl972 rfl) h
  simp only [reduceCtorEq, if_true, if_false, Bool.not_true, Bool.not_false]
  refine vn ?_
  refine cT ?_
  refine rs0 ?_
  refine vp ?_
  refine vn ?_
  cases h
  exact Wp.ret en0

theorem con_rungeval_sees {n : Nat} {c0 : ApiContact} {r : Bool} (h : rungeval_sees n c0 = some r) : Con Try.prog 66 [.agg (cApiContact c0)] (.bool r) [] := by
  refine con_of (T := TT0) tt_ok Try.func66 (c := _) (by unfold Try.f66; rfl) Try.ntmps66 (rs := [.tmp 2]) (by rw [Try.results66]) (by unfold Try.f66; rfl) (by simp) ?_
  simp only [argsCh]
  have F := True.intro
  dsimp only [rungeval_sees] at h
  refine rs0 ?_
  iterate 2 refine vp ?_
  refine vn ?_
  refine rs0 ?_
  iterate 4 refine vp ?_
  refine sB h F (fun F h => ?_) fun F h => ?_
  refine vg ?_
  refine vg ?_
  refine vg ?_
  iterate 2 refine vp ?_
  refine vn ?_
  cases h
  exact Wp.ret en0
  refine vs ?_
  refine vs ?_
  refine vs ?_
  iterate 2 refine vp ?_
  refine vn ?_
  cases h
  exact Wp.ret en0

theorem con_printer_rung_1 {n : Nat} {x_0 : ApiRung} {b0 : ApiRung} {r : Bool} (h : printer_rung_1 n x_0 b0 = some r) : ConH Try.prog 86 [.agg (cApiRung x_0), .hptr 0 0 0] [.var [.str b0.Label, aL cApiContact b0.Contacts, aL cApiCoil b0.Coils, .str b0.Jump]] (.bool r) [.var [.str b0.Label, aL cApiContact b0.Contacts, aL cApiCoil b0.Coils, .str b0.Jump]] := by
  refine conH_of (T := TT0) tt_ok Try.func86 (c := _) (by unfold Try.f86; rfl) Try.ntmps86 (rs := [.tmp 3]) (by rw [Try.results86]) (by unfold Try.f86; rfl) (by simp) (k := 1) rfl rfl ?_
  have F := True.intro
  dsimp only [printer_rung_1] at h
  refine rs0 ?_
  iterate 2 refine vp ?_
  refine vn ?_
  refine rs0 ?_
  iterate 6 refine vp ?_
  refine vn ?_
  cases h
  exact Wp.ret (enH [some 0])

end Go.Proofs.Ytfghchpnolfllaa
