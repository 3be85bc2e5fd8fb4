/- Contracts: models of functions are right. No law is proved here. -/
import Derived.Test.YtfghchpnolfllaaGMod
import Derived.Test.YtfghchpnolfllaaTab
namespace Go.Proofs.Ytfghchpnolfllaa
open Go.Av Go.G
attribute [-simp] Int.natCast_tdiv_eq_ediv
attribute [local simp] runf guardA opf St.ev Go.Av.look St.setd constAV constAV0 opBin opLen intBin St.need lookT TT0 tab resA resOne resAll blt_dec ble_dec beq_dec isPure
attribute [local simp] opMakeSlice opCopy opIndexAddr opLoad opStore St.mem St.rows opUn calleeA toArgs toArg toArg0 toArgs0 shift shift0 shift1 splice cellsOf isFree ofCells TS.isAgg isCell strBin opConvert
attribute [local simp] opBuildSlice fillA opAppend eqC eqA cksB ckB St.newBox runI valKind withinB readsHp refsD refs noSl opFieldAddr opBuild placeOf Op.operands Call.operands opIndex opExtract opSlice opField partA
attribute [local simp] loA hiA lenA opMakeMap opLookup opMapUpdate keyOk findA_int findA_str putA_strB putA_strI putA_intB putA_intI mAV_length mAV_nil cA1 cA2 cA3 cA4 opNilCheck opMakeFunc opRange
attribute [local simp] aL cI cB cS cL rw_map fz_rw fz_const dropRow_rw fz_append fz_set fz_copy fz_rows rowLen_rw rowsLen_nil rowsLen_cons rowsLen_append rowsLen_map rowsLen_take rowsLen_drop rowsLen_replicate take_map_len take_map_le drop_map_len take_drop_len chunks isScalar isScalar0
attribute [local simp] putBack putAt objMap mapC mapA mapT map0 bid rid memB passed closedB argsH argH argH0 argsH0 objIds ids0 idsC isLocT isLocA isLocC isLoc0 LocObj
attribute [local congr] bind_congr1 map_congr1 cond_congr1
attribute [local simp] cApiAddr cApiContact cApiCoil cApiRung cApiLadder cApiState cApiSize
set_option maxHeartbeats 4000000
set_option maxRecDepth 20000
set_option linter.unusedSimpArgs false
set_option linter.unusedVariables false

theorem con_ref16_Conducts {n : Nat} {_append0 : ApiRung} {a1 : List Bool} {r : Bool × Int} (h : ref16_Conducts n _append0 a1 = some r) : Con Try.prog 64 [.agg (cApiRung _append0), aL cB a1] (.tup [.bool r.1, .int .i64 r.2]) [] := by
  refine con_of (T := TT0) tt_ok Try.func64 (c := _) (by unfold Try.f64; rfl) Try.ntmps64 (rs := [.tmp 4, .tmp 5]) (by rw [Try.results64]) (by unfold Try.f64; rfl) (by simp) ?_
  simp only [argsCh]
  have F := True.intro
  dsimp only [ref16_Conducts] at h
  refine rs0 ?_
  iterate 3 refine vp ?_
  refine vn ?_
  refine Wp.seq ?_
  refine rs0 ?_
  iterate 6 refine vp ?_
  refine vn ?_
  refine sB h F (fun F h => ?_) fun F h => ?_
  refine cF ?_
  refine Wp.skip ?_
  refine sh ?_
  refine rs (fun d => Nat.beq d 19) ?_
  refine vp ?_
  refine nl cS h F fun l1621 m F h => ?_
  try simp only [m]
  clear m
  refine vp ?_
  refine vn ?_
  refine jn (fun l2116 : List Str => { ch := [(6, .sl 0 0 l2116.length)], hp := [.arr 1 l2116.length (rw (l2116.map cS))], base := 0, n := 90, cond := True }) (fun x => ref16_Conducts_J1 n x = some r) ?_ ?_
  clear h
  rintro l2116 h
  dsimp only [ref16_Conducts_J1] at h
  try dsimp only
  refine Wp.seq ?_
  refine rs0 ?_
  refine vp ?_
  refine vn ?_
  refine Wp.block ?_
  refine lp [some 0] (fun p2118 : Int => { ch := [(6, .sl 0 0 l2116.length), (12, .int .i64 p2118)], hp := [.arr 1 l2116.length (rw (l2116.map cS))], base := 0, n := 90, cond := True }) (fun m x => ref16_Conducts_L2 l2116 m x = some r) n 0 h ?_
  rintro rec_n2 p2118 h
  dsimp only [ref16_Conducts_L2] at h
  try dsimp only
  refine Wp.seq ?_
  refine rs0 ?_
  iterate 4 refine vp ?_
  refine vn ?_
  refine sD h F (fun F h => ?_) fun F h => ?_
  refine cF ?_
  refine Wp.exit ?_
  refine sh ?_
  refine rs0 ?_
  iterate 2 refine vp ?_
  refine vn ?_
  cases h
  exact Wp.ret en0
  refine cT ?_
  refine Wp.skip ?_
  refine sh ?_
  refine Wp.seq ?_
  refine Wp.block ?_
  refine rs0 ?_
  iterate 2 refine vp ?_
  refine eI h F fun x2120 F h => ?_
  iterate 3 refine vp ?_
  refine vn ?_
  refine sE h F (fun _ F h => ?_) fun _ F h => ?_
  refine cF ?_
  refine Wp.skip ?_
  refine sh ?_
  refine rg0 ?_
  iterate 3 refine vp ?_
  refine vn ?_
  exact nx [some 0] (IntKind.i64.wrap (p2118 + 1)) h
  refine cT ?_
  refine rs0 ?_
  iterate 2 refine vp ?_
  refine vn ?_
  cases h
  exact Wp.ret en0
  refine rs0 ?_
  refine vp ?_
  refine vn ?_
  refine Wp.block ?_
  refine lp [some 0, some 1] (fun x : Int × (List Str) => { ch := [(1, aL cB a1), (2, .hptr 0 0 0), (6, .sl 1 0 x.2.length), (7, .int .i64 x.1)], hp := [.var [.str _append0.Label, aL cApiContact _append0.Contacts, aL cApiCoil _append0.Coils, .str _append0.Jump], .arr 1 x.2.length (rw (x.2.map cS))], base := 0, n := 90, cond := True }) (fun m x => ref16_Conducts_L3 n _append0 a1 m x.1 x.2 = some r) n (0, l1621) h ?_
  rintro rec_n3 ⟨p2285, l2286⟩ h
  dsimp only [ref16_Conducts_L3] at h
  try dsimp only
  refine Wp.seq ?_
  refine rs0 ?_
  iterate 4 refine vp ?_
  refine vn ?_
  refine sD h F (fun F h => ?_) fun F h => ?_
  refine cF ?_
  refine Wp.exit ?_
  exact nx [some 1] l2286 h
  refine cT ?_
  refine Wp.skip ?_
  refine sh ?_
  refine Wp.seq ?_
  refine Wp.block ?_
  refine rs0 ?_
  refine vp ?_
  refine vn ?_
  refine Wp.block ?_
  refine lp [some 0, some 1] (fun x : Int × (List Str) => { ch := [(1, aL cB a1), (2, .hptr 0 0 0), (6, .sl 1 0 x.2.length), (7, .int .i64 p2285), (8, .int .i64 x.1)], hp := [.var [.str _append0.Label, aL cApiContact _append0.Contacts, aL cApiCoil _append0.Coils, .str _append0.Jump], .arr 1 x.2.length (rw (x.2.map cS))], base := 0, n := 90, cond := True }) (fun m x => ref16_Conducts_L4 n _append0 a1 p2285 (ref16_Conducts_L3 n _append0 a1 rec_n3) m x.1 x.2 = some r) n (0, l2286) h ?_
  rintro rec_n4 ⟨p2505, l2506⟩ h
  dsimp only [ref16_Conducts_L4] at h
  try dsimp only
  refine Wp.seq ?_
  refine rs0 ?_
  iterate 4 refine vp ?_
  refine vn ?_
  refine sD h F (fun F h => ?_) fun F h => ?_
  refine cF ?_
  refine Wp.exit ?_
  refine sh ?_
  refine rg0 ?_
  iterate 3 refine vp ?_
  refine vn ?_
  exact nx [some 0, some 1] ((IntKind.i64.wrap (p2285 + 1)), l2506) h
  refine cT ?_
  refine Wp.skip ?_
  refine sh ?_
  refine Wp.seq ?_
  refine Wp.block ?_
  refine Wp.seq ?_
  refine rs0 ?_
  iterate 2 refine vp ?_
  refine eI h F fun x2562 F h => ?_
  iterate 3 refine vp ?_
  refine vn ?_
  refine sB h F (fun F h => ?_) fun F h => ?_
  refine cF ?_
  refine Wp.skip ?_
  refine sh ?_
  refine rs0 ?_
  refine vp ?_
  refine vn ?_
  refine rs0 ?_
  refine vp ?_
  refine vn ?_
  refine jn (fun x : Bool × Bool => { ch := [(1, aL cB a1), (2, .hptr 0 0 0), (6, .sl 1 0 l2506.length), (7, .int .i64 p2285), (8, .int .i64 p2505), (9, .bool x.2), (10, .bool x.1)], hp := [.var [.str _append0.Label, aL cApiContact _append0.Contacts, aL cApiCoil _append0.Coils, .str _append0.Jump], .arr 1 l2506.length (rw (l2506.map cS))], base := 0, n := 90, cond := True }) (fun x => ref16_Conducts_J5 _append0 p2505 l2506 (ref16_Conducts_L4 n _append0 a1 p2285 (ref16_Conducts_L3 n _append0 a1 rec_n3) rec_n4) x.1 x.2 = some r) ?_ ?_
  clear h
  rintro ⟨false2587, false2588⟩ h
  dsimp only [ref16_Conducts_J5] at h
  try dsimp only
  refine rs0 ?_
  iterate 2 refine vp ?_
  refine sB h F (fun F h => ?_) fun F h => ?_
  refine vs ?_
  refine vs ?_
  refine vp ?_
  refine vn ?_
  refine cF ?_
  refine Wp.skip ?_
  refine sh ?_
  refine rg0 ?_
  iterate 3 refine vp ?_
  refine vn ?_
  exact nx [some 0, some 1] ((IntKind.i64.wrap (p2505 + 1)), l2506) h
  refine vg ?_
  refine vg ?_
  refine vp ?_
  refine vn ?_
  refine sB h F (fun F h => ?_) fun F h => ?_
  refine cF ?_
  refine Wp.skip ?_
  refine sh ?_
  refine rg0 ?_
  iterate 3 refine vp ?_
  refine vn ?_
  exact nx [some 0, some 1] ((IntKind.i64.wrap (p2505 + 1)), l2506) h
  refine cT ?_
  refine rg0 ?_
  iterate 4 refine vp ?_
  refine eI h F fun x2589 F h => ?_
  iterate 4 refine vp ?_
  refine gd h F fun F h => ?_
  refine vp ?_
  refine nm cS h F fun l2590 F h => ?_
  refine vp ?_
  refine vn ?_
  refine sh ?_
  refine rg0 ?_
  iterate 3 refine vp ?_
  refine vn ?_
  exact nx [some 0, some 2] ((IntKind.i64.wrap (p2505 + 1)), l2590) h
  refine rs0 ?_
  refine vp ?_
  refine vn ?_
  refine Wp.block ?_
  refine lp [some 0, some 1] (fun x : Bool × Int × Bool => { ch := [(1, aL cB a1), (2, .hptr 0 0 0), (6, .sl 1 0 l2506.length), (7, .int .i64 p2285), (8, .int .i64 p2505), (9, .bool x.2.2), (10, .bool x.1), (11, .int .i64 x.2.1)], hp := [.var [.str _append0.Label, aL cApiContact _append0.Contacts, aL cApiCoil _append0.Coils, .str _append0.Jump], .arr 1 l2506.length (rw (l2506.map cS))], base := 0, n := 90, cond := True }) (fun m x => ref16_Conducts_L6 _append0 p2505 l2506 (ref16_Conducts_L4 n _append0 a1 p2285 (ref16_Conducts_L3 n _append0 a1 rec_n3) rec_n4) m x.1 x.2.1 x.2.2 = some r) n (false, 0, false) h ?_
  rintro rec_n6 ⟨false2598, p2599, false2600⟩ h
  dsimp only [ref16_Conducts_L6] at h
  try dsimp only
  refine Wp.seq ?_
  refine rs0 ?_
  iterate 4 refine vp ?_
  refine vn ?_
  refine sD h F (fun F h => ?_) fun F h => ?_
  refine cF ?_
  refine Wp.exit ?_
  exact nx [some 0, some 1] (false2598, false2600) h
  refine cT ?_
  refine Wp.skip ?_
  refine sh ?_
  refine Wp.seq ?_
  refine Wp.block ?_
  refine jn (fun true2610 : Bool => { ch := [(1, aL cB a1), (2, .hptr 0 0 0), (6, .sl 1 0 l2506.length), (7, .int .i64 p2285), (8, .int .i64 p2505), (9, .bool true2610), (10, .bool false2598), (11, .int .i64 p2599)], hp := [.var [.str _append0.Label, aL cApiContact _append0.Contacts, aL cApiCoil _append0.Coils, .str _append0.Jump], .arr 1 l2506.length (rw (l2506.map cS))], base := 0, n := 90, cond := True }) (fun x => ref16_Conducts_J7 _append0 p2505 l2506 false2598 p2599 (ref16_Conducts_L6 _append0 p2505 l2506 (ref16_Conducts_L4 n _append0 a1 p2285 (ref16_Conducts_L3 n _append0 a1 rec_n3) rec_n4) rec_n6) x = some r) ?_ ?_
  clear h
  rintro true2610 h
  dsimp only [ref16_Conducts_J7] at h
  try dsimp only
  refine dw (fun _ => false) [0, 1] ?_
  refine du 2 ?_
  refine eI h F fun x2611 F h => ?_
  refine du 5 ?_
  refine eI h F fun x2612 F h => ?_
  refine du 4 ?_
  refine dn ?_
  refine sE h F (fun _ F h => ?_) fun _ F h => ?_
  refine cF ?_
  refine Wp.skip ?_
  refine sh ?_
  refine rg0 ?_
  iterate 3 refine vp ?_
  refine vn ?_
  exact nx [some 0, some 1] (false2598, (IntKind.i64.wrap (p2599 + 1)), true2610) h
  refine cT ?_
  refine rg0 ?_
  refine vp ?_
  refine vn ?_
  refine sh ?_
  refine rg0 ?_
  iterate 3 refine vp ?_
  refine vn ?_
  exact nx [some 0, some 1] (true, (IntKind.i64.wrap (p2599 + 1)), true2610) h
  refine dw (fun _ => false) [0, 1] ?_
  refine du 2 ?_
  refine eI h F fun x2613 F h => ?_
  refine du 5 ?_
  refine eI h F fun x2614 F h => ?_
  refine du 4 ?_
  refine dn ?_
  refine sE h F (fun _ F h => ?_) fun _ F h => ?_
  refine cF ?_
  refine Wp.skip ?_
  exact nx [some 0, some 1] false2600 h
  refine cT ?_
  refine rg0 ?_
  refine vp ?_
  refine vn ?_
  exact nx [some 0, some 1] true h
  refine cT ?_
  refine Wp.exit ?_
  refine sh ?_
  refine rg0 ?_
  iterate 3 refine vp ?_
  refine vn ?_
  exact nx [some 0, some 1] ((IntKind.i64.wrap (p2505 + 1)), l2506) h
  refine cT ?_
  refine rs0 ?_
  iterate 2 refine vp ?_
  refine vn ?_
  cases h
  exact Wp.ret en0

theorem con_law20_example {n : Nat} {r : ApiLadder} (h : law20_example n  = some r) : Con Try.prog 30 [] (.agg (cApiLadder r)) [] := by
  refine con_of (T := TT0) tt_ok Try.func30 (c := _) (by unfold Try.f30; rfl) Try.ntmps30 (rs := [.cell 0 24]) (by rw [Try.results30]) (by unfold Try.f30; rfl) (by simp) ?_
  simp only [argsCh]
  have F := True.intro
  dsimp only [law20_example] at h
  refine rs0 ?_
  refine vp ?_
  refine vn ?_
  refine rs0 ?_
  iterate 2 refine vp ?_
  refine nl cApiContact h F fun l687 m F h => ?_
  try simp only [m]
  clear m
  refine vp ?_
  refine vn ?_
  refine rs0 ?_
  iterate 6 refine vp ?_
  refine nl cApiCoil h F fun l688 m F h => ?_
  try simp only [m]
  clear m
  iterate 5 refine vp ?_
  refine nl cApiCoil h F fun l689 m F h => ?_
  try simp only [m]
  clear m
  refine vp ?_
  refine vl [some 0] { ch := [(0, .hptr 0 0 0), (1, aL cApiContact l687), (2, .agg [.int .i64 0, .int .i64 0, .int .i64 0, .str (⟨#[76]⟩ : Str), .str (⟨#[82]⟩ : Str)]), (3, aL cApiContact l687), (4, aL cApiContact l687), (5, .agg [.str (⟨#[]⟩ : Str), aL cApiContact l687, aL cApiCoil ([] : List ApiCoil), .str (⟨#[122]⟩ : Str)]), (6, aL cApiContact l687), (7, .agg [.int .i64 1, .int .i64 0]), (8, .agg [.int .i64 0, .int .i64 1, .int .i64 0]), (9, aL cApiCoil l688), (10, .agg [.str (⟨#[]⟩ : Str), aL cApiContact l687, aL cApiCoil l688, .str (⟨#[]⟩ : Str)]), (11, aL cApiContact l687), (12, .agg [.int .i64 1, .int .i64 1]), (13, .agg [.int .i64 0, .int .i64 1, .int .i64 1]), (14, aL cApiCoil l689), (15, .agg [.str (⟨#[122]⟩ : Str), aL cApiContact l687, aL cApiCoil l689, .str (⟨#[]⟩ : Str)])], hp := [.var [.int .i64 0, .int .i64 0, .int .i64 0, .nilsl]], base := 0, n := 18, cond := True } ?_
  refine vp ?_
  refine nl cApiRung h F fun l690 m F h => ?_
  try simp only [m]
  clear m
  iterate 2 refine vp ?_
  refine vn ?_
  cases h
  exact Wp.ret en0

theorem con_ref09_letter {n : Nat} {c0 : Int} {r : Bool} (h : ref09_letter n c0 = some r) : Con Try.prog 120 [.int .u8 c0] (.bool r) [] := by
  refine con_of (T := TT0) tt_ok Try.func120 (c := _) (by unfold Try.f120; rfl) Try.ntmps120 (rs := [.tmp 2]) (by rw [Try.results120]) (by unfold Try.f120; rfl) (by simp) ?_
  simp only [argsCh]
  have F := True.intro
  dsimp only [ref09_letter] at h
  refine rs0 ?_
  refine vp ?_
  refine vn ?_
  refine rs0 ?_
  iterate 3 refine vp ?_
  refine sD h F (fun F h => ?_) fun F h => ?_
  refine vs ?_
  refine vs ?_
  iterate 2 refine vp ?_
  refine vg ?_
  refine vg ?_
  refine vg ?_
  refine sD h F (fun F h => ?_) fun F h => ?_
  refine vs ?_
  refine vs ?_
  refine vg ?_
  iterate 2 refine vp ?_
  refine vn ?_
  cases h
  exact Wp.ret en0
  refine vg ?_
  refine vg ?_
  refine vg ?_
  iterate 2 refine vp ?_
  refine vn ?_
  cases h
  exact Wp.ret en0
  refine vg ?_
  refine vg ?_
  iterate 2 refine vp ?_
  refine sD h F (fun F h => ?_) fun F h => ?_
  refine vg ?_
  refine vg ?_
  refine vg ?_
  refine sD h F (fun F h => ?_) fun F h => ?_
  refine vs ?_
  refine vs ?_
  refine vg ?_
  iterate 2 refine vp ?_
  refine vn ?_
  cases h
  exact Wp.ret en0
  refine vg ?_
  refine vg ?_
  refine vg ?_
  iterate 2 refine vp ?_
  refine vn ?_
  cases h
  exact Wp.ret en0
  refine vs ?_
  refine vs ?_
  refine vs ?_
  refine vs ?_
  refine vs ?_
  refine vs ?_
  iterate 2 refine vp ?_
  refine vn ?_
  cases h
  exact Wp.ret en0

theorem con_addr_Width {n : Nat} {s0 : ApiSize} {space1 : Int} {r : Int} (h : addr_Width n s0 space1 = some r) : Con Try.prog 139 [.agg (cApiSize s0), .int .i64 space1] (.int .i64 r) [] := by
  refine con_of (T := TT0) tt_ok Try.func139 (c := _) (by unfold Try.f139; rfl) Try.ntmps139 (rs := [.tmp 4]) (by rw [Try.results139]) (by unfold Try.f139; rfl) (by simp) ?_
  simp only [argsCh]
  have F := True.intro
  dsimp only [addr_Width] at h
  refine rs0 ?_
  iterate 2 refine vp ?_
  refine vn ?_
  refine Wp.seq ?_
  refine rs0 ?_
  refine vp ?_
  refine vn ?_
  refine Wp.block ?_
  refine rs0 ?_
  iterate 2 refine vp ?_
  refine vn ?_
  refine sB h F (fun F h => ?_) fun F h => ?_
  refine cF ?_
  refine rs0 ?_
  iterate 2 refine vp ?_
  refine vn ?_
  refine sB h F (fun F h => ?_) fun F h => ?_
  refine cF ?_
  refine rs0 ?_
  iterate 2 refine vp ?_
  refine vn ?_
  refine sB h F (fun F h => ?_) fun F h => ?_
  refine cF ?_
  refine Wp.skip ?_
  refine sh ?_
  refine rs0 ?_
  refine vp ?_
  refine vn ?_
  cases h
  exact Wp.ret en0
  refine cT ?_
  refine rs0 ?_
  iterate 3 refine vp ?_
  refine vn ?_
  cases h
  exact Wp.ret en0
  refine cT ?_
  refine rs0 ?_
  iterate 3 refine vp ?_
  refine vn ?_
  cases h
  exact Wp.ret en0
  refine cT ?_
  refine rs0 ?_
  iterate 3 refine vp ?_
  refine vn ?_
  cases h
  exact Wp.ret en0

theorem con_slices_Clone_bool {n : Nat} {s0 : List Bool} {r : (List Bool)} (h : slices_Clone_bool n s0 = some r) : Con Try.prog 56 [aL cB s0] (aL cB r) [] := by
  refine con_of (T := TT0) tt_ok Try.func56 (c := _) (by unfold Try.f56; rfl) Try.ntmps56 (rs := [.tmp 2]) (by rw [Try.results56]) (by unfold Try.f56; rfl) (by simp) ?_
  simp only [argsCh]
  have F := True.intro
  dsimp only [slices_Clone_bool] at h
  refine rs0 ?_
  refine vp ?_
  refine vn ?_
  refine Wp.seq ?_
  refine rs0 ?_
  refine vp ?_
  refine regv_isnil rfl (.inl rfl) rfl rfl rfl rfl rfl fun hb971 hl972 => ?_
  refine ⟨_, rfl, ?_⟩
  cases hb971
  replace h := isnil_f h
  clear hl972
  simp only [reduceCtorEq, if_true, if_false, Bool.not_true, Bool.not_false]
  refine vn ?_
  refine cF ?_
  refine Wp.skip ?_
  refine sh ?_
  refine rs0 ?_
  iterate 2 refine vp ?_
  refine gd h F fun F h => ?_
  iterate 2 refine vp ?_
  refine vn ?_
  cases h
  exact Wp.ret en0
  replace h := isnil_t (hl972 rfl) h
  simp only [reduceCtorEq, if_true, if_false, Bool.not_true, Bool.not_false]
  refine vn ?_
  refine cT ?_
  refine rs0 ?_
  refine vp ?_
  refine vn ?_
  cases h
  exact Wp.ret en0

theorem con_ref02_Set {n : Nat} {l0 : List Bool} {n_1 : Int} {v2 : Bool} {r : (List Bool)} (h : ref02_Set n l0 n_1 v2 = some r) : Con Try.prog 98 [aL cB l0, .int .i64 n_1, .bool v2] (aL cB r) [] := by
  refine con_of (T := TT0) tt_ok Try.func98 (c := _) (by unfold Try.f98; rfl) Try.ntmps98 (rs := [.tmp 6]) (by rw [Try.results98]) (by unfold Try.f98; rfl) (by simp) ?_
  simp only [argsCh]
  have F := True.intro
  dsimp only [ref02_Set] at h
  refine rs0 ?_
  refine vp ?_
  refine vn ?_
  refine rs (fun d => Nat.beq d 10) ?_
  iterate 2 refine vp ?_
  refine gd h F fun F h => ?_
  iterate 2 refine vp ?_
  refine vn ?_
  refine rs0 ?_
  iterate 3 refine vp ?_
  refine eI h F fun x1550 F h => ?_
  iterate 2 refine vp ?_
  refine nm cB h F fun l1551 F h => ?_
  refine vn ?_
  refine rs0 ?_
  iterate 2 refine vp ?_
  refine vn ?_
  cases h
  exact Wp.ret en0

theorem con_rungeval_sees {n : Nat} {c0 : ApiContact} {r : Bool} (h : rungeval_sees n c0 = some r) : Con Try.prog 66 [.agg (cApiContact c0)] (.bool r) [] := by
  refine con_of (T := TT0) tt_ok Try.func66 (c := _) (by unfold Try.f66; rfl) Try.ntmps66 (rs := [.tmp 2]) (by rw [Try.results66]) (by unfold Try.f66; rfl) (by simp) ?_
  simp only [argsCh]
  have F := True.intro
  dsimp only [rungeval_sees] at h
  refine rs0 ?_
  iterate 2 refine vp ?_
  refine vn ?_
  refine rs0 ?_
  iterate 4 refine vp ?_
  refine sB h F (fun F h => ?_) fun F h => ?_
  refine vg ?_
  refine vg ?_
  refine vg ?_
  iterate 2 refine vp ?_
  refine vn ?_
  cases h
  exact Wp.ret en0
  refine vs ?_
  refine vs ?_
  refine vs ?_
  iterate 2 refine vp ?_
  refine vn ?_
  cases h
  exact Wp.ret en0

theorem con_printer_rung_1 {n : Nat} {x_0 : ApiRung} {b0 : ApiRung} {r : Bool} (h : printer_rung_1 n x_0 b0 = some r) : ConH Try.prog 86 [.agg (cApiRung x_0), .hptr 0 0 0] [.var [.str b0.Label, aL cApiContact b0.Contacts, aL cApiCoil b0.Coils, .str b0.Jump]] (.bool r) [.var [.str b0.Label, aL cApiContact b0.Contacts, aL cApiCoil b0.Coils, .str b0.Jump]] := by
  refine conH_of (T := TT0) tt_ok Try.func86 (c := _) (by unfold Try.f86; rfl) Try.ntmps86 (rs := [.tmp 3]) (by rw [Try.results86]) (by unfold Try.f86; rfl) (by simp) (k := 1) rfl rfl ?_
  have F := True.intro
  dsimp only [printer_rung_1] at h
  refine rs0 ?_
  iterate 2 refine vp ?_
  refine vn ?_
  refine rs0 ?_
  iterate 6 refine vp ?_
  refine vn ?_
  cases h
  exact Wp.ret (enH [some 0])

end Go.Proofs.Ytfghchpnolfllaa
