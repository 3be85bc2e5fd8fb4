/- Contracts: models of functions are right. No law is proved here. -/
import Derived.Test.YtfghchpnolfllaaGMod
import Derived.Test.YtfghchpnolfllaaTab
namespace Go.Proofs.Ytfghchpnolfllaa
open Go.Av Go.G
attribute [-simp] Int.natCast_tdiv_eq_ediv
attribute [local simp] runf guardA opf St.ev Go.Av.look St.setd constAV constAV0 opBin opLen intBin St.need lookT TT0 tab resA resOne resAll blt_dec ble_dec beq_dec isPure
attribute [local simp] opMakeSlice opCopy opIndexAddr opLoad opStore St.mem St.rows opUn calleeA toArgs toArg toArg0 toArgs0 shift shift0 shift1 splice cellsOf isFree ofCells TS.isAgg isCell strBin opConvert
attribute [local simp] opBuildSlice fillA opAppend eqC eqA cksB ckB St.newBox runI valKind withinB readsHp refsD refs noSl opFieldAddr opBuild placeOf Op.operands Call.operands opIndex opExtract opSlice opField partA
attribute [local simp] loA hiA lenA opMakeMap opLookup opMapUpdate keyOk findA_int findA_str putA_strB putA_strI putA_intB putA_intI mAV_length mAV_nil cA1 cA2 cA3 cA4 opNilCheck opMakeFunc opRange
attribute [local simp] aL cI cB cS cL rw_map fz_rw fz_const dropRow_rw fz_append fz_set fz_copy fz_rows rowLen_rw rowsLen_nil rowsLen_cons rowsLen_append rowsLen_map rowsLen_take rowsLen_drop rowsLen_replicate take_map_len take_map_le drop_map_len take_drop_len chunks isScalar isScalar0
attribute [local simp] putBack putAt objMap mapC mapA mapT map0 bid rid memB passed closedB argsH argH argH0 argsH0 objIds ids0 idsC isLocT isLocA isLocC isLoc0 LocObj
attribute [local congr] bind_congr1 map_congr1 cond_congr1
attribute [local simp] cApiAddr cApiContact cApiCoil cApiRung cApiLadder cApiState cApiSize
set_option maxHeartbeats 4000000
set_option maxRecDepth 20000
set_option linter.unusedSimpArgs false
set_option linter.unusedVariables false

theorem con_law11_TooLarge {n : Nat} {l0 : ApiLadder} {r : Int} (h : law11_TooLarge n l0 = some r) : Con Try.prog 49 [.agg (cApiLadder l0)] (.int .i64 r) [] := by
  refine con_of (T := TT0) tt_ok Try.func49 (c := _) (by unfold Try.f49; rfl) Try.ntmps49 (rs := [.tmp 2]) (by rw [Try.results49]) (by unfold Try.f49; rfl) (by simp) ?_
  simp only [argsCh]
  have F := True.intro
  dsimp only [law11_TooLarge] at h
  refine rs0 ?_
  iterate 2 refine vp ?_
  refine vn ?_
  refine rs0 ?_
  refine vp ?_
  refine vn ?_
  refine jn (fun p38 : Int => { ch := [(1, .hptr 0 0 0), (3, .int .i64 p38)], hp := [.var [.int .i64 l0.I, .int .i64 l0.Q, .int .i64 l0.M, aL cApiRung l0.Rungs]], base := 0, n := 58, cond := True }) (fun x => law11_TooLarge_J1 l0 x = some r) ?_ ?_
  clear h
  rintro p38 h
  dsimp only [law11_TooLarge_J1] at h
  try dsimp only
  refine Wp.seq ?_
  refine rs0 ?_
  iterate 5 refine vp ?_
  refine sD h F (fun F h => ?_) fun F h => ?_
  refine vg ?_
  refine vg ?_
  refine vp ?_
  refine vn ?_
  refine sD h F (fun F h => ?_) fun F h => ?_
  refine cF ?_
  refine Wp.skip ?_
  refine sh ?_
  refine rs0 ?_
  refine vp ?_
  refine vn ?_
  cases h
  exact Wp.ret en0
  refine cT ?_
  refine rs0 ?_
  refine vp ?_
  refine vn ?_
  cases h
  exact Wp.ret en0
  refine vs ?_
  refine vs ?_
  refine vp ?_
  refine vn ?_
  refine cT ?_
  refine rs0 ?_
  refine vp ?_
  refine vn ?_
  cases h
  exact Wp.ret en0
  refine rs0 ?_
  iterate 4 refine vp ?_
  refine vn ?_
  refine Wp.block ?_
  refine lp [some 0] (fun x : Int × Int => { ch := [(1, .hptr 0 0 0), (3, .int .i64 x.2), (9, aL cApiRung l0.Rungs), (10, .int .i64 (l0.Rungs.length : Int)), (11, .int .i64 x.1)], hp := [.var [.int .i64 l0.I, .int .i64 l0.Q, .int .i64 l0.M, aL cApiRung l0.Rungs]], base := 0, n := 58, cond := True }) (fun m x => law11_TooLarge_L2 n l0 m x.1 x.2 = some r) n (0, 0) h ?_
  rintro rec_n2 ⟨p45, p46⟩ h
  dsimp only [law11_TooLarge_L2] at h
  try dsimp only
  refine rs0 ?_
  refine vp ?_
  refine vn ?_
  refine Wp.seq ?_
  refine sD h F (fun F h => ?_) fun F h => ?_
  refine cF ?_
  refine Wp.exit ?_
  exact nx [some 0] p46 h
  refine cT ?_
  refine Wp.skip ?_
  refine sh ?_
  refine Wp.seq ?_
  refine Wp.block ?_
  refine rs0 ?_
  refine eI h F fun x53 F h => ?_
  iterate 4 refine vp ?_
  refine vn ?_
  refine rs0 ?_
  iterate 18 refine vp ?_
  refine vn ?_
  refine rs0 ?_
  iterate 4 refine vp ?_
  refine vn ?_
  refine Wp.block ?_
  refine lp [some 0] (fun x : Int × Int => { ch := [(1, .hptr 0 0 0), (3, .int .i64 x.1), (9, aL cApiRung l0.Rungs), (10, .int .i64 (l0.Rungs.length : Int)), (11, .int .i64 p45), (33, aL cApiContact x53.Contacts), (34, .int .i64 (x53.Contacts.length : Int)), (35, .int .i64 x.2)], hp := [.var [.int .i64 l0.I, .int .i64 l0.Q, .int .i64 l0.M, aL cApiRung l0.Rungs]], base := 0, n := 58, cond := True }) (fun m x => law11_TooLarge_L3 p45 (law11_TooLarge_L2 n l0 rec_n2) x53 m x.1 x.2 = some r) n ((IntKind.i64.wrap (p46 + (IntKind.i64.wrap ((IntKind.i64.wrap ((IntKind.i64.wrap ((x53.Contacts.length : Int) + (x53.Coils.length : Int))) + (x53.Label.size : Int))) + (x53.Jump.size : Int))))), 0) h ?_
  rintro rec_n3 ⟨p55, p56⟩ h
  dsimp only [law11_TooLarge_L3] at h
  try dsimp only
  refine rs0 ?_
  refine vp ?_
  refine vn ?_
  refine Wp.seq ?_
  refine sD h F (fun F h => ?_) fun F h => ?_
  refine cF ?_
  refine Wp.exit ?_
  refine sh ?_
  refine rg0 ?_
  iterate 2 refine vp ?_
  refine vn ?_
  exact nx [some 0] ((IntKind.i64.wrap (p45 + 1)), p55) h
  refine cT ?_
  refine Wp.skip ?_
  refine sh ?_
  refine Wp.seq ?_
  refine Wp.block ?_
  refine rs0 ?_
  refine eI h F fun x58 F h => ?_
  iterate 4 refine vp ?_
  refine vn ?_
  refine rg0 ?_
  iterate 10 refine vp ?_
  refine vn ?_
  refine sh ?_
  refine rg0 ?_
  iterate 2 refine vp ?_
  refine vn ?_
  exact nx [some 0] ((IntKind.i64.wrap (p55 + (IntKind.i64.wrap ((x58.From.size : Int) + (x58.To.size : Int))))), (IntKind.i64.wrap (p56 + 1))) h

theorem con_ref02_Equal {n : Nat} {a0 : List Bool} {b1 : List Bool} {r : Bool} (h : ref02_Equal n a0 b1 = some r) : Con Try.prog 38 [aL cB a0, aL cB b1] (.bool r) [] := by
  refine con_of (T := TT0) tt_ok Try.func38 (c := _) (by unfold Try.f38; rfl) Try.ntmps38 (rs := [.tmp 4]) (by rw [Try.results38]) (by unfold Try.f38; rfl) (by simp) ?_
  simp only [argsCh]
  have F := True.intro
  dsimp only [ref02_Equal] at h
  refine rs0 ?_
  refine vp ?_
  refine vn ?_
  refine Wp.seq ?_
  refine rs0 ?_
  iterate 5 refine vp ?_
  refine vn ?_
  refine sB h F (fun F h => ?_) fun F h => ?_
  refine cF ?_
  refine Wp.skip ?_
  refine sh ?_
  refine Wp.seq ?_
  refine rs0 ?_
  refine vp ?_
  refine vn ?_
  refine Wp.block ?_
  refine lp [] (fun p2691 : Int => { ch := [(0, aL cB a0), (1, aL cB b1), (5, .int .i64 p2691)], hp := [], base := 0, n := 26, cond := True }) (fun m x => ref02_Equal_L1 a0 b1 m x = some r) n 0 h ?_
  rintro rec_n1 p2691 h
  dsimp only [ref02_Equal_L1] at h
  try dsimp only
  refine Wp.seq ?_
  refine rs0 ?_
  iterate 4 refine vp ?_
  refine vn ?_
  refine sD h F (fun F h => ?_) fun F h => ?_
  refine cF ?_
  refine Wp.exit ?_
  refine sh ?_
  refine rs0 ?_
  refine vp ?_
  refine vn ?_
  cases h
  exact Wp.ret en0
  refine cT ?_
  refine Wp.skip ?_
  refine sh ?_
  refine Wp.seq ?_
  refine Wp.block ?_
  refine dw (fun _ => false) [] ?_
  refine du 2 ?_
  refine eI h F fun x2694 F h => ?_
  refine du 4 ?_
  refine eI h F fun x2695 F h => ?_
  refine du 3 ?_
  refine dn ?_
  refine sB h F (fun F h => ?_) fun F h => ?_
  refine cF ?_
  refine Wp.skip ?_
  refine sh ?_
  refine rg0 ?_
  iterate 3 refine vp ?_
  refine vn ?_
  exact nx [] (IntKind.i64.wrap (p2691 + 1)) h
  refine cT ?_
  refine rs0 ?_
  refine vp ?_
  refine vn ?_
  cases h
  exact Wp.ret en0
  refine cT ?_
  refine rs0 ?_
  refine vp ?_
  refine vn ?_
  cases h
  exact Wp.ret en0

theorem con_lex_letter {n : Nat} {c0 : Int} {r : Bool} (h : lex_letter n c0 = some r) : Con Try.prog 116 [.int .i32 c0] (.bool r) [] := by
  refine con_of (T := TT0) tt_ok Try.func116 (c := _) (by unfold Try.f116; rfl) Try.ntmps116 (rs := [.tmp 2]) (by rw [Try.results116]) (by unfold Try.f116; rfl) (by simp) ?_
  simp only [argsCh]
  have F := True.intro
  dsimp only [lex_letter] at h
  refine rs0 ?_
  refine vp ?_
  refine vn ?_
  refine rs0 ?_
  iterate 3 refine vp ?_
  refine sD h F (fun F h => ?_) fun F h => ?_
  refine vs ?_
  refine vs ?_
  iterate 2 refine vp ?_
  refine vg ?_
  refine vg ?_
  refine vg ?_
  refine sD h F (fun F h => ?_) fun F h => ?_
  refine vs ?_
  refine vs ?_
  refine vg ?_
  iterate 2 refine vp ?_
  refine vn ?_
  cases h
  exact Wp.ret en0
  refine vg ?_
  refine vg ?_
  refine vg ?_
  iterate 2 refine vp ?_
  refine vn ?_
  cases h
  exact Wp.ret en0
  refine vg ?_
  refine vg ?_
  iterate 2 refine vp ?_
  refine sD h F (fun F h => ?_) fun F h => ?_
  refine vg ?_
  refine vg ?_
  refine vg ?_
  refine sD h F (fun F h => ?_) fun F h => ?_
  refine vs ?_
  refine vs ?_
  refine vg ?_
  iterate 2 refine vp ?_
  refine vn ?_
  cases h
  exact Wp.ret en0
  refine vg ?_
  refine vg ?_
  refine vg ?_
  iterate 2 refine vp ?_
  refine vn ?_
  cases h
  exact Wp.ret en0
  refine vs ?_
  refine vs ?_
  refine vs ?_
  refine vs ?_
  refine vs ?_
  refine vs ?_
  iterate 2 refine vp ?_
  refine vn ?_
  cases h
  exact Wp.ret en0

theorem con_slices_Clone_bool_o0 {n : Nat} {s0 : List Bool} {r : (List Bool)} (h : slices_Clone_bool_o0 n s0 = some r) : Con Try.prog 56 [aL cB s0] (.sl 0 0 r.length) [.arr 1 r.length (rw (r.map cB))] := by
  refine con_of (T := TT0) tt_ok Try.func56 (c := _) (by unfold Try.f56; rfl) Try.ntmps56 (rs := [.tmp 2]) (by rw [Try.results56]) (by unfold Try.f56; rfl) (by simp) ?_
  simp only [argsCh]
  have F := True.intro
  dsimp only [slices_Clone_bool_o0] at h
  refine rs0 ?_
  refine vp ?_
  refine vn ?_
  refine Wp.seq ?_
  refine rs0 ?_
  refine vp ?_
  refine regv_isnil rfl (.inl rfl) rfl rfl rfl rfl rfl fun hb1021 hl1022 => ?_
  refine ⟨_, rfl, ?_⟩
  cases hb1021
  replace h := isnil_f h
  clear hl1022
  simp only [reduceCtorEq, if_true, if_false, Bool.not_true, Bool.not_false]
  refine vn ?_
  refine cF ?_
  refine Wp.skip ?_
  refine sh ?_
  refine rs (fun d => Nat.beq d 7) ?_
  iterate 2 refine vp ?_
  refine gd h F fun F h => ?_
  iterate 2 refine vp ?_
  refine vn ?_
  cases h
  exact Wp.ret (enH [some 0])
  replace h := isnil_t (hl1022 rfl) h
  simp only [reduceCtorEq, if_true, if_false, Bool.not_true, Bool.not_false]
  refine vn ?_
  refine cT ?_
  refine rs0 ?_
  refine vp ?_
  refine vn ?_
  cases h
  exact Wp.ret (enH [none])

theorem con_image_is {n : Nat} {l0 : List Bool} {n_1 : Int} {r : Bool} (h : image_is n l0 n_1 = some r) : Con Try.prog 140 [aL cB l0, .int .i64 n_1] (.bool r) [] := by
  refine con_of (T := TT0) tt_ok Try.func140 (c := _) (by unfold Try.f140; rfl) Try.ntmps140 (rs := [.tmp 4]) (by rw [Try.results140]) (by unfold Try.f140; rfl) (by simp) ?_
  simp only [argsCh]
  have F := True.intro
  dsimp only [image_is] at h
  refine rs0 ?_
  refine vp ?_
  refine vn ?_
  refine rs0 ?_
  iterate 3 refine vp ?_
  refine sD h F (fun F h => ?_) fun F h => ?_
  refine vs ?_
  refine vs ?_
  refine vs ?_
  refine vs ?_
  iterate 2 refine vp ?_
  refine vn ?_
  cases h
  exact Wp.ret en0
  refine vg ?_
  refine vg ?_
  refine vg ?_
  refine vg ?_
  iterate 2 refine vp ?_
  refine vn ?_
  cases h
  exact Wp.ret en0

theorem con_pathmodel_rungs {n : Nat} {l0 : ApiLadder} {b0 : Bool} {r : Unit} (h : pathmodel_rungs n l0 b0 = some r) : ConH Try.prog 34 [.agg (cApiLadder l0), .hptr 0 0 0] [.var [.bool b0]] (.clos 57 [] [.hptr 1 0 0, .hptr 2 0 0]) [.var [.bool b0], .var [.int .i64 l0.I, .int .i64 l0.Q, .int .i64 l0.M, aL cApiRung l0.Rungs], .var [.hptr 0 0 0]] := by
  refine conH_of (T := TT0) tt_ok Try.func34 (c := _) (by unfold Try.f34; rfl) Try.ntmps34 (rs := [.tmp 4]) (by rw [Try.results34]) (by unfold Try.f34; rfl) (by simp) (k := 1) rfl rfl ?_
  have F := True.intro
  dsimp only [pathmodel_rungs] at h
  refine rs0 ?_
  iterate 3 refine vp ?_
  refine vn ?_
  refine rs0 ?_
  iterate 2 refine vp ?_
  refine vn ?_
  cases h
  exact Wp.ret (enH [some 0, some 1, some 2])

theorem con_state_images {n : Nat} {st0 : ApiState} {r : ((List Bool) × (List Bool) × (List Bool))} (h : state_images n st0 = some r) : Con Try.prog 55 [.agg (cApiState st0)] (.agg (cA3 (cL cB) r)) [] := by
  refine con_of (T := TT0) tt_ok Try.func55 (c := _) (by unfold Try.f55; rfl) Try.ntmps55 (rs := [.cell 2 109]) (by rw [Try.results55]) (by unfold Try.f55; rfl) (by simp) ?_
  simp only [argsCh]
  have F := True.intro
  dsimp only [state_images] at h
  refine rs0 ?_
  iterate 2 refine vp ?_
  refine vn ?_
  refine rs0 ?_
  iterate 8 refine vp ?_
  refine vn ?_
  cases h
  exact Wp.ret en0

end Go.Proofs.Ytfghchpnolfllaa
