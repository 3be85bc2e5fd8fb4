/- Contracts: models of functions are right. No law is proved here. -/
import Derived.Test.YtfghchpnolfllaaGMod
import Derived.Test.YtfghchpnolfllaaTab
namespace Go.Proofs.Ytfghchpnolfllaa
open Go.Av Go.G
attribute [-simp] Int.natCast_tdiv_eq_ediv
attribute [local simp] runf guardA opf St.ev Go.Av.look St.setd constAV constAV0 opBin opLen intBin St.need lookT TT0 tab resA resOne resAll blt_dec ble_dec beq_dec isPure
attribute [local simp] opMakeSlice opCopy opIndexAddr opLoad opStore St.mem St.rows opUn calleeA toArgs toArg toArg0 toArgs0 shift shift0 shift1 splice cellsOf isFree ofCells TS.isAgg isCell strBin opConvert
attribute [local simp] opBuildSlice fillA opAppend eqC eqA cksB ckB St.newBox runI valKind withinB readsHp refsD refs noSl opFieldAddr opBuild placeOf Op.operands Call.operands opIndex opExtract opSlice opField partA
attribute [local simp] loA hiA lenA opMakeMap opLookup opMapUpdate keyOk findA_int findA_str putA_strB putA_strI putA_intB putA_intI mAV_length mAV_nil cA1 cA2 cA3 cA4 opNilCheck opMakeFunc opRange
attribute [local simp] aL cI cB cS cL rw_map fz_rw fz_const dropRow_rw fz_append fz_set fz_copy fz_rows rowLen_rw rowsLen_nil rowsLen_cons rowsLen_append rowsLen_map rowsLen_take rowsLen_drop rowsLen_replicate take_map_len take_map_le drop_map_len take_drop_len chunks isScalar isScalar0
attribute [local simp] putBack putAt objMap mapC mapA mapT map0 bid rid memB passed closedB argsH argH argH0 argsH0 objIds ids0 idsC isLocT isLocA isLocC isLoc0 LocObj
attribute [local congr] bind_congr1 map_congr1 cond_congr1
attribute [local simp] cApiAddr cApiContact cApiCoil cApiRung cApiLadder cApiState cApiSize
set_option maxHeartbeats 4000000
set_option maxRecDepth 20000
set_option linter.unusedSimpArgs false
set_option linter.unusedVariables false

theorem con_rungeval_Conducts {n : Nat} {r_0 : ApiRung} {on1 : List Bool} {r : Bool × Int} (h : rungeval_Conducts n r_0 on1 = some r) : Con Try.prog 23 [.agg (cApiRung r_0), aL cB on1] (.tup [.bool r.1, .int .i64 r.2]) [] := by
  refine con_of (T := TT0) tt_ok Try.func23 (c := _) (by unfold Try.f23; rfl) Try.ntmps23 (rs := [.tmp 4, .tmp 5]) (by rw [Try.results23]) (by unfold Try.f23; rfl) (by simp) ?_
  simp only [argsCh]
  have F := True.intro
  dsimp only [rungeval_Conducts] at h
  refine rs0 ?_
  iterate 3 refine vp ?_
  refine vn ?_
  refine Wp.seq ?_
  refine rs0 ?_
  iterate 6 refine vp ?_
  refine vn ?_
  refine sB h F (fun F h => ?_) fun F h => ?_
  refine cF ?_
  refine Wp.skip ?_
  refine sh ?_
  refine rs0 ?_
  iterate 4 refine vp ?_
  refine vn ?_
  refine rs (fun d => Nat.beq d 19) ?_
  refine vp ?_
  refine nl cS h F fun l1110 m F h => ?_
  try simp only [m]
  clear m
  refine vp ?_
  refine vn ?_
  refine Wp.seq ?_
  refine Wp.block ?_
  refine lp [some 0, some 1, some 2] (fun x : Nat × (List (Str × Bool)) × (List Str) => { ch := [(1, aL cB on1), (2, .hptr 0 0 0), (6, .mp 1), (7, .sl 2 x.1 (x.2.2.length - x.1))], hp := [.var [.str r_0.Label, aL cApiContact r_0.Contacts, aL cApiCoil r_0.Coils, .str r_0.Jump], .map (mAV AV.str cB x.2.1), .arr 1 x.2.2.length (rw (x.2.2.map cS))], base := 0, n := 64, cond := True }) (fun m x => rungeval_Conducts_L1 n r_0 on1 m x.1 x.2.1 x.2.2 = some r) n (0, (mPut ([]) (⟨#[76]⟩ : Str) true), l1110) h ?_
  rintro rec_n1 ⟨p1125, p1126, l1127⟩ h
  dsimp only [rungeval_Conducts_L1] at h
  try dsimp only
  refine Wp.seq ?_
  refine rs0 ?_
  iterate 3 refine vp ?_
  refine vn ?_
  refine sD h F (fun F h => ?_) fun F h => ?_
  refine cF ?_
  refine Wp.exit ?_
  refine sh ?_
  refine rs0 ?_
  iterate 4 refine vp ?_
  refine vn ?_
  cases h
  exact Wp.ret en0
  refine cT ?_
  refine Wp.skip ?_
  refine sh ?_
  refine Wp.block ?_
  refine rs0 ?_
  refine vp ?_
  refine eN (m := 0) h F fun x1142 F h => ?_
  simp only [List.getElem?_drop, Nat.add_zero] at F
  iterate 3 refine vp ?_
  refine vn ?_
  refine rs0 ?_
  refine vp ?_
  refine gd h F fun F h => ?_
  iterate 2 refine vp ?_
  refine vn ?_
  refine rs0 ?_
  iterate 4 refine vp ?_
  refine vn ?_
  refine Wp.block ?_
  refine lp [some 0, some 1, some 2] (fun x : Int × (List (Str × Bool)) × (List Str) × Nat => { ch := [(1, aL cB on1), (2, .hptr 0 0 0), (6, .mp 1), (7, .sl 2 x.2.2.2 (x.2.2.1.length - x.2.2.2)), (8, .str x1142), (29, aL cApiContact r_0.Contacts), (30, .int .i64 (r_0.Contacts.length : Int)), (31, .int .i64 x.1)], hp := [.var [.str r_0.Label, aL cApiContact r_0.Contacts, aL cApiCoil r_0.Coils, .str r_0.Jump], .map (mAV AV.str cB x.2.1), .arr 1 x.2.2.1.length (rw (x.2.2.1.map cS))], base := 0, n := 64, cond := True }) (fun m x => rungeval_Conducts_L2 r_0 on1 (rungeval_Conducts_L1 n r_0 on1 rec_n1) x1142 m x.1 x.2.1 x.2.2.1 x.2.2.2 = some r) n (0, p1126, l1127, (p1125 + 1)) h ?_
  rintro rec_n2 ⟨p1146, p1147, l1148, p1149⟩ h
  dsimp only [rungeval_Conducts_L2] at h
  try dsimp only
  refine rs0 ?_
  refine vp ?_
  refine vn ?_
  refine Wp.seq ?_
  refine sD h F (fun F h => ?_) fun F h => ?_
  refine cF ?_
  refine Wp.exit ?_
  exact nx [some 0, some 1, some 2] (p1149, p1147, l1148) h
  refine cT ?_
  refine Wp.skip ?_
  refine sh ?_
  refine Wp.seq ?_
  refine Wp.block ?_
  refine rs0 ?_
  refine vp ?_
  refine eI h F fun x1153 F h => ?_
  iterate 5 refine vp ?_
  refine vn ?_
  refine rs0 ?_
  iterate 2 refine vp ?_
  refine eI h F fun x1154 F h => ?_
  iterate 3 refine vp ?_
  refine sB h F (fun F h => ?_) fun F h => ?_
  refine vs ?_
  refine vs ?_
  refine vs ?_
  refine vs ?_
  iterate 2 refine vp ?_
  refine vs ?_
  refine vs ?_
  refine vs ?_
  refine vs ?_
  refine vs ?_
  refine vp ?_
  refine vn ?_
  refine cF ?_
  refine Wp.skip ?_
  refine sh ?_
  refine rg0 ?_
  iterate 2 refine vp ?_
  refine vn ?_
  exact nx [some 0, some 1, some 2] ((IntKind.i64.wrap (p1146 + 1)), p1147, l1148, p1149) h
  refine vg ?_
  refine vg ?_
  refine vg ?_
  refine vg ?_
  iterate 2 refine vp ?_
  refine sE h F (fun _ F h => ?_) fun _ F h => ?_
  refine vs ?_
  refine vs ?_
  refine vs ?_
  refine vs ?_
  refine vs ?_
  refine vp ?_
  refine vn ?_
  refine cF ?_
  refine Wp.skip ?_
  refine sh ?_
  refine rg0 ?_
  iterate 2 refine vp ?_
  refine vn ?_
  exact nx [some 0, some 1, some 2] ((IntKind.i64.wrap (p1146 + 1)), p1147, l1148, p1149) h
  refine vg ?_
  refine vg ?_
  refine vg ?_
  refine vg ?_
  refine vg ?_
  refine vp ?_
  refine vn ?_
  refine sB h F (fun F h => ?_) fun F h => ?_
  refine cF ?_
  refine Wp.skip ?_
  refine sh ?_
  refine rg0 ?_
  iterate 2 refine vp ?_
  refine vn ?_
  exact nx [some 0, some 1, some 2] ((IntKind.i64.wrap (p1146 + 1)), p1147, l1148, p1149) h
  refine cT ?_
  refine rs0 ?_
  iterate 4 refine vp ?_
  refine vn ?_
  refine rg0 ?_
  iterate 4 refine vp ?_
  refine gd h F fun F h => ?_
  refine vp ?_
  refine nm cS h F fun l1155 F h => ?_
  refine vp ?_
  refine vn ?_
  refine sh ?_
  refine rg0 ?_
  iterate 2 refine vp ?_
  refine vn ?_
  exact nx [some 0, some 1, some 4] ((IntKind.i64.wrap (p1146 + 1)), (mPut p1147 x1153.To true), l1155, 0) h
  refine cT ?_
  refine rs0 ?_
  iterate 2 refine vp ?_
  refine vn ?_
  cases h
  exact Wp.ret en0

theorem con_lex_letter {n : Nat} {c0 : Int} {r : Bool} (h : lex_letter n c0 = some r) : Con Try.prog 116 [.int .i32 c0] (.bool r) [] := by
  refine con_of (T := TT0) tt_ok Try.func116 (c := _) (by unfold Try.f116; rfl) Try.ntmps116 (rs := [.tmp 2]) (by rw [Try.results116]) (by unfold Try.f116; rfl) (by simp) ?_
  simp only [argsCh]
  have F := True.intro
  dsimp only [lex_letter] at h
  refine rs0 ?_
  refine vp ?_
  refine vn ?_
  refine rs0 ?_
  iterate 3 refine vp ?_
  refine sD h F (fun F h => ?_) fun F h => ?_
  refine vs ?_
  refine vs ?_
  iterate 2 refine vp ?_
  refine vg ?_
  refine vg ?_
  refine vg ?_
  refine sD h F (fun F h => ?_) fun F h => ?_
  refine vs ?_
  refine vs ?_
  refine vg ?_
  iterate 2 refine vp ?_
  refine vn ?_
  cases h
  exact Wp.ret en0
  refine vg ?_
  refine vg ?_
  refine vg ?_
  iterate 2 refine vp ?_
  refine vn ?_
  cases h
  exact Wp.ret en0
  refine vg ?_
  refine vg ?_
  iterate 2 refine vp ?_
  refine sD h F (fun F h => ?_) fun F h => ?_
  refine vg ?_
  refine vg ?_
  refine vg ?_
  refine sD h F (fun F h => ?_) fun F h => ?_
  refine vs ?_
  refine vs ?_
  refine vg ?_
  iterate 2 refine vp ?_
  refine vn ?_
  cases h
  exact Wp.ret en0
  refine vg ?_
  refine vg ?_
  refine vg ?_
  iterate 2 refine vp ?_
  refine vn ?_
  cases h
  exact Wp.ret en0
  refine vs ?_
  refine vs ?_
  refine vs ?_
  refine vs ?_
  refine vs ?_
  refine vs ?_
  iterate 2 refine vp ?_
  refine vn ?_
  cases h
  exact Wp.ret en0

theorem con_slices_Clone_bool_o0 {n : Nat} {s0 : List Bool} {r : (List Bool)} (h : slices_Clone_bool_o0 n s0 = some r) : Con Try.prog 56 [aL cB s0] (.sl 0 0 r.length) [.arr 1 r.length (rw (r.map cB))] := by
  refine con_of (T := TT0) tt_ok Try.func56 (c := _) (by unfold Try.f56; rfl) Try.ntmps56 (rs := [.tmp 2]) (by rw [Try.results56]) (by unfold Try.f56; rfl) (by simp) ?_
  simp only [argsCh]
  have F := True.intro
  dsimp only [slices_Clone_bool_o0] at h
  refine rs0 ?_
  refine vp ?_
  refine vn ?_
  refine Wp.seq ?_
  refine rs0 ?_
  refine vp ?_
  refine regv_isnil rfl (.inl rfl) rfl rfl rfl rfl rfl fun hb1021 hl1022 => ?_
  refine ⟨_, rfl, ?_⟩
  cases hb1021
  replace h := isnil_f h
  clear hl1022
  simp only [reduceCtorEq, if_true, if_false, Bool.not_true, Bool.not_false]
  refine vn ?_
  refine cF ?_
  refine Wp.skip ?_
  refine sh ?_
  refine rs (fun d => Nat.beq d 7) ?_
  iterate 2 refine vp ?_
  refine gd h F fun F h => ?_
  iterate 2 refine vp ?_
  refine vn ?_
  cases h
  exact Wp.ret (enH [some 0])
  replace h := isnil_t (hl1022 rfl) h
  simp only [reduceCtorEq, if_true, if_false, Bool.not_true, Bool.not_false]
  refine vn ?_
  refine cT ?_
  refine rs0 ?_
  refine vp ?_
  refine vn ?_
  cases h
  exact Wp.ret (enH [none])

theorem con_image_is {n : Nat} {l0 : List Bool} {n_1 : Int} {r : Bool} (h : image_is n l0 n_1 = some r) : Con Try.prog 140 [aL cB l0, .int .i64 n_1] (.bool r) [] := by
  refine con_of (T := TT0) tt_ok Try.func140 (c := _) (by unfold Try.f140; rfl) Try.ntmps140 (rs := [.tmp 4]) (by rw [Try.results140]) (by unfold Try.f140; rfl) (by simp) ?_
  simp only [argsCh]
  have F := True.intro
  dsimp only [image_is] at h
  refine rs0 ?_
  refine vp ?_
  refine vn ?_
  refine rs0 ?_
  iterate 3 refine vp ?_
  refine sD h F (fun F h => ?_) fun F h => ?_
  refine vs ?_
  refine vs ?_
  refine vs ?_
  refine vs ?_
  iterate 2 refine vp ?_
  refine vn ?_
  cases h
  exact Wp.ret en0
  refine vg ?_
  refine vg ?_
  refine vg ?_
  refine vg ?_
  iterate 2 refine vp ?_
  refine vn ?_
  cases h
  exact Wp.ret en0

theorem con_pathmodel_rungs {n : Nat} {l0 : ApiLadder} {b0 : Bool} {r : Unit} (h : pathmodel_rungs n l0 b0 = some r) : ConH Try.prog 34 [.agg (cApiLadder l0), .hptr 0 0 0] [.var [.bool b0]] (.clos 57 [] [.hptr 1 0 0, .hptr 2 0 0]) [.var [.bool b0], .var [.int .i64 l0.I, .int .i64 l0.Q, .int .i64 l0.M, aL cApiRung l0.Rungs], .var [.hptr 0 0 0]] := by
  refine conH_of (T := TT0) tt_ok Try.func34 (c := _) (by unfold Try.f34; rfl) Try.ntmps34 (rs := [.tmp 4]) (by rw [Try.results34]) (by unfold Try.f34; rfl) (by simp) (k := 1) rfl rfl ?_
  have F := True.intro
  dsimp only [pathmodel_rungs] at h
  refine rs0 ?_
  iterate 3 refine vp ?_
  refine vn ?_
  refine rs0 ?_
  iterate 2 refine vp ?_
  refine vn ?_
  cases h
  exact Wp.ret (enH [some 0, some 1, some 2])

theorem con_state_images {n : Nat} {st0 : ApiState} {r : ((List Bool) × (List Bool) × (List Bool))} (h : state_images n st0 = some r) : Con Try.prog 55 [.agg (cApiState st0)] (.agg (cA3 (cL cB) r)) [] := by
  refine con_of (T := TT0) tt_ok Try.func55 (c := _) (by unfold Try.f55; rfl) Try.ntmps55 (rs := [.cell 2 109]) (by rw [Try.results55]) (by unfold Try.f55; rfl) (by simp) ?_
  simp only [argsCh]
  have F := True.intro
  dsimp only [state_images] at h
  refine rs0 ?_
  iterate 2 refine vp ?_
  refine vn ?_
  refine rs0 ?_
  iterate 8 refine vp ?_
  refine vn ?_
  cases h
  exact Wp.ret en0

end Go.Proofs.Ytfghchpnolfllaa
