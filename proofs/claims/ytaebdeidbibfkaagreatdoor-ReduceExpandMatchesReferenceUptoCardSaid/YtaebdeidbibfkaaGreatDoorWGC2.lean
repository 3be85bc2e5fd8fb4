/- Contracts: models of functions are right. No law is proved here. -/
import Derived.Test.YtaebdeidbibfkaaGreatDoorWGMod
import Derived.Test.YtaebdeidbibfkaaGreatDoorWTaw
import Derived.Test.YtaebdeidbibfkaaGreatDoorWSoz
import Derived.Test.YtaebdeidbibfkaaGreatDoorWShw
namespace Go.Proofs.YtaebdeidbibfkaaGreatDoor
open Go.Av Go.G
attribute [-simp] Int.natCast_tdiv_eq_ediv
attribute [local simp] runf guardA opf St.ev Go.Av.look St.setd constAV constAV0 opBin opLen intBin St.need lookT TT0 tab resA resOne resAll blt_dec ble_dec beq_dec isPure
attribute [local simp] opMakeSlice opCopy opIndexAddr opLoad opStore St.mem St.rows opUn calleeA toArgs toArg toArg0 toArgs0 shift shift0 shift1 splice cellsOf isFree ofCells TS.isAgg isCell strBin opConvert
attribute [local simp] opSlice3 opClear fz_clear opBuildSlice fillA opAppend eqC eqA cksB ckB St.newBox runI valKind withinB readsHp refsD refs noSl opFieldAddr opBuild opMax opMin placeOf Op.operands Call.operands opIndex opExtract opSlice opField partA
attribute [local simp] loA hiA lenA opMakeMap opLookup opMapUpdate keyOk findA_int findA_str findA_bool putA_strB putA_strI putA_strS putA_intB putA_intI putA_intS putA_boolI putA_boolB byteRow_rwN bytesOf_rwN opBytesStr mAV_length mAV_nil cA1 cA2 cA3 cA4 opNilCheck opMakeFunc opRange
attribute [local simp] aL cI cB cS cL rw_map fz_rw fz_const dropRow_rw fz_append fz_set fz_copy fz_rows rowLen_rw rowsLen_nil rowsLen_cons rowsLen_append rowsLen_map rowsLen_dm rowsLen_tm rowsLen_take rowsLen_drop rowsLen_replicate take_map_len take_map_le drop_map_len take_drop_len chunks isScalar isScalar0
attribute [local simp] putBack putAt objMap mapC mapA mapT map0 bid rid memB passed closedB argsH argH argH0 argsH0 objIds ids0 idsC isLocT isLocA isLocC isLoc0 LocObj
attribute [local congr] bind_congr1 map_congr1 cond_congr1
attribute [local simp] cApiAddr cApiContact cApiCoil cApiRung cReducePair cReduceEdge cTreeTree_eq TreeTree_Kind_mk TreeTree_N_mk TreeTree_Kids_mk eta_TreeTree cRef14Tree_eq Ref14Tree_Kind_mk Ref14Tree_N_mk Ref14Tree_Kids_mk eta_Ref14Tree
variable [Drawn]
set_option maxHeartbeats 4000000
set_option linter.unusedSectionVars false
set_option maxRecDepth 20000
set_option linter.unusedSimpArgs false
set_option linter.unusedVariables false

theorem con_ref14_check_v2 (n : Nat) : ∀ {_append0 : Ref14Tree} {a1 : Int} {l0 : List Int} {r : Int × (List Int)}, ref14_check_v2 n _append0 a1 l0 = some r → ConH Tryz.prog G0 80 [.agg [.int .i64 _append0.Kind, .int .i64 _append0.N, aL cRef14Tree _append0.Kids], .int .i64 a1, .sl 0 0 l0.length] [.arr 1 l0.length (rw (l0.map (cI .i64)))] (.tup [.int .i64 r.1, .sl 1 0 r.2.length]) [.dead, .arr 1 r.2.length (rw (r.2.map (cI .i64)))] := by
  induction n with
  | zero => intro _append0 a1 l0 r h; simp [ref14_check_v2] at h
  | succ n Hslf_ref14_check_v2 =>
   intro _append0 a1 l0 r h
   refine conH_of (T := TT0) tt_ok Tryz.func80 (c := _) (by unfold Tryz.f80; rfl) Tryz.ntmps80 (rs := [.tmp 6, .tmp 7]) (by rw [Tryz.results80]) (by unfold Tryz.f80; rfl) (by simp) (k := 1) rfl rfl ?_
   try simp only [argsCh]
   have F := True.intro
   dsimp only [ref14_check_v2] at h
   refine rs0 ?_
   iterate 3 refine vp ?_
   refine vn ?_
   refine Wp.seq ?_
   refine rs0 ?_
   iterate 4 refine vp ?_
   refine sD h F (fun F h => ?_) fun F h => ?_
   refine vg ?_
   refine vg ?_
   refine vg ?_
   refine vp ?_
   refine vn ?_
   refine sD h F (fun F h => ?_) fun F h => ?_
   refine cF ?_
   refine Wp.skip ?_
   refine sh ?_
   refine Wp.seq ?_
   refine rs0 ?_
   iterate 3 refine vp ?_
   refine vn ?_
   refine sB h F (fun F h => ?_) fun F h => ?_
   refine cF ?_
   refine Wp.skip ?_
   refine sh ?_
   refine Wp.seq ?_
   refine rs0 ?_
   iterate 3 refine vp ?_
   refine vn ?_
   refine sB h F (fun F h => ?_) fun F h => ?_
   refine cF ?_
   refine Wp.skip ?_
   refine sh ?_
   refine Wp.seq ?_
   refine rs0 ?_
   iterate 4 refine vp ?_
   refine vn ?_
   refine sD h F (fun F h => ?_) fun F h => ?_
   refine cF ?_
   refine Wp.skip ?_
   refine sh ?_
   refine jn (fun _ : Unit => { ch := [(1, .int .i64 a1), (2, .sl 0 0 l0.length), (3, .hptr 1 0 0)], hp := [.arr 1 l0.length (rw (l0.map (cI .i64))), .var [.int .i64 _append0.Kind, .int .i64 _append0.N, aL cRef14Tree _append0.Kids]], base := 1, n := 109, cond := True, gl := G0 }) (fun x => ref14_check_v2_J2 n _append0 a1 l0 (ref14_check_v2 n) = some r) ?_ ?_
   clear h
   rintro _ h
   dsimp only [ref14_check_v2_J2] at h
   try dsimp only
   refine Wp.seq ?_
   refine rs0 ?_
   refine vp ?_
   refine vn ?_
   refine Wp.block ?_
   refine lp [some 0, some 1, some 0] (fun x : Int × (List Int) => { ch := [(1, .int .i64 a1), (2, .sl 2 0 x.2.length), (3, .hptr 1 0 0), (10, .int .i64 x.1)], hp := [.dead, .var [.int .i64 _append0.Kind, .int .i64 _append0.N, aL cRef14Tree _append0.Kids], .arr 1 x.2.length (rw (x.2.map (cI .i64)))], base := 1, n := 109, cond := True, gl := G0 }) (fun m x => ref14_check_v2_L3 _append0 a1 (ref14_check_v2 n) m x.1 x.2 = some r) n (0, l0) h ?_
   rintro rec_n3 ⟨p5621, l5622⟩ h
   dsimp only [ref14_check_v2_L3] at h
   try dsimp only
   refine Wp.seq ?_
   refine rs0 ?_
   iterate 5 refine vp ?_
   refine vn ?_
   refine sD h F (fun F h => ?_) fun F h => ?_
   refine cF ?_
   refine Wp.exit ?_
   refine sh ?_
   refine rs0 ?_
   iterate 3 refine vp ?_
   refine vn ?_
   cases h
   exact Wp.ret (enH [some 0, some 2])
   refine cT ?_
   refine Wp.skip ?_
   refine sh ?_
   refine Wp.seq ?_
   refine Wp.block ?_
   refine rs0 ?_
   iterate 3 refine vp ?_
   refine eI h F fun x5627 F h => ?_
   iterate 4 refine vp ?_
   obtain ⟨⟨r5629, q5630⟩, hr5628, h⟩ := obind h
   dsimp only at h
   refine vh [2] (Hslf_ref14_check_v2 hr5628) ?_
   iterate 5 refine vp ?_
   refine vn ?_
   refine Wp.seq ?_
   refine rs0 ?_
   iterate 2 refine vp ?_
   refine vn ?_
   refine sB h F (fun F h => ?_) fun F h => ?_
   refine cF ?_
   refine Wp.skip ?_
   refine sh ?_
   refine rg0 ?_
   iterate 2 refine vp ?_
   refine vn ?_
   refine sh ?_
   refine rg0 ?_
   iterate 3 refine vp ?_
   refine vn ?_
   exact nx [some 0, some 1, some 3] ((IntKind.i64.wrap (p5621 + 1)), q5630) h
   refine cT ?_
   refine rs0 ?_
   iterate 4 refine vp ?_
   refine vn ?_
   cases h
   exact Wp.ret (enH [some 0, some 3])
   refine rs0 ?_
   refine vp ?_
   refine vn ?_
   refine Wp.block ?_
   refine lp [some 0, some 1] (fun p5632 : Int => { ch := [(1, .int .i64 a1), (2, .sl 0 0 l0.length), (3, .hptr 1 0 0), (9, .int .i64 p5632)], hp := [.arr 1 l0.length (rw (l0.map (cI .i64))), .var [.int .i64 _append0.Kind, .int .i64 _append0.N, aL cRef14Tree _append0.Kids]], base := 1, n := 109, cond := True, gl := G0 }) (fun m x => ref14_check_v2_L4 n _append0 a1 l0 (ref14_check_v2 n) m x = some r) n 0 h ?_
   rintro rec_n4 p5632 h
   dsimp only [ref14_check_v2_L4] at h
   try dsimp only
   refine Wp.seq ?_
   refine rs0 ?_
   iterate 5 refine vp ?_
   refine vn ?_
   refine sD h F (fun F h => ?_) fun F h => ?_
   refine cF ?_
   refine Wp.exit ?_
   exact nx [some 0, some 1] () h
   refine cT ?_
   refine Wp.skip ?_
   refine sh ?_
   refine Wp.seq ?_
   refine Wp.block ?_
   refine dw (fun _ => false) [1] ?_
   refine du 3 ?_
   refine eI h F fun x5634 F h => ?_
   refine du 6 ?_
   refine dn ?_
   refine sB h F (fun F h => ?_) fun F h => ?_
   refine cF ?_
   refine Wp.skip ?_
   refine sh ?_
   refine rg0 ?_
   iterate 3 refine vp ?_
   refine vn ?_
   exact nx [some 0, some 1] (IntKind.i64.wrap (p5632 + 1)) h
   refine cT ?_
   refine rs0 ?_
   iterate 3 refine vp ?_
   refine vn ?_
   cases h
   exact Wp.ret (enH [some 0, some 0])
   refine cT ?_
   refine rs0 ?_
   iterate 3 refine vp ?_
   refine vn ?_
   cases h
   exact Wp.ret (enH [some 0, some 0])
   refine cT ?_
   refine rs0 ?_
   iterate 3 refine vp ?_
   refine vn ?_
   cases h
   exact Wp.ret (enH [some 0, some 0])
   refine cT ?_
   refine Wp.seq ?_
   refine rs0 ?_
   iterate 4 refine vp ?_
   refine vn ?_
   refine sD h F (fun F h => ?_) fun F h => ?_
   refine cF ?_
   refine Wp.skip ?_
   refine sh ?_
   refine Wp.seq ?_
   refine rs0 ?_
   iterate 4 refine vp ?_
   refine sD h F (fun F h => ?_) fun F h => ?_
   refine vg ?_
   refine vg ?_
   refine vg ?_
   refine vg ?_
   refine vp ?_
   refine vn ?_
   refine sD h F (fun F h => ?_) fun F h => ?_
   refine cF ?_
   refine Wp.skip ?_
   refine sh ?_
   refine Wp.seq ?_
   refine rs0 ?_
   refine vp ?_
   refine vn ?_
   refine Wp.block ?_
   refine lp [some 0, some 1] (fun p5602 : Int => { ch := [(2, .sl 0 0 l0.length), (3, .hptr 1 0 0), (8, .int .i64 p5602)], hp := [.arr 1 l0.length (rw (l0.map (cI .i64))), .var [.int .i64 _append0.Kind, .int .i64 _append0.N, aL cRef14Tree _append0.Kids]], base := 1, n := 109, cond := True, gl := G0 }) (fun m x => ref14_check_v2_L1 _append0 l0 m x = some r) n 0 h ?_
   rintro rec_n1 p5602 h
   dsimp only [ref14_check_v2_L1] at h
   try dsimp only
   refine Wp.seq ?_
   refine rs0 ?_
   iterate 4 refine vp ?_
   refine vn ?_
   refine sD h F (fun F h => ?_) fun F h => ?_
   refine cF ?_
   refine Wp.exit ?_
   refine sh ?_
   refine rs0 ?_
   iterate 4 refine vp ?_
   refine gd h F fun F h => ?_
   refine vp ?_
   refine nm (cI .i64) h F fun l5608 F h => ?_
   iterate 2 refine vp ?_
   refine vn ?_
   cases h
   exact Wp.ret (enH [some 0, some 2])
   refine cT ?_
   refine Wp.skip ?_
   refine sh ?_
   refine Wp.seq ?_
   refine Wp.block ?_
   refine dw (fun _ => false) [0, 1] ?_
   refine du 2 ?_
   refine eI h F fun x5607 F h => ?_
   refine du 5 ?_
   refine dn ?_
   refine sB h F (fun F h => ?_) fun F h => ?_
   refine cF ?_
   refine Wp.skip ?_
   refine sh ?_
   refine rg0 ?_
   iterate 3 refine vp ?_
   refine vn ?_
   exact nx [some 0, some 1] (IntKind.i64.wrap (p5602 + 1)) h
   refine cT ?_
   refine rs0 ?_
   iterate 3 refine vp ?_
   refine vn ?_
   cases h
   exact Wp.ret (enH [some 0, some 0])
   refine cT ?_
   refine rs0 ?_
   iterate 3 refine vp ?_
   refine vn ?_
   cases h
   exact Wp.ret (enH [some 0, some 0])
   refine vs ?_
   refine vs ?_
   refine vs ?_
   refine vs ?_
   refine vp ?_
   refine vn ?_
   refine cT ?_
   refine rs0 ?_
   iterate 3 refine vp ?_
   refine vn ?_
   cases h
   exact Wp.ret (enH [some 0, some 0])
   refine cT ?_
   refine rs0 ?_
   iterate 3 refine vp ?_
   refine vn ?_
   cases h
   exact Wp.ret (enH [some 0, some 0])
   refine cT ?_
   refine rs0 ?_
   iterate 3 refine vp ?_
   refine vn ?_
   cases h
   exact Wp.ret (enH [some 0, some 0])
   refine vs ?_
   refine vs ?_
   refine vs ?_
   refine vp ?_
   refine vn ?_
   refine cT ?_
   refine rs0 ?_
   iterate 3 refine vp ?_
   refine vn ?_
   cases h
   exact Wp.ret (enH [some 0, some 0])

theorem con_ref01_Decimal {n : Nat} {n_0 : Int} {r : Str} (h : ref01_Decimal n n_0 = some r) : Con Tryz.prog G0 128 [.int .i64 n_0] (.str r) [] := by
  refine con_of (T := TT0) tt_ok Tryz.func128 (c := _) (by unfold Tryz.f128; rfl) Tryz.ntmps128 (rs := [.tmp 2]) (by rw [Tryz.results128]) (by unfold Tryz.f128; rfl) (by simp) ?_
  simp only [argsCh]
  have F := True.intro
  dsimp only [ref01_Decimal] at h
  refine rs0 ?_
  refine vp ?_
  refine vn ?_
  refine rs0 ?_
  refine vp ?_
  refine vn ?_
  refine Wp.seq ?_
  refine Wp.block ?_
  refine lp [] (fun x : Int × Str => { ch := [(0, .int .i64 x.1), (3, .str x.2)], hp := [], base := 0, n := 21, cond := True, gl := G0 }) (fun m x => ref01_Decimal_L1 m x.1 x.2 = some r) n (n_0, (⟨#[]⟩ : Str)) h ?_
  rintro rec_n1 ⟨p5747, p5748⟩ h
  dsimp only [ref01_Decimal_L1] at h
  try dsimp only
  refine jn (fun _ : Unit => { ch := [(0, .int .i64 p5747), (3, .str p5748)], hp := [], base := 0, n := 21, cond := True, gl := G0 }) (fun x => ref01_Decimal_J2 p5747 p5748 (ref01_Decimal_L1 rec_n1) = some r) ?_ ?_
  clear h
  rintro _ h
  dsimp only [ref01_Decimal_J2] at h
  try dsimp only
  refine Wp.block ?_
  refine rs0 ?_
  iterate 5 refine vp ?_
  refine nl (cI .u8) h F fun l5750 m F h => ?_
  try simp only [m]
  clear m
  iterate 2 refine vp ?_
  refine gd h F fun F h => ?_
  iterate 2 refine vp ?_
  refine vn ?_
  refine rg0 ?_
  iterate 3 refine vp ?_
  refine vn ?_
  exact nx [] ((IntKind.i64.wrap (p5747.tdiv 10)), ((bytesS l5750) ++ p5748)) h
  refine rs0 ?_
  iterate 3 refine vp ?_
  refine sD h F (fun F h => ?_) fun F h => ?_
  refine vg ?_
  refine vg ?_
  refine vp ?_
  refine vn ?_
  refine sE h F (fun _ F h => ?_) fun _ F h => ?_
  refine cF ?_
  refine Wp.exit ?_
  refine sh ?_
  refine rs0 ?_
  iterate 2 refine vp ?_
  refine vn ?_
  cases h
  exact Wp.ret en0
  refine cT ?_
  refine Wp.skip ?_
  exact nx [] () h
  refine vs ?_
  refine vs ?_
  refine vp ?_
  refine vn ?_
  refine cT ?_
  refine Wp.skip ?_
  exact nx [] () h

theorem con_slices_Clone_api_Contact_o0 {n : Nat} {s0 : List ApiContact} {r : (List ApiContact)} (h : slices_Clone_api_Contact_o0 n s0 = some r) : Con Tryz.prog G0 55 [aL cApiContact s0] (.sl 0 0 r.length) [.arr 5 r.length (rw (r.map cApiContact))] := by
  refine con_of (T := TT0) tt_ok Tryz.func55 (c := _) (by unfold Tryz.f55; rfl) Tryz.ntmps55 (rs := [.tmp 2]) (by rw [Tryz.results55]) (by unfold Tryz.f55; rfl) (by simp) ?_
  simp only [argsCh]
  have F := True.intro
  dsimp only [slices_Clone_api_Contact_o0] at h
  refine rs0 ?_
  refine vp ?_
  refine vn ?_
  refine Wp.seq ?_
  refine rs0 ?_
  refine vp ?_
  refine regv_isnil rfl (.inl rfl) rfl rfl rfl rfl rfl fun hb4803 hl4804 => ?_
  refine ⟨_, rfl, ?_⟩
  cases hb4803
  replace h := isnil_f h
  clear hl4804
  simp only [reduceCtorEq, if_true, if_false, Bool.not_true, Bool.not_false]
  refine vn ?_
  refine cF ?_
  refine Wp.skip ?_
  refine sh ?_
  refine rs (fun d => Nat.beq d 7) ?_
  iterate 2 refine vp ?_
  refine gd h F fun F h => ?_
  iterate 2 refine vp ?_
  refine vn ?_
  cases h
  exact Wp.ret (enH [some 0])
  replace h := isnil_t (hl4804 rfl) h
  simp only [reduceCtorEq, if_true, if_false, Bool.not_true, Bool.not_false]
  refine vn ?_
  refine cT ?_
  refine rs0 ?_
  refine vp ?_
  refine vn ?_
  cases h
  exact Wp.ret (enH [none])

theorem con_graph_TopoSort_1_1 {n : Nat} {i_0 : Int} {m1 : List (Str × Bool)} {b2 : ApiRung} {r : Bool} (h : graph_TopoSort_1_1 n i_0 m1 b2 = some r) : ConH Tryz.prog G0 102 [.int .i64 i_0, .hptr 0 0 0, .hptr 2 0 0] [.var [.mp 1], .map (mAV AV.str cB m1), .var [.str b2.Label, aL cApiContact b2.Contacts, aL cApiCoil b2.Coils, .str b2.Jump]] (.bool r) [.var [.mp 1], .map (mAV AV.str cB m1), .var [.str b2.Label, aL cApiContact b2.Contacts, aL cApiCoil b2.Coils, .str b2.Jump]] := by
  refine conH_of (T := TT0) tt_ok Tryz.func102 (c := _) (by unfold Tryz.f102; rfl) Tryz.ntmps102 (rs := [.tmp 4]) (by rw [Tryz.results102]) (by unfold Tryz.f102; rfl) (by simp) (k := 3) rfl rfl ?_
  try simp only [argsCh]
  have F := True.intro
  dsimp only [graph_TopoSort_1_1] at h
  refine rs0 ?_
  refine vp ?_
  refine vn ?_
  refine dw (fun _ => false) [0, 1, 2] ?_
  refine du 4 ?_
  refine eI h F fun x2410 F h => ?_
  refine du 6 ?_
  refine dn ?_
  cases h
  exact Wp.ret (enH [some 0, some 1, some 2])

theorem con_graph_Incoming_1 {n : Nat} {c0 : ApiContact} {b0 : Str} {r : Bool} (h : graph_Incoming_1 n c0 b0 = some r) : ConH Tryz.prog G0 134 [.agg (cApiContact c0), .hptr 0 0 0] [.var [.str b0]] (.bool r) [.var [.str b0]] := by
  refine conH_of (T := TT0) tt_ok Tryz.func134 (c := _) (by unfold Tryz.f134; rfl) Tryz.ntmps134 (rs := [.tmp 3]) (by rw [Tryz.results134]) (by unfold Tryz.f134; rfl) (by simp) (k := 1) rfl rfl ?_
  try simp only [argsCh]
  have F := True.intro
  dsimp only [graph_Incoming_1] at h
  refine rs0 ?_
  iterate 2 refine vp ?_
  refine vn ?_
  refine rs0 ?_
  iterate 5 refine vp ?_
  refine vn ?_
  cases h
  exact Wp.ret (enH [some 0])

theorem con_cmp_isNaN_int {n : Nat} {x_0 : Int} {r : Bool} (h : cmp_isNaN_int n x_0 = some r) : Con Tryz.prog G0 111 [.int .i64 x_0] (.bool r) [] := by
  refine con_of (T := TT0) tt_ok Tryz.func111 (c := _) (by unfold Tryz.f111; rfl) Tryz.ntmps111 (rs := [.tmp 2]) (by rw [Tryz.results111]) (by unfold Tryz.f111; rfl) (by simp) ?_
  simp only [argsCh]
  have F := True.intro
  dsimp only [cmp_isNaN_int] at h
  refine rs0 ?_
  refine vp ?_
  refine vn ?_
  refine rs0 ?_
  iterate 4 refine vp ?_
  refine vn ?_
  cases h
  exact Wp.ret en0

end Go.Proofs.YtaebdeidbibfkaaGreatDoor
