/- Contracts: models of functions are right. No law is proved here. -/
import Derived.Test.YtaebdeidbibfkaaGreatDoorGMod
import Derived.Test.YtaebdeidbibfkaaGreatDoorTaz
namespace Go.Proofs.YtaebdeidbibfkaaGreatDoor
open Go.Av Go.G
attribute [-simp] Int.natCast_tdiv_eq_ediv
attribute [local simp] runf guardA opf St.ev Go.Av.look St.setd constAV constAV0 opBin opLen intBin St.need lookT TT0 tab resA resOne resAll blt_dec ble_dec beq_dec isPure
attribute [local simp] opMakeSlice opCopy opIndexAddr opLoad opStore St.mem St.rows opUn calleeA toArgs toArg toArg0 toArgs0 shift shift0 shift1 splice cellsOf isFree ofCells TS.isAgg isCell strBin opConvert
attribute [local simp] opSlice3 opClear fz_clear opBuildSlice fillA opAppend eqC eqA cksB ckB St.newBox runI valKind withinB readsHp refsD refs noSl opFieldAddr opBuild opMax opMin placeOf Op.operands Call.operands opIndex opExtract opSlice opField partA
attribute [local simp] loA hiA lenA opMakeMap opLookup opMapUpdate keyOk findA_int findA_str findA_bool putA_strB putA_strI putA_strS putA_intB putA_intI putA_intS putA_boolI putA_boolB mAV_length mAV_nil cA1 cA2 cA3 cA4 opNilCheck opMakeFunc opRange
attribute [local simp] aL cI cB cS cL rw_map fz_rw fz_const dropRow_rw fz_append fz_set fz_copy fz_rows rowLen_rw rowsLen_nil rowsLen_cons rowsLen_append rowsLen_map rowsLen_dm rowsLen_tm rowsLen_take rowsLen_drop rowsLen_replicate take_map_len take_map_le drop_map_len take_drop_len chunks isScalar isScalar0
attribute [local simp] putBack putAt objMap mapC mapA mapT map0 bid rid memB passed closedB argsH argH argH0 argsH0 objIds ids0 idsC isLocT isLocA isLocC isLoc0 LocObj
attribute [local congr] bind_congr1 map_congr1 cond_congr1
attribute [local simp] cApiAddr cApiContact cApiCoil cApiRung cApiIns cApiLadder cApiSize cApiProgram cReducePair cReduceEdge cTreeTree_eq TreeTree_Kind_mk TreeTree_N_mk TreeTree_Kids_mk eta_TreeTree cRef14Tree_eq Ref14Tree_Kind_mk Ref14Tree_N_mk Ref14Tree_Kids_mk eta_Ref14Tree
set_option maxHeartbeats 4000000
set_option maxRecDepth 20000
set_option linter.unusedSimpArgs false
set_option linter.unusedVariables false

theorem con_ref14_check_v2 (n : Nat) : ∀ {_append0 : Ref14Tree} {a1 : Int} {l0 : List Int} {r : Int × (List Int)}, ref14_check_v2 n _append0 a1 l0 = some r → ConH Tryz.prog G0 80 [.agg [.int .i64 _append0.Kind, .int .i64 _append0.N, aL cRef14Tree _append0.Kids], .int .i64 a1, .sl 0 0 l0.length] [.arr 1 l0.length (rw (l0.map (cI .i64)))] (.tup [.int .i64 r.1, .sl 1 0 r.2.length]) [.dead, .arr 1 r.2.length (rw (r.2.map (cI .i64)))] := by
  induction n with
  | zero => intro _append0 a1 l0 r h; simp [ref14_check_v2] at h
  | succ n Hslf_ref14_check_v2 =>
   intro _append0 a1 l0 r h
   refine conH_of (T := TT0) tt_ok Tryz.func80 (c := _) (by unfold Tryz.f80; rfl) Tryz.ntmps80 (rs := [.tmp 6, .tmp 7]) (by rw [Tryz.results80]) (by unfold Tryz.f80; rfl) (by simp) (k := 1) rfl rfl ?_
   try simp only [argsCh]
   have F := True.intro
   dsimp only [ref14_check_v2] at h
   refine rs0 ?_
   iterate 3 refine vp ?_
   refine vn ?_
   refine Wp.seq ?_
   refine rs0 ?_
   iterate 4 refine vp ?_
   refine sD h F (fun F h => ?_) fun F h => ?_
   refine vg ?_
   refine vg ?_
   refine vg ?_
   refine vp ?_
   refine vn ?_
   refine sD h F (fun F h => ?_) fun F h => ?_
   refine cF ?_
   refine Wp.skip ?_
   refine sh ?_
   refine Wp.seq ?_
   refine rs0 ?_
   iterate 3 refine vp ?_
   refine vn ?_
   refine sB h F (fun F h => ?_) fun F h => ?_
   refine cF ?_
   refine Wp.skip ?_
   refine sh ?_
   refine Wp.seq ?_
   refine rs0 ?_
   iterate 3 refine vp ?_
   refine vn ?_
   refine sB h F (fun F h => ?_) fun F h => ?_
   refine cF ?_
   refine Wp.skip ?_
   refine sh ?_
   refine Wp.seq ?_
   refine rs0 ?_
   iterate 4 refine vp ?_
   refine vn ?_
   refine sD h F (fun F h => ?_) fun F h => ?_
   refine cF ?_
   refine Wp.skip ?_
   refine sh ?_
   refine jn (fun _ : Unit => { ch := [(1, .int .i64 a1), (2, .sl 0 0 l0.length), (3, .hptr 1 0 0)], hp := [.arr 1 l0.length (rw (l0.map (cI .i64))), .var [.int .i64 _append0.Kind, .int .i64 _append0.N, aL cRef14Tree _append0.Kids]], base := 1, n := 109, cond := True, gl := G0 }) (fun x => ref14_check_v2_J2 n _append0 a1 l0 (ref14_check_v2 n) = some r) ?_ ?_
   clear h
   rintro _ h
   dsimp only [ref14_check_v2_J2] at h
   try dsimp only
   refine Wp.seq ?_
   refine rs0 ?_
   refine vp ?_
   refine vn ?_
   refine Wp.block ?_
   refine lp [some 0, some 1, some 0] (fun x : Int × (List Int) => { ch := [(1, .int .i64 a1), (2, .sl 2 0 x.2.length), (3, .hptr 1 0 0), (10, .int .i64 x.1)], hp := [.dead, .var [.int .i64 _append0.Kind, .int .i64 _append0.N, aL cRef14Tree _append0.Kids], .arr 1 x.2.length (rw (x.2.map (cI .i64)))], base := 1, n := 109, cond := True, gl := G0 }) (fun m x => ref14_check_v2_L3 _append0 a1 (ref14_check_v2 n) m x.1 x.2 = some r) n (0, l0) h ?_
   rintro rec_n3 ⟨p16118, l16119⟩ h
   dsimp only [ref14_check_v2_L3] at h
   try dsimp only
   refine Wp.seq ?_
   refine rs0 ?_
   iterate 5 refine vp ?_
   refine vn ?_
   refine sD h F (fun F h => ?_) fun F h => ?_
   refine cF ?_
   refine Wp.exit ?_
   refine sh ?_
   refine rs0 ?_
   iterate 3 refine vp ?_
   refine vn ?_
   cases h
   exact Wp.ret (enH [some 0, some 2])
   refine cT ?_
   refine Wp.skip ?_
   refine sh ?_
   refine Wp.seq ?_
   refine Wp.block ?_
   refine rs0 ?_
   iterate 3 refine vp ?_
   refine eI h F fun x16124 F h => ?_
   iterate 4 refine vp ?_
   obtain ⟨⟨r16126, q16127⟩, hr16125, h⟩ := obind h
   dsimp only at h
   refine vh [2] (Hslf_ref14_check_v2 hr16125) ?_
   iterate 5 refine vp ?_
   refine vn ?_
   refine Wp.seq ?_
   refine rs0 ?_
   iterate 2 refine vp ?_
   refine vn ?_
   refine sB h F (fun F h => ?_) fun F h => ?_
   refine cF ?_
   refine Wp.skip ?_
   refine sh ?_
   refine rg0 ?_
   iterate 2 refine vp ?_
   refine vn ?_
   refine sh ?_
   refine rg0 ?_
   iterate 3 refine vp ?_
   refine vn ?_
   exact nx [some 0, some 1, some 3] ((IntKind.i64.wrap (p16118 + 1)), q16127) h
   refine cT ?_
   refine rs0 ?_
   iterate 4 refine vp ?_
   refine vn ?_
   cases h
   exact Wp.ret (enH [some 0, some 3])
   refine rs0 ?_
   refine vp ?_
   refine vn ?_
   refine Wp.block ?_
   refine lp [some 0, some 1] (fun p16129 : Int => { ch := [(1, .int .i64 a1), (2, .sl 0 0 l0.length), (3, .hptr 1 0 0), (9, .int .i64 p16129)], hp := [.arr 1 l0.length (rw (l0.map (cI .i64))), .var [.int .i64 _append0.Kind, .int .i64 _append0.N, aL cRef14Tree _append0.Kids]], base := 1, n := 109, cond := True, gl := G0 }) (fun m x => ref14_check_v2_L4 n _append0 a1 l0 (ref14_check_v2 n) m x = some r) n 0 h ?_
   rintro rec_n4 p16129 h
   dsimp only [ref14_check_v2_L4] at h
   try dsimp only
   refine Wp.seq ?_
   refine rs0 ?_
   iterate 5 refine vp ?_
   refine vn ?_
   refine sD h F (fun F h => ?_) fun F h => ?_
   refine cF ?_
   refine Wp.exit ?_
   exact nx [some 0, some 1] () h
   refine cT ?_
   refine Wp.skip ?_
   refine sh ?_
   refine Wp.seq ?_
   refine Wp.block ?_
   refine dw (fun _ => false) [1] ?_
   refine du 3 ?_
   refine eI h F fun x16131 F h => ?_
   refine du 6 ?_
   refine dn ?_
   refine sB h F (fun F h => ?_) fun F h => ?_
   refine cF ?_
   refine Wp.skip ?_
   refine sh ?_
   refine rg0 ?_
   iterate 3 refine vp ?_
   refine vn ?_
   exact nx [some 0, some 1] (IntKind.i64.wrap (p16129 + 1)) h
   refine cT ?_
   refine rs0 ?_
   iterate 3 refine vp ?_
   refine vn ?_
   cases h
   exact Wp.ret (enH [some 0, some 0])
   refine cT ?_
   refine rs0 ?_
   iterate 3 refine vp ?_
   refine vn ?_
   cases h
   exact Wp.ret (enH [some 0, some 0])
   refine cT ?_
   refine rs0 ?_
   iterate 3 refine vp ?_
   refine vn ?_
   cases h
   exact Wp.ret (enH [some 0, some 0])
   refine cT ?_
   refine Wp.seq ?_
   refine rs0 ?_
   iterate 4 refine vp ?_
   refine vn ?_
   refine sD h F (fun F h => ?_) fun F h => ?_
   refine cF ?_
   refine Wp.skip ?_
   refine sh ?_
   refine Wp.seq ?_
   refine rs0 ?_
   iterate 4 refine vp ?_
   refine sD h F (fun F h => ?_) fun F h => ?_
   refine vg ?_
   refine vg ?_
   refine vg ?_
   refine vg ?_
   refine vp ?_
   refine vn ?_
   refine sD h F (fun F h => ?_) fun F h => ?_
   refine cF ?_
   refine Wp.skip ?_
   refine sh ?_
   refine Wp.seq ?_
   refine rs0 ?_
   refine vp ?_
   refine vn ?_
   refine Wp.block ?_
   refine lp [some 0, some 1] (fun p16099 : Int => { ch := [(2, .sl 0 0 l0.length), (3, .hptr 1 0 0), (8, .int .i64 p16099)], hp := [.arr 1 l0.length (rw (l0.map (cI .i64))), .var [.int .i64 _append0.Kind, .int .i64 _append0.N, aL cRef14Tree _append0.Kids]], base := 1, n := 109, cond := True, gl := G0 }) (fun m x => ref14_check_v2_L1 _append0 l0 m x = some r) n 0 h ?_
   rintro rec_n1 p16099 h
   dsimp only [ref14_check_v2_L1] at h
   try dsimp only
   refine Wp.seq ?_
   refine rs0 ?_
   iterate 4 refine vp ?_
   refine vn ?_
   refine sD h F (fun F h => ?_) fun F h => ?_
   refine cF ?_
   refine Wp.exit ?_
   refine sh ?_
   refine rs0 ?_
   iterate 4 refine vp ?_
   refine gd h F fun F h => ?_
   refine vp ?_
   refine nm (cI .i64) h F fun l16105 F h => ?_
   iterate 2 refine vp ?_
   refine vn ?_
   cases h
   exact Wp.ret (enH [some 0, some 2])
   refine cT ?_
   refine Wp.skip ?_
   refine sh ?_
   refine Wp.seq ?_
   refine Wp.block ?_
   refine dw (fun _ => false) [0, 1] ?_
   refine du 2 ?_
   refine eI h F fun x16104 F h => ?_
   refine du 5 ?_
   refine dn ?_
   refine sB h F (fun F h => ?_) fun F h => ?_
   refine cF ?_
   refine Wp.skip ?_
   refine sh ?_
   refine rg0 ?_
   iterate 3 refine vp ?_
   refine vn ?_
   exact nx [some 0, some 1] (IntKind.i64.wrap (p16099 + 1)) h
   refine cT ?_
   refine rs0 ?_
   iterate 3 refine vp ?_
   refine vn ?_
   cases h
   exact Wp.ret (enH [some 0, some 0])
   refine cT ?_
   refine rs0 ?_
   iterate 3 refine vp ?_
   refine vn ?_
   cases h
   exact Wp.ret (enH [some 0, some 0])
   refine vs ?_
   refine vs ?_
   refine vs ?_
   refine vs ?_
   refine vp ?_
   refine vn ?_
   refine cT ?_
   refine rs0 ?_
   iterate 3 refine vp ?_
   refine vn ?_
   cases h
   exact Wp.ret (enH [some 0, some 0])
   refine cT ?_
   refine rs0 ?_
   iterate 3 refine vp ?_
   refine vn ?_
   cases h
   exact Wp.ret (enH [some 0, some 0])
   refine cT ?_
   refine rs0 ?_
   iterate 3 refine vp ?_
   refine vn ?_
   cases h
   exact Wp.ret (enH [some 0, some 0])
   refine vs ?_
   refine vs ?_
   refine vs ?_
   refine vp ?_
   refine vn ?_
   refine cT ?_
   refine rs0 ?_
   iterate 3 refine vp ?_
   refine vn ?_
   cases h
   exact Wp.ret (enH [some 0, some 0])

theorem con_ref17_Coils {n : Nat} {r_0 : ApiRung} {r : (List ApiIns) × Int} (h : ref17_Coils n r_0 = some r) : Con Tryz.prog G0 20 [.agg (cApiRung r_0)] (.tup [aL cApiIns r.1, .int .i64 r.2]) [] := by
  refine con_of (T := TT0) tt_ok Tryz.func20 (c := _) (by unfold Tryz.f20; rfl) Tryz.ntmps20 (rs := [.tmp 2, .tmp 3]) (by rw [Tryz.results20]) (by unfold Tryz.f20; rfl) (by simp) ?_
  simp only [argsCh]
  have F := True.intro
  dsimp only [ref17_Coils] at h
  refine rs0 ?_
  iterate 3 refine vp ?_
  refine vn ?_
  refine rs0 ?_
  refine vp ?_
  refine vn ?_
  refine Wp.seq ?_
  refine rs0 ?_
  refine vp ?_
  refine vn ?_
  refine Wp.block ?_
  refine lp [some 0, none] (fun x : (List ApiIns) × Int => { ch := [(1, .hptr 0 0 0), (4, .sl 1 0 x.1.length), (5, .int .i64 x.2)], hp := [.var [.str r_0.Label, aL cApiContact r_0.Contacts, aL cApiCoil r_0.Coils, .str r_0.Jump], .arr 4 x.1.length (rw (x.1.map cApiIns))], base := 0, n := 47, cond := True, gl := G0 }) (fun m x => ref17_Coils_L1 r_0 m x.1 x.2 = some r) n ([], 0) h ?_
  rintro rec_n1 ⟨p16581, p16582⟩ h
  dsimp only [ref17_Coils_L1] at h
  try dsimp only
  refine Wp.seq ?_
  refine rs0 ?_
  iterate 5 refine vp ?_
  refine vn ?_
  refine sD h F (fun F h => ?_) fun F h => ?_
  refine cF ?_
  refine Wp.exit ?_
  refine sh ?_
  refine rs0 ?_
  iterate 3 refine vp ?_
  refine vn ?_
  cases h
  exact Wp.ret en0
  refine cT ?_
  refine Wp.skip ?_
  refine sh ?_
  refine Wp.seq ?_
  refine Wp.block ?_
  refine Wp.seq ?_
  refine rs0 ?_
  iterate 3 refine vp ?_
  refine eI h F fun x16587 F h => ?_
  iterate 5 refine vp ?_
  refine sD h F (fun F h => ?_) fun F h => ?_
  refine vg ?_
  refine vg ?_
  refine vg ?_
  refine vg ?_
  refine vg ?_
  refine vg ?_
  refine vg ?_
  refine vp ?_
  refine vn ?_
  refine sD h F (fun F h => ?_) fun F h => ?_
  refine cF ?_
  refine Wp.skip ?_
  refine sh ?_
  refine dw1 (fun d => Nat.beq d 45 || Nat.beq d 1045) [0, 1] ?_
  refine du 8 ?_
  refine du 8 ?_
  refine gd h F fun F h => ?_
  refine db ?_
  refine nm cApiIns h F fun l16588 F h => ?_
  refine du 1 ?_
  refine dn ?_
  refine sh ?_
  refine rg0 ?_
  iterate 3 refine vp ?_
  refine vn ?_
  exact nx [some 0, some 2] (l16588, (IntKind.i64.wrap (p16582 + 1))) h
  refine cT ?_
  refine rs0 ?_
  iterate 2 refine vp ?_
  refine vn ?_
  cases h
  exact Wp.ret en0
  refine vs ?_
  refine vs ?_
  refine vs ?_
  refine vs ?_
  refine vs ?_
  refine vs ?_
  refine vs ?_
  refine vp ?_
  refine vn ?_
  refine cT ?_
  refine rs0 ?_
  iterate 2 refine vp ?_
  refine vn ?_
  cases h
  exact Wp.ret en0

theorem con_slices_Equal_api_Ins {n : Nat} {s10 : List ApiIns} {s21 : List ApiIns} {r : Bool} (h : slices_Equal_api_Ins n s10 s21 = some r) : Con Tryz.prog G0 21 [aL cApiIns s10, aL cApiIns s21] (.bool r) [] := by
  refine con_of (T := TT0) tt_ok Tryz.func21 (c := _) (by unfold Tryz.f21; rfl) Tryz.ntmps21 (rs := [.tmp 4]) (by rw [Tryz.results21]) (by unfold Tryz.f21; rfl) (by simp) ?_
  simp only [argsCh]
  have F := True.intro
  dsimp only [slices_Equal_api_Ins] at h
  refine rs0 ?_
  refine vp ?_
  refine vn ?_
  refine Wp.seq ?_
  refine rs0 ?_
  iterate 5 refine vp ?_
  refine vn ?_
  refine sB h F (fun F h => ?_) fun F h => ?_
  refine cF ?_
  refine Wp.skip ?_
  refine sh ?_
  refine Wp.seq ?_
  refine rs0 ?_
  iterate 3 refine vp ?_
  refine vn ?_
  refine Wp.block ?_
  refine lp [] (fun p15866 : Int => { ch := [(0, aL cApiIns s10), (1, aL cApiIns s21), (12, .int .i64 (s10.length : Int)), (13, .int .i64 p15866)], hp := [], base := 0, n := 26, cond := True, gl := G0 }) (fun m x => slices_Equal_api_Ins_L1 s10 s21 m x = some r) n 0 h ?_
  rintro rec_n1 p15866 h
  dsimp only [slices_Equal_api_Ins_L1] at h
  try dsimp only
  refine rs0 ?_
  refine vp ?_
  refine vn ?_
  refine Wp.seq ?_
  refine sD h F (fun F h => ?_) fun F h => ?_
  refine cF ?_
  refine Wp.exit ?_
  refine sh ?_
  refine rs0 ?_
  refine vp ?_
  refine vn ?_
  cases h
  exact Wp.ret en0
  refine cT ?_
  refine Wp.skip ?_
  refine sh ?_
  refine Wp.seq ?_
  refine Wp.block ?_
  refine rs0 ?_
  iterate 2 refine vp ?_
  refine vn ?_
  refine dw (fun _ => false) [] ?_
  refine du 2 ?_
  refine eI h F fun x15869 F h => ?_
  refine du 4 ?_
  refine eI h F fun x15870 F h => ?_
  refine du 3 ?_
  refine dn ?_
  refine sB h F (fun F h => ?_) fun F h => ?_
  refine cF ?_
  refine Wp.skip ?_
  refine sh ?_
  refine rg0 ?_
  iterate 2 refine vp ?_
  refine vn ?_
  exact nx [] (IntKind.i64.wrap (p15866 + 1)) h
  refine cT ?_
  refine rs0 ?_
  refine vp ?_
  refine vn ?_
  cases h
  exact Wp.ret en0
  refine cT ?_
  refine rs0 ?_
  refine vp ?_
  refine vn ?_
  cases h
  exact Wp.ret en0

theorem con_lex_letter {n : Nat} {c0 : Int} {r : Bool} (h : lex_letter n c0 = some r) : Con Tryz.prog G0 174 [.int .i32 c0] (.bool r) [] := by
  refine con_of (T := TT0) tt_ok Tryz.func174 (c := _) (by unfold Tryz.f174; rfl) Tryz.ntmps174 (rs := [.tmp 2]) (by rw [Tryz.results174]) (by unfold Tryz.f174; rfl) (by simp) ?_
  simp only [argsCh]
  have F := True.intro
  dsimp only [lex_letter] at h
  refine rs0 ?_
  refine vp ?_
  refine vn ?_
  refine rs0 ?_
  iterate 3 refine vp ?_
  refine sD h F (fun F h => ?_) fun F h => ?_
  refine vs ?_
  refine vs ?_
  iterate 2 refine vp ?_
  refine vg ?_
  refine vg ?_
  refine vg ?_
  refine sD h F (fun F h => ?_) fun F h => ?_
  refine vs ?_
  refine vs ?_
  refine vg ?_
  iterate 2 refine vp ?_
  refine vn ?_
  cases h
  exact Wp.ret en0
  refine vg ?_
  refine vg ?_
  refine vg ?_
  iterate 2 refine vp ?_
  refine vn ?_
  cases h
  exact Wp.ret en0
  refine vg ?_
  refine vg ?_
  iterate 2 refine vp ?_
  refine sD h F (fun F h => ?_) fun F h => ?_
  refine vg ?_
  refine vg ?_
  refine vg ?_
  refine sD h F (fun F h => ?_) fun F h => ?_
  refine vs ?_
  refine vs ?_
  refine vg ?_
  iterate 2 refine vp ?_
  refine vn ?_
  cases h
  exact Wp.ret en0
  refine vg ?_
  refine vg ?_
  refine vg ?_
  iterate 2 refine vp ?_
  refine vn ?_
  cases h
  exact Wp.ret en0
  refine vs ?_
  refine vs ?_
  refine vs ?_
  refine vs ?_
  refine vs ?_
  refine vs ?_
  iterate 2 refine vp ?_
  refine vn ?_
  cases h
  exact Wp.ret en0

theorem con_graph_TopoSort_1_1 {n : Nat} {i_0 : Int} {m1 : List (Str × Bool)} {b2 : ApiRung} {r : Bool} (h : graph_TopoSort_1_1 n i_0 m1 b2 = some r) : ConH Tryz.prog G0 102 [.int .i64 i_0, .hptr 0 0 0, .hptr 2 0 0] [.var [.mp 1], .map (mAV AV.str cB m1), .var [.str b2.Label, aL cApiContact b2.Contacts, aL cApiCoil b2.Coils, .str b2.Jump]] (.bool r) [.var [.mp 1], .map (mAV AV.str cB m1), .var [.str b2.Label, aL cApiContact b2.Contacts, aL cApiCoil b2.Coils, .str b2.Jump]] := by
  refine conH_of (T := TT0) tt_ok Tryz.func102 (c := _) (by unfold Tryz.f102; rfl) Tryz.ntmps102 (rs := [.tmp 4]) (by rw [Tryz.results102]) (by unfold Tryz.f102; rfl) (by simp) (k := 3) rfl rfl ?_
  try simp only [argsCh]
  have F := True.intro
  dsimp only [graph_TopoSort_1_1] at h
  refine rs0 ?_
  refine vp ?_
  refine vn ?_
  refine dw (fun _ => false) [0, 1, 2] ?_
  refine du 4 ?_
  refine eI h F fun x13076 F h => ?_
  refine du 6 ?_
  refine dn ?_
  cases h
  exact Wp.ret (enH [some 0, some 1, some 2])

theorem con_tree_Tree_check_1 {n : Nat} {k0 : TreeTree} {b0 : TreeTree} {r : Bool} (h : tree_Tree_check_1 n k0 b0 = some r) : ConH Tryz.prog G0 92 [.agg [.int .i64 k0.Kind, .int .i64 k0.N, aL cTreeTree k0.Kids], .hptr 0 0 0] [.var [.int .i64 b0.Kind, .int .i64 b0.N, aL cTreeTree b0.Kids]] (.bool r) [.var [.int .i64 b0.Kind, .int .i64 b0.N, aL cTreeTree b0.Kids]] := by
  refine conH_of (T := TT0) tt_ok Tryz.func92 (c := _) (by unfold Tryz.f92; rfl) Tryz.ntmps92 (rs := [.tmp 3]) (by rw [Tryz.results92]) (by unfold Tryz.f92; rfl) (by simp) (k := 1) rfl rfl ?_
  try simp only [argsCh]
  have F := True.intro
  dsimp only [tree_Tree_check_1] at h
  refine rs0 ?_
  iterate 2 refine vp ?_
  refine vn ?_
  refine rs0 ?_
  iterate 6 refine vp ?_
  refine vn ?_
  cases h
  exact Wp.ret (enH [some 0])

theorem con_rungeval_sees {n : Nat} {c0 : ApiContact} {r : Bool} (h : rungeval_sees n c0 = some r) : Con Tryz.prog G0 124 [.agg (cApiContact c0)] (.bool r) [] := by
  refine con_of (T := TT0) tt_ok Tryz.func124 (c := _) (by unfold Tryz.f124; rfl) Tryz.ntmps124 (rs := [.tmp 2]) (by rw [Tryz.results124]) (by unfold Tryz.f124; rfl) (by simp) ?_
  simp only [argsCh]
  have F := True.intro
  dsimp only [rungeval_sees] at h
  refine rs0 ?_
  iterate 2 refine vp ?_
  refine vn ?_
  refine rs0 ?_
  iterate 4 refine vp ?_
  refine sB h F (fun F h => ?_) fun F h => ?_
  refine vg ?_
  refine vg ?_
  refine vg ?_
  iterate 2 refine vp ?_
  refine vn ?_
  cases h
  exact Wp.ret en0
  refine vs ?_
  refine vs ?_
  refine vs ?_
  iterate 2 refine vp ?_
  refine vn ?_
  cases h
  exact Wp.ret en0

theorem con_law17_example {n : Nat} {r : ApiRung} (h : law17_example n  = some r) : Con Tryz.prog G0 45 [] (.agg (cApiRung r)) [] := by
  refine con_of (T := TT0) tt_ok Tryz.func45 (c := _) (by unfold Tryz.f45; rfl) Tryz.ntmps45 (rs := [.cell 0 25]) (by rw [Tryz.results45]) (by unfold Tryz.f45; rfl) (by simp) ?_
  simp only [argsCh]
  have F := True.intro
  dsimp only [law17_example] at h
  refine rs0 ?_
  refine vp ?_
  refine vn ?_
  refine rs0 ?_
  iterate 4 refine vp ?_
  refine nl cApiContact h F fun l14 m F h => ?_
  try simp only [m]
  clear m
  iterate 3 refine vp ?_
  refine nl cApiCoil h F fun l15 m F h => ?_
  try simp only [m]
  clear m
  iterate 2 refine vp ?_
  refine vn ?_
  cases h
  exact Wp.ret en0

theorem con_graph_Outgoing_1 {n : Nat} {c0 : ApiContact} {b0 : Str} {r : Bool} (h : graph_Outgoing_1 n c0 b0 = some r) : ConH Tryz.prog G0 168 [.agg (cApiContact c0), .hptr 0 0 0] [.var [.str b0]] (.bool r) [.var [.str b0]] := by
  refine conH_of (T := TT0) tt_ok Tryz.func168 (c := _) (by unfold Tryz.f168; rfl) Tryz.ntmps168 (rs := [.tmp 3]) (by rw [Tryz.results168]) (by unfold Tryz.f168; rfl) (by simp) (k := 1) rfl rfl ?_
  try simp only [argsCh]
  have F := True.intro
  dsimp only [graph_Outgoing_1] at h
  refine rs0 ?_
  iterate 2 refine vp ?_
  refine vn ?_
  refine rs0 ?_
  iterate 5 refine vp ?_
  refine vn ?_
  cases h
  exact Wp.ret (enH [some 0])

end Go.Proofs.YtaebdeidbibfkaaGreatDoor
