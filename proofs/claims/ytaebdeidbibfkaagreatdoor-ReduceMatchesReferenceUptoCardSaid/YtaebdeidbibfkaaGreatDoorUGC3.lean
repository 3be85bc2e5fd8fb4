/- Contracts: models of functions are right. No law is proved here. -/
import Derived.Test.YtaebdeidbibfkaaGreatDoorUGMod
import Derived.Test.YtaebdeidbibfkaaGreatDoorUTau
import Derived.Test.YtaebdeidbibfkaaGreatDoorUSoz
import Derived.Test.YtaebdeidbibfkaaGreatDoorUShz
namespace Go.Proofs.YtaebdeidbibfkaaGreatDoor
open Go.Av Go.G
attribute [-simp] Int.natCast_tdiv_eq_ediv
attribute [local simp] runf guardA opf St.ev Go.Av.look St.setd constAV constAV0 opBin opLen intBin St.need lookT TT0 tab resA resOne resAll blt_dec ble_dec beq_dec isPure
attribute [local simp] opMakeSlice opCopy opIndexAddr opLoad opStore St.mem St.rows opUn calleeA toArgs toArg toArg0 toArgs0 shift shift0 shift1 splice cellsOf isFree ofCells TS.isAgg isCell strBin opConvert
attribute [local simp] opSlice3 opClear fz_clear opBuildSlice fillA opAppend eqC eqA cksB ckB St.newBox runI valKind withinB readsHp refsD refs noSl opFieldAddr opBuild opMax opMin placeOf Op.operands Call.operands opIndex opExtract opSlice opField partA
attribute [local simp] loA hiA lenA opMakeMap opLookup opMapUpdate keyOk findA_int findA_str findA_bool putA_strB putA_strI putA_strS putA_intB putA_intI putA_intS putA_boolI putA_boolB byteRow_rwN bytesOf_rwN opBytesStr mAV_length mAV_nil cA1 cA2 cA3 cA4 opNilCheck opMakeFunc opRange
attribute [local simp] aL cI cB cS cL rw_map fz_rw fz_const dropRow_rw fz_append fz_set fz_copy fz_rows rowLen_rw rowsLen_nil rowsLen_cons rowsLen_append rowsLen_map rowsLen_dm rowsLen_tm rowsLen_take rowsLen_drop rowsLen_replicate take_map_len take_map_le drop_map_len take_drop_len chunks isScalar isScalar0
attribute [local simp] putBack putAt objMap mapC mapA mapT map0 bid rid memB passed closedB argsH argH argH0 argsH0 objIds ids0 idsC isLocT isLocA isLocC isLoc0 LocObj
attribute [local congr] bind_congr1 map_congr1 cond_congr1
attribute [local simp] cApiAddr cApiContact cApiCoil cApiRung cReducePair cReduceEdge cRef15Edge cTreeTree_eq TreeTree_Kind_mk TreeTree_N_mk TreeTree_Kids_mk eta_TreeTree cRef14Tree_eq Ref14Tree_Kind_mk Ref14Tree_N_mk Ref14Tree_Kids_mk eta_Ref14Tree
variable [Drawn]
set_option maxHeartbeats 4000000
set_option linter.unusedSectionVars false
set_option maxRecDepth 20000
set_option linter.unusedSimpArgs false
set_option linter.unusedVariables false

theorem con_ref14_Equal (n : Nat) : ∀ {a0 : Ref14Tree} {b1 : Ref14Tree} {r : Bool}, ref14_Equal n a0 b1 = some r → Con Tryz.prog G0 12 [.agg [.int .i64 a0.Kind, .int .i64 a0.N, aL cRef14Tree a0.Kids], .agg [.int .i64 b1.Kind, .int .i64 b1.N, aL cRef14Tree b1.Kids]] (.bool r) [] := by
  induction n with
  | zero => intro a0 b1 r h; simp [ref14_Equal] at h
  | succ n Hslf_ref14_Equal =>
   intro a0 b1 r h
   refine con_of (T := TT0) tt_ok Tryz.func12 (c := _) (by unfold Tryz.f12; rfl) Tryz.ntmps12 (rs := [.tmp 4]) (by rw [Tryz.results12]) (by unfold Tryz.f12; rfl) (by simp) ?_
   simp only [argsCh]
   have F := True.intro
   dsimp only [ref14_Equal] at h
   refine rs0 ?_
   iterate 3 refine vp ?_
   refine vn ?_
   refine Wp.seq ?_
   refine rs0 ?_
   iterate 6 refine vp ?_
   refine sB h F (fun F h => ?_) fun F h => ?_
   refine vg ?_
   refine vg ?_
   refine vg ?_
   refine vg ?_
   refine vg ?_
   iterate 2 refine vp ?_
   refine sB h F (fun F h => ?_) fun F h => ?_
   refine vg ?_
   refine vg ?_
   refine vg ?_
   refine vg ?_
   refine vg ?_
   refine vg ?_
   refine vg ?_
   refine vp ?_
   refine vn ?_
   refine sB h F (fun F h => ?_) fun F h => ?_
   refine cF ?_
   refine Wp.skip ?_
   refine sh ?_
   refine Wp.seq ?_
   refine rs0 ?_
   refine vp ?_
   refine vn ?_
   refine Wp.block ?_
   refine lp [some 0, some 1] (fun p10373 : Int => { ch := [(2, .hptr 0 0 0), (3, .hptr 1 0 0), (5, .int .i64 p10373)], hp := [.var [.int .i64 a0.Kind, .int .i64 a0.N, aL cRef14Tree a0.Kids], .var [.int .i64 b1.Kind, .int .i64 b1.N, aL cRef14Tree b1.Kids]], base := 0, n := 46, cond := True, gl := G0 }) (fun m x => ref14_Equal_L1 a0 b1 (ref14_Equal n) m x = some r) n 0 h ?_
   rintro rec_n1 p10373 h
   dsimp only [ref14_Equal_L1] at h
   try dsimp only
   refine Wp.seq ?_
   refine rs0 ?_
   iterate 5 refine vp ?_
   refine vn ?_
   refine sD h F (fun F h => ?_) fun F h => ?_
   refine cF ?_
   refine Wp.exit ?_
   refine sh ?_
   refine rs0 ?_
   refine vp ?_
   refine vn ?_
   cases h
   exact Wp.ret en0
   refine cT ?_
   refine Wp.skip ?_
   refine sh ?_
   refine Wp.seq ?_
   refine Wp.block ?_
   refine dw (fun _ => false) [0, 1] ?_
   refine du 3 ?_
   refine eI h F fun x10378 F h => ?_
   refine du 5 ?_
   refine eI h F fun x10379 F h => ?_
   refine du 2 ?_
   obtain ⟨r10381, hr10380, h⟩ := obind h
   refine dc (Hslf_ref14_Equal hr10380) ?_
   refine du 1 ?_
   refine dn ?_
   refine sB h F (fun F h => ?_) fun F h => ?_
   refine cF ?_
   refine Wp.skip ?_
   refine sh ?_
   refine rg0 ?_
   iterate 3 refine vp ?_
   refine vn ?_
   exact nx [some 0, some 1] (IntKind.i64.wrap (p10373 + 1)) h
   refine cT ?_
   refine rs0 ?_
   refine vp ?_
   refine vn ?_
   cases h
   exact Wp.ret en0
   refine cT ?_
   refine rs0 ?_
   refine vp ?_
   refine vn ?_
   cases h
   exact Wp.ret en0
   refine vs ?_
   refine vs ?_
   refine vs ?_
   refine vs ?_
   refine vs ?_
   refine vs ?_
   refine vs ?_
   refine vp ?_
   refine vn ?_
   refine cT ?_
   refine rs0 ?_
   refine vp ?_
   refine vn ?_
   cases h
   exact Wp.ret en0
   refine vs ?_
   refine vs ?_
   refine vs ?_
   refine vs ?_
   refine vs ?_
   iterate 2 refine vp ?_
   refine vs ?_
   refine vs ?_
   refine vs ?_
   refine vs ?_
   refine vs ?_
   refine vs ?_
   refine vs ?_
   refine vp ?_
   refine vn ?_
   refine cT ?_
   refine rs0 ?_
   refine vp ?_
   refine vn ?_
   cases h
   exact Wp.ret en0

theorem con_reduce_join {n : Nat} {kind0 : Int} {a1 : TreeTree} {b2 : TreeTree} {r : TreeTree} (h : reduce_join n kind0 a1 b2 = some r) : Con Tryz.prog G0 67 [.int .i64 kind0, .agg [.int .i64 a1.Kind, .int .i64 a1.N, aL cTreeTree a1.Kids], .agg [.int .i64 b2.Kind, .int .i64 b2.N, aL cTreeTree b2.Kids]] (.agg [.int .i64 r.Kind, .int .i64 r.N, aL cTreeTree r.Kids]) [] := by
  refine con_of (T := TT0) tt_ok Tryz.func67 (c := _) (by unfold Tryz.f67; rfl) Tryz.ntmps67 (rs := [.cell 6 30]) (by rw [Tryz.results67]) (by unfold Tryz.f67; rfl) (by simp) ?_
  simp only [argsCh]
  have F := True.intro
  dsimp only [reduce_join] at h
  refine rs0 ?_
  iterate 3 refine vp ?_
  refine vn ?_
  refine rs0 ?_
  iterate 4 refine vp ?_
  refine vn ?_
  refine Wp.seq ?_
  refine rs0 ?_
  iterate 3 refine vp ?_
  refine nl cTreeTree h F fun l4064 m F h => ?_
  try simp only [m]
  clear m
  iterate 2 refine vp ?_
  refine vn ?_
  refine Wp.block ?_
  refine lp [some 2, some 3, none] (fun x : Int × (List TreeTree) => { ch := [(0, .int .i64 kind0), (6, .hptr 0 0 0), (7, .hptr 1 0 0), (14, aL cTreeTree l4064), (15, .int .i64 (l4064.length : Int)), (16, .int .i64 x.1)], hp := [.var [.int .i64 0, .int .i64 0, .nilsl], .var [.int .i64 kind0, .int .i64 0, .sl 2 0 x.2.length], .arr 3 x.2.length (rw (x.2.map cTreeTree))], base := 0, n := 38, cond := True, gl := G0 }) (fun m x => reduce_join_L1 kind0 l4064 m x.1 x.2 = some r) n (0, []) h ?_
  rintro rec_n1 ⟨p4067, p4068⟩ h
  dsimp only [reduce_join_L1] at h
  try dsimp only
  refine rs0 ?_
  refine vp ?_
  refine vn ?_
  refine Wp.seq ?_
  refine sD h F (fun F h => ?_) fun F h => ?_
  refine cF ?_
  refine Wp.exit ?_
  refine sh ?_
  refine rs0 ?_
  iterate 2 refine vp ?_
  refine vn ?_
  cases h
  exact Wp.ret en0
  refine cT ?_
  refine Wp.skip ?_
  refine sh ?_
  refine Wp.seq ?_
  refine Wp.block ?_
  refine rs0 ?_
  refine eI h F fun x4072 F h => ?_
  iterate 4 refine vp ?_
  refine vn ?_
  refine rs0 ?_
  iterate 4 refine vp ?_
  refine vn ?_
  refine sB h F (fun F h => ?_) fun F h => ?_
  refine cF ?_
  refine rg (fun d => Nat.beq d 34) ?_
  iterate 4 refine vp ?_
  refine gd h F fun F h => ?_
  refine vp ?_
  refine nm cTreeTree h F fun l4074 F h => ?_
  iterate 2 refine vp ?_
  refine vn ?_
  refine sh ?_
  refine rg0 ?_
  iterate 2 refine vp ?_
  refine vn ?_
  exact nx [some 0, some 1, some 4] ((IntKind.i64.wrap (p4067 + 1)), l4074) h
  refine cT ?_
  refine rg (fun d => Nat.beq d 28) ?_
  iterate 4 refine vp ?_
  refine gd h F fun F h => ?_
  refine vp ?_
  refine nm cTreeTree h F fun l4073 F h => ?_
  iterate 2 refine vp ?_
  refine vn ?_
  refine sh ?_
  refine rg0 ?_
  iterate 2 refine vp ?_
  refine vn ?_
  exact nx [some 0, some 1, some 4] ((IntKind.i64.wrap (p4067 + 1)), l4073) h

theorem con_law12_TooLarge {n : Nat} {r_0 : ApiRung} {r : Int} (h : law12_TooLarge n r_0 = some r) : Con Tryz.prog G0 8 [.agg (cApiRung r_0)] (.int .i64 r) [] := by
  refine con_of (T := TT0) tt_ok Tryz.func8 (c := _) (by unfold Tryz.f8; rfl) Tryz.ntmps8 (rs := [.tmp 2]) (by rw [Tryz.results8]) (by unfold Tryz.f8; rfl) (by simp) ?_
  simp only [argsCh]
  have F := True.intro
  dsimp only [law12_TooLarge] at h
  refine rs0 ?_
  iterate 2 refine vp ?_
  refine vn ?_
  refine rs0 ?_
  refine vp ?_
  refine vn ?_
  refine jn (fun p6 : Int => { ch := [(1, .hptr 0 0 0), (3, .int .i64 p6)], hp := [.var [.str r_0.Label, aL cApiContact r_0.Contacts, aL cApiCoil r_0.Coils, .str r_0.Jump]], base := 0, n := 32, cond := True, gl := G0 }) (fun x => law12_TooLarge_J1 r_0 x = some r) ?_ ?_
  clear h
  rintro p6 h
  dsimp only [law12_TooLarge_J1] at h
  try dsimp only
  refine Wp.seq ?_
  refine rs0 ?_
  iterate 3 refine vp ?_
  refine sD h F (fun F h => ?_) fun F h => ?_
  refine vg ?_
  refine vg ?_
  refine vg ?_
  refine vg ?_
  refine vp ?_
  refine vn ?_
  refine sD h F (fun F h => ?_) fun F h => ?_
  refine cF ?_
  refine Wp.skip ?_
  refine sh ?_
  refine rs0 ?_
  refine vp ?_
  refine vn ?_
  cases h
  exact Wp.ret en0
  refine cT ?_
  refine rs0 ?_
  refine vp ?_
  refine vn ?_
  cases h
  exact Wp.ret en0
  refine vs ?_
  refine vs ?_
  refine vs ?_
  refine vs ?_
  refine vp ?_
  refine vn ?_
  refine cT ?_
  refine rs0 ?_
  refine vp ?_
  refine vn ?_
  cases h
  exact Wp.ret en0
  refine rs0 ?_
  iterate 4 refine vp ?_
  refine vn ?_
  refine Wp.block ?_
  refine lp [some 0] (fun x : Int × Int => { ch := [(1, .hptr 0 0 0), (3, .int .i64 x.1), (7, aL cApiContact r_0.Contacts), (8, .int .i64 (r_0.Contacts.length : Int)), (9, .int .i64 x.2)], hp := [.var [.str r_0.Label, aL cApiContact r_0.Contacts, aL cApiCoil r_0.Coils, .str r_0.Jump]], base := 0, n := 32, cond := True, gl := G0 }) (fun m x => law12_TooLarge_L2 r_0 m x.1 x.2 = some r) n (0, 0) h ?_
  rintro rec_n2 ⟨p8, p9⟩ h
  dsimp only [law12_TooLarge_L2] at h
  try dsimp only
  refine rs0 ?_
  refine vp ?_
  refine vn ?_
  refine Wp.seq ?_
  refine sD h F (fun F h => ?_) fun F h => ?_
  refine cF ?_
  refine Wp.exit ?_
  exact nx [some 0] p8 h
  refine cT ?_
  refine Wp.skip ?_
  refine sh ?_
  refine Wp.seq ?_
  refine Wp.block ?_
  refine rs0 ?_
  refine eI h F fun x11 F h => ?_
  iterate 4 refine vp ?_
  refine vn ?_
  refine rg0 ?_
  iterate 11 refine vp ?_
  refine vn ?_
  refine sh ?_
  refine rg0 ?_
  iterate 2 refine vp ?_
  refine vn ?_
  exact nx [some 0] ((IntKind.i64.wrap (p8 + (IntKind.i64.wrap ((IntKind.i64.wrap (1 + (x11.From.size : Int))) + (x11.To.size : Int))))), (IntKind.i64.wrap (p9 + 1))) h

theorem con_law15_rung {n : Nat} {l0 : List Str} {r : ApiRung} (h : law15_rung n l0 = some r) : Con Tryz.prog G0 36 [aL cS l0] (.agg (cApiRung r)) [] := by
  refine con_of (T := TT0) tt_ok Tryz.func36 (c := _) (by unfold Tryz.f36; rfl) Tryz.ntmps36 (rs := [.cell 2 25]) (by rw [Tryz.results36]) (by unfold Tryz.f36; rfl) (by simp) ?_
  simp only [argsCh]
  have F := True.intro
  dsimp only [law15_rung] at h
  refine rs0 ?_
  refine vp ?_
  refine vn ?_
  refine rs0 ?_
  refine vp ?_
  refine vn ?_
  refine Wp.seq ?_
  refine rs0 ?_
  refine vp ?_
  refine vn ?_
  refine Wp.block ?_
  refine lp [some 0, some 1, none] (fun x : (List ApiContact) × Int => { ch := [(0, aL cS l0), (2, .hptr 0 0 0), (3, .hptr 1 0 0), (4, .int .i64 x.2)], hp := [.var [.str (⟨#[]⟩ : Str), .nilsl, .nilsl, .str (⟨#[]⟩ : Str)], .var [.str (⟨#[]⟩ : Str), .sl 2 0 x.1.length, .nilsl, .str (⟨#[]⟩ : Str)], .arr 5 x.1.length (rw (x.1.map cApiContact))], base := 0, n := 28, cond := True, gl := G0 }) (fun m x => law15_rung_L1 l0 m x.1 x.2 = some r) n ([], 0) h ?_
  rintro rec_n1 ⟨p24, p25⟩ h
  dsimp only [law15_rung_L1] at h
  try dsimp only
  refine Wp.seq ?_
  refine rs0 ?_
  iterate 5 refine vp ?_
  refine vn ?_
  refine sD h F (fun F h => ?_) fun F h => ?_
  refine cF ?_
  refine Wp.exit ?_
  refine sh ?_
  refine rs0 ?_
  iterate 2 refine vp ?_
  refine vn ?_
  cases h
  exact Wp.ret en0
  refine cT ?_
  refine Wp.skip ?_
  refine sh ?_
  refine Wp.seq ?_
  refine Wp.block ?_
  refine dw1 (fun d => Nat.beq d 25 || Nat.beq d 1025) [1, 2] ?_
  refine du 4 ?_
  refine eI h F fun x29 F h => ?_
  refine du 5 ?_
  refine eI h F fun x30 F h => ?_
  refine du 4 ?_
  refine gd h F fun F h => ?_
  refine db ?_
  refine nm cApiContact h F fun l31 F h => ?_
  refine du 1 ?_
  refine db ?_
  refine dn ?_
  refine sh ?_
  refine rg0 ?_
  iterate 3 refine vp ?_
  refine vn ?_
  exact nx [some 0, some 1, some 3] (l31, (IntKind.i64.wrap (p25 + 2))) h

theorem con_ref13_has {n : Nat} {l0 : List Str} {s1 : Str} {r : Bool} (h : ref13_has n l0 s1 = some r) : Con Tryz.prog G0 116 [aL cS l0, .str s1] (.bool r) [] := by
  refine con_of (T := TT0) tt_ok Tryz.func116 (c := _) (by unfold Tryz.f116; rfl) Tryz.ntmps116 (rs := [.tmp 4]) (by rw [Tryz.results116]) (by unfold Tryz.f116; rfl) (by simp) ?_
  simp only [argsCh]
  have F := True.intro
  dsimp only [ref13_has] at h
  refine rs0 ?_
  refine vp ?_
  refine vn ?_
  refine Wp.seq ?_
  refine rs0 ?_
  refine vp ?_
  refine vn ?_
  refine Wp.block ?_
  refine lp [] (fun p8460 : Int => { ch := [(0, aL cS l0), (1, .str s1), (5, .int .i64 p8460)], hp := [], base := 0, n := 18, cond := True, gl := G0 }) (fun m x => ref13_has_L1 l0 s1 m x = some r) n 0 h ?_
  rintro rec_n1 p8460 h
  dsimp only [ref13_has_L1] at h
  try dsimp only
  refine Wp.seq ?_
  refine rs0 ?_
  iterate 4 refine vp ?_
  refine vn ?_
  refine sD h F (fun F h => ?_) fun F h => ?_
  refine cF ?_
  refine Wp.exit ?_
  refine sh ?_
  refine rs0 ?_
  refine vp ?_
  refine vn ?_
  cases h
  exact Wp.ret en0
  refine cT ?_
  refine Wp.skip ?_
  refine sh ?_
  refine Wp.seq ?_
  refine Wp.block ?_
  refine rs0 ?_
  iterate 2 refine vp ?_
  refine eI h F fun x8462 F h => ?_
  iterate 4 refine vp ?_
  refine vn ?_
  refine sE h F (fun _ F h => ?_) fun _ F h => ?_
  refine cF ?_
  refine Wp.skip ?_
  refine sh ?_
  refine rg0 ?_
  iterate 3 refine vp ?_
  refine vn ?_
  exact nx [] (IntKind.i64.wrap (p8460 + 1)) h
  refine cT ?_
  refine rs0 ?_
  refine vp ?_
  refine vn ?_
  cases h
  exact Wp.ret en0

theorem con_graph_gather_2 {n : Nat} {n_0 : Str} {m1 : List (Str × Bool)} {r : Bool} (h : graph_gather_2 n n_0 m1 = some r) : ConH Tryz.prog G0 167 [.str n_0, .hptr 0 0 0] [.var [.mp 1], .map (mAV AV.str cB m1)] (.bool r) [.var [.mp 1], .map (mAV AV.str cB m1)] := by
  refine conH_of (T := TT0) tt_ok Tryz.func167 (c := _) (by unfold Tryz.f167; rfl) Tryz.ntmps167 (rs := [.tmp 3]) (by rw [Tryz.results167]) (by unfold Tryz.f167; rfl) (by simp) (k := 2) rfl rfl ?_
  try simp only [argsCh]
  have F := True.intro
  dsimp only [graph_gather_2] at h
  refine rs0 ?_
  refine vp ?_
  refine vn ?_
  refine rs0 ?_
  iterate 5 refine vp ?_
  refine vn ?_
  cases h
  exact Wp.ret (enH [some 0, some 1])

theorem con_graph_Outgoing_1 {n : Nat} {c0 : ApiContact} {b0 : Str} {r : Bool} (h : graph_Outgoing_1 n c0 b0 = some r) : ConH Tryz.prog G0 168 [.agg (cApiContact c0), .hptr 0 0 0] [.var [.str b0]] (.bool r) [.var [.str b0]] := by
  refine conH_of (T := TT0) tt_ok Tryz.func168 (c := _) (by unfold Tryz.f168; rfl) Tryz.ntmps168 (rs := [.tmp 3]) (by rw [Tryz.results168]) (by unfold Tryz.f168; rfl) (by simp) (k := 1) rfl rfl ?_
  try simp only [argsCh]
  have F := True.intro
  dsimp only [graph_Outgoing_1] at h
  refine rs0 ?_
  iterate 2 refine vp ?_
  refine vn ?_
  refine rs0 ?_
  iterate 5 refine vp ?_
  refine vn ?_
  cases h
  exact Wp.ret (enH [some 0])

end Go.Proofs.YtaebdeidbibfkaaGreatDoor
