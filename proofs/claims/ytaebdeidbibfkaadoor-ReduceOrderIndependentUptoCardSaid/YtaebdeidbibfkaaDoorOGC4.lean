/- Contracts: models of functions are right. No law is proved here. -/
import Derived.Test.YtaebdeidbibfkaaDoorOGMod
import Derived.Test.YtaebdeidbibfkaaDoorOTav
import Derived.Test.YtaebdeidbibfkaaDoorOSo
import Derived.Test.YtaebdeidbibfkaaDoorOSh
namespace Go.Proofs.YtaebdeidbibfkaaDoor
open Go.Av Go.G
attribute [-simp] Int.natCast_tdiv_eq_ediv
attribute [local simp] runf guardA opf St.ev Go.Av.look St.setd constAV constAV0 opBin opLen intBin St.need lookT TT0 tab resA resOne resAll blt_dec ble_dec beq_dec isPure
attribute [local simp] opMakeSlice opCopy opIndexAddr opLoad opStore St.mem St.rows opUn calleeA toArgs toArg toArg0 toArgs0 shift shift0 shift1 splice cellsOf isFree ofCells TS.isAgg isCell strBin opConvert
attribute [local simp] opSlice3 opClear fz_clear opBuildSlice fillA opAppend eqC eqA cksB ckB St.newBox runI valKind withinB readsHp refsD refs noSl opFieldAddr opBuild opMax opMin placeOf Op.operands Call.operands opIndex opExtract opSlice opField partA
attribute [local simp] loA hiA lenA opMakeMap opLookup opMapUpdate keyOk findA_int findA_str findA_bool putA_strB putA_strI putA_strS putA_intB putA_intI putA_intS putA_boolI putA_boolB byteRow_rwN bytesOf_rwN opBytesStr mAV_length mAV_nil cA1 cA2 cA3 cA4 opNilCheck opMakeFunc opRange
attribute [local simp] aL cI cB cS cL rw_map fz_rw fz_const dropRow_rw fz_append fz_set fz_copy fz_rows rowLen_rw rowsLen_nil rowsLen_cons rowsLen_append rowsLen_map rowsLen_dm rowsLen_tm rowsLen_take rowsLen_drop rowsLen_replicate take_map_len take_map_le drop_map_len take_drop_len chunks isScalar isScalar0
attribute [local simp] putBack putAt objMap mapC mapA mapT map0 bid rid memB passed closedB argsH argH argH0 argsH0 objIds ids0 idsC isLocT isLocA isLocC isLoc0 LocObj
attribute [local congr] bind_congr1 map_congr1 cond_congr1
attribute [local simp] cApiAddr cApiContact cApiCoil cApiRung cReducePair cReduceEdge cTreeTree_eq TreeTree_Kind_mk TreeTree_N_mk TreeTree_Kids_mk eta_TreeTree cRef14Tree_eq Ref14Tree_Kind_mk Ref14Tree_N_mk Ref14Tree_Kids_mk eta_Ref14Tree
variable [Drawn]
set_option maxHeartbeats 4000000
set_option linter.unusedSectionVars false
set_option maxRecDepth 20000
set_option linter.unusedSimpArgs false
set_option linter.unusedVariables false

theorem con_ref14_Equal (n : Nat) : ∀ {a0 : Ref14Tree} {b1 : Ref14Tree} {r : Bool}, ref14_Equal n a0 b1 = some r → Con Tryd.prog G0 14 [.agg [.int .i64 a0.Kind, .int .i64 a0.N, aL cRef14Tree a0.Kids], .agg [.int .i64 b1.Kind, .int .i64 b1.N, aL cRef14Tree b1.Kids]] (.bool r) [] := by
  induction n with
  | zero => intro a0 b1 r h; simp [ref14_Equal] at h
  | succ n Hslf_ref14_Equal =>
   intro a0 b1 r h
   refine con_of (T := TT0) tt_ok Tryd.func14 (c := _) (by unfold Tryd.f14; rfl) Tryd.ntmps14 (rs := [.tmp 4]) (by rw [Tryd.results14]) (by unfold Tryd.f14; rfl) (by simp) ?_
   simp only [argsCh]
   have F := True.intro
   dsimp only [ref14_Equal] at h
   refine rs0 ?_
   iterate 3 refine vp ?_
   refine vn ?_
   refine Wp.seq ?_
   refine rs0 ?_
   iterate 6 refine vp ?_
   refine sB h F (fun F h => ?_) fun F h => ?_
   refine vg ?_
   refine vg ?_
   refine vg ?_
   refine vg ?_
   refine vg ?_
   iterate 2 refine vp ?_
   refine sB h F (fun F h => ?_) fun F h => ?_
   refine vg ?_
   refine vg ?_
   refine vg ?_
   refine vg ?_
   refine vg ?_
   refine vg ?_
   refine vg ?_
   refine vp ?_
   refine vn ?_
   refine sB h F (fun F h => ?_) fun F h => ?_
   refine cF ?_
   refine Wp.skip ?_
   refine sh ?_
   refine Wp.seq ?_
   refine rs0 ?_
   refine vp ?_
   refine vn ?_
   refine Wp.block ?_
   refine lp [some 0, some 1] (fun p14278 : Int => { ch := [(2, .hptr 0 0 0), (3, .hptr 1 0 0), (5, .int .i64 p14278)], hp := [.var [.int .i64 a0.Kind, .int .i64 a0.N, aL cRef14Tree a0.Kids], .var [.int .i64 b1.Kind, .int .i64 b1.N, aL cRef14Tree b1.Kids]], base := 0, n := 46, cond := True, gl := G0 }) (fun m x => ref14_Equal_L1 a0 b1 (ref14_Equal n) m x = some r) n 0 h ?_
   rintro rec_n1 p14278 h
   dsimp only [ref14_Equal_L1] at h
   try dsimp only
   refine Wp.seq ?_
   refine rs0 ?_
   iterate 5 refine vp ?_
   refine vn ?_
   refine sD h F (fun F h => ?_) fun F h => ?_
   refine cF ?_
   refine Wp.exit ?_
   refine sh ?_
   refine rs0 ?_
   refine vp ?_
   refine vn ?_
   cases h
   exact Wp.ret en0
   refine cT ?_
   refine Wp.skip ?_
   refine sh ?_
   refine Wp.seq ?_
   refine Wp.block ?_
   refine dw (fun _ => false) [0, 1] ?_
   refine du 3 ?_
   refine eI h F fun x14283 F h => ?_
   refine du 5 ?_
   refine eI h F fun x14284 F h => ?_
   refine du 2 ?_
   obtain ⟨r14286, hr14285, h⟩ := obind h
   refine dc (Hslf_ref14_Equal hr14285) ?_
   refine du 1 ?_
   refine dn ?_
   refine sB h F (fun F h => ?_) fun F h => ?_
   refine cF ?_
   refine Wp.skip ?_
   refine sh ?_
   refine rg0 ?_
   iterate 3 refine vp ?_
   refine vn ?_
   exact nx [some 0, some 1] (IntKind.i64.wrap (p14278 + 1)) h
   refine cT ?_
   refine rs0 ?_
   refine vp ?_
   refine vn ?_
   cases h
   exact Wp.ret en0
   refine cT ?_
   refine rs0 ?_
   refine vp ?_
   refine vn ?_
   cases h
   exact Wp.ret en0
   refine vs ?_
   refine vs ?_
   refine vs ?_
   refine vs ?_
   refine vs ?_
   refine vs ?_
   refine vs ?_
   refine vp ?_
   refine vn ?_
   refine cT ?_
   refine rs0 ?_
   refine vp ?_
   refine vn ?_
   cases h
   exact Wp.ret en0
   refine vs ?_
   refine vs ?_
   refine vs ?_
   refine vs ?_
   refine vs ?_
   iterate 2 refine vp ?_
   refine vs ?_
   refine vs ?_
   refine vs ?_
   refine vs ?_
   refine vs ?_
   refine vs ?_
   refine vs ?_
   refine vp ?_
   refine vn ?_
   refine cT ?_
   refine rs0 ?_
   refine vp ?_
   refine vn ?_
   cases h
   exact Wp.ret en0

theorem con_tree_Leaves (n : Nat) : ∀ {t0 : TreeTree} {r : (List Int)}, tree_Leaves n t0 = some r → Con Tryd.prog G0 18 [.agg [.int .i64 t0.Kind, .int .i64 t0.N, aL cTreeTree t0.Kids]] (aL (cI .i64) r) [] := by
  induction n with
  | zero => intro t0 r h; simp [tree_Leaves] at h
  | succ n Hslf_tree_Leaves =>
   intro t0 r h
   refine con_of (T := TT0) tt_ok Tryd.func18 (c := _) (by unfold Tryd.f18; rfl) Tryd.ntmps18 (rs := [.tmp 2]) (by rw [Tryd.results18]) (by unfold Tryd.f18; rfl) (by simp) ?_
   simp only [argsCh]
   have F := True.intro
   dsimp only [tree_Leaves] at h
   refine rs0 ?_
   iterate 2 refine vp ?_
   refine vn ?_
   refine Wp.seq ?_
   refine rs0 ?_
   iterate 2 refine vp ?_
   refine vn ?_
   refine Wp.block ?_
   refine rs0 ?_
   iterate 2 refine vp ?_
   refine vn ?_
   refine sB h F (fun F h => ?_) fun F h => ?_
   refine cF ?_
   refine jn (fun p13700 : Bool => { ch := [(1, .hptr 0 0 0), (13, .bool p13700)], hp := [.var [.int .i64 t0.Kind, .int .i64 t0.N, aL cTreeTree t0.Kids]], base := 0, n := 29, cond := True, gl := G0 }) (fun x => tree_Leaves_J1 n t0 (tree_Leaves n) x = some r) ?_ ?_
   clear h
   rintro p13700 h
   dsimp only [tree_Leaves_J1] at h
   try dsimp only
   refine sB h F (fun F h => ?_) fun F h => ?_
   refine cF ?_
   refine Wp.skip ?_
   refine sh ?_
   refine rs0 ?_
   refine vp ?_
   refine vn ?_
   cases h
   exact Wp.ret en0
   refine cT ?_
   refine rs0 ?_
   refine vp ?_
   refine vn ?_
   refine Wp.seq ?_
   refine rs0 ?_
   iterate 4 refine vp ?_
   refine vn ?_
   refine Wp.block ?_
   refine lp [none] (fun x : Int × (List Int) => { ch := [(3, .sl 0 0 x.2.length), (17, aL cTreeTree t0.Kids), (18, .int .i64 (t0.Kids.length : Int)), (19, .int .i64 x.1)], hp := [.arr 1 x.2.length (rw (x.2.map (cI .i64)))], base := 0, n := 29, cond := True, gl := G0 }) (fun m x => tree_Leaves_L2 t0 (tree_Leaves n) m x.1 x.2 = some r) n (0, []) h ?_
   rintro rec_n2 ⟨p13704, p13705⟩ h
   dsimp only [tree_Leaves_L2] at h
   try dsimp only
   refine rs0 ?_
   refine vp ?_
   refine vn ?_
   refine Wp.seq ?_
   refine sD h F (fun F h => ?_) fun F h => ?_
   refine cF ?_
   refine Wp.exit ?_
   refine sh ?_
   refine rs0 ?_
   iterate 2 refine vp ?_
   refine vn ?_
   cases h
   exact Wp.ret en0
   refine cT ?_
   refine Wp.skip ?_
   refine sh ?_
   refine Wp.seq ?_
   refine Wp.block ?_
   refine rs0 ?_
   refine eI h F fun x13710 F h => ?_
   iterate 4 refine vp ?_
   refine vn ?_
   refine rg (fun d => Nat.beq d 26) ?_
   iterate 2 refine vp ?_
   obtain ⟨r13712, hr13711, h⟩ := obind h
   refine vc (Hslf_tree_Leaves hr13711) ?_
   refine gd h F fun F h => ?_
   refine vp ?_
   refine nm (cI .i64) h F fun l13713 F h => ?_
   refine vp ?_
   refine vn ?_
   refine sh ?_
   refine rg0 ?_
   iterate 2 refine vp ?_
   refine vn ?_
   exact nx [some 2] ((IntKind.i64.wrap (p13704 + 1)), l13713) h
   refine rs0 ?_
   iterate 2 refine vp ?_
   refine vn ?_
   refine sB h F (fun F h => ?_) fun F h => ?_
   refine cF ?_
   refine rg0 ?_
   iterate 2 refine vp ?_
   refine vn ?_
   exact nx [some 0] (t0.Kind == 2) h
   refine cT ?_
   refine Wp.skip ?_
   exact nx [some 0] (t0.Kind == 1) h
   refine cT ?_
   refine rs0 ?_
   iterate 3 refine vp ?_
   refine nl (cI .i64) h F fun l13699 m F h => ?_
   try simp only [m]
   clear m
   refine vp ?_
   refine vn ?_
   cases h
   exact Wp.ret en0

theorem con_law12_TooLarge {n : Nat} {r_0 : ApiRung} {r : Int} (h : law12_TooLarge n r_0 = some r) : Con Tryd.prog G0 9 [.agg (cApiRung r_0)] (.int .i64 r) [] := by
  refine con_of (T := TT0) tt_ok Tryd.func9 (c := _) (by unfold Tryd.f9; rfl) Tryd.ntmps9 (rs := [.tmp 2]) (by rw [Tryd.results9]) (by unfold Tryd.f9; rfl) (by simp) ?_
  simp only [argsCh]
  have F := True.intro
  dsimp only [law12_TooLarge] at h
  refine rs0 ?_
  iterate 2 refine vp ?_
  refine vn ?_
  refine rs0 ?_
  refine vp ?_
  refine vn ?_
  refine jn (fun p9476 : Int => { ch := [(1, .hptr 0 0 0), (3, .int .i64 p9476)], hp := [.var [.str r_0.Label, aL cApiContact r_0.Contacts, aL cApiCoil r_0.Coils, .str r_0.Jump]], base := 0, n := 32, cond := True, gl := G0 }) (fun x => law12_TooLarge_J1 r_0 x = some r) ?_ ?_
  clear h
  rintro p9476 h
  dsimp only [law12_TooLarge_J1] at h
  try dsimp only
  refine Wp.seq ?_
  refine rs0 ?_
  iterate 3 refine vp ?_
  refine sD h F (fun F h => ?_) fun F h => ?_
  refine vg ?_
  refine vg ?_
  refine vg ?_
  refine vg ?_
  refine vp ?_
  refine vn ?_
  refine sD h F (fun F h => ?_) fun F h => ?_
  refine cF ?_
  refine Wp.skip ?_
  refine sh ?_
  refine rs0 ?_
  refine vp ?_
  refine vn ?_
  cases h
  exact Wp.ret en0
  refine cT ?_
  refine rs0 ?_
  refine vp ?_
  refine vn ?_
  cases h
  exact Wp.ret en0
  refine vs ?_
  refine vs ?_
  refine vs ?_
  refine vs ?_
  refine vp ?_
  refine vn ?_
  refine cT ?_
  refine rs0 ?_
  refine vp ?_
  refine vn ?_
  cases h
  exact Wp.ret en0
  refine rs0 ?_
  iterate 4 refine vp ?_
  refine vn ?_
  refine Wp.block ?_
  refine lp [some 0] (fun x : Int × Int => { ch := [(1, .hptr 0 0 0), (3, .int .i64 x.1), (7, aL cApiContact r_0.Contacts), (8, .int .i64 (r_0.Contacts.length : Int)), (9, .int .i64 x.2)], hp := [.var [.str r_0.Label, aL cApiContact r_0.Contacts, aL cApiCoil r_0.Coils, .str r_0.Jump]], base := 0, n := 32, cond := True, gl := G0 }) (fun m x => law12_TooLarge_L2 r_0 m x.1 x.2 = some r) n (0, 0) h ?_
  rintro rec_n2 ⟨p9478, p9479⟩ h
  dsimp only [law12_TooLarge_L2] at h
  try dsimp only
  refine rs0 ?_
  refine vp ?_
  refine vn ?_
  refine Wp.seq ?_
  refine sD h F (fun F h => ?_) fun F h => ?_
  refine cF ?_
  refine Wp.exit ?_
  exact nx [some 0] p9478 h
  refine cT ?_
  refine Wp.skip ?_
  refine sh ?_
  refine Wp.seq ?_
  refine Wp.block ?_
  refine rs0 ?_
  refine eI h F fun x9481 F h => ?_
  iterate 4 refine vp ?_
  refine vn ?_
  refine rg0 ?_
  iterate 11 refine vp ?_
  refine vn ?_
  refine sh ?_
  refine rg0 ?_
  iterate 2 refine vp ?_
  refine vn ?_
  exact nx [some 0] ((IntKind.i64.wrap (p9478 + (IntKind.i64.wrap ((IntKind.i64.wrap (1 + (x9481.From.size : Int))) + (x9481.To.size : Int))))), (IntKind.i64.wrap (p9479 + 1))) h

theorem con_slices_Index_string {n : Nat} {s0 : List Str} {v1 : Str} {r : Int} (h : slices_Index_string n s0 v1 = some r) : Con Tryd.prog G0 104 [aL cS s0, .str v1] (.int .i64 r) [] := by
  refine con_of (T := TT0) tt_ok Tryd.func104 (c := _) (by unfold Tryd.f104; rfl) Tryd.ntmps104 (rs := [.tmp 4]) (by rw [Tryd.results104]) (by unfold Tryd.f104; rfl) (by simp) ?_
  simp only [argsCh]
  have F := True.intro
  dsimp only [slices_Index_string] at h
  refine rs0 ?_
  refine vp ?_
  refine vn ?_
  refine Wp.seq ?_
  refine rs0 ?_
  iterate 3 refine vp ?_
  refine vn ?_
  refine Wp.block ?_
  refine lp [] (fun p12766 : Int => { ch := [(0, aL cS s0), (1, .str v1), (7, .int .i64 (s0.length : Int)), (8, .int .i64 p12766)], hp := [], base := 0, n := 19, cond := True, gl := G0 }) (fun m x => slices_Index_string_L1 s0 v1 m x = some r) n 0 h ?_
  rintro rec_n1 p12766 h
  dsimp only [slices_Index_string_L1] at h
  try dsimp only
  refine rs0 ?_
  refine vp ?_
  refine vn ?_
  refine Wp.seq ?_
  refine sD h F (fun F h => ?_) fun F h => ?_
  refine cF ?_
  refine Wp.exit ?_
  refine sh ?_
  refine rs0 ?_
  refine vp ?_
  refine vn ?_
  cases h
  exact Wp.ret en0
  refine cT ?_
  refine Wp.skip ?_
  refine sh ?_
  refine Wp.seq ?_
  refine Wp.block ?_
  refine rs0 ?_
  iterate 2 refine vp ?_
  refine vn ?_
  refine rs0 ?_
  iterate 3 refine vp ?_
  refine eI h F fun x12768 F h => ?_
  iterate 3 refine vp ?_
  refine vn ?_
  refine sE h F (fun _ F h => ?_) fun _ F h => ?_
  refine cF ?_
  refine Wp.skip ?_
  refine sh ?_
  refine rg0 ?_
  iterate 2 refine vp ?_
  refine vn ?_
  exact nx [] (IntKind.i64.wrap (p12766 + 1)) h
  refine cT ?_
  refine rs0 ?_
  iterate 2 refine vp ?_
  refine vn ?_
  cases h
  exact Wp.ret en0

theorem dec2_eq (i : Nat) (h : i < 100) : (⟨(Lib.decDigits i).toArray⟩ : Str) = dec2 i := by
  unfold dec2
  rw [Lib.decDigits]
  split
  · rfl
  · rw [Lib.decDigits, dif_pos (by omega : i / 10 < 10)]
    rfl
theorem con_strconv_Itoa {n : Nat} {i : Int} {r : Str} (h : strconv_Itoa n i = some r) : Con Tryd.prog G0 44 [.int .i64 i] (.str r) [] := by
  unfold strconv_Itoa at h
  split at h
  · rename_i hi
    cases h
    refine con_below ⟨_, Tryd.func44, rfl, by decide⟩ fun E w vals hh ha => ?_
    obtain ⟨x, rfl, hx⟩ := args_one ha
    cases hx.int'
    obtain ⟨k, rfl⟩ := Int.eq_ofNat_of_zero_le hi.1
    refine ⟨_, fun w' => .str _, (Tryd.strconv_Itoa_small k (by omega) w).mono fun e w' ⟨he, hw⟩ => ?_⟩
    subst hw
    rw [dec2_eq k (by omega)] at he
    exact ⟨he, Go.RowKit.Below.refl _ _, fun _ => Nat.le_refl _⟩
  · cases h

theorem con_graph_Incoming_1 {n : Nat} {c0 : ApiContact} {b0 : Str} {r : Bool} (h : graph_Incoming_1 n c0 b0 = some r) : ConH Tryd.prog G0 99 [.agg (cApiContact c0), .hptr 0 0 0] [.var [.str b0]] (.bool r) [.var [.str b0]] := by
  refine conH_of (T := TT0) tt_ok Tryd.func99 (c := _) (by unfold Tryd.f99; rfl) Tryd.ntmps99 (rs := [.tmp 3]) (by rw [Tryd.results99]) (by unfold Tryd.f99; rfl) (by simp) (k := 1) rfl rfl ?_
  try simp only [argsCh]
  have F := True.intro
  dsimp only [graph_Incoming_1] at h
  refine rs0 ?_
  iterate 2 refine vp ?_
  refine vn ?_
  refine rs0 ?_
  iterate 5 refine vp ?_
  refine vn ?_
  cases h
  exact Wp.ret (enH [some 0])

end Go.Proofs.YtaebdeidbibfkaaDoor
