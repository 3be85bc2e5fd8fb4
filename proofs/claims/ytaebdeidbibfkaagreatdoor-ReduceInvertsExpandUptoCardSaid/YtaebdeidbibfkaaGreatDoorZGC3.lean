/- Contracts: models of functions are right. No law is proved here. -/
import Derived.Test.YtaebdeidbibfkaaGreatDoorZGMod
import Derived.Test.YtaebdeidbibfkaaGreatDoorZTaz
import Derived.Test.YtaebdeidbibfkaaGreatDoorZSoz
import Derived.Test.YtaebdeidbibfkaaGreatDoorZShz
namespace Go.Proofs.YtaebdeidbibfkaaGreatDoor
open Go.Av Go.G
attribute [-simp] Int.natCast_tdiv_eq_ediv
attribute [local simp] runf guardA opf St.ev Go.Av.look St.setd constAV constAV0 opBin opLen intBin St.need lookT TT0 tab resA resOne resAll blt_dec ble_dec beq_dec isPure
attribute [local simp] opMakeSlice opCopy opIndexAddr opLoad opStore St.mem St.rows opUn calleeA toArgs toArg toArg0 toArgs0 shift shift0 shift1 splice cellsOf isFree ofCells TS.isAgg isCell strBin opConvert
attribute [local simp] opSlice3 opClear fz_clear opBuildSlice fillA opAppend eqC eqA cksB ckB St.newBox runI valKind withinB readsHp refsD refs noSl opFieldAddr opBuild opMax opMin placeOf Op.operands Call.operands opIndex opExtract opSlice opField partA
attribute [local simp] loA hiA lenA opMakeMap opLookup opMapUpdate keyOk findA_int findA_str findA_bool putA_strB putA_strI putA_strS putA_intB putA_intI putA_intS putA_boolI putA_boolB byteRow_rwN bytesOf_rwN opBytesStr mAV_length mAV_nil cA1 cA2 cA3 cA4 opNilCheck opMakeFunc opRange
attribute [local simp] aL cI cB cS cL rw_map fz_rw fz_const dropRow_rw fz_append fz_set fz_copy fz_rows rowLen_rw rowsLen_nil rowsLen_cons rowsLen_append rowsLen_map rowsLen_dm rowsLen_tm rowsLen_take rowsLen_drop rowsLen_replicate take_map_len take_map_le drop_map_len take_drop_len chunks isScalar isScalar0
attribute [local simp] putBack putAt objMap mapC mapA mapT map0 bid rid memB passed closedB argsH argH argH0 argsH0 objIds ids0 idsC isLocT isLocA isLocC isLoc0 LocObj
attribute [local congr] bind_congr1 map_congr1 cond_congr1
attribute [local simp] cApiAddr cApiContact cApiCoil cApiRung cReducePair cReduceEdge cTreeTree_eq TreeTree_Kind_mk TreeTree_N_mk TreeTree_Kids_mk eta_TreeTree cRef14Tree_eq Ref14Tree_Kind_mk Ref14Tree_N_mk Ref14Tree_Kids_mk eta_Ref14Tree
variable [Drawn]
set_option maxHeartbeats 4000000
set_option linter.unusedSectionVars false
set_option maxRecDepth 20000
set_option linter.unusedSimpArgs false
set_option linter.unusedVariables false

theorem con_ref14_Equal (n : Nat) : ∀ {a0 : Ref14Tree} {b1 : Ref14Tree} {r : Bool}, ref14_Equal n a0 b1 = some r → Con Tryz.prog G0 12 [.agg [.int .i64 a0.Kind, .int .i64 a0.N, aL cRef14Tree a0.Kids], .agg [.int .i64 b1.Kind, .int .i64 b1.N, aL cRef14Tree b1.Kids]] (.bool r) [] := by
  induction n with
  | zero => intro a0 b1 r h; simp [ref14_Equal] at h
  | succ n Hslf_ref14_Equal =>
   intro a0 b1 r h
   refine con_of (T := TT0) tt_ok Tryz.func12 (c := _) (by unfold Tryz.f12; rfl) Tryz.ntmps12 (rs := [.tmp 4]) (by rw [Tryz.results12]) (by unfold Tryz.f12; rfl) (by simp) ?_
   simp only [argsCh]
   have F := True.intro
   dsimp only [ref14_Equal] at h
   refine rs0 ?_
   iterate 3 refine vp ?_
   refine vn ?_
   refine Wp.seq ?_
   refine rs0 ?_
   iterate 6 refine vp ?_
   refine sB h F (fun F h => ?_) fun F h => ?_
   refine vg ?_
   refine vg ?_
   refine vg ?_
   refine vg ?_
   refine vg ?_
   iterate 2 refine vp ?_
   refine sB h F (fun F h => ?_) fun F h => ?_
   refine vg ?_
   refine vg ?_
   refine vg ?_
   refine vg ?_
   refine vg ?_
   refine vg ?_
   refine vg ?_
   refine vp ?_
   refine vn ?_
   refine sB h F (fun F h => ?_) fun F h => ?_
   refine cF ?_
   refine Wp.skip ?_
   refine sh ?_
   refine Wp.seq ?_
   refine rs0 ?_
   refine vp ?_
   refine vn ?_
   refine Wp.block ?_
   refine lp [some 0, some 1] (fun p5347 : Int => { ch := [(2, .hptr 0 0 0), (3, .hptr 1 0 0), (5, .int .i64 p5347)], hp := [.var [.int .i64 a0.Kind, .int .i64 a0.N, aL cRef14Tree a0.Kids], .var [.int .i64 b1.Kind, .int .i64 b1.N, aL cRef14Tree b1.Kids]], base := 0, n := 46, cond := True, gl := G0 }) (fun m x => ref14_Equal_L1 a0 b1 (ref14_Equal n) m x = some r) n 0 h ?_
   rintro rec_n1 p5347 h
   dsimp only [ref14_Equal_L1] at h
   try dsimp only
   refine Wp.seq ?_
   refine rs0 ?_
   iterate 5 refine vp ?_
   refine vn ?_
   refine sD h F (fun F h => ?_) fun F h => ?_
   refine cF ?_
   refine Wp.exit ?_
   refine sh ?_
   refine rs0 ?_
   refine vp ?_
   refine vn ?_
   cases h
   exact Wp.ret en0
   refine cT ?_
   refine Wp.skip ?_
   refine sh ?_
   refine Wp.seq ?_
   refine Wp.block ?_
   refine dw (fun _ => false) [0, 1] ?_
   refine du 3 ?_
   refine eI h F fun x5352 F h => ?_
   refine du 5 ?_
   refine eI h F fun x5353 F h => ?_
   refine du 2 ?_
   obtain ⟨r5355, hr5354, h⟩ := obind h
   refine dc (Hslf_ref14_Equal hr5354) ?_
   refine du 1 ?_
   refine dn ?_
   refine sB h F (fun F h => ?_) fun F h => ?_
   refine cF ?_
   refine Wp.skip ?_
   refine sh ?_
   refine rg0 ?_
   iterate 3 refine vp ?_
   refine vn ?_
   exact nx [some 0, some 1] (IntKind.i64.wrap (p5347 + 1)) h
   refine cT ?_
   refine rs0 ?_
   refine vp ?_
   refine vn ?_
   cases h
   exact Wp.ret en0
   refine cT ?_
   refine rs0 ?_
   refine vp ?_
   refine vn ?_
   cases h
   exact Wp.ret en0
   refine vs ?_
   refine vs ?_
   refine vs ?_
   refine vs ?_
   refine vs ?_
   refine vs ?_
   refine vs ?_
   refine vp ?_
   refine vn ?_
   refine cT ?_
   refine rs0 ?_
   refine vp ?_
   refine vn ?_
   cases h
   exact Wp.ret en0
   refine vs ?_
   refine vs ?_
   refine vs ?_
   refine vs ?_
   refine vs ?_
   iterate 2 refine vp ?_
   refine vs ?_
   refine vs ?_
   refine vs ?_
   refine vs ?_
   refine vs ?_
   refine vs ?_
   refine vs ?_
   refine vp ?_
   refine vn ?_
   refine cT ?_
   refine rs0 ?_
   refine vp ?_
   refine vn ?_
   cases h
   exact Wp.ret en0

theorem con_reduce_join {n : Nat} {kind0 : Int} {a1 : TreeTree} {b2 : TreeTree} {r : TreeTree} (h : reduce_join n kind0 a1 b2 = some r) : Con Tryz.prog G0 67 [.int .i64 kind0, .agg [.int .i64 a1.Kind, .int .i64 a1.N, aL cTreeTree a1.Kids], .agg [.int .i64 b2.Kind, .int .i64 b2.N, aL cTreeTree b2.Kids]] (.agg [.int .i64 r.Kind, .int .i64 r.N, aL cTreeTree r.Kids]) [] := by
  refine con_of (T := TT0) tt_ok Tryz.func67 (c := _) (by unfold Tryz.f67; rfl) Tryz.ntmps67 (rs := [.cell 6 30]) (by rw [Tryz.results67]) (by unfold Tryz.f67; rfl) (by simp) ?_
  simp only [argsCh]
  have F := True.intro
  dsimp only [reduce_join] at h
  refine rs0 ?_
  iterate 3 refine vp ?_
  refine vn ?_
  refine rs0 ?_
  iterate 4 refine vp ?_
  refine vn ?_
  refine Wp.seq ?_
  refine rs0 ?_
  iterate 3 refine vp ?_
  refine nl cTreeTree h F fun l4066 m F h => ?_
  try simp only [m]
  clear m
  iterate 2 refine vp ?_
  refine vn ?_
  refine Wp.block ?_
  refine lp [some 2, some 3, none] (fun x : Int × (List TreeTree) => { ch := [(0, .int .i64 kind0), (6, .hptr 0 0 0), (7, .hptr 1 0 0), (14, aL cTreeTree l4066), (15, .int .i64 (l4066.length : Int)), (16, .int .i64 x.1)], hp := [.var [.int .i64 0, .int .i64 0, .nilsl], .var [.int .i64 kind0, .int .i64 0, .sl 2 0 x.2.length], .arr 3 x.2.length (rw (x.2.map cTreeTree))], base := 0, n := 38, cond := True, gl := G0 }) (fun m x => reduce_join_L1 kind0 l4066 m x.1 x.2 = some r) n (0, []) h ?_
  rintro rec_n1 ⟨p4069, p4070⟩ h
  dsimp only [reduce_join_L1] at h
  try dsimp only
  refine rs0 ?_
  refine vp ?_
  refine vn ?_
  refine Wp.seq ?_
  refine sD h F (fun F h => ?_) fun F h => ?_
  refine cF ?_
  refine Wp.exit ?_
  refine sh ?_
  refine rs0 ?_
  iterate 2 refine vp ?_
  refine vn ?_
  cases h
  exact Wp.ret en0
  refine cT ?_
  refine Wp.skip ?_
  refine sh ?_
  refine Wp.seq ?_
  refine Wp.block ?_
  refine rs0 ?_
  refine eI h F fun x4074 F h => ?_
  iterate 4 refine vp ?_
  refine vn ?_
  refine rs0 ?_
  iterate 4 refine vp ?_
  refine vn ?_
  refine sB h F (fun F h => ?_) fun F h => ?_
  refine cF ?_
  refine rg (fun d => Nat.beq d 34) ?_
  iterate 4 refine vp ?_
  refine gd h F fun F h => ?_
  refine vp ?_
  refine nm cTreeTree h F fun l4076 F h => ?_
  iterate 2 refine vp ?_
  refine vn ?_
  refine sh ?_
  refine rg0 ?_
  iterate 2 refine vp ?_
  refine vn ?_
  exact nx [some 0, some 1, some 4] ((IntKind.i64.wrap (p4069 + 1)), l4076) h
  refine cT ?_
  refine rg (fun d => Nat.beq d 28) ?_
  iterate 4 refine vp ?_
  refine gd h F fun F h => ?_
  refine vp ?_
  refine nm cTreeTree h F fun l4075 F h => ?_
  iterate 2 refine vp ?_
  refine vn ?_
  refine sh ?_
  refine rg0 ?_
  iterate 2 refine vp ?_
  refine vn ?_
  exact nx [some 0, some 1, some 4] ((IntKind.i64.wrap (p4069 + 1)), l4075) h

theorem con_law14_weight (n : Nat) : ∀ {t0 : TreeTree} {deep1 : Int} {r : Int}, law14_weight n t0 deep1 = some r → Con Tryz.prog G0 44 [.agg [.int .i64 t0.Kind, .int .i64 t0.N, aL cTreeTree t0.Kids], .int .i64 deep1] (.int .i64 r) [] := by
  induction n with
  | zero => intro t0 deep1 r h; simp [law14_weight] at h
  | succ n Hslf_law14_weight =>
   intro t0 deep1 r h
   refine con_of (T := TT0) tt_ok Tryz.func44 (c := _) (by unfold Tryz.f44; rfl) Tryz.ntmps44 (rs := [.tmp 4]) (by rw [Tryz.results44]) (by unfold Tryz.f44; rfl) (by simp) ?_
   simp only [argsCh]
   have F := True.intro
   dsimp only [law14_weight] at h
   refine rs0 ?_
   iterate 2 refine vp ?_
   refine vn ?_
   refine Wp.seq ?_
   refine rs0 ?_
   iterate 2 refine vp ?_
   refine vn ?_
   refine sD h F (fun F h => ?_) fun F h => ?_
   refine cF ?_
   refine Wp.skip ?_
   refine sh ?_
   refine rs0 ?_
   refine vp ?_
   refine vn ?_
   refine Wp.seq ?_
   refine rs0 ?_
   iterate 4 refine vp ?_
   refine vn ?_
   refine Wp.block ?_
   refine lp [] (fun x : Int × Int => { ch := [(1, .int .i64 deep1), (5, .int .i64 x.2), (11, aL cTreeTree t0.Kids), (12, .int .i64 (t0.Kids.length : Int)), (13, .int .i64 x.1)], hp := [], base := 0, n := 27, cond := True, gl := G0 }) (fun m x => law14_weight_L1 t0 deep1 (law14_weight n) m x.1 x.2 = some r) n (0, 1) h ?_
   rintro rec_n1 ⟨p4, p5⟩ h
   dsimp only [law14_weight_L1] at h
   try dsimp only
   refine rs0 ?_
   refine vp ?_
   refine vn ?_
   refine Wp.seq ?_
   refine sD h F (fun F h => ?_) fun F h => ?_
   refine cF ?_
   refine Wp.exit ?_
   refine sh ?_
   refine rs0 ?_
   iterate 2 refine vp ?_
   refine vn ?_
   cases h
   exact Wp.ret en0
   refine cT ?_
   refine Wp.skip ?_
   refine sh ?_
   refine Wp.seq ?_
   refine Wp.block ?_
   refine rs0 ?_
   refine eI h F fun x9 F h => ?_
   iterate 4 refine vp ?_
   refine vn ?_
   refine rs0 ?_
   iterate 4 refine vp ?_
   obtain ⟨r11, hr10, h⟩ := obind h
   refine vc (Hslf_law14_weight hr10) ?_
   iterate 2 refine vp ?_
   refine vn ?_
   refine rs0 ?_
   iterate 2 refine vp ?_
   refine vn ?_
   refine sD h F (fun F h => ?_) fun F h => ?_
   refine cF ?_
   refine Wp.skip ?_
   refine sh ?_
   refine rg0 ?_
   iterate 2 refine vp ?_
   refine vn ?_
   exact nx [] ((IntKind.i64.wrap (p4 + 1)), (IntKind.i64.wrap (p5 + r11))) h
   refine cT ?_
   refine rs0 ?_
   refine vp ?_
   refine vn ?_
   cases h
   exact Wp.ret en0
   refine cT ?_
   refine rs0 ?_
   refine vp ?_
   refine vn ?_
   cases h
   exact Wp.ret en0

theorem con_slices_Index_string {n : Nat} {s0 : List Str} {v1 : Str} {r : Int} (h : slices_Index_string n s0 v1 = some r) : Con Tryz.prog G0 139 [aL cS s0, .str v1] (.int .i64 r) [] := by
  refine con_of (T := TT0) tt_ok Tryz.func139 (c := _) (by unfold Tryz.f139; rfl) Tryz.ntmps139 (rs := [.tmp 4]) (by rw [Tryz.results139]) (by unfold Tryz.f139; rfl) (by simp) ?_
  simp only [argsCh]
  have F := True.intro
  dsimp only [slices_Index_string] at h
  refine rs0 ?_
  refine vp ?_
  refine vn ?_
  refine Wp.seq ?_
  refine rs0 ?_
  iterate 3 refine vp ?_
  refine vn ?_
  refine Wp.block ?_
  refine lp [] (fun p3389 : Int => { ch := [(0, aL cS s0), (1, .str v1), (7, .int .i64 (s0.length : Int)), (8, .int .i64 p3389)], hp := [], base := 0, n := 19, cond := True, gl := G0 }) (fun m x => slices_Index_string_L1 s0 v1 m x = some r) n 0 h ?_
  rintro rec_n1 p3389 h
  dsimp only [slices_Index_string_L1] at h
  try dsimp only
  refine rs0 ?_
  refine vp ?_
  refine vn ?_
  refine Wp.seq ?_
  refine sD h F (fun F h => ?_) fun F h => ?_
  refine cF ?_
  refine Wp.exit ?_
  refine sh ?_
  refine rs0 ?_
  refine vp ?_
  refine vn ?_
  cases h
  exact Wp.ret en0
  refine cT ?_
  refine Wp.skip ?_
  refine sh ?_
  refine Wp.seq ?_
  refine Wp.block ?_
  refine rs0 ?_
  iterate 2 refine vp ?_
  refine vn ?_
  refine rs0 ?_
  iterate 3 refine vp ?_
  refine eI h F fun x3391 F h => ?_
  iterate 3 refine vp ?_
  refine vn ?_
  refine sE h F (fun _ F h => ?_) fun _ F h => ?_
  refine cF ?_
  refine Wp.skip ?_
  refine sh ?_
  refine rg0 ?_
  iterate 2 refine vp ?_
  refine vn ?_
  exact nx [] (IntKind.i64.wrap (p3389 + 1)) h
  refine cT ?_
  refine rs0 ?_
  iterate 2 refine vp ?_
  refine vn ?_
  cases h
  exact Wp.ret en0

theorem dec2_eq (i : Nat) (h : i < 100) : (⟨(Lib.decDigits i).toArray⟩ : Str) = dec2 i := by
  unfold dec2
  rw [Lib.decDigits]
  split
  · rfl
  · rw [Lib.decDigits, dif_pos (by omega : i / 10 < 10)]
    rfl
theorem con_strconv_Itoa {n : Nat} {i : Int} {r : Str} (h : strconv_Itoa n i = some r) : Con Tryz.prog G0 57 [.int .i64 i] (.str r) [] := by
  unfold strconv_Itoa at h
  split at h
  · rename_i hi
    cases h
    refine con_below ⟨_, Tryz.func57, rfl, by decide⟩ fun E w vals hh ha => ?_
    obtain ⟨x, rfl, hx⟩ := args_one ha
    cases hx.int'
    obtain ⟨k, rfl⟩ := Int.eq_ofNat_of_zero_le hi.1
    refine ⟨_, fun w' => .str _, (Tryz.strconv_Itoa_small k (by omega) w).mono fun e w' ⟨he, hw⟩ => ?_⟩
    subst hw
    rw [dec2_eq k (by omega)] at he
    exact ⟨he, Go.RowKit.Below.refl _ _, fun _ => Nat.le_refl _⟩
  · cases h

theorem con_graph_gather_2 {n : Nat} {n_0 : Str} {m1 : List (Str × Bool)} {r : Bool} (h : graph_gather_2 n n_0 m1 = some r) : ConH Tryz.prog G0 167 [.str n_0, .hptr 0 0 0] [.var [.mp 1], .map (mAV AV.str cB m1)] (.bool r) [.var [.mp 1], .map (mAV AV.str cB m1)] := by
  refine conH_of (T := TT0) tt_ok Tryz.func167 (c := _) (by unfold Tryz.f167; rfl) Tryz.ntmps167 (rs := [.tmp 3]) (by rw [Tryz.results167]) (by unfold Tryz.f167; rfl) (by simp) (k := 2) rfl rfl ?_
  try simp only [argsCh]
  have F := True.intro
  dsimp only [graph_gather_2] at h
  refine rs0 ?_
  refine vp ?_
  refine vn ?_
  refine rs0 ?_
  iterate 5 refine vp ?_
  refine vn ?_
  cases h
  exact Wp.ret (enH [some 0, some 1])

end Go.Proofs.YtaebdeidbibfkaaGreatDoor
