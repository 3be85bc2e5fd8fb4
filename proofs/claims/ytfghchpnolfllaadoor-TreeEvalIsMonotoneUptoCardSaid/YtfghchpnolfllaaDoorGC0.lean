/- Contracts: models of functions are right. No law is proved here. -/
import Derived.Test.YtfghchpnolfllaaDoorGMod
import Derived.Test.YtfghchpnolfllaaDoorTab
import Derived.Test.YtfghchpnolfllaaDoorSh
namespace Go.Proofs.YtfghchpnolfllaaDoor
open Go.Av Go.G
attribute [-simp] Int.natCast_tdiv_eq_ediv
attribute [local simp] runf guardA opf St.ev Go.Av.look St.setd constAV constAV0 opBin opLen intBin St.need lookT TT0 tab resA resOne resAll blt_dec ble_dec beq_dec isPure
attribute [local simp] opMakeSlice opCopy opIndexAddr opLoad opStore St.mem St.rows opUn calleeA toArgs toArg toArg0 toArgs0 shift shift0 shift1 splice cellsOf isFree ofCells TS.isAgg isCell strBin opConvert
attribute [local simp] opBuildSlice fillA opAppend eqC eqA cksB ckB St.newBox runI valKind withinB readsHp refsD refs noSl opFieldAddr opBuild opMax opMin placeOf Op.operands Call.operands opIndex opExtract opSlice opField partA
attribute [local simp] loA hiA lenA opMakeMap opLookup opMapUpdate keyOk findA_int findA_str putA_strB putA_strI putA_intB putA_intI mAV_length mAV_nil cA1 cA2 cA3 cA4 opNilCheck opMakeFunc opRange
attribute [local simp] aL cI cB cS cL rw_map fz_rw fz_const dropRow_rw fz_append fz_set fz_copy fz_rows rowLen_rw rowsLen_nil rowsLen_cons rowsLen_append rowsLen_map rowsLen_take rowsLen_drop rowsLen_replicate take_map_len take_map_le drop_map_len take_drop_len chunks isScalar isScalar0
attribute [local simp] putBack putAt objMap mapC mapA mapT map0 bid rid memB passed closedB argsH argH argH0 argsH0 objIds ids0 idsC isLocT isLocA isLocC isLoc0 LocObj
attribute [local congr] bind_congr1 map_congr1 cond_congr1
attribute [local simp] cTreeTree_eq TreeTree_Kind_mk TreeTree_N_mk TreeTree_Kids_mk eta_TreeTree cRef14Tree_eq Ref14Tree_Kind_mk Ref14Tree_N_mk Ref14Tree_Kids_mk eta_Ref14Tree
set_option maxHeartbeats 4000000
set_option maxRecDepth 20000
set_option linter.unusedSimpArgs false
set_option linter.unusedVariables false

theorem con_tree_Tree_depth (n : Nat) : ∀ {t0 : TreeTree} {edge1 : List Bool} {r : Int}, tree_Tree_depth n t0 edge1 = some r → Con Tryd.prog G0 28 [.agg [.int .i64 t0.Kind, .int .i64 t0.N, aL cTreeTree t0.Kids], aL cB edge1] (.int .i64 r) [] := by
  induction n with
  | zero => intro t0 edge1 r h; simp [tree_Tree_depth] at h
  | succ n Hslf_tree_Tree_depth =>
   intro t0 edge1 r h
   refine con_of (T := TT0) tt_ok Tryd.func28 (c := _) (by unfold Tryd.f28; rfl) Tryd.ntmps28 (rs := [.tmp 4]) (by rw [Tryd.results28]) (by unfold Tryd.f28; rfl) (by simp) ?_
   simp only [argsCh]
   have F := True.intro
   dsimp only [tree_Tree_depth] at h
   refine rs0 ?_
   iterate 2 refine vp ?_
   refine vn ?_
   refine rs0 ?_
   refine vp ?_
   refine vn ?_
   refine Wp.seq ?_
   refine rs0 ?_
   iterate 4 refine vp ?_
   refine vn ?_
   refine Wp.block ?_
   refine lp [] (fun x : Int × Int => { ch := [(1, aL cB edge1), (5, .int .i64 x.2), (9, aL cTreeTree t0.Kids), (10, .int .i64 (t0.Kids.length : Int)), (11, .int .i64 x.1)], hp := [], base := 0, n := 41, cond := True, gl := G0 }) (fun m x => tree_Tree_depth_L1 t0 edge1 (tree_Tree_depth n) m x.1 x.2 = some r) n (0, 0) h ?_
   rintro rec_n1 ⟨p356, p357⟩ h
   dsimp only [tree_Tree_depth_L1] at h
   try dsimp only
   refine rs0 ?_
   refine vp ?_
   refine vn ?_
   refine Wp.seq ?_
   refine sD h F (fun F h => ?_) fun F h => ?_
   refine cF ?_
   refine Wp.exit ?_
   refine sh ?_
   refine rs0 ?_
   iterate 2 refine vp ?_
   refine vn ?_
   cases h
   exact Wp.ret en0
   refine cT ?_
   refine Wp.skip ?_
   refine sh ?_
   refine Wp.seq ?_
   refine Wp.block ?_
   refine rs0 ?_
   refine vp ?_
   refine eI h F fun x366 F h => ?_
   iterate 5 refine vp ?_
   refine vn ?_
   refine Wp.block ?_
   refine rs0 ?_
   iterate 3 refine vp ?_
   refine vn ?_
   refine sB h F (fun F h => ?_) fun F h => ?_
   refine cF ?_
   refine rs0 ?_
   iterate 4 refine vp ?_
   refine sB h F (fun F h => ?_) fun F h => ?_
   refine vg ?_
   refine vg ?_
   refine vg ?_
   refine eI h F fun x371 F h => ?_
   refine vg ?_
   refine vg ?_
   iterate 2 refine vp ?_
   refine vn ?_
   refine sB h F (fun F h => ?_) fun F h => ?_
   refine cF ?_
   refine Wp.skip ?_
   refine sh ?_
   refine rg0 ?_
   iterate 2 refine vp ?_
   refine vn ?_
   exact nx [] ((IntKind.i64.wrap (p356 + 1)), p357) h
   refine cT ?_
   refine rg0 ?_
   iterate 3 refine vp ?_
   obtain ⟨r373, hr372, h⟩ := obind h
   refine vc (Hslf_tree_Tree_depth hr372) ?_
   iterate 3 refine vp ?_
   refine vn ?_
   refine sh ?_
   refine rg0 ?_
   iterate 2 refine vp ?_
   refine vn ?_
   exact nx [] ((IntKind.i64.wrap (p356 + 1)), (imax p357 (IntKind.i64.wrap (1 + r373)))) h
   refine vs ?_
   refine vs ?_
   refine vs ?_
   refine vs ?_
   refine vs ?_
   iterate 2 refine vp ?_
   refine vn ?_
   refine cT ?_
   refine rg0 ?_
   iterate 3 refine vp ?_
   obtain ⟨r370, hr369, h⟩ := obind h
   refine vc (Hslf_tree_Tree_depth hr369) ?_
   iterate 3 refine vp ?_
   refine vn ?_
   refine sh ?_
   refine rg0 ?_
   iterate 2 refine vp ?_
   refine vn ?_
   exact nx [] ((IntKind.i64.wrap (p356 + 1)), (imax p357 (IntKind.i64.wrap (1 + r370)))) h
   refine cT ?_
   refine rg0 ?_
   iterate 2 refine vp ?_
   obtain ⟨r368, hr367, h⟩ := obind h
   refine vc (Hslf_tree_Tree_depth hr367) ?_
   refine vp ?_
   refine vn ?_
   refine sh ?_
   refine rg0 ?_
   iterate 2 refine vp ?_
   refine vn ?_
   exact nx [] ((IntKind.i64.wrap (p356 + 1)), r368) h

theorem con_law14_weight (n : Nat) : ∀ {t0 : TreeTree} {deep1 : Int} {r : Int}, law14_weight n t0 deep1 = some r → Con Tryd.prog G0 24 [.agg [.int .i64 t0.Kind, .int .i64 t0.N, aL cTreeTree t0.Kids], .int .i64 deep1] (.int .i64 r) [] := by
  induction n with
  | zero => intro t0 deep1 r h; simp [law14_weight] at h
  | succ n Hslf_law14_weight =>
   intro t0 deep1 r h
   refine con_of (T := TT0) tt_ok Tryd.func24 (c := _) (by unfold Tryd.f24; rfl) Tryd.ntmps24 (rs := [.tmp 4]) (by rw [Tryd.results24]) (by unfold Tryd.f24; rfl) (by simp) ?_
   simp only [argsCh]
   have F := True.intro
   dsimp only [law14_weight] at h
   refine rs0 ?_
   iterate 2 refine vp ?_
   refine vn ?_
   refine Wp.seq ?_
   refine rs0 ?_
   iterate 2 refine vp ?_
   refine vn ?_
   refine sD h F (fun F h => ?_) fun F h => ?_
   refine cF ?_
   refine Wp.skip ?_
   refine sh ?_
   refine rs0 ?_
   refine vp ?_
   refine vn ?_
   refine Wp.seq ?_
   refine rs0 ?_
   iterate 4 refine vp ?_
   refine vn ?_
   refine Wp.block ?_
   refine lp [] (fun x : Int × Int => { ch := [(1, .int .i64 deep1), (5, .int .i64 x.2), (11, aL cTreeTree t0.Kids), (12, .int .i64 (t0.Kids.length : Int)), (13, .int .i64 x.1)], hp := [], base := 0, n := 27, cond := True, gl := G0 }) (fun m x => law14_weight_L1 t0 deep1 (law14_weight n) m x.1 x.2 = some r) n (0, 1) h ?_
   rintro rec_n1 ⟨p4, p5⟩ h
   dsimp only [law14_weight_L1] at h
   try dsimp only
   refine rs0 ?_
   refine vp ?_
   refine vn ?_
   refine Wp.seq ?_
   refine sD h F (fun F h => ?_) fun F h => ?_
   refine cF ?_
   refine Wp.exit ?_
   refine sh ?_
   refine rs0 ?_
   iterate 2 refine vp ?_
   refine vn ?_
   cases h
   exact Wp.ret en0
   refine cT ?_
   refine Wp.skip ?_
   refine sh ?_
   refine Wp.seq ?_
   refine Wp.block ?_
   refine rs0 ?_
   refine eI h F fun x9 F h => ?_
   iterate 4 refine vp ?_
   refine vn ?_
   refine rs0 ?_
   iterate 4 refine vp ?_
   obtain ⟨r11, hr10, h⟩ := obind h
   refine vc (Hslf_law14_weight hr10) ?_
   iterate 2 refine vp ?_
   refine vn ?_
   refine rs0 ?_
   iterate 2 refine vp ?_
   refine vn ?_
   refine sD h F (fun F h => ?_) fun F h => ?_
   refine cF ?_
   refine Wp.skip ?_
   refine sh ?_
   refine rg0 ?_
   iterate 2 refine vp ?_
   refine vn ?_
   exact nx [] ((IntKind.i64.wrap (p4 + 1)), (IntKind.i64.wrap (p5 + r11))) h
   refine cT ?_
   refine rs0 ?_
   refine vp ?_
   refine vn ?_
   cases h
   exact Wp.ret en0
   refine cT ?_
   refine rs0 ?_
   refine vp ?_
   refine vn ?_
   cases h
   exact Wp.ret en0

theorem con_law14_example {n : Nat} {r : TreeTree} (h : law14_example n  = some r) : Con Tryd.prog G0 25 [] (.agg [.int .i64 r.Kind, .int .i64 r.N, aL cTreeTree r.Kids]) [] := by
  refine con_of (T := TT0) tt_ok Tryd.func25 (c := _) (by unfold Tryd.f25; rfl) Tryd.ntmps25 (rs := [.cell 0 24]) (by rw [Tryd.results25]) (by unfold Tryd.f25; rfl) (by simp) ?_
  simp only [argsCh]
  have F := True.intro
  dsimp only [law14_example] at h
  refine rs0 ?_
  refine vp ?_
  refine vn ?_
  refine rs0 ?_
  iterate 3 refine vp ?_
  refine vl [some 0] { ch := [(0, .hptr 0 0 0), (1, .agg [.int .i64 0, .int .i64 0, aL cTreeTree ([] : List TreeTree)]), (2, .agg [.int .i64 0, .int .i64 1, aL cTreeTree ([] : List TreeTree)]), (3, .agg [.int .i64 0, .int .i64 2, aL cTreeTree ([] : List TreeTree)])], hp := [.var [.int .i64 0, .int .i64 0, .nilsl]], base := 0, n := 9, cond := True, gl := G0 } ?_
  refine vp ?_
  refine nl cTreeTree h F fun l181 m F h => ?_
  try simp only [m]
  clear m
  iterate 2 refine vp ?_
  refine vl [some 0] { ch := [(0, .hptr 0 0 0), (1, .agg [.int .i64 0, .int .i64 0, aL cTreeTree ([] : List TreeTree)]), (2, .agg [.int .i64 0, .int .i64 1, aL cTreeTree ([] : List TreeTree)]), (3, .agg [.int .i64 0, .int .i64 2, aL cTreeTree ([] : List TreeTree)]), (4, aL cTreeTree l181), (5, .agg [.int .i64 2, .int .i64 0, aL cTreeTree l181]), (6, .agg [.int .i64 0, .int .i64 3, aL cTreeTree ([] : List TreeTree)])], hp := [.var [.int .i64 0, .int .i64 0, .nilsl]], base := 0, n := 9, cond := True, gl := G0 } ?_
  refine vp ?_
  refine nl cTreeTree h F fun l182 m F h => ?_
  try simp only [m]
  clear m
  iterate 2 refine vp ?_
  refine vn ?_
  cases h
  exact Wp.ret en0

theorem con_tree_Tree_eval_1 {slf_tree_Tree_eval : TreeTree → (List Bool) → Option (Bool)} (Hslf_tree_Tree_eval : ∀ {t0 : TreeTree} {on1 : List Bool} {r : Bool}, slf_tree_Tree_eval t0 on1 = some r → Con Tryd.prog G0 27 [.agg [.int .i64 t0.Kind, .int .i64 t0.N, aL cTreeTree t0.Kids], aL cB on1] (.bool r) []) {n : Nat} {k0 : TreeTree} {b0 : List Bool} {r : Bool} (h : tree_Tree_eval_1 slf_tree_Tree_eval n k0 b0 = some r) : ConH Tryd.prog G0 34 [.agg [.int .i64 k0.Kind, .int .i64 k0.N, aL cTreeTree k0.Kids], .hptr 0 0 0] [.var [aL cB b0]] (.bool r) [.var [aL cB b0]] := by
  refine conH_of (T := TT0) tt_ok Tryd.func34 (c := _) (by unfold Tryd.f34; rfl) Tryd.ntmps34 (rs := [.tmp 3]) (by rw [Tryd.results34]) (by unfold Tryd.f34; rfl) (by simp) (k := 1) rfl rfl ?_
  try simp only [argsCh]
  have F := True.intro
  dsimp only [tree_Tree_eval_1] at h
  refine rs0 ?_
  iterate 2 refine vp ?_
  refine vn ?_
  refine rs0 ?_
  iterate 2 refine vp ?_
  obtain ⟨r275, hr274, h⟩ := obind h
  refine vc (Hslf_tree_Tree_eval hr274) ?_
  refine vp ?_
  refine vn ?_
  cases h
  exact Wp.ret (enH [some 0])

theorem dec2_eq (i : Nat) (h : i < 100) : (⟨(Lib.decDigits i).toArray⟩ : Str) = dec2 i := by
  unfold dec2
  rw [Lib.decDigits]
  split
  · rfl
  · rw [Lib.decDigits, dif_pos (by omega : i / 10 < 10)]
    rfl
theorem con_strconv_Itoa {n : Nat} {i : Int} {r : Str} (h : strconv_Itoa n i = some r) : Con Tryd.prog G0 32 [.int .i64 i] (.str r) [] := by
  unfold strconv_Itoa at h
  split at h
  · rename_i hi
    cases h
    refine con_below ⟨_, Tryd.func32, rfl, by decide⟩ fun E w vals hh ha => ?_
    obtain ⟨x, rfl, hx⟩ := args_one ha
    cases hx.int'
    obtain ⟨k, rfl⟩ := Int.eq_ofNat_of_zero_le hi.1
    refine ⟨_, fun w' => .str _, (Tryd.strconv_Itoa_small k (by omega) w).mono fun e w' ⟨he, hw⟩ => ?_⟩
    subst hw
    rw [dec2_eq k (by omega)] at he
    exact ⟨he, Go.RowKit.Below.refl _ _⟩
  · cases h

theorem con_tree_Tree_check_1 {n : Nat} {k0 : TreeTree} {b0 : TreeTree} {r : Bool} (h : tree_Tree_check_1 n k0 b0 = some r) : ConH Tryd.prog G0 37 [.agg [.int .i64 k0.Kind, .int .i64 k0.N, aL cTreeTree k0.Kids], .hptr 0 0 0] [.var [.int .i64 b0.Kind, .int .i64 b0.N, aL cTreeTree b0.Kids]] (.bool r) [.var [.int .i64 b0.Kind, .int .i64 b0.N, aL cTreeTree b0.Kids]] := by
  refine conH_of (T := TT0) tt_ok Tryd.func37 (c := _) (by unfold Tryd.f37; rfl) Tryd.ntmps37 (rs := [.tmp 3]) (by rw [Tryd.results37]) (by unfold Tryd.f37; rfl) (by simp) (k := 1) rfl rfl ?_
  try simp only [argsCh]
  have F := True.intro
  dsimp only [tree_Tree_check_1] at h
  refine rs0 ?_
  iterate 2 refine vp ?_
  refine vn ?_
  refine rs0 ?_
  iterate 6 refine vp ?_
  refine vn ?_
  cases h
  exact Wp.ret (enH [some 0])

theorem con_strings_Join {n : Nat} {l : List Str} {sep : Str} {r : Str} (h : strings_Join n l sep = some r) : Con Tryd.prog G0 33 [aL cS l, .str sep] (.str r) [] := by
  unfold strings_Join at h
  split at h
  · rename_i hi
    cases h
    refine con_below ⟨_, Tryd.func33, rfl, by decide⟩ fun E w vals hh ha => ?_
    obtain ⟨x, y, rfl, hx, hy⟩ := args_two ha
    cases hy.str'
    rcases rep_strs hh hx with ⟨rfl, a, c, rfl⟩ | ⟨b, o, c, rfl, hb, hc, hcells⟩
    · refine ⟨_, fun w' => .str _, (Tryd.strings_Join_none a c sep w).mono fun e w' ⟨he, hw⟩ => ?_⟩
      subst hw
      exact ⟨he, Go.RowKit.Below.refl _ _⟩
    · exact ⟨_, fun w' => .str _, Tryd.strings_Join b o c l sep w hcells hb hi.1 hc (by simpa [joinS, Lib.join, ByteArray.size] using hi.2)⟩
  · cases h

end Go.Proofs.YtfghchpnolfllaaDoor
