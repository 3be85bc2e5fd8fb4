/- Contracts: models of functions are right. No law is proved here. -/
import Derived.Test.YtfghchpnolfllaaDoorGMod
import Derived.Test.YtfghchpnolfllaaDoorTab
import Derived.Test.YtfghchpnolfllaaDoorSh
namespace Go.Proofs.YtfghchpnolfllaaDoor
open Go.Av Go.G
attribute [-simp] Int.natCast_tdiv_eq_ediv
attribute [local simp] runf guardA opf St.ev Go.Av.look St.setd constAV constAV0 opBin opLen intBin St.need lookT TT0 tab resA resOne resAll blt_dec ble_dec beq_dec isPure
attribute [local simp] opMakeSlice opCopy opIndexAddr opLoad opStore St.mem St.rows opUn calleeA toArgs toArg toArg0 toArgs0 shift shift0 shift1 splice cellsOf isFree ofCells TS.isAgg isCell strBin opConvert
attribute [local simp] opBuildSlice fillA opAppend eqC eqA cksB ckB St.newBox runI valKind withinB readsHp refsD refs noSl opFieldAddr opBuild opMax opMin placeOf Op.operands Call.operands opIndex opExtract opSlice opField partA
attribute [local simp] loA hiA lenA opMakeMap opLookup opMapUpdate keyOk findA_int findA_str putA_strB putA_strI putA_intB putA_intI mAV_length mAV_nil cA1 cA2 cA3 cA4 opNilCheck opMakeFunc opRange
attribute [local simp] aL cI cB cS cL rw_map fz_rw fz_const dropRow_rw fz_append fz_set fz_copy fz_rows rowLen_rw rowsLen_nil rowsLen_cons rowsLen_append rowsLen_map rowsLen_take rowsLen_drop rowsLen_replicate take_map_len take_map_le drop_map_len take_drop_len chunks isScalar isScalar0
attribute [local simp] putBack putAt objMap mapC mapA mapT map0 bid rid memB passed closedB argsH argH argH0 argsH0 objIds ids0 idsC isLocT isLocA isLocC isLoc0 LocObj
attribute [local congr] bind_congr1 map_congr1 cond_congr1
attribute [local simp] cTreeTree_eq TreeTree_Kind_mk TreeTree_N_mk TreeTree_Kids_mk eta_TreeTree cRef14Tree_eq Ref14Tree_Kind_mk Ref14Tree_N_mk Ref14Tree_Kids_mk eta_Ref14Tree
set_option maxHeartbeats 4000000
set_option maxRecDepth 20000
set_option linter.unusedSimpArgs false
set_option linter.unusedVariables false

theorem con_ref14_Equal (n : Nat) : ∀ {a0 : Ref14Tree} {b1 : Ref14Tree} {r : Bool}, ref14_Equal n a0 b1 = some r → Con Tryd.prog G0 23 [.agg [.int .i64 a0.Kind, .int .i64 a0.N, aL cRef14Tree a0.Kids], .agg [.int .i64 b1.Kind, .int .i64 b1.N, aL cRef14Tree b1.Kids]] (.bool r) [] := by
  induction n with
  | zero => intro a0 b1 r h; simp [ref14_Equal] at h
  | succ n Hslf_ref14_Equal =>
   intro a0 b1 r h
   refine con_of (T := TT0) tt_ok Tryd.func23 (c := _) (by unfold Tryd.f23; rfl) Tryd.ntmps23 (rs := [.tmp 4]) (by rw [Tryd.results23]) (by unfold Tryd.f23; rfl) (by simp) ?_
   simp only [argsCh]
   have F := True.intro
   dsimp only [ref14_Equal] at h
   refine rs0 ?_
   iterate 3 refine vp ?_
   refine vn ?_
   refine Wp.seq ?_
   refine rs0 ?_
   iterate 6 refine vp ?_
   refine sB h F (fun F h => ?_) fun F h => ?_
   refine vg ?_
   refine vg ?_
   refine vg ?_
   refine vg ?_
   refine vg ?_
   iterate 2 refine vp ?_
   refine sB h F (fun F h => ?_) fun F h => ?_
   refine vg ?_
   refine vg ?_
   refine vg ?_
   refine vg ?_
   refine vg ?_
   refine vg ?_
   refine vg ?_
   refine vp ?_
   refine vn ?_
   refine sB h F (fun F h => ?_) fun F h => ?_
   refine cF ?_
   refine Wp.skip ?_
   refine sh ?_
   refine Wp.seq ?_
   refine rs0 ?_
   refine vp ?_
   refine vn ?_
   refine Wp.block ?_
   refine lp [some 0, some 1] (fun p1282 : Int => { ch := [(2, .hptr 0 0 0), (3, .hptr 1 0 0), (5, .int .i64 p1282)], hp := [.var [.int .i64 a0.Kind, .int .i64 a0.N, aL cRef14Tree a0.Kids], .var [.int .i64 b1.Kind, .int .i64 b1.N, aL cRef14Tree b1.Kids]], base := 0, n := 46, cond := True, gl := G0 }) (fun m x => ref14_Equal_L1 a0 b1 (ref14_Equal n) m x = some r) n 0 h ?_
   rintro rec_n1 p1282 h
   dsimp only [ref14_Equal_L1] at h
   try dsimp only
   refine Wp.seq ?_
   refine rs0 ?_
   iterate 5 refine vp ?_
   refine vn ?_
   refine sD h F (fun F h => ?_) fun F h => ?_
   refine cF ?_
   refine Wp.exit ?_
   refine sh ?_
   refine rs0 ?_
   refine vp ?_
   refine vn ?_
   cases h
   exact Wp.ret en0
   refine cT ?_
   refine Wp.skip ?_
   refine sh ?_
   refine Wp.seq ?_
   refine Wp.block ?_
   refine dw (fun _ => false) [0, 1] ?_
   refine du 3 ?_
   refine eI h F fun x1287 F h => ?_
   refine du 5 ?_
   refine eI h F fun x1288 F h => ?_
   refine du 2 ?_
   obtain ⟨r1290, hr1289, h⟩ := obind h
   refine dc (Hslf_ref14_Equal hr1289) ?_
   refine du 1 ?_
   refine dn ?_
   refine sB h F (fun F h => ?_) fun F h => ?_
   refine cF ?_
   refine Wp.skip ?_
   refine sh ?_
   refine rg0 ?_
   iterate 3 refine vp ?_
   refine vn ?_
   exact nx [some 0, some 1] (IntKind.i64.wrap (p1282 + 1)) h
   refine cT ?_
   refine rs0 ?_
   refine vp ?_
   refine vn ?_
   cases h
   exact Wp.ret en0
   refine cT ?_
   refine rs0 ?_
   refine vp ?_
   refine vn ?_
   cases h
   exact Wp.ret en0
   refine vs ?_
   refine vs ?_
   refine vs ?_
   refine vs ?_
   refine vs ?_
   refine vs ?_
   refine vs ?_
   refine vp ?_
   refine vn ?_
   refine cT ?_
   refine rs0 ?_
   refine vp ?_
   refine vn ?_
   cases h
   exact Wp.ret en0
   refine vs ?_
   refine vs ?_
   refine vs ?_
   refine vs ?_
   refine vs ?_
   iterate 2 refine vp ?_
   refine vs ?_
   refine vs ?_
   refine vs ?_
   refine vs ?_
   refine vs ?_
   refine vs ?_
   refine vs ?_
   refine vp ?_
   refine vn ?_
   refine cT ?_
   refine rs0 ?_
   refine vp ?_
   refine vn ?_
   cases h
   exact Wp.ret en0

theorem con_tree_Leaves (n : Nat) : ∀ {t0 : TreeTree} {r : (List Int)}, tree_Leaves n t0 = some r → Con Tryd.prog G0 20 [.agg [.int .i64 t0.Kind, .int .i64 t0.N, aL cTreeTree t0.Kids]] (aL (cI .i64) r) [] := by
  induction n with
  | zero => intro t0 r h; simp [tree_Leaves] at h
  | succ n Hslf_tree_Leaves =>
   intro t0 r h
   refine con_of (T := TT0) tt_ok Tryd.func20 (c := _) (by unfold Tryd.f20; rfl) Tryd.ntmps20 (rs := [.tmp 2]) (by rw [Tryd.results20]) (by unfold Tryd.f20; rfl) (by simp) ?_
   simp only [argsCh]
   have F := True.intro
   dsimp only [tree_Leaves] at h
   refine rs0 ?_
   iterate 2 refine vp ?_
   refine vn ?_
   refine Wp.seq ?_
   refine rs0 ?_
   iterate 2 refine vp ?_
   refine vn ?_
   refine Wp.block ?_
   refine rs0 ?_
   iterate 2 refine vp ?_
   refine vn ?_
   refine sB h F (fun F h => ?_) fun F h => ?_
   refine cF ?_
   refine jn (fun p1209 : Bool => { ch := [(1, .hptr 0 0 0), (13, .bool p1209)], hp := [.var [.int .i64 t0.Kind, .int .i64 t0.N, aL cTreeTree t0.Kids]], base := 0, n := 29, cond := True, gl := G0 }) (fun x => tree_Leaves_J1 n t0 (tree_Leaves n) x = some r) ?_ ?_
   clear h
   rintro p1209 h
   dsimp only [tree_Leaves_J1] at h
   try dsimp only
   refine sB h F (fun F h => ?_) fun F h => ?_
   refine cF ?_
   refine Wp.skip ?_
   refine sh ?_
   refine rs0 ?_
   refine vp ?_
   refine vn ?_
   cases h
   exact Wp.ret en0
   refine cT ?_
   refine rs0 ?_
   refine vp ?_
   refine vn ?_
   refine Wp.seq ?_
   refine rs0 ?_
   iterate 4 refine vp ?_
   refine vn ?_
   refine Wp.block ?_
   refine lp [none] (fun x : Int × (List Int) => { ch := [(3, .sl 0 0 x.2.length), (17, aL cTreeTree t0.Kids), (18, .int .i64 (t0.Kids.length : Int)), (19, .int .i64 x.1)], hp := [.arr 1 x.2.length (rw (x.2.map (cI .i64)))], base := 0, n := 29, cond := True, gl := G0 }) (fun m x => tree_Leaves_L2 t0 (tree_Leaves n) m x.1 x.2 = some r) n (0, []) h ?_
   rintro rec_n2 ⟨p1213, p1214⟩ h
   dsimp only [tree_Leaves_L2] at h
   try dsimp only
   refine rs0 ?_
   refine vp ?_
   refine vn ?_
   refine Wp.seq ?_
   refine sD h F (fun F h => ?_) fun F h => ?_
   refine cF ?_
   refine Wp.exit ?_
   refine sh ?_
   refine rs0 ?_
   iterate 2 refine vp ?_
   refine vn ?_
   cases h
   exact Wp.ret en0
   refine cT ?_
   refine Wp.skip ?_
   refine sh ?_
   refine Wp.seq ?_
   refine Wp.block ?_
   refine rs0 ?_
   refine eI h F fun x1219 F h => ?_
   iterate 4 refine vp ?_
   refine vn ?_
   refine rg (fun d => Nat.beq d 26) ?_
   iterate 2 refine vp ?_
   obtain ⟨r1221, hr1220, h⟩ := obind h
   refine vc (Hslf_tree_Leaves hr1220) ?_
   refine gd h F fun F h => ?_
   refine vp ?_
   refine nm (cI .i64) h F fun l1222 F h => ?_
   refine vp ?_
   refine vn ?_
   refine sh ?_
   refine rg0 ?_
   iterate 2 refine vp ?_
   refine vn ?_
   exact nx [some 2] ((IntKind.i64.wrap (p1213 + 1)), l1222) h
   refine rs0 ?_
   iterate 2 refine vp ?_
   refine vn ?_
   refine sB h F (fun F h => ?_) fun F h => ?_
   refine cF ?_
   refine rg0 ?_
   iterate 2 refine vp ?_
   refine vn ?_
   exact nx [some 0] (t0.Kind == 2) h
   refine cT ?_
   refine Wp.skip ?_
   exact nx [some 0] (t0.Kind == 1) h
   refine cT ?_
   refine rs0 ?_
   iterate 3 refine vp ?_
   refine nl (cI .i64) h F fun l1208 m F h => ?_
   try simp only [m]
   clear m
   refine vp ?_
   refine vn ?_
   cases h
   exact Wp.ret en0

theorem con_slices_EqualFunc_tree_Tree_c22 {slf_tree_Equal : TreeTree → TreeTree → Option (Bool)} (Hslf_tree_Equal : ∀ {a0 : TreeTree} {b1 : TreeTree} {r : Bool}, slf_tree_Equal a0 b1 = some r → Con Tryd.prog G0 22 [.agg [.int .i64 a0.Kind, .int .i64 a0.N, aL cTreeTree a0.Kids], .agg [.int .i64 b1.Kind, .int .i64 b1.N, aL cTreeTree b1.Kids]] (.bool r) []) {n : Nat} {s10 : List TreeTree} {s21 : List TreeTree} {r : Bool} (h : slices_EqualFunc_tree_Tree_c22 slf_tree_Equal n s10 s21 = some r) : Con Tryd.prog G0 31 [aL cTreeTree s10, aL cTreeTree s21, .clos 22 [] []] (.bool r) [] := by
  refine con_of (T := TT0) tt_ok Tryd.func31 (c := _) (by unfold Tryd.f31; rfl) Tryd.ntmps31 (rs := [.tmp 6]) (by rw [Tryd.results31]) (by unfold Tryd.f31; rfl) (by simp) ?_
  simp only [argsCh]
  have F := True.intro
  dsimp only [slices_EqualFunc_tree_Tree_c22] at h
  refine rs0 ?_
  refine vp ?_
  refine vn ?_
  refine Wp.seq ?_
  refine rs0 ?_
  iterate 5 refine vp ?_
  refine vn ?_
  refine sB h F (fun F h => ?_) fun F h => ?_
  refine cF ?_
  refine Wp.skip ?_
  refine sh ?_
  refine Wp.seq ?_
  refine rs0 ?_
  iterate 3 refine vp ?_
  refine vn ?_
  refine Wp.block ?_
  refine lp [] (fun p1265 : Int => { ch := [(1, aL cTreeTree s21), (2, .clos 22 [] []), (15, aL cTreeTree s10), (16, .int .i64 (s10.length : Int)), (17, .int .i64 p1265)], hp := [], base := 0, n := 32, cond := True, gl := G0 }) (fun m x => slices_EqualFunc_tree_Tree_c22_L1 s10 s21 slf_tree_Equal m x = some r) n 0 h ?_
  rintro rec_n1 p1265 h
  dsimp only [slices_EqualFunc_tree_Tree_c22_L1] at h
  try dsimp only
  refine rs0 ?_
  refine vp ?_
  refine vn ?_
  refine Wp.seq ?_
  refine sD h F (fun F h => ?_) fun F h => ?_
  refine cF ?_
  refine Wp.exit ?_
  refine sh ?_
  refine rs0 ?_
  refine vp ?_
  refine vn ?_
  cases h
  exact Wp.ret en0
  refine cT ?_
  refine Wp.skip ?_
  refine sh ?_
  refine Wp.seq ?_
  refine Wp.block ?_
  refine rs0 ?_
  refine vp ?_
  refine eI h F fun x1270 F h => ?_
  iterate 5 refine vp ?_
  refine vn ?_
  refine rs0 ?_
  iterate 2 refine vp ?_
  refine eI h F fun x1271 F h => ?_
  iterate 4 refine vp ?_
  refine vn ?_
  refine rs0 ?_
  iterate 3 refine vp ?_
  obtain ⟨r1273, hr1272, h⟩ := obind h
  refine vc (Hslf_tree_Equal hr1272) ?_
  refine vp ?_
  refine vn ?_
  refine sB h F (fun F h => ?_) fun F h => ?_
  refine cF ?_
  refine Wp.skip ?_
  refine sh ?_
  refine rg0 ?_
  iterate 2 refine vp ?_
  refine vn ?_
  exact nx [] (IntKind.i64.wrap (p1265 + 1)) h
  refine cT ?_
  refine rs0 ?_
  refine vp ?_
  refine vn ?_
  cases h
  exact Wp.ret en0
  refine cT ?_
  refine rs0 ?_
  refine vp ?_
  refine vn ?_
  cases h
  exact Wp.ret en0

theorem con_law14_example {n : Nat} {r : TreeTree} (h : law14_example n  = some r) : Con Tryd.prog G0 25 [] (.agg [.int .i64 r.Kind, .int .i64 r.N, aL cTreeTree r.Kids]) [] := by
  refine con_of (T := TT0) tt_ok Tryd.func25 (c := _) (by unfold Tryd.f25; rfl) Tryd.ntmps25 (rs := [.cell 0 24]) (by rw [Tryd.results25]) (by unfold Tryd.f25; rfl) (by simp) ?_
  simp only [argsCh]
  have F := True.intro
  dsimp only [law14_example] at h
  refine rs0 ?_
  refine vp ?_
  refine vn ?_
  refine rs0 ?_
  iterate 3 refine vp ?_
  refine vl [some 0] { ch := [(0, .hptr 0 0 0), (1, .agg [.int .i64 0, .int .i64 0, aL cTreeTree ([] : List TreeTree)]), (2, .agg [.int .i64 0, .int .i64 1, aL cTreeTree ([] : List TreeTree)]), (3, .agg [.int .i64 0, .int .i64 2, aL cTreeTree ([] : List TreeTree)])], hp := [.var [.int .i64 0, .int .i64 0, .nilsl]], base := 0, n := 9, cond := True, gl := G0 } ?_
  refine vp ?_
  refine nl cTreeTree h F fun l181 m F h => ?_
  try simp only [m]
  clear m
  iterate 2 refine vp ?_
  refine vl [some 0] { ch := [(0, .hptr 0 0 0), (1, .agg [.int .i64 0, .int .i64 0, aL cTreeTree ([] : List TreeTree)]), (2, .agg [.int .i64 0, .int .i64 1, aL cTreeTree ([] : List TreeTree)]), (3, .agg [.int .i64 0, .int .i64 2, aL cTreeTree ([] : List TreeTree)]), (4, aL cTreeTree l181), (5, .agg [.int .i64 2, .int .i64 0, aL cTreeTree l181]), (6, .agg [.int .i64 0, .int .i64 3, aL cTreeTree ([] : List TreeTree)])], hp := [.var [.int .i64 0, .int .i64 0, .nilsl]], base := 0, n := 9, cond := True, gl := G0 } ?_
  refine vp ?_
  refine nl cTreeTree h F fun l182 m F h => ?_
  try simp only [m]
  clear m
  iterate 2 refine vp ?_
  refine vn ?_
  cases h
  exact Wp.ret en0

theorem dec2_eq (i : Nat) (h : i < 100) : (⟨(Lib.decDigits i).toArray⟩ : Str) = dec2 i := by
  unfold dec2
  rw [Lib.decDigits]
  split
  · rfl
  · rw [Lib.decDigits, dif_pos (by omega : i / 10 < 10)]
    rfl
theorem con_strconv_Itoa {n : Nat} {i : Int} {r : Str} (h : strconv_Itoa n i = some r) : Con Tryd.prog G0 32 [.int .i64 i] (.str r) [] := by
  unfold strconv_Itoa at h
  split at h
  · rename_i hi
    cases h
    refine con_below ⟨_, Tryd.func32, rfl, by decide⟩ fun E w vals hh ha => ?_
    obtain ⟨x, rfl, hx⟩ := args_one ha
    cases hx.int'
    obtain ⟨k, rfl⟩ := Int.eq_ofNat_of_zero_le hi.1
    refine ⟨_, fun w' => .str _, (Tryd.strconv_Itoa_small k (by omega) w).mono fun e w' ⟨he, hw⟩ => ?_⟩
    subst hw
    rw [dec2_eq k (by omega)] at he
    exact ⟨he, Go.RowKit.Below.refl _ _⟩
  · cases h

end Go.Proofs.YtfghchpnolfllaaDoor
