/- Contracts: models of functions are right. No law is proved here. -/
import Derived.Test.YtaebdeidbibfkaaDoorXGMod
import Derived.Test.YtaebdeidbibfkaaDoorXTax
import Derived.Test.YtaebdeidbibfkaaDoorXSo
import Derived.Test.YtaebdeidbibfkaaDoorXSh
namespace Go.Proofs.YtaebdeidbibfkaaDoor
open Go.Av Go.G
attribute [-simp] Int.natCast_tdiv_eq_ediv
attribute [local simp] runf guardA opf St.ev Go.Av.look St.setd constAV constAV0 opBin opLen intBin St.need lookT TT0 tab resA resOne resAll blt_dec ble_dec beq_dec isPure
attribute [local simp] opMakeSlice opCopy opIndexAddr opLoad opStore St.mem St.rows opUn calleeA toArgs toArg toArg0 toArgs0 shift shift0 shift1 splice cellsOf isFree ofCells TS.isAgg isCell strBin opConvert
attribute [local simp] opSlice3 opClear fz_clear opBuildSlice fillA opAppend eqC eqA cksB ckB St.newBox runI valKind withinB readsHp refsD refs noSl opFieldAddr opBuild opMax opMin placeOf Op.operands Call.operands opIndex opExtract opSlice opField partA
attribute [local simp] loA hiA lenA opMakeMap opLookup opMapUpdate keyOk findA_int findA_str findA_bool putA_strB putA_strI putA_strS putA_intB putA_intI putA_intS putA_boolI putA_boolB byteRow_rwN bytesOf_rwN opBytesStr mAV_length mAV_nil cA1 cA2 cA3 cA4 opNilCheck opMakeFunc opRange
attribute [local simp] aL cI cB cS cL rw_map fz_rw fz_const dropRow_rw fz_append fz_set fz_copy fz_rows rowLen_rw rowsLen_nil rowsLen_cons rowsLen_append rowsLen_map rowsLen_dm rowsLen_tm rowsLen_take rowsLen_drop rowsLen_replicate take_map_len take_map_le drop_map_len take_drop_len chunks isScalar isScalar0
attribute [local simp] putBack putAt objMap mapC mapA mapT map0 bid rid memB passed closedB argsH argH argH0 argsH0 objIds ids0 idsC isLocT isLocA isLocC isLoc0 LocObj
attribute [local congr] bind_congr1 map_congr1 cond_congr1
attribute [local simp] cApiAddr cApiContact cApiCoil cApiRung cReducePair cReduceEdge cTreeTree_eq TreeTree_Kind_mk TreeTree_N_mk TreeTree_Kids_mk eta_TreeTree
variable [Drawn]
set_option maxHeartbeats 4000000
set_option linter.unusedSectionVars false
set_option maxRecDepth 20000
set_option linter.unusedSimpArgs false
set_option linter.unusedVariables false

theorem con_tree_Leaves (n : Nat) : ∀ {t0 : TreeTree} {r : (List Int)}, tree_Leaves n t0 = some r → Con Tryd.prog G0 18 [.agg [.int .i64 t0.Kind, .int .i64 t0.N, aL cTreeTree t0.Kids]] (aL (cI .i64) r) [] := by
  induction n with
  | zero => intro t0 r h; simp [tree_Leaves] at h
  | succ n Hslf_tree_Leaves =>
   intro t0 r h
   refine con_of (T := TT0) tt_ok Tryd.func18 (c := _) (by unfold Tryd.f18; rfl) Tryd.ntmps18 (rs := [.tmp 2]) (by rw [Tryd.results18]) (by unfold Tryd.f18; rfl) (by simp) ?_
   simp only [argsCh]
   have F := True.intro
   dsimp only [tree_Leaves] at h
   refine rs0 ?_
   iterate 2 refine vp ?_
   refine vn ?_
   refine Wp.seq ?_
   refine rs0 ?_
   iterate 2 refine vp ?_
   refine vn ?_
   refine Wp.block ?_
   refine rs0 ?_
   iterate 2 refine vp ?_
   refine vn ?_
   refine sB h F (fun F h => ?_) fun F h => ?_
   refine cF ?_
   refine jn (fun p4410 : Bool => { ch := [(1, .hptr 0 0 0), (13, .bool p4410)], hp := [.var [.int .i64 t0.Kind, .int .i64 t0.N, aL cTreeTree t0.Kids]], base := 0, n := 29, cond := True, gl := G0 }) (fun x => tree_Leaves_J1 n t0 (tree_Leaves n) x = some r) ?_ ?_
   clear h
   rintro p4410 h
   dsimp only [tree_Leaves_J1] at h
   try dsimp only
   refine sB h F (fun F h => ?_) fun F h => ?_
   refine cF ?_
   refine Wp.skip ?_
   refine sh ?_
   refine rs0 ?_
   refine vp ?_
   refine vn ?_
   cases h
   exact Wp.ret en0
   refine cT ?_
   refine rs0 ?_
   refine vp ?_
   refine vn ?_
   refine Wp.seq ?_
   refine rs0 ?_
   iterate 4 refine vp ?_
   refine vn ?_
   refine Wp.block ?_
   refine lp [none] (fun x : Int × (List Int) => { ch := [(3, .sl 0 0 x.2.length), (17, aL cTreeTree t0.Kids), (18, .int .i64 (t0.Kids.length : Int)), (19, .int .i64 x.1)], hp := [.arr 1 x.2.length (rw (x.2.map (cI .i64)))], base := 0, n := 29, cond := True, gl := G0 }) (fun m x => tree_Leaves_L2 t0 (tree_Leaves n) m x.1 x.2 = some r) n (0, []) h ?_
   rintro rec_n2 ⟨p4414, p4415⟩ h
   dsimp only [tree_Leaves_L2] at h
   try dsimp only
   refine rs0 ?_
   refine vp ?_
   refine vn ?_
   refine Wp.seq ?_
   refine sD h F (fun F h => ?_) fun F h => ?_
   refine cF ?_
   refine Wp.exit ?_
   refine sh ?_
   refine rs0 ?_
   iterate 2 refine vp ?_
   refine vn ?_
   cases h
   exact Wp.ret en0
   refine cT ?_
   refine Wp.skip ?_
   refine sh ?_
   refine Wp.seq ?_
   refine Wp.block ?_
   refine rs0 ?_
   refine eI h F fun x4420 F h => ?_
   iterate 4 refine vp ?_
   refine vn ?_
   refine rg (fun d => Nat.beq d 26) ?_
   iterate 2 refine vp ?_
   obtain ⟨r4422, hr4421, h⟩ := obind h
   refine vc (Hslf_tree_Leaves hr4421) ?_
   refine gd h F fun F h => ?_
   refine vp ?_
   refine nm (cI .i64) h F fun l4423 F h => ?_
   refine vp ?_
   refine vn ?_
   refine sh ?_
   refine rg0 ?_
   iterate 2 refine vp ?_
   refine vn ?_
   exact nx [some 2] ((IntKind.i64.wrap (p4414 + 1)), l4423) h
   refine rs0 ?_
   iterate 2 refine vp ?_
   refine vn ?_
   refine sB h F (fun F h => ?_) fun F h => ?_
   refine cF ?_
   refine rg0 ?_
   iterate 2 refine vp ?_
   refine vn ?_
   exact nx [some 0] (t0.Kind == 2) h
   refine cT ?_
   refine Wp.skip ?_
   exact nx [some 0] (t0.Kind == 1) h
   refine cT ?_
   refine rs0 ?_
   iterate 3 refine vp ?_
   refine nl (cI .i64) h F fun l4409 m F h => ?_
   try simp only [m]
   clear m
   refine vp ?_
   refine vn ?_
   cases h
   exact Wp.ret en0

theorem con_slices_EqualFunc_tree_Tree_c24 {slf_tree_Equal : TreeTree → TreeTree → Option (Bool)} (Hslf_tree_Equal : ∀ {a0 : TreeTree} {b1 : TreeTree} {r : Bool}, slf_tree_Equal a0 b1 = some r → Con Tryd.prog G0 24 [.agg [.int .i64 a0.Kind, .int .i64 a0.N, aL cTreeTree a0.Kids], .agg [.int .i64 b1.Kind, .int .i64 b1.N, aL cTreeTree b1.Kids]] (.bool r) []) {n : Nat} {s10 : List TreeTree} {s21 : List TreeTree} {r : Bool} (h : slices_EqualFunc_tree_Tree_c24 slf_tree_Equal n s10 s21 = some r) : Con Tryd.prog G0 41 [aL cTreeTree s10, aL cTreeTree s21, .clos 24 [] []] (.bool r) [] := by
  refine con_of (T := TT0) tt_ok Tryd.func41 (c := _) (by unfold Tryd.f41; rfl) Tryd.ntmps41 (rs := [.tmp 6]) (by rw [Tryd.results41]) (by unfold Tryd.f41; rfl) (by simp) ?_
  simp only [argsCh]
  have F := True.intro
  dsimp only [slices_EqualFunc_tree_Tree_c24] at h
  refine rs0 ?_
  refine vp ?_
  refine vn ?_
  refine Wp.seq ?_
  refine rs0 ?_
  iterate 5 refine vp ?_
  refine vn ?_
  refine sB h F (fun F h => ?_) fun F h => ?_
  refine cF ?_
  refine Wp.skip ?_
  refine sh ?_
  refine Wp.seq ?_
  refine rs0 ?_
  iterate 3 refine vp ?_
  refine vn ?_
  refine Wp.block ?_
  refine lp [] (fun p4629 : Int => { ch := [(1, aL cTreeTree s21), (2, .clos 24 [] []), (15, aL cTreeTree s10), (16, .int .i64 (s10.length : Int)), (17, .int .i64 p4629)], hp := [], base := 0, n := 32, cond := True, gl := G0 }) (fun m x => slices_EqualFunc_tree_Tree_c24_L1 s10 s21 slf_tree_Equal m x = some r) n 0 h ?_
  rintro rec_n1 p4629 h
  dsimp only [slices_EqualFunc_tree_Tree_c24_L1] at h
  try dsimp only
  refine rs0 ?_
  refine vp ?_
  refine vn ?_
  refine Wp.seq ?_
  refine sD h F (fun F h => ?_) fun F h => ?_
  refine cF ?_
  refine Wp.exit ?_
  refine sh ?_
  refine rs0 ?_
  refine vp ?_
  refine vn ?_
  cases h
  exact Wp.ret en0
  refine cT ?_
  refine Wp.skip ?_
  refine sh ?_
  refine Wp.seq ?_
  refine Wp.block ?_
  refine rs0 ?_
  refine vp ?_
  refine eI h F fun x4634 F h => ?_
  iterate 5 refine vp ?_
  refine vn ?_
  refine rs0 ?_
  iterate 2 refine vp ?_
  refine eI h F fun x4635 F h => ?_
  iterate 4 refine vp ?_
  refine vn ?_
  refine rs0 ?_
  iterate 3 refine vp ?_
  obtain ⟨r4637, hr4636, h⟩ := obind h
  refine vc (Hslf_tree_Equal hr4636) ?_
  refine vp ?_
  refine vn ?_
  refine sB h F (fun F h => ?_) fun F h => ?_
  refine cF ?_
  refine Wp.skip ?_
  refine sh ?_
  refine rg0 ?_
  iterate 2 refine vp ?_
  refine vn ?_
  exact nx [] (IntKind.i64.wrap (p4629 + 1)) h
  refine cT ?_
  refine rs0 ?_
  refine vp ?_
  refine vn ?_
  cases h
  exact Wp.ret en0
  refine cT ?_
  refine rs0 ?_
  refine vp ?_
  refine vn ?_
  cases h
  exact Wp.ret en0

theorem con_slices_Clone_api_Contact_o0 {n : Nat} {s0 : List ApiContact} {r : (List ApiContact)} (h : slices_Clone_api_Contact_o0 n s0 = some r) : Con Tryd.prog G0 42 [aL cApiContact s0] (.sl 0 0 r.length) [.arr 5 r.length (rw (r.map cApiContact))] := by
  refine con_of (T := TT0) tt_ok Tryd.func42 (c := _) (by unfold Tryd.f42; rfl) Tryd.ntmps42 (rs := [.tmp 2]) (by rw [Tryd.results42]) (by unfold Tryd.f42; rfl) (by simp) ?_
  simp only [argsCh]
  have F := True.intro
  dsimp only [slices_Clone_api_Contact_o0] at h
  refine rs0 ?_
  refine vp ?_
  refine vn ?_
  refine Wp.seq ?_
  refine rs0 ?_
  refine vp ?_
  refine regv_isnil rfl (.inl rfl) rfl rfl rfl rfl rfl fun hb4827 hl4828 => ?_
  refine ⟨_, rfl, ?_⟩
  cases hb4827
  replace h := isnil_f h
  clear hl4828
  simp only [reduceCtorEq, if_true, if_false, Bool.not_true, Bool.not_false]
  refine vn ?_
  refine cF ?_
  refine Wp.skip ?_
  refine sh ?_
  refine rs (fun d => Nat.beq d 7) ?_
  iterate 2 refine vp ?_
  refine gd h F fun F h => ?_
  iterate 2 refine vp ?_
  refine vn ?_
  cases h
  exact Wp.ret (enH [some 0])
  replace h := isnil_t (hl4828 rfl) h
  simp only [reduceCtorEq, if_true, if_false, Bool.not_true, Bool.not_false]
  refine vn ?_
  refine cT ?_
  refine rs0 ?_
  refine vp ?_
  refine vn ?_
  cases h
  exact Wp.ret (enH [none])

theorem con_reduce_parallel_1 {n : Nat} {y0 : ReduceEdge} {b0 : ReduceEdge} {r : Bool} (h : reduce_parallel_1 n y0 b0 = some r) : ConH Tryd.prog G0 50 [.agg (cReduceEdge y0), .hptr 0 0 0] [.var [.str b0.pair.from_, .str b0.pair.to_, .int .i64 b0.t_.Kind, .int .i64 b0.t_.N, aL cTreeTree b0.t_.Kids]] (.bool r) [.var [.str b0.pair.from_, .str b0.pair.to_, .int .i64 b0.t_.Kind, .int .i64 b0.t_.N, aL cTreeTree b0.t_.Kids]] := by
  refine conH_of (T := TT0) tt_ok Tryd.func50 (c := _) (by unfold Tryd.f50; rfl) Tryd.ntmps50 (rs := [.tmp 3]) (by rw [Tryd.results50]) (by unfold Tryd.f50; rfl) (by simp) (k := 1) rfl rfl ?_
  try simp only [argsCh]
  have F := True.intro
  dsimp only [reduce_parallel_1] at h
  refine rs0 ?_
  iterate 2 refine vp ?_
  refine vn ?_
  refine rs0 ?_
  iterate 6 refine vp ?_
  refine vn ?_
  cases h
  exact Wp.ret (enH [some 0])

theorem con_tree_Tree_check_1 {n : Nat} {k0 : TreeTree} {b0 : TreeTree} {r : Bool} (h : tree_Tree_check_1 n k0 b0 = some r) : ConH Tryd.prog G0 66 [.agg [.int .i64 k0.Kind, .int .i64 k0.N, aL cTreeTree k0.Kids], .hptr 0 0 0] [.var [.int .i64 b0.Kind, .int .i64 b0.N, aL cTreeTree b0.Kids]] (.bool r) [.var [.int .i64 b0.Kind, .int .i64 b0.N, aL cTreeTree b0.Kids]] := by
  refine conH_of (T := TT0) tt_ok Tryd.func66 (c := _) (by unfold Tryd.f66; rfl) Tryd.ntmps66 (rs := [.tmp 3]) (by rw [Tryd.results66]) (by unfold Tryd.f66; rfl) (by simp) (k := 1) rfl rfl ?_
  try simp only [argsCh]
  have F := True.intro
  dsimp only [tree_Tree_check_1] at h
  refine rs0 ?_
  iterate 2 refine vp ?_
  refine vn ?_
  refine rs0 ?_
  iterate 6 refine vp ?_
  refine vn ?_
  cases h
  exact Wp.ret (enH [some 0])

theorem con_cmp_isNaN_int {n : Nat} {x_0 : Int} {r : Bool} (h : cmp_isNaN_int n x_0 = some r) : Con Tryd.prog G0 84 [.int .i64 x_0] (.bool r) [] := by
  refine con_of (T := TT0) tt_ok Tryd.func84 (c := _) (by unfold Tryd.f84; rfl) Tryd.ntmps84 (rs := [.tmp 2]) (by rw [Tryd.results84]) (by unfold Tryd.f84; rfl) (by simp) ?_
  simp only [argsCh]
  have F := True.intro
  dsimp only [cmp_isNaN_int] at h
  refine rs0 ?_
  refine vp ?_
  refine vn ?_
  refine rs0 ?_
  iterate 4 refine vp ?_
  refine vn ?_
  cases h
  exact Wp.ret en0

end Go.Proofs.YtaebdeidbibfkaaDoor
