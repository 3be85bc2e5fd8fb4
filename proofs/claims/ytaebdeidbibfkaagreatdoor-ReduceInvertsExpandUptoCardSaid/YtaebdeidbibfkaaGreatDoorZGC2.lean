/- Contracts: models of functions are right. No law is proved here. -/
import Derived.Test.YtaebdeidbibfkaaGreatDoorZGMod
import Derived.Test.YtaebdeidbibfkaaGreatDoorZTaz
import Derived.Test.YtaebdeidbibfkaaGreatDoorZSoz
import Derived.Test.YtaebdeidbibfkaaGreatDoorZShz
namespace Go.Proofs.YtaebdeidbibfkaaGreatDoor
open Go.Av Go.G
attribute [-simp] Int.natCast_tdiv_eq_ediv
attribute [local simp] runf guardA opf St.ev Go.Av.look St.setd constAV constAV0 opBin opLen intBin St.need lookT TT0 tab resA resOne resAll blt_dec ble_dec beq_dec isPure
attribute [local simp] opMakeSlice opCopy opIndexAddr opLoad opStore St.mem St.rows opUn calleeA toArgs toArg toArg0 toArgs0 shift shift0 shift1 splice cellsOf isFree ofCells TS.isAgg isCell strBin opConvert
attribute [local simp] opSlice3 opClear fz_clear opBuildSlice fillA opAppend eqC eqA cksB ckB St.newBox runI valKind withinB readsHp refsD refs noSl opFieldAddr opBuild opMax opMin placeOf Op.operands Call.operands opIndex opExtract opSlice opField partA
attribute [local simp] loA hiA lenA opMakeMap opLookup opMapUpdate keyOk findA_int findA_str findA_bool putA_strB putA_strI putA_strS putA_intB putA_intI putA_intS putA_boolI putA_boolB byteRow_rwN bytesOf_rwN opBytesStr mAV_length mAV_nil cA1 cA2 cA3 cA4 opNilCheck opMakeFunc opRange
attribute [local simp] aL cI cB cS cL rw_map fz_rw fz_const dropRow_rw fz_append fz_set fz_copy fz_rows rowLen_rw rowsLen_nil rowsLen_cons rowsLen_append rowsLen_map rowsLen_dm rowsLen_tm rowsLen_take rowsLen_drop rowsLen_replicate take_map_len take_map_le drop_map_len take_drop_len chunks isScalar isScalar0
attribute [local simp] putBack putAt objMap mapC mapA mapT map0 bid rid memB passed closedB argsH argH argH0 argsH0 objIds ids0 idsC isLocT isLocA isLocC isLoc0 LocObj
attribute [local congr] bind_congr1 map_congr1 cond_congr1
attribute [local simp] cApiAddr cApiContact cApiCoil cApiRung cReducePair cReduceEdge cTreeTree_eq TreeTree_Kind_mk TreeTree_N_mk TreeTree_Kids_mk eta_TreeTree cRef14Tree_eq Ref14Tree_Kind_mk Ref14Tree_N_mk Ref14Tree_Kids_mk eta_Ref14Tree
variable [Drawn]
set_option maxHeartbeats 4000000
set_option linter.unusedSectionVars false
set_option maxRecDepth 20000
set_option linter.unusedSimpArgs false
set_option linter.unusedVariables false

theorem con_graph_Nodes_o0 {n : Nat} {r_0 : ApiRung} {r : (List Str)} (h : graph_Nodes_o0 n r_0 = some r) : Con Tryz.prog G0 97 [.agg (cApiRung r_0)] (.sl 0 0 r.length) [.arr 1 r.length (rw (r.map cS))] := by
  refine con_of (T := TT0) tt_ok Tryz.func97 (c := _) (by unfold Tryz.f97; rfl) Tryz.ntmps97 (rs := [.tmp 2]) (by rw [Tryz.results97]) (by unfold Tryz.f97; rfl) (by simp) ?_
  simp only [argsCh]
  have F := True.intro
  dsimp only [graph_Nodes_o0] at h
  refine rs0 ?_
  iterate 2 refine vp ?_
  refine vn ?_
  refine rs (fun d => Nat.beq d 9) ?_
  refine vp ?_
  refine nl cS h F fun l2328 m F h => ?_
  try simp only [m]
  clear m
  refine vp ?_
  refine vn ?_
  refine rs0 ?_
  iterate 5 refine vp ?_
  refine vn ?_
  refine Wp.seq ?_
  refine rs0 ?_
  iterate 4 refine vp ?_
  refine vn ?_
  refine Wp.block ?_
  refine lp [some 1, some 2] (fun x : Int × (List Str) × (List (Str × Bool)) => { ch := [(3, .sl 0 0 x.2.1.length), (4, .mp 1), (13, aL cApiContact r_0.Contacts), (14, .int .i64 (r_0.Contacts.length : Int)), (15, .int .i64 x.1)], hp := [.arr 1 x.2.1.length (rw (x.2.1.map cS)), .map (mAV AV.str cB x.2.2)], base := 0, n := 42, cond := True, gl := G0 }) (fun m x => graph_Nodes_o0_L1 n r_0 m x.1 x.2.1 x.2.2 = some r) n (0, l2328, (mPut (mPut ([]) (⟨#[76]⟩ : Str) true) (⟨#[82]⟩ : Str) true)) h ?_
  rintro rec_n1 ⟨p2340, l2341, p2342⟩ h
  dsimp only [graph_Nodes_o0_L1] at h
  try dsimp only
  refine rs0 ?_
  refine vp ?_
  refine vn ?_
  refine Wp.seq ?_
  refine sD h F (fun F h => ?_) fun F h => ?_
  refine cF ?_
  refine Wp.exit ?_
  refine sh ?_
  refine rs0 ?_
  iterate 2 refine vp ?_
  refine vn ?_
  cases h
  exact Wp.ret (enH [some 0])
  refine cT ?_
  refine Wp.skip ?_
  refine sh ?_
  refine Wp.seq ?_
  refine Wp.block ?_
  refine rs0 ?_
  refine eI h F fun x2354 F h => ?_
  iterate 4 refine vp ?_
  refine vn ?_
  refine rs0 ?_
  iterate 5 refine vp ?_
  refine nl cS h F fun l2355 m F h => ?_
  try simp only [m]
  clear m
  iterate 2 refine vp ?_
  refine vn ?_
  refine Wp.block ?_
  refine lp [some 0, some 1] (fun x : Int × (List Str) × (List (Str × Bool)) => { ch := [(3, .sl 0 0 x.2.1.length), (4, .mp 1), (13, aL cApiContact r_0.Contacts), (14, .int .i64 (r_0.Contacts.length : Int)), (15, .int .i64 p2340), (23, aL cS l2355), (24, .int .i64 (l2355.length : Int)), (25, .int .i64 x.1)], hp := [.arr 1 x.2.1.length (rw (x.2.1.map cS)), .map (mAV AV.str cB x.2.2)], base := 0, n := 42, cond := True, gl := G0 }) (fun m x => graph_Nodes_o0_L2 p2340 (graph_Nodes_o0_L1 n r_0 rec_n1) l2355 m x.1 x.2.1 x.2.2 = some r) n (0, l2341, p2342) h ?_
  rintro rec_n2 ⟨p2358, l2359, p2360⟩ h
  dsimp only [graph_Nodes_o0_L2] at h
  try dsimp only
  refine rs0 ?_
  refine vp ?_
  refine vn ?_
  refine Wp.seq ?_
  refine sD h F (fun F h => ?_) fun F h => ?_
  refine cF ?_
  refine Wp.exit ?_
  refine sh ?_
  refine rg0 ?_
  iterate 2 refine vp ?_
  refine vn ?_
  exact nx [some 0, some 1] ((IntKind.i64.wrap (p2340 + 1)), l2359, p2360) h
  refine cT ?_
  refine Wp.skip ?_
  refine sh ?_
  refine Wp.seq ?_
  refine Wp.block ?_
  refine rs0 ?_
  refine eI h F fun x2363 F h => ?_
  iterate 3 refine vp ?_
  refine vn ?_
  refine rs0 ?_
  iterate 4 refine vp ?_
  refine vn ?_
  refine sB h F (fun F h => ?_) fun F h => ?_
  refine cF ?_
  refine Wp.skip ?_
  refine sh ?_
  refine rg0 ?_
  iterate 2 refine vp ?_
  refine vn ?_
  exact nx [some 0, some 1] ((IntKind.i64.wrap (p2358 + 1)), l2359, p2360) h
  refine cT ?_
  refine rs0 ?_
  iterate 3 refine vp ?_
  refine vn ?_
  refine rg0 ?_
  iterate 3 refine vp ?_
  refine gd h F fun F h => ?_
  refine vp ?_
  refine nm cS h F fun l2364 F h => ?_
  refine vp ?_
  refine vn ?_
  refine sh ?_
  refine rg0 ?_
  iterate 2 refine vp ?_
  refine vn ?_
  exact nx [some 2, some 1] ((IntKind.i64.wrap (p2358 + 1)), l2364, (mPut p2360 x2363 true)) h

theorem con_slices_EqualFunc_tree_Tree_c35 {slf_tree_Equal : TreeTree → TreeTree → Option (Bool)} (Hslf_tree_Equal : ∀ {a0 : TreeTree} {b1 : TreeTree} {r : Bool}, slf_tree_Equal a0 b1 = some r → Con Tryz.prog G0 35 [.agg [.int .i64 a0.Kind, .int .i64 a0.N, aL cTreeTree a0.Kids], .agg [.int .i64 b1.Kind, .int .i64 b1.N, aL cTreeTree b1.Kids]] (.bool r) []) {n : Nat} {s10 : List TreeTree} {s21 : List TreeTree} {r : Bool} (h : slices_EqualFunc_tree_Tree_c35 slf_tree_Equal n s10 s21 = some r) : Con Tryz.prog G0 61 [aL cTreeTree s10, aL cTreeTree s21, .clos 35 [] []] (.bool r) [] := by
  refine con_of (T := TT0) tt_ok Tryz.func61 (c := _) (by unfold Tryz.f61; rfl) Tryz.ntmps61 (rs := [.tmp 6]) (by rw [Tryz.results61]) (by unfold Tryz.f61; rfl) (by simp) ?_
  simp only [argsCh]
  have F := True.intro
  dsimp only [slices_EqualFunc_tree_Tree_c35] at h
  refine rs0 ?_
  refine vp ?_
  refine vn ?_
  refine Wp.seq ?_
  refine rs0 ?_
  iterate 5 refine vp ?_
  refine vn ?_
  refine sB h F (fun F h => ?_) fun F h => ?_
  refine cF ?_
  refine Wp.skip ?_
  refine sh ?_
  refine Wp.seq ?_
  refine rs0 ?_
  iterate 3 refine vp ?_
  refine vn ?_
  refine Wp.block ?_
  refine lp [] (fun p5328 : Int => { ch := [(1, aL cTreeTree s21), (2, .clos 35 [] []), (15, aL cTreeTree s10), (16, .int .i64 (s10.length : Int)), (17, .int .i64 p5328)], hp := [], base := 0, n := 32, cond := True, gl := G0 }) (fun m x => slices_EqualFunc_tree_Tree_c35_L1 s10 s21 slf_tree_Equal m x = some r) n 0 h ?_
  rintro rec_n1 p5328 h
  dsimp only [slices_EqualFunc_tree_Tree_c35_L1] at h
  try dsimp only
  refine rs0 ?_
  refine vp ?_
  refine vn ?_
  refine Wp.seq ?_
  refine sD h F (fun F h => ?_) fun F h => ?_
  refine cF ?_
  refine Wp.exit ?_
  refine sh ?_
  refine rs0 ?_
  refine vp ?_
  refine vn ?_
  cases h
  exact Wp.ret en0
  refine cT ?_
  refine Wp.skip ?_
  refine sh ?_
  refine Wp.seq ?_
  refine Wp.block ?_
  refine rs0 ?_
  refine vp ?_
  refine eI h F fun x5333 F h => ?_
  iterate 5 refine vp ?_
  refine vn ?_
  refine rs0 ?_
  iterate 2 refine vp ?_
  refine eI h F fun x5334 F h => ?_
  iterate 4 refine vp ?_
  refine vn ?_
  refine rs0 ?_
  iterate 3 refine vp ?_
  obtain ⟨r5336, hr5335, h⟩ := obind h
  refine vc (Hslf_tree_Equal hr5335) ?_
  refine vp ?_
  refine vn ?_
  refine sB h F (fun F h => ?_) fun F h => ?_
  refine cF ?_
  refine Wp.skip ?_
  refine sh ?_
  refine rg0 ?_
  iterate 2 refine vp ?_
  refine vn ?_
  exact nx [] (IntKind.i64.wrap (p5328 + 1)) h
  refine cT ?_
  refine rs0 ?_
  refine vp ?_
  refine vn ?_
  cases h
  exact Wp.ret en0
  refine cT ?_
  refine rs0 ?_
  refine vp ?_
  refine vn ?_
  cases h
  exact Wp.ret en0

theorem con_law14_Of (n : Nat) : ∀ {t0 : TreeTree} {r : Ref14Tree}, law14_Of n t0 = some r → Con Tryz.prog G0 13 [.agg [.int .i64 t0.Kind, .int .i64 t0.N, aL cTreeTree t0.Kids]] (.agg [.int .i64 r.Kind, .int .i64 r.N, aL cRef14Tree r.Kids]) [] := by
  induction n with
  | zero => intro t0 r h; simp [law14_Of] at h
  | succ n Hslf_law14_Of =>
   intro t0 r h
   refine con_of (T := TT0) tt_ok Tryz.func13 (c := _) (by unfold Tryz.f13; rfl) Tryz.ntmps13 (rs := [.cell 2 36]) (by rw [Tryz.results13]) (by unfold Tryz.f13; rfl) (by simp) ?_
   simp only [argsCh]
   have F := True.intro
   dsimp only [law14_Of] at h
   refine rs0 ?_
   iterate 2 refine vp ?_
   refine vn ?_
   refine rs0 ?_
   iterate 7 refine vp ?_
   refine vn ?_
   refine Wp.seq ?_
   refine rs0 ?_
   iterate 4 refine vp ?_
   refine vn ?_
   refine Wp.block ?_
   refine lp [some 1, some 2, none] (fun x : Int × (List Ref14Tree) => { ch := [(2, .hptr 0 0 0), (3, .hptr 1 0 0), (12, aL cTreeTree t0.Kids), (13, .int .i64 (t0.Kids.length : Int)), (14, .int .i64 x.1)], hp := [.var [.int .i64 0, .int .i64 0, .nilsl], .var [.int .i64 t0.Kind, .int .i64 t0.N, .sl 2 0 x.2.length], .arr 3 x.2.length (rw (x.2.map cRef14Tree))], base := 0, n := 27, cond := True, gl := G0 }) (fun m x => law14_Of_L1 t0 (law14_Of n) m x.1 x.2 = some r) n (0, []) h ?_
   rintro rec_n1 ⟨p4630, p4631⟩ h
   dsimp only [law14_Of_L1] at h
   try dsimp only
   refine rs0 ?_
   refine vp ?_
   refine vn ?_
   refine Wp.seq ?_
   refine sD h F (fun F h => ?_) fun F h => ?_
   refine cF ?_
   refine Wp.exit ?_
   refine sh ?_
   refine rs0 ?_
   iterate 2 refine vp ?_
   refine vn ?_
   cases h
   exact Wp.ret en0
   refine cT ?_
   refine Wp.skip ?_
   refine sh ?_
   refine Wp.seq ?_
   refine Wp.block ?_
   refine rs0 ?_
   refine eI h F fun x4636 F h => ?_
   iterate 4 refine vp ?_
   refine vn ?_
   refine dw1 (fun d => Nat.beq d 23 || Nat.beq d 1023) [1, 2, 3] ?_
   refine du 3 ?_
   obtain ⟨r4638, hr4637, h⟩ := obind h
   refine dc (Hslf_law14_Of hr4637) ?_
   refine du 1 ?_
   refine gd h F fun F h => ?_
   refine db ?_
   refine nm cRef14Tree h F fun l4639 F h => ?_
   refine du 1 ?_
   refine db ?_
   refine dn ?_
   refine sh ?_
   refine rg0 ?_
   iterate 2 refine vp ?_
   refine vn ?_
   exact nx [some 0, some 1, some 4] ((IntKind.i64.wrap (p4630 + 1)), l4639) h

theorem con_slices_Clone_api_Contact_o0 {n : Nat} {s0 : List ApiContact} {r : (List ApiContact)} (h : slices_Clone_api_Contact_o0 n s0 = some r) : Con Tryz.prog G0 55 [aL cApiContact s0] (.sl 0 0 r.length) [.arr 5 r.length (rw (r.map cApiContact))] := by
  refine con_of (T := TT0) tt_ok Tryz.func55 (c := _) (by unfold Tryz.f55; rfl) Tryz.ntmps55 (rs := [.tmp 2]) (by rw [Tryz.results55]) (by unfold Tryz.f55; rfl) (by simp) ?_
  simp only [argsCh]
  have F := True.intro
  dsimp only [slices_Clone_api_Contact_o0] at h
  refine rs0 ?_
  refine vp ?_
  refine vn ?_
  refine Wp.seq ?_
  refine rs0 ?_
  refine vp ?_
  refine regv_isnil rfl (.inl rfl) rfl rfl rfl rfl rfl fun hb4789 hl4790 => ?_
  refine ⟨_, rfl, ?_⟩
  cases hb4789
  replace h := isnil_f h
  clear hl4790
  simp only [reduceCtorEq, if_true, if_false, Bool.not_true, Bool.not_false]
  refine vn ?_
  refine cF ?_
  refine Wp.skip ?_
  refine sh ?_
  refine rs (fun d => Nat.beq d 7) ?_
  iterate 2 refine vp ?_
  refine gd h F fun F h => ?_
  iterate 2 refine vp ?_
  refine vn ?_
  cases h
  exact Wp.ret (enH [some 0])
  replace h := isnil_t (hl4790 rfl) h
  simp only [reduceCtorEq, if_true, if_false, Bool.not_true, Bool.not_false]
  refine vn ?_
  refine cT ?_
  refine rs0 ?_
  refine vp ?_
  refine vn ?_
  cases h
  exact Wp.ret (enH [none])

theorem con_graph_TopoSort_1_1 {n : Nat} {i_0 : Int} {m1 : List (Str × Bool)} {b2 : ApiRung} {r : Bool} (h : graph_TopoSort_1_1 n i_0 m1 b2 = some r) : ConH Tryz.prog G0 102 [.int .i64 i_0, .hptr 0 0 0, .hptr 2 0 0] [.var [.mp 1], .map (mAV AV.str cB m1), .var [.str b2.Label, aL cApiContact b2.Contacts, aL cApiCoil b2.Coils, .str b2.Jump]] (.bool r) [.var [.mp 1], .map (mAV AV.str cB m1), .var [.str b2.Label, aL cApiContact b2.Contacts, aL cApiCoil b2.Coils, .str b2.Jump]] := by
  refine conH_of (T := TT0) tt_ok Tryz.func102 (c := _) (by unfold Tryz.f102; rfl) Tryz.ntmps102 (rs := [.tmp 4]) (by rw [Tryz.results102]) (by unfold Tryz.f102; rfl) (by simp) (k := 3) rfl rfl ?_
  try simp only [argsCh]
  have F := True.intro
  dsimp only [graph_TopoSort_1_1] at h
  refine rs0 ?_
  refine vp ?_
  refine vn ?_
  refine dw (fun _ => false) [0, 1, 2] ?_
  refine du 4 ?_
  refine eI h F fun x2410 F h => ?_
  refine du 6 ?_
  refine dn ?_
  cases h
  exact Wp.ret (enH [some 0, some 1, some 2])

theorem con_tree_Tree_check_1 {n : Nat} {k0 : TreeTree} {b0 : TreeTree} {r : Bool} (h : tree_Tree_check_1 n k0 b0 = some r) : ConH Tryz.prog G0 92 [.agg [.int .i64 k0.Kind, .int .i64 k0.N, aL cTreeTree k0.Kids], .hptr 0 0 0] [.var [.int .i64 b0.Kind, .int .i64 b0.N, aL cTreeTree b0.Kids]] (.bool r) [.var [.int .i64 b0.Kind, .int .i64 b0.N, aL cTreeTree b0.Kids]] := by
  refine conH_of (T := TT0) tt_ok Tryz.func92 (c := _) (by unfold Tryz.f92; rfl) Tryz.ntmps92 (rs := [.tmp 3]) (by rw [Tryz.results92]) (by unfold Tryz.f92; rfl) (by simp) (k := 1) rfl rfl ?_
  try simp only [argsCh]
  have F := True.intro
  dsimp only [tree_Tree_check_1] at h
  refine rs0 ?_
  iterate 2 refine vp ?_
  refine vn ?_
  refine rs0 ?_
  iterate 6 refine vp ?_
  refine vn ?_
  cases h
  exact Wp.ret (enH [some 0])

theorem con_cmp_isNaN_int {n : Nat} {x_0 : Int} {r : Bool} (h : cmp_isNaN_int n x_0 = some r) : Con Tryz.prog G0 111 [.int .i64 x_0] (.bool r) [] := by
  refine con_of (T := TT0) tt_ok Tryz.func111 (c := _) (by unfold Tryz.f111; rfl) Tryz.ntmps111 (rs := [.tmp 2]) (by rw [Tryz.results111]) (by unfold Tryz.f111; rfl) (by simp) ?_
  simp only [argsCh]
  have F := True.intro
  dsimp only [cmp_isNaN_int] at h
  refine rs0 ?_
  refine vp ?_
  refine vn ?_
  refine rs0 ?_
  iterate 4 refine vp ?_
  refine vn ?_
  cases h
  exact Wp.ret en0

end Go.Proofs.YtaebdeidbibfkaaGreatDoor
