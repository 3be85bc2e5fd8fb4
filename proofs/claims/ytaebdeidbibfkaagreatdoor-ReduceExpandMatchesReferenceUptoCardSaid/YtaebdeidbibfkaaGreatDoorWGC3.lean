/- Contracts: models of functions are right. No law is proved here. -/
import Derived.Test.YtaebdeidbibfkaaGreatDoorWGMod
import Derived.Test.YtaebdeidbibfkaaGreatDoorWTaw
import Derived.Test.YtaebdeidbibfkaaGreatDoorWSoz
import Derived.Test.YtaebdeidbibfkaaGreatDoorWShw
namespace Go.Proofs.YtaebdeidbibfkaaGreatDoor
open Go.Av Go.G
attribute [-simp] Int.natCast_tdiv_eq_ediv
attribute [local simp] runf guardA opf St.ev Go.Av.look St.setd constAV constAV0 opBin opLen intBin St.need lookT TT0 tab resA resOne resAll blt_dec ble_dec beq_dec isPure
attribute [local simp] opMakeSlice opCopy opIndexAddr opLoad opStore St.mem St.rows opUn calleeA toArgs toArg toArg0 toArgs0 shift shift0 shift1 splice cellsOf isFree ofCells TS.isAgg isCell strBin opConvert
attribute [local simp] opSlice3 opClear fz_clear opBuildSlice fillA opAppend eqC eqA cksB ckB St.newBox runI valKind withinB readsHp refsD refs noSl opFieldAddr opBuild opMax opMin placeOf Op.operands Call.operands opIndex opExtract opSlice opField partA
attribute [local simp] loA hiA lenA opMakeMap opLookup opMapUpdate keyOk findA_int findA_str findA_bool putA_strB putA_strI putA_strS putA_intB putA_intI putA_intS putA_boolI putA_boolB byteRow_rwN bytesOf_rwN opBytesStr mAV_length mAV_nil cA1 cA2 cA3 cA4 opNilCheck opMakeFunc opRange
attribute [local simp] aL cI cB cS cL rw_map fz_rw fz_const dropRow_rw fz_append fz_set fz_copy fz_rows rowLen_rw rowsLen_nil rowsLen_cons rowsLen_append rowsLen_map rowsLen_dm rowsLen_tm rowsLen_take rowsLen_drop rowsLen_replicate take_map_len take_map_le drop_map_len take_drop_len chunks isScalar isScalar0
attribute [local simp] putBack putAt objMap mapC mapA mapT map0 bid rid memB passed closedB argsH argH argH0 argsH0 objIds ids0 idsC isLocT isLocA isLocC isLoc0 LocObj
attribute [local congr] bind_congr1 map_congr1 cond_congr1
attribute [local simp] cApiAddr cApiContact cApiCoil cApiRung cReducePair cReduceEdge cTreeTree_eq TreeTree_Kind_mk TreeTree_N_mk TreeTree_Kids_mk eta_TreeTree cRef14Tree_eq Ref14Tree_Kind_mk Ref14Tree_N_mk Ref14Tree_Kids_mk eta_Ref14Tree
variable [Drawn]
set_option maxHeartbeats 4000000
set_option linter.unusedSectionVars false
set_option maxRecDepth 20000
set_option linter.unusedSimpArgs false
set_option linter.unusedVariables false

theorem con_graph_Nodes_o0 {n : Nat} {r_0 : ApiRung} {r : (List Str)} (h : graph_Nodes_o0 n r_0 = some r) : Con Tryz.prog G0 97 [.agg (cApiRung r_0)] (.sl 0 0 r.length) [.arr 1 r.length (rw (r.map cS))] := by
  refine con_of (T := TT0) tt_ok Tryz.func97 (c := _) (by unfold Tryz.f97; rfl) Tryz.ntmps97 (rs := [.tmp 2]) (by rw [Tryz.results97]) (by unfold Tryz.f97; rfl) (by simp) ?_
  simp only [argsCh]
  have F := True.intro
  dsimp only [graph_Nodes_o0] at h
  refine rs0 ?_
  iterate 2 refine vp ?_
  refine vn ?_
  refine rs (fun d => Nat.beq d 9) ?_
  refine vp ?_
  refine nl cS h F fun l2328 m F h => ?_
  try simp only [m]
  clear m
  refine vp ?_
  refine vn ?_
  refine rs0 ?_
  iterate 5 refine vp ?_
  refine vn ?_
  refine Wp.seq ?_
  refine rs0 ?_
  iterate 4 refine vp ?_
  refine vn ?_
  refine Wp.block ?_
  refine lp [some 1, some 2] (fun x : Int × (List Str) × (List (Str × Bool)) => { ch := [(3, .sl 0 0 x.2.1.length), (4, .mp 1), (13, aL cApiContact r_0.Contacts), (14, .int .i64 (r_0.Contacts.length : Int)), (15, .int .i64 x.1)], hp := [.arr 1 x.2.1.length (rw (x.2.1.map cS)), .map (mAV AV.str cB x.2.2)], base := 0, n := 42, cond := True, gl := G0 }) (fun m x => graph_Nodes_o0_L1 n r_0 m x.1 x.2.1 x.2.2 = some r) n (0, l2328, (mPut (mPut ([]) (⟨#[76]⟩ : Str) true) (⟨#[82]⟩ : Str) true)) h ?_
  rintro rec_n1 ⟨p2340, l2341, p2342⟩ h
  dsimp only [graph_Nodes_o0_L1] at h
  try dsimp only
  refine rs0 ?_
  refine vp ?_
  refine vn ?_
  refine Wp.seq ?_
  refine sD h F (fun F h => ?_) fun F h => ?_
  refine cF ?_
  refine Wp.exit ?_
  refine sh ?_
  refine rs0 ?_
  iterate 2 refine vp ?_
  refine vn ?_
  cases h
  exact Wp.ret (enH [some 0])
  refine cT ?_
  refine Wp.skip ?_
  refine sh ?_
  refine Wp.seq ?_
  refine Wp.block ?_
  refine rs0 ?_
  refine eI h F fun x2354 F h => ?_
  iterate 4 refine vp ?_
  refine vn ?_
  refine rs0 ?_
  iterate 5 refine vp ?_
  refine nl cS h F fun l2355 m F h => ?_
  try simp only [m]
  clear m
  iterate 2 refine vp ?_
  refine vn ?_
  refine Wp.block ?_
  refine lp [some 0, some 1] (fun x : Int × (List Str) × (List (Str × Bool)) => { ch := [(3, .sl 0 0 x.2.1.length), (4, .mp 1), (13, aL cApiContact r_0.Contacts), (14, .int .i64 (r_0.Contacts.length : Int)), (15, .int .i64 p2340), (23, aL cS l2355), (24, .int .i64 (l2355.length : Int)), (25, .int .i64 x.1)], hp := [.arr 1 x.2.1.length (rw (x.2.1.map cS)), .map (mAV AV.str cB x.2.2)], base := 0, n := 42, cond := True, gl := G0 }) (fun m x => graph_Nodes_o0_L2 p2340 (graph_Nodes_o0_L1 n r_0 rec_n1) l2355 m x.1 x.2.1 x.2.2 = some r) n (0, l2341, p2342) h ?_
  rintro rec_n2 ⟨p2358, l2359, p2360⟩ h
  dsimp only [graph_Nodes_o0_L2] at h
  try dsimp only
  refine rs0 ?_
  refine vp ?_
  refine vn ?_
  refine Wp.seq ?_
  refine sD h F (fun F h => ?_) fun F h => ?_
  refine cF ?_
  refine Wp.exit ?_
  refine sh ?_
  refine rg0 ?_
  iterate 2 refine vp ?_
  refine vn ?_
  exact nx [some 0, some 1] ((IntKind.i64.wrap (p2340 + 1)), l2359, p2360) h
  refine cT ?_
  refine Wp.skip ?_
  refine sh ?_
  refine Wp.seq ?_
  refine Wp.block ?_
  refine rs0 ?_
  refine eI h F fun x2363 F h => ?_
  iterate 3 refine vp ?_
  refine vn ?_
  refine rs0 ?_
  iterate 4 refine vp ?_
  refine vn ?_
  refine sB h F (fun F h => ?_) fun F h => ?_
  refine cF ?_
  refine Wp.skip ?_
  refine sh ?_
  refine rg0 ?_
  iterate 2 refine vp ?_
  refine vn ?_
  exact nx [some 0, some 1] ((IntKind.i64.wrap (p2358 + 1)), l2359, p2360) h
  refine cT ?_
  refine rs0 ?_
  iterate 3 refine vp ?_
  refine vn ?_
  refine rg0 ?_
  iterate 3 refine vp ?_
  refine gd h F fun F h => ?_
  refine vp ?_
  refine nm cS h F fun l2364 F h => ?_
  refine vp ?_
  refine vn ?_
  refine sh ?_
  refine rg0 ?_
  iterate 2 refine vp ?_
  refine vn ?_
  exact nx [some 2, some 1] ((IntKind.i64.wrap (p2358 + 1)), l2364, (mPut p2360 x2363 true)) h

theorem con_law14_weight (n : Nat) : ∀ {t0 : TreeTree} {deep1 : Int} {r : Int}, law14_weight n t0 deep1 = some r → Con Tryz.prog G0 44 [.agg [.int .i64 t0.Kind, .int .i64 t0.N, aL cTreeTree t0.Kids], .int .i64 deep1] (.int .i64 r) [] := by
  induction n with
  | zero => intro t0 deep1 r h; simp [law14_weight] at h
  | succ n Hslf_law14_weight =>
   intro t0 deep1 r h
   refine con_of (T := TT0) tt_ok Tryz.func44 (c := _) (by unfold Tryz.f44; rfl) Tryz.ntmps44 (rs := [.tmp 4]) (by rw [Tryz.results44]) (by unfold Tryz.f44; rfl) (by simp) ?_
   simp only [argsCh]
   have F := True.intro
   dsimp only [law14_weight] at h
   refine rs0 ?_
   iterate 2 refine vp ?_
   refine vn ?_
   refine Wp.seq ?_
   refine rs0 ?_
   iterate 2 refine vp ?_
   refine vn ?_
   refine sD h F (fun F h => ?_) fun F h => ?_
   refine cF ?_
   refine Wp.skip ?_
   refine sh ?_
   refine rs0 ?_
   refine vp ?_
   refine vn ?_
   refine Wp.seq ?_
   refine rs0 ?_
   iterate 4 refine vp ?_
   refine vn ?_
   refine Wp.block ?_
   refine lp [] (fun x : Int × Int => { ch := [(1, .int .i64 deep1), (5, .int .i64 x.2), (11, aL cTreeTree t0.Kids), (12, .int .i64 (t0.Kids.length : Int)), (13, .int .i64 x.1)], hp := [], base := 0, n := 27, cond := True, gl := G0 }) (fun m x => law14_weight_L1 t0 deep1 (law14_weight n) m x.1 x.2 = some r) n (0, 1) h ?_
   rintro rec_n1 ⟨p4, p5⟩ h
   dsimp only [law14_weight_L1] at h
   try dsimp only
   refine rs0 ?_
   refine vp ?_
   refine vn ?_
   refine Wp.seq ?_
   refine sD h F (fun F h => ?_) fun F h => ?_
   refine cF ?_
   refine Wp.exit ?_
   refine sh ?_
   refine rs0 ?_
   iterate 2 refine vp ?_
   refine vn ?_
   cases h
   exact Wp.ret en0
   refine cT ?_
   refine Wp.skip ?_
   refine sh ?_
   refine Wp.seq ?_
   refine Wp.block ?_
   refine rs0 ?_
   refine eI h F fun x9 F h => ?_
   iterate 4 refine vp ?_
   refine vn ?_
   refine rs0 ?_
   iterate 4 refine vp ?_
   obtain ⟨r11, hr10, h⟩ := obind h
   refine vc (Hslf_law14_weight hr10) ?_
   iterate 2 refine vp ?_
   refine vn ?_
   refine rs0 ?_
   iterate 2 refine vp ?_
   refine vn ?_
   refine sD h F (fun F h => ?_) fun F h => ?_
   refine cF ?_
   refine Wp.skip ?_
   refine sh ?_
   refine rg0 ?_
   iterate 2 refine vp ?_
   refine vn ?_
   exact nx [] ((IntKind.i64.wrap (p4 + 1)), (IntKind.i64.wrap (p5 + r11))) h
   refine cT ?_
   refine rs0 ?_
   refine vp ?_
   refine vn ?_
   cases h
   exact Wp.ret en0
   refine cT ?_
   refine rs0 ?_
   refine vp ?_
   refine vn ?_
   cases h
   exact Wp.ret en0

theorem con_slices_Equal_api_Contact {n : Nat} {s10 : List ApiContact} {s21 : List ApiContact} {r : Bool} (h : slices_Equal_api_Contact n s10 s21 = some r) : Con Tryz.prog G0 31 [aL cApiContact s10, aL cApiContact s21] (.bool r) [] := by
  refine con_of (T := TT0) tt_ok Tryz.func31 (c := _) (by unfold Tryz.f31; rfl) Tryz.ntmps31 (rs := [.tmp 4]) (by rw [Tryz.results31]) (by unfold Tryz.f31; rfl) (by simp) ?_
  simp only [argsCh]
  have F := True.intro
  dsimp only [slices_Equal_api_Contact] at h
  refine rs0 ?_
  refine vp ?_
  refine vn ?_
  refine Wp.seq ?_
  refine rs0 ?_
  iterate 5 refine vp ?_
  refine vn ?_
  refine sB h F (fun F h => ?_) fun F h => ?_
  refine cF ?_
  refine Wp.skip ?_
  refine sh ?_
  refine Wp.seq ?_
  refine rs0 ?_
  iterate 3 refine vp ?_
  refine vn ?_
  refine Wp.block ?_
  refine lp [] (fun p5913 : Int => { ch := [(0, aL cApiContact s10), (1, aL cApiContact s21), (12, .int .i64 (s10.length : Int)), (13, .int .i64 p5913)], hp := [], base := 0, n := 26, cond := True, gl := G0 }) (fun m x => slices_Equal_api_Contact_L1 s10 s21 m x = some r) n 0 h ?_
  rintro rec_n1 p5913 h
  dsimp only [slices_Equal_api_Contact_L1] at h
  try dsimp only
  refine rs0 ?_
  refine vp ?_
  refine vn ?_
  refine Wp.seq ?_
  refine sD h F (fun F h => ?_) fun F h => ?_
  refine cF ?_
  refine Wp.exit ?_
  refine sh ?_
  refine rs0 ?_
  refine vp ?_
  refine vn ?_
  cases h
  exact Wp.ret en0
  refine cT ?_
  refine Wp.skip ?_
  refine sh ?_
  refine Wp.seq ?_
  refine Wp.block ?_
  refine rs0 ?_
  iterate 2 refine vp ?_
  refine vn ?_
  refine dw (fun _ => false) [] ?_
  refine du 2 ?_
  refine eI h F fun x5916 F h => ?_
  refine du 4 ?_
  refine eI h F fun x5917 F h => ?_
  refine du 3 ?_
  refine dn ?_
  refine sB h F (fun F h => ?_) fun F h => ?_
  refine cF ?_
  refine Wp.skip ?_
  refine sh ?_
  refine rg0 ?_
  iterate 2 refine vp ?_
  refine vn ?_
  exact nx [] (IntKind.i64.wrap (p5913 + 1)) h
  refine cT ?_
  refine rs0 ?_
  refine vp ?_
  refine vn ?_
  cases h
  exact Wp.ret en0
  refine cT ?_
  refine rs0 ?_
  refine vp ?_
  refine vn ?_
  cases h
  exact Wp.ret en0

theorem con_slices_Min_int {n : Nat} {x_0 : List Int} {r : Int} (h : slices_Min_int n x_0 = some r) : Con Tryz.prog G0 72 [aL (cI .i64) x_0] (.int .i64 r) [] := by
  refine con_of (T := TT0) tt_ok Tryz.func72 (c := _) (by unfold Tryz.f72; rfl) Tryz.ntmps72 (rs := [.tmp 2]) (by rw [Tryz.results72]) (by unfold Tryz.f72; rfl) (by simp) ?_
  simp only [argsCh]
  have F := True.intro
  dsimp only [slices_Min_int] at h
  refine rs0 ?_
  refine vp ?_
  refine vn ?_
  refine Wp.seq ?_
  refine rs0 ?_
  iterate 3 refine vp ?_
  refine vn ?_
  refine sD h F (fun F h => ?_) fun F h => ?_
  refine cF ?_
  refine Wp.skip ?_
  refine sh ?_
  refine rs0 ?_
  refine vp ?_
  refine eN (m := 0) h F fun x4428 F h => ?_
  iterate 3 refine vp ?_
  refine vn ?_
  refine Wp.seq ?_
  refine rs0 ?_
  refine vp ?_
  refine vn ?_
  refine Wp.block ?_
  refine lp [] (fun x : Int × Int => { ch := [(0, aL (cI .i64) x_0), (3, .int .i64 x.1), (4, .int .i64 x.2)], hp := [], base := 0, n := 25, cond := True, gl := G0 }) (fun m x => slices_Min_int_L1 x_0 m x.1 x.2 = some r) n (x4428, 1) h ?_
  rintro rec_n1 ⟨x4430, p4431⟩ h
  dsimp only [slices_Min_int_L1] at h
  try dsimp only
  refine Wp.seq ?_
  refine rs0 ?_
  iterate 4 refine vp ?_
  refine vn ?_
  refine sD h F (fun F h => ?_) fun F h => ?_
  refine cF ?_
  refine Wp.exit ?_
  refine sh ?_
  refine rs0 ?_
  iterate 2 refine vp ?_
  refine vn ?_
  cases h
  exact Wp.ret en0
  refine cT ?_
  refine Wp.skip ?_
  refine sh ?_
  refine Wp.seq ?_
  refine Wp.block ?_
  refine rg0 ?_
  iterate 3 refine vp ?_
  refine eI h F fun x4433 F h => ?_
  iterate 4 refine vp ?_
  refine vn ?_
  refine sh ?_
  refine rg0 ?_
  iterate 3 refine vp ?_
  refine vn ?_
  exact nx [] ((imin x4430 x4433), (IntKind.i64.wrap (p4431 + 1))) h
  refine cT ?_
  refine rg0 ?_
  cases h

theorem con_slices_Index_string {n : Nat} {s0 : List Str} {v1 : Str} {r : Int} (h : slices_Index_string n s0 v1 = some r) : Con Tryz.prog G0 139 [aL cS s0, .str v1] (.int .i64 r) [] := by
  refine con_of (T := TT0) tt_ok Tryz.func139 (c := _) (by unfold Tryz.f139; rfl) Tryz.ntmps139 (rs := [.tmp 4]) (by rw [Tryz.results139]) (by unfold Tryz.f139; rfl) (by simp) ?_
  simp only [argsCh]
  have F := True.intro
  dsimp only [slices_Index_string] at h
  refine rs0 ?_
  refine vp ?_
  refine vn ?_
  refine Wp.seq ?_
  refine rs0 ?_
  iterate 3 refine vp ?_
  refine vn ?_
  refine Wp.block ?_
  refine lp [] (fun p3389 : Int => { ch := [(0, aL cS s0), (1, .str v1), (7, .int .i64 (s0.length : Int)), (8, .int .i64 p3389)], hp := [], base := 0, n := 19, cond := True, gl := G0 }) (fun m x => slices_Index_string_L1 s0 v1 m x = some r) n 0 h ?_
  rintro rec_n1 p3389 h
  dsimp only [slices_Index_string_L1] at h
  try dsimp only
  refine rs0 ?_
  refine vp ?_
  refine vn ?_
  refine Wp.seq ?_
  refine sD h F (fun F h => ?_) fun F h => ?_
  refine cF ?_
  refine Wp.exit ?_
  refine sh ?_
  refine rs0 ?_
  refine vp ?_
  refine vn ?_
  cases h
  exact Wp.ret en0
  refine cT ?_
  refine Wp.skip ?_
  refine sh ?_
  refine Wp.seq ?_
  refine Wp.block ?_
  refine rs0 ?_
  iterate 2 refine vp ?_
  refine vn ?_
  refine rs0 ?_
  iterate 3 refine vp ?_
  refine eI h F fun x3391 F h => ?_
  iterate 3 refine vp ?_
  refine vn ?_
  refine sE h F (fun _ F h => ?_) fun _ F h => ?_
  refine cF ?_
  refine Wp.skip ?_
  refine sh ?_
  refine rg0 ?_
  iterate 2 refine vp ?_
  refine vn ?_
  exact nx [] (IntKind.i64.wrap (p3389 + 1)) h
  refine cT ?_
  refine rs0 ?_
  iterate 2 refine vp ?_
  refine vn ?_
  cases h
  exact Wp.ret en0

theorem con_tree_Tree_check_1 {n : Nat} {k0 : TreeTree} {b0 : TreeTree} {r : Bool} (h : tree_Tree_check_1 n k0 b0 = some r) : ConH Tryz.prog G0 92 [.agg [.int .i64 k0.Kind, .int .i64 k0.N, aL cTreeTree k0.Kids], .hptr 0 0 0] [.var [.int .i64 b0.Kind, .int .i64 b0.N, aL cTreeTree b0.Kids]] (.bool r) [.var [.int .i64 b0.Kind, .int .i64 b0.N, aL cTreeTree b0.Kids]] := by
  refine conH_of (T := TT0) tt_ok Tryz.func92 (c := _) (by unfold Tryz.f92; rfl) Tryz.ntmps92 (rs := [.tmp 3]) (by rw [Tryz.results92]) (by unfold Tryz.f92; rfl) (by simp) (k := 1) rfl rfl ?_
  try simp only [argsCh]
  have F := True.intro
  dsimp only [tree_Tree_check_1] at h
  refine rs0 ?_
  iterate 2 refine vp ?_
  refine vn ?_
  refine rs0 ?_
  iterate 6 refine vp ?_
  refine vn ?_
  cases h
  exact Wp.ret (enH [some 0])

theorem con_graph_Outgoing_1 {n : Nat} {c0 : ApiContact} {b0 : Str} {r : Bool} (h : graph_Outgoing_1 n c0 b0 = some r) : ConH Tryz.prog G0 168 [.agg (cApiContact c0), .hptr 0 0 0] [.var [.str b0]] (.bool r) [.var [.str b0]] := by
  refine conH_of (T := TT0) tt_ok Tryz.func168 (c := _) (by unfold Tryz.f168; rfl) Tryz.ntmps168 (rs := [.tmp 3]) (by rw [Tryz.results168]) (by unfold Tryz.f168; rfl) (by simp) (k := 1) rfl rfl ?_
  try simp only [argsCh]
  have F := True.intro
  dsimp only [graph_Outgoing_1] at h
  refine rs0 ?_
  iterate 2 refine vp ?_
  refine vn ?_
  refine rs0 ?_
  iterate 5 refine vp ?_
  refine vn ?_
  cases h
  exact Wp.ret (enH [some 0])

end Go.Proofs.YtaebdeidbibfkaaGreatDoor
