/- Contracts: models of functions are right. No law is proved here. -/
import Derived.Test.YtaebdeidbibfkaaGreatDoorGMod
import Derived.Test.YtaebdeidbibfkaaGreatDoorTaz
namespace Go.Proofs.YtaebdeidbibfkaaGreatDoor
open Go.Av Go.G
attribute [-simp] Int.natCast_tdiv_eq_ediv
attribute [local simp] runf guardA opf St.ev Go.Av.look St.setd constAV constAV0 opBin opLen intBin St.need lookT TT0 tab resA resOne resAll blt_dec ble_dec beq_dec isPure
attribute [local simp] opMakeSlice opCopy opIndexAddr opLoad opStore St.mem St.rows opUn calleeA toArgs toArg toArg0 toArgs0 shift shift0 shift1 splice cellsOf isFree ofCells TS.isAgg isCell strBin opConvert
attribute [local simp] opSlice3 opClear fz_clear opBuildSlice fillA opAppend eqC eqA cksB ckB St.newBox runI valKind withinB readsHp refsD refs noSl opFieldAddr opBuild opMax opMin placeOf Op.operands Call.operands opIndex opExtract opSlice opField partA
attribute [local simp] loA hiA lenA opMakeMap opLookup opMapUpdate keyOk findA_int findA_str findA_bool putA_strB putA_strI putA_strS putA_intB putA_intI putA_intS putA_boolI putA_boolB mAV_length mAV_nil cA1 cA2 cA3 cA4 opNilCheck opMakeFunc opRange
attribute [local simp] aL cI cB cS cL rw_map fz_rw fz_const dropRow_rw fz_append fz_set fz_copy fz_rows rowLen_rw rowsLen_nil rowsLen_cons rowsLen_append rowsLen_map rowsLen_dm rowsLen_tm rowsLen_take rowsLen_drop rowsLen_replicate take_map_len take_map_le drop_map_len take_drop_len chunks isScalar isScalar0
attribute [local simp] putBack putAt objMap mapC mapA mapT map0 bid rid memB passed closedB argsH argH argH0 argsH0 objIds ids0 idsC isLocT isLocA isLocC isLoc0 LocObj
attribute [local congr] bind_congr1 map_congr1 cond_congr1
attribute [local simp] cApiAddr cApiContact cApiCoil cApiRung cApiIns cApiLadder cApiSize cApiProgram cReducePair cReduceEdge cTreeTree_eq TreeTree_Kind_mk TreeTree_N_mk TreeTree_Kids_mk eta_TreeTree cRef14Tree_eq Ref14Tree_Kind_mk Ref14Tree_N_mk Ref14Tree_Kids_mk eta_Ref14Tree
set_option maxHeartbeats 4000000
set_option maxRecDepth 20000
set_option linter.unusedSimpArgs false
set_option linter.unusedVariables false

theorem con_tree_Tree_depth (n : Nat) : ∀ {t0 : TreeTree} {edge1 : List Bool} {r : Int}, tree_Tree_depth n t0 edge1 = some r → Con Tryz.prog G0 156 [.agg [.int .i64 t0.Kind, .int .i64 t0.N, aL cTreeTree t0.Kids], aL cB edge1] (.int .i64 r) [] := by
  induction n with
  | zero => intro t0 edge1 r h; simp [tree_Tree_depth] at h
  | succ n Hslf_tree_Tree_depth =>
   intro t0 edge1 r h
   refine con_of (T := TT0) tt_ok Tryz.func156 (c := _) (by unfold Tryz.f156; rfl) Tryz.ntmps156 (rs := [.tmp 4]) (by rw [Tryz.results156]) (by unfold Tryz.f156; rfl) (by simp) ?_
   simp only [argsCh]
   have F := True.intro
   dsimp only [tree_Tree_depth] at h
   refine rs0 ?_
   iterate 2 refine vp ?_
   refine vn ?_
   refine rs0 ?_
   refine vp ?_
   refine vn ?_
   refine Wp.seq ?_
   refine rs0 ?_
   iterate 4 refine vp ?_
   refine vn ?_
   refine Wp.block ?_
   refine lp [] (fun x : Int × Int => { ch := [(1, aL cB edge1), (5, .int .i64 x.2), (9, aL cTreeTree t0.Kids), (10, .int .i64 (t0.Kids.length : Int)), (11, .int .i64 x.1)], hp := [], base := 0, n := 41, cond := True, gl := G0 }) (fun m x => tree_Tree_depth_L1 t0 edge1 (tree_Tree_depth n) m x.1 x.2 = some r) n (0, 0) h ?_
   rintro rec_n1 ⟨p15137, p15138⟩ h
   dsimp only [tree_Tree_depth_L1] at h
   try dsimp only
   refine rs0 ?_
   refine vp ?_
   refine vn ?_
   refine Wp.seq ?_
   refine sD h F (fun F h => ?_) fun F h => ?_
   refine cF ?_
   refine Wp.exit ?_
   refine sh ?_
   refine rs0 ?_
   iterate 2 refine vp ?_
   refine vn ?_
   cases h
   exact Wp.ret en0
   refine cT ?_
   refine Wp.skip ?_
   refine sh ?_
   refine Wp.seq ?_
   refine Wp.block ?_
   refine rs0 ?_
   refine vp ?_
   refine eI h F fun x15147 F h => ?_
   iterate 5 refine vp ?_
   refine vn ?_
   refine Wp.block ?_
   refine rs0 ?_
   iterate 3 refine vp ?_
   refine vn ?_
   refine sB h F (fun F h => ?_) fun F h => ?_
   refine cF ?_
   refine rs0 ?_
   iterate 4 refine vp ?_
   refine sB h F (fun F h => ?_) fun F h => ?_
   refine vg ?_
   refine vg ?_
   refine vg ?_
   refine eI h F fun x15152 F h => ?_
   refine vg ?_
   refine vg ?_
   iterate 2 refine vp ?_
   refine vn ?_
   refine sB h F (fun F h => ?_) fun F h => ?_
   refine cF ?_
   refine Wp.skip ?_
   refine sh ?_
   refine rg0 ?_
   iterate 2 refine vp ?_
   refine vn ?_
   exact nx [] ((IntKind.i64.wrap (p15137 + 1)), p15138) h
   refine cT ?_
   refine rg0 ?_
   iterate 3 refine vp ?_
   obtain ⟨r15154, hr15153, h⟩ := obind h
   refine vc (Hslf_tree_Tree_depth hr15153) ?_
   iterate 3 refine vp ?_
   refine vn ?_
   refine sh ?_
   refine rg0 ?_
   iterate 2 refine vp ?_
   refine vn ?_
   exact nx [] ((IntKind.i64.wrap (p15137 + 1)), (imax p15138 (IntKind.i64.wrap (1 + r15154)))) h
   refine vs ?_
   refine vs ?_
   refine vs ?_
   refine vs ?_
   refine vs ?_
   iterate 2 refine vp ?_
   refine vn ?_
   refine cT ?_
   refine rg0 ?_
   iterate 3 refine vp ?_
   obtain ⟨r15151, hr15150, h⟩ := obind h
   refine vc (Hslf_tree_Tree_depth hr15150) ?_
   iterate 3 refine vp ?_
   refine vn ?_
   refine sh ?_
   refine rg0 ?_
   iterate 2 refine vp ?_
   refine vn ?_
   exact nx [] ((IntKind.i64.wrap (p15137 + 1)), (imax p15138 (IntKind.i64.wrap (1 + r15151)))) h
   refine cT ?_
   refine rg0 ?_
   iterate 2 refine vp ?_
   obtain ⟨r15149, hr15148, h⟩ := obind h
   refine vc (Hslf_tree_Tree_depth hr15148) ?_
   refine vp ?_
   refine vn ?_
   refine sh ?_
   refine rg0 ?_
   iterate 2 refine vp ?_
   refine vn ?_
   exact nx [] ((IntKind.i64.wrap (p15137 + 1)), r15149) h

theorem con_codegen_Coils {n : Nat} {r_0 : ApiRung} {r : (List ApiIns) × Int} (h : codegen_Coils n r_0 = some r) : Con Tryz.prog G0 19 [.agg (cApiRung r_0)] (.tup [aL cApiIns r.1, .int .i64 r.2]) [] := by
  refine con_of (T := TT0) tt_ok Tryz.func19 (c := _) (by unfold Tryz.f19; rfl) Tryz.ntmps19 (rs := [.tmp 2, .tmp 3]) (by rw [Tryz.results19]) (by unfold Tryz.f19; rfl) (by simp) ?_
  simp only [argsCh]
  have F := True.intro
  dsimp only [codegen_Coils] at h
  refine rs0 ?_
  iterate 3 refine vp ?_
  refine vn ?_
  refine rs0 ?_
  refine vp ?_
  refine vn ?_
  refine Wp.seq ?_
  refine rs0 ?_
  iterate 4 refine vp ?_
  refine vn ?_
  refine Wp.block ?_
  refine lp [none] (fun x : Int × (List ApiIns) => { ch := [(4, .sl 0 0 x.2.length), (8, aL cApiCoil r_0.Coils), (9, .int .i64 (r_0.Coils.length : Int)), (10, .int .i64 x.1)], hp := [.arr 4 x.2.length (rw (x.2.map cApiIns))], base := 0, n := 34, cond := True, gl := G0 }) (fun m x => codegen_Coils_L1 r_0 m x.1 x.2 = some r) n (0, []) h ?_
  rintro rec_n1 ⟨p15740, p15741⟩ h
  dsimp only [codegen_Coils_L1] at h
  try dsimp only
  refine rs0 ?_
  refine vp ?_
  refine vn ?_
  refine Wp.seq ?_
  refine sD h F (fun F h => ?_) fun F h => ?_
  refine cF ?_
  refine Wp.exit ?_
  refine sh ?_
  refine rs0 ?_
  iterate 3 refine vp ?_
  refine vn ?_
  cases h
  exact Wp.ret en0
  refine cT ?_
  refine Wp.skip ?_
  refine sh ?_
  refine Wp.seq ?_
  refine Wp.block ?_
  refine rs0 ?_
  refine eI h F fun x15747 F h => ?_
  iterate 4 refine vp ?_
  refine vn ?_
  refine Wp.seq ?_
  refine rs0 ?_
  iterate 4 refine vp ?_
  refine sD h F (fun F h => ?_) fun F h => ?_
  refine vg ?_
  refine vg ?_
  refine vg ?_
  refine vp ?_
  refine vn ?_
  refine sD h F (fun F h => ?_) fun F h => ?_
  refine cF ?_
  refine Wp.skip ?_
  refine sh ?_
  refine dw1 (fun d => Nat.beq d 31 || Nat.beq d 1031) [0, 1] ?_
  refine du 3 ?_
  refine sP h F (fun F h => ?_) fun F h => ?_
  refine du 6 ?_
  refine gd h F fun F h => ?_
  refine db ?_
  refine nm cApiIns h F fun l15748 F h => ?_
  refine du 1 ?_
  refine dn ?_
  refine sh ?_
  refine rg0 ?_
  iterate 2 refine vp ?_
  refine vn ?_
  exact nx [some 2] ((IntKind.i64.wrap (p15740 + 1)), l15748) h
  refine sP h F (fun F h => ?_) fun F h => ?_
  refine du 6 ?_
  refine gd h F fun F h => ?_
  refine db ?_
  refine nm cApiIns h F fun l15749 F h => ?_
  refine du 1 ?_
  refine dn ?_
  refine sh ?_
  refine rg0 ?_
  iterate 2 refine vp ?_
  refine vn ?_
  exact nx [some 2] ((IntKind.i64.wrap (p15740 + 1)), l15749) h
  refine sP h F (fun F h => ?_) fun F h => ?_
  refine du 6 ?_
  refine gd h F fun F h => ?_
  refine db ?_
  refine nm cApiIns h F fun l15750 F h => ?_
  refine du 1 ?_
  refine dn ?_
  refine sh ?_
  refine rg0 ?_
  iterate 2 refine vp ?_
  refine vn ?_
  exact nx [some 2] ((IntKind.i64.wrap (p15740 + 1)), l15750) h
  refine sP h F (fun F h => ?_) fun F h => ?_
  refine du 6 ?_
  refine gd h F fun F h => ?_
  refine db ?_
  refine nm cApiIns h F fun l15751 F h => ?_
  refine du 1 ?_
  refine dn ?_
  refine sh ?_
  refine rg0 ?_
  iterate 2 refine vp ?_
  refine vn ?_
  exact nx [some 2] ((IntKind.i64.wrap (p15740 + 1)), l15751) h
  cases h
  refine cT ?_
  refine rs0 ?_
  iterate 2 refine vp ?_
  refine vn ?_
  cases h
  exact Wp.ret en0
  refine vs ?_
  refine vs ?_
  refine vs ?_
  refine vp ?_
  refine vn ?_
  refine cT ?_
  refine rs0 ?_
  iterate 2 refine vp ?_
  refine vn ?_
  cases h
  exact Wp.ret en0

theorem con_law12_TooLarge {n : Nat} {r_0 : ApiRung} {r : Int} (h : law12_TooLarge n r_0 = some r) : Con Tryz.prog G0 8 [.agg (cApiRung r_0)] (.int .i64 r) [] := by
  refine con_of (T := TT0) tt_ok Tryz.func8 (c := _) (by unfold Tryz.f8; rfl) Tryz.ntmps8 (rs := [.tmp 2]) (by rw [Tryz.results8]) (by unfold Tryz.f8; rfl) (by simp) ?_
  simp only [argsCh]
  have F := True.intro
  dsimp only [law12_TooLarge] at h
  refine rs0 ?_
  iterate 2 refine vp ?_
  refine vn ?_
  refine rs0 ?_
  refine vp ?_
  refine vn ?_
  refine jn (fun p6 : Int => { ch := [(1, .hptr 0 0 0), (3, .int .i64 p6)], hp := [.var [.str r_0.Label, aL cApiContact r_0.Contacts, aL cApiCoil r_0.Coils, .str r_0.Jump]], base := 0, n := 32, cond := True, gl := G0 }) (fun x => law12_TooLarge_J1 r_0 x = some r) ?_ ?_
  clear h
  rintro p6 h
  dsimp only [law12_TooLarge_J1] at h
  try dsimp only
  refine Wp.seq ?_
  refine rs0 ?_
  iterate 3 refine vp ?_
  refine sD h F (fun F h => ?_) fun F h => ?_
  refine vg ?_
  refine vg ?_
  refine vg ?_
  refine vg ?_
  refine vp ?_
  refine vn ?_
  refine sD h F (fun F h => ?_) fun F h => ?_
  refine cF ?_
  refine Wp.skip ?_
  refine sh ?_
  refine rs0 ?_
  refine vp ?_
  refine vn ?_
  cases h
  exact Wp.ret en0
  refine cT ?_
  refine rs0 ?_
  refine vp ?_
  refine vn ?_
  cases h
  exact Wp.ret en0
  refine vs ?_
  refine vs ?_
  refine vs ?_
  refine vs ?_
  refine vp ?_
  refine vn ?_
  refine cT ?_
  refine rs0 ?_
  refine vp ?_
  refine vn ?_
  cases h
  exact Wp.ret en0
  refine rs0 ?_
  iterate 4 refine vp ?_
  refine vn ?_
  refine Wp.block ?_
  refine lp [some 0] (fun x : Int × Int => { ch := [(1, .hptr 0 0 0), (3, .int .i64 x.1), (7, aL cApiContact r_0.Contacts), (8, .int .i64 (r_0.Contacts.length : Int)), (9, .int .i64 x.2)], hp := [.var [.str r_0.Label, aL cApiContact r_0.Contacts, aL cApiCoil r_0.Coils, .str r_0.Jump]], base := 0, n := 32, cond := True, gl := G0 }) (fun m x => law12_TooLarge_L2 r_0 m x.1 x.2 = some r) n (0, 0) h ?_
  rintro rec_n2 ⟨p8, p9⟩ h
  dsimp only [law12_TooLarge_L2] at h
  try dsimp only
  refine rs0 ?_
  refine vp ?_
  refine vn ?_
  refine Wp.seq ?_
  refine sD h F (fun F h => ?_) fun F h => ?_
  refine cF ?_
  refine Wp.exit ?_
  exact nx [some 0] p8 h
  refine cT ?_
  refine Wp.skip ?_
  refine sh ?_
  refine Wp.seq ?_
  refine Wp.block ?_
  refine rs0 ?_
  refine eI h F fun x11 F h => ?_
  iterate 4 refine vp ?_
  refine vn ?_
  refine rg0 ?_
  iterate 11 refine vp ?_
  refine vn ?_
  refine sh ?_
  refine rg0 ?_
  iterate 2 refine vp ?_
  refine vn ?_
  exact nx [some 0] ((IntKind.i64.wrap (p8 + (IntKind.i64.wrap ((IntKind.i64.wrap (1 + (x11.From.size : Int))) + (x11.To.size : Int))))), (IntKind.i64.wrap (p9 + 1))) h

theorem con_law14_weight (n : Nat) : ∀ {t0 : TreeTree} {deep1 : Int} {r : Int}, law14_weight n t0 deep1 = some r → Con Tryz.prog G0 44 [.agg [.int .i64 t0.Kind, .int .i64 t0.N, aL cTreeTree t0.Kids], .int .i64 deep1] (.int .i64 r) [] := by
  induction n with
  | zero => intro t0 deep1 r h; simp [law14_weight] at h
  | succ n Hslf_law14_weight =>
   intro t0 deep1 r h
   refine con_of (T := TT0) tt_ok Tryz.func44 (c := _) (by unfold Tryz.f44; rfl) Tryz.ntmps44 (rs := [.tmp 4]) (by rw [Tryz.results44]) (by unfold Tryz.f44; rfl) (by simp) ?_
   simp only [argsCh]
   have F := True.intro
   dsimp only [law14_weight] at h
   refine rs0 ?_
   iterate 2 refine vp ?_
   refine vn ?_
   refine Wp.seq ?_
   refine rs0 ?_
   iterate 2 refine vp ?_
   refine vn ?_
   refine sD h F (fun F h => ?_) fun F h => ?_
   refine cF ?_
   refine Wp.skip ?_
   refine sh ?_
   refine rs0 ?_
   refine vp ?_
   refine vn ?_
   refine Wp.seq ?_
   refine rs0 ?_
   iterate 4 refine vp ?_
   refine vn ?_
   refine Wp.block ?_
   refine lp [] (fun x : Int × Int => { ch := [(1, .int .i64 deep1), (5, .int .i64 x.2), (11, aL cTreeTree t0.Kids), (12, .int .i64 (t0.Kids.length : Int)), (13, .int .i64 x.1)], hp := [], base := 0, n := 27, cond := True, gl := G0 }) (fun m x => law14_weight_L1 t0 deep1 (law14_weight n) m x.1 x.2 = some r) n (0, 1) h ?_
   rintro rec_n1 ⟨p15878, p15879⟩ h
   dsimp only [law14_weight_L1] at h
   try dsimp only
   refine rs0 ?_
   refine vp ?_
   refine vn ?_
   refine Wp.seq ?_
   refine sD h F (fun F h => ?_) fun F h => ?_
   refine cF ?_
   refine Wp.exit ?_
   refine sh ?_
   refine rs0 ?_
   iterate 2 refine vp ?_
   refine vn ?_
   cases h
   exact Wp.ret en0
   refine cT ?_
   refine Wp.skip ?_
   refine sh ?_
   refine Wp.seq ?_
   refine Wp.block ?_
   refine rs0 ?_
   refine eI h F fun x15883 F h => ?_
   iterate 4 refine vp ?_
   refine vn ?_
   refine rs0 ?_
   iterate 4 refine vp ?_
   obtain ⟨r15885, hr15884, h⟩ := obind h
   refine vc (Hslf_law14_weight hr15884) ?_
   iterate 2 refine vp ?_
   refine vn ?_
   refine rs0 ?_
   iterate 2 refine vp ?_
   refine vn ?_
   refine sD h F (fun F h => ?_) fun F h => ?_
   refine cF ?_
   refine Wp.skip ?_
   refine sh ?_
   refine rg0 ?_
   iterate 2 refine vp ?_
   refine vn ?_
   exact nx [] ((IntKind.i64.wrap (p15878 + 1)), (IntKind.i64.wrap (p15879 + r15885))) h
   refine cT ?_
   refine rs0 ?_
   refine vp ?_
   refine vn ?_
   cases h
   exact Wp.ret en0
   refine cT ?_
   refine rs0 ?_
   refine vp ?_
   refine vn ?_
   cases h
   exact Wp.ret en0

theorem con_slices_Index_string {n : Nat} {s0 : List Str} {v1 : Str} {r : Int} (h : slices_Index_string n s0 v1 = some r) : Con Tryz.prog G0 139 [aL cS s0, .str v1] (.int .i64 r) [] := by
  refine con_of (T := TT0) tt_ok Tryz.func139 (c := _) (by unfold Tryz.f139; rfl) Tryz.ntmps139 (rs := [.tmp 4]) (by rw [Tryz.results139]) (by unfold Tryz.f139; rfl) (by simp) ?_
  simp only [argsCh]
  have F := True.intro
  dsimp only [slices_Index_string] at h
  refine rs0 ?_
  refine vp ?_
  refine vn ?_
  refine Wp.seq ?_
  refine rs0 ?_
  iterate 3 refine vp ?_
  refine vn ?_
  refine Wp.block ?_
  refine lp [] (fun p14055 : Int => { ch := [(0, aL cS s0), (1, .str v1), (7, .int .i64 (s0.length : Int)), (8, .int .i64 p14055)], hp := [], base := 0, n := 19, cond := True, gl := G0 }) (fun m x => slices_Index_string_L1 s0 v1 m x = some r) n 0 h ?_
  rintro rec_n1 p14055 h
  dsimp only [slices_Index_string_L1] at h
  try dsimp only
  refine rs0 ?_
  refine vp ?_
  refine vn ?_
  refine Wp.seq ?_
  refine sD h F (fun F h => ?_) fun F h => ?_
  refine cF ?_
  refine Wp.exit ?_
  refine sh ?_
  refine rs0 ?_
  refine vp ?_
  refine vn ?_
  cases h
  exact Wp.ret en0
  refine cT ?_
  refine Wp.skip ?_
  refine sh ?_
  refine Wp.seq ?_
  refine Wp.block ?_
  refine rs0 ?_
  iterate 2 refine vp ?_
  refine vn ?_
  refine rs0 ?_
  iterate 3 refine vp ?_
  refine eI h F fun x14057 F h => ?_
  iterate 3 refine vp ?_
  refine vn ?_
  refine sE h F (fun _ F h => ?_) fun _ F h => ?_
  refine cF ?_
  refine Wp.skip ?_
  refine sh ?_
  refine rg0 ?_
  iterate 2 refine vp ?_
  refine vn ?_
  exact nx [] (IntKind.i64.wrap (p14055 + 1)) h
  refine cT ?_
  refine rs0 ?_
  iterate 2 refine vp ?_
  refine vn ?_
  cases h
  exact Wp.ret en0

theorem con_addr_Width {n : Nat} {s0 : ApiSize} {space1 : Int} {r : Int} (h : addr_Width n s0 space1 = some r) : Con Tryz.prog G0 183 [.agg (cApiSize s0), .int .i64 space1] (.int .i64 r) [] := by
  refine con_of (T := TT0) tt_ok Tryz.func183 (c := _) (by unfold Tryz.f183; rfl) Tryz.ntmps183 (rs := [.tmp 4]) (by rw [Tryz.results183]) (by unfold Tryz.f183; rfl) (by simp) ?_
  simp only [argsCh]
  have F := True.intro
  dsimp only [addr_Width] at h
  refine rs0 ?_
  iterate 2 refine vp ?_
  refine vn ?_
  refine Wp.seq ?_
  refine rs0 ?_
  refine vp ?_
  refine vn ?_
  refine Wp.block ?_
  refine rs0 ?_
  iterate 2 refine vp ?_
  refine vn ?_
  refine sB h F (fun F h => ?_) fun F h => ?_
  refine cF ?_
  refine rs0 ?_
  iterate 2 refine vp ?_
  refine vn ?_
  refine sB h F (fun F h => ?_) fun F h => ?_
  refine cF ?_
  refine rs0 ?_
  iterate 2 refine vp ?_
  refine vn ?_
  refine sB h F (fun F h => ?_) fun F h => ?_
  refine cF ?_
  refine Wp.skip ?_
  refine sh ?_
  refine rs0 ?_
  refine vp ?_
  refine vn ?_
  cases h
  exact Wp.ret en0
  refine cT ?_
  refine rs0 ?_
  iterate 3 refine vp ?_
  refine vn ?_
  cases h
  exact Wp.ret en0
  refine cT ?_
  refine rs0 ?_
  iterate 3 refine vp ?_
  refine vn ?_
  cases h
  exact Wp.ret en0
  refine cT ?_
  refine rs0 ?_
  iterate 3 refine vp ?_
  refine vn ?_
  cases h
  exact Wp.ret en0

theorem con_reduce_parallel_1 {n : Nat} {y0 : ReduceEdge} {b0 : ReduceEdge} {r : Bool} (h : reduce_parallel_1 n y0 b0 = some r) : ConH Tryz.prog G0 66 [.agg (cReduceEdge y0), .hptr 0 0 0] [.var [.str b0.pair.from_, .str b0.pair.to_, .int .i64 b0.t_.Kind, .int .i64 b0.t_.N, aL cTreeTree b0.t_.Kids]] (.bool r) [.var [.str b0.pair.from_, .str b0.pair.to_, .int .i64 b0.t_.Kind, .int .i64 b0.t_.N, aL cTreeTree b0.t_.Kids]] := by
  refine conH_of (T := TT0) tt_ok Tryz.func66 (c := _) (by unfold Tryz.f66; rfl) Tryz.ntmps66 (rs := [.tmp 3]) (by rw [Tryz.results66]) (by unfold Tryz.f66; rfl) (by simp) (k := 1) rfl rfl ?_
  try simp only [argsCh]
  have F := True.intro
  dsimp only [reduce_parallel_1] at h
  refine rs0 ?_
  iterate 2 refine vp ?_
  refine vn ?_
  refine rs0 ?_
  iterate 6 refine vp ?_
  refine vn ?_
  cases h
  exact Wp.ret (enH [some 0])

theorem con_addr_within {n : Nat} {n_0 : Int} {most1 : Int} {r : Bool} (h : addr_within n n_0 most1 = some r) : Con Tryz.prog G0 151 [.int .i64 n_0, .int .i64 most1] (.bool r) [] := by
  refine con_of (T := TT0) tt_ok Tryz.func151 (c := _) (by unfold Tryz.f151; rfl) Tryz.ntmps151 (rs := [.tmp 4]) (by rw [Tryz.results151]) (by unfold Tryz.f151; rfl) (by simp) ?_
  simp only [argsCh]
  have F := True.intro
  dsimp only [addr_within] at h
  refine rs0 ?_
  refine vp ?_
  refine vn ?_
  refine rs0 ?_
  iterate 3 refine vp ?_
  refine sD h F (fun F h => ?_) fun F h => ?_
  refine vs ?_
  refine vs ?_
  refine vs ?_
  iterate 2 refine vp ?_
  refine vn ?_
  cases h
  exact Wp.ret en0
  refine vg ?_
  refine vg ?_
  refine vg ?_
  iterate 2 refine vp ?_
  refine vn ?_
  cases h
  exact Wp.ret en0

theorem con_codegen_Tree_1 {n : Nat} {c0 : ApiContact} {r : Bool} (h : codegen_Tree_1 n c0 = some r) : Con Tryz.prog G0 47 [.agg (cApiContact c0)] (.bool r) [] := by
  refine con_of (T := TT0) tt_ok Tryz.func47 (c := _) (by unfold Tryz.f47; rfl) Tryz.ntmps47 (rs := [.tmp 2]) (by rw [Tryz.results47]) (by unfold Tryz.f47; rfl) (by simp) ?_
  simp only [argsCh]
  have F := True.intro
  dsimp only [codegen_Tree_1] at h
  refine rs0 ?_
  iterate 2 refine vp ?_
  refine vn ?_
  refine rs0 ?_
  iterate 4 refine vp ?_
  refine sD h F (fun F h => ?_) fun F h => ?_
  refine vg ?_
  refine vg ?_
  refine vg ?_
  iterate 2 refine vp ?_
  refine vn ?_
  cases h
  exact Wp.ret en0
  refine vs ?_
  refine vs ?_
  refine vs ?_
  iterate 2 refine vp ?_
  refine vn ?_
  cases h
  exact Wp.ret en0

theorem con_graph_gather_2 {n : Nat} {n_0 : Str} {m1 : List (Str × Bool)} {r : Bool} (h : graph_gather_2 n n_0 m1 = some r) : ConH Tryz.prog G0 167 [.str n_0, .hptr 0 0 0] [.var [.mp 1], .map (mAV AV.str cB m1)] (.bool r) [.var [.mp 1], .map (mAV AV.str cB m1)] := by
  refine conH_of (T := TT0) tt_ok Tryz.func167 (c := _) (by unfold Tryz.f167; rfl) Tryz.ntmps167 (rs := [.tmp 3]) (by rw [Tryz.results167]) (by unfold Tryz.f167; rfl) (by simp) (k := 2) rfl rfl ?_
  try simp only [argsCh]
  have F := True.intro
  dsimp only [graph_gather_2] at h
  refine rs0 ?_
  refine vp ?_
  refine vn ?_
  refine rs0 ?_
  iterate 5 refine vp ?_
  refine vn ?_
  cases h
  exact Wp.ret (enH [some 0, some 1])

end Go.Proofs.YtaebdeidbibfkaaGreatDoor
