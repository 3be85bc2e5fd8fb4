/- Contracts: models of functions are right. No law is proved here. -/
import Derived.Test.YtaebdeidbibfkaaDoorJGMod
import Derived.Test.YtaebdeidbibfkaaDoorJTaj
import Derived.Test.YtaebdeidbibfkaaDoorJSo
namespace Go.Proofs.YtaebdeidbibfkaaDoor
open Go.Av Go.G
attribute [-simp] Int.natCast_tdiv_eq_ediv
attribute [local simp] runf guardA opf St.ev Go.Av.look St.setd constAV constAV0 opBin opLen intBin St.need lookT TT0 tab resA resOne resAll blt_dec ble_dec beq_dec isPure
attribute [local simp] opMakeSlice opCopy opIndexAddr opLoad opStore St.mem St.rows opUn calleeA toArgs toArg toArg0 toArgs0 shift shift0 shift1 splice cellsOf isFree ofCells TS.isAgg isCell strBin opConvert
attribute [local simp] opSlice3 opClear fz_clear opBuildSlice fillA opAppend eqC eqA cksB ckB St.newBox runI valKind withinB readsHp refsD refs noSl opFieldAddr opBuild opMax opMin placeOf Op.operands Call.operands opIndex opExtract opSlice opField partA
attribute [local simp] loA hiA lenA opMakeMap opLookup opMapUpdate keyOk findA_int findA_str findA_bool putA_strB putA_strI putA_strS putA_intB putA_intI putA_intS putA_boolI putA_boolB byteRow_rwN bytesOf_rwN opBytesStr mAV_length mAV_nil cA1 cA2 cA3 cA4 opNilCheck opMakeFunc opRange
attribute [local simp] aL cI cB cS cL rw_map fz_rw fz_const dropRow_rw fz_append fz_set fz_copy fz_rows rowLen_rw rowsLen_nil rowsLen_cons rowsLen_append rowsLen_map rowsLen_dm rowsLen_tm rowsLen_take rowsLen_drop rowsLen_replicate take_map_len take_map_le drop_map_len take_drop_len chunks isScalar isScalar0
attribute [local simp] putBack putAt objMap mapC mapA mapT map0 bid rid memB passed closedB argsH argH argH0 argsH0 objIds ids0 idsC isLocT isLocA isLocC isLoc0 LocObj
attribute [local congr] bind_congr1 map_congr1 cond_congr1
attribute [local simp] cApiAddr cApiContact cApiCoil cApiRung cApiIns cApiLadder cApiSize cApiProgram cReducePair cReduceEdge cTreeTree_eq TreeTree_Kind_mk TreeTree_N_mk TreeTree_Kids_mk eta_TreeTree
variable [Drawn]
set_option maxHeartbeats 4000000
set_option linter.unusedSectionVars false
set_option maxRecDepth 20000
set_option linter.unusedSimpArgs false
set_option linter.unusedVariables false
theorem con_tree_Tree_depth (n : Nat) : ∀ {t0 : TreeTree} {edge1 : List Bool} {r : Int}, tree_Tree_depth n t0 edge1 = some r → Con Tryd.prog G0 120 [.agg [.int .i64 t0.Kind, .int .i64 t0.N, aL cTreeTree t0.Kids], aL cB edge1] (.int .i64 r) [] := by
  induction n with
  | zero => intro t0 edge1 r h; simp [tree_Tree_depth] at h
  | succ n Hslf_tree_Tree_depth =>
   intro t0 edge1 r h
   refine con_of (T := TT0) tt_ok Tryd.func120 (c := _) (by unfold Tryd.f120; rfl) Tryd.ntmps120 (rs := [.tmp 4]) (by rw [Tryd.results120]) (by unfold Tryd.f120; rfl) (by simp) ?_
   simp only [argsCh]
   have F := True.intro
   dsimp only [tree_Tree_depth] at h
   refine rs0 ?_
   iterate 2 refine vp ?_
   refine vn ?_
   refine rs0 ?_
   refine vp ?_
   refine vn ?_
   refine Wp.seq ?_
   refine rs0 ?_
   iterate 4 refine vp ?_
   refine vn ?_
   refine Wp.block ?_
   refine lp [] (fun x : Int × Int => { ch := [(1, aL cB edge1), (5, .int .i64 x.2), (9, aL cTreeTree t0.Kids), (10, .int .i64 (t0.Kids.length : Int)), (11, .int .i64 x.1)], hp := [], base := 0, n := 41, cond := True, gl := G0 }) (fun m x => tree_Tree_depth_L1 t0 edge1 (tree_Tree_depth n) m x.1 x.2 = some r) n (0, 0) h ?_
   rintro rec_n1 ⟨p15321, p15322⟩ h
   dsimp only [tree_Tree_depth_L1] at h
   try dsimp only
   refine rs0 ?_
   refine vp ?_
   refine vn ?_
   refine Wp.seq ?_
   refine sD h F (fun F h => ?_) fun F h => ?_
   refine cF ?_
   refine Wp.exit ?_
   refine sh ?_
   refine rs0 ?_
   iterate 2 refine vp ?_
   refine vn ?_
   cases h
   exact Wp.ret en0
   refine cT ?_
   refine Wp.skip ?_
   refine sh ?_
   refine Wp.seq ?_
   refine Wp.block ?_
   refine rs0 ?_
   refine vp ?_
   refine eI h F fun x15331 F h => ?_
   iterate 5 refine vp ?_
   refine vn ?_
   refine Wp.block ?_
   refine rs0 ?_
   iterate 3 refine vp ?_
   refine vn ?_
   refine sB h F (fun F h => ?_) fun F h => ?_
   refine cF ?_
   refine rs0 ?_
   iterate 4 refine vp ?_
   refine sB h F (fun F h => ?_) fun F h => ?_
   refine vg ?_
   refine vg ?_
   refine vg ?_
   refine eI h F fun x15336 F h => ?_
   refine vg ?_
   refine vg ?_
   iterate 2 refine vp ?_
   refine vn ?_
   refine sB h F (fun F h => ?_) fun F h => ?_
   refine cF ?_
   refine Wp.skip ?_
   refine sh ?_
   refine rg0 ?_
   iterate 2 refine vp ?_
   refine vn ?_
   exact nx [] ((IntKind.i64.wrap (p15321 + 1)), p15322) h
   refine cT ?_
   refine rg0 ?_
   iterate 3 refine vp ?_
   obtain ⟨r15338, hr15337, h⟩ := obind h
   refine vc (Hslf_tree_Tree_depth hr15337) ?_
   iterate 3 refine vp ?_
   refine vn ?_
   refine sh ?_
   refine rg0 ?_
   iterate 2 refine vp ?_
   refine vn ?_
   exact nx [] ((IntKind.i64.wrap (p15321 + 1)), (imax p15322 (IntKind.i64.wrap (1 + r15338)))) h
   refine vs ?_
   refine vs ?_
   refine vs ?_
   refine vs ?_
   refine vs ?_
   iterate 2 refine vp ?_
   refine vn ?_
   refine cT ?_
   refine rg0 ?_
   iterate 3 refine vp ?_
   obtain ⟨r15335, hr15334, h⟩ := obind h
   refine vc (Hslf_tree_Tree_depth hr15334) ?_
   iterate 3 refine vp ?_
   refine vn ?_
   refine sh ?_
   refine rg0 ?_
   iterate 2 refine vp ?_
   refine vn ?_
   exact nx [] ((IntKind.i64.wrap (p15321 + 1)), (imax p15322 (IntKind.i64.wrap (1 + r15335)))) h
   refine cT ?_
   refine rg0 ?_
   iterate 2 refine vp ?_
   obtain ⟨r15333, hr15332, h⟩ := obind h
   refine vc (Hslf_tree_Tree_depth hr15332) ?_
   refine vp ?_
   refine vn ?_
   refine sh ?_
   refine rg0 ?_
   iterate 2 refine vp ?_
   refine vn ?_
   exact nx [] ((IntKind.i64.wrap (p15321 + 1)), r15333) h
theorem con_codegen_Coils {n : Nat} {r_0 : ApiRung} {r : (List ApiIns) × Int} (h : codegen_Coils n r_0 = some r) : Con Tryd.prog G0 62 [.agg (cApiRung r_0)] (.tup [aL cApiIns r.1, .int .i64 r.2]) [] := by
  refine con_of (T := TT0) tt_ok Tryd.func62 (c := _) (by unfold Tryd.f62; rfl) Tryd.ntmps62 (rs := [.tmp 2, .tmp 3]) (by rw [Tryd.results62]) (by unfold Tryd.f62; rfl) (by simp) ?_
  simp only [argsCh]
  have F := True.intro
  dsimp only [codegen_Coils] at h
  refine rs0 ?_
  iterate 3 refine vp ?_
  refine vn ?_
  refine rs0 ?_
  refine vp ?_
  refine vn ?_
  refine Wp.seq ?_
  refine rs0 ?_
  iterate 4 refine vp ?_
  refine vn ?_
  refine Wp.block ?_
  refine lp [none] (fun x : Int × (List ApiIns) => { ch := [(4, .sl 0 0 x.2.length), (8, aL cApiCoil r_0.Coils), (9, .int .i64 (r_0.Coils.length : Int)), (10, .int .i64 x.1)], hp := [.arr 4 x.2.length (rw (x.2.map cApiIns))], base := 0, n := 34, cond := True, gl := G0 }) (fun m x => codegen_Coils_L1 r_0 m x.1 x.2 = some r) n (0, []) h ?_
  rintro rec_n1 ⟨p15924, p15925⟩ h
  dsimp only [codegen_Coils_L1] at h
  try dsimp only
  refine rs0 ?_
  refine vp ?_
  refine vn ?_
  refine Wp.seq ?_
  refine sD h F (fun F h => ?_) fun F h => ?_
  refine cF ?_
  refine Wp.exit ?_
  refine sh ?_
  refine rs0 ?_
  iterate 3 refine vp ?_
  refine vn ?_
  cases h
  exact Wp.ret en0
  refine cT ?_
  refine Wp.skip ?_
  refine sh ?_
  refine Wp.seq ?_
  refine Wp.block ?_
  refine rs0 ?_
  refine eI h F fun x15931 F h => ?_
  iterate 4 refine vp ?_
  refine vn ?_
  refine Wp.seq ?_
  refine rs0 ?_
  iterate 4 refine vp ?_
  refine sD h F (fun F h => ?_) fun F h => ?_
  refine vg ?_
  refine vg ?_
  refine vg ?_
  refine vp ?_
  refine vn ?_
  refine sD h F (fun F h => ?_) fun F h => ?_
  refine cF ?_
  refine Wp.skip ?_
  refine sh ?_
  refine dw1 (fun d => Nat.beq d 31 || Nat.beq d 1031) [0, 1] ?_
  refine du 3 ?_
  refine sP h F (fun F h => ?_) fun F h => ?_
  refine du 6 ?_
  refine gd h F fun F h => ?_
  refine db ?_
  refine nm cApiIns h F fun l15932 F h => ?_
  refine du 1 ?_
  refine dn ?_
  refine sh ?_
  refine rg0 ?_
  iterate 2 refine vp ?_
  refine vn ?_
  exact nx [some 2] ((IntKind.i64.wrap (p15924 + 1)), l15932) h
  refine sP h F (fun F h => ?_) fun F h => ?_
  refine du 6 ?_
  refine gd h F fun F h => ?_
  refine db ?_
  refine nm cApiIns h F fun l15933 F h => ?_
  refine du 1 ?_
  refine dn ?_
  refine sh ?_
  refine rg0 ?_
  iterate 2 refine vp ?_
  refine vn ?_
  exact nx [some 2] ((IntKind.i64.wrap (p15924 + 1)), l15933) h
  refine sP h F (fun F h => ?_) fun F h => ?_
  refine du 6 ?_
  refine gd h F fun F h => ?_
  refine db ?_
  refine nm cApiIns h F fun l15934 F h => ?_
  refine du 1 ?_
  refine dn ?_
  refine sh ?_
  refine rg0 ?_
  iterate 2 refine vp ?_
  refine vn ?_
  exact nx [some 2] ((IntKind.i64.wrap (p15924 + 1)), l15934) h
  refine sP h F (fun F h => ?_) fun F h => ?_
  refine du 6 ?_
  refine gd h F fun F h => ?_
  refine db ?_
  refine nm cApiIns h F fun l15935 F h => ?_
  refine du 1 ?_
  refine dn ?_
  refine sh ?_
  refine rg0 ?_
  iterate 2 refine vp ?_
  refine vn ?_
  exact nx [some 2] ((IntKind.i64.wrap (p15924 + 1)), l15935) h
  cases h
  refine cT ?_
  refine rs0 ?_
  iterate 2 refine vp ?_
  refine vn ?_
  cases h
  exact Wp.ret en0
  refine vs ?_
  refine vs ?_
  refine vs ?_
  refine vp ?_
  refine vn ?_
  refine cT ?_
  refine rs0 ?_
  iterate 2 refine vp ?_
  refine vn ?_
  cases h
  exact Wp.ret en0
theorem con_slices_Min_int {n : Nat} {x_0 : List Int} {r : Int} (h : slices_Min_int n x_0 = some r) : Con Tryd.prog G0 56 [aL (cI .i64) x_0] (.int .i64 r) [] := by
  refine con_of (T := TT0) tt_ok Tryd.func56 (c := _) (by unfold Tryd.f56; rfl) Tryd.ntmps56 (rs := [.tmp 2]) (by rw [Tryd.results56]) (by unfold Tryd.f56; rfl) (by simp) ?_
  simp only [argsCh]
  have F := True.intro
  dsimp only [slices_Min_int] at h
  refine rs0 ?_
  refine vp ?_
  refine vn ?_
  refine Wp.seq ?_
  refine rs0 ?_
  iterate 3 refine vp ?_
  refine vn ?_
  refine sD h F (fun F h => ?_) fun F h => ?_
  refine cF ?_
  refine Wp.skip ?_
  refine sh ?_
  refine rs0 ?_
  refine vp ?_
  refine eN (m := 0) h F fun x15142 F h => ?_
  iterate 3 refine vp ?_
  refine vn ?_
  refine Wp.seq ?_
  refine rs0 ?_
  refine vp ?_
  refine vn ?_
  refine Wp.block ?_
  refine lp [] (fun x : Int × Int => { ch := [(0, aL (cI .i64) x_0), (3, .int .i64 x.1), (4, .int .i64 x.2)], hp := [], base := 0, n := 25, cond := True, gl := G0 }) (fun m x => slices_Min_int_L1 x_0 m x.1 x.2 = some r) n (x15142, 1) h ?_
  rintro rec_n1 ⟨x15144, p15145⟩ h
  dsimp only [slices_Min_int_L1] at h
  try dsimp only
  refine Wp.seq ?_
  refine rs0 ?_
  iterate 4 refine vp ?_
  refine vn ?_
  refine sD h F (fun F h => ?_) fun F h => ?_
  refine cF ?_
  refine Wp.exit ?_
  refine sh ?_
  refine rs0 ?_
  iterate 2 refine vp ?_
  refine vn ?_
  cases h
  exact Wp.ret en0
  refine cT ?_
  refine Wp.skip ?_
  refine sh ?_
  refine Wp.seq ?_
  refine Wp.block ?_
  refine rg0 ?_
  iterate 3 refine vp ?_
  refine eI h F fun x15147 F h => ?_
  iterate 4 refine vp ?_
  refine vn ?_
  refine sh ?_
  refine rg0 ?_
  iterate 3 refine vp ?_
  refine vn ?_
  exact nx [] ((imin x15144 x15147), (IntKind.i64.wrap (p15145 + 1))) h
  refine cT ?_
  refine rg0 ?_
  cases h
theorem con_lex_letter {n : Nat} {c0 : Int} {r : Bool} (h : lex_letter n c0 = some r) : Con Tryd.prog G0 135 [.int .i32 c0] (.bool r) [] := by
  refine con_of (T := TT0) tt_ok Tryd.func135 (c := _) (by unfold Tryd.f135; rfl) Tryd.ntmps135 (rs := [.tmp 2]) (by rw [Tryd.results135]) (by unfold Tryd.f135; rfl) (by simp) ?_
  simp only [argsCh]
  have F := True.intro
  dsimp only [lex_letter] at h
  refine rs0 ?_
  refine vp ?_
  refine vn ?_
  refine rs0 ?_
  iterate 3 refine vp ?_
  refine sD h F (fun F h => ?_) fun F h => ?_
  refine vs ?_
  refine vs ?_
  iterate 2 refine vp ?_
  refine vg ?_
  refine vg ?_
  refine vg ?_
  refine sD h F (fun F h => ?_) fun F h => ?_
  refine vs ?_
  refine vs ?_
  refine vg ?_
  iterate 2 refine vp ?_
  refine vn ?_
  cases h
  exact Wp.ret en0
  refine vg ?_
  refine vg ?_
  refine vg ?_
  iterate 2 refine vp ?_
  refine vn ?_
  cases h
  exact Wp.ret en0
  refine vg ?_
  refine vg ?_
  iterate 2 refine vp ?_
  refine sD h F (fun F h => ?_) fun F h => ?_
  refine vg ?_
  refine vg ?_
  refine vg ?_
  refine sD h F (fun F h => ?_) fun F h => ?_
  refine vs ?_
  refine vs ?_
  refine vg ?_
  iterate 2 refine vp ?_
  refine vn ?_
  cases h
  exact Wp.ret en0
  refine vg ?_
  refine vg ?_
  refine vg ?_
  iterate 2 refine vp ?_
  refine vn ?_
  cases h
  exact Wp.ret en0
  refine vs ?_
  refine vs ?_
  refine vs ?_
  refine vs ?_
  refine vs ?_
  refine vs ?_
  iterate 2 refine vp ?_
  refine vn ?_
  cases h
  exact Wp.ret en0
theorem con_addr_within {n : Nat} {n_0 : Int} {most1 : Int} {r : Bool} (h : addr_within n n_0 most1 = some r) : Con Tryd.prog G0 115 [.int .i64 n_0, .int .i64 most1] (.bool r) [] := by
  refine con_of (T := TT0) tt_ok Tryd.func115 (c := _) (by unfold Tryd.f115; rfl) Tryd.ntmps115 (rs := [.tmp 4]) (by rw [Tryd.results115]) (by unfold Tryd.f115; rfl) (by simp) ?_
  simp only [argsCh]
  have F := True.intro
  dsimp only [addr_within] at h
  refine rs0 ?_
  refine vp ?_
  refine vn ?_
  refine rs0 ?_
  iterate 3 refine vp ?_
  refine sD h F (fun F h => ?_) fun F h => ?_
  refine vs ?_
  refine vs ?_
  refine vs ?_
  iterate 2 refine vp ?_
  refine vn ?_
  cases h
  exact Wp.ret en0
  refine vg ?_
  refine vg ?_
  refine vg ?_
  iterate 2 refine vp ?_
  refine vn ?_
  cases h
  exact Wp.ret en0
theorem con_tree_Tree_check_1 {n : Nat} {k0 : TreeTree} {b0 : TreeTree} {r : Bool} (h : tree_Tree_check_1 n k0 b0 = some r) : ConH Tryd.prog G0 66 [.agg [.int .i64 k0.Kind, .int .i64 k0.N, aL cTreeTree k0.Kids], .hptr 0 0 0] [.var [.int .i64 b0.Kind, .int .i64 b0.N, aL cTreeTree b0.Kids]] (.bool r) [.var [.int .i64 b0.Kind, .int .i64 b0.N, aL cTreeTree b0.Kids]] := by
  refine conH_of (T := TT0) tt_ok Tryd.func66 (c := _) (by unfold Tryd.f66; rfl) Tryd.ntmps66 (rs := [.tmp 3]) (by rw [Tryd.results66]) (by unfold Tryd.f66; rfl) (by simp) (k := 1) rfl rfl ?_
  try simp only [argsCh]
  have F := True.intro
  dsimp only [tree_Tree_check_1] at h
  refine rs0 ?_
  iterate 2 refine vp ?_
  refine vn ?_
  refine rs0 ?_
  iterate 6 refine vp ?_
  refine vn ?_
  cases h
  exact Wp.ret (enH [some 0])
theorem con_codegen_Tree_1 {n : Nat} {c0 : ApiContact} {r : Bool} (h : codegen_Tree_1 n c0 = some r) : Con Tryd.prog G0 36 [.agg (cApiContact c0)] (.bool r) [] := by
  refine con_of (T := TT0) tt_ok Tryd.func36 (c := _) (by unfold Tryd.f36; rfl) Tryd.ntmps36 (rs := [.tmp 2]) (by rw [Tryd.results36]) (by unfold Tryd.f36; rfl) (by simp) ?_
  simp only [argsCh]
  have F := True.intro
  dsimp only [codegen_Tree_1] at h
  refine rs0 ?_
  iterate 2 refine vp ?_
  refine vn ?_
  refine rs0 ?_
  iterate 4 refine vp ?_
  refine sD h F (fun F h => ?_) fun F h => ?_
  refine vg ?_
  refine vg ?_
  refine vg ?_
  iterate 2 refine vp ?_
  refine vn ?_
  cases h
  exact Wp.ret en0
  refine vs ?_
  refine vs ?_
  refine vs ?_
  iterate 2 refine vp ?_
  refine vn ?_
  cases h
  exact Wp.ret en0
theorem con_law17_example {n : Nat} {r : ApiRung} (h : law17_example n  = some r) : Con Tryd.prog G0 33 [] (.agg (cApiRung r)) [] := by
  refine con_of (T := TT0) tt_ok Tryd.func33 (c := _) (by unfold Tryd.f33; rfl) Tryd.ntmps33 (rs := [.cell 0 25]) (by rw [Tryd.results33]) (by unfold Tryd.f33; rfl) (by simp) ?_
  simp only [argsCh]
  have F := True.intro
  dsimp only [law17_example] at h
  refine rs0 ?_
  refine vp ?_
  refine vn ?_
  refine rs0 ?_
  iterate 4 refine vp ?_
  refine nl cApiContact h F fun l57 m F h => ?_
  try simp only [m]
  clear m
  iterate 3 refine vp ?_
  refine nl cApiCoil h F fun l58 m F h => ?_
  try simp only [m]
  clear m
  iterate 2 refine vp ?_
  refine vn ?_
  cases h
  exact Wp.ret en0
theorem con_graph_Incoming_1 {n : Nat} {c0 : ApiContact} {b0 : Str} {r : Bool} (h : graph_Incoming_1 n c0 b0 = some r) : ConH Tryd.prog G0 99 [.agg (cApiContact c0), .hptr 0 0 0] [.var [.str b0]] (.bool r) [.var [.str b0]] := by
  refine conH_of (T := TT0) tt_ok Tryd.func99 (c := _) (by unfold Tryd.f99; rfl) Tryd.ntmps99 (rs := [.tmp 3]) (by rw [Tryd.results99]) (by unfold Tryd.f99; rfl) (by simp) (k := 1) rfl rfl ?_
  try simp only [argsCh]
  have F := True.intro
  dsimp only [graph_Incoming_1] at h
  refine rs0 ?_
  iterate 2 refine vp ?_
  refine vn ?_
  refine rs0 ?_
  iterate 5 refine vp ?_
  refine vn ?_
  cases h
  exact Wp.ret (enH [some 0])
end Go.Proofs.YtaebdeidbibfkaaDoor
