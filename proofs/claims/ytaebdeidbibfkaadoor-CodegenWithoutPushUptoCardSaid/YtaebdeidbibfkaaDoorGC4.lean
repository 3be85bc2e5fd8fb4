/- Contracts: models of functions are right. No law is proved here. -/
import Derived.Test.YtaebdeidbibfkaaDoorGMod
import Derived.Test.YtaebdeidbibfkaaDoorTab
import Derived.Test.YtaebdeidbibfkaaDoorGC1
import Derived.Test.YtaebdeidbibfkaaDoorGC2
import Derived.Test.YtaebdeidbibfkaaDoorGC3
namespace Go.Proofs.YtaebdeidbibfkaaDoor
open Go.Av Go.G
attribute [-simp] Int.natCast_tdiv_eq_ediv
attribute [local simp] runf guardA opf St.ev Go.Av.look St.setd constAV constAV0 opBin opLen intBin St.need lookT TT0 tab resA resOne resAll blt_dec ble_dec beq_dec isPure
attribute [local simp] opMakeSlice opCopy opIndexAddr opLoad opStore St.mem St.rows opUn calleeA toArgs toArg toArg0 toArgs0 shift shift0 shift1 splice cellsOf isFree ofCells TS.isAgg isCell strBin opConvert
attribute [local simp] opSlice3 opClear fz_clear opBuildSlice fillA opAppend eqC eqA cksB ckB St.newBox runI valKind withinB readsHp refsD refs noSl opFieldAddr opBuild opMax opMin placeOf Op.operands Call.operands opIndex opExtract opSlice opField partA
attribute [local simp] loA hiA lenA opMakeMap opLookup opMapUpdate keyOk findA_int findA_str findA_bool putA_strB putA_strI putA_strS putA_intB putA_intI putA_intS putA_boolI putA_boolB mAV_length mAV_nil cA1 cA2 cA3 cA4 opNilCheck opMakeFunc opRange
attribute [local simp] aL cI cB cS cL rw_map fz_rw fz_const dropRow_rw fz_append fz_set fz_copy fz_rows rowLen_rw rowsLen_nil rowsLen_cons rowsLen_append rowsLen_map rowsLen_dm rowsLen_tm rowsLen_take rowsLen_drop rowsLen_replicate take_map_len take_map_le drop_map_len take_drop_len chunks isScalar isScalar0
attribute [local simp] putBack putAt objMap mapC mapA mapT map0 bid rid memB passed closedB argsH argH argH0 argsH0 objIds ids0 idsC isLocT isLocA isLocC isLoc0 LocObj
attribute [local congr] bind_congr1 map_congr1 cond_congr1
attribute [local simp] cApiAddr cApiContact cApiCoil cApiRung cApiIns cApiLadder cApiSize cApiProgram cReducePair cReduceEdge cTreeTree_eq TreeTree_Kind_mk TreeTree_N_mk TreeTree_Kids_mk eta_TreeTree
set_option maxHeartbeats 4000000
set_option maxRecDepth 20000
set_option linter.unusedSimpArgs false
set_option linter.unusedVariables false

theorem con_codegen_maker_lay_v1 (n : Nat) : ∀ {a1 : TreeTree} {b0 : Str} {b0_1 : List ApiContact} {b0_2 : List ApiCoil} {b0_3 : Str} {l1 : List Int} {l2 : List ApiIns} {r : (List ApiIns)}, codegen_maker_lay_v1 n a1 b0 b0_1 b0_2 b0_3 l1 l2 = some r → ConH Tryd.prog G0 38 [.hptr 0 0 0, .agg [.int .i64 a1.Kind, .int .i64 a1.N, aL cTreeTree a1.Kids]] [.var [.str b0, aL cApiContact b0_1, aL cApiCoil b0_2, .str b0_3, .sl 1 0 l1.length, .sl 2 0 l2.length], .arr 1 l1.length (rw (l1.map (cI .i64))), .arr 4 l2.length (rw (l2.map cApiIns))] (.tup []) [.var [.str b0, aL cApiContact b0_1, aL cApiCoil b0_2, .str b0_3, .sl 1 0 l1.length, .sl 3 0 r.length], .arr 1 l1.length (rw (l1.map (cI .i64))), .dead, .arr 4 r.length (rw (r.map cApiIns))] := by
  induction n with
  | zero => intro a1 b0 b0_1 b0_2 b0_3 l1 l2 r h; simp [codegen_maker_lay_v1] at h
  | succ n Hslf_codegen_maker_lay_v1 =>
   intro a1 b0 b0_1 b0_2 b0_3 l1 l2 r h
   refine conH_of (T := TT0) tt_ok Tryd.func38 (c := _) (by unfold Tryd.f38; rfl) Tryd.ntmps38 (rs := []) (by rw [Tryd.results38]) (by unfold Tryd.f38; rfl) (by simp) (k := 3) rfl rfl ?_
   try simp only [argsCh]
   have F := True.intro
   dsimp only [codegen_maker_lay_v1] at h
   refine rs0 ?_
   refine vp ?_
   refine vn ?_
   refine Wp.seq ?_
   refine rs0 ?_
   iterate 3 refine vp ?_
   refine vn ?_
   refine sB h F (fun F h => ?_) fun F h => ?_
   refine cF ?_
   refine Wp.skip ?_
   refine sh ?_
   refine rs0 ?_
   iterate 3 refine vp ?_
   refine eN (m := 0) h F fun x46892 F h => ?_
   iterate 2 refine vp ?_
   obtain ⟨q46894, hr46893, h⟩ := obind h
   refine vh [0, 1, 2] (Hslf_codegen_maker_lay_v1 hr46893) ?_
   refine vn ?_
   refine rs0 ?_
   iterate 2 refine vp ?_
   refine gd h F fun F h => ?_
   refine vp ?_
   refine nm cTreeTree h F fun l46895 F h => ?_
   iterate 2 refine vp ?_
   refine vn ?_
   refine Wp.block ?_
   refine lp [some 0, some 1, some 2, some 4, some 3] (fun x : (List ApiIns) × Int => { ch := [(0, .hptr 0 0 0), (3, .hptr 4 0 0), (45, aL cTreeTree l46895), (46, .int .i64 (l46895.length : Int)), (47, .int .i64 x.2)], hp := [.var [.str b0, aL cApiContact b0_1, aL cApiCoil b0_2, .str b0_3, .sl 1 0 l1.length, .sl 3 0 x.1.length], .arr 1 l1.length (rw (l1.map (cI .i64))), .dead, .arr 4 x.1.length (rw (x.1.map cApiIns)), .var [.int .i64 a1.Kind, .int .i64 a1.N, aL cTreeTree a1.Kids]], base := 3, n := 102, cond := True, gl := G0 }) (fun m x => codegen_maker_lay_v1_L1 n a1 b0 b0_1 b0_2 b0_3 l1 l46895 (codegen_maker_lay_v1 n) m x.1 x.2 = some r) n (q46894, 0) h ?_
   rintro rec_n1 ⟨q46949, p46950⟩ h
   dsimp only [codegen_maker_lay_v1_L1] at h
   try dsimp only
   refine rs0 ?_
   refine vp ?_
   refine vn ?_
   refine Wp.seq ?_
   refine sD h F (fun F h => ?_) fun F h => ?_
   refine cF ?_
   refine Wp.exit ?_
   cases h
   exact n2r (enH [some 0, some 1, some 2, some 3])
   refine cT ?_
   refine Wp.skip ?_
   refine sh ?_
   refine Wp.seq ?_
   refine Wp.block ?_
   refine rs0 ?_
   refine eI h F fun x47004 F h => ?_
   iterate 4 refine vp ?_
   refine vn ?_
   refine jn (fun _ : Unit => { ch := [(0, .hptr 0 0 0), (3, .hptr 4 0 0), (6, .hptr 5 0 0), (45, aL cTreeTree l46895), (46, .int .i64 (l46895.length : Int)), (47, .int .i64 p46950)], hp := [.var [.str b0, aL cApiContact b0_1, aL cApiCoil b0_2, .str b0_3, .sl 1 0 l1.length, .sl 3 0 q46949.length], .arr 1 l1.length (rw (l1.map (cI .i64))), .dead, .arr 4 q46949.length (rw (q46949.map cApiIns)), .var [.int .i64 a1.Kind, .int .i64 a1.N, aL cTreeTree a1.Kids], .var [.int .i64 x47004.Kind, .int .i64 x47004.N, aL cTreeTree x47004.Kids]], base := 3, n := 102, cond := True, gl := G0 }) (fun x => codegen_maker_lay_v1_J2 n a1 b0 b0_1 b0_2 b0_3 l1 q46949 p46950 (codegen_maker_lay_v1_L1 n a1 b0 b0_1 b0_2 b0_3 l1 l46895 (codegen_maker_lay_v1 n) rec_n1) x47004 (codegen_maker_lay_v1 n) = some r) ?_ ?_
   clear h
   rintro _ h
   dsimp only [codegen_maker_lay_v1_J2] at h
   try dsimp only
   refine rs0 ?_
   iterate 2 refine vp ?_
   obtain ⟨q47033, hr47032, h⟩ := obind h
   refine vh [0, 1, 3] (con_codegen_maker_put_v1 hr47032) ?_
   refine vn ?_
   refine rs0 ?_
   iterate 2 refine vp ?_
   obtain ⟨q47035, hr47034, h⟩ := obind h
   refine vh [0, 1, 6] (Hslf_codegen_maker_lay_v1 hr47034) ?_
   refine vn ?_
   refine rg0 ?_
   iterate 3 refine vp ?_
   refine sP h F (fun F h => ?_) fun F h => ?_
   iterate 3 refine vp ?_
   obtain ⟨q47037, hr47036, h⟩ := obind h
   refine vh [0, 1, 7] (con_codegen_maker_put_v1 hr47036) ?_
   refine vn ?_
   refine sh ?_
   refine rg0 ?_
   iterate 2 refine vp ?_
   refine vn ?_
   exact nx [some 0, some 1, some 2, some 8, some 4] (q47037, (IntKind.i64.wrap (p46950 + 1))) h
   refine sP h F (fun F h => ?_) fun F h => ?_
   iterate 3 refine vp ?_
   obtain ⟨q47039, hr47038, h⟩ := obind h
   refine vh [0, 1, 7] (con_codegen_maker_put_v1 hr47038) ?_
   refine vn ?_
   refine sh ?_
   refine rg0 ?_
   iterate 2 refine vp ?_
   refine vn ?_
   exact nx [some 0, some 1, some 2, some 8, some 4] (q47039, (IntKind.i64.wrap (p46950 + 1))) h
   refine sP h F (fun F h => ?_) fun F h => ?_
   iterate 3 refine vp ?_
   obtain ⟨q47041, hr47040, h⟩ := obind h
   refine vh [0, 1, 7] (con_codegen_maker_put_v1 hr47040) ?_
   refine vn ?_
   refine sh ?_
   refine rg0 ?_
   iterate 2 refine vp ?_
   refine vn ?_
   exact nx [some 0, some 1, some 2, some 8, some 4] (q47041, (IntKind.i64.wrap (p46950 + 1))) h
   cases h
   refine dw (fun _ => false) [0, 1, 3, 5] ?_
   refine du 4 ?_
   refine sB h F (fun F h => ?_) fun F h => ?_
   refine ds ?_
   refine ds ?_
   refine ds ?_
   refine ds ?_
   refine ds ?_
   refine ds ?_
   refine ds ?_
   refine ds ?_
   refine ds ?_
   refine ds ?_
   refine ds ?_
   refine du 1 ?_
   refine dn ?_
   refine cF ?_
   refine Wp.skip ?_
   exact nx [some 0, some 1, some 2, some 3, some 4, some 5] () h
   refine du 1 ?_
   refine du 1 ?_
   refine du 1 ?_
   refine du 1 ?_
   refine du 1 ?_
   refine du 1 ?_
   refine du 1 ?_
   refine eI h F fun x47042 F h => ?_
   refine du 1 ?_
   refine du 1 ?_
   obtain ⟨r47044, hr47043, h⟩ := obind h
   refine dc (con_codegen_sees hr47043) ?_ (hg := by (simp [F]; done))
   refine du 1 ?_
   refine du 1 ?_
   refine dn ?_
   refine sB h F (fun F h => ?_) fun F h => ?_
   refine cF ?_
   refine Wp.skip ?_
   exact nx [some 0, some 1, some 2, some 3, some 4, some 5] () h
   refine cT ?_
   refine dw (fun _ => false) [0, 1, 3, 5] ?_
   refine du 9 ?_
   refine de ?_
   refine db ?_
   refine dn ?_
   refine dw (fun d => Nat.beq d 87 || Nat.beq d 1087) [0, 1, 3, 4, 6] ?_
   refine du 5 ?_
   refine sP h F (fun F h => ?_) fun F h => ?_
   refine du 1 ?_
   refine sP h F (fun F h => ?_) fun F h => ?_
   refine du 5 ?_
   obtain ⟨q47046, hr47045, h⟩ := obind h
   refine dh [0, 1, 3] (con_codegen_maker_put_v1 hr47045) ?_
   refine dn ?_
   refine Wp.exit ?_
   refine sh ?_
   refine rg0 ?_
   iterate 2 refine vp ?_
   refine vn ?_
   exact nx [some 0, some 1, some 2, some 7, some 4] (q47046, (IntKind.i64.wrap (p46950 + 1))) h
   refine sP h F (fun F h => ?_) fun F h => ?_
   refine du 5 ?_
   obtain ⟨q47048, hr47047, h⟩ := obind h
   refine dh [0, 1, 3] (con_codegen_maker_put_v1 hr47047) ?_
   refine dn ?_
   refine Wp.exit ?_
   refine sh ?_
   refine rg0 ?_
   iterate 2 refine vp ?_
   refine vn ?_
   exact nx [some 0, some 1, some 2, some 7, some 4] (q47048, (IntKind.i64.wrap (p46950 + 1))) h
   cases h
   refine sP h F (fun F h => ?_) fun F h => ?_
   refine du 1 ?_
   refine sP h F (fun F h => ?_) fun F h => ?_
   refine du 5 ?_
   obtain ⟨q47050, hr47049, h⟩ := obind h
   refine dh [0, 1, 3] (con_codegen_maker_put_v1 hr47049) ?_
   refine dn ?_
   refine Wp.exit ?_
   refine sh ?_
   refine rg0 ?_
   iterate 2 refine vp ?_
   refine vn ?_
   exact nx [some 0, some 1, some 2, some 7, some 4] (q47050, (IntKind.i64.wrap (p46950 + 1))) h
   refine sP h F (fun F h => ?_) fun F h => ?_
   refine du 5 ?_
   obtain ⟨q47052, hr47051, h⟩ := obind h
   refine dh [0, 1, 3] (con_codegen_maker_put_v1 hr47051) ?_
   refine dn ?_
   refine Wp.exit ?_
   refine sh ?_
   refine rg0 ?_
   iterate 2 refine vp ?_
   refine vn ?_
   exact nx [some 0, some 1, some 2, some 7, some 4] (q47052, (IntKind.i64.wrap (p46950 + 1))) h
   cases h
   refine sP h F (fun F h => ?_) fun F h => ?_
   refine du 1 ?_
   refine sP h F (fun F h => ?_) fun F h => ?_
   refine du 5 ?_
   obtain ⟨q47054, hr47053, h⟩ := obind h
   refine dh [0, 1, 3] (con_codegen_maker_put_v1 hr47053) ?_
   refine dn ?_
   refine Wp.exit ?_
   refine sh ?_
   refine rg0 ?_
   iterate 2 refine vp ?_
   refine vn ?_
   exact nx [some 0, some 1, some 2, some 7, some 4] (q47054, (IntKind.i64.wrap (p46950 + 1))) h
   refine sP h F (fun F h => ?_) fun F h => ?_
   refine du 5 ?_
   obtain ⟨q47056, hr47055, h⟩ := obind h
   refine dh [0, 1, 3] (con_codegen_maker_put_v1 hr47055) ?_
   refine dn ?_
   refine Wp.exit ?_
   refine sh ?_
   refine rg0 ?_
   iterate 2 refine vp ?_
   refine vn ?_
   exact nx [some 0, some 1, some 2, some 7, some 4] (q47056, (IntKind.i64.wrap (p46950 + 1))) h
   cases h
   cases h
   refine cT ?_
   refine dw (fun _ => false) [0, 1, 2, 3] ?_
   refine du 7 ?_
   refine eI h F fun x46879 F h => ?_
   refine du 2 ?_
   refine de ?_
   refine db ?_
   refine dn ?_
   refine dw (fun d => Nat.beq d 36 || Nat.beq d 1036) [0, 1, 2, 3, 4] ?_
   refine du 3 ?_
   refine sP h F (fun F h => ?_) fun F h => ?_
   refine du 10 ?_
   refine eI h F fun x46880 F h => ?_
   refine du 3 ?_
   obtain ⟨q46882, hr46881, h⟩ := obind h
   refine dh [0, 1, 2] (con_codegen_maker_put_v1 hr46881) ?_
   refine dn ?_
   cases h
   exact Wp.ret (enH [some 0, some 1, some 2, some 5])
   refine sP h F (fun F h => ?_) fun F h => ?_
   refine du 10 ?_
   refine eI h F fun x46883 F h => ?_
   refine du 3 ?_
   obtain ⟨q46885, hr46884, h⟩ := obind h
   refine dh [0, 1, 2] (con_codegen_maker_put_v1 hr46884) ?_
   refine dn ?_
   cases h
   exact Wp.ret (enH [some 0, some 1, some 2, some 5])
   refine sP h F (fun F h => ?_) fun F h => ?_
   refine du 10 ?_
   refine eI h F fun x46886 F h => ?_
   refine du 3 ?_
   obtain ⟨q46888, hr46887, h⟩ := obind h
   refine dh [0, 1, 2] (con_codegen_maker_put_v1 hr46887) ?_
   refine dn ?_
   cases h
   exact Wp.ret (enH [some 0, some 1, some 2, some 5])
   refine sP h F (fun F h => ?_) fun F h => ?_
   refine du 10 ?_
   refine eI h F fun x46889 F h => ?_
   refine du 3 ?_
   obtain ⟨q46891, hr46890, h⟩ := obind h
   refine dh [0, 1, 2] (con_codegen_maker_put_v1 hr46890) ?_
   refine dn ?_
   cases h
   exact Wp.ret (enH [some 0, some 1, some 2, some 5])
   cases h

theorem con_slices_IndexFunc_string_c128_v1 {n : Nat} {l0 : List Str} {m2 : List (Str × Bool)} {r : Int} (h : slices_IndexFunc_string_c128_v1 n l0 m2 = some r) : ConH Tryd.prog G0 71 [.sl 0 0 l0.length, .clos 128 [] [.hptr 1 0 0]] [.arr 1 l0.length (rw (l0.map cS)), .var [.mp 2], .map (mAV AV.str cB m2)] (.int .i64 r) [.arr 1 l0.length (rw (l0.map cS)), .var [.mp 2], .map (mAV AV.str cB m2)] := by
  refine conH_of (T := TT0) tt_ok Tryd.func71 (c := _) (by unfold Tryd.f71; rfl) Tryd.ntmps71 (rs := [.tmp 4]) (by rw [Tryd.results71]) (by unfold Tryd.f71; rfl) (by simp) (k := 3) rfl rfl ?_
  try simp only [argsCh]
  have F := True.intro
  dsimp only [slices_IndexFunc_string_c128_v1] at h
  refine rs0 ?_
  refine vp ?_
  refine vn ?_
  refine Wp.seq ?_
  refine rs0 ?_
  iterate 3 refine vp ?_
  refine vn ?_
  refine Wp.block ?_
  refine lp [some 0, some 1, some 2] (fun p45612 : Int => { ch := [(0, .sl 0 0 l0.length), (1, .clos 128 [] [.hptr 1 0 0]), (7, .int .i64 (l0.length : Int)), (8, .int .i64 p45612)], hp := [.arr 1 l0.length (rw (l0.map cS)), .var [.mp 2], .map (mAV AV.str cB m2)], base := 3, n := 19, cond := True, gl := G0 }) (fun m x => slices_IndexFunc_string_c128_v1_L1 n l0 m2 m x = some r) n 0 h ?_
  rintro rec_n1 p45612 h
  dsimp only [slices_IndexFunc_string_c128_v1_L1] at h
  try dsimp only
  refine rs0 ?_
  refine vp ?_
  refine vn ?_
  refine Wp.seq ?_
  refine sD h F (fun F h => ?_) fun F h => ?_
  refine cF ?_
  refine Wp.exit ?_
  refine sh ?_
  refine rs0 ?_
  refine vp ?_
  refine vn ?_
  cases h
  exact Wp.ret (enH [some 0, some 1, some 2])
  refine cT ?_
  refine Wp.skip ?_
  refine sh ?_
  refine Wp.seq ?_
  refine Wp.block ?_
  refine rs0 ?_
  iterate 2 refine vp ?_
  refine vn ?_
  refine rs0 ?_
  iterate 3 refine vp ?_
  refine eI h F fun x45616 F h => ?_
  iterate 2 refine vp ?_
  obtain ⟨r45618, hr45617, h⟩ := obind h
  refine vh [1, 2] (con_graph_gather_2 hr45617) ?_
  refine vn ?_
  refine sB h F (fun F h => ?_) fun F h => ?_
  refine cF ?_
  refine Wp.skip ?_
  refine sh ?_
  refine rg0 ?_
  iterate 2 refine vp ?_
  refine vn ?_
  exact nx [some 0, some 1, some 2] (IntKind.i64.wrap (p45612 + 1)) h
  refine cT ?_
  refine rs0 ?_
  iterate 2 refine vp ?_
  refine vn ?_
  cases h
  exact Wp.ret (enH [some 0, some 1, some 2])

theorem con_slices_IndexFunc_tree_Tree_c66 {n : Nat} {s0 : List TreeTree} {b0 : TreeTree} {r : Int} (h : slices_IndexFunc_tree_Tree_c66 n s0 b0 = some r) : ConH Tryd.prog G0 94 [aL cTreeTree s0, .clos 66 [] [.hptr 0 0 0]] [.var [.int .i64 b0.Kind, .int .i64 b0.N, aL cTreeTree b0.Kids]] (.int .i64 r) [.var [.int .i64 b0.Kind, .int .i64 b0.N, aL cTreeTree b0.Kids]] := by
  refine conH_of (T := TT0) tt_ok Tryd.func94 (c := _) (by unfold Tryd.f94; rfl) Tryd.ntmps94 (rs := [.tmp 4]) (by rw [Tryd.results94]) (by unfold Tryd.f94; rfl) (by simp) (k := 1) rfl rfl ?_
  try simp only [argsCh]
  have F := True.intro
  dsimp only [slices_IndexFunc_tree_Tree_c66] at h
  refine rs0 ?_
  refine vp ?_
  refine vn ?_
  refine Wp.seq ?_
  refine rs0 ?_
  iterate 3 refine vp ?_
  refine vn ?_
  refine Wp.block ?_
  refine lp [some 0] (fun p46426 : Int => { ch := [(0, aL cTreeTree s0), (1, .clos 66 [] [.hptr 0 0 0]), (7, .int .i64 (s0.length : Int)), (8, .int .i64 p46426)], hp := [.var [.int .i64 b0.Kind, .int .i64 b0.N, aL cTreeTree b0.Kids]], base := 1, n := 19, cond := True, gl := G0 }) (fun m x => slices_IndexFunc_tree_Tree_c66_L1 n s0 b0 m x = some r) n 0 h ?_
  rintro rec_n1 p46426 h
  dsimp only [slices_IndexFunc_tree_Tree_c66_L1] at h
  try dsimp only
  refine rs0 ?_
  refine vp ?_
  refine vn ?_
  refine Wp.seq ?_
  refine sD h F (fun F h => ?_) fun F h => ?_
  refine cF ?_
  refine Wp.exit ?_
  refine sh ?_
  refine rs0 ?_
  refine vp ?_
  refine vn ?_
  cases h
  exact Wp.ret (enH [some 0])
  refine cT ?_
  refine Wp.skip ?_
  refine sh ?_
  refine Wp.seq ?_
  refine Wp.block ?_
  refine rs0 ?_
  iterate 2 refine vp ?_
  refine vn ?_
  refine rs0 ?_
  iterate 3 refine vp ?_
  refine eI h F fun x46430 F h => ?_
  iterate 2 refine vp ?_
  obtain ⟨r46432, hr46431, h⟩ := obind h
  refine vh [0] (con_tree_Tree_check_1 hr46431) ?_
  refine vn ?_
  refine sB h F (fun F h => ?_) fun F h => ?_
  refine cF ?_
  refine Wp.skip ?_
  refine sh ?_
  refine rg0 ?_
  iterate 2 refine vp ?_
  refine vn ?_
  exact nx [some 0] (IntKind.i64.wrap (p46426 + 1)) h
  refine cT ?_
  refine rs0 ?_
  iterate 2 refine vp ?_
  refine vn ?_
  cases h
  exact Wp.ret (enH [some 0])

theorem con_addr_CheckAddr {n : Nat} {s0 : ApiSize} {a1 : ApiAddr} {r : Int} (h : addr_CheckAddr n s0 a1 = some r) : Con Tryd.prog G0 136 [.agg (cApiSize s0), .agg (cApiAddr a1)] (.int .i64 r) [] := by
  refine con_of (T := TT0) tt_ok Tryd.func136 (c := _) (by unfold Tryd.f136; rfl) Tryd.ntmps136 (rs := [.tmp 4]) (by rw [Tryd.results136]) (by unfold Tryd.f136; rfl) (by simp) ?_
  simp only [argsCh]
  have F := True.intro
  dsimp only [addr_CheckAddr] at h
  refine rs0 ?_
  iterate 3 refine vp ?_
  refine vn ?_
  refine Wp.seq ?_
  refine Wp.block ?_
  refine rs0 ?_
  iterate 2 refine vp ?_
  obtain ⟨r42006, hr42005, h⟩ := obind h
  refine vc (con_addr_within hr42005) ?_
  iterate 2 refine vp ?_
  refine vn ?_
  refine sB h F (fun F h => ?_) fun F h => ?_
  refine cF ?_
  refine dw (fun _ => false) [0, 1] ?_
  refine du 5 ?_
  obtain ⟨r42008, hr42007, h⟩ := obind h
  refine dc (con_addr_Width hr42007) ?_
  refine du 1 ?_
  obtain ⟨r42010, hr42009, h⟩ := obind h
  refine dc (con_addr_within hr42009) ?_
  refine du 2 ?_
  refine dn ?_
  refine sB h F (fun F h => ?_) fun F h => ?_
  refine cF ?_
  refine Wp.skip ?_
  refine sh ?_
  refine rs0 ?_
  refine vp ?_
  refine vn ?_
  cases h
  exact Wp.ret en0
  refine cT ?_
  refine rs0 ?_
  refine vp ?_
  refine vn ?_
  cases h
  exact Wp.ret en0
  refine cT ?_
  refine rs0 ?_
  refine vp ?_
  refine vn ?_
  cases h
  exact Wp.ret en0

end Go.Proofs.YtaebdeidbibfkaaDoor
