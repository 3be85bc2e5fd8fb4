/- Contracts: models of functions are right. No law is proved here. -/
import Derived.Test.YtaebdeidbibfkaaDoorHGMod
import Derived.Test.YtaebdeidbibfkaaDoorHTah
import Derived.Test.YtaebdeidbibfkaaDoorHSo
import Derived.Test.YtaebdeidbibfkaaDoorHGC1
import Derived.Test.YtaebdeidbibfkaaDoorHGC2
import Derived.Test.YtaebdeidbibfkaaDoorHGC3
namespace Go.Proofs.YtaebdeidbibfkaaDoor
open Go.Av Go.G
attribute [-simp] Int.natCast_tdiv_eq_ediv
attribute [local simp] runf guardA opf St.ev Go.Av.look St.setd constAV constAV0 opBin opLen intBin St.need lookT TT0 tab resA resOne resAll blt_dec ble_dec beq_dec isPure
attribute [local simp] opMakeSlice opCopy opIndexAddr opLoad opStore St.mem St.rows opUn calleeA toArgs toArg toArg0 toArgs0 shift shift0 shift1 splice cellsOf isFree ofCells TS.isAgg isCell strBin opConvert
attribute [local simp] opSlice3 opClear fz_clear opBuildSlice fillA opAppend eqC eqA cksB ckB St.newBox runI valKind withinB readsHp refsD refs noSl opFieldAddr opBuild opMax opMin placeOf Op.operands Call.operands opIndex opExtract opSlice opField partA
attribute [local simp] loA hiA lenA opMakeMap opLookup opMapUpdate keyOk findA_int findA_str findA_bool putA_strB putA_strI putA_strS putA_intB putA_intI putA_intS putA_boolI putA_boolB mAV_length mAV_nil cA1 cA2 cA3 cA4 opNilCheck opMakeFunc opRange
attribute [local simp] aL cI cB cS cL rw_map fz_rw fz_const dropRow_rw fz_append fz_set fz_copy fz_rows rowLen_rw rowsLen_nil rowsLen_cons rowsLen_append rowsLen_map rowsLen_dm rowsLen_tm rowsLen_take rowsLen_drop rowsLen_replicate take_map_len take_map_le drop_map_len take_drop_len chunks isScalar isScalar0
attribute [local simp] putBack putAt objMap mapC mapA mapT map0 bid rid memB passed closedB argsH argH argH0 argsH0 objIds ids0 idsC isLocT isLocA isLocC isLoc0 LocObj
attribute [local congr] bind_congr1 map_congr1 cond_congr1
attribute [local simp] cApiAddr cApiContact cApiCoil cApiRung cApiIns cApiLadder cApiSize cApiProgram cReducePair cReduceEdge cTreeTree_eq TreeTree_Kind_mk TreeTree_N_mk TreeTree_Kids_mk eta_TreeTree
set_option maxHeartbeats 4000000
set_option maxRecDepth 20000
set_option linter.unusedSimpArgs false
set_option linter.unusedVariables false

theorem con_codegen_maker_lay_v1 (n : Nat) : ∀ {a1 : TreeTree} {b0 : Str} {b0_1 : List ApiContact} {b0_2 : List ApiCoil} {b0_3 : Str} {l1 : List Int} {l2 : List ApiIns} {r : (List ApiIns)}, codegen_maker_lay_v1 n a1 b0 b0_1 b0_2 b0_3 l1 l2 = some r → ConH Tryd.prog G0 38 [.hptr 0 0 0, .agg [.int .i64 a1.Kind, .int .i64 a1.N, aL cTreeTree a1.Kids]] [.var [.str b0, aL cApiContact b0_1, aL cApiCoil b0_2, .str b0_3, .sl 1 0 l1.length, .sl 2 0 l2.length], .arr 1 l1.length (rw (l1.map (cI .i64))), .arr 4 l2.length (rw (l2.map cApiIns))] (.tup []) [.var [.str b0, aL cApiContact b0_1, aL cApiCoil b0_2, .str b0_3, .sl 1 0 l1.length, .sl 3 0 r.length], .arr 1 l1.length (rw (l1.map (cI .i64))), .dead, .arr 4 r.length (rw (r.map cApiIns))] := by
  induction n with
  | zero => intro a1 b0 b0_1 b0_2 b0_3 l1 l2 r h; simp [codegen_maker_lay_v1] at h
  | succ n Hslf_codegen_maker_lay_v1 =>
   intro a1 b0 b0_1 b0_2 b0_3 l1 l2 r h
   refine conH_of (T := TT0) tt_ok Tryd.func38 (c := _) (by unfold Tryd.f38; rfl) Tryd.ntmps38 (rs := []) (by rw [Tryd.results38]) (by unfold Tryd.f38; rfl) (by simp) (k := 3) rfl rfl ?_
   try simp only [argsCh]
   have F := True.intro
   dsimp only [codegen_maker_lay_v1] at h
   refine rs0 ?_
   refine vp ?_
   refine vn ?_
   refine Wp.seq ?_
   refine rs0 ?_
   iterate 3 refine vp ?_
   refine vn ?_
   refine sB h F (fun F h => ?_) fun F h => ?_
   refine cF ?_
   refine Wp.skip ?_
   refine sh ?_
   refine rs0 ?_
   iterate 3 refine vp ?_
   refine eN (m := 0) h F fun x15664 F h => ?_
   iterate 2 refine vp ?_
   obtain ⟨q15666, hr15665, h⟩ := obind h
   refine vh [0, 1, 2] (Hslf_codegen_maker_lay_v1 hr15665) ?_
   refine vn ?_
   refine rs0 ?_
   iterate 2 refine vp ?_
   refine gd h F fun F h => ?_
   refine vp ?_
   refine nm cTreeTree h F fun l15667 F h => ?_
   iterate 2 refine vp ?_
   refine vn ?_
   refine Wp.block ?_
   refine lp [some 0, some 1, some 2, some 4, some 3] (fun x : (List ApiIns) × Int => { ch := [(0, .hptr 0 0 0), (3, .hptr 4 0 0), (45, aL cTreeTree l15667), (46, .int .i64 (l15667.length : Int)), (47, .int .i64 x.2)], hp := [.var [.str b0, aL cApiContact b0_1, aL cApiCoil b0_2, .str b0_3, .sl 1 0 l1.length, .sl 3 0 x.1.length], .arr 1 l1.length (rw (l1.map (cI .i64))), .dead, .arr 4 x.1.length (rw (x.1.map cApiIns)), .var [.int .i64 a1.Kind, .int .i64 a1.N, aL cTreeTree a1.Kids]], base := 3, n := 102, cond := True, gl := G0 }) (fun m x => codegen_maker_lay_v1_L1 n a1 b0 b0_1 b0_2 b0_3 l1 l15667 (codegen_maker_lay_v1 n) m x.1 x.2 = some r) n (q15666, 0) h ?_
   rintro rec_n1 ⟨q15721, p15722⟩ h
   dsimp only [codegen_maker_lay_v1_L1] at h
   try dsimp only
   refine rs0 ?_
   refine vp ?_
   refine vn ?_
   refine Wp.seq ?_
   refine sD h F (fun F h => ?_) fun F h => ?_
   refine cF ?_
   refine Wp.exit ?_
   cases h
   exact n2r (enH [some 0, some 1, some 2, some 3])
   refine cT ?_
   refine Wp.skip ?_
   refine sh ?_
   refine Wp.seq ?_
   refine Wp.block ?_
   refine rs0 ?_
   refine eI h F fun x15776 F h => ?_
   iterate 4 refine vp ?_
   refine vn ?_
   refine jn (fun _ : Unit => { ch := [(0, .hptr 0 0 0), (3, .hptr 4 0 0), (6, .hptr 5 0 0), (45, aL cTreeTree l15667), (46, .int .i64 (l15667.length : Int)), (47, .int .i64 p15722)], hp := [.var [.str b0, aL cApiContact b0_1, aL cApiCoil b0_2, .str b0_3, .sl 1 0 l1.length, .sl 3 0 q15721.length], .arr 1 l1.length (rw (l1.map (cI .i64))), .dead, .arr 4 q15721.length (rw (q15721.map cApiIns)), .var [.int .i64 a1.Kind, .int .i64 a1.N, aL cTreeTree a1.Kids], .var [.int .i64 x15776.Kind, .int .i64 x15776.N, aL cTreeTree x15776.Kids]], base := 3, n := 102, cond := True, gl := G0 }) (fun x => codegen_maker_lay_v1_J2 n a1 b0 b0_1 b0_2 b0_3 l1 q15721 p15722 (codegen_maker_lay_v1_L1 n a1 b0 b0_1 b0_2 b0_3 l1 l15667 (codegen_maker_lay_v1 n) rec_n1) x15776 (codegen_maker_lay_v1 n) = some r) ?_ ?_
   clear h
   rintro _ h
   dsimp only [codegen_maker_lay_v1_J2] at h
   try dsimp only
   refine rs0 ?_
   iterate 2 refine vp ?_
   obtain ⟨q15805, hr15804, h⟩ := obind h
   refine vh [0, 1, 3] (con_codegen_maker_put_v1 hr15804) ?_
   refine vn ?_
   refine rs0 ?_
   iterate 2 refine vp ?_
   obtain ⟨q15807, hr15806, h⟩ := obind h
   refine vh [0, 1, 6] (Hslf_codegen_maker_lay_v1 hr15806) ?_
   refine vn ?_
   refine rg0 ?_
   iterate 3 refine vp ?_
   refine sP h F (fun F h => ?_) fun F h => ?_
   iterate 3 refine vp ?_
   obtain ⟨q15809, hr15808, h⟩ := obind h
   refine vh [0, 1, 7] (con_codegen_maker_put_v1 hr15808) ?_
   refine vn ?_
   refine sh ?_
   refine rg0 ?_
   iterate 2 refine vp ?_
   refine vn ?_
   exact nx [some 0, some 1, some 2, some 8, some 4] (q15809, (IntKind.i64.wrap (p15722 + 1))) h
   refine sP h F (fun F h => ?_) fun F h => ?_
   iterate 3 refine vp ?_
   obtain ⟨q15811, hr15810, h⟩ := obind h
   refine vh [0, 1, 7] (con_codegen_maker_put_v1 hr15810) ?_
   refine vn ?_
   refine sh ?_
   refine rg0 ?_
   iterate 2 refine vp ?_
   refine vn ?_
   exact nx [some 0, some 1, some 2, some 8, some 4] (q15811, (IntKind.i64.wrap (p15722 + 1))) h
   refine sP h F (fun F h => ?_) fun F h => ?_
   iterate 3 refine vp ?_
   obtain ⟨q15813, hr15812, h⟩ := obind h
   refine vh [0, 1, 7] (con_codegen_maker_put_v1 hr15812) ?_
   refine vn ?_
   refine sh ?_
   refine rg0 ?_
   iterate 2 refine vp ?_
   refine vn ?_
   exact nx [some 0, some 1, some 2, some 8, some 4] (q15813, (IntKind.i64.wrap (p15722 + 1))) h
   cases h
   refine dw (fun _ => false) [0, 1, 3, 5] ?_
   refine du 4 ?_
   refine sB h F (fun F h => ?_) fun F h => ?_
   refine ds ?_
   refine ds ?_
   refine ds ?_
   refine ds ?_
   refine ds ?_
   refine ds ?_
   refine ds ?_
   refine ds ?_
   refine ds ?_
   refine ds ?_
   refine ds ?_
   refine du 1 ?_
   refine dn ?_
   refine cF ?_
   refine Wp.skip ?_
   exact nx [some 0, some 1, some 2, some 3, some 4, some 5] () h
   refine du 1 ?_
   refine du 1 ?_
   refine du 1 ?_
   refine du 1 ?_
   refine du 1 ?_
   refine du 1 ?_
   refine du 1 ?_
   refine eI h F fun x15814 F h => ?_
   refine du 1 ?_
   refine du 1 ?_
   obtain ⟨r15816, hr15815, h⟩ := obind h
   refine dc (con_codegen_sees hr15815) ?_ (hg := by (simp [F]; done))
   refine du 1 ?_
   refine du 1 ?_
   refine dn ?_
   refine sB h F (fun F h => ?_) fun F h => ?_
   refine cF ?_
   refine Wp.skip ?_
   exact nx [some 0, some 1, some 2, some 3, some 4, some 5] () h
   refine cT ?_
   refine dw (fun _ => false) [0, 1, 3, 5] ?_
   refine du 9 ?_
   refine de ?_
   refine db ?_
   refine dn ?_
   refine dw (fun d => Nat.beq d 87 || Nat.beq d 1087) [0, 1, 3, 4, 6] ?_
   refine du 5 ?_
   refine sP h F (fun F h => ?_) fun F h => ?_
   refine du 1 ?_
   refine sP h F (fun F h => ?_) fun F h => ?_
   refine du 5 ?_
   obtain ⟨q15818, hr15817, h⟩ := obind h
   refine dh [0, 1, 3] (con_codegen_maker_put_v1 hr15817) ?_
   refine dn ?_
   refine Wp.exit ?_
   refine sh ?_
   refine rg0 ?_
   iterate 2 refine vp ?_
   refine vn ?_
   exact nx [some 0, some 1, some 2, some 7, some 4] (q15818, (IntKind.i64.wrap (p15722 + 1))) h
   refine sP h F (fun F h => ?_) fun F h => ?_
   refine du 5 ?_
   obtain ⟨q15820, hr15819, h⟩ := obind h
   refine dh [0, 1, 3] (con_codegen_maker_put_v1 hr15819) ?_
   refine dn ?_
   refine Wp.exit ?_
   refine sh ?_
   refine rg0 ?_
   iterate 2 refine vp ?_
   refine vn ?_
   exact nx [some 0, some 1, some 2, some 7, some 4] (q15820, (IntKind.i64.wrap (p15722 + 1))) h
   cases h
   refine sP h F (fun F h => ?_) fun F h => ?_
   refine du 1 ?_
   refine sP h F (fun F h => ?_) fun F h => ?_
   refine du 5 ?_
   obtain ⟨q15822, hr15821, h⟩ := obind h
   refine dh [0, 1, 3] (con_codegen_maker_put_v1 hr15821) ?_
   refine dn ?_
   refine Wp.exit ?_
   refine sh ?_
   refine rg0 ?_
   iterate 2 refine vp ?_
   refine vn ?_
   exact nx [some 0, some 1, some 2, some 7, some 4] (q15822, (IntKind.i64.wrap (p15722 + 1))) h
   refine sP h F (fun F h => ?_) fun F h => ?_
   refine du 5 ?_
   obtain ⟨q15824, hr15823, h⟩ := obind h
   refine dh [0, 1, 3] (con_codegen_maker_put_v1 hr15823) ?_
   refine dn ?_
   refine Wp.exit ?_
   refine sh ?_
   refine rg0 ?_
   iterate 2 refine vp ?_
   refine vn ?_
   exact nx [some 0, some 1, some 2, some 7, some 4] (q15824, (IntKind.i64.wrap (p15722 + 1))) h
   cases h
   refine sP h F (fun F h => ?_) fun F h => ?_
   refine du 1 ?_
   refine sP h F (fun F h => ?_) fun F h => ?_
   refine du 5 ?_
   obtain ⟨q15826, hr15825, h⟩ := obind h
   refine dh [0, 1, 3] (con_codegen_maker_put_v1 hr15825) ?_
   refine dn ?_
   refine Wp.exit ?_
   refine sh ?_
   refine rg0 ?_
   iterate 2 refine vp ?_
   refine vn ?_
   exact nx [some 0, some 1, some 2, some 7, some 4] (q15826, (IntKind.i64.wrap (p15722 + 1))) h
   refine sP h F (fun F h => ?_) fun F h => ?_
   refine du 5 ?_
   obtain ⟨q15828, hr15827, h⟩ := obind h
   refine dh [0, 1, 3] (con_codegen_maker_put_v1 hr15827) ?_
   refine dn ?_
   refine Wp.exit ?_
   refine sh ?_
   refine rg0 ?_
   iterate 2 refine vp ?_
   refine vn ?_
   exact nx [some 0, some 1, some 2, some 7, some 4] (q15828, (IntKind.i64.wrap (p15722 + 1))) h
   cases h
   cases h
   refine cT ?_
   refine dw (fun _ => false) [0, 1, 2, 3] ?_
   refine du 7 ?_
   refine eI h F fun x15651 F h => ?_
   refine du 2 ?_
   refine de ?_
   refine db ?_
   refine dn ?_
   refine dw (fun d => Nat.beq d 36 || Nat.beq d 1036) [0, 1, 2, 3, 4] ?_
   refine du 3 ?_
   refine sP h F (fun F h => ?_) fun F h => ?_
   refine du 10 ?_
   refine eI h F fun x15652 F h => ?_
   refine du 3 ?_
   obtain ⟨q15654, hr15653, h⟩ := obind h
   refine dh [0, 1, 2] (con_codegen_maker_put_v1 hr15653) ?_
   refine dn ?_
   cases h
   exact Wp.ret (enH [some 0, some 1, some 2, some 5])
   refine sP h F (fun F h => ?_) fun F h => ?_
   refine du 10 ?_
   refine eI h F fun x15655 F h => ?_
   refine du 3 ?_
   obtain ⟨q15657, hr15656, h⟩ := obind h
   refine dh [0, 1, 2] (con_codegen_maker_put_v1 hr15656) ?_
   refine dn ?_
   cases h
   exact Wp.ret (enH [some 0, some 1, some 2, some 5])
   refine sP h F (fun F h => ?_) fun F h => ?_
   refine du 10 ?_
   refine eI h F fun x15658 F h => ?_
   refine du 3 ?_
   obtain ⟨q15660, hr15659, h⟩ := obind h
   refine dh [0, 1, 2] (con_codegen_maker_put_v1 hr15659) ?_
   refine dn ?_
   cases h
   exact Wp.ret (enH [some 0, some 1, some 2, some 5])
   refine sP h F (fun F h => ?_) fun F h => ?_
   refine du 10 ?_
   refine eI h F fun x15661 F h => ?_
   refine du 3 ?_
   obtain ⟨q15663, hr15662, h⟩ := obind h
   refine dh [0, 1, 2] (con_codegen_maker_put_v1 hr15662) ?_
   refine dn ?_
   cases h
   exact Wp.ret (enH [some 0, some 1, some 2, some 5])
   cases h

theorem con_slices_IndexFunc_string_c128_v1 {n : Nat} {l0 : List Str} {m2 : List (Str × Bool)} {r : Int} (h : slices_IndexFunc_string_c128_v1 n l0 m2 = some r) : ConH Tryd.prog G0 71 [.sl 0 0 l0.length, .clos 128 [] [.hptr 1 0 0]] [.arr 1 l0.length (rw (l0.map cS)), .var [.mp 2], .map (mAV AV.str cB m2)] (.int .i64 r) [.arr 1 l0.length (rw (l0.map cS)), .var [.mp 2], .map (mAV AV.str cB m2)] := by
  refine conH_of (T := TT0) tt_ok Tryd.func71 (c := _) (by unfold Tryd.f71; rfl) Tryd.ntmps71 (rs := [.tmp 4]) (by rw [Tryd.results71]) (by unfold Tryd.f71; rfl) (by simp) (k := 3) rfl rfl ?_
  try simp only [argsCh]
  have F := True.intro
  dsimp only [slices_IndexFunc_string_c128_v1] at h
  refine rs0 ?_
  refine vp ?_
  refine vn ?_
  refine Wp.seq ?_
  refine rs0 ?_
  iterate 3 refine vp ?_
  refine vn ?_
  refine Wp.block ?_
  refine lp [some 0, some 1, some 2] (fun p14337 : Int => { ch := [(0, .sl 0 0 l0.length), (1, .clos 128 [] [.hptr 1 0 0]), (7, .int .i64 (l0.length : Int)), (8, .int .i64 p14337)], hp := [.arr 1 l0.length (rw (l0.map cS)), .var [.mp 2], .map (mAV AV.str cB m2)], base := 3, n := 19, cond := True, gl := G0 }) (fun m x => slices_IndexFunc_string_c128_v1_L1 n l0 m2 m x = some r) n 0 h ?_
  rintro rec_n1 p14337 h
  dsimp only [slices_IndexFunc_string_c128_v1_L1] at h
  try dsimp only
  refine rs0 ?_
  refine vp ?_
  refine vn ?_
  refine Wp.seq ?_
  refine sD h F (fun F h => ?_) fun F h => ?_
  refine cF ?_
  refine Wp.exit ?_
  refine sh ?_
  refine rs0 ?_
  refine vp ?_
  refine vn ?_
  cases h
  exact Wp.ret (enH [some 0, some 1, some 2])
  refine cT ?_
  refine Wp.skip ?_
  refine sh ?_
  refine Wp.seq ?_
  refine Wp.block ?_
  refine rs0 ?_
  iterate 2 refine vp ?_
  refine vn ?_
  refine rs0 ?_
  iterate 3 refine vp ?_
  refine eI h F fun x14341 F h => ?_
  iterate 2 refine vp ?_
  obtain ⟨r14343, hr14342, h⟩ := obind h
  refine vh [1, 2] (con_graph_gather_2 hr14342) ?_
  refine vn ?_
  refine sB h F (fun F h => ?_) fun F h => ?_
  refine cF ?_
  refine Wp.skip ?_
  refine sh ?_
  refine rg0 ?_
  iterate 2 refine vp ?_
  refine vn ?_
  exact nx [some 0, some 1, some 2] (IntKind.i64.wrap (p14337 + 1)) h
  refine cT ?_
  refine rs0 ?_
  iterate 2 refine vp ?_
  refine vn ?_
  cases h
  exact Wp.ret (enH [some 0, some 1, some 2])

theorem con_slices_IndexFunc_tree_Tree_c66 {n : Nat} {s0 : List TreeTree} {b0 : TreeTree} {r : Int} (h : slices_IndexFunc_tree_Tree_c66 n s0 b0 = some r) : ConH Tryd.prog G0 94 [aL cTreeTree s0, .clos 66 [] [.hptr 0 0 0]] [.var [.int .i64 b0.Kind, .int .i64 b0.N, aL cTreeTree b0.Kids]] (.int .i64 r) [.var [.int .i64 b0.Kind, .int .i64 b0.N, aL cTreeTree b0.Kids]] := by
  refine conH_of (T := TT0) tt_ok Tryd.func94 (c := _) (by unfold Tryd.f94; rfl) Tryd.ntmps94 (rs := [.tmp 4]) (by rw [Tryd.results94]) (by unfold Tryd.f94; rfl) (by simp) (k := 1) rfl rfl ?_
  try simp only [argsCh]
  have F := True.intro
  dsimp only [slices_IndexFunc_tree_Tree_c66] at h
  refine rs0 ?_
  refine vp ?_
  refine vn ?_
  refine Wp.seq ?_
  refine rs0 ?_
  iterate 3 refine vp ?_
  refine vn ?_
  refine Wp.block ?_
  refine lp [some 0] (fun p15198 : Int => { ch := [(0, aL cTreeTree s0), (1, .clos 66 [] [.hptr 0 0 0]), (7, .int .i64 (s0.length : Int)), (8, .int .i64 p15198)], hp := [.var [.int .i64 b0.Kind, .int .i64 b0.N, aL cTreeTree b0.Kids]], base := 1, n := 19, cond := True, gl := G0 }) (fun m x => slices_IndexFunc_tree_Tree_c66_L1 n s0 b0 m x = some r) n 0 h ?_
  rintro rec_n1 p15198 h
  dsimp only [slices_IndexFunc_tree_Tree_c66_L1] at h
  try dsimp only
  refine rs0 ?_
  refine vp ?_
  refine vn ?_
  refine Wp.seq ?_
  refine sD h F (fun F h => ?_) fun F h => ?_
  refine cF ?_
  refine Wp.exit ?_
  refine sh ?_
  refine rs0 ?_
  refine vp ?_
  refine vn ?_
  cases h
  exact Wp.ret (enH [some 0])
  refine cT ?_
  refine Wp.skip ?_
  refine sh ?_
  refine Wp.seq ?_
  refine Wp.block ?_
  refine rs0 ?_
  iterate 2 refine vp ?_
  refine vn ?_
  refine rs0 ?_
  iterate 3 refine vp ?_
  refine eI h F fun x15202 F h => ?_
  iterate 2 refine vp ?_
  obtain ⟨r15204, hr15203, h⟩ := obind h
  refine vh [0] (con_tree_Tree_check_1 hr15203) ?_
  refine vn ?_
  refine sB h F (fun F h => ?_) fun F h => ?_
  refine cF ?_
  refine Wp.skip ?_
  refine sh ?_
  refine rg0 ?_
  iterate 2 refine vp ?_
  refine vn ?_
  exact nx [some 0] (IntKind.i64.wrap (p15198 + 1)) h
  refine cT ?_
  refine rs0 ?_
  iterate 2 refine vp ?_
  refine vn ?_
  cases h
  exact Wp.ret (enH [some 0])

theorem con_slices_IndexFunc_api_Contact_c36 {n : Nat} {s0 : List ApiContact} {r : Int} (h : slices_IndexFunc_api_Contact_c36 n s0 = some r) : Con Tryd.prog G0 58 [aL cApiContact s0, .clos 36 [] []] (.int .i64 r) [] := by
  refine con_of (T := TT0) tt_ok Tryd.func58 (c := _) (by unfold Tryd.f58; rfl) Tryd.ntmps58 (rs := [.tmp 4]) (by rw [Tryd.results58]) (by unfold Tryd.f58; rfl) (by simp) ?_
  simp only [argsCh]
  have F := True.intro
  dsimp only [slices_IndexFunc_api_Contact_c36] at h
  refine rs0 ?_
  refine vp ?_
  refine vn ?_
  refine Wp.seq ?_
  refine rs0 ?_
  iterate 3 refine vp ?_
  refine vn ?_
  refine Wp.block ?_
  refine lp [] (fun p15308 : Int => { ch := [(0, aL cApiContact s0), (1, .clos 36 [] []), (7, .int .i64 (s0.length : Int)), (8, .int .i64 p15308)], hp := [], base := 0, n := 19, cond := True, gl := G0 }) (fun m x => slices_IndexFunc_api_Contact_c36_L1 n s0 m x = some r) n 0 h ?_
  rintro rec_n1 p15308 h
  dsimp only [slices_IndexFunc_api_Contact_c36_L1] at h
  try dsimp only
  refine rs0 ?_
  refine vp ?_
  refine vn ?_
  refine Wp.seq ?_
  refine sD h F (fun F h => ?_) fun F h => ?_
  refine cF ?_
  refine Wp.exit ?_
  refine sh ?_
  refine rs0 ?_
  refine vp ?_
  refine vn ?_
  cases h
  exact Wp.ret en0
  refine cT ?_
  refine Wp.skip ?_
  refine sh ?_
  refine Wp.seq ?_
  refine Wp.block ?_
  refine rs0 ?_
  iterate 2 refine vp ?_
  refine vn ?_
  refine rs0 ?_
  iterate 3 refine vp ?_
  refine eI h F fun x15312 F h => ?_
  iterate 2 refine vp ?_
  obtain ⟨r15314, hr15313, h⟩ := obind h
  refine vc (con_codegen_Tree_1 hr15313) ?_
  refine vn ?_
  refine sB h F (fun F h => ?_) fun F h => ?_
  refine cF ?_
  refine Wp.skip ?_
  refine sh ?_
  refine rg0 ?_
  iterate 2 refine vp ?_
  refine vn ?_
  exact nx [] (IntKind.i64.wrap (p15308 + 1)) h
  refine cT ?_
  refine rs0 ?_
  iterate 2 refine vp ?_
  refine vn ?_
  cases h
  exact Wp.ret en0

end Go.Proofs.YtaebdeidbibfkaaDoor
