/- Contracts: models of functions are right. No law is proved here. -/
import Derived.Test.YtaebdeidbibfkaaDoorJGMod
import Derived.Test.YtaebdeidbibfkaaDoorJTaj
import Derived.Test.YtaebdeidbibfkaaDoorJSo
import Derived.Test.YtaebdeidbibfkaaDoorJGC1
import Derived.Test.YtaebdeidbibfkaaDoorJGC2
import Derived.Test.YtaebdeidbibfkaaDoorJGC3
namespace Go.Proofs.YtaebdeidbibfkaaDoor
open Go.Av Go.G
attribute [-simp] Int.natCast_tdiv_eq_ediv
attribute [local simp] runf guardA opf St.ev Go.Av.look St.setd constAV constAV0 opBin opLen intBin St.need lookT TT0 tab resA resOne resAll blt_dec ble_dec beq_dec isPure
attribute [local simp] opMakeSlice opCopy opIndexAddr opLoad opStore St.mem St.rows opUn calleeA toArgs toArg toArg0 toArgs0 shift shift0 shift1 splice cellsOf isFree ofCells TS.isAgg isCell strBin opConvert
attribute [local simp] opSlice3 opClear fz_clear opBuildSlice fillA opAppend eqC eqA cksB ckB St.newBox runI valKind withinB readsHp refsD refs noSl opFieldAddr opBuild opMax opMin placeOf Op.operands Call.operands opIndex opExtract opSlice opField partA
attribute [local simp] loA hiA lenA opMakeMap opLookup opMapUpdate keyOk findA_int findA_str findA_bool putA_strB putA_strI putA_strS putA_intB putA_intI putA_intS putA_boolI putA_boolB byteRow_rwN bytesOf_rwN opBytesStr mAV_length mAV_nil cA1 cA2 cA3 cA4 opNilCheck opMakeFunc opRange
attribute [local simp] aL cI cB cS cL rw_map fz_rw fz_const dropRow_rw fz_append fz_set fz_copy fz_rows rowLen_rw rowsLen_nil rowsLen_cons rowsLen_append rowsLen_map rowsLen_dm rowsLen_tm rowsLen_take rowsLen_drop rowsLen_replicate take_map_len take_map_le drop_map_len take_drop_len chunks isScalar isScalar0
attribute [local simp] putBack putAt objMap mapC mapA mapT map0 bid rid memB passed closedB argsH argH argH0 argsH0 objIds ids0 idsC isLocT isLocA isLocC isLoc0 LocObj
attribute [local congr] bind_congr1 map_congr1 cond_congr1
attribute [local simp] cApiAddr cApiContact cApiCoil cApiRung cApiIns cApiLadder cApiSize cApiProgram cReducePair cReduceEdge cTreeTree_eq TreeTree_Kind_mk TreeTree_N_mk TreeTree_Kids_mk eta_TreeTree
variable [Drawn]
set_option maxHeartbeats 4000000
set_option linter.unusedSectionVars false
set_option maxRecDepth 20000
set_option linter.unusedSimpArgs false
set_option linter.unusedVariables false
theorem con_codegen_maker_lay_v1 (n : Nat) : ∀ {a1 : TreeTree} {b0 : Str} {b0_1 : List ApiContact} {b0_2 : List ApiCoil} {b0_3 : Str} {l1 : List Int} {l2 : List ApiIns} {r : (List ApiIns)}, codegen_maker_lay_v1 n a1 b0 b0_1 b0_2 b0_3 l1 l2 = some r → ConH Tryd.prog G0 38 [.hptr 0 0 0, .agg [.int .i64 a1.Kind, .int .i64 a1.N, aL cTreeTree a1.Kids]] [.var [.str b0, aL cApiContact b0_1, aL cApiCoil b0_2, .str b0_3, .sl 1 0 l1.length, .sl 2 0 l2.length], .arr 1 l1.length (rw (l1.map (cI .i64))), .arr 4 l2.length (rw (l2.map cApiIns))] (.tup []) [.var [.str b0, aL cApiContact b0_1, aL cApiCoil b0_2, .str b0_3, .sl 1 0 l1.length, .sl 3 0 r.length], .arr 1 l1.length (rw (l1.map (cI .i64))), .dead, .arr 4 r.length (rw (r.map cApiIns))] := by
  induction n with
  | zero => intro a1 b0 b0_1 b0_2 b0_3 l1 l2 r h; simp [codegen_maker_lay_v1] at h
  | succ n Hslf_codegen_maker_lay_v1 =>
   intro a1 b0 b0_1 b0_2 b0_3 l1 l2 r h
   refine conH_of (T := TT0) tt_ok Tryd.func38 (c := _) (by unfold Tryd.f38; rfl) Tryd.ntmps38 (rs := []) (by rw [Tryd.results38]) (by unfold Tryd.f38; rfl) (by simp) (k := 3) rfl rfl ?_
   try simp only [argsCh]
   have F := True.intro
   dsimp only [codegen_maker_lay_v1] at h
   refine rs0 ?_
   refine vp ?_
   refine vn ?_
   refine Wp.seq ?_
   refine rs0 ?_
   iterate 3 refine vp ?_
   refine vn ?_
   refine sB h F (fun F h => ?_) fun F h => ?_
   refine cF ?_
   refine Wp.skip ?_
   refine sh ?_
   refine rs0 ?_
   iterate 3 refine vp ?_
   refine eN (m := 0) h F fun x15707 F h => ?_
   iterate 2 refine vp ?_
   obtain ⟨q15709, hr15708, h⟩ := obind h
   refine vh [0, 1, 2] (Hslf_codegen_maker_lay_v1 hr15708) ?_
   refine vn ?_
   refine rs0 ?_
   iterate 2 refine vp ?_
   refine gd h F fun F h => ?_
   refine vp ?_
   refine nm cTreeTree h F fun l15710 F h => ?_
   iterate 2 refine vp ?_
   refine vn ?_
   refine Wp.block ?_
   refine lp [some 0, some 1, some 2, some 4, some 3] (fun x : (List ApiIns) × Int => { ch := [(0, .hptr 0 0 0), (3, .hptr 4 0 0), (45, aL cTreeTree l15710), (46, .int .i64 (l15710.length : Int)), (47, .int .i64 x.2)], hp := [.var [.str b0, aL cApiContact b0_1, aL cApiCoil b0_2, .str b0_3, .sl 1 0 l1.length, .sl 3 0 x.1.length], .arr 1 l1.length (rw (l1.map (cI .i64))), .dead, .arr 4 x.1.length (rw (x.1.map cApiIns)), .var [.int .i64 a1.Kind, .int .i64 a1.N, aL cTreeTree a1.Kids]], base := 3, n := 102, cond := True, gl := G0 }) (fun m x => codegen_maker_lay_v1_L1 n a1 b0 b0_1 b0_2 b0_3 l1 l15710 (codegen_maker_lay_v1 n) m x.1 x.2 = some r) n (q15709, 0) h ?_
   rintro rec_n1 ⟨q15764, p15765⟩ h
   dsimp only [codegen_maker_lay_v1_L1] at h
   try dsimp only
   refine rs0 ?_
   refine vp ?_
   refine vn ?_
   refine Wp.seq ?_
   refine sD h F (fun F h => ?_) fun F h => ?_
   refine cF ?_
   refine Wp.exit ?_
   cases h
   exact n2r (enH [some 0, some 1, some 2, some 3])
   refine cT ?_
   refine Wp.skip ?_
   refine sh ?_
   refine Wp.seq ?_
   refine Wp.block ?_
   refine rs0 ?_
   refine eI h F fun x15819 F h => ?_
   iterate 4 refine vp ?_
   refine vn ?_
   refine jn (fun _ : Unit => { ch := [(0, .hptr 0 0 0), (3, .hptr 4 0 0), (6, .hptr 5 0 0), (45, aL cTreeTree l15710), (46, .int .i64 (l15710.length : Int)), (47, .int .i64 p15765)], hp := [.var [.str b0, aL cApiContact b0_1, aL cApiCoil b0_2, .str b0_3, .sl 1 0 l1.length, .sl 3 0 q15764.length], .arr 1 l1.length (rw (l1.map (cI .i64))), .dead, .arr 4 q15764.length (rw (q15764.map cApiIns)), .var [.int .i64 a1.Kind, .int .i64 a1.N, aL cTreeTree a1.Kids], .var [.int .i64 x15819.Kind, .int .i64 x15819.N, aL cTreeTree x15819.Kids]], base := 3, n := 102, cond := True, gl := G0 }) (fun x => codegen_maker_lay_v1_J2 n a1 b0 b0_1 b0_2 b0_3 l1 q15764 p15765 (codegen_maker_lay_v1_L1 n a1 b0 b0_1 b0_2 b0_3 l1 l15710 (codegen_maker_lay_v1 n) rec_n1) x15819 (codegen_maker_lay_v1 n) = some r) ?_ ?_
   clear h
   rintro _ h
   dsimp only [codegen_maker_lay_v1_J2] at h
   try dsimp only
   refine rs0 ?_
   iterate 2 refine vp ?_
   obtain ⟨q15848, hr15847, h⟩ := obind h
   refine vh [0, 1, 3] (con_codegen_maker_put_v1 hr15847) ?_
   refine vn ?_
   refine rs0 ?_
   iterate 2 refine vp ?_
   obtain ⟨q15850, hr15849, h⟩ := obind h
   refine vh [0, 1, 6] (Hslf_codegen_maker_lay_v1 hr15849) ?_
   refine vn ?_
   refine rg0 ?_
   iterate 3 refine vp ?_
   refine sP h F (fun F h => ?_) fun F h => ?_
   iterate 3 refine vp ?_
   obtain ⟨q15852, hr15851, h⟩ := obind h
   refine vh [0, 1, 7] (con_codegen_maker_put_v1 hr15851) ?_
   refine vn ?_
   refine sh ?_
   refine rg0 ?_
   iterate 2 refine vp ?_
   refine vn ?_
   exact nx [some 0, some 1, some 2, some 8, some 4] (q15852, (IntKind.i64.wrap (p15765 + 1))) h
   refine sP h F (fun F h => ?_) fun F h => ?_
   iterate 3 refine vp ?_
   obtain ⟨q15854, hr15853, h⟩ := obind h
   refine vh [0, 1, 7] (con_codegen_maker_put_v1 hr15853) ?_
   refine vn ?_
   refine sh ?_
   refine rg0 ?_
   iterate 2 refine vp ?_
   refine vn ?_
   exact nx [some 0, some 1, some 2, some 8, some 4] (q15854, (IntKind.i64.wrap (p15765 + 1))) h
   refine sP h F (fun F h => ?_) fun F h => ?_
   iterate 3 refine vp ?_
   obtain ⟨q15856, hr15855, h⟩ := obind h
   refine vh [0, 1, 7] (con_codegen_maker_put_v1 hr15855) ?_
   refine vn ?_
   refine sh ?_
   refine rg0 ?_
   iterate 2 refine vp ?_
   refine vn ?_
   exact nx [some 0, some 1, some 2, some 8, some 4] (q15856, (IntKind.i64.wrap (p15765 + 1))) h
   cases h
   refine dw (fun _ => false) [0, 1, 3, 5] ?_
   refine du 4 ?_
   refine sB h F (fun F h => ?_) fun F h => ?_
   refine ds ?_
   refine ds ?_
   refine ds ?_
   refine ds ?_
   refine ds ?_
   refine ds ?_
   refine ds ?_
   refine ds ?_
   refine ds ?_
   refine ds ?_
   refine ds ?_
   refine du 1 ?_
   refine dn ?_
   refine cF ?_
   refine Wp.skip ?_
   exact nx [some 0, some 1, some 2, some 3, some 4, some 5] () h
   refine du 1 ?_
   refine du 1 ?_
   refine du 1 ?_
   refine du 1 ?_
   refine du 1 ?_
   refine du 1 ?_
   refine du 1 ?_
   refine eI h F fun x15857 F h => ?_
   refine du 1 ?_
   refine du 1 ?_
   obtain ⟨r15859, hr15858, h⟩ := obind h
   refine dc (con_codegen_sees hr15858) ?_ (hg := by (simp [F]; done))
   refine du 1 ?_
   refine du 1 ?_
   refine dn ?_
   refine sB h F (fun F h => ?_) fun F h => ?_
   refine cF ?_
   refine Wp.skip ?_
   exact nx [some 0, some 1, some 2, some 3, some 4, some 5] () h
   refine cT ?_
   refine dw (fun _ => false) [0, 1, 3, 5] ?_
   refine du 9 ?_
   refine de ?_
   refine db ?_
   refine dn ?_
   refine dw (fun d => Nat.beq d 87 || Nat.beq d 1087) [0, 1, 3, 4, 6] ?_
   refine du 5 ?_
   refine sP h F (fun F h => ?_) fun F h => ?_
   refine du 1 ?_
   refine sP h F (fun F h => ?_) fun F h => ?_
   refine du 5 ?_
   obtain ⟨q15861, hr15860, h⟩ := obind h
   refine dh [0, 1, 3] (con_codegen_maker_put_v1 hr15860) ?_
   refine dn ?_
   refine Wp.exit ?_
   refine sh ?_
   refine rg0 ?_
   iterate 2 refine vp ?_
   refine vn ?_
   exact nx [some 0, some 1, some 2, some 7, some 4] (q15861, (IntKind.i64.wrap (p15765 + 1))) h
   refine sP h F (fun F h => ?_) fun F h => ?_
   refine du 5 ?_
   obtain ⟨q15863, hr15862, h⟩ := obind h
   refine dh [0, 1, 3] (con_codegen_maker_put_v1 hr15862) ?_
   refine dn ?_
   refine Wp.exit ?_
   refine sh ?_
   refine rg0 ?_
   iterate 2 refine vp ?_
   refine vn ?_
   exact nx [some 0, some 1, some 2, some 7, some 4] (q15863, (IntKind.i64.wrap (p15765 + 1))) h
   cases h
   refine sP h F (fun F h => ?_) fun F h => ?_
   refine du 1 ?_
   refine sP h F (fun F h => ?_) fun F h => ?_
   refine du 5 ?_
   obtain ⟨q15865, hr15864, h⟩ := obind h
   refine dh [0, 1, 3] (con_codegen_maker_put_v1 hr15864) ?_
   refine dn ?_
   refine Wp.exit ?_
   refine sh ?_
   refine rg0 ?_
   iterate 2 refine vp ?_
   refine vn ?_
   exact nx [some 0, some 1, some 2, some 7, some 4] (q15865, (IntKind.i64.wrap (p15765 + 1))) h
   refine sP h F (fun F h => ?_) fun F h => ?_
   refine du 5 ?_
   obtain ⟨q15867, hr15866, h⟩ := obind h
   refine dh [0, 1, 3] (con_codegen_maker_put_v1 hr15866) ?_
   refine dn ?_
   refine Wp.exit ?_
   refine sh ?_
   refine rg0 ?_
   iterate 2 refine vp ?_
   refine vn ?_
   exact nx [some 0, some 1, some 2, some 7, some 4] (q15867, (IntKind.i64.wrap (p15765 + 1))) h
   cases h
   refine sP h F (fun F h => ?_) fun F h => ?_
   refine du 1 ?_
   refine sP h F (fun F h => ?_) fun F h => ?_
   refine du 5 ?_
   obtain ⟨q15869, hr15868, h⟩ := obind h
   refine dh [0, 1, 3] (con_codegen_maker_put_v1 hr15868) ?_
   refine dn ?_
   refine Wp.exit ?_
   refine sh ?_
   refine rg0 ?_
   iterate 2 refine vp ?_
   refine vn ?_
   exact nx [some 0, some 1, some 2, some 7, some 4] (q15869, (IntKind.i64.wrap (p15765 + 1))) h
   refine sP h F (fun F h => ?_) fun F h => ?_
   refine du 5 ?_
   obtain ⟨q15871, hr15870, h⟩ := obind h
   refine dh [0, 1, 3] (con_codegen_maker_put_v1 hr15870) ?_
   refine dn ?_
   refine Wp.exit ?_
   refine sh ?_
   refine rg0 ?_
   iterate 2 refine vp ?_
   refine vn ?_
   exact nx [some 0, some 1, some 2, some 7, some 4] (q15871, (IntKind.i64.wrap (p15765 + 1))) h
   cases h
   cases h
   refine cT ?_
   refine dw (fun _ => false) [0, 1, 2, 3] ?_
   refine du 7 ?_
   refine eI h F fun x15694 F h => ?_
   refine du 2 ?_
   refine de ?_
   refine db ?_
   refine dn ?_
   refine dw (fun d => Nat.beq d 36 || Nat.beq d 1036) [0, 1, 2, 3, 4] ?_
   refine du 3 ?_
   refine sP h F (fun F h => ?_) fun F h => ?_
   refine du 10 ?_
   refine eI h F fun x15695 F h => ?_
   refine du 3 ?_
   obtain ⟨q15697, hr15696, h⟩ := obind h
   refine dh [0, 1, 2] (con_codegen_maker_put_v1 hr15696) ?_
   refine dn ?_
   cases h
   exact Wp.ret (enH [some 0, some 1, some 2, some 5])
   refine sP h F (fun F h => ?_) fun F h => ?_
   refine du 10 ?_
   refine eI h F fun x15698 F h => ?_
   refine du 3 ?_
   obtain ⟨q15700, hr15699, h⟩ := obind h
   refine dh [0, 1, 2] (con_codegen_maker_put_v1 hr15699) ?_
   refine dn ?_
   cases h
   exact Wp.ret (enH [some 0, some 1, some 2, some 5])
   refine sP h F (fun F h => ?_) fun F h => ?_
   refine du 10 ?_
   refine eI h F fun x15701 F h => ?_
   refine du 3 ?_
   obtain ⟨q15703, hr15702, h⟩ := obind h
   refine dh [0, 1, 2] (con_codegen_maker_put_v1 hr15702) ?_
   refine dn ?_
   cases h
   exact Wp.ret (enH [some 0, some 1, some 2, some 5])
   refine sP h F (fun F h => ?_) fun F h => ?_
   refine du 10 ?_
   refine eI h F fun x15704 F h => ?_
   refine du 3 ?_
   obtain ⟨q15706, hr15705, h⟩ := obind h
   refine dh [0, 1, 2] (con_codegen_maker_put_v1 hr15705) ?_
   refine dn ?_
   cases h
   exact Wp.ret (enH [some 0, some 1, some 2, some 5])
   cases h
theorem con_addr_CheckSize {n : Nat} {s0 : ApiSize} {r : Int} (h : addr_CheckSize n s0 = some r) : Con Tryd.prog G0 87 [.agg (cApiSize s0)] (.int .i64 r) [] := by
  refine con_of (T := TT0) tt_ok Tryd.func87 (c := _) (by unfold Tryd.f87; rfl) Tryd.ntmps87 (rs := [.tmp 2]) (by rw [Tryd.results87]) (by unfold Tryd.f87; rfl) (by simp) ?_
  simp only [argsCh]
  have F := True.intro
  dsimp only [addr_CheckSize] at h
  refine rs0 ?_
  iterate 2 refine vp ?_
  refine vn ?_
  refine Wp.seq ?_
  refine rs0 ?_
  iterate 2 refine vp ?_
  obtain ⟨r10724, hr10723, h⟩ := obind h
  refine vc (con_addr_within hr10723) ?_
  iterate 2 refine vp ?_
  refine sB h F (fun F h => ?_) fun F h => ?_
  refine vg ?_
  refine vg ?_
  obtain ⟨r10726, hr10725, h⟩ := obind h
  refine vc (con_addr_within hr10725) ?_ (hg := by (simp [F]; done))
  refine vg ?_
  iterate 2 refine vp ?_
  refine sB h F (fun F h => ?_) fun F h => ?_
  refine vg ?_
  refine vg ?_
  obtain ⟨r10728, hr10727, h⟩ := obind h
  refine vc (con_addr_within hr10727) ?_ (hg := by (simp [F]; done))
  refine vg ?_
  iterate 2 refine vp ?_
  refine sB h F (fun F h => ?_) fun F h => ?_
  refine vg ?_
  refine vg ?_
  obtain ⟨r10730, hr10729, h⟩ := obind h
  refine vc (con_addr_within hr10729) ?_ (hg := by (simp [F]; done))
  refine vg ?_
  refine vp ?_
  refine vn ?_
  refine sB h F (fun F h => ?_) fun F h => ?_
  refine cF ?_
  refine Wp.skip ?_
  refine sh ?_
  refine rs0 ?_
  refine vp ?_
  refine vn ?_
  cases h
  exact Wp.ret en0
  refine cT ?_
  refine rs0 ?_
  refine vp ?_
  refine vn ?_
  cases h
  exact Wp.ret en0
  refine vs ?_
  refine vs ?_
  refine vs ?_
  refine vs ?_
  refine vp ?_
  refine vn ?_
  refine cT ?_
  refine rs0 ?_
  refine vp ?_
  refine vn ?_
  cases h
  exact Wp.ret en0
  refine vs ?_
  refine vs ?_
  refine vs ?_
  refine vs ?_
  iterate 2 refine vp ?_
  refine vs ?_
  refine vs ?_
  refine vs ?_
  refine vs ?_
  refine vp ?_
  refine vn ?_
  refine cT ?_
  refine rs0 ?_
  refine vp ?_
  refine vn ?_
  cases h
  exact Wp.ret en0
  refine vs ?_
  refine vs ?_
  refine vs ?_
  refine vs ?_
  iterate 2 refine vp ?_
  refine vs ?_
  refine vs ?_
  refine vs ?_
  refine vs ?_
  iterate 2 refine vp ?_
  refine vs ?_
  refine vs ?_
  refine vs ?_
  refine vs ?_
  refine vp ?_
  refine vn ?_
  refine cT ?_
  refine rs0 ?_
  refine vp ?_
  refine vn ?_
  cases h
  exact Wp.ret en0
theorem con_slices_IndexFunc_api_Rung_c90 {n : Nat} {s0 : List ApiRung} {b0 : ApiRung} {r : Int} (h : slices_IndexFunc_api_Rung_c90 n s0 b0 = some r) : ConH Tryd.prog G0 119 [aL cApiRung s0, .clos 90 [] [.hptr 0 0 0]] [.var [.str b0.Label, aL cApiContact b0.Contacts, aL cApiCoil b0.Coils, .str b0.Jump]] (.int .i64 r) [.var [.str b0.Label, aL cApiContact b0.Contacts, aL cApiCoil b0.Coils, .str b0.Jump]] := by
  refine conH_of (T := TT0) tt_ok Tryd.func119 (c := _) (by unfold Tryd.f119; rfl) Tryd.ntmps119 (rs := [.tmp 4]) (by rw [Tryd.results119]) (by unfold Tryd.f119; rfl) (by simp) (k := 1) rfl rfl ?_
  try simp only [argsCh]
  have F := True.intro
  dsimp only [slices_IndexFunc_api_Rung_c90] at h
  refine rs0 ?_
  refine vp ?_
  refine vn ?_
  refine Wp.seq ?_
  refine rs0 ?_
  iterate 3 refine vp ?_
  refine vn ?_
  refine Wp.block ?_
  refine lp [some 0] (fun p10888 : Int => { ch := [(0, aL cApiRung s0), (1, .clos 90 [] [.hptr 0 0 0]), (7, .int .i64 (s0.length : Int)), (8, .int .i64 p10888)], hp := [.var [.str b0.Label, aL cApiContact b0.Contacts, aL cApiCoil b0.Coils, .str b0.Jump]], base := 1, n := 19, cond := True, gl := G0 }) (fun m x => slices_IndexFunc_api_Rung_c90_L1 n s0 b0 m x = some r) n 0 h ?_
  rintro rec_n1 p10888 h
  dsimp only [slices_IndexFunc_api_Rung_c90_L1] at h
  try dsimp only
  refine rs0 ?_
  refine vp ?_
  refine vn ?_
  refine Wp.seq ?_
  refine sD h F (fun F h => ?_) fun F h => ?_
  refine cF ?_
  refine Wp.exit ?_
  refine sh ?_
  refine rs0 ?_
  refine vp ?_
  refine vn ?_
  cases h
  exact Wp.ret (enH [some 0])
  refine cT ?_
  refine Wp.skip ?_
  refine sh ?_
  refine Wp.seq ?_
  refine Wp.block ?_
  refine rs0 ?_
  iterate 2 refine vp ?_
  refine vn ?_
  refine rs0 ?_
  iterate 3 refine vp ?_
  refine eI h F fun x10892 F h => ?_
  iterate 2 refine vp ?_
  obtain ⟨r10894, hr10893, h⟩ := obind h
  refine vh [0] (con_printer_Check_1 hr10893) ?_
  refine vn ?_
  refine sB h F (fun F h => ?_) fun F h => ?_
  refine cF ?_
  refine Wp.skip ?_
  refine sh ?_
  refine rg0 ?_
  iterate 2 refine vp ?_
  refine vn ?_
  exact nx [some 0] (IntKind.i64.wrap (p10888 + 1)) h
  refine cT ?_
  refine rs0 ?_
  iterate 2 refine vp ?_
  refine vn ?_
  cases h
  exact Wp.ret (enH [some 0])
theorem con_rungeval_EdgeCount {n : Nat} {r_0 : ApiRung} {r : Int} (h : rungeval_EdgeCount n r_0 = some r) : Con Tryd.prog G0 63 [.agg (cApiRung r_0)] (.int .i64 r) [] := by
  refine con_of (T := TT0) tt_ok Tryd.func63 (c := _) (by unfold Tryd.f63; rfl) Tryd.ntmps63 (rs := [.tmp 2]) (by rw [Tryd.results63]) (by unfold Tryd.f63; rfl) (by simp) ?_
  simp only [argsCh]
  have F := True.intro
  dsimp only [rungeval_EdgeCount] at h
  refine rs0 ?_
  iterate 2 refine vp ?_
  refine vn ?_
  refine rs0 ?_
  refine vp ?_
  refine vn ?_
  refine Wp.seq ?_
  refine rs0 ?_
  iterate 4 refine vp ?_
  refine vn ?_
  refine Wp.block ?_
  refine lp [] (fun x : Int × Int => { ch := [(3, .int .i64 x.1), (7, aL cApiContact r_0.Contacts), (8, .int .i64 (r_0.Contacts.length : Int)), (9, .int .i64 x.2)], hp := [], base := 0, n := 19, cond := True, gl := G0 }) (fun m x => rungeval_EdgeCount_L1 n r_0 m x.1 x.2 = some r) n (0, 0) h ?_
  rintro rec_n1 ⟨p15943, p15944⟩ h
  dsimp only [rungeval_EdgeCount_L1] at h
  try dsimp only
  refine rs0 ?_
  refine vp ?_
  refine vn ?_
  refine Wp.seq ?_
  refine sD h F (fun F h => ?_) fun F h => ?_
  refine cF ?_
  refine Wp.exit ?_
  refine sh ?_
  refine rs0 ?_
  iterate 2 refine vp ?_
  refine vn ?_
  cases h
  exact Wp.ret en0
  refine cT ?_
  refine Wp.skip ?_
  refine sh ?_
  refine Wp.seq ?_
  refine Wp.block ?_
  refine rs0 ?_
  refine eI h F fun x15948 F h => ?_
  iterate 4 refine vp ?_
  refine vn ?_
  refine rs0 ?_
  refine vp ?_
  obtain ⟨r15950, hr15949, h⟩ := obind h
  refine vc (con_rungeval_sees hr15949) ?_
  refine vn ?_
  refine sB h F (fun F h => ?_) fun F h => ?_
  refine cF ?_
  refine Wp.skip ?_
  refine sh ?_
  refine rg0 ?_
  iterate 2 refine vp ?_
  refine vn ?_
  exact nx [] (p15943, (IntKind.i64.wrap (p15944 + 1))) h
  refine cT ?_
  refine rg0 ?_
  iterate 3 refine vp ?_
  refine vn ?_
  refine sh ?_
  refine rg0 ?_
  iterate 2 refine vp ?_
  refine vn ?_
  exact nx [] ((IntKind.i64.wrap (p15943 + 1)), (IntKind.i64.wrap (p15944 + 1))) h
theorem con_slices_Contains_string {n : Nat} {s0 : List Str} {v1 : Str} {r : Bool} (h : slices_Contains_string n s0 v1 = some r) : Con Tryd.prog G0 81 [aL cS s0, .str v1] (.bool r) [] := by
  refine con_of (T := TT0) tt_ok Tryd.func81 (c := _) (by unfold Tryd.f81; rfl) Tryd.ntmps81 (rs := [.tmp 4]) (by rw [Tryd.results81]) (by unfold Tryd.f81; rfl) (by simp) ?_
  simp only [argsCh]
  have F := True.intro
  dsimp only [slices_Contains_string] at h
  refine rs0 ?_
  refine vp ?_
  refine vn ?_
  refine rs0 ?_
  iterate 2 refine vp ?_
  obtain ⟨r14196, hr14195, h⟩ := obind h
  refine vc (con_slices_Index_string hr14195) ?_
  iterate 2 refine vp ?_
  refine vn ?_
  cases h
  exact Wp.ret en0
end Go.Proofs.YtaebdeidbibfkaaDoor
