/- Contracts: models of functions are right. No law is proved here. -/
import Derived.Test.YtaebdeidbibfkaaGreatDoorGMod
import Derived.Test.YtaebdeidbibfkaaGreatDoorTaz
import Derived.Test.YtaebdeidbibfkaaGreatDoorGC1
import Derived.Test.YtaebdeidbibfkaaGreatDoorGC2
import Derived.Test.YtaebdeidbibfkaaGreatDoorGC3
namespace Go.Proofs.YtaebdeidbibfkaaGreatDoor
open Go.Av Go.G
attribute [-simp] Int.natCast_tdiv_eq_ediv
attribute [local simp] runf guardA opf St.ev Go.Av.look St.setd constAV constAV0 opBin opLen intBin St.need lookT TT0 tab resA resOne resAll blt_dec ble_dec beq_dec isPure
attribute [local simp] opMakeSlice opCopy opIndexAddr opLoad opStore St.mem St.rows opUn calleeA toArgs toArg toArg0 toArgs0 shift shift0 shift1 splice cellsOf isFree ofCells TS.isAgg isCell strBin opConvert
attribute [local simp] opSlice3 opClear fz_clear opBuildSlice fillA opAppend eqC eqA cksB ckB St.newBox runI valKind withinB readsHp refsD refs noSl opFieldAddr opBuild opMax opMin placeOf Op.operands Call.operands opIndex opExtract opSlice opField partA
attribute [local simp] loA hiA lenA opMakeMap opLookup opMapUpdate keyOk findA_int findA_str findA_bool putA_strB putA_strI putA_strS putA_intB putA_intI putA_intS putA_boolI putA_boolB mAV_length mAV_nil cA1 cA2 cA3 cA4 opNilCheck opMakeFunc opRange
attribute [local simp] aL cI cB cS cL rw_map fz_rw fz_const dropRow_rw fz_append fz_set fz_copy fz_rows rowLen_rw rowsLen_nil rowsLen_cons rowsLen_append rowsLen_map rowsLen_dm rowsLen_tm rowsLen_take rowsLen_drop rowsLen_replicate take_map_len take_map_le drop_map_len take_drop_len chunks isScalar isScalar0
attribute [local simp] putBack putAt objMap mapC mapA mapT map0 bid rid memB passed closedB argsH argH argH0 argsH0 objIds ids0 idsC isLocT isLocA isLocC isLoc0 LocObj
attribute [local congr] bind_congr1 map_congr1 cond_congr1
attribute [local simp] cApiAddr cApiContact cApiCoil cApiRung cApiIns cApiLadder cApiSize cApiProgram cReducePair cReduceEdge cTreeTree_eq TreeTree_Kind_mk TreeTree_N_mk TreeTree_Kids_mk eta_TreeTree cRef14Tree_eq Ref14Tree_Kind_mk Ref14Tree_N_mk Ref14Tree_Kids_mk eta_Ref14Tree
set_option maxHeartbeats 4000000
set_option maxRecDepth 20000
set_option linter.unusedSimpArgs false
set_option linter.unusedVariables false

theorem con_codegen_maker_lay_v1 (n : Nat) : ∀ {a1 : TreeTree} {b0 : Str} {b0_1 : List ApiContact} {b0_2 : List ApiCoil} {b0_3 : Str} {l1 : List Int} {l2 : List ApiIns} {r : (List ApiIns)}, codegen_maker_lay_v1 n a1 b0 b0_1 b0_2 b0_3 l1 l2 = some r → ConH Tryz.prog G0 49 [.hptr 0 0 0, .agg [.int .i64 a1.Kind, .int .i64 a1.N, aL cTreeTree a1.Kids]] [.var [.str b0, aL cApiContact b0_1, aL cApiCoil b0_2, .str b0_3, .sl 1 0 l1.length, .sl 2 0 l2.length], .arr 1 l1.length (rw (l1.map (cI .i64))), .arr 4 l2.length (rw (l2.map cApiIns))] (.tup []) [.var [.str b0, aL cApiContact b0_1, aL cApiCoil b0_2, .str b0_3, .sl 1 0 l1.length, .sl 3 0 r.length], .arr 1 l1.length (rw (l1.map (cI .i64))), .dead, .arr 4 r.length (rw (r.map cApiIns))] := by
  induction n with
  | zero => intro a1 b0 b0_1 b0_2 b0_3 l1 l2 r h; simp [codegen_maker_lay_v1] at h
  | succ n Hslf_codegen_maker_lay_v1 =>
   intro a1 b0 b0_1 b0_2 b0_3 l1 l2 r h
   refine conH_of (T := TT0) tt_ok Tryz.func49 (c := _) (by unfold Tryz.f49; rfl) Tryz.ntmps49 (rs := []) (by rw [Tryz.results49]) (by unfold Tryz.f49; rfl) (by simp) (k := 3) rfl rfl ?_
   try simp only [argsCh]
   have F := True.intro
   dsimp only [codegen_maker_lay_v1] at h
   refine rs0 ?_
   refine vp ?_
   refine vn ?_
   refine Wp.seq ?_
   refine rs0 ?_
   iterate 3 refine vp ?_
   refine vn ?_
   refine sB h F (fun F h => ?_) fun F h => ?_
   refine cF ?_
   refine Wp.skip ?_
   refine sh ?_
   refine rs0 ?_
   iterate 3 refine vp ?_
   refine eN (m := 0) h F fun x15523 F h => ?_
   iterate 2 refine vp ?_
   obtain ⟨q15525, hr15524, h⟩ := obind h
   refine vh [0, 1, 2] (Hslf_codegen_maker_lay_v1 hr15524) ?_
   refine vn ?_
   refine rs0 ?_
   iterate 2 refine vp ?_
   refine gd h F fun F h => ?_
   refine vp ?_
   refine nm cTreeTree h F fun l15526 F h => ?_
   iterate 2 refine vp ?_
   refine vn ?_
   refine Wp.block ?_
   refine lp [some 0, some 1, some 2, some 4, some 3] (fun x : (List ApiIns) × Int => { ch := [(0, .hptr 0 0 0), (3, .hptr 4 0 0), (45, aL cTreeTree l15526), (46, .int .i64 (l15526.length : Int)), (47, .int .i64 x.2)], hp := [.var [.str b0, aL cApiContact b0_1, aL cApiCoil b0_2, .str b0_3, .sl 1 0 l1.length, .sl 3 0 x.1.length], .arr 1 l1.length (rw (l1.map (cI .i64))), .dead, .arr 4 x.1.length (rw (x.1.map cApiIns)), .var [.int .i64 a1.Kind, .int .i64 a1.N, aL cTreeTree a1.Kids]], base := 3, n := 102, cond := True, gl := G0 }) (fun m x => codegen_maker_lay_v1_L1 n a1 b0 b0_1 b0_2 b0_3 l1 l15526 (codegen_maker_lay_v1 n) m x.1 x.2 = some r) n (q15525, 0) h ?_
   rintro rec_n1 ⟨q15580, p15581⟩ h
   dsimp only [codegen_maker_lay_v1_L1] at h
   try dsimp only
   refine rs0 ?_
   refine vp ?_
   refine vn ?_
   refine Wp.seq ?_
   refine sD h F (fun F h => ?_) fun F h => ?_
   refine cF ?_
   refine Wp.exit ?_
   cases h
   exact n2r (enH [some 0, some 1, some 2, some 3])
   refine cT ?_
   refine Wp.skip ?_
   refine sh ?_
   refine Wp.seq ?_
   refine Wp.block ?_
   refine rs0 ?_
   refine eI h F fun x15635 F h => ?_
   iterate 4 refine vp ?_
   refine vn ?_
   refine jn (fun _ : Unit => { ch := [(0, .hptr 0 0 0), (3, .hptr 4 0 0), (6, .hptr 5 0 0), (45, aL cTreeTree l15526), (46, .int .i64 (l15526.length : Int)), (47, .int .i64 p15581)], hp := [.var [.str b0, aL cApiContact b0_1, aL cApiCoil b0_2, .str b0_3, .sl 1 0 l1.length, .sl 3 0 q15580.length], .arr 1 l1.length (rw (l1.map (cI .i64))), .dead, .arr 4 q15580.length (rw (q15580.map cApiIns)), .var [.int .i64 a1.Kind, .int .i64 a1.N, aL cTreeTree a1.Kids], .var [.int .i64 x15635.Kind, .int .i64 x15635.N, aL cTreeTree x15635.Kids]], base := 3, n := 102, cond := True, gl := G0 }) (fun x => codegen_maker_lay_v1_J2 n a1 b0 b0_1 b0_2 b0_3 l1 q15580 p15581 (codegen_maker_lay_v1_L1 n a1 b0 b0_1 b0_2 b0_3 l1 l15526 (codegen_maker_lay_v1 n) rec_n1) x15635 (codegen_maker_lay_v1 n) = some r) ?_ ?_
   clear h
   rintro _ h
   dsimp only [codegen_maker_lay_v1_J2] at h
   try dsimp only
   refine rs0 ?_
   iterate 2 refine vp ?_
   obtain ⟨q15664, hr15663, h⟩ := obind h
   refine vh [0, 1, 3] (con_codegen_maker_put_v1 hr15663) ?_
   refine vn ?_
   refine rs0 ?_
   iterate 2 refine vp ?_
   obtain ⟨q15666, hr15665, h⟩ := obind h
   refine vh [0, 1, 6] (Hslf_codegen_maker_lay_v1 hr15665) ?_
   refine vn ?_
   refine rg0 ?_
   iterate 3 refine vp ?_
   refine sP h F (fun F h => ?_) fun F h => ?_
   iterate 3 refine vp ?_
   obtain ⟨q15668, hr15667, h⟩ := obind h
   refine vh [0, 1, 7] (con_codegen_maker_put_v1 hr15667) ?_
   refine vn ?_
   refine sh ?_
   refine rg0 ?_
   iterate 2 refine vp ?_
   refine vn ?_
   exact nx [some 0, some 1, some 2, some 8, some 4] (q15668, (IntKind.i64.wrap (p15581 + 1))) h
   refine sP h F (fun F h => ?_) fun F h => ?_
   iterate 3 refine vp ?_
   obtain ⟨q15670, hr15669, h⟩ := obind h
   refine vh [0, 1, 7] (con_codegen_maker_put_v1 hr15669) ?_
   refine vn ?_
   refine sh ?_
   refine rg0 ?_
   iterate 2 refine vp ?_
   refine vn ?_
   exact nx [some 0, some 1, some 2, some 8, some 4] (q15670, (IntKind.i64.wrap (p15581 + 1))) h
   refine sP h F (fun F h => ?_) fun F h => ?_
   iterate 3 refine vp ?_
   obtain ⟨q15672, hr15671, h⟩ := obind h
   refine vh [0, 1, 7] (con_codegen_maker_put_v1 hr15671) ?_
   refine vn ?_
   refine sh ?_
   refine rg0 ?_
   iterate 2 refine vp ?_
   refine vn ?_
   exact nx [some 0, some 1, some 2, some 8, some 4] (q15672, (IntKind.i64.wrap (p15581 + 1))) h
   cases h
   refine dw (fun _ => false) [0, 1, 3, 5] ?_
   refine du 4 ?_
   refine sB h F (fun F h => ?_) fun F h => ?_
   refine ds ?_
   refine ds ?_
   refine ds ?_
   refine ds ?_
   refine ds ?_
   refine ds ?_
   refine ds ?_
   refine ds ?_
   refine ds ?_
   refine ds ?_
   refine ds ?_
   refine du 1 ?_
   refine dn ?_
   refine cF ?_
   refine Wp.skip ?_
   exact nx [some 0, some 1, some 2, some 3, some 4, some 5] () h
   refine du 1 ?_
   refine du 1 ?_
   refine du 1 ?_
   refine du 1 ?_
   refine du 1 ?_
   refine du 1 ?_
   refine du 1 ?_
   refine eI h F fun x15673 F h => ?_
   refine du 1 ?_
   refine du 1 ?_
   obtain ⟨r15675, hr15674, h⟩ := obind h
   refine dc (con_codegen_sees hr15674) ?_ (hg := by (simp [F]; done))
   refine du 1 ?_
   refine du 1 ?_
   refine dn ?_
   refine sB h F (fun F h => ?_) fun F h => ?_
   refine cF ?_
   refine Wp.skip ?_
   exact nx [some 0, some 1, some 2, some 3, some 4, some 5] () h
   refine cT ?_
   refine dw (fun _ => false) [0, 1, 3, 5] ?_
   refine du 9 ?_
   refine de ?_
   refine db ?_
   refine dn ?_
   refine dw (fun d => Nat.beq d 87 || Nat.beq d 1087) [0, 1, 3, 4, 6] ?_
   refine du 5 ?_
   refine sP h F (fun F h => ?_) fun F h => ?_
   refine du 1 ?_
   refine sP h F (fun F h => ?_) fun F h => ?_
   refine du 5 ?_
   obtain ⟨q15677, hr15676, h⟩ := obind h
   refine dh [0, 1, 3] (con_codegen_maker_put_v1 hr15676) ?_
   refine dn ?_
   refine Wp.exit ?_
   refine sh ?_
   refine rg0 ?_
   iterate 2 refine vp ?_
   refine vn ?_
   exact nx [some 0, some 1, some 2, some 7, some 4] (q15677, (IntKind.i64.wrap (p15581 + 1))) h
   refine sP h F (fun F h => ?_) fun F h => ?_
   refine du 5 ?_
   obtain ⟨q15679, hr15678, h⟩ := obind h
   refine dh [0, 1, 3] (con_codegen_maker_put_v1 hr15678) ?_
   refine dn ?_
   refine Wp.exit ?_
   refine sh ?_
   refine rg0 ?_
   iterate 2 refine vp ?_
   refine vn ?_
   exact nx [some 0, some 1, some 2, some 7, some 4] (q15679, (IntKind.i64.wrap (p15581 + 1))) h
   cases h
   refine sP h F (fun F h => ?_) fun F h => ?_
   refine du 1 ?_
   refine sP h F (fun F h => ?_) fun F h => ?_
   refine du 5 ?_
   obtain ⟨q15681, hr15680, h⟩ := obind h
   refine dh [0, 1, 3] (con_codegen_maker_put_v1 hr15680) ?_
   refine dn ?_
   refine Wp.exit ?_
   refine sh ?_
   refine rg0 ?_
   iterate 2 refine vp ?_
   refine vn ?_
   exact nx [some 0, some 1, some 2, some 7, some 4] (q15681, (IntKind.i64.wrap (p15581 + 1))) h
   refine sP h F (fun F h => ?_) fun F h => ?_
   refine du 5 ?_
   obtain ⟨q15683, hr15682, h⟩ := obind h
   refine dh [0, 1, 3] (con_codegen_maker_put_v1 hr15682) ?_
   refine dn ?_
   refine Wp.exit ?_
   refine sh ?_
   refine rg0 ?_
   iterate 2 refine vp ?_
   refine vn ?_
   exact nx [some 0, some 1, some 2, some 7, some 4] (q15683, (IntKind.i64.wrap (p15581 + 1))) h
   cases h
   refine sP h F (fun F h => ?_) fun F h => ?_
   refine du 1 ?_
   refine sP h F (fun F h => ?_) fun F h => ?_
   refine du 5 ?_
   obtain ⟨q15685, hr15684, h⟩ := obind h
   refine dh [0, 1, 3] (con_codegen_maker_put_v1 hr15684) ?_
   refine dn ?_
   refine Wp.exit ?_
   refine sh ?_
   refine rg0 ?_
   iterate 2 refine vp ?_
   refine vn ?_
   exact nx [some 0, some 1, some 2, some 7, some 4] (q15685, (IntKind.i64.wrap (p15581 + 1))) h
   refine sP h F (fun F h => ?_) fun F h => ?_
   refine du 5 ?_
   obtain ⟨q15687, hr15686, h⟩ := obind h
   refine dh [0, 1, 3] (con_codegen_maker_put_v1 hr15686) ?_
   refine dn ?_
   refine Wp.exit ?_
   refine sh ?_
   refine rg0 ?_
   iterate 2 refine vp ?_
   refine vn ?_
   exact nx [some 0, some 1, some 2, some 7, some 4] (q15687, (IntKind.i64.wrap (p15581 + 1))) h
   cases h
   cases h
   refine cT ?_
   refine dw (fun _ => false) [0, 1, 2, 3] ?_
   refine du 7 ?_
   refine eI h F fun x15510 F h => ?_
   refine du 2 ?_
   refine de ?_
   refine db ?_
   refine dn ?_
   refine dw (fun d => Nat.beq d 36 || Nat.beq d 1036) [0, 1, 2, 3, 4] ?_
   refine du 3 ?_
   refine sP h F (fun F h => ?_) fun F h => ?_
   refine du 10 ?_
   refine eI h F fun x15511 F h => ?_
   refine du 3 ?_
   obtain ⟨q15513, hr15512, h⟩ := obind h
   refine dh [0, 1, 2] (con_codegen_maker_put_v1 hr15512) ?_
   refine dn ?_
   cases h
   exact Wp.ret (enH [some 0, some 1, some 2, some 5])
   refine sP h F (fun F h => ?_) fun F h => ?_
   refine du 10 ?_
   refine eI h F fun x15514 F h => ?_
   refine du 3 ?_
   obtain ⟨q15516, hr15515, h⟩ := obind h
   refine dh [0, 1, 2] (con_codegen_maker_put_v1 hr15515) ?_
   refine dn ?_
   cases h
   exact Wp.ret (enH [some 0, some 1, some 2, some 5])
   refine sP h F (fun F h => ?_) fun F h => ?_
   refine du 10 ?_
   refine eI h F fun x15517 F h => ?_
   refine du 3 ?_
   obtain ⟨q15519, hr15518, h⟩ := obind h
   refine dh [0, 1, 2] (con_codegen_maker_put_v1 hr15518) ?_
   refine dn ?_
   cases h
   exact Wp.ret (enH [some 0, some 1, some 2, some 5])
   refine sP h F (fun F h => ?_) fun F h => ?_
   refine du 10 ?_
   refine eI h F fun x15520 F h => ?_
   refine du 3 ?_
   obtain ⟨q15522, hr15521, h⟩ := obind h
   refine dh [0, 1, 2] (con_codegen_maker_put_v1 hr15521) ?_
   refine dn ?_
   cases h
   exact Wp.ret (enH [some 0, some 1, some 2, some 5])
   cases h

theorem con_slices_IndexFunc_int_c102 {n : Nat} {s0 : List Int} {m1 : List (Str × Bool)} {b2 : ApiRung} {r : Int} (h : slices_IndexFunc_int_c102 n s0 m1 b2 = some r) : ConH Tryz.prog G0 132 [aL (cI .i64) s0, .clos 102 [] [.hptr 0 0 0, .hptr 2 0 0]] [.var [.mp 1], .map (mAV AV.str cB m1), .var [.str b2.Label, aL cApiContact b2.Contacts, aL cApiCoil b2.Coils, .str b2.Jump]] (.int .i64 r) [.var [.mp 1], .map (mAV AV.str cB m1), .var [.str b2.Label, aL cApiContact b2.Contacts, aL cApiCoil b2.Coils, .str b2.Jump]] := by
  refine conH_of (T := TT0) tt_ok Tryz.func132 (c := _) (by unfold Tryz.f132; rfl) Tryz.ntmps132 (rs := [.tmp 4]) (by rw [Tryz.results132]) (by unfold Tryz.f132; rfl) (by simp) (k := 3) rfl rfl ?_
  try simp only [argsCh]
  have F := True.intro
  dsimp only [slices_IndexFunc_int_c102] at h
  refine rs0 ?_
  refine vp ?_
  refine vn ?_
  refine Wp.seq ?_
  refine rs0 ?_
  iterate 3 refine vp ?_
  refine vn ?_
  refine Wp.block ?_
  refine lp [some 0, some 1, some 2] (fun p13089 : Int => { ch := [(0, aL (cI .i64) s0), (1, .clos 102 [] [.hptr 0 0 0, .hptr 2 0 0]), (7, .int .i64 (s0.length : Int)), (8, .int .i64 p13089)], hp := [.var [.mp 1], .map (mAV AV.str cB m1), .var [.str b2.Label, aL cApiContact b2.Contacts, aL cApiCoil b2.Coils, .str b2.Jump]], base := 3, n := 19, cond := True, gl := G0 }) (fun m x => slices_IndexFunc_int_c102_L1 n s0 m1 b2 m x = some r) n 0 h ?_
  rintro rec_n1 p13089 h
  dsimp only [slices_IndexFunc_int_c102_L1] at h
  try dsimp only
  refine rs0 ?_
  refine vp ?_
  refine vn ?_
  refine Wp.seq ?_
  refine sD h F (fun F h => ?_) fun F h => ?_
  refine cF ?_
  refine Wp.exit ?_
  refine sh ?_
  refine rs0 ?_
  refine vp ?_
  refine vn ?_
  cases h
  exact Wp.ret (enH [some 0, some 1, some 2])
  refine cT ?_
  refine Wp.skip ?_
  refine sh ?_
  refine Wp.seq ?_
  refine Wp.block ?_
  refine rs0 ?_
  iterate 2 refine vp ?_
  refine vn ?_
  refine rs0 ?_
  iterate 3 refine vp ?_
  refine eI h F fun x13093 F h => ?_
  iterate 2 refine vp ?_
  obtain ⟨r13095, hr13094, h⟩ := obind h
  refine vh [0, 1, 2] (con_graph_TopoSort_1_1 hr13094) ?_
  refine vn ?_
  refine sB h F (fun F h => ?_) fun F h => ?_
  refine cF ?_
  refine Wp.skip ?_
  refine sh ?_
  refine rg0 ?_
  iterate 2 refine vp ?_
  refine vn ?_
  exact nx [some 0, some 1, some 2] (IntKind.i64.wrap (p13089 + 1)) h
  refine cT ?_
  refine rs0 ?_
  iterate 2 refine vp ?_
  refine vn ?_
  cases h
  exact Wp.ret (enH [some 0, some 1, some 2])

theorem con_slices_IndexFunc_string_c167_v1 {n : Nat} {l0 : List Str} {m2 : List (Str × Bool)} {r : Int} (h : slices_IndexFunc_string_c167_v1 n l0 m2 = some r) : ConH Tryz.prog G0 98 [.sl 0 0 l0.length, .clos 167 [] [.hptr 1 0 0]] [.arr 1 l0.length (rw (l0.map cS)), .var [.mp 2], .map (mAV AV.str cB m2)] (.int .i64 r) [.arr 1 l0.length (rw (l0.map cS)), .var [.mp 2], .map (mAV AV.str cB m2)] := by
  refine conH_of (T := TT0) tt_ok Tryz.func98 (c := _) (by unfold Tryz.f98; rfl) Tryz.ntmps98 (rs := [.tmp 4]) (by rw [Tryz.results98]) (by unfold Tryz.f98; rfl) (by simp) (k := 3) rfl rfl ?_
  try simp only [argsCh]
  have F := True.intro
  dsimp only [slices_IndexFunc_string_c167_v1] at h
  refine rs0 ?_
  refine vp ?_
  refine vn ?_
  refine Wp.seq ?_
  refine rs0 ?_
  iterate 3 refine vp ?_
  refine vn ?_
  refine Wp.block ?_
  refine lp [some 0, some 1, some 2] (fun p14243 : Int => { ch := [(0, .sl 0 0 l0.length), (1, .clos 167 [] [.hptr 1 0 0]), (7, .int .i64 (l0.length : Int)), (8, .int .i64 p14243)], hp := [.arr 1 l0.length (rw (l0.map cS)), .var [.mp 2], .map (mAV AV.str cB m2)], base := 3, n := 19, cond := True, gl := G0 }) (fun m x => slices_IndexFunc_string_c167_v1_L1 n l0 m2 m x = some r) n 0 h ?_
  rintro rec_n1 p14243 h
  dsimp only [slices_IndexFunc_string_c167_v1_L1] at h
  try dsimp only
  refine rs0 ?_
  refine vp ?_
  refine vn ?_
  refine Wp.seq ?_
  refine sD h F (fun F h => ?_) fun F h => ?_
  refine cF ?_
  refine Wp.exit ?_
  refine sh ?_
  refine rs0 ?_
  refine vp ?_
  refine vn ?_
  cases h
  exact Wp.ret (enH [some 0, some 1, some 2])
  refine cT ?_
  refine Wp.skip ?_
  refine sh ?_
  refine Wp.seq ?_
  refine Wp.block ?_
  refine rs0 ?_
  iterate 2 refine vp ?_
  refine vn ?_
  refine rs0 ?_
  iterate 3 refine vp ?_
  refine eI h F fun x14247 F h => ?_
  iterate 2 refine vp ?_
  obtain ⟨r14249, hr14248, h⟩ := obind h
  refine vh [1, 2] (con_graph_gather_2 hr14248) ?_
  refine vn ?_
  refine sB h F (fun F h => ?_) fun F h => ?_
  refine cF ?_
  refine Wp.skip ?_
  refine sh ?_
  refine rg0 ?_
  iterate 2 refine vp ?_
  refine vn ?_
  exact nx [some 0, some 1, some 2] (IntKind.i64.wrap (p14243 + 1)) h
  refine cT ?_
  refine rs0 ?_
  iterate 2 refine vp ?_
  refine vn ?_
  cases h
  exact Wp.ret (enH [some 0, some 1, some 2])

theorem con_slices_IndexFunc_api_Rung_c153 {n : Nat} {s0 : List ApiRung} {b0 : ApiRung} {r : Int} (h : slices_IndexFunc_api_Rung_c153 n s0 b0 = some r) : ConH Tryz.prog G0 155 [aL cApiRung s0, .clos 153 [] [.hptr 0 0 0]] [.var [.str b0.Label, aL cApiContact b0.Contacts, aL cApiCoil b0.Coils, .str b0.Jump]] (.int .i64 r) [.var [.str b0.Label, aL cApiContact b0.Contacts, aL cApiCoil b0.Coils, .str b0.Jump]] := by
  refine conH_of (T := TT0) tt_ok Tryz.func155 (c := _) (by unfold Tryz.f155; rfl) Tryz.ntmps155 (rs := [.tmp 4]) (by rw [Tryz.results155]) (by unfold Tryz.f155; rfl) (by simp) (k := 1) rfl rfl ?_
  try simp only [argsCh]
  have F := True.intro
  dsimp only [slices_IndexFunc_api_Rung_c153] at h
  refine rs0 ?_
  refine vp ?_
  refine vn ?_
  refine Wp.seq ?_
  refine rs0 ?_
  iterate 3 refine vp ?_
  refine vn ?_
  refine Wp.block ?_
  refine lp [some 0] (fun p10622 : Int => { ch := [(0, aL cApiRung s0), (1, .clos 153 [] [.hptr 0 0 0]), (7, .int .i64 (s0.length : Int)), (8, .int .i64 p10622)], hp := [.var [.str b0.Label, aL cApiContact b0.Contacts, aL cApiCoil b0.Coils, .str b0.Jump]], base := 1, n := 19, cond := True, gl := G0 }) (fun m x => slices_IndexFunc_api_Rung_c153_L1 n s0 b0 m x = some r) n 0 h ?_
  rintro rec_n1 p10622 h
  dsimp only [slices_IndexFunc_api_Rung_c153_L1] at h
  try dsimp only
  refine rs0 ?_
  refine vp ?_
  refine vn ?_
  refine Wp.seq ?_
  refine sD h F (fun F h => ?_) fun F h => ?_
  refine cF ?_
  refine Wp.exit ?_
  refine sh ?_
  refine rs0 ?_
  refine vp ?_
  refine vn ?_
  cases h
  exact Wp.ret (enH [some 0])
  refine cT ?_
  refine Wp.skip ?_
  refine sh ?_
  refine Wp.seq ?_
  refine Wp.block ?_
  refine rs0 ?_
  iterate 2 refine vp ?_
  refine vn ?_
  refine rs0 ?_
  iterate 3 refine vp ?_
  refine eI h F fun x10626 F h => ?_
  iterate 2 refine vp ?_
  obtain ⟨r10628, hr10627, h⟩ := obind h
  refine vh [0] (con_printer_rung_1 hr10627) ?_
  refine vn ?_
  refine sB h F (fun F h => ?_) fun F h => ?_
  refine cF ?_
  refine Wp.skip ?_
  refine sh ?_
  refine rg0 ?_
  iterate 2 refine vp ?_
  refine vn ?_
  exact nx [some 0] (IntKind.i64.wrap (p10622 + 1)) h
  refine cT ?_
  refine rs0 ?_
  iterate 2 refine vp ?_
  refine vn ?_
  cases h
  exact Wp.ret (enH [some 0])

theorem con_slices_IndexFunc_api_Contact_c47 {n : Nat} {s0 : List ApiContact} {r : Int} (h : slices_IndexFunc_api_Contact_c47 n s0 = some r) : Con Tryz.prog G0 78 [aL cApiContact s0, .clos 47 [] []] (.int .i64 r) [] := by
  refine con_of (T := TT0) tt_ok Tryz.func78 (c := _) (by unfold Tryz.f78; rfl) Tryz.ntmps78 (rs := [.tmp 4]) (by rw [Tryz.results78]) (by unfold Tryz.f78; rfl) (by simp) ?_
  simp only [argsCh]
  have F := True.intro
  dsimp only [slices_IndexFunc_api_Contact_c47] at h
  refine rs0 ?_
  refine vp ?_
  refine vn ?_
  refine Wp.seq ?_
  refine rs0 ?_
  iterate 3 refine vp ?_
  refine vn ?_
  refine Wp.block ?_
  refine lp [] (fun p15167 : Int => { ch := [(0, aL cApiContact s0), (1, .clos 47 [] []), (7, .int .i64 (s0.length : Int)), (8, .int .i64 p15167)], hp := [], base := 0, n := 19, cond := True, gl := G0 }) (fun m x => slices_IndexFunc_api_Contact_c47_L1 n s0 m x = some r) n 0 h ?_
  rintro rec_n1 p15167 h
  dsimp only [slices_IndexFunc_api_Contact_c47_L1] at h
  try dsimp only
  refine rs0 ?_
  refine vp ?_
  refine vn ?_
  refine Wp.seq ?_
  refine sD h F (fun F h => ?_) fun F h => ?_
  refine cF ?_
  refine Wp.exit ?_
  refine sh ?_
  refine rs0 ?_
  refine vp ?_
  refine vn ?_
  cases h
  exact Wp.ret en0
  refine cT ?_
  refine Wp.skip ?_
  refine sh ?_
  refine Wp.seq ?_
  refine Wp.block ?_
  refine rs0 ?_
  iterate 2 refine vp ?_
  refine vn ?_
  refine rs0 ?_
  iterate 3 refine vp ?_
  refine eI h F fun x15171 F h => ?_
  iterate 2 refine vp ?_
  obtain ⟨r15173, hr15172, h⟩ := obind h
  refine vc (con_codegen_Tree_1 hr15172) ?_
  refine vn ?_
  refine sB h F (fun F h => ?_) fun F h => ?_
  refine cF ?_
  refine Wp.skip ?_
  refine sh ?_
  refine rg0 ?_
  iterate 2 refine vp ?_
  refine vn ?_
  exact nx [] (IntKind.i64.wrap (p15167 + 1)) h
  refine cT ?_
  refine rs0 ?_
  iterate 2 refine vp ?_
  refine vn ?_
  cases h
  exact Wp.ret en0

end Go.Proofs.YtaebdeidbibfkaaGreatDoor
