/- Contracts: models of functions are right. No law is proved here. -/
import Derived.Test.YtaebdeidbibfkaaGreatDoorGMod
import Derived.Test.YtaebdeidbibfkaaGreatDoorTaz
import Derived.Test.YtaebdeidbibfkaaGreatDoorGC2
import Derived.Test.YtaebdeidbibfkaaGreatDoorGC5
import Derived.Test.YtaebdeidbibfkaaGreatDoorGC9
import Derived.Test.YtaebdeidbibfkaaGreatDoorGC10
import Derived.Test.YtaebdeidbibfkaaGreatDoorGC11
namespace Go.Proofs.YtaebdeidbibfkaaGreatDoor
open Go.Av Go.G
attribute [-simp] Int.natCast_tdiv_eq_ediv
attribute [local simp] runf guardA opf St.ev Go.Av.look St.setd constAV constAV0 opBin opLen intBin St.need lookT TT0 tab resA resOne resAll blt_dec ble_dec beq_dec isPure
attribute [local simp] opMakeSlice opCopy opIndexAddr opLoad opStore St.mem St.rows opUn calleeA toArgs toArg toArg0 toArgs0 shift shift0 shift1 splice cellsOf isFree ofCells TS.isAgg isCell strBin opConvert
attribute [local simp] opSlice3 opClear fz_clear opBuildSlice fillA opAppend eqC eqA cksB ckB St.newBox runI valKind withinB readsHp refsD refs noSl opFieldAddr opBuild opMax opMin placeOf Op.operands Call.operands opIndex opExtract opSlice opField partA
attribute [local simp] loA hiA lenA opMakeMap opLookup opMapUpdate keyOk findA_int findA_str findA_bool putA_strB putA_strI putA_strS putA_intB putA_intI putA_intS putA_boolI putA_boolB mAV_length mAV_nil cA1 cA2 cA3 cA4 opNilCheck opMakeFunc opRange
attribute [local simp] aL cI cB cS cL rw_map fz_rw fz_const dropRow_rw fz_append fz_set fz_copy fz_rows rowLen_rw rowsLen_nil rowsLen_cons rowsLen_append rowsLen_map rowsLen_dm rowsLen_tm rowsLen_take rowsLen_drop rowsLen_replicate take_map_len take_map_le drop_map_len take_drop_len chunks isScalar isScalar0
attribute [local simp] putBack putAt objMap mapC mapA mapT map0 bid rid memB passed closedB argsH argH argH0 argsH0 objIds ids0 idsC isLocT isLocA isLocC isLoc0 LocObj
attribute [local congr] bind_congr1 map_congr1 cond_congr1
attribute [local simp] cApiAddr cApiContact cApiCoil cApiRung cApiIns cApiLadder cApiSize cApiProgram cReducePair cReduceEdge cTreeTree_eq TreeTree_Kind_mk TreeTree_N_mk TreeTree_Kids_mk eta_TreeTree cRef14Tree_eq Ref14Tree_Kind_mk Ref14Tree_N_mk Ref14Tree_Kids_mk eta_Ref14Tree
set_option maxHeartbeats 4000000
set_option maxRecDepth 20000
set_option linter.unusedSimpArgs false
set_option linter.unusedVariables false

theorem con_printer_Check {n : Nat} {_append0 : ApiLadder} {r : Int × Int} (h : printer_Check n _append0 = some r) : Con Tryz.prog G0 82 [.agg (cApiLadder _append0)] (.tup [.int .i64 r.1, .int .i64 r.2]) [] := by
  refine con_of (T := TT0) tt_ok Tryz.func82 (c := _) (by unfold Tryz.f82; rfl) Tryz.ntmps82 (rs := [.tmp 2, .tmp 3]) (by rw [Tryz.results82]) (by unfold Tryz.f82; rfl) (by simp) ?_
  simp only [argsCh]
  have F := True.intro
  dsimp only [printer_Check] at h
  refine rs0 ?_
  iterate 3 refine vp ?_
  refine vn ?_
  refine rs0 ?_
  refine vp ?_
  obtain ⟨r10585, hr10584, h⟩ := obind h
  refine vc (con_printer_sizes hr10584) ?_
  iterate 2 refine vp ?_
  refine vn ?_
  refine Wp.seq ?_
  refine Wp.block ?_
  refine rs0 ?_
  refine vp ?_
  obtain ⟨r10597, hr10596, h⟩ := obind h
  refine vc (con_addr_CheckSize hr10596) ?_
  iterate 2 refine vp ?_
  refine vn ?_
  refine sB h F (fun F h => ?_) fun F h => ?_
  refine cF ?_
  refine rs0 ?_
  iterate 5 refine vp ?_
  refine vn ?_
  refine sD h F (fun F h => ?_) fun F h => ?_
  refine cF ?_
  refine Wp.skip ?_
  refine sh ?_
  refine jn (fun _ : Unit => { ch := [(1, .hptr 0 0 0)], hp := [.var [.int .i64 _append0.I, .int .i64 _append0.Q, .int .i64 _append0.M, aL cApiRung _append0.Rungs]], base := 0, n := 67, cond := True, gl := G0 }) (fun x => printer_Check_J1 n _append0 = some r) ?_ ?_
  clear h
  rintro _ h
  dsimp only [printer_Check_J1] at h
  try dsimp only
  refine Wp.seq ?_
  refine rs0 ?_
  iterate 4 refine vp ?_
  refine vn ?_
  refine Wp.block ?_
  refine lp [some 0] (fun p10764 : Int => { ch := [(1, .hptr 0 0 0), (42, aL cApiRung _append0.Rungs), (43, .int .i64 (_append0.Rungs.length : Int)), (44, .int .i64 p10764)], hp := [.var [.int .i64 _append0.I, .int .i64 _append0.Q, .int .i64 _append0.M, aL cApiRung _append0.Rungs]], base := 0, n := 67, cond := True, gl := G0 }) (fun m x => printer_Check_L2 n _append0 m x = some r) n 0 h ?_
  rintro rec_n2 p10764 h
  dsimp only [printer_Check_L2] at h
  try dsimp only
  refine rs0 ?_
  refine vp ?_
  refine vn ?_
  refine Wp.seq ?_
  refine sD h F (fun F h => ?_) fun F h => ?_
  refine cF ?_
  refine Wp.exit ?_
  refine sh ?_
  refine rs0 ?_
  iterate 5 refine vp ?_
  refine vn ?_
  cases h
  exact Wp.ret en0
  refine cT ?_
  refine Wp.skip ?_
  refine sh ?_
  refine Wp.seq ?_
  refine Wp.block ?_
  refine rs0 ?_
  refine vp ?_
  refine eI h F fun x10769 F h => ?_
  iterate 5 refine vp ?_
  refine vn ?_
  refine rs0 ?_
  iterate 4 refine vp ?_
  refine sEn h F (fun _ F h => ?_) fun _ F h => ?_
  refine vs ?_
  refine vs ?_
  refine vs ?_
  refine vs ?_
  refine vs ?_
  refine vs ?_
  refine vs ?_
  refine vs ?_
  refine vp ?_
  refine vn ?_
  refine cF ?_
  refine Wp.skip ?_
  refine sh ?_
  refine rg0 ?_
  iterate 2 refine vp ?_
  refine vn ?_
  exact nx [some 0] (IntKind.i64.wrap (p10764 + 1)) h
  refine vg ?_
  refine vg ?_
  refine vg ?_
  refine vg ?_
  refine gd h F fun F h => ?_
  refine vg ?_
  refine nm cApiRung h F fun l10770 F h => ?_
  refine vg ?_
  obtain ⟨r10772, hr10771, h⟩ := obind h
  refine vh [1] (con_slices_ContainsFunc_api_Rung_c122 hr10771) ?_ (hg := by (simp [F]; done))
  refine vg ?_
  refine vp ?_
  refine vn ?_
  refine sB h F (fun F h => ?_) fun F h => ?_
  refine cF ?_
  refine Wp.skip ?_
  refine sh ?_
  refine rg0 ?_
  iterate 2 refine vp ?_
  refine vn ?_
  exact nx [some 0] (IntKind.i64.wrap (p10764 + 1)) h
  refine cT ?_
  refine rs0 ?_
  iterate 3 refine vp ?_
  refine vn ?_
  cases h
  exact Wp.ret en0
  refine rs0 ?_
  iterate 4 refine vp ?_
  refine vn ?_
  refine Wp.block ?_
  refine lp [some 0, some 1] (fun p10777 : Int => { ch := [(1, .hptr 0 0 0), (4, .hptr 1 0 0), (22, aL cApiRung _append0.Rungs), (23, .int .i64 (_append0.Rungs.length : Int)), (24, .int .i64 p10777)], hp := [.var [.int .i64 _append0.I, .int .i64 _append0.Q, .int .i64 _append0.M, aL cApiRung _append0.Rungs], .var [.int .i64 r10585.I, .int .i64 r10585.Q, .int .i64 r10585.M, .int .i64 r10585.E]], base := 0, n := 67, cond := True, gl := G0 }) (fun m x => printer_Check_L3 n _append0 r10585 m x = some r) n 0 h ?_
  rintro rec_n3 p10777 h
  dsimp only [printer_Check_L3] at h
  try dsimp only
  refine rs0 ?_
  refine vp ?_
  refine vn ?_
  refine Wp.seq ?_
  refine sD h F (fun F h => ?_) fun F h => ?_
  refine cF ?_
  refine Wp.exit ?_
  exact nx [some 0] () h
  refine cT ?_
  refine Wp.skip ?_
  refine sh ?_
  refine Wp.seq ?_
  refine Wp.block ?_
  refine rs0 ?_
  refine vp ?_
  refine eI h F fun x10782 F h => ?_
  iterate 5 refine vp ?_
  refine vn ?_
  refine dw (fun _ => false) [0, 1, 2] ?_
  refine du 4 ?_
  refine gd h F fun F h => ?_
  refine du 1 ?_
  refine nm cApiRung h F fun l10783 F h => ?_
  refine du 1 ?_
  obtain ⟨r10785, hr10784, h⟩ := obind h
  refine dc (con_printer_rung hr10784) ?_
  refine du 1 ?_
  refine dn ?_
  refine rs0 ?_
  iterate 2 refine vp ?_
  refine vn ?_
  refine sB h F (fun F h => ?_) fun F h => ?_
  refine cF ?_
  refine Wp.skip ?_
  refine sh ?_
  refine rg0 ?_
  iterate 2 refine vp ?_
  refine vn ?_
  exact nx [some 0, some 1] (IntKind.i64.wrap (p10777 + 1)) h
  refine cT ?_
  refine rs0 ?_
  iterate 4 refine vp ?_
  refine vn ?_
  cases h
  exact Wp.ret en0
  refine cT ?_
  refine rs0 ?_
  iterate 2 refine vp ?_
  refine vn ?_
  cases h
  exact Wp.ret en0
  refine cT ?_
  refine rs0 ?_
  iterate 2 refine vp ?_
  refine vn ?_
  cases h
  exact Wp.ret en0

theorem con_slices_DeleteFunc_string_c107 {n : Nat} {l0 : List Str} {b1 : List Str} {b2 : List Str} {r : (List Str)} (h : slices_DeleteFunc_string_c107 n l0 b1 b2 = some r) : ConH Tryz.prog G0 106 [.sl 0 0 l0.length, .clos 107 [] [.hptr 1 0 0, .hptr 2 0 0]] [.arr 1 l0.length (rw (l0.map cS)), .var [aL cS b1], .var [aL cS b2]] (.sl 0 0 r.length) [.arr 1 r.length (rw (r.map cS)), .var [aL cS b1], .var [aL cS b2]] := by
  refine conH_of (T := TT0) tt_ok Tryz.func106 (c := _) (by unfold Tryz.f106; rfl) Tryz.ntmps106 (rs := [.tmp 4]) (by rw [Tryz.results106]) (by unfold Tryz.f106; rfl) (by simp) (k := 3) rfl rfl ?_
  try simp only [argsCh]
  have F := True.intro
  dsimp only [slices_DeleteFunc_string_c107] at h
  refine rs0 ?_
  refine vp ?_
  refine vn ?_
  refine rs0 ?_
  iterate 2 refine vp ?_
  obtain ⟨r14594, hr14593, h⟩ := obind h
  refine vh [0, 1, 2] (con_slices_IndexFunc_string_c107_v1 hr14593) ?_
  refine vp ?_
  refine vn ?_
  refine Wp.seq ?_
  refine rs0 ?_
  iterate 2 refine vp ?_
  refine vn ?_
  refine sB h F (fun F h => ?_) fun F h => ?_
  refine cF ?_
  refine Wp.skip ?_
  refine sh ?_
  refine Wp.seq ?_
  refine rs0 ?_
  iterate 3 refine vp ?_
  refine vn ?_
  refine Wp.block ?_
  refine lp [some 0, some 1, some 2] (fun x : (List Str) × Int × Int => { ch := [(0, .sl 0 0 x.1.length), (1, .clos 107 [] [.hptr 1 0 0, .hptr 2 0 0]), (5, .int .i64 x.2.1), (6, .int .i64 x.2.2)], hp := [.arr 1 x.1.length (rw (x.1.map cS)), .var [aL cS b1], .var [aL cS b2]], base := 3, n := 42, cond := True, gl := G0 }) (fun m x => slices_DeleteFunc_string_c107_L1 n b1 b2 m x.1 x.2.1 x.2.2 = some r) n (l0, r14594, (IntKind.i64.wrap (r14594 + 1))) h ?_
  rintro rec_n1 ⟨l14600, r14601, p14602⟩ h
  dsimp only [slices_DeleteFunc_string_c107_L1] at h
  try dsimp only
  refine Wp.seq ?_
  refine rs0 ?_
  iterate 4 refine vp ?_
  refine vn ?_
  refine sD h F (fun F h => ?_) fun F h => ?_
  refine cF ?_
  refine Wp.exit ?_
  refine sh ?_
  refine rs0 ?_
  iterate 2 refine vp ?_
  refine gd h F fun F h => ?_
  refine vp ?_
  refine gd h F fun F h => ?_
  refine vp ?_
  refine vn ?_
  refine rl [some 0, some 1, some 2] { ch := [(0, .sl 0 0 l14600.length), (1, .clos 107 [] [.hptr 1 0 0, .hptr 2 0 0]), (5, .int .i64 r14601), (6, .int .i64 p14602), (16, .int .i64 p14602), (17, .sl 0 0 l14600.length), (18, .int .i64 (l14600.length : Int)), (19, .bool (decide (p14602 < (l14600.length : Int)))), (36, .sl 0 0 l14600.length), (37, .int .i64 r14601), (38, .sl 0 r14601.toNat (l14600.length - r14601.toNat))], hp := [.arr 1 (l14600.take r14601.toNat).length (rw ((l14600.take r14601.toNat).map cS)), .var [aL cS b1], .var [aL cS b2]], base := 3, n := 42, cond := True, gl := G0 } ?_
  refine rs0 ?_
  iterate 2 refine vp ?_
  refine gd h F fun F h => ?_
  iterate 2 refine vp ?_
  refine vn ?_
  cases h
  exact Wp.ret (enH [some 0, some 1, some 2])
  refine cT ?_
  refine Wp.skip ?_
  refine sh ?_
  refine Wp.seq ?_
  refine Wp.block ?_
  refine rs0 ?_
  iterate 2 refine vp ?_
  refine eI h F fun x14608 F h => ?_
  iterate 3 refine vp ?_
  refine vn ?_
  refine rs0 ?_
  iterate 2 refine vp ?_
  obtain ⟨r14610, hr14609, h⟩ := obind h
  refine vh [1, 2] (con_flow_DeadNodes_1 hr14609) ?_
  refine vp ?_
  refine vn ?_
  refine sB h F (fun F h => ?_) fun F h => ?_
  refine cF ?_
  refine Wp.skip ?_
  refine sh ?_
  refine rg0 ?_
  iterate 3 refine vp ?_
  refine vn ?_
  exact nx [some 0, some 1, some 2] (l14600, r14601, (IntKind.i64.wrap (p14602 + 1))) h
  refine cT ?_
  refine rs0 ?_
  iterate 3 refine vp ?_
  refine eI h F fun x14611 F h => ?_
  iterate 2 refine vp ?_
  refine nm cS h F fun l14612 F h => ?_
  refine vn ?_
  refine rg0 ?_
  iterate 3 refine vp ?_
  refine vn ?_
  refine sh ?_
  refine rg0 ?_
  iterate 3 refine vp ?_
  refine vn ?_
  exact nx [some 0, some 1, some 2] (l14612, (IntKind.i64.wrap (r14601 + 1)), (IntKind.i64.wrap (p14602 + 1))) h
  refine cT ?_
  refine rs0 ?_
  iterate 2 refine vp ?_
  refine vn ?_
  cases h
  exact Wp.ret (enH [some 0, some 1, some 2])

theorem con_ref17_Tree {n : Nat} {r_0 : ApiRung} {t1 : Ref14Tree} {slot2 : Int} {r : (List ApiIns) × Int} (h : ref17_Tree n r_0 t1 slot2 = some r) : Con Tryz.prog G0 18 [.agg (cApiRung r_0), .agg [.int .i64 t1.Kind, .int .i64 t1.N, aL cRef14Tree t1.Kids], .int .i64 slot2] (.tup [aL cApiIns r.1, .int .i64 r.2]) [] := by
  refine con_of (T := TT0) tt_ok Tryz.func18 (c := _) (by unfold Tryz.f18; rfl) Tryz.ntmps18 (rs := [.tmp 6, .tmp 7]) (by rw [Tryz.results18]) (by unfold Tryz.f18; rfl) (by simp) ?_
  simp only [argsCh]
  have F := True.intro
  dsimp only [ref17_Tree] at h
  refine rs0 ?_
  iterate 4 refine vp ?_
  refine vn ?_
  refine rs0 ?_
  iterate 4 refine vp ?_
  obtain ⟨r16232, hr16231, h⟩ := obind h
  refine vc (con_ref14_Check hr16231) ?_
  refine vp ?_
  refine vn ?_
  refine Wp.seq ?_
  refine rs0 ?_
  iterate 2 refine vp ?_
  refine vn ?_
  refine sB h F (fun F h => ?_) fun F h => ?_
  refine cF ?_
  refine Wp.skip ?_
  refine sh ?_
  refine jn (fun _ : Unit => { ch := [(2, .int .i64 slot2), (3, .hptr 0 0 0), (4, .hptr 1 0 0)], hp := [.var [.str r_0.Label, aL cApiContact r_0.Contacts, aL cApiCoil r_0.Coils, .str r_0.Jump], .var [.int .i64 t1.Kind, .int .i64 t1.N, aL cRef14Tree t1.Kids]], base := 0, n := 51, cond := True, gl := G0 }) (fun x => ref17_Tree_J1 n r_0 t1 slot2 = some r) ?_ ?_
  clear h
  rintro _ h
  dsimp only [ref17_Tree_J1] at h
  try dsimp only
  refine Wp.seq ?_
  refine rs0 ?_
  iterate 3 refine vp ?_
  refine sD h F (fun F h => ?_) fun F h => ?_
  refine vg ?_
  refine vg ?_
  refine vp ?_
  refine vn ?_
  refine sD h F (fun F h => ?_) fun F h => ?_
  refine cF ?_
  refine Wp.skip ?_
  refine sh ?_
  refine rs0 ?_
  iterate 3 refine vp ?_
  obtain ⟨r16561, hr16560, h⟩ := obind h
  refine vc (con_ref17_lay _ hr16560) ?_
  iterate 2 refine vp ?_
  refine vn ?_
  cases h
  exact Wp.ret en0
  refine cT ?_
  refine rs0 ?_
  iterate 2 refine vp ?_
  refine vn ?_
  cases h
  exact Wp.ret en0
  refine vs ?_
  refine vs ?_
  refine vp ?_
  refine vn ?_
  refine cT ?_
  refine rs0 ?_
  iterate 2 refine vp ?_
  refine vn ?_
  cases h
  exact Wp.ret en0
  refine rs0 ?_
  refine vp ?_
  refine vn ?_
  refine Wp.block ?_
  refine lp [some 0, some 1] (fun p16563 : Int => { ch := [(2, .int .i64 slot2), (3, .hptr 0 0 0), (4, .hptr 1 0 0), (9, .int .i64 p16563)], hp := [.var [.str r_0.Label, aL cApiContact r_0.Contacts, aL cApiCoil r_0.Coils, .str r_0.Jump], .var [.int .i64 t1.Kind, .int .i64 t1.N, aL cRef14Tree t1.Kids]], base := 0, n := 51, cond := True, gl := G0 }) (fun m x => ref17_Tree_L2 n r_0 t1 slot2 m x = some r) n 0 h ?_
  rintro rec_n2 p16563 h
  dsimp only [ref17_Tree_L2] at h
  try dsimp only
  refine Wp.seq ?_
  refine rs0 ?_
  iterate 5 refine vp ?_
  refine vn ?_
  refine sD h F (fun F h => ?_) fun F h => ?_
  refine cF ?_
  refine Wp.exit ?_
  exact nx [some 0, some 1] () h
  refine cT ?_
  refine Wp.skip ?_
  refine sh ?_
  refine Wp.seq ?_
  refine Wp.block ?_
  refine rs0 ?_
  iterate 3 refine vp ?_
  refine eI h F fun x16565 F h => ?_
  iterate 5 refine vp ?_
  refine sD h F (fun F h => ?_) fun F h => ?_
  refine vg ?_
  refine vg ?_
  refine vg ?_
  refine vg ?_
  refine vg ?_
  refine vg ?_
  refine vg ?_
  refine vp ?_
  refine vn ?_
  refine sD h F (fun F h => ?_) fun F h => ?_
  refine cF ?_
  refine Wp.skip ?_
  refine sh ?_
  refine rg0 ?_
  iterate 3 refine vp ?_
  refine vn ?_
  exact nx [some 0, some 1] (IntKind.i64.wrap (p16563 + 1)) h
  refine cT ?_
  refine rs0 ?_
  iterate 2 refine vp ?_
  refine vn ?_
  cases h
  exact Wp.ret en0
  refine vs ?_
  refine vs ?_
  refine vs ?_
  refine vs ?_
  refine vs ?_
  refine vs ?_
  refine vs ?_
  refine vp ?_
  refine vn ?_
  refine cT ?_
  refine rs0 ?_
  iterate 2 refine vp ?_
  refine vn ?_
  cases h
  exact Wp.ret en0
  refine cT ?_
  refine rs0 ?_
  iterate 3 refine vp ?_
  refine vn ?_
  cases h
  exact Wp.ret en0

theorem con_graph_gather_1_c136_166 (n : Nat) : ∀ {n_0 : Str} {m1 : List (Str × Bool)} {b3 : ApiRung} {r : (List (Str × Bool))}, graph_gather_1_c136_166 n n_0 m1 b3 = some r → ConH Tryz.prog G0 166 [.str n_0, .hptr 0 0 0, .hptr 2 0 0, .hptr 4 0 0] [.var [.mp 1], .map (mAV AV.str cB m1), .var [.clos 136 [] [.hptr 3 0 0]], .var [.str b3.Label, aL cApiContact b3.Contacts, aL cApiCoil b3.Coils, .str b3.Jump], .var [.clos 166 [] [.hptr 0 0 0, .hptr 2 0 0, .hptr 4 0 0]]] (.tup []) [.var [.mp 1], .map (mAV AV.str cB r), .var [.clos 136 [] [.hptr 3 0 0]], .var [.str b3.Label, aL cApiContact b3.Contacts, aL cApiCoil b3.Coils, .str b3.Jump], .var [.clos 166 [] [.hptr 0 0 0, .hptr 2 0 0, .hptr 4 0 0]]] := by
  induction n with
  | zero => intro n_0 m1 b3 r h; simp [graph_gather_1_c136_166] at h
  | succ n Hslf_graph_gather_1_c136_166 =>
   intro n_0 m1 b3 r h
   refine conH_of (T := TT0) tt_ok Tryz.func166 (c := _) (by unfold Tryz.f166; rfl) Tryz.ntmps166 (rs := []) (by rw [Tryz.results166]) (by unfold Tryz.f166; rfl) (by simp) (k := 5) rfl rfl ?_
   try simp only [argsCh]
   have F := True.intro
   dsimp only [graph_gather_1_c136_166] at h
   refine Wp.seq ?_
   refine rs0 ?_
   iterate 3 refine vp ?_
   refine vn ?_
   refine sB h F (fun F h => ?_) fun F h => ?_
   refine cF ?_
   refine Wp.skip ?_
   refine sh ?_
   refine rs0 ?_
   iterate 3 refine vp ?_
   refine vn ?_
   refine rs0 ?_
   iterate 2 refine vp ?_
   obtain ⟨r14194, hr14193, h⟩ := obind h
   refine vh [3] (con_graph_Reachable_1 hr14193) ?_
   iterate 2 refine vp ?_
   refine vn ?_
   refine Wp.block ?_
   refine lp [some 0, some 1, some 2, some 3, some 4] (fun x : (List (Str × Bool)) × Int => { ch := [(3, .hptr 4 0 0), (14, aL cS r14194), (15, .int .i64 (r14194.length : Int)), (16, .int .i64 x.2)], hp := [.var [.mp 1], .map (mAV AV.str cB x.1), .var [.clos 136 [] [.hptr 3 0 0]], .var [.str b3.Label, aL cApiContact b3.Contacts, aL cApiCoil b3.Coils, .str b3.Jump], .var [.clos 166 [] [.hptr 0 0 0, .hptr 2 0 0, .hptr 4 0 0]]], base := 5, n := 24, cond := True, gl := G0 }) (fun m x => graph_gather_1_c136_166_L1 b3 r14194 (graph_gather_1_c136_166 n) m x.1 x.2 = some r) n ((mPut m1 n_0 true), 0) h ?_
   rintro rec_n1 ⟨p14198, p14199⟩ h
   dsimp only [graph_gather_1_c136_166_L1] at h
   try dsimp only
   refine rs0 ?_
   refine vp ?_
   refine vn ?_
   refine Wp.seq ?_
   refine sD h F (fun F h => ?_) fun F h => ?_
   refine cF ?_
   refine Wp.exit ?_
   cases h
   exact n2r (enH [some 0, some 1, some 2, some 3, some 4])
   refine cT ?_
   refine Wp.skip ?_
   refine sh ?_
   refine Wp.seq ?_
   refine Wp.block ?_
   refine rs0 ?_
   refine eI h F fun x14203 F h => ?_
   iterate 3 refine vp ?_
   refine vn ?_
   refine rg0 ?_
   iterate 2 refine vp ?_
   obtain ⟨q14205, hr14204, h⟩ := obind h
   refine vh [0, 1, 2, 3, 4] (Hslf_graph_gather_1_c136_166 hr14204) ?_
   refine vn ?_
   refine sh ?_
   refine rg0 ?_
   iterate 2 refine vp ?_
   refine vn ?_
   exact nx [some 0, some 1, some 2, some 3, some 4] (q14205, (IntKind.i64.wrap (p14199 + 1))) h
   refine cT ?_
   cases h
   exact Wp.ret (enH [some 0, some 1, some 2, some 3, some 4])

theorem con_graph_gather_1_c138_166 (n : Nat) : ∀ {n_0 : Str} {m1 : List (Str × Bool)} {b3 : ApiRung} {r : (List (Str × Bool))}, graph_gather_1_c138_166 n n_0 m1 b3 = some r → ConH Tryz.prog G0 166 [.str n_0, .hptr 0 0 0, .hptr 2 0 0, .hptr 4 0 0] [.var [.mp 1], .map (mAV AV.str cB m1), .var [.clos 138 [] [.hptr 3 0 0]], .var [.str b3.Label, aL cApiContact b3.Contacts, aL cApiCoil b3.Coils, .str b3.Jump], .var [.clos 166 [] [.hptr 0 0 0, .hptr 2 0 0, .hptr 4 0 0]]] (.tup []) [.var [.mp 1], .map (mAV AV.str cB r), .var [.clos 138 [] [.hptr 3 0 0]], .var [.str b3.Label, aL cApiContact b3.Contacts, aL cApiCoil b3.Coils, .str b3.Jump], .var [.clos 166 [] [.hptr 0 0 0, .hptr 2 0 0, .hptr 4 0 0]]] := by
  induction n with
  | zero => intro n_0 m1 b3 r h; simp [graph_gather_1_c138_166] at h
  | succ n Hslf_graph_gather_1_c138_166 =>
   intro n_0 m1 b3 r h
   refine conH_of (T := TT0) tt_ok Tryz.func166 (c := _) (by unfold Tryz.f166; rfl) Tryz.ntmps166 (rs := []) (by rw [Tryz.results166]) (by unfold Tryz.f166; rfl) (by simp) (k := 5) rfl rfl ?_
   try simp only [argsCh]
   have F := True.intro
   dsimp only [graph_gather_1_c138_166] at h
   refine Wp.seq ?_
   refine rs0 ?_
   iterate 3 refine vp ?_
   refine vn ?_
   refine sB h F (fun F h => ?_) fun F h => ?_
   refine cF ?_
   refine Wp.skip ?_
   refine sh ?_
   refine rs0 ?_
   iterate 3 refine vp ?_
   refine vn ?_
   refine rs0 ?_
   iterate 2 refine vp ?_
   obtain ⟨r14482, hr14481, h⟩ := obind h
   refine vh [3] (con_graph_Ancestors_1 hr14481) ?_
   iterate 2 refine vp ?_
   refine vn ?_
   refine Wp.block ?_
   refine lp [some 0, some 1, some 2, some 3, some 4] (fun x : (List (Str × Bool)) × Int => { ch := [(3, .hptr 4 0 0), (14, aL cS r14482), (15, .int .i64 (r14482.length : Int)), (16, .int .i64 x.2)], hp := [.var [.mp 1], .map (mAV AV.str cB x.1), .var [.clos 138 [] [.hptr 3 0 0]], .var [.str b3.Label, aL cApiContact b3.Contacts, aL cApiCoil b3.Coils, .str b3.Jump], .var [.clos 166 [] [.hptr 0 0 0, .hptr 2 0 0, .hptr 4 0 0]]], base := 5, n := 24, cond := True, gl := G0 }) (fun m x => graph_gather_1_c138_166_L1 b3 r14482 (graph_gather_1_c138_166 n) m x.1 x.2 = some r) n ((mPut m1 n_0 true), 0) h ?_
   rintro rec_n1 ⟨p14486, p14487⟩ h
   dsimp only [graph_gather_1_c138_166_L1] at h
   try dsimp only
   refine rs0 ?_
   refine vp ?_
   refine vn ?_
   refine Wp.seq ?_
   refine sD h F (fun F h => ?_) fun F h => ?_
   refine cF ?_
   refine Wp.exit ?_
   cases h
   exact n2r (enH [some 0, some 1, some 2, some 3, some 4])
   refine cT ?_
   refine Wp.skip ?_
   refine sh ?_
   refine Wp.seq ?_
   refine Wp.block ?_
   refine rs0 ?_
   refine eI h F fun x14491 F h => ?_
   iterate 3 refine vp ?_
   refine vn ?_
   refine rg0 ?_
   iterate 2 refine vp ?_
   obtain ⟨q14493, hr14492, h⟩ := obind h
   refine vh [0, 1, 2, 3, 4] (Hslf_graph_gather_1_c138_166 hr14492) ?_
   refine vn ?_
   refine sh ?_
   refine rg0 ?_
   iterate 2 refine vp ?_
   refine vn ?_
   exact nx [some 0, some 1, some 2, some 3, some 4] (q14493, (IntKind.i64.wrap (p14487 + 1))) h
   refine cT ?_
   cases h
   exact Wp.ret (enH [some 0, some 1, some 2, some 3, some 4])

theorem con_slices_IndexFunc_string_c99_v1 {n : Nat} {l0 : List Str} {b1 : ApiRung} {m3 : List (Str × Bool)} {r : Int} (h : slices_IndexFunc_string_c99_v1 n l0 b1 m3 = some r) : ConH Tryz.prog G0 98 [.sl 0 0 l0.length, .clos 99 [] [.hptr 1 0 0, .hptr 2 0 0]] [.arr 1 l0.length (rw (l0.map cS)), .var [.str b1.Label, aL cApiContact b1.Contacts, aL cApiCoil b1.Coils, .str b1.Jump], .var [.mp 3], .map (mAV AV.str cB m3)] (.int .i64 r) [.arr 1 l0.length (rw (l0.map cS)), .var [.str b1.Label, aL cApiContact b1.Contacts, aL cApiCoil b1.Coils, .str b1.Jump], .var [.mp 3], .map (mAV AV.str cB m3)] := by
  refine conH_of (T := TT0) tt_ok Tryz.func98 (c := _) (by unfold Tryz.f98; rfl) Tryz.ntmps98 (rs := [.tmp 4]) (by rw [Tryz.results98]) (by unfold Tryz.f98; rfl) (by simp) (k := 4) rfl rfl ?_
  try simp only [argsCh]
  have F := True.intro
  dsimp only [slices_IndexFunc_string_c99_v1] at h
  refine rs0 ?_
  refine vp ?_
  refine vn ?_
  refine Wp.seq ?_
  refine rs0 ?_
  iterate 3 refine vp ?_
  refine vn ?_
  refine Wp.block ?_
  refine lp [some 0, some 1, some 2, some 3] (fun p13118 : Int => { ch := [(0, .sl 0 0 l0.length), (1, .clos 99 [] [.hptr 1 0 0, .hptr 2 0 0]), (7, .int .i64 (l0.length : Int)), (8, .int .i64 p13118)], hp := [.arr 1 l0.length (rw (l0.map cS)), .var [.str b1.Label, aL cApiContact b1.Contacts, aL cApiCoil b1.Coils, .str b1.Jump], .var [.mp 3], .map (mAV AV.str cB m3)], base := 4, n := 19, cond := True, gl := G0 }) (fun m x => slices_IndexFunc_string_c99_v1_L1 n l0 b1 m3 m x = some r) n 0 h ?_
  rintro rec_n1 p13118 h
  dsimp only [slices_IndexFunc_string_c99_v1_L1] at h
  try dsimp only
  refine rs0 ?_
  refine vp ?_
  refine vn ?_
  refine Wp.seq ?_
  refine sD h F (fun F h => ?_) fun F h => ?_
  refine cF ?_
  refine Wp.exit ?_
  refine sh ?_
  refine rs0 ?_
  refine vp ?_
  refine vn ?_
  cases h
  exact Wp.ret (enH [some 0, some 1, some 2, some 3])
  refine cT ?_
  refine Wp.skip ?_
  refine sh ?_
  refine Wp.seq ?_
  refine Wp.block ?_
  refine rs0 ?_
  iterate 2 refine vp ?_
  refine vn ?_
  refine rs0 ?_
  iterate 3 refine vp ?_
  refine eI h F fun x13122 F h => ?_
  iterate 2 refine vp ?_
  obtain ⟨r13124, hr13123, h⟩ := obind h
  refine vh [1, 2, 3] (con_graph_TopoSort_1 hr13123) ?_
  refine vn ?_
  refine sB h F (fun F h => ?_) fun F h => ?_
  refine cF ?_
  refine Wp.skip ?_
  refine sh ?_
  refine rg0 ?_
  iterate 2 refine vp ?_
  refine vn ?_
  exact nx [some 0, some 1, some 2, some 3] (IntKind.i64.wrap (p13118 + 1)) h
  refine cT ?_
  refine rs0 ?_
  iterate 2 refine vp ?_
  refine vn ?_
  cases h
  exact Wp.ret (enH [some 0, some 1, some 2, some 3])

theorem con_tree_Check {n : Nat} {t0 : TreeTree} {many1 : Int} {r : Int} (h : tree_Check n t0 many1 = some r) : Con Tryz.prog G0 33 [.agg [.int .i64 t0.Kind, .int .i64 t0.N, aL cTreeTree t0.Kids], .int .i64 many1] (.int .i64 r) [] := by
  refine con_of (T := TT0) tt_ok Tryz.func33 (c := _) (by unfold Tryz.f33; rfl) Tryz.ntmps33 (rs := [.tmp 4]) (by rw [Tryz.results33]) (by unfold Tryz.f33; rfl) (by simp) ?_
  simp only [argsCh]
  have F := True.intro
  dsimp only [tree_Check] at h
  refine rs0 ?_
  iterate 2 refine vp ?_
  refine vn ?_
  refine rs0 ?_
  iterate 2 refine vp ?_
  refine vn ?_
  refine rs0 ?_
  iterate 3 refine vp ?_
  obtain ⟨⟨r15125, q15126⟩, hr15124, h⟩ := obind h
  dsimp only at h
  refine vh [1] (con_tree_Tree_check _ hr15124) ?_
  refine vp ?_
  refine vn ?_
  refine Wp.seq ?_
  refine rs0 ?_
  iterate 3 refine vp ?_
  refine sB h F (fun F h => ?_) fun F h => ?_
  refine vs ?_
  refine vs ?_
  refine vs ?_
  refine vs ?_
  refine vs ?_
  refine vp ?_
  refine vn ?_
  refine cF ?_
  refine Wp.skip ?_
  refine sh ?_
  refine rs0 ?_
  iterate 2 refine vp ?_
  refine vn ?_
  cases h
  exact Wp.ret en0
  refine vg ?_
  refine vg ?_
  refine vg ?_
  refine vg ?_
  refine vg ?_
  refine vp ?_
  refine vn ?_
  refine sB h F (fun F h => ?_) fun F h => ?_
  refine cF ?_
  refine Wp.skip ?_
  refine sh ?_
  refine rs0 ?_
  iterate 2 refine vp ?_
  refine vn ?_
  cases h
  exact Wp.ret en0
  refine cT ?_
  refine rg0 ?_
  refine vp ?_
  refine vn ?_
  refine sh ?_
  refine rs0 ?_
  iterate 2 refine vp ?_
  refine vn ?_
  cases h
  exact Wp.ret en0

end Go.Proofs.YtaebdeidbibfkaaGreatDoor
