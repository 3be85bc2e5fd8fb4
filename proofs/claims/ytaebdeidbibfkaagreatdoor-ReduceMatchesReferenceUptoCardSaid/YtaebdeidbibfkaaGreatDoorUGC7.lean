/- Contracts: models of functions are right. No law is proved here. -/
import Derived.Test.YtaebdeidbibfkaaGreatDoorUGMod
import Derived.Test.YtaebdeidbibfkaaGreatDoorUTau
import Derived.Test.YtaebdeidbibfkaaGreatDoorUSoz
import Derived.Test.YtaebdeidbibfkaaGreatDoorUShz
import Derived.Test.YtaebdeidbibfkaaGreatDoorUGC2
import Derived.Test.YtaebdeidbibfkaaGreatDoorUGC3
import Derived.Test.YtaebdeidbibfkaaGreatDoorUGC4
namespace Go.Proofs.YtaebdeidbibfkaaGreatDoor
open Go.Av Go.G
attribute [-simp] Int.natCast_tdiv_eq_ediv
attribute [local simp] runf guardA opf St.ev Go.Av.look St.setd constAV constAV0 opBin opLen intBin St.need lookT TT0 tab resA resOne resAll blt_dec ble_dec beq_dec isPure
attribute [local simp] opMakeSlice opCopy opIndexAddr opLoad opStore St.mem St.rows opUn calleeA toArgs toArg toArg0 toArgs0 shift shift0 shift1 splice cellsOf isFree ofCells TS.isAgg isCell strBin opConvert
attribute [local simp] opSlice3 opClear fz_clear opBuildSlice fillA opAppend eqC eqA cksB ckB St.newBox runI valKind withinB readsHp refsD refs noSl opFieldAddr opBuild opMax opMin placeOf Op.operands Call.operands opIndex opExtract opSlice opField partA
attribute [local simp] loA hiA lenA opMakeMap opLookup opMapUpdate keyOk findA_int findA_str findA_bool putA_strB putA_strI putA_strS putA_intB putA_intI putA_intS putA_boolI putA_boolB byteRow_rwN bytesOf_rwN opBytesStr mAV_length mAV_nil cA1 cA2 cA3 cA4 opNilCheck opMakeFunc opRange
attribute [local simp] aL cI cB cS cL rw_map fz_rw fz_const dropRow_rw fz_append fz_set fz_copy fz_rows rowLen_rw rowsLen_nil rowsLen_cons rowsLen_append rowsLen_map rowsLen_dm rowsLen_tm rowsLen_take rowsLen_drop rowsLen_replicate take_map_len take_map_le drop_map_len take_drop_len chunks isScalar isScalar0
attribute [local simp] putBack putAt objMap mapC mapA mapT map0 bid rid memB passed closedB argsH argH argH0 argsH0 objIds ids0 idsC isLocT isLocA isLocC isLoc0 LocObj
attribute [local congr] bind_congr1 map_congr1 cond_congr1
attribute [local simp] cApiAddr cApiContact cApiCoil cApiRung cReducePair cReduceEdge cRef15Edge cTreeTree_eq TreeTree_Kind_mk TreeTree_N_mk TreeTree_Kids_mk eta_TreeTree cRef14Tree_eq Ref14Tree_Kind_mk Ref14Tree_N_mk Ref14Tree_Kids_mk eta_Ref14Tree
variable [Drawn]
set_option maxHeartbeats 4000000
set_option linter.unusedSectionVars false
set_option maxRecDepth 20000
set_option linter.unusedSimpArgs false
set_option linter.unusedVariables false

theorem con_ref12_Nodes {n : Nat} {r_0 : ApiRung} {r : (List Str)} (h : ref12_Nodes n r_0 = some r) : Con Tryz.prog G0 112 [.agg (cApiRung r_0)] (aL cS r) [] := by
  refine con_of (T := TT0) tt_ok Tryz.func112 (c := _) (by unfold Tryz.f112; rfl) Tryz.ntmps112 (rs := [.tmp 2]) (by rw [Tryz.results112]) (by unfold Tryz.f112; rfl) (by simp) ?_
  simp only [argsCh]
  have F := True.intro
  dsimp only [ref12_Nodes] at h
  refine rs0 ?_
  iterate 2 refine vp ?_
  refine vn ?_
  refine rs (fun d => Nat.beq d 5) ?_
  refine vp ?_
  refine nl cS h F fun l7441 m F h => ?_
  try simp only [m]
  clear m
  refine vp ?_
  refine vn ?_
  refine Wp.seq ?_
  refine rs0 ?_
  refine vp ?_
  refine vn ?_
  refine Wp.block ?_
  refine lp [some 0, some 1] (fun x : (List Str) × Int => { ch := [(1, .hptr 0 0 0), (3, .sl 1 0 x.1.length), (4, .int .i64 x.2)], hp := [.var [.str r_0.Label, aL cApiContact r_0.Contacts, aL cApiCoil r_0.Coils, .str r_0.Jump], .arr 1 x.1.length (rw (x.1.map cS))], base := 0, n := 50, cond := True, gl := G0 }) (fun m x => ref12_Nodes_L1 n r_0 m x.1 x.2 = some r) n (l7441, 0) h ?_
  rintro rec_n1 ⟨l7459, p7460⟩ h
  dsimp only [ref12_Nodes_L1] at h
  try dsimp only
  refine Wp.seq ?_
  refine rs0 ?_
  iterate 5 refine vp ?_
  refine vn ?_
  refine sD h F (fun F h => ?_) fun F h => ?_
  refine cF ?_
  refine Wp.exit ?_
  refine sh ?_
  refine rs0 ?_
  iterate 2 refine vp ?_
  refine vn ?_
  cases h
  exact Wp.ret en0
  refine cT ?_
  refine Wp.skip ?_
  refine sh ?_
  refine Wp.seq ?_
  refine Wp.block ?_
  refine jn (fun l7478 : List Str => { ch := [(1, .hptr 0 0 0), (3, .sl 1 0 l7478.length), (4, .int .i64 p7460)], hp := [.var [.str r_0.Label, aL cApiContact r_0.Contacts, aL cApiCoil r_0.Coils, .str r_0.Jump], .arr 1 l7478.length (rw (l7478.map cS))], base := 0, n := 50, cond := True, gl := G0 }) (fun x => ref12_Nodes_J2 n r_0 p7460 (ref12_Nodes_L1 n r_0 rec_n1) x = some r) ?_ ?_
  clear h
  rintro l7478 h
  dsimp only [ref12_Nodes_J2] at h
  try dsimp only
  refine rs0 ?_
  iterate 4 refine vp ?_
  refine eI h F fun x7479 F h => ?_
  iterate 3 refine vp ?_
  obtain ⟨r7481, hr7480, h⟩ := obind h
  refine vc (con_ref12_has hr7480) ?_
  refine vp ?_
  refine vn ?_
  refine sB h F (fun F h => ?_) fun F h => ?_
  refine cF ?_
  refine Wp.skip ?_
  refine sh ?_
  refine rg0 ?_
  iterate 3 refine vp ?_
  refine vn ?_
  exact nx [some 0, some 1] (l7478, (IntKind.i64.wrap (p7460 + 1))) h
  refine cT ?_
  refine rg0 ?_
  iterate 8 refine vp ?_
  refine gd h F fun F h => ?_
  refine vp ?_
  refine nm cS h F fun l7482 F h => ?_
  refine vp ?_
  refine vn ?_
  refine sh ?_
  refine rg0 ?_
  iterate 3 refine vp ?_
  refine vn ?_
  exact nx [some 0, some 2] (l7482, (IntKind.i64.wrap (p7460 + 1))) h
  refine rs0 ?_
  iterate 4 refine vp ?_
  refine eI h F fun x7483 F h => ?_
  iterate 3 refine vp ?_
  obtain ⟨r7485, hr7484, h⟩ := obind h
  refine vc (con_ref12_has hr7484) ?_
  refine vp ?_
  refine vn ?_
  refine sB h F (fun F h => ?_) fun F h => ?_
  refine cF ?_
  refine Wp.skip ?_
  exact nx [some 0, some 1] l7459 h
  refine cT ?_
  refine rg0 ?_
  iterate 8 refine vp ?_
  refine gd h F fun F h => ?_
  refine vp ?_
  refine nm cS h F fun l7486 F h => ?_
  refine vp ?_
  refine vn ?_
  exact nx [some 0, some 2] l7486 h

theorem con_slices_IndexFunc_reduce_edge_c66_v1 {n : Nat} {s0 : Nat} {l0 : List ReduceEdge} {b1 : ReduceEdge} {r : Int} (h : slices_IndexFunc_reduce_edge_c66_v1 n s0 l0 b1 = some r) : ConH Tryz.prog G0 65 [.sl 0 s0 (l0.length - s0), .clos 66 [] [.hptr 1 0 0]] [.arr 5 l0.length (rw (l0.map cReduceEdge)), .var [.str b1.pair.from_, .str b1.pair.to_, .int .i64 b1.t_.Kind, .int .i64 b1.t_.N, aL cTreeTree b1.t_.Kids]] (.int .i64 r) [.arr 5 l0.length (rw (l0.map cReduceEdge)), .var [.str b1.pair.from_, .str b1.pair.to_, .int .i64 b1.t_.Kind, .int .i64 b1.t_.N, aL cTreeTree b1.t_.Kids]] := by
  refine conH_of (T := TT0) tt_ok Tryz.func65 (c := _) (by unfold Tryz.f65; rfl) Tryz.ntmps65 (rs := [.tmp 4]) (by rw [Tryz.results65]) (by unfold Tryz.f65; rfl) (by simp) (k := 2) rfl rfl ?_
  try simp only [argsCh]
  have F := True.intro
  dsimp only [slices_IndexFunc_reduce_edge_c66_v1] at h
  refine rs0 ?_
  refine vp ?_
  refine vn ?_
  refine Wp.seq ?_
  refine rs0 ?_
  iterate 3 refine vp ?_
  refine vn ?_
  refine Wp.block ?_
  refine lp [some 0, some 1] (fun p4043 : Int => { ch := [(0, .sl 0 s0 (l0.length - s0)), (1, .clos 66 [] [.hptr 1 0 0]), (7, .int .i64 (((l0.length - s0) : Nat) : Int)), (8, .int .i64 p4043)], hp := [.arr 5 l0.length (rw (l0.map cReduceEdge)), .var [.str b1.pair.from_, .str b1.pair.to_, .int .i64 b1.t_.Kind, .int .i64 b1.t_.N, aL cTreeTree b1.t_.Kids]], base := 2, n := 19, cond := True, gl := G0 }) (fun m x => slices_IndexFunc_reduce_edge_c66_v1_L1 n s0 l0 b1 m x = some r) n 0 h ?_
  rintro rec_n1 p4043 h
  dsimp only [slices_IndexFunc_reduce_edge_c66_v1_L1] at h
  try dsimp only
  refine rs0 ?_
  refine vp ?_
  refine vn ?_
  refine Wp.seq ?_
  refine sD h F (fun F h => ?_) fun F h => ?_
  refine cF ?_
  refine Wp.exit ?_
  refine sh ?_
  refine rs0 ?_
  refine vp ?_
  refine vn ?_
  cases h
  exact Wp.ret (enH [some 0, some 1])
  refine cT ?_
  refine Wp.skip ?_
  refine sh ?_
  refine Wp.seq ?_
  refine Wp.block ?_
  refine rs0 ?_
  iterate 2 refine vp ?_
  refine vn ?_
  refine rs0 ?_
  iterate 3 refine vp ?_
  refine eI h F fun x4047 F h => ?_
  simp only [List.getElem?_drop, Nat.add_zero] at F
  iterate 2 refine vp ?_
  obtain ⟨r4049, hr4048, h⟩ := obind h
  refine vh [1] (con_reduce_parallel_1 hr4048) ?_
  refine vn ?_
  refine sB h F (fun F h => ?_) fun F h => ?_
  refine cF ?_
  refine Wp.skip ?_
  refine sh ?_
  refine rg0 ?_
  iterate 2 refine vp ?_
  refine vn ?_
  exact nx [some 0, some 1] (IntKind.i64.wrap (p4043 + 1)) h
  refine cT ?_
  refine rs0 ?_
  iterate 2 refine vp ?_
  refine vn ?_
  cases h
  exact Wp.ret (enH [some 0, some 1])

theorem con_slices_IndexFunc_int_c102 {n : Nat} {s0 : List Int} {m1 : List (Str × Bool)} {b2 : ApiRung} {r : Int} (h : slices_IndexFunc_int_c102 n s0 m1 b2 = some r) : ConH Tryz.prog G0 132 [aL (cI .i64) s0, .clos 102 [] [.hptr 0 0 0, .hptr 2 0 0]] [.var [.mp 1], .map (mAV AV.str cB m1), .var [.str b2.Label, aL cApiContact b2.Contacts, aL cApiCoil b2.Coils, .str b2.Jump]] (.int .i64 r) [.var [.mp 1], .map (mAV AV.str cB m1), .var [.str b2.Label, aL cApiContact b2.Contacts, aL cApiCoil b2.Coils, .str b2.Jump]] := by
  refine conH_of (T := TT0) tt_ok Tryz.func132 (c := _) (by unfold Tryz.f132; rfl) Tryz.ntmps132 (rs := [.tmp 4]) (by rw [Tryz.results132]) (by unfold Tryz.f132; rfl) (by simp) (k := 3) rfl rfl ?_
  try simp only [argsCh]
  have F := True.intro
  dsimp only [slices_IndexFunc_int_c102] at h
  refine rs0 ?_
  refine vp ?_
  refine vn ?_
  refine Wp.seq ?_
  refine rs0 ?_
  iterate 3 refine vp ?_
  refine vn ?_
  refine Wp.block ?_
  refine lp [some 0, some 1, some 2] (fun p2421 : Int => { ch := [(0, aL (cI .i64) s0), (1, .clos 102 [] [.hptr 0 0 0, .hptr 2 0 0]), (7, .int .i64 (s0.length : Int)), (8, .int .i64 p2421)], hp := [.var [.mp 1], .map (mAV AV.str cB m1), .var [.str b2.Label, aL cApiContact b2.Contacts, aL cApiCoil b2.Coils, .str b2.Jump]], base := 3, n := 19, cond := True, gl := G0 }) (fun m x => slices_IndexFunc_int_c102_L1 n s0 m1 b2 m x = some r) n 0 h ?_
  rintro rec_n1 p2421 h
  dsimp only [slices_IndexFunc_int_c102_L1] at h
  try dsimp only
  refine rs0 ?_
  refine vp ?_
  refine vn ?_
  refine Wp.seq ?_
  refine sD h F (fun F h => ?_) fun F h => ?_
  refine cF ?_
  refine Wp.exit ?_
  refine sh ?_
  refine rs0 ?_
  refine vp ?_
  refine vn ?_
  cases h
  exact Wp.ret (enH [some 0, some 1, some 2])
  refine cT ?_
  refine Wp.skip ?_
  refine sh ?_
  refine Wp.seq ?_
  refine Wp.block ?_
  refine rs0 ?_
  iterate 2 refine vp ?_
  refine vn ?_
  refine rs0 ?_
  iterate 3 refine vp ?_
  refine eI h F fun x2425 F h => ?_
  iterate 2 refine vp ?_
  obtain ⟨r2427, hr2426, h⟩ := obind h
  refine vh [0, 1, 2] (con_graph_TopoSort_1_1 hr2426) ?_
  refine vn ?_
  refine sB h F (fun F h => ?_) fun F h => ?_
  refine cF ?_
  refine Wp.skip ?_
  refine sh ?_
  refine rg0 ?_
  iterate 2 refine vp ?_
  refine vn ?_
  exact nx [some 0, some 1, some 2] (IntKind.i64.wrap (p2421 + 1)) h
  refine cT ?_
  refine rs0 ?_
  iterate 2 refine vp ?_
  refine vn ?_
  cases h
  exact Wp.ret (enH [some 0, some 1, some 2])

theorem con_graph_numbers_c168 {n : Nat} {r_0 : ApiRung} {b0 : Str} {r : (List Int)} (h : graph_numbers_c168 n r_0 b0 = some r) : ConH Tryz.prog G0 133 [.agg (cApiRung r_0), .clos 168 [] [.hptr 0 0 0]] [.var [.str b0]] (aL (cI .i64) r) [.var [.str b0]] := by
  refine conH_of (T := TT0) tt_ok Tryz.func133 (c := _) (by unfold Tryz.f133; rfl) Tryz.ntmps133 (rs := [.tmp 4]) (by rw [Tryz.results133]) (by unfold Tryz.f133; rfl) (by simp) (k := 1) rfl rfl ?_
  try simp only [argsCh]
  have F := True.intro
  dsimp only [graph_numbers_c168] at h
  refine rs0 ?_
  iterate 2 refine vp ?_
  refine vn ?_
  refine rs0 ?_
  refine vp ?_
  refine vn ?_
  refine Wp.seq ?_
  refine rs0 ?_
  iterate 4 refine vp ?_
  refine vn ?_
  refine Wp.block ?_
  refine lp [some 0, none] (fun x : Int × (List Int) => { ch := [(1, .clos 168 [] [.hptr 0 0 0]), (5, .sl 1 0 x.2.length), (9, aL cApiContact r_0.Contacts), (10, .int .i64 (r_0.Contacts.length : Int)), (11, .int .i64 x.1)], hp := [.var [.str b0], .arr 1 x.2.length (rw (x.2.map (cI .i64)))], base := 1, n := 25, cond := True, gl := G0 }) (fun m x => graph_numbers_c168_L1 n r_0 b0 m x.1 x.2 = some r) n (0, []) h ?_
  rintro rec_n1 ⟨p3468, p3469⟩ h
  dsimp only [graph_numbers_c168_L1] at h
  try dsimp only
  refine rs0 ?_
  refine vp ?_
  refine vn ?_
  refine Wp.seq ?_
  refine sD h F (fun F h => ?_) fun F h => ?_
  refine cF ?_
  refine Wp.exit ?_
  refine sh ?_
  refine rs0 ?_
  iterate 2 refine vp ?_
  refine vn ?_
  cases h
  exact Wp.ret (enH [some 0])
  refine cT ?_
  refine Wp.skip ?_
  refine sh ?_
  refine Wp.seq ?_
  refine Wp.block ?_
  refine rs0 ?_
  refine vp ?_
  refine eI h F fun x3474 F h => ?_
  iterate 5 refine vp ?_
  refine vn ?_
  refine rs0 ?_
  iterate 2 refine vp ?_
  obtain ⟨r3476, hr3475, h⟩ := obind h
  refine vh [0] (con_graph_Outgoing_1 hr3475) ?_
  refine vn ?_
  refine sB h F (fun F h => ?_) fun F h => ?_
  refine cF ?_
  refine Wp.skip ?_
  refine sh ?_
  refine rg0 ?_
  iterate 2 refine vp ?_
  refine vn ?_
  exact nx [some 0, some 1] ((IntKind.i64.wrap (p3468 + 1)), p3469) h
  refine cT ?_
  refine rg (fun d => Nat.beq d 22) ?_
  iterate 3 refine vp ?_
  refine gd h F fun F h => ?_
  refine vp ?_
  refine nm (cI .i64) h F fun l3477 F h => ?_
  refine vp ?_
  refine vn ?_
  refine sh ?_
  refine rg0 ?_
  iterate 2 refine vp ?_
  refine vn ?_
  exact nx [some 0, some 3] ((IntKind.i64.wrap (p3468 + 1)), l3477) h

theorem con_cmp_Compare_int {n : Nat} {x_0 : Int} {y1 : Int} {r : Int} (h : cmp_Compare_int n x_0 y1 = some r) : Con Tryz.prog G0 71 [.int .i64 x_0, .int .i64 y1] (.int .i64 r) [] := by
  refine con_of (T := TT0) tt_ok Tryz.func71 (c := _) (by unfold Tryz.f71; rfl) Tryz.ntmps71 (rs := [.tmp 4]) (by rw [Tryz.results71]) (by unfold Tryz.f71; rfl) (by simp) ?_
  simp only [argsCh]
  have F := True.intro
  dsimp only [cmp_Compare_int] at h
  refine rs0 ?_
  refine vp ?_
  refine vn ?_
  refine rs0 ?_
  refine vp ?_
  obtain ⟨r4439, hr4438, h⟩ := obind h
  refine vc (con_cmp_isNaN_int hr4438) ?_
  refine vp ?_
  refine vn ?_
  refine rs0 ?_
  refine vp ?_
  obtain ⟨r4441, hr4440, h⟩ := obind h
  refine vc (con_cmp_isNaN_int hr4440) ?_
  refine vp ?_
  refine vn ?_
  refine Wp.seq ?_
  refine rs0 ?_
  refine vp ?_
  refine vn ?_
  refine sB h F (fun F h => ?_) fun F h => ?_
  refine cF ?_
  refine Wp.skip ?_
  refine sh ?_
  refine Wp.seq ?_
  refine rs0 ?_
  refine vp ?_
  refine vn ?_
  refine sB h F (fun F h => ?_) fun F h => ?_
  refine cF ?_
  refine Wp.skip ?_
  refine sh ?_
  refine Wp.seq ?_
  refine rs0 ?_
  iterate 3 refine vp ?_
  refine vn ?_
  refine sD h F (fun F h => ?_) fun F h => ?_
  refine cF ?_
  refine Wp.skip ?_
  refine sh ?_
  refine Wp.seq ?_
  refine rs0 ?_
  iterate 3 refine vp ?_
  refine vn ?_
  refine sD h F (fun F h => ?_) fun F h => ?_
  refine cF ?_
  refine Wp.skip ?_
  refine sh ?_
  refine rs0 ?_
  refine vp ?_
  refine vn ?_
  cases h
  exact Wp.ret en0
  refine cT ?_
  refine rs0 ?_
  refine vp ?_
  refine vn ?_
  cases h
  exact Wp.ret en0
  refine cT ?_
  refine rs0 ?_
  refine vp ?_
  refine vn ?_
  cases h
  exact Wp.ret en0
  refine cT ?_
  refine rs0 ?_
  refine vp ?_
  refine vn ?_
  cases h
  exact Wp.ret en0
  refine cT ?_
  refine Wp.seq ?_
  refine rs0 ?_
  refine vp ?_
  refine vn ?_
  refine sB h F (fun F h => ?_) fun F h => ?_
  refine cF ?_
  refine Wp.skip ?_
  refine sh ?_
  refine rs0 ?_
  refine vp ?_
  refine vn ?_
  cases h
  exact Wp.ret en0
  refine cT ?_
  refine rs0 ?_
  refine vp ?_
  refine vn ?_
  cases h
  exact Wp.ret en0

theorem con_slices_Contains_string {n : Nat} {s0 : List Str} {v1 : Str} {r : Bool} (h : slices_Contains_string n s0 v1 = some r) : Con Tryz.prog G0 108 [aL cS s0, .str v1] (.bool r) [] := by
  refine con_of (T := TT0) tt_ok Tryz.func108 (c := _) (by unfold Tryz.f108; rfl) Tryz.ntmps108 (rs := [.tmp 4]) (by rw [Tryz.results108]) (by unfold Tryz.f108; rfl) (by simp) ?_
  simp only [argsCh]
  have F := True.intro
  dsimp only [slices_Contains_string] at h
  refine rs0 ?_
  refine vp ?_
  refine vn ?_
  refine rs0 ?_
  iterate 2 refine vp ?_
  obtain ⟨r3391, hr3390, h⟩ := obind h
  refine vc (con_slices_Index_string hr3390) ?_
  iterate 2 refine vp ?_
  refine vn ?_
  cases h
  exact Wp.ret en0

end Go.Proofs.YtaebdeidbibfkaaGreatDoor
