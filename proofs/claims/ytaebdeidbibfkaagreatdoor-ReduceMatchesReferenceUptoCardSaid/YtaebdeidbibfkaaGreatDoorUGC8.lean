/- Contracts: models of functions are right. No law is proved here. -/
import Derived.Test.YtaebdeidbibfkaaGreatDoorUGMod
import Derived.Test.YtaebdeidbibfkaaGreatDoorUTau
import Derived.Test.YtaebdeidbibfkaaGreatDoorUSoz
import Derived.Test.YtaebdeidbibfkaaGreatDoorUShz
import Derived.Test.YtaebdeidbibfkaaGreatDoorUGC0
import Derived.Test.YtaebdeidbibfkaaGreatDoorUGC2
import Derived.Test.YtaebdeidbibfkaaGreatDoorUGC3
import Derived.Test.YtaebdeidbibfkaaGreatDoorUGC6
import Derived.Test.YtaebdeidbibfkaaGreatDoorUGC7
namespace Go.Proofs.YtaebdeidbibfkaaGreatDoor
open Go.Av Go.G
attribute [-simp] Int.natCast_tdiv_eq_ediv
attribute [local simp] runf guardA opf St.ev Go.Av.look St.setd constAV constAV0 opBin opLen intBin St.need lookT TT0 tab resA resOne resAll blt_dec ble_dec beq_dec isPure
attribute [local simp] opMakeSlice opCopy opIndexAddr opLoad opStore St.mem St.rows opUn calleeA toArgs toArg toArg0 toArgs0 shift shift0 shift1 splice cellsOf isFree ofCells TS.isAgg isCell strBin opConvert
attribute [local simp] opSlice3 opClear fz_clear opBuildSlice fillA opAppend eqC eqA cksB ckB St.newBox runI valKind withinB readsHp refsD refs noSl opFieldAddr opBuild opMax opMin placeOf Op.operands Call.operands opIndex opExtract opSlice opField partA
attribute [local simp] loA hiA lenA opMakeMap opLookup opMapUpdate keyOk findA_int findA_str findA_bool putA_strB putA_strI putA_strS putA_intB putA_intI putA_intS putA_boolI putA_boolB byteRow_rwN bytesOf_rwN opBytesStr mAV_length mAV_nil cA1 cA2 cA3 cA4 opNilCheck opMakeFunc opRange
attribute [local simp] aL cI cB cS cL rw_map fz_rw fz_const dropRow_rw fz_append fz_set fz_copy fz_rows rowLen_rw rowsLen_nil rowsLen_cons rowsLen_append rowsLen_map rowsLen_dm rowsLen_tm rowsLen_take rowsLen_drop rowsLen_replicate take_map_len take_map_le drop_map_len take_drop_len chunks isScalar isScalar0
attribute [local simp] putBack putAt objMap mapC mapA mapT map0 bid rid memB passed closedB argsH argH argH0 argsH0 objIds ids0 idsC isLocT isLocA isLocC isLoc0 LocObj
attribute [local congr] bind_congr1 map_congr1 cond_congr1
attribute [local simp] cApiAddr cApiContact cApiCoil cApiRung cReducePair cReduceEdge cRef15Edge cTreeTree_eq TreeTree_Kind_mk TreeTree_N_mk TreeTree_Kids_mk eta_TreeTree cRef14Tree_eq Ref14Tree_Kind_mk Ref14Tree_N_mk Ref14Tree_Kids_mk eta_Ref14Tree
variable [Drawn]
set_option maxHeartbeats 4000000
set_option linter.unusedSectionVars false
set_option maxRecDepth 20000
set_option linter.unusedSimpArgs false
set_option linter.unusedVariables false

theorem con_ref12_spread {n : Nat} {_append0 : ApiRung} {a1 : Str} {a2 : Bool} {r : (List Str)} (h : ref12_spread n _append0 a1 a2 = some r) : Con Tryz.prog G0 150 [.agg (cApiRung _append0), .str a1, .bool a2] (aL cS r) [] := by
  refine con_of (T := TT0) tt_ok Tryz.func150 (c := _) (by unfold Tryz.f150; rfl) Tryz.ntmps150 (rs := [.tmp 6]) (by rw [Tryz.results150]) (by unfold Tryz.f150; rfl) (by simp) ?_
  simp only [argsCh]
  have F := True.intro
  dsimp only [ref12_spread] at h
  refine rs0 ?_
  iterate 2 refine vp ?_
  refine vn ?_
  refine rs0 ?_
  refine vp ?_
  obtain ⟨r8269, hr8268, h⟩ := obind h
  refine vc (con_ref12_Nodes hr8268) ?_
  refine vp ?_
  refine vn ?_
  refine Wp.seq ?_
  refine rs0 ?_
  iterate 2 refine vp ?_
  obtain ⟨r8273, hr8272, h⟩ := obind h
  refine vc (con_ref12_has hr8272) ?_
  refine vp ?_
  refine vn ?_
  refine sB h F (fun F h => ?_) fun F h => ?_
  refine cF ?_
  refine Wp.skip ?_
  refine sh ?_
  refine rs (fun d => Nat.beq d 22) ?_
  iterate 2 refine vp ?_
  refine nl cS h F fun l8274 m F h => ?_
  try simp only [m]
  clear m
  refine vp ?_
  refine vn ?_
  refine jn (fun l8355 : List Str => { ch := [(7, aL cS r8269), (8, .sl 0 0 l8355.length)], hp := [.arr 1 l8355.length (rw (l8355.map cS))], base := 0, n := 94, cond := True, gl := G0 }) (fun x => ref12_spread_J1 n r8269 x = some r) ?_ ?_
  clear h
  rintro l8355 h
  dsimp only [ref12_spread_J1] at h
  try dsimp only
  refine rs0 ?_
  refine vp ?_
  refine vn ?_
  refine Wp.seq ?_
  refine rs0 ?_
  refine vp ?_
  refine vn ?_
  refine Wp.block ?_
  refine lp [some 0, none] (fun x : (List Str) × Int => { ch := [(7, aL cS r8269), (8, .sl 0 0 l8355.length), (13, .sl 1 0 x.1.length), (14, .int .i64 x.2)], hp := [.arr 1 l8355.length (rw (l8355.map cS)), .arr 1 x.1.length (rw (x.1.map cS))], base := 0, n := 94, cond := True, gl := G0 }) (fun m x => ref12_spread_L2 n r8269 l8355 m x.1 x.2 = some r) n ([], 0) h ?_
  rintro rec_n2 ⟨p8360, p8361⟩ h
  dsimp only [ref12_spread_L2] at h
  try dsimp only
  refine Wp.seq ?_
  refine rs0 ?_
  iterate 4 refine vp ?_
  refine vn ?_
  refine sD h F (fun F h => ?_) fun F h => ?_
  refine cF ?_
  refine Wp.exit ?_
  refine sh ?_
  refine rs0 ?_
  iterate 2 refine vp ?_
  refine vn ?_
  cases h
  exact Wp.ret en0
  refine cT ?_
  refine Wp.skip ?_
  refine sh ?_
  refine Wp.seq ?_
  refine Wp.block ?_
  refine rs0 ?_
  iterate 3 refine vp ?_
  refine eI h F fun x8366 F h => ?_
  iterate 2 refine vp ?_
  obtain ⟨r8368, hr8367, h⟩ := obind h
  refine vc (con_ref12_has hr8367) ?_
  refine vn ?_
  refine sB h F (fun F h => ?_) fun F h => ?_
  refine cF ?_
  refine Wp.skip ?_
  refine sh ?_
  refine rg0 ?_
  iterate 3 refine vp ?_
  refine vn ?_
  exact nx [some 0, some 1] (p8360, (IntKind.i64.wrap (p8361 + 1))) h
  refine cT ?_
  refine rg (fun d => Nat.beq d 92) ?_
  iterate 6 refine vp ?_
  refine gd h F fun F h => ?_
  refine vp ?_
  refine nm cS h F fun l8369 F h => ?_
  refine vp ?_
  refine vn ?_
  refine sh ?_
  refine rg0 ?_
  iterate 3 refine vp ?_
  refine vn ?_
  exact nx [some 0, some 2] (l8369, (IntKind.i64.wrap (p8361 + 1))) h
  refine rs0 ?_
  refine vp ?_
  refine vn ?_
  refine Wp.block ?_
  refine lp [some 0, some 1] (fun x : Int × (List Str) => { ch := [(2, .bool a2), (3, .hptr 0 0 0), (7, aL cS r8269), (8, .sl 1 0 x.2.length), (9, .int .i64 x.1)], hp := [.var [.str _append0.Label, aL cApiContact _append0.Contacts, aL cApiCoil _append0.Coils, .str _append0.Jump], .arr 1 x.2.length (rw (x.2.map cS))], base := 0, n := 94, cond := True, gl := G0 }) (fun m x => ref12_spread_L3 n _append0 a2 r8269 m x.1 x.2 = some r) n (0, l8274) h ?_
  rintro rec_n3 ⟨p8396, l8397⟩ h
  dsimp only [ref12_spread_L3] at h
  try dsimp only
  refine Wp.seq ?_
  refine rs0 ?_
  iterate 4 refine vp ?_
  refine vn ?_
  refine sD h F (fun F h => ?_) fun F h => ?_
  refine cF ?_
  refine Wp.exit ?_
  exact nx [some 1] l8397 h
  refine cT ?_
  refine Wp.skip ?_
  refine sh ?_
  refine Wp.seq ?_
  refine Wp.block ?_
  refine rs0 ?_
  refine vp ?_
  refine vn ?_
  refine Wp.block ?_
  refine lp [some 0, some 1] (fun x : Int × (List Str) => { ch := [(2, .bool a2), (3, .hptr 0 0 0), (7, aL cS r8269), (8, .sl 1 0 x.2.length), (9, .int .i64 p8396), (10, .int .i64 x.1)], hp := [.var [.str _append0.Label, aL cApiContact _append0.Contacts, aL cApiCoil _append0.Coils, .str _append0.Jump], .arr 1 x.2.length (rw (x.2.map cS))], base := 0, n := 94, cond := True, gl := G0 }) (fun m x => ref12_spread_L4 n _append0 a2 p8396 (ref12_spread_L3 n _append0 a2 r8269 rec_n3) m x.1 x.2 = some r) n (0, l8397) h ?_
  rintro rec_n4 ⟨p8432, l8433⟩ h
  dsimp only [ref12_spread_L4] at h
  try dsimp only
  refine Wp.seq ?_
  refine rs0 ?_
  iterate 5 refine vp ?_
  refine vn ?_
  refine sD h F (fun F h => ?_) fun F h => ?_
  refine cF ?_
  refine Wp.exit ?_
  refine sh ?_
  refine rg0 ?_
  iterate 3 refine vp ?_
  refine vn ?_
  exact nx [some 0, some 1] ((IntKind.i64.wrap (p8396 + 1)), l8433) h
  refine cT ?_
  refine Wp.skip ?_
  refine sh ?_
  refine Wp.seq ?_
  refine Wp.block ?_
  refine rs0 ?_
  iterate 3 refine vp ?_
  refine eI h F fun x8442 F h => ?_
  iterate 4 refine vp ?_
  refine vn ?_
  refine rs0 ?_
  iterate 7 refine vp ?_
  refine vn ?_
  refine jn (fun x : Str × Str => { ch := [(2, .bool a2), (3, .hptr 0 0 0), (7, aL cS r8269), (8, .sl 1 0 l8433.length), (9, .int .i64 p8396), (10, .int .i64 p8432), (11, .str x.1), (12, .str x.2)], hp := [.var [.str _append0.Label, aL cApiContact _append0.Contacts, aL cApiCoil _append0.Coils, .str _append0.Jump], .arr 1 l8433.length (rw (l8433.map cS))], base := 0, n := 94, cond := True, gl := G0 }) (fun x => ref12_spread_J5 n p8432 l8433 (ref12_spread_L4 n _append0 a2 p8396 (ref12_spread_L3 n _append0 a2 r8269 rec_n3) rec_n4) x.1 x.2 = some r) ?_ ?_
  clear h
  rintro ⟨p8443, p8444⟩ h
  dsimp only [ref12_spread_J5] at h
  try dsimp only
  refine rs0 ?_
  iterate 2 refine vp ?_
  obtain ⟨r8446, hr8445, h⟩ := obind h
  refine vc (con_ref12_has hr8445) ?_
  refine vp ?_
  refine sB h F (fun F h => ?_) fun F h => ?_
  refine vs ?_
  refine vs ?_
  refine vs ?_
  refine vs ?_
  refine vp ?_
  refine vn ?_
  refine cF ?_
  refine Wp.skip ?_
  refine sh ?_
  refine rg0 ?_
  iterate 3 refine vp ?_
  refine vn ?_
  exact nx [some 0, some 1] ((IntKind.i64.wrap (p8432 + 1)), l8433) h
  refine vg ?_
  refine vg ?_
  obtain ⟨r8448, hr8447, h⟩ := obind h
  refine vc (con_ref12_has hr8447) ?_ (hg := by (simp [F]; done))
  refine vg ?_
  refine vp ?_
  refine vn ?_
  refine sB h F (fun F h => ?_) fun F h => ?_
  refine cF ?_
  refine Wp.skip ?_
  refine sh ?_
  refine rg0 ?_
  iterate 3 refine vp ?_
  refine vn ?_
  exact nx [some 0, some 1] ((IntKind.i64.wrap (p8432 + 1)), l8433) h
  refine cT ?_
  refine rg0 ?_
  iterate 3 refine vp ?_
  refine gd h F fun F h => ?_
  refine vp ?_
  refine nm cS h F fun l8449 F h => ?_
  refine vp ?_
  refine vn ?_
  refine sh ?_
  refine rg0 ?_
  iterate 3 refine vp ?_
  refine vn ?_
  exact nx [some 0, some 2] ((IntKind.i64.wrap (p8432 + 1)), l8449) h
  refine rs0 ?_
  refine vp ?_
  refine vn ?_
  refine sB h F (fun F h => ?_) fun F h => ?_
  refine cF ?_
  refine Wp.skip ?_
  exact nx [some 0, some 1] (x8442.From, x8442.To) h
  refine cT ?_
  refine rs0 ?_
  iterate 7 refine vp ?_
  refine vn ?_
  refine rg0 ?_
  iterate 7 refine vp ?_
  refine vn ?_
  exact nx [some 0, some 1] (x8442.To, x8442.From) h
  refine cT ?_
  refine rs0 ?_
  refine vp ?_
  refine vn ?_
  cases h
  exact Wp.ret en0

theorem con_slices_DeleteFunc_string_c167_v1 {n : Nat} {l0 : List Str} {m2 : List (Str × Bool)} {r : (List Str)} (h : slices_DeleteFunc_string_c167_v1 n l0 m2 = some r) : ConH Tryz.prog G0 106 [.sl 0 0 l0.length, .clos 167 [] [.hptr 1 0 0]] [.arr 1 l0.length (rw (l0.map cS)), .var [.mp 2], .map (mAV AV.str cB m2)] (.sl 0 0 r.length) [.arr 1 r.length (rw (r.map cS)), .var [.mp 2], .map (mAV AV.str cB m2)] := by
  refine conH_of (T := TT0) tt_ok Tryz.func106 (c := _) (by unfold Tryz.f106; rfl) Tryz.ntmps106 (rs := [.tmp 4]) (by rw [Tryz.results106]) (by unfold Tryz.f106; rfl) (by simp) (k := 3) rfl rfl ?_
  try simp only [argsCh]
  have F := True.intro
  dsimp only [slices_DeleteFunc_string_c167_v1] at h
  refine rs0 ?_
  refine vp ?_
  refine vn ?_
  refine rs0 ?_
  iterate 2 refine vp ?_
  obtain ⟨r3604, hr3603, h⟩ := obind h
  refine vh [0, 1, 2] (con_slices_IndexFunc_string_c167_v1 hr3603) ?_
  refine vp ?_
  refine vn ?_
  refine Wp.seq ?_
  refine rs0 ?_
  iterate 2 refine vp ?_
  refine vn ?_
  refine sB h F (fun F h => ?_) fun F h => ?_
  refine cF ?_
  refine Wp.skip ?_
  refine sh ?_
  refine Wp.seq ?_
  refine rs0 ?_
  iterate 3 refine vp ?_
  refine vn ?_
  refine Wp.block ?_
  refine lp [some 0, some 1, some 2] (fun x : (List Str) × Int × Int => { ch := [(0, .sl 0 0 x.1.length), (1, .clos 167 [] [.hptr 1 0 0]), (5, .int .i64 x.2.1), (6, .int .i64 x.2.2)], hp := [.arr 1 x.1.length (rw (x.1.map cS)), .var [.mp 2], .map (mAV AV.str cB m2)], base := 3, n := 42, cond := True, gl := G0 }) (fun m x => slices_DeleteFunc_string_c167_v1_L1 n m2 m x.1 x.2.1 x.2.2 = some r) n (l0, r3604, (IntKind.i64.wrap (r3604 + 1))) h ?_
  rintro rec_n1 ⟨l3610, r3611, p3612⟩ h
  dsimp only [slices_DeleteFunc_string_c167_v1_L1] at h
  try dsimp only
  refine Wp.seq ?_
  refine rs0 ?_
  iterate 4 refine vp ?_
  refine vn ?_
  refine sD h F (fun F h => ?_) fun F h => ?_
  refine cF ?_
  refine Wp.exit ?_
  refine sh ?_
  refine rs0 ?_
  iterate 2 refine vp ?_
  refine gd h F fun F h => ?_
  refine vp ?_
  refine gd h F fun F h => ?_
  refine vp ?_
  refine vn ?_
  refine rl [some 0, some 1, some 2] { ch := [(0, .sl 0 0 l3610.length), (1, .clos 167 [] [.hptr 1 0 0]), (5, .int .i64 r3611), (6, .int .i64 p3612), (16, .int .i64 p3612), (17, .sl 0 0 l3610.length), (18, .int .i64 (l3610.length : Int)), (19, .bool (decide (p3612 < (l3610.length : Int)))), (36, .sl 0 0 l3610.length), (37, .int .i64 r3611), (38, .sl 0 r3611.toNat (l3610.length - r3611.toNat))], hp := [.arr 1 (l3610.take r3611.toNat).length (rw ((l3610.take r3611.toNat).map cS)), .var [.mp 2], .map (mAV AV.str cB m2)], base := 3, n := 42, cond := True, gl := G0 } ?_
  refine rs0 ?_
  iterate 2 refine vp ?_
  refine gd h F fun F h => ?_
  iterate 2 refine vp ?_
  refine vn ?_
  cases h
  exact Wp.ret (enH [some 0, some 1, some 2])
  refine cT ?_
  refine Wp.skip ?_
  refine sh ?_
  refine Wp.seq ?_
  refine Wp.block ?_
  refine rs0 ?_
  iterate 2 refine vp ?_
  refine eI h F fun x3618 F h => ?_
  iterate 3 refine vp ?_
  refine vn ?_
  refine rs0 ?_
  iterate 2 refine vp ?_
  obtain ⟨r3620, hr3619, h⟩ := obind h
  refine vh [1, 2] (con_graph_gather_2 hr3619) ?_
  refine vp ?_
  refine vn ?_
  refine sB h F (fun F h => ?_) fun F h => ?_
  refine cF ?_
  refine Wp.skip ?_
  refine sh ?_
  refine rg0 ?_
  iterate 3 refine vp ?_
  refine vn ?_
  exact nx [some 0, some 1, some 2] (l3610, r3611, (IntKind.i64.wrap (p3612 + 1))) h
  refine cT ?_
  refine rs0 ?_
  iterate 3 refine vp ?_
  refine eI h F fun x3621 F h => ?_
  iterate 2 refine vp ?_
  refine nm cS h F fun l3622 F h => ?_
  refine vn ?_
  refine rg0 ?_
  iterate 3 refine vp ?_
  refine vn ?_
  refine sh ?_
  refine rg0 ?_
  iterate 3 refine vp ?_
  refine vn ?_
  exact nx [some 0, some 1, some 2] (l3622, (IntKind.i64.wrap (r3611 + 1)), (IntKind.i64.wrap (p3612 + 1))) h
  refine cT ?_
  refine rs0 ?_
  iterate 2 refine vp ?_
  refine vn ?_
  cases h
  exact Wp.ret (enH [some 0, some 1, some 2])

theorem con_reduce_parallel_v1 {n : Nat} {l0 : List ReduceEdge} {r : Bool × (List ReduceEdge)} (h : reduce_parallel_v1 n l0 = some r) : ConH Tryz.prog G0 39 [.sl 0 0 l0.length] [.arr 5 l0.length (rw (l0.map cReduceEdge))] (.tup [.sl 0 0 r.2.length, .bool r.1]) [.arr 5 r.2.length (rw (r.2.map cReduceEdge))] := by
  refine conH_of (T := TT0) tt_ok Tryz.func39 (c := _) (by unfold Tryz.f39; rfl) Tryz.ntmps39 (rs := [.tmp 2, .tmp 3]) (by rw [Tryz.results39]) (by unfold Tryz.f39; rfl) (by simp) (k := 1) rfl rfl ?_
  try simp only [argsCh]
  have F := True.intro
  dsimp only [reduce_parallel_v1] at h
  refine rs0 ?_
  iterate 2 refine vp ?_
  refine vn ?_
  refine Wp.seq ?_
  refine rs0 ?_
  iterate 3 refine vp ?_
  refine vn ?_
  refine Wp.block ?_
  refine lp [some 0] (fun p4114 : Int => { ch := [(0, .sl 0 0 l0.length), (7, .sl 0 0 l0.length), (8, .int .i64 (l0.length : Int)), (9, .int .i64 p4114)], hp := [.arr 5 l0.length (rw (l0.map cReduceEdge))], base := 1, n := 49, cond := True, gl := G0 }) (fun m x => reduce_parallel_v1_L1 n l0 m x = some r) n 0 h ?_
  rintro rec_n1 p4114 h
  dsimp only [reduce_parallel_v1_L1] at h
  try dsimp only
  refine rs0 ?_
  refine vp ?_
  refine vn ?_
  refine Wp.seq ?_
  refine sD h F (fun F h => ?_) fun F h => ?_
  refine cF ?_
  refine Wp.exit ?_
  refine sh ?_
  refine rs0 ?_
  iterate 3 refine vp ?_
  refine vn ?_
  cases h
  exact Wp.ret (enH [some 0])
  refine cT ?_
  refine Wp.skip ?_
  refine sh ?_
  refine Wp.seq ?_
  refine Wp.block ?_
  refine rs0 ?_
  refine vp ?_
  refine eI h F fun x4124 F h => ?_
  iterate 5 refine vp ?_
  refine vn ?_
  refine rs0 ?_
  iterate 3 refine vp ?_
  refine gd h F fun F h => ?_
  iterate 2 refine vp ?_
  obtain ⟨r4126, hr4125, h⟩ := obind h
  refine vh [0, 1] (con_slices_IndexFunc_reduce_edge_c66_v1 hr4125) ?_
  refine vp ?_
  refine vn ?_
  refine rs0 ?_
  iterate 2 refine vp ?_
  refine vn ?_
  refine sD h F (fun F h => ?_) fun F h => ?_
  refine cF ?_
  refine Wp.skip ?_
  refine sh ?_
  refine rg0 ?_
  iterate 2 refine vp ?_
  refine vn ?_
  exact nx [some 0] (IntKind.i64.wrap (p4114 + 1)) h
  refine cT ?_
  refine dw (fun _ => false) [0, 1] ?_
  refine du 9 ?_
  refine eI h F fun x4127 F h => ?_
  refine du 3 ?_
  obtain ⟨r4129, hr4128, h⟩ := obind h
  refine dc (con_reduce_join hr4128) ?_
  refine du 2 ?_
  refine db ?_
  refine nm cReduceEdge h F fun l4130 F h => ?_
  refine dn ?_
  refine rs0 ?_
  iterate 9 refine vp ?_
  obtain ⟨q4132, hr4131, h⟩ := obind h
  refine vh [0] (con_slices_Delete_reduce_edge_v1 hr4131) ?_
  iterate 2 refine vp ?_
  refine vn ?_
  cases h
  exact Wp.ret (enH [some 0])

theorem con_flow_DeadNodes_1 {n : Nat} {n_0 : Str} {b0 : List Str} {b1 : List Str} {r : Bool} (h : flow_DeadNodes_1 n n_0 b0 b1 = some r) : ConH Tryz.prog G0 107 [.str n_0, .hptr 0 0 0, .hptr 1 0 0] [.var [aL cS b0], .var [aL cS b1]] (.bool r) [.var [aL cS b0], .var [aL cS b1]] := by
  refine conH_of (T := TT0) tt_ok Tryz.func107 (c := _) (by unfold Tryz.f107; rfl) Tryz.ntmps107 (rs := [.tmp 4]) (by rw [Tryz.results107]) (by unfold Tryz.f107; rfl) (by simp) (k := 2) rfl rfl ?_
  try simp only [argsCh]
  have F := True.intro
  dsimp only [flow_DeadNodes_1] at h
  refine rs0 ?_
  refine vp ?_
  refine vn ?_
  refine rs0 ?_
  iterate 2 refine vp ?_
  obtain ⟨r3882, hr3881, h⟩ := obind h
  refine vc (con_slices_Contains_string hr3881) ?_
  refine vp ?_
  refine sB h F (fun F h => ?_) fun F h => ?_
  refine vs ?_
  refine vs ?_
  refine vs ?_
  iterate 2 refine vp ?_
  refine vn ?_
  cases h
  exact Wp.ret (enH [some 0, some 1])
  refine vg ?_
  refine vg ?_
  obtain ⟨r3884, hr3883, h⟩ := obind h
  refine vc (con_slices_Contains_string hr3883) ?_ (hg := by (simp [F]; done))
  iterate 2 refine vp ?_
  refine vn ?_
  cases h
  exact Wp.ret (enH [some 0, some 1])

theorem con_slices_ContainsFunc_int_c102 {n : Nat} {s0 : List Int} {m1 : List (Str × Bool)} {b2 : ApiRung} {r : Bool} (h : slices_ContainsFunc_int_c102 n s0 m1 b2 = some r) : ConH Tryz.prog G0 100 [aL (cI .i64) s0, .clos 102 [] [.hptr 0 0 0, .hptr 2 0 0]] [.var [.mp 1], .map (mAV AV.str cB m1), .var [.str b2.Label, aL cApiContact b2.Contacts, aL cApiCoil b2.Coils, .str b2.Jump]] (.bool r) [.var [.mp 1], .map (mAV AV.str cB m1), .var [.str b2.Label, aL cApiContact b2.Contacts, aL cApiCoil b2.Coils, .str b2.Jump]] := by
  refine conH_of (T := TT0) tt_ok Tryz.func100 (c := _) (by unfold Tryz.f100; rfl) Tryz.ntmps100 (rs := [.tmp 4]) (by rw [Tryz.results100]) (by unfold Tryz.f100; rfl) (by simp) (k := 3) rfl rfl ?_
  try simp only [argsCh]
  have F := True.intro
  dsimp only [slices_ContainsFunc_int_c102] at h
  refine rs0 ?_
  refine vp ?_
  refine vn ?_
  refine rs0 ?_
  iterate 2 refine vp ?_
  obtain ⟨r2431, hr2430, h⟩ := obind h
  refine vh [0, 1, 2] (con_slices_IndexFunc_int_c102 hr2430) ?_
  iterate 2 refine vp ?_
  refine vn ?_
  cases h
  exact Wp.ret (enH [some 0, some 1, some 2])

theorem con_graph_Outgoing {n : Nat} {r_0 : ApiRung} {node1 : Str} {r : (List Int)} (h : graph_Outgoing n r_0 node1 = some r) : Con Tryz.prog G0 137 [.agg (cApiRung r_0), .str node1] (aL (cI .i64) r) [] := by
  refine con_of (T := TT0) tt_ok Tryz.func137 (c := _) (by unfold Tryz.f137; rfl) Tryz.ntmps137 (rs := [.tmp 4]) (by rw [Tryz.results137]) (by unfold Tryz.f137; rfl) (by simp) ?_
  simp only [argsCh]
  have F := True.intro
  dsimp only [graph_Outgoing] at h
  refine rs0 ?_
  iterate 3 refine vp ?_
  refine vn ?_
  refine rs0 ?_
  iterate 2 refine vp ?_
  obtain ⟨r3479, hr3478, h⟩ := obind h
  refine vh [1] (con_graph_numbers_c168 hr3478) ?_
  refine vp ?_
  refine vn ?_
  cases h
  exact Wp.ret en0

end Go.Proofs.YtaebdeidbibfkaaGreatDoor
