/- Contracts: models of functions are right. No law is proved here. -/
import Derived.Test.YtaebdeidbibfkaaDoorXGMod
import Derived.Test.YtaebdeidbibfkaaDoorXTax
import Derived.Test.YtaebdeidbibfkaaDoorXSo
import Derived.Test.YtaebdeidbibfkaaDoorXSh
import Derived.Test.YtaebdeidbibfkaaDoorXGC4
import Derived.Test.YtaebdeidbibfkaaDoorXGC6
import Derived.Test.YtaebdeidbibfkaaDoorXGC7
namespace Go.Proofs.YtaebdeidbibfkaaDoor
open Go.Av Go.G
attribute [-simp] Int.natCast_tdiv_eq_ediv
attribute [local simp] runf guardA opf St.ev Go.Av.look St.setd constAV constAV0 opBin opLen intBin St.need lookT TT0 tab resA resOne resAll blt_dec ble_dec beq_dec isPure
attribute [local simp] opMakeSlice opCopy opIndexAddr opLoad opStore St.mem St.rows opUn calleeA toArgs toArg toArg0 toArgs0 shift shift0 shift1 splice cellsOf isFree ofCells TS.isAgg isCell strBin opConvert
attribute [local simp] opSlice3 opClear fz_clear opBuildSlice fillA opAppend eqC eqA cksB ckB St.newBox runI valKind withinB readsHp refsD refs noSl opFieldAddr opBuild opMax opMin placeOf Op.operands Call.operands opIndex opExtract opSlice opField partA
attribute [local simp] loA hiA lenA opMakeMap opLookup opMapUpdate keyOk findA_int findA_str findA_bool putA_strB putA_strI putA_strS putA_intB putA_intI putA_intS putA_boolI putA_boolB byteRow_rwN bytesOf_rwN opBytesStr mAV_length mAV_nil cA1 cA2 cA3 cA4 opNilCheck opMakeFunc opRange
attribute [local simp] aL cI cB cS cL rw_map fz_rw fz_const dropRow_rw fz_append fz_set fz_copy fz_rows rowLen_rw rowsLen_nil rowsLen_cons rowsLen_append rowsLen_map rowsLen_dm rowsLen_tm rowsLen_take rowsLen_drop rowsLen_replicate take_map_len take_map_le drop_map_len take_drop_len chunks isScalar isScalar0
attribute [local simp] putBack putAt objMap mapC mapA mapT map0 bid rid memB passed closedB argsH argH argH0 argsH0 objIds ids0 idsC isLocT isLocA isLocC isLoc0 LocObj
attribute [local congr] bind_congr1 map_congr1 cond_congr1
attribute [local simp] cApiAddr cApiContact cApiCoil cApiRung cReducePair cReduceEdge cTreeTree_eq TreeTree_Kind_mk TreeTree_N_mk TreeTree_Kids_mk eta_TreeTree
variable [Drawn]
set_option maxHeartbeats 4000000
set_option linter.unusedSectionVars false
set_option maxRecDepth 20000
set_option linter.unusedSimpArgs false
set_option linter.unusedVariables false

theorem con_slices_DeleteFunc_string_c128_v1 {n : Nat} {l0 : List Str} {m2 : List (Str × Bool)} {r : (List Str)} (h : slices_DeleteFunc_string_c128_v1 n l0 m2 = some r) : ConH Tryd.prog G0 79 [.sl 0 0 l0.length, .clos 128 [] [.hptr 1 0 0]] [.arr 1 l0.length (rw (l0.map cS)), .var [.mp 2], .map (mAV AV.str cB m2)] (.sl 0 0 r.length) [.arr 1 r.length (rw (r.map cS)), .var [.mp 2], .map (mAV AV.str cB m2)] := by
  refine conH_of (T := TT0) tt_ok Tryd.func79 (c := _) (by unfold Tryd.f79; rfl) Tryd.ntmps79 (rs := [.tmp 4]) (by rw [Tryd.results79]) (by unfold Tryd.f79; rfl) (by simp) (k := 3) rfl rfl ?_
  try simp only [argsCh]
  have F := True.intro
  dsimp only [slices_DeleteFunc_string_c128_v1] at h
  refine rs0 ?_
  refine vp ?_
  refine vn ?_
  refine rs0 ?_
  iterate 2 refine vp ?_
  obtain ⟨r3604, hr3603, h⟩ := obind h
  refine vh [0, 1, 2] (con_slices_IndexFunc_string_c128_v1 hr3603) ?_
  refine vp ?_
  refine vn ?_
  refine Wp.seq ?_
  refine rs0 ?_
  iterate 2 refine vp ?_
  refine vn ?_
  refine sB h F (fun F h => ?_) fun F h => ?_
  refine cF ?_
  refine Wp.skip ?_
  refine sh ?_
  refine Wp.seq ?_
  refine rs0 ?_
  iterate 3 refine vp ?_
  refine vn ?_
  refine Wp.block ?_
  refine lp [some 0, some 1, some 2] (fun x : (List Str) × Int × Int => { ch := [(0, .sl 0 0 x.1.length), (1, .clos 128 [] [.hptr 1 0 0]), (5, .int .i64 x.2.1), (6, .int .i64 x.2.2)], hp := [.arr 1 x.1.length (rw (x.1.map cS)), .var [.mp 2], .map (mAV AV.str cB m2)], base := 3, n := 42, cond := True, gl := G0 }) (fun m x => slices_DeleteFunc_string_c128_v1_L1 n m2 m x.1 x.2.1 x.2.2 = some r) n (l0, r3604, (IntKind.i64.wrap (r3604 + 1))) h ?_
  rintro rec_n1 ⟨l3610, r3611, p3612⟩ h
  dsimp only [slices_DeleteFunc_string_c128_v1_L1] at h
  try dsimp only
  refine Wp.seq ?_
  refine rs0 ?_
  iterate 4 refine vp ?_
  refine vn ?_
  refine sD h F (fun F h => ?_) fun F h => ?_
  refine cF ?_
  refine Wp.exit ?_
  refine sh ?_
  refine rs0 ?_
  iterate 2 refine vp ?_
  refine gd h F fun F h => ?_
  refine vp ?_
  refine gd h F fun F h => ?_
  refine vp ?_
  refine vn ?_
  refine rl [some 0, some 1, some 2] { ch := [(0, .sl 0 0 l3610.length), (1, .clos 128 [] [.hptr 1 0 0]), (5, .int .i64 r3611), (6, .int .i64 p3612), (16, .int .i64 p3612), (17, .sl 0 0 l3610.length), (18, .int .i64 (l3610.length : Int)), (19, .bool (decide (p3612 < (l3610.length : Int)))), (36, .sl 0 0 l3610.length), (37, .int .i64 r3611), (38, .sl 0 r3611.toNat (l3610.length - r3611.toNat))], hp := [.arr 1 (l3610.take r3611.toNat).length (rw ((l3610.take r3611.toNat).map cS)), .var [.mp 2], .map (mAV AV.str cB m2)], base := 3, n := 42, cond := True, gl := G0 } ?_
  refine rs0 ?_
  iterate 2 refine vp ?_
  refine gd h F fun F h => ?_
  iterate 2 refine vp ?_
  refine vn ?_
  cases h
  exact Wp.ret (enH [some 0, some 1, some 2])
  refine cT ?_
  refine Wp.skip ?_
  refine sh ?_
  refine Wp.seq ?_
  refine Wp.block ?_
  refine rs0 ?_
  iterate 2 refine vp ?_
  refine eI h F fun x3618 F h => ?_
  iterate 3 refine vp ?_
  refine vn ?_
  refine rs0 ?_
  iterate 2 refine vp ?_
  obtain ⟨r3620, hr3619, h⟩ := obind h
  refine vh [1, 2] (con_graph_gather_2 hr3619) ?_
  refine vp ?_
  refine vn ?_
  refine sB h F (fun F h => ?_) fun F h => ?_
  refine cF ?_
  refine Wp.skip ?_
  refine sh ?_
  refine rg0 ?_
  iterate 3 refine vp ?_
  refine vn ?_
  exact nx [some 0, some 1, some 2] (l3610, r3611, (IntKind.i64.wrap (p3612 + 1))) h
  refine cT ?_
  refine rs0 ?_
  iterate 3 refine vp ?_
  refine eI h F fun x3621 F h => ?_
  iterate 2 refine vp ?_
  refine nm cS h F fun l3622 F h => ?_
  refine vn ?_
  refine rg0 ?_
  iterate 3 refine vp ?_
  refine vn ?_
  refine sh ?_
  refine rg0 ?_
  iterate 3 refine vp ?_
  refine vn ?_
  exact nx [some 0, some 1, some 2] (l3622, (IntKind.i64.wrap (r3611 + 1)), (IntKind.i64.wrap (p3612 + 1))) h
  refine cT ?_
  refine rs0 ?_
  iterate 2 refine vp ?_
  refine vn ?_
  cases h
  exact Wp.ret (enH [some 0, some 1, some 2])

theorem con_slices_ContainsFunc_int_c75 {n : Nat} {s0 : List Int} {m1 : List (Str × Bool)} {b2 : ApiRung} {r : Bool} (h : slices_ContainsFunc_int_c75 n s0 m1 b2 = some r) : ConH Tryd.prog G0 73 [aL (cI .i64) s0, .clos 75 [] [.hptr 0 0 0, .hptr 2 0 0]] [.var [.mp 1], .map (mAV AV.str cB m1), .var [.str b2.Label, aL cApiContact b2.Contacts, aL cApiCoil b2.Coils, .str b2.Jump]] (.bool r) [.var [.mp 1], .map (mAV AV.str cB m1), .var [.str b2.Label, aL cApiContact b2.Contacts, aL cApiCoil b2.Coils, .str b2.Jump]] := by
  refine conH_of (T := TT0) tt_ok Tryd.func73 (c := _) (by unfold Tryd.f73; rfl) Tryd.ntmps73 (rs := [.tmp 4]) (by rw [Tryd.results73]) (by unfold Tryd.f73; rfl) (by simp) (k := 3) rfl rfl ?_
  try simp only [argsCh]
  have F := True.intro
  dsimp only [slices_ContainsFunc_int_c75] at h
  refine rs0 ?_
  refine vp ?_
  refine vn ?_
  refine rs0 ?_
  iterate 2 refine vp ?_
  obtain ⟨r2431, hr2430, h⟩ := obind h
  refine vh [0, 1, 2] (con_slices_IndexFunc_int_c75 hr2430) ?_
  iterate 2 refine vp ?_
  refine vn ?_
  cases h
  exact Wp.ret (enH [some 0, some 1, some 2])

theorem con_graph_Outgoing {n : Nat} {r_0 : ApiRung} {node1 : Str} {r : (List Int)} (h : graph_Outgoing n r_0 node1 = some r) : Con Tryd.prog G0 102 [.agg (cApiRung r_0), .str node1] (aL (cI .i64) r) [] := by
  refine con_of (T := TT0) tt_ok Tryd.func102 (c := _) (by unfold Tryd.f102; rfl) Tryd.ntmps102 (rs := [.tmp 4]) (by rw [Tryd.results102]) (by unfold Tryd.f102; rfl) (by simp) ?_
  simp only [argsCh]
  have F := True.intro
  dsimp only [graph_Outgoing] at h
  refine rs0 ?_
  iterate 3 refine vp ?_
  refine vn ?_
  refine rs0 ?_
  iterate 2 refine vp ?_
  obtain ⟨r3479, hr3478, h⟩ := obind h
  refine vh [1] (con_graph_numbers_c129 hr3478) ?_
  refine vp ?_
  refine vn ?_
  cases h
  exact Wp.ret en0

theorem con_graph_Incoming {n : Nat} {r_0 : ApiRung} {node1 : Str} {r : (List Int)} (h : graph_Incoming n r_0 node1 = some r) : Con Tryd.prog G0 74 [.agg (cApiRung r_0), .str node1] (aL (cI .i64) r) [] := by
  refine con_of (T := TT0) tt_ok Tryd.func74 (c := _) (by unfold Tryd.f74; rfl) Tryd.ntmps74 (rs := [.tmp 4]) (by rw [Tryd.results74]) (by unfold Tryd.f74; rfl) (by simp) ?_
  simp only [argsCh]
  have F := True.intro
  dsimp only [graph_Incoming] at h
  refine rs0 ?_
  iterate 3 refine vp ?_
  refine vn ?_
  refine rs0 ?_
  iterate 2 refine vp ?_
  obtain ⟨r2403, hr2402, h⟩ := obind h
  refine vh [1] (con_graph_numbers_c99 hr2402) ?_
  refine vp ?_
  refine vn ?_
  cases h
  exact Wp.ret en0

end Go.Proofs.YtaebdeidbibfkaaDoor
