/- Contracts: models of functions are right. No law is proved here. -/
import Derived.Test.YtcpbhkplgnhmkaaGMod
import Derived.Test.YtcpbhkplgnhmkaaTak
import Derived.Test.YtcpbhkplgnhmkaaLawM11
import Derived.Test.YtcpbhkplgnhmkaaGC3
import Derived.Test.YtcpbhkplgnhmkaaGC4
import Derived.Test.YtcpbhkplgnhmkaaGC5
import Derived.Test.YtcpbhkplgnhmkaaGC6
namespace Go.Proofs.Ytcpbhkplgnhmkaa
open Go.Av Go.G
attribute [-simp] Int.natCast_tdiv_eq_ediv
attribute [local simp] runf guardA opf St.ev Go.Av.look St.setd constAV constAV0 opBin opLen intBin St.need lookT TT0 tab resA resOne resAll blt_dec ble_dec beq_dec isPure
attribute [local simp] opMakeSlice opCopy opIndexAddr opLoad opStore St.mem St.rows opUn calleeA toArgs toArg toArg0 toArgs0 shift shift0 shift1 splice cellsOf isFree ofCells TS.isAgg isCell strBin opConvert
attribute [local simp] opSlice3 opClear fz_clear opBuildSlice fillA opAppend eqC eqA cksB ckB St.newBox runI valKind withinB readsHp refsD refs noSl opFieldAddr opBuild opMax opMin placeOf Op.operands Call.operands opIndex opExtract opSlice opField partA
attribute [local simp] loA hiA lenA opMakeMap opLookup opMapUpdate keyOk findA_int findA_str findA_bool putA_strB putA_strI putA_strS putA_intB putA_intI putA_intS putA_boolI putA_boolB byteRow_rw bytesOf_rw opBytesStr mAV_length mAV_nil cA1 cA2 cA3 cA4 opNilCheck opMakeFunc opRange
attribute [local simp] aL cI cB cS cL rw_map fz_rw fz_const dropRow_rw fz_append fz_set fz_copy fz_rows rowLen_rw rowsLen_nil rowsLen_cons rowsLen_append rowsLen_map rowsLen_dm rowsLen_tm rowsLen_take rowsLen_drop rowsLen_replicate take_map_len take_map_le drop_map_len take_drop_len chunks isScalar isScalar0
attribute [local simp] putBack putAt objMap mapC mapA mapT map0 bid rid memB passed closedB argsH argH argH0 argsH0 objIds ids0 idsC isLocT isLocA isLocC isLoc0 LocObj
attribute [local congr] bind_congr1 map_congr1 cond_congr1
attribute [local simp] cApiAddr cApiContact cApiCoil cApiRung cApiState cReducePair cReduceEdge cTreeTree_eq TreeTree_Kind_mk TreeTree_N_mk TreeTree_Kids_mk eta_TreeTree
variable [Drawn]
set_option maxHeartbeats 4000000
set_option linter.unusedSectionVars false
set_option maxRecDepth 20000
set_option linter.unusedSimpArgs false
set_option linter.unusedVariables false

theorem con_slices_DeleteFunc_string_c83_v1 {n : Nat} {l0 : List Str} {m2 : List (Str × Bool)} {r : (List Str)} (h : slices_DeleteFunc_string_c83_v1 n l0 m2 = some r) : ConH Try.prog G0 54 [.sl 0 0 l0.length, .clos 83 [] [.hptr 1 0 0]] [.arr 1 l0.length (rw (l0.map cS)), .var [.mp 2], .map (mAV AV.str cB m2)] (.sl 0 0 r.length) [.arr 1 r.length (rw (r.map cS)), .var [.mp 2], .map (mAV AV.str cB m2)] := by
  refine conH_of (T := TT0) tt_ok Try.func54 (c := _) (by unfold Try.f54; rfl) Try.ntmps54 (rs := [.tmp 4]) (by rw [Try.results54]) (by unfold Try.f54; rfl) (by simp) (k := 3) rfl rfl ?_
  try simp only [argsCh]
  have F := True.intro
  dsimp only [slices_DeleteFunc_string_c83_v1] at h
  refine rs0 ?_
  refine vp ?_
  refine vn ?_
  refine rs0 ?_
  iterate 2 refine vp ?_
  obtain ⟨r4591, hr4590, h⟩ := obind h
  refine vh [0, 1, 2] (con_slices_IndexFunc_string_c83_v1 hr4590) ?_
  refine vp ?_
  refine vn ?_
  refine Wp.seq ?_
  refine rs0 ?_
  iterate 2 refine vp ?_
  refine vn ?_
  refine sB h F (fun F h => ?_) fun F h => ?_
  refine cF ?_
  refine Wp.skip ?_
  refine sh ?_
  refine Wp.seq ?_
  refine rs0 ?_
  iterate 3 refine vp ?_
  refine vn ?_
  refine Wp.block ?_
  refine lp [some 0, some 1, some 2] (fun x : (List Str) × Int × Int => { ch := [(0, .sl 0 0 x.1.length), (1, .clos 83 [] [.hptr 1 0 0]), (5, .int .i64 x.2.1), (6, .int .i64 x.2.2)], hp := [.arr 1 x.1.length (rw (x.1.map cS)), .var [.mp 2], .map (mAV AV.str cB m2)], base := 3, n := 42, cond := True, gl := G0 }) (fun m x => slices_DeleteFunc_string_c83_v1_L1 n m2 m x.1 x.2.1 x.2.2 = some r) n (l0, r4591, (IntKind.i64.wrap (r4591 + 1))) h ?_
  rintro rec_n1 ⟨l4597, r4598, p4599⟩ h
  dsimp only [slices_DeleteFunc_string_c83_v1_L1] at h
  try dsimp only
  refine Wp.seq ?_
  refine rs0 ?_
  iterate 4 refine vp ?_
  refine vn ?_
  refine sD h F (fun F h => ?_) fun F h => ?_
  refine cF ?_
  refine Wp.exit ?_
  refine sh ?_
  refine rs0 ?_
  iterate 2 refine vp ?_
  refine gd h F fun F h => ?_
  refine vp ?_
  refine gd h F fun F h => ?_
  refine vp ?_
  refine vn ?_
  refine rl [some 0, some 1, some 2] { ch := [(0, .sl 0 0 l4597.length), (1, .clos 83 [] [.hptr 1 0 0]), (5, .int .i64 r4598), (6, .int .i64 p4599), (16, .int .i64 p4599), (17, .sl 0 0 l4597.length), (18, .int .i64 (l4597.length : Int)), (19, .bool (decide (p4599 < (l4597.length : Int)))), (36, .sl 0 0 l4597.length), (37, .int .i64 r4598), (38, .sl 0 r4598.toNat (l4597.length - r4598.toNat))], hp := [.arr 1 (l4597.take r4598.toNat).length (rw ((l4597.take r4598.toNat).map cS)), .var [.mp 2], .map (mAV AV.str cB m2)], base := 3, n := 42, cond := True, gl := G0 } ?_
  refine rs0 ?_
  iterate 2 refine vp ?_
  refine gd h F fun F h => ?_
  iterate 2 refine vp ?_
  refine vn ?_
  cases h
  exact Wp.ret (enH [some 0, some 1, some 2])
  refine cT ?_
  refine Wp.skip ?_
  refine sh ?_
  refine Wp.seq ?_
  refine Wp.block ?_
  refine rs0 ?_
  iterate 2 refine vp ?_
  refine eI h F fun x4605 F h => ?_
  iterate 3 refine vp ?_
  refine vn ?_
  refine rs0 ?_
  iterate 2 refine vp ?_
  obtain ⟨r4607, hr4606, h⟩ := obind h
  refine vh [1, 2] (con_graph_gather_2 hr4606) ?_
  refine vp ?_
  refine vn ?_
  refine sB h F (fun F h => ?_) fun F h => ?_
  refine cF ?_
  refine Wp.skip ?_
  refine sh ?_
  refine rg0 ?_
  iterate 3 refine vp ?_
  refine vn ?_
  exact nx [some 0, some 1, some 2] (l4597, r4598, (IntKind.i64.wrap (p4599 + 1))) h
  refine cT ?_
  refine rs0 ?_
  iterate 3 refine vp ?_
  refine eI h F fun x4608 F h => ?_
  iterate 2 refine vp ?_
  refine nm cS h F fun l4609 F h => ?_
  refine vn ?_
  refine rg0 ?_
  iterate 3 refine vp ?_
  refine vn ?_
  refine sh ?_
  refine rg0 ?_
  iterate 3 refine vp ?_
  refine vn ?_
  exact nx [some 0, some 1, some 2] (l4609, (IntKind.i64.wrap (r4598 + 1)), (IntKind.i64.wrap (p4599 + 1))) h
  refine cT ?_
  refine rs0 ?_
  iterate 2 refine vp ?_
  refine vn ?_
  cases h
  exact Wp.ret (enH [some 0, some 1, some 2])

theorem con_state_Write {n : Nat} {st0 : ApiState} {a1 : ApiAddr} {v2 : Bool} {r : ApiState × Int} (h : state_Write n st0 a1 v2 = some r) : Con Try.prog G0 44 [.agg (cApiState st0), .agg (cApiAddr a1), .bool v2] (.tup [.agg (cApiState r.1), .int .i64 r.2]) [] := by
  refine con_of (T := TT0) tt_ok Try.func44 (c := _) (by unfold Try.f44; rfl) Try.ntmps44 (rs := [.cell 6 49, .tmp 7]) (by rw [Try.results44]) (by unfold Try.f44; rfl) (by simp) ?_
  simp only [argsCh]
  have F := True.intro
  dsimp only [state_Write] at h
  refine rs0 ?_
  iterate 4 refine vp ?_
  refine vn ?_
  refine rs0 ?_
  refine vp ?_
  obtain ⟨r509, hr508, h⟩ := obind h
  refine vc (con_state_Clone hr508) ?_
  iterate 2 refine vp ?_
  refine vn ?_
  refine rs0 ?_
  refine vp ?_
  refine vn ?_
  refine jn (fun x : (List Bool) × Int × (List Bool) => { ch := [(6, .hptr 0 0 0), (8, .hptr 1 0 0), (9, .int .i64 x.2.1)], hp := [.var [.nilsl, .nilsl, .nilsl], .var [aL cB x.1, aL cB x.2.2, aL cB r509.E]], base := 0, n := 43, cond := True, gl := G0 }) (fun x => state_Write_J1 r509 x.1 x.2.1 x.2.2 = some r) ?_ ?_
  clear h
  rintro ⟨r524, r525, p526⟩ h
  dsimp only [state_Write_J1] at h
  try dsimp only
  refine Wp.seq ?_
  refine rs0 ?_
  iterate 2 refine vp ?_
  refine vn ?_
  refine sB h F (fun F h => ?_) fun F h => ?_
  refine cF ?_
  refine Wp.skip ?_
  refine sh ?_
  refine rs0 ?_
  iterate 3 refine vp ?_
  refine vn ?_
  cases h
  exact Wp.ret en0
  refine cT ?_
  refine rs0 ?_
  iterate 4 refine vp ?_
  refine vn ?_
  cases h
  exact Wp.ret en0
  refine rs0 ?_
  iterate 2 refine vp ?_
  refine vn ?_
  refine Wp.block ?_
  refine rs0 ?_
  iterate 2 refine vp ?_
  refine vn ?_
  refine sB h F (fun F h => ?_) fun F h => ?_
  refine cF ?_
  refine rs0 ?_
  iterate 2 refine vp ?_
  refine vn ?_
  refine sB h F (fun F h => ?_) fun F h => ?_
  refine cF ?_
  refine rg0 ?_
  refine vp ?_
  refine vn ?_
  exact nx [some 2, some 3] (r509.Q, 8, r509.M) h
  refine cT ?_
  refine rg0 ?_
  iterate 5 refine vp ?_
  obtain ⟨⟨r531, r532⟩, hr530, h⟩ := obind h
  dsimp only at h
  refine vc (con_image_Set hr530) ?_
  iterate 6 refine vp ?_
  refine vn ?_
  exact nx [some 2, some 3] (r509.Q, r532, r531) h
  refine cT ?_
  refine rg0 ?_
  iterate 5 refine vp ?_
  obtain ⟨⟨r528, r529⟩, hr527, h⟩ := obind h
  dsimp only at h
  refine vc (con_image_Set hr527) ?_
  iterate 6 refine vp ?_
  refine vn ?_
  exact nx [some 2, some 3] (r528, r529, r509.M) h

theorem con_flow_DeadNodes_1 {n : Nat} {n_0 : Str} {b0 : List Str} {b1 : List Str} {r : Bool} (h : flow_DeadNodes_1 n n_0 b0 b1 = some r) : ConH Try.prog G0 55 [.str n_0, .hptr 0 0 0, .hptr 1 0 0] [.var [aL cS b0], .var [aL cS b1]] (.bool r) [.var [aL cS b0], .var [aL cS b1]] := by
  refine conH_of (T := TT0) tt_ok Try.func55 (c := _) (by unfold Try.f55; rfl) Try.ntmps55 (rs := [.tmp 4]) (by rw [Try.results55]) (by unfold Try.f55; rfl) (by simp) (k := 2) rfl rfl ?_
  try simp only [argsCh]
  have F := True.intro
  dsimp only [flow_DeadNodes_1] at h
  refine rs0 ?_
  refine vp ?_
  refine vn ?_
  refine rs0 ?_
  iterate 2 refine vp ?_
  obtain ⟨r4869, hr4868, h⟩ := obind h
  refine vc (con_slices_Contains_string hr4868) ?_
  refine vp ?_
  refine sB h F (fun F h => ?_) fun F h => ?_
  refine vs ?_
  refine vs ?_
  refine vs ?_
  iterate 2 refine vp ?_
  refine vn ?_
  cases h
  exact Wp.ret (enH [some 0, some 1])
  refine vg ?_
  refine vg ?_
  obtain ⟨r4871, hr4870, h⟩ := obind h
  refine vc (con_slices_Contains_string hr4870) ?_ (hg := by (simp [F]; done))
  iterate 2 refine vp ?_
  refine vn ?_
  cases h
  exact Wp.ret (enH [some 0, some 1])

theorem con_slices_ContainsFunc_int_c50 {n : Nat} {s0 : List Int} {m1 : List (Str × Bool)} {b2 : ApiRung} {r : Bool} (h : slices_ContainsFunc_int_c50 n s0 m1 b2 = some r) : ConH Try.prog G0 48 [aL (cI .i64) s0, .clos 50 [] [.hptr 0 0 0, .hptr 2 0 0]] [.var [.mp 1], .map (mAV AV.str cB m1), .var [.str b2.Label, aL cApiContact b2.Contacts, aL cApiCoil b2.Coils, .str b2.Jump]] (.bool r) [.var [.mp 1], .map (mAV AV.str cB m1), .var [.str b2.Label, aL cApiContact b2.Contacts, aL cApiCoil b2.Coils, .str b2.Jump]] := by
  refine conH_of (T := TT0) tt_ok Try.func48 (c := _) (by unfold Try.f48; rfl) Try.ntmps48 (rs := [.tmp 4]) (by rw [Try.results48]) (by unfold Try.f48; rfl) (by simp) (k := 3) rfl rfl ?_
  try simp only [argsCh]
  have F := True.intro
  dsimp only [slices_ContainsFunc_int_c50] at h
  refine rs0 ?_
  refine vp ?_
  refine vn ?_
  refine rs0 ?_
  iterate 2 refine vp ?_
  obtain ⟨r3442, hr3441, h⟩ := obind h
  refine vh [0, 1, 2] (con_slices_IndexFunc_int_c50 hr3441) ?_
  iterate 2 refine vp ?_
  refine vn ?_
  cases h
  exact Wp.ret (enH [some 0, some 1, some 2])

theorem con_graph_Outgoing {n : Nat} {r_0 : ApiRung} {node1 : Str} {r : (List Int)} (h : graph_Outgoing n r_0 node1 = some r) : Con Try.prog G0 69 [.agg (cApiRung r_0), .str node1] (aL (cI .i64) r) [] := by
  refine con_of (T := TT0) tt_ok Try.func69 (c := _) (by unfold Try.f69; rfl) Try.ntmps69 (rs := [.tmp 4]) (by rw [Try.results69]) (by unfold Try.f69; rfl) (by simp) ?_
  simp only [argsCh]
  have F := True.intro
  dsimp only [graph_Outgoing] at h
  refine rs0 ?_
  iterate 3 refine vp ?_
  refine vn ?_
  refine rs0 ?_
  iterate 2 refine vp ?_
  obtain ⟨r4466, hr4465, h⟩ := obind h
  refine vh [1] (con_graph_numbers_c84 hr4465) ?_
  refine vp ?_
  refine vn ?_
  cases h
  exact Wp.ret en0

end Go.Proofs.Ytcpbhkplgnhmkaa
