/- Contracts: models of functions are right. No law is proved here. -/
import Derived.Test.YtcpbhkplgnhmkaaGMod
import Derived.Test.YtcpbhkplgnhmkaaTak
import Derived.Test.YtcpbhkplgnhmkaaLawM11
import Derived.Test.YtcpbhkplgnhmkaaGC1
import Derived.Test.YtcpbhkplgnhmkaaGC2
import Derived.Test.YtcpbhkplgnhmkaaGC3
namespace Go.Proofs.Ytcpbhkplgnhmkaa
open Go.Av Go.G
attribute [-simp] Int.natCast_tdiv_eq_ediv
attribute [local simp] runf guardA opf St.ev Go.Av.look St.setd constAV constAV0 opBin opLen intBin St.need lookT TT0 tab resA resOne resAll blt_dec ble_dec beq_dec isPure
attribute [local simp] opMakeSlice opCopy opIndexAddr opLoad opStore St.mem St.rows opUn calleeA toArgs toArg toArg0 toArgs0 shift shift0 shift1 splice cellsOf isFree ofCells TS.isAgg isCell strBin opConvert
attribute [local simp] opSlice3 opClear fz_clear opBuildSlice fillA opAppend eqC eqA cksB ckB St.newBox runI valKind withinB readsHp refsD refs noSl opFieldAddr opBuild opMax opMin placeOf Op.operands Call.operands opIndex opExtract opSlice opField partA
attribute [local simp] loA hiA lenA opMakeMap opLookup opMapUpdate keyOk findA_int findA_str findA_bool putA_strB putA_strI putA_strS putA_intB putA_intI putA_intS putA_boolI putA_boolB byteRow_rw bytesOf_rw opBytesStr mAV_length mAV_nil cA1 cA2 cA3 cA4 opNilCheck opMakeFunc opRange
attribute [local simp] aL cI cB cS cL rw_map fz_rw fz_const dropRow_rw fz_append fz_set fz_copy fz_rows rowLen_rw rowsLen_nil rowsLen_cons rowsLen_append rowsLen_map rowsLen_dm rowsLen_tm rowsLen_take rowsLen_drop rowsLen_replicate take_map_len take_map_le drop_map_len take_drop_len chunks isScalar isScalar0
attribute [local simp] putBack putAt objMap mapC mapA mapT map0 bid rid memB passed closedB argsH argH argH0 argsH0 objIds ids0 idsC isLocT isLocA isLocC isLoc0 LocObj
attribute [local congr] bind_congr1 map_congr1 cond_congr1
attribute [local simp] cApiAddr cApiContact cApiCoil cApiRung cApiState cReducePair cReduceEdge cTreeTree_eq TreeTree_Kind_mk TreeTree_N_mk TreeTree_Kids_mk eta_TreeTree
variable [Drawn]
set_option maxHeartbeats 4000000
set_option linter.unusedSectionVars false
set_option maxRecDepth 20000
set_option linter.unusedSimpArgs false
set_option linter.unusedVariables false

theorem con_slices_IndexFunc_reduce_edge_c27_v1 {n : Nat} {s0 : Nat} {l0 : List ReduceEdge} {b1 : ReduceEdge} {r : Int} (h : slices_IndexFunc_reduce_edge_c27_v1 n s0 l0 b1 = some r) : ConH Try.prog G0 26 [.sl 0 s0 (l0.length - s0), .clos 27 [] [.hptr 1 0 0]] [.arr 5 l0.length (rw (l0.map cReduceEdge)), .var [.str b1.pair.from_, .str b1.pair.to_, .int .i64 b1.t_.Kind, .int .i64 b1.t_.N, aL cTreeTree b1.t_.Kids]] (.int .i64 r) [.arr 5 l0.length (rw (l0.map cReduceEdge)), .var [.str b1.pair.from_, .str b1.pair.to_, .int .i64 b1.t_.Kind, .int .i64 b1.t_.N, aL cTreeTree b1.t_.Kids]] := by
  refine conH_of (T := TT0) tt_ok Try.func26 (c := _) (by unfold Try.f26; rfl) Try.ntmps26 (rs := [.tmp 4]) (by rw [Try.results26]) (by unfold Try.f26; rfl) (by simp) (k := 2) rfl rfl ?_
  try simp only [argsCh]
  have F := True.intro
  dsimp only [slices_IndexFunc_reduce_edge_c27_v1] at h
  refine rs0 ?_
  refine vp ?_
  refine vn ?_
  refine Wp.seq ?_
  refine rs0 ?_
  iterate 3 refine vp ?_
  refine vn ?_
  refine Wp.block ?_
  refine lp [some 0, some 1] (fun p5030 : Int => { ch := [(0, .sl 0 s0 (l0.length - s0)), (1, .clos 27 [] [.hptr 1 0 0]), (7, .int .i64 (((l0.length - s0) : Nat) : Int)), (8, .int .i64 p5030)], hp := [.arr 5 l0.length (rw (l0.map cReduceEdge)), .var [.str b1.pair.from_, .str b1.pair.to_, .int .i64 b1.t_.Kind, .int .i64 b1.t_.N, aL cTreeTree b1.t_.Kids]], base := 2, n := 19, cond := True, gl := G0 }) (fun m x => slices_IndexFunc_reduce_edge_c27_v1_L1 n s0 l0 b1 m x = some r) n 0 h ?_
  rintro rec_n1 p5030 h
  dsimp only [slices_IndexFunc_reduce_edge_c27_v1_L1] at h
  try dsimp only
  refine rs0 ?_
  refine vp ?_
  refine vn ?_
  refine Wp.seq ?_
  refine sD h F (fun F h => ?_) fun F h => ?_
  refine cF ?_
  refine Wp.exit ?_
  refine sh ?_
  refine rs0 ?_
  refine vp ?_
  refine vn ?_
  cases h
  exact Wp.ret (enH [some 0, some 1])
  refine cT ?_
  refine Wp.skip ?_
  refine sh ?_
  refine Wp.seq ?_
  refine Wp.block ?_
  refine rs0 ?_
  iterate 2 refine vp ?_
  refine vn ?_
  refine rs0 ?_
  iterate 3 refine vp ?_
  refine eI h F fun x5034 F h => ?_
  simp only [List.getElem?_drop, Nat.add_zero] at F
  iterate 2 refine vp ?_
  obtain ⟨r5036, hr5035, h⟩ := obind h
  refine vh [1] (con_reduce_parallel_1 hr5035) ?_
  refine vn ?_
  refine sB h F (fun F h => ?_) fun F h => ?_
  refine cF ?_
  refine Wp.skip ?_
  refine sh ?_
  refine rg0 ?_
  iterate 2 refine vp ?_
  refine vn ?_
  exact nx [some 0, some 1] (IntKind.i64.wrap (p5030 + 1)) h
  refine cT ?_
  refine rs0 ?_
  iterate 2 refine vp ?_
  refine vn ?_
  cases h
  exact Wp.ret (enH [some 0, some 1])

theorem con_slices_IndexFunc_int_c50 {n : Nat} {s0 : List Int} {m1 : List (Str × Bool)} {b2 : ApiRung} {r : Int} (h : slices_IndexFunc_int_c50 n s0 m1 b2 = some r) : ConH Try.prog G0 64 [aL (cI .i64) s0, .clos 50 [] [.hptr 0 0 0, .hptr 2 0 0]] [.var [.mp 1], .map (mAV AV.str cB m1), .var [.str b2.Label, aL cApiContact b2.Contacts, aL cApiCoil b2.Coils, .str b2.Jump]] (.int .i64 r) [.var [.mp 1], .map (mAV AV.str cB m1), .var [.str b2.Label, aL cApiContact b2.Contacts, aL cApiCoil b2.Coils, .str b2.Jump]] := by
  refine conH_of (T := TT0) tt_ok Try.func64 (c := _) (by unfold Try.f64; rfl) Try.ntmps64 (rs := [.tmp 4]) (by rw [Try.results64]) (by unfold Try.f64; rfl) (by simp) (k := 3) rfl rfl ?_
  try simp only [argsCh]
  have F := True.intro
  dsimp only [slices_IndexFunc_int_c50] at h
  refine rs0 ?_
  refine vp ?_
  refine vn ?_
  refine Wp.seq ?_
  refine rs0 ?_
  iterate 3 refine vp ?_
  refine vn ?_
  refine Wp.block ?_
  refine lp [some 0, some 1, some 2] (fun p3432 : Int => { ch := [(0, aL (cI .i64) s0), (1, .clos 50 [] [.hptr 0 0 0, .hptr 2 0 0]), (7, .int .i64 (s0.length : Int)), (8, .int .i64 p3432)], hp := [.var [.mp 1], .map (mAV AV.str cB m1), .var [.str b2.Label, aL cApiContact b2.Contacts, aL cApiCoil b2.Coils, .str b2.Jump]], base := 3, n := 19, cond := True, gl := G0 }) (fun m x => slices_IndexFunc_int_c50_L1 n s0 m1 b2 m x = some r) n 0 h ?_
  rintro rec_n1 p3432 h
  dsimp only [slices_IndexFunc_int_c50_L1] at h
  try dsimp only
  refine rs0 ?_
  refine vp ?_
  refine vn ?_
  refine Wp.seq ?_
  refine sD h F (fun F h => ?_) fun F h => ?_
  refine cF ?_
  refine Wp.exit ?_
  refine sh ?_
  refine rs0 ?_
  refine vp ?_
  refine vn ?_
  cases h
  exact Wp.ret (enH [some 0, some 1, some 2])
  refine cT ?_
  refine Wp.skip ?_
  refine sh ?_
  refine Wp.seq ?_
  refine Wp.block ?_
  refine rs0 ?_
  iterate 2 refine vp ?_
  refine vn ?_
  refine rs0 ?_
  iterate 3 refine vp ?_
  refine eI h F fun x3436 F h => ?_
  iterate 2 refine vp ?_
  obtain ⟨r3438, hr3437, h⟩ := obind h
  refine vh [0, 1, 2] (con_graph_TopoSort_1_1 hr3437) ?_
  refine vn ?_
  refine sB h F (fun F h => ?_) fun F h => ?_
  refine cF ?_
  refine Wp.skip ?_
  refine sh ?_
  refine rg0 ?_
  iterate 2 refine vp ?_
  refine vn ?_
  exact nx [some 0, some 1, some 2] (IntKind.i64.wrap (p3432 + 1)) h
  refine cT ?_
  refine rs0 ?_
  iterate 2 refine vp ?_
  refine vn ?_
  cases h
  exact Wp.ret (enH [some 0, some 1, some 2])

theorem con_graph_numbers_c84 {n : Nat} {r_0 : ApiRung} {b0 : Str} {r : (List Int)} (h : graph_numbers_c84 n r_0 b0 = some r) : ConH Try.prog G0 65 [.agg (cApiRung r_0), .clos 84 [] [.hptr 0 0 0]] [.var [.str b0]] (aL (cI .i64) r) [.var [.str b0]] := by
  refine conH_of (T := TT0) tt_ok Try.func65 (c := _) (by unfold Try.f65; rfl) Try.ntmps65 (rs := [.tmp 4]) (by rw [Try.results65]) (by unfold Try.f65; rfl) (by simp) (k := 1) rfl rfl ?_
  try simp only [argsCh]
  have F := True.intro
  dsimp only [graph_numbers_c84] at h
  refine rs0 ?_
  iterate 2 refine vp ?_
  refine vn ?_
  refine rs0 ?_
  refine vp ?_
  refine vn ?_
  refine Wp.seq ?_
  refine rs0 ?_
  iterate 4 refine vp ?_
  refine vn ?_
  refine Wp.block ?_
  refine lp [some 0, none] (fun x : Int × (List Int) => { ch := [(1, .clos 84 [] [.hptr 0 0 0]), (5, .sl 1 0 x.2.length), (9, aL cApiContact r_0.Contacts), (10, .int .i64 (r_0.Contacts.length : Int)), (11, .int .i64 x.1)], hp := [.var [.str b0], .arr 1 x.2.length (rw (x.2.map (cI .i64)))], base := 1, n := 25, cond := True, gl := G0 }) (fun m x => graph_numbers_c84_L1 n r_0 b0 m x.1 x.2 = some r) n (0, []) h ?_
  rintro rec_n1 ⟨p4455, p4456⟩ h
  dsimp only [graph_numbers_c84_L1] at h
  try dsimp only
  refine rs0 ?_
  refine vp ?_
  refine vn ?_
  refine Wp.seq ?_
  refine sD h F (fun F h => ?_) fun F h => ?_
  refine cF ?_
  refine Wp.exit ?_
  refine sh ?_
  refine rs0 ?_
  iterate 2 refine vp ?_
  refine vn ?_
  cases h
  exact Wp.ret (enH [some 0])
  refine cT ?_
  refine Wp.skip ?_
  refine sh ?_
  refine Wp.seq ?_
  refine Wp.block ?_
  refine rs0 ?_
  refine vp ?_
  refine eI h F fun x4461 F h => ?_
  iterate 5 refine vp ?_
  refine vn ?_
  refine rs0 ?_
  iterate 2 refine vp ?_
  obtain ⟨r4463, hr4462, h⟩ := obind h
  refine vh [0] (con_graph_Outgoing_1 hr4462) ?_
  refine vn ?_
  refine sB h F (fun F h => ?_) fun F h => ?_
  refine cF ?_
  refine Wp.skip ?_
  refine sh ?_
  refine rg0 ?_
  iterate 2 refine vp ?_
  refine vn ?_
  exact nx [some 0, some 1] ((IntKind.i64.wrap (p4455 + 1)), p4456) h
  refine cT ?_
  refine rg (fun d => Nat.beq d 22) ?_
  iterate 3 refine vp ?_
  refine gd h F fun F h => ?_
  refine vp ?_
  refine nm (cI .i64) h F fun l4464 F h => ?_
  refine vp ?_
  refine vn ?_
  refine sh ?_
  refine rg0 ?_
  iterate 2 refine vp ?_
  refine vn ?_
  exact nx [some 0, some 3] ((IntKind.i64.wrap (p4455 + 1)), l4464) h

theorem con_slices_IndexFunc_string_c83_v1 {n : Nat} {l0 : List Str} {m2 : List (Str × Bool)} {r : Int} (h : slices_IndexFunc_string_c83_v1 n l0 m2 = some r) : ConH Try.prog G0 46 [.sl 0 0 l0.length, .clos 83 [] [.hptr 1 0 0]] [.arr 1 l0.length (rw (l0.map cS)), .var [.mp 2], .map (mAV AV.str cB m2)] (.int .i64 r) [.arr 1 l0.length (rw (l0.map cS)), .var [.mp 2], .map (mAV AV.str cB m2)] := by
  refine conH_of (T := TT0) tt_ok Try.func46 (c := _) (by unfold Try.f46; rfl) Try.ntmps46 (rs := [.tmp 4]) (by rw [Try.results46]) (by unfold Try.f46; rfl) (by simp) (k := 3) rfl rfl ?_
  try simp only [argsCh]
  have F := True.intro
  dsimp only [slices_IndexFunc_string_c83_v1] at h
  refine rs0 ?_
  refine vp ?_
  refine vn ?_
  refine Wp.seq ?_
  refine rs0 ?_
  iterate 3 refine vp ?_
  refine vn ?_
  refine Wp.block ?_
  refine lp [some 0, some 1, some 2] (fun p4562 : Int => { ch := [(0, .sl 0 0 l0.length), (1, .clos 83 [] [.hptr 1 0 0]), (7, .int .i64 (l0.length : Int)), (8, .int .i64 p4562)], hp := [.arr 1 l0.length (rw (l0.map cS)), .var [.mp 2], .map (mAV AV.str cB m2)], base := 3, n := 19, cond := True, gl := G0 }) (fun m x => slices_IndexFunc_string_c83_v1_L1 n l0 m2 m x = some r) n 0 h ?_
  rintro rec_n1 p4562 h
  dsimp only [slices_IndexFunc_string_c83_v1_L1] at h
  try dsimp only
  refine rs0 ?_
  refine vp ?_
  refine vn ?_
  refine Wp.seq ?_
  refine sD h F (fun F h => ?_) fun F h => ?_
  refine cF ?_
  refine Wp.exit ?_
  refine sh ?_
  refine rs0 ?_
  refine vp ?_
  refine vn ?_
  cases h
  exact Wp.ret (enH [some 0, some 1, some 2])
  refine cT ?_
  refine Wp.skip ?_
  refine sh ?_
  refine Wp.seq ?_
  refine Wp.block ?_
  refine rs0 ?_
  iterate 2 refine vp ?_
  refine vn ?_
  refine rs0 ?_
  iterate 3 refine vp ?_
  refine eI h F fun x4566 F h => ?_
  iterate 2 refine vp ?_
  obtain ⟨r4568, hr4567, h⟩ := obind h
  refine vh [1, 2] (con_graph_gather_2 hr4567) ?_
  refine vn ?_
  refine sB h F (fun F h => ?_) fun F h => ?_
  refine cF ?_
  refine Wp.skip ?_
  refine sh ?_
  refine rg0 ?_
  iterate 2 refine vp ?_
  refine vn ?_
  exact nx [some 0, some 1, some 2] (IntKind.i64.wrap (p4562 + 1)) h
  refine cT ?_
  refine rs0 ?_
  iterate 2 refine vp ?_
  refine vn ?_
  cases h
  exact Wp.ret (enH [some 0, some 1, some 2])

theorem con_image_Set {n : Nat} {l0 : List Bool} {n_1 : Int} {v2 : Bool} {r : (List Bool) × Int} (h : image_Set n l0 n_1 v2 = some r) : Con Try.prog G0 63 [aL cB l0, .int .i64 n_1, .bool v2] (.tup [aL cB r.1, .int .i64 r.2]) [] := by
  refine con_of (T := TT0) tt_ok Try.func63 (c := _) (by unfold Try.f63; rfl) Try.ntmps63 (rs := [.tmp 6, .tmp 7]) (by rw [Try.results63]) (by unfold Try.f63; rfl) (by simp) ?_
  simp only [argsCh]
  have F := True.intro
  dsimp only [image_Set] at h
  refine rs0 ?_
  iterate 2 refine vp ?_
  refine vn ?_
  refine Wp.seq ?_
  refine rs0 ?_
  iterate 2 refine vp ?_
  obtain ⟨r513, hr512, h⟩ := obind h
  refine vc (con_image_is hr512) ?_
  refine vp ?_
  refine vn ?_
  refine sB h F (fun F h => ?_) fun F h => ?_
  refine cF ?_
  refine Wp.skip ?_
  refine sh ?_
  refine rs0 ?_
  iterate 2 refine vp ?_
  refine gd h F fun F h => ?_
  refine vp ?_
  refine nm cB h F fun l514 F h => ?_
  refine vp ?_
  refine vn ?_
  refine rs0 ?_
  iterate 3 refine vp ?_
  refine nm cB h F fun l515 F h => ?_
  refine vn ?_
  refine rs0 ?_
  iterate 3 refine vp ?_
  refine eI h F fun x516 F h => ?_
  iterate 2 refine vp ?_
  refine nm cB h F fun l517 F h => ?_
  refine vn ?_
  refine rs0 ?_
  iterate 3 refine vp ?_
  refine vn ?_
  cases h
  exact Wp.ret en0
  refine cT ?_
  refine rs0 ?_
  iterate 2 refine vp ?_
  refine vn ?_
  cases h
  exact Wp.ret en0

theorem con_state_Clone_o2 {n : Nat} {st0 : ApiState} {r : ApiState} (h : state_Clone_o2 n st0 = some r) : Con Try.prog G0 39 [.agg (cApiState st0)] (.agg [aL cB r.Q, aL cB r.M, .sl 0 0 r.E.length]) [.arr 1 r.E.length (rw (r.E.map cB))] := by
  refine con_of (T := TT0) tt_ok Try.func39 (c := _) (by unfold Try.f39; rfl) Try.ntmps39 (rs := [.cell 2 49]) (by rw [Try.results39]) (by unfold Try.f39; rfl) (by simp) ?_
  simp only [argsCh]
  have F := True.intro
  dsimp only [state_Clone_o2] at h
  refine rs0 ?_
  iterate 2 refine vp ?_
  refine vn ?_
  refine dw (fun d => Nat.beq d 11) [0] ?_
  refine du 2 ?_
  obtain ⟨r353, hr352, h⟩ := obind h
  refine dc (con_slices_Clone_bool hr352) ?_
  refine du 2 ?_
  obtain ⟨r355, hr354, h⟩ := obind h
  refine dc (con_slices_Clone_bool hr354) ?_
  refine du 2 ?_
  obtain ⟨r361, hr360, h⟩ := obind h
  refine dx (con_slices_Clone_bool_o0 hr360) ?_
  refine du 1 ?_
  refine db ?_
  refine dn ?_
  cases h
  exact Wp.ret (enH [some 2])

end Go.Proofs.Ytcpbhkplgnhmkaa
