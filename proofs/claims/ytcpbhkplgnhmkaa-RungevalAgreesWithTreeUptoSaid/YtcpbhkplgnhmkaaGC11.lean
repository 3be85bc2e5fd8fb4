/- Contracts: models of functions are right. No law is proved here. -/
import Derived.Test.YtcpbhkplgnhmkaaGMod
import Derived.Test.YtcpbhkplgnhmkaaTak
import Derived.Test.YtcpbhkplgnhmkaaLawM11
import Derived.Test.YtcpbhkplgnhmkaaGC1
import Derived.Test.YtcpbhkplgnhmkaaGC3
import Derived.Test.YtcpbhkplgnhmkaaGC5
import Derived.Test.YtcpbhkplgnhmkaaGC6
import Derived.Test.YtcpbhkplgnhmkaaGC7
import Derived.Test.YtcpbhkplgnhmkaaGC8
import Derived.Test.YtcpbhkplgnhmkaaGC9
namespace Go.Proofs.Ytcpbhkplgnhmkaa
open Go.Av Go.G
attribute [-simp] Int.natCast_tdiv_eq_ediv
attribute [local simp] runf guardA opf St.ev Go.Av.look St.setd constAV constAV0 opBin opLen intBin St.need lookT TT0 tab resA resOne resAll blt_dec ble_dec beq_dec isPure
attribute [local simp] opMakeSlice opCopy opIndexAddr opLoad opStore St.mem St.rows opUn calleeA toArgs toArg toArg0 toArgs0 shift shift0 shift1 splice cellsOf isFree ofCells TS.isAgg isCell strBin opConvert
attribute [local simp] opSlice3 opClear fz_clear opBuildSlice fillA opAppend eqC eqA cksB ckB St.newBox runI valKind withinB readsHp refsD refs noSl opFieldAddr opBuild opMax opMin placeOf Op.operands Call.operands opIndex opExtract opSlice opField partA
attribute [local simp] loA hiA lenA opMakeMap opLookup opMapUpdate keyOk findA_int findA_str findA_bool putA_strB putA_strI putA_strS putA_intB putA_intI putA_intS putA_boolI putA_boolB byteRow_rw bytesOf_rw opBytesStr mAV_length mAV_nil cA1 cA2 cA3 cA4 opNilCheck opMakeFunc opRange
attribute [local simp] aL cI cB cS cL rw_map fz_rw fz_const dropRow_rw fz_append fz_set fz_copy fz_rows rowLen_rw rowsLen_nil rowsLen_cons rowsLen_append rowsLen_map rowsLen_dm rowsLen_tm rowsLen_take rowsLen_drop rowsLen_replicate take_map_len take_map_le drop_map_len take_drop_len chunks isScalar isScalar0
attribute [local simp] putBack putAt objMap mapC mapA mapT map0 bid rid memB passed closedB argsH argH argH0 argsH0 objIds ids0 idsC isLocT isLocA isLocC isLoc0 LocObj
attribute [local congr] bind_congr1 map_congr1 cond_congr1
attribute [local simp] cApiAddr cApiContact cApiCoil cApiRung cApiState cReducePair cReduceEdge cTreeTree_eq TreeTree_Kind_mk TreeTree_N_mk TreeTree_Kids_mk eta_TreeTree
variable [Drawn]
set_option maxHeartbeats 4000000
set_option linter.unusedSectionVars false
set_option maxRecDepth 20000
set_option linter.unusedSimpArgs false
set_option linter.unusedVariables false

theorem con_rungeval_Contacts {n : Nat} {_append0 : ApiRung} {a1 : List Bool} {a2 : ApiState} {a3 : Int} {r : (List Bool) × ApiState × Int} (h : rungeval_Contacts n _append0 a1 a2 a3 = some r) : Con Try.prog G0 20 [.agg (cApiRung _append0), aL cB a1, .agg (cApiState a2), .int .i64 a3] (.tup [aL cB r.1, .agg (cApiState r.2.1), .int .i64 r.2.2]) [] := by
  refine con_of (T := TT0) tt_ok Try.func20 (c := _) (by unfold Try.f20; rfl) Try.ntmps20 (rs := [.tmp 8, .cell 9 49, .tmp 10]) (by rw [Try.results20]) (by unfold Try.f20; rfl) (by simp) ?_
  simp only [argsCh]
  have F := True.intro
  dsimp only [rungeval_Contacts] at h
  refine rs0 ?_
  iterate 5 refine vp ?_
  refine vn ?_
  refine rs (fun d => Nat.beq d 19) ?_
  refine vp ?_
  obtain ⟨r363, hr362, h⟩ := obind h
  refine vc (con_state_Clone_o2 hr362) ?_
  iterate 2 refine vp ?_
  refine vn ?_
  refine rs0 ?_
  iterate 3 refine vp ?_
  refine gd h F fun F h => ?_
  refine vp ?_
  refine nm cB h F fun l364 F h => ?_
  refine vp ?_
  refine vn ?_
  refine Wp.seq ?_
  refine rs0 ?_
  iterate 4 refine vp ?_
  refine vn ?_
  refine Wp.block ?_
  refine lp [some 4, some 3, some 5, some 1, some 2] (fun x : (List Bool) × (List Bool) × Int × Int => { ch := [(1, aL cB a1), (3, .int .i64 x.2.2.2), (6, .hptr 3 0 0), (9, .hptr 4 0 0), (11, .hptr 0 0 0), (12, .sl 2 0 x.2.1.length), (25, aL cApiContact _append0.Contacts), (26, .int .i64 (_append0.Contacts.length : Int)), (27, .int .i64 x.2.2.1)], hp := [.var [aL cB r363.Q, aL cB r363.M, .sl 1 0 x.1.length], .arr 1 x.1.length (rw (x.1.map cB)), .arr 1 x.2.1.length (rw (x.2.1.map cB)), .var [aL cB a2.Q, aL cB a2.M, aL cB a2.E], .var [.nilsl, .nilsl, .nilsl]], base := 0, n := 88, cond := True, gl := G0 }) (fun m x => rungeval_Contacts_L1 n _append0 a1 a2 r363 m x.1 x.2.1 x.2.2.1 x.2.2.2 = some r) n (r363.E, l364, 0, a3) h ?_
  rintro rec_n1 ⟨p396, l397, p398, a399⟩ h
  dsimp only [rungeval_Contacts_L1] at h
  try dsimp only
  refine rs0 ?_
  refine vp ?_
  refine vn ?_
  refine Wp.seq ?_
  refine sD h F (fun F h => ?_) fun F h => ?_
  refine cF ?_
  refine Wp.exit ?_
  refine sh ?_
  refine dw (fun _ => false) [0, 1, 2] ?_
  refine du 3 ?_
  refine db ?_
  refine du 1 ?_
  refine dn ?_
  cases h
  exact Wp.ret en0
  refine cT ?_
  refine Wp.skip ?_
  refine sh ?_
  refine Wp.seq ?_
  refine Wp.block ?_
  refine rs0 ?_
  refine vp ?_
  refine eI h F fun x419 F h => ?_
  iterate 5 refine vp ?_
  refine vn ?_
  refine Wp.seq ?_
  refine rs0 ?_
  iterate 4 refine vp ?_
  refine sD h F (fun F h => ?_) fun F h => ?_
  refine vg ?_
  refine vg ?_
  refine vg ?_
  refine vp ?_
  refine vn ?_
  refine sD h F (fun F h => ?_) fun F h => ?_
  refine cF ?_
  refine Wp.skip ?_
  refine sh ?_
  refine rs0 ?_
  iterate 4 refine vp ?_
  obtain ⟨⟨r421, r422⟩, hr420, h⟩ := obind h
  dsimp only at h
  refine vc (con_state_Read hr420) ?_
  iterate 5 refine vp ?_
  refine vn ?_
  refine Wp.seq ?_
  refine rs0 ?_
  iterate 2 refine vp ?_
  refine vn ?_
  refine sB h F (fun F h => ?_) fun F h => ?_
  refine cF ?_
  refine Wp.skip ?_
  refine sh ?_
  refine rs0 ?_
  refine vp ?_
  refine vn ?_
  refine jn (fun x : (List Bool) × Bool × Int => { ch := [(1, aL cB a1), (3, .int .i64 x.2.2), (6, .hptr 4 0 0), (9, .hptr 5 0 0), (11, .hptr 0 0 0), (12, .sl 2 0 l397.length), (13, .int .i64 p398), (14, .hptr 3 0 0), (15, .bool r421), (17, .bool x.2.1), (25, aL cApiContact _append0.Contacts), (26, .int .i64 (_append0.Contacts.length : Int)), (27, .int .i64 p398), (36, .hptr 3 0 0), (37, .int .i64 x419.Kind), (38, .bool (decide (x419.Kind ≥ 4)))], hp := [.var [aL cB r363.Q, aL cB r363.M, .sl 1 0 x.1.length], .arr 1 x.1.length (rw (x.1.map cB)), .arr 1 l397.length (rw (l397.map cB)), .var [.int .i64 x419.Kind, .int .i64 x419.A.Space, .int .i64 x419.A.N, .str x419.From, .str x419.To], .var [aL cB a2.Q, aL cB a2.M, aL cB a2.E], .var [.nilsl, .nilsl, .nilsl]], base := 0, n := 88, cond := True, gl := G0 }) (fun x => rungeval_Contacts_J2 n l397 p398 (rungeval_Contacts_L1 n _append0 a1 a2 r363 rec_n1) x419 r421 x.1 x.2.1 x.2.2 = some r) ?_ ?_
  clear h
  rintro ⟨l427, x428, p429⟩ h
  dsimp only [rungeval_Contacts_J2] at h
  try dsimp only
  refine rg0 ?_
  iterate 6 refine vp ?_
  obtain ⟨r431, hr430, h⟩ := obind h
  refine vc (con_rungeval_conducting hr430) ?_
  refine eI h F fun x432 F h => ?_
  iterate 2 refine vp ?_
  refine nm cB h F fun l433 F h => ?_
  refine vn ?_
  refine sh ?_
  refine rg0 ?_
  iterate 2 refine vp ?_
  refine vn ?_
  exact nx [some 0, some 1, some 2, some 4, some 5] (l427, l433, (IntKind.i64.wrap (p398 + 1)), p429) h
  refine rs0 ?_
  refine vp ?_
  obtain ⟨r435, hr434, h⟩ := obind h
  refine vc (con_rungeval_sees hr434) ?_
  refine vn ?_
  refine sB h F (fun F h => ?_) fun F h => ?_
  refine cF ?_
  refine Wp.skip ?_
  exact nx [some 0, some 1, some 2, some 5, some 3, some 4] (p396, false, a399) h
  refine cT ?_
  refine Wp.seq ?_
  refine rs0 ?_
  iterate 3 refine vp ?_
  refine sD h F (fun F h => ?_) fun F h => ?_
  refine vg ?_
  refine vg ?_
  refine vg ?_
  refine vg ?_
  refine vg ?_
  refine vp ?_
  refine vn ?_
  refine sD h F (fun F h => ?_) fun F h => ?_
  refine cF ?_
  refine Wp.skip ?_
  refine sh ?_
  refine dw (fun _ => false) [0, 1] ?_
  refine du 6 ?_
  refine eI h F fun x436 F h => ?_
  refine du 5 ?_
  refine db ?_
  refine nm cB h F fun l437 F h => ?_
  refine dn ?_
  refine rg0 ?_
  iterate 3 refine vp ?_
  refine vn ?_
  exact nx [some 0, some 1, some 2, some 5, some 3, some 4] (l437, x436, (IntKind.i64.wrap (a399 + 1))) h
  refine cT ?_
  refine rs0 ?_
  iterate 4 refine vp ?_
  refine vn ?_
  cases h
  exact Wp.ret en0
  refine vs ?_
  refine vs ?_
  refine vs ?_
  refine vs ?_
  refine vs ?_
  refine vp ?_
  refine vn ?_
  refine cT ?_
  refine rs0 ?_
  iterate 4 refine vp ?_
  refine vn ?_
  cases h
  exact Wp.ret en0
  refine cT ?_
  refine rs0 ?_
  iterate 5 refine vp ?_
  refine vn ?_
  cases h
  exact Wp.ret en0
  refine cT ?_
  refine rs0 ?_
  iterate 4 refine vp ?_
  refine vn ?_
  cases h
  exact Wp.ret en0
  refine vs ?_
  refine vs ?_
  refine vs ?_
  refine vp ?_
  refine vn ?_
  refine cT ?_
  refine rs0 ?_
  iterate 4 refine vp ?_
  refine vn ?_
  cases h
  exact Wp.ret en0

theorem con_rungeval_Coils {n : Nat} {r_0 : ApiRung} {st1 : ApiState} {on2 : Bool} {r : ApiState × Int} (h : rungeval_Coils n r_0 st1 on2 = some r) : Con Try.prog G0 21 [.agg (cApiRung r_0), .agg (cApiState st1), .bool on2] (.tup [.agg (cApiState r.1), .int .i64 r.2]) [] := by
  refine con_of (T := TT0) tt_ok Try.func21 (c := _) (by unfold Try.f21; rfl) Try.ntmps21 (rs := [.cell 6 49, .tmp 7]) (by rw [Try.results21]) (by unfold Try.f21; rfl) (by simp) ?_
  simp only [argsCh]
  have F := True.intro
  dsimp only [rungeval_Coils] at h
  refine rs0 ?_
  iterate 4 refine vp ?_
  refine vn ?_
  refine rs0 ?_
  refine vp ?_
  obtain ⟨r503, hr502, h⟩ := obind h
  refine vc (con_state_Clone hr502) ?_
  iterate 2 refine vp ?_
  refine vn ?_
  refine Wp.seq ?_
  refine rs0 ?_
  iterate 4 refine vp ?_
  refine vn ?_
  refine Wp.block ?_
  refine lp [some 2, some 3] (fun x : Int × (List Bool) × (List Bool) × (List Bool) => { ch := [(2, .bool on2), (6, .hptr 0 0 0), (8, .hptr 1 0 0), (18, aL cApiCoil r_0.Coils), (19, .int .i64 (r_0.Coils.length : Int)), (20, .int .i64 x.1)], hp := [.var [.nilsl, .nilsl, .nilsl], .var [aL cB x.2.1, aL cB x.2.2.1, aL cB x.2.2.2]], base := 0, n := 56, cond := True, gl := G0 }) (fun m x => rungeval_Coils_L1 n r_0 on2 m x.1 x.2.1 x.2.2.1 x.2.2.2 = some r) n (0, r503.Q, r503.M, r503.E) h ?_
  rintro rec_n1 ⟨p536, p537, p538, p539⟩ h
  dsimp only [rungeval_Coils_L1] at h
  try dsimp only
  refine rs0 ?_
  refine vp ?_
  refine vn ?_
  refine Wp.seq ?_
  refine sD h F (fun F h => ?_) fun F h => ?_
  refine cF ?_
  refine Wp.exit ?_
  refine sh ?_
  refine rs0 ?_
  iterate 3 refine vp ?_
  refine vn ?_
  cases h
  exact Wp.ret en0
  refine cT ?_
  refine Wp.skip ?_
  refine sh ?_
  refine Wp.seq ?_
  refine Wp.block ?_
  refine rs0 ?_
  refine eI h F fun x547 F h => ?_
  iterate 4 refine vp ?_
  refine vn ?_
  refine Wp.seq ?_
  refine rs0 ?_
  iterate 4 refine vp ?_
  refine sD h F (fun F h => ?_) fun F h => ?_
  refine vg ?_
  refine vg ?_
  refine vg ?_
  refine vp ?_
  refine vn ?_
  refine sD h F (fun F h => ?_) fun F h => ?_
  refine cF ?_
  refine Wp.skip ?_
  refine sh ?_
  refine rs0 ?_
  iterate 3 refine vp ?_
  obtain ⟨⟨r549, r550⟩, hr548, h⟩ := obind h
  dsimp only at h
  refine vc (con_rungeval_writes hr548) ?_
  iterate 5 refine vp ?_
  refine vn ?_
  refine rs0 ?_
  iterate 4 refine vp ?_
  obtain ⟨⟨r552, r553⟩, hr551, h⟩ := obind h
  dsimp only at h
  refine vc (con_state_Write hr551) ?_
  iterate 6 refine vp ?_
  refine vn ?_
  refine Wp.seq ?_
  refine rs0 ?_
  iterate 2 refine vp ?_
  refine vn ?_
  refine sB h F (fun F h => ?_) fun F h => ?_
  refine cF ?_
  refine Wp.skip ?_
  refine sh ?_
  refine rs0 ?_
  refine vp ?_
  refine vn ?_
  refine sB h F (fun F h => ?_) fun F h => ?_
  refine cF ?_
  refine Wp.skip ?_
  refine sh ?_
  refine rg0 ?_
  iterate 2 refine vp ?_
  refine vn ?_
  exact nx [some 0, some 1] ((IntKind.i64.wrap (p536 + 1)), p537, p538, p539) h
  refine cT ?_
  refine rg0 ?_
  iterate 2 refine vp ?_
  refine vn ?_
  refine sh ?_
  refine rg0 ?_
  iterate 2 refine vp ?_
  refine vn ?_
  exact nx [some 0, some 1] ((IntKind.i64.wrap (p536 + 1)), r552.Q, r552.M, r552.E) h
  refine cT ?_
  refine rs0 ?_
  iterate 4 refine vp ?_
  refine vn ?_
  cases h
  exact Wp.ret en0
  refine cT ?_
  refine rs0 ?_
  iterate 3 refine vp ?_
  refine vn ?_
  cases h
  exact Wp.ret en0
  refine vs ?_
  refine vs ?_
  refine vs ?_
  refine vp ?_
  refine vn ?_
  refine cT ?_
  refine rs0 ?_
  iterate 3 refine vp ?_
  refine vn ?_
  cases h
  exact Wp.ret en0

theorem con_slices_IndexFunc_string_c55_v1 {n : Nat} {l0 : List Str} {b1 : List Str} {b2 : List Str} {r : Int} (h : slices_IndexFunc_string_c55_v1 n l0 b1 b2 = some r) : ConH Try.prog G0 46 [.sl 0 0 l0.length, .clos 55 [] [.hptr 1 0 0, .hptr 2 0 0]] [.arr 1 l0.length (rw (l0.map cS)), .var [aL cS b1], .var [aL cS b2]] (.int .i64 r) [.arr 1 l0.length (rw (l0.map cS)), .var [aL cS b1], .var [aL cS b2]] := by
  refine conH_of (T := TT0) tt_ok Try.func46 (c := _) (by unfold Try.f46; rfl) Try.ntmps46 (rs := [.tmp 4]) (by rw [Try.results46]) (by unfold Try.f46; rfl) (by simp) (k := 3) rfl rfl ?_
  try simp only [argsCh]
  have F := True.intro
  dsimp only [slices_IndexFunc_string_c55_v1] at h
  refine rs0 ?_
  refine vp ?_
  refine vn ?_
  refine Wp.seq ?_
  refine rs0 ?_
  iterate 3 refine vp ?_
  refine vn ?_
  refine Wp.block ?_
  refine lp [some 0, some 1, some 2] (fun p4884 : Int => { ch := [(0, .sl 0 0 l0.length), (1, .clos 55 [] [.hptr 1 0 0, .hptr 2 0 0]), (7, .int .i64 (l0.length : Int)), (8, .int .i64 p4884)], hp := [.arr 1 l0.length (rw (l0.map cS)), .var [aL cS b1], .var [aL cS b2]], base := 3, n := 19, cond := True, gl := G0 }) (fun m x => slices_IndexFunc_string_c55_v1_L1 n l0 b1 b2 m x = some r) n 0 h ?_
  rintro rec_n1 p4884 h
  dsimp only [slices_IndexFunc_string_c55_v1_L1] at h
  try dsimp only
  refine rs0 ?_
  refine vp ?_
  refine vn ?_
  refine Wp.seq ?_
  refine sD h F (fun F h => ?_) fun F h => ?_
  refine cF ?_
  refine Wp.exit ?_
  refine sh ?_
  refine rs0 ?_
  refine vp ?_
  refine vn ?_
  cases h
  exact Wp.ret (enH [some 0, some 1, some 2])
  refine cT ?_
  refine Wp.skip ?_
  refine sh ?_
  refine Wp.seq ?_
  refine Wp.block ?_
  refine rs0 ?_
  iterate 2 refine vp ?_
  refine vn ?_
  refine rs0 ?_
  iterate 3 refine vp ?_
  refine eI h F fun x4888 F h => ?_
  iterate 2 refine vp ?_
  obtain ⟨r4890, hr4889, h⟩ := obind h
  refine vh [1, 2] (con_flow_DeadNodes_1 hr4889) ?_
  refine vn ?_
  refine sB h F (fun F h => ?_) fun F h => ?_
  refine cF ?_
  refine Wp.skip ?_
  refine sh ?_
  refine rg0 ?_
  iterate 2 refine vp ?_
  refine vn ?_
  exact nx [some 0, some 1, some 2] (IntKind.i64.wrap (p4884 + 1)) h
  refine cT ?_
  refine rs0 ?_
  iterate 2 refine vp ?_
  refine vn ?_
  cases h
  exact Wp.ret (enH [some 0, some 1, some 2])

theorem con_graph_Ancestors_1 {n : Nat} {n_0 : Str} {b0 : ApiRung} {r : (List Str)} (h : graph_Ancestors_1 n n_0 b0 = some r) : ConH Try.prog G0 70 [.str n_0, .hptr 0 0 0] [.var [.str b0.Label, aL cApiContact b0.Contacts, aL cApiCoil b0.Coils, .str b0.Jump]] (aL cS r) [.var [.str b0.Label, aL cApiContact b0.Contacts, aL cApiCoil b0.Coils, .str b0.Jump]] := by
  refine conH_of (T := TT0) tt_ok Try.func70 (c := _) (by unfold Try.f70; rfl) Try.ntmps70 (rs := [.tmp 3]) (by rw [Try.results70]) (by unfold Try.f70; rfl) (by simp) (k := 1) rfl rfl ?_
  try simp only [argsCh]
  have F := True.intro
  dsimp only [graph_Ancestors_1] at h
  refine rs0 ?_
  refine vp ?_
  refine vn ?_
  refine rs0 ?_
  refine vp ?_
  refine vn ?_
  refine Wp.seq ?_
  refine rs0 ?_
  iterate 2 refine vp ?_
  obtain ⟨r4769, hr4768, h⟩ := obind h
  refine vc (con_graph_Incoming hr4768) ?_
  iterate 2 refine vp ?_
  refine vn ?_
  refine Wp.block ?_
  refine lp [some 0, none] (fun x : Int × (List Str) => { ch := [(1, .hptr 0 0 0), (4, .sl 1 0 x.2.length), (9, aL (cI .i64) r4769), (10, .int .i64 (r4769.length : Int)), (11, .int .i64 x.1)], hp := [.var [.str b0.Label, aL cApiContact b0.Contacts, aL cApiCoil b0.Coils, .str b0.Jump], .arr 1 x.2.length (rw (x.2.map cS))], base := 1, n := 26, cond := True, gl := G0 }) (fun m x => graph_Ancestors_1_L1 b0 r4769 m x.1 x.2 = some r) n (0, []) h ?_
  rintro rec_n1 ⟨p4773, p4774⟩ h
  dsimp only [graph_Ancestors_1_L1] at h
  try dsimp only
  refine rs0 ?_
  refine vp ?_
  refine vn ?_
  refine Wp.seq ?_
  refine sD h F (fun F h => ?_) fun F h => ?_
  refine cF ?_
  refine Wp.exit ?_
  refine sh ?_
  refine rs0 ?_
  iterate 2 refine vp ?_
  refine vn ?_
  cases h
  exact Wp.ret (enH [some 0])
  refine cT ?_
  refine Wp.skip ?_
  refine sh ?_
  refine Wp.seq ?_
  refine Wp.block ?_
  refine rs0 ?_
  refine eI h F fun x4778 F h => ?_
  iterate 3 refine vp ?_
  refine vn ?_
  refine rg (fun d => Nat.beq d 23) ?_
  iterate 4 refine vp ?_
  refine eI h F fun x4779 F h => ?_
  iterate 4 refine vp ?_
  refine gd h F fun F h => ?_
  refine vp ?_
  refine nm cS h F fun l4780 F h => ?_
  refine vp ?_
  refine vn ?_
  refine sh ?_
  refine rg0 ?_
  iterate 2 refine vp ?_
  refine vn ?_
  exact nx [some 0, some 2] ((IntKind.i64.wrap (p4773 + 1)), l4780) h

theorem len_slices_SortFunc_tree_Tree_c31 {n : Nat} {l0 : List TreeTree} {r : List TreeTree} (h : slices_SortFunc_tree_Tree_c31 n l0 = some r) : r.length = l0.length := sortM_length h
theorem con_slices_SortFunc_tree_Tree_c31 {n : Nat} {l0 : List TreeTree} {r : List TreeTree} (h : slices_SortFunc_tree_Tree_c31 n l0 = some r) : ConH Try.prog G0 30 [.sl 0 0 l0.length, .clos 31 [] []] [.arr 3 l0.length (rw (l0.map cTreeTree))] (.tup []) [.arr 3 r.length (rw (r.map cTreeTree))] := by
  have hl : r.length = l0.length := sortM_length h
  rw [hl]
  exact conH_sort Try.sort_lays (tt_ok 37 _ rfl) rfl cTreeTree (fun x => by simp [cTreeTree_eq]) ⟨_, Try.func30, rfl, by decide⟩ 31 (fun a b => reduce_sorted_1 n a b) (fun a b r hr => by have := @con_reduce_sorted_1 ⟨True⟩ _ _ _ _ hr; simpa only [cTreeTree_eq] using this) l0 r h

end Go.Proofs.Ytcpbhkplgnhmkaa
