/- Contracts: models of functions are right. No law is proved here. -/
import Derived.Test.YtcpbhkplgnhmkaaGMod
import Derived.Test.YtcpbhkplgnhmkaaTak
import Derived.Test.YtcpbhkplgnhmkaaLawM11
import Derived.Test.YtcpbhkplgnhmkaaGC1
import Derived.Test.YtcpbhkplgnhmkaaGC8
import Derived.Test.YtcpbhkplgnhmkaaGC10
import Derived.Test.YtcpbhkplgnhmkaaGC11
namespace Go.Proofs.Ytcpbhkplgnhmkaa
open Go.Av Go.G
attribute [-simp] Int.natCast_tdiv_eq_ediv
attribute [local simp] runf guardA opf St.ev Go.Av.look St.setd constAV constAV0 opBin opLen intBin St.need lookT TT0 tab resA resOne resAll blt_dec ble_dec beq_dec isPure
attribute [local simp] opMakeSlice opCopy opIndexAddr opLoad opStore St.mem St.rows opUn calleeA toArgs toArg toArg0 toArgs0 shift shift0 shift1 splice cellsOf isFree ofCells TS.isAgg isCell strBin opConvert
attribute [local simp] opSlice3 opClear fz_clear opBuildSlice fillA opAppend eqC eqA cksB ckB St.newBox runI valKind withinB readsHp refsD refs noSl opFieldAddr opBuild opMax opMin placeOf Op.operands Call.operands opIndex opExtract opSlice opField partA
attribute [local simp] loA hiA lenA opMakeMap opLookup opMapUpdate keyOk findA_int findA_str findA_bool putA_strB putA_strI putA_strS putA_intB putA_intI putA_intS putA_boolI putA_boolB byteRow_rw bytesOf_rw opBytesStr mAV_length mAV_nil cA1 cA2 cA3 cA4 opNilCheck opMakeFunc opRange
attribute [local simp] aL cI cB cS cL rw_map fz_rw fz_const dropRow_rw fz_append fz_set fz_copy fz_rows rowLen_rw rowsLen_nil rowsLen_cons rowsLen_append rowsLen_map rowsLen_dm rowsLen_tm rowsLen_take rowsLen_drop rowsLen_replicate take_map_len take_map_le drop_map_len take_drop_len chunks isScalar isScalar0
attribute [local simp] putBack putAt objMap mapC mapA mapT map0 bid rid memB passed closedB argsH argH argH0 argsH0 objIds ids0 idsC isLocT isLocA isLocC isLoc0 LocObj
attribute [local congr] bind_congr1 map_congr1 cond_congr1
attribute [local simp] cApiAddr cApiContact cApiCoil cApiRung cApiState cReducePair cReduceEdge cTreeTree_eq TreeTree_Kind_mk TreeTree_N_mk TreeTree_Kids_mk eta_TreeTree
variable [Drawn]
set_option maxHeartbeats 4000000
set_option linter.unusedSectionVars false
set_option maxRecDepth 20000
set_option linter.unusedSimpArgs false
set_option linter.unusedVariables false

theorem con_slices_DeleteFunc_string_c55 {n : Nat} {l0 : List Str} {b1 : List Str} {b2 : List Str} {r : (List Str)} (h : slices_DeleteFunc_string_c55 n l0 b1 b2 = some r) : ConH Try.prog G0 54 [.sl 0 0 l0.length, .clos 55 [] [.hptr 1 0 0, .hptr 2 0 0]] [.arr 1 l0.length (rw (l0.map cS)), .var [aL cS b1], .var [aL cS b2]] (.sl 0 0 r.length) [.arr 1 r.length (rw (r.map cS)), .var [aL cS b1], .var [aL cS b2]] := by
  refine conH_of (T := TT0) tt_ok Try.func54 (c := _) (by unfold Try.f54; rfl) Try.ntmps54 (rs := [.tmp 4]) (by rw [Try.results54]) (by unfold Try.f54; rfl) (by simp) (k := 3) rfl rfl ?_
  try simp only [argsCh]
  have F := True.intro
  dsimp only [slices_DeleteFunc_string_c55] at h
  refine rs0 ?_
  refine vp ?_
  refine vn ?_
  refine rs0 ?_
  iterate 2 refine vp ?_
  obtain ⟨r4913, hr4912, h⟩ := obind h
  refine vh [0, 1, 2] (con_slices_IndexFunc_string_c55_v1 hr4912) ?_
  refine vp ?_
  refine vn ?_
  refine Wp.seq ?_
  refine rs0 ?_
  iterate 2 refine vp ?_
  refine vn ?_
  refine sB h F (fun F h => ?_) fun F h => ?_
  refine cF ?_
  refine Wp.skip ?_
  refine sh ?_
  refine Wp.seq ?_
  refine rs0 ?_
  iterate 3 refine vp ?_
  refine vn ?_
  refine Wp.block ?_
  refine lp [some 0, some 1, some 2] (fun x : (List Str) × Int × Int => { ch := [(0, .sl 0 0 x.1.length), (1, .clos 55 [] [.hptr 1 0 0, .hptr 2 0 0]), (5, .int .i64 x.2.1), (6, .int .i64 x.2.2)], hp := [.arr 1 x.1.length (rw (x.1.map cS)), .var [aL cS b1], .var [aL cS b2]], base := 3, n := 42, cond := True, gl := G0 }) (fun m x => slices_DeleteFunc_string_c55_L1 n b1 b2 m x.1 x.2.1 x.2.2 = some r) n (l0, r4913, (IntKind.i64.wrap (r4913 + 1))) h ?_
  rintro rec_n1 ⟨l4919, r4920, p4921⟩ h
  dsimp only [slices_DeleteFunc_string_c55_L1] at h
  try dsimp only
  refine Wp.seq ?_
  refine rs0 ?_
  iterate 4 refine vp ?_
  refine vn ?_
  refine sD h F (fun F h => ?_) fun F h => ?_
  refine cF ?_
  refine Wp.exit ?_
  refine sh ?_
  refine rs0 ?_
  iterate 2 refine vp ?_
  refine gd h F fun F h => ?_
  refine vp ?_
  refine gd h F fun F h => ?_
  refine vp ?_
  refine vn ?_
  refine rl [some 0, some 1, some 2] { ch := [(0, .sl 0 0 l4919.length), (1, .clos 55 [] [.hptr 1 0 0, .hptr 2 0 0]), (5, .int .i64 r4920), (6, .int .i64 p4921), (16, .int .i64 p4921), (17, .sl 0 0 l4919.length), (18, .int .i64 (l4919.length : Int)), (19, .bool (decide (p4921 < (l4919.length : Int)))), (36, .sl 0 0 l4919.length), (37, .int .i64 r4920), (38, .sl 0 r4920.toNat (l4919.length - r4920.toNat))], hp := [.arr 1 (l4919.take r4920.toNat).length (rw ((l4919.take r4920.toNat).map cS)), .var [aL cS b1], .var [aL cS b2]], base := 3, n := 42, cond := True, gl := G0 } ?_
  refine rs0 ?_
  iterate 2 refine vp ?_
  refine gd h F fun F h => ?_
  iterate 2 refine vp ?_
  refine vn ?_
  cases h
  exact Wp.ret (enH [some 0, some 1, some 2])
  refine cT ?_
  refine Wp.skip ?_
  refine sh ?_
  refine Wp.seq ?_
  refine Wp.block ?_
  refine rs0 ?_
  iterate 2 refine vp ?_
  refine eI h F fun x4927 F h => ?_
  iterate 3 refine vp ?_
  refine vn ?_
  refine rs0 ?_
  iterate 2 refine vp ?_
  obtain ⟨r4929, hr4928, h⟩ := obind h
  refine vh [1, 2] (con_flow_DeadNodes_1 hr4928) ?_
  refine vp ?_
  refine vn ?_
  refine sB h F (fun F h => ?_) fun F h => ?_
  refine cF ?_
  refine Wp.skip ?_
  refine sh ?_
  refine rg0 ?_
  iterate 3 refine vp ?_
  refine vn ?_
  exact nx [some 0, some 1, some 2] (l4919, r4920, (IntKind.i64.wrap (p4921 + 1))) h
  refine cT ?_
  refine rs0 ?_
  iterate 3 refine vp ?_
  refine eI h F fun x4930 F h => ?_
  iterate 2 refine vp ?_
  refine nm cS h F fun l4931 F h => ?_
  refine vn ?_
  refine rg0 ?_
  iterate 3 refine vp ?_
  refine vn ?_
  refine sh ?_
  refine rg0 ?_
  iterate 3 refine vp ?_
  refine vn ?_
  exact nx [some 0, some 1, some 2] (l4931, (IntKind.i64.wrap (r4920 + 1)), (IntKind.i64.wrap (p4921 + 1))) h
  refine cT ?_
  refine rs0 ?_
  iterate 2 refine vp ?_
  refine vn ?_
  cases h
  exact Wp.ret (enH [some 0, some 1, some 2])

theorem con_graph_gather_1_c70_82 (n : Nat) : ∀ {n_0 : Str} {m1 : List (Str × Bool)} {b3 : ApiRung} {r : (List (Str × Bool))}, graph_gather_1_c70_82 n n_0 m1 b3 = some r → ConH Try.prog G0 82 [.str n_0, .hptr 0 0 0, .hptr 2 0 0, .hptr 4 0 0] [.var [.mp 1], .map (mAV AV.str cB m1), .var [.clos 70 [] [.hptr 3 0 0]], .var [.str b3.Label, aL cApiContact b3.Contacts, aL cApiCoil b3.Coils, .str b3.Jump], .var [.clos 82 [] [.hptr 0 0 0, .hptr 2 0 0, .hptr 4 0 0]]] (.tup []) [.var [.mp 1], .map (mAV AV.str cB r), .var [.clos 70 [] [.hptr 3 0 0]], .var [.str b3.Label, aL cApiContact b3.Contacts, aL cApiCoil b3.Coils, .str b3.Jump], .var [.clos 82 [] [.hptr 0 0 0, .hptr 2 0 0, .hptr 4 0 0]]] := by
  induction n with
  | zero => intro n_0 m1 b3 r h; simp [graph_gather_1_c70_82] at h
  | succ n Hslf_graph_gather_1_c70_82 =>
   intro n_0 m1 b3 r h
   refine conH_of (T := TT0) tt_ok Try.func82 (c := _) (by unfold Try.f82; rfl) Try.ntmps82 (rs := []) (by rw [Try.results82]) (by unfold Try.f82; rfl) (by simp) (k := 5) rfl rfl ?_
   try simp only [argsCh]
   have F := True.intro
   dsimp only [graph_gather_1_c70_82] at h
   refine Wp.seq ?_
   refine rs0 ?_
   iterate 3 refine vp ?_
   refine vn ?_
   refine sB h F (fun F h => ?_) fun F h => ?_
   refine cF ?_
   refine Wp.skip ?_
   refine sh ?_
   refine rs0 ?_
   iterate 3 refine vp ?_
   refine vn ?_
   refine rs0 ?_
   iterate 2 refine vp ?_
   obtain ⟨r4801, hr4800, h⟩ := obind h
   refine vh [3] (con_graph_Ancestors_1 hr4800) ?_
   iterate 2 refine vp ?_
   refine vn ?_
   refine Wp.block ?_
   refine lp [some 0, some 1, some 2, some 3, some 4] (fun x : (List (Str × Bool)) × Int => { ch := [(3, .hptr 4 0 0), (14, aL cS r4801), (15, .int .i64 (r4801.length : Int)), (16, .int .i64 x.2)], hp := [.var [.mp 1], .map (mAV AV.str cB x.1), .var [.clos 70 [] [.hptr 3 0 0]], .var [.str b3.Label, aL cApiContact b3.Contacts, aL cApiCoil b3.Coils, .str b3.Jump], .var [.clos 82 [] [.hptr 0 0 0, .hptr 2 0 0, .hptr 4 0 0]]], base := 5, n := 24, cond := True, gl := G0 }) (fun m x => graph_gather_1_c70_82_L1 b3 r4801 (graph_gather_1_c70_82 n) m x.1 x.2 = some r) n ((mPut m1 n_0 true), 0) h ?_
   rintro rec_n1 ⟨p4805, p4806⟩ h
   dsimp only [graph_gather_1_c70_82_L1] at h
   try dsimp only
   refine rs0 ?_
   refine vp ?_
   refine vn ?_
   refine Wp.seq ?_
   refine sD h F (fun F h => ?_) fun F h => ?_
   refine cF ?_
   refine Wp.exit ?_
   cases h
   exact n2r (enH [some 0, some 1, some 2, some 3, some 4])
   refine cT ?_
   refine Wp.skip ?_
   refine sh ?_
   refine Wp.seq ?_
   refine Wp.block ?_
   refine rs0 ?_
   refine eI h F fun x4810 F h => ?_
   iterate 3 refine vp ?_
   refine vn ?_
   refine rg0 ?_
   iterate 2 refine vp ?_
   obtain ⟨q4812, hr4811, h⟩ := obind h
   refine vh [0, 1, 2, 3, 4] (Hslf_graph_gather_1_c70_82 hr4811) ?_
   refine vn ?_
   refine sh ?_
   refine rg0 ?_
   iterate 2 refine vp ?_
   refine vn ?_
   exact nx [some 0, some 1, some 2, some 3, some 4] (q4812, (IntKind.i64.wrap (p4806 + 1))) h
   refine cT ?_
   cases h
   exact Wp.ret (enH [some 0, some 1, some 2, some 3, some 4])

theorem con_rungeval_Scan {n : Nat} {r_0 : ApiRung} {in1 : List Bool} {st2 : ApiState} {slot3 : Int} {r : ApiState × Bool × Int} (h : rungeval_Scan n r_0 in1 st2 slot3 = some r) : Con Try.prog G0 11 [.agg (cApiRung r_0), aL cB in1, .agg (cApiState st2), .int .i64 slot3] (.tup [.agg (cApiState r.1), .bool r.2.1, .int .i64 r.2.2]) [] := by
  refine con_of (T := TT0) tt_ok Try.func11 (c := _) (by unfold Try.f11; rfl) Try.ntmps11 (rs := [.cell 8 49, .tmp 9, .tmp 10]) (by rw [Try.results11]) (by unfold Try.f11; rfl) (by simp) ?_
  simp only [argsCh]
  have F := True.intro
  dsimp only [rungeval_Scan] at h
  refine rs0 ?_
  iterate 5 refine vp ?_
  refine vn ?_
  refine rs0 ?_
  iterate 4 refine vp ?_
  obtain ⟨⟨r439, r440, r441⟩, hr438, h⟩ := obind h
  dsimp only at h
  refine vc (con_rungeval_Contacts hr438) ?_
  iterate 8 refine vp ?_
  refine vn ?_
  refine Wp.seq ?_
  refine rs0 ?_
  iterate 2 refine vp ?_
  refine vn ?_
  refine sB h F (fun F h => ?_) fun F h => ?_
  refine cF ?_
  refine Wp.skip ?_
  refine sh ?_
  refine rs0 ?_
  iterate 2 refine vp ?_
  obtain ⟨⟨r494, r495⟩, hr493, h⟩ := obind h
  dsimp only at h
  refine vc (con_rungeval_Conducts hr493) ?_
  iterate 5 refine vp ?_
  refine vn ?_
  refine Wp.seq ?_
  refine rs0 ?_
  iterate 2 refine vp ?_
  refine vn ?_
  refine sB h F (fun F h => ?_) fun F h => ?_
  refine cF ?_
  refine Wp.skip ?_
  refine sh ?_
  refine rs0 ?_
  iterate 3 refine vp ?_
  obtain ⟨⟨r555, r556⟩, hr554, h⟩ := obind h
  dsimp only at h
  refine vc (con_rungeval_Coils hr554) ?_
  iterate 6 refine vp ?_
  refine vn ?_
  refine Wp.seq ?_
  refine rs0 ?_
  iterate 2 refine vp ?_
  refine vn ?_
  refine sB h F (fun F h => ?_) fun F h => ?_
  refine cF ?_
  refine Wp.skip ?_
  refine sh ?_
  refine rs0 ?_
  iterate 5 refine vp ?_
  refine vn ?_
  cases h
  exact Wp.ret en0
  refine cT ?_
  refine rs0 ?_
  iterate 5 refine vp ?_
  refine vn ?_
  cases h
  exact Wp.ret en0
  refine cT ?_
  refine rs0 ?_
  iterate 5 refine vp ?_
  refine vn ?_
  cases h
  exact Wp.ret en0
  refine cT ?_
  refine rs0 ?_
  iterate 5 refine vp ?_
  refine vn ?_
  cases h
  exact Wp.ret en0

theorem con_tree_Check {n : Nat} {t0 : TreeTree} {many1 : Int} {r : Int} (h : tree_Check n t0 many1 = some r) : Con Try.prog G0 18 [.agg [.int .i64 t0.Kind, .int .i64 t0.N, aL cTreeTree t0.Kids], .int .i64 many1] (.int .i64 r) [] := by
  refine con_of (T := TT0) tt_ok Try.func18 (c := _) (by unfold Try.f18; rfl) Try.ntmps18 (rs := [.tmp 4]) (by rw [Try.results18]) (by unfold Try.f18; rfl) (by simp) ?_
  simp only [argsCh]
  have F := True.intro
  dsimp only [tree_Check] at h
  refine rs0 ?_
  iterate 2 refine vp ?_
  refine vn ?_
  refine rs0 ?_
  iterate 2 refine vp ?_
  refine vn ?_
  refine rs0 ?_
  iterate 3 refine vp ?_
  obtain ⟨⟨r5565, q5566⟩, hr5564, h⟩ := obind h
  dsimp only at h
  refine vh [1] (con_tree_Tree_check _ hr5564) ?_
  refine vp ?_
  refine vn ?_
  refine Wp.seq ?_
  refine rs0 ?_
  iterate 3 refine vp ?_
  refine sB h F (fun F h => ?_) fun F h => ?_
  refine vs ?_
  refine vs ?_
  refine vs ?_
  refine vs ?_
  refine vs ?_
  refine vp ?_
  refine vn ?_
  refine cF ?_
  refine Wp.skip ?_
  refine sh ?_
  refine rs0 ?_
  iterate 2 refine vp ?_
  refine vn ?_
  cases h
  exact Wp.ret en0
  refine vg ?_
  refine vg ?_
  refine vg ?_
  refine vg ?_
  refine vg ?_
  refine vp ?_
  refine vn ?_
  refine sB h F (fun F h => ?_) fun F h => ?_
  refine cF ?_
  refine Wp.skip ?_
  refine sh ?_
  refine rs0 ?_
  iterate 2 refine vp ?_
  refine vn ?_
  cases h
  exact Wp.ret en0
  refine cT ?_
  refine rg0 ?_
  refine vp ?_
  refine vn ?_
  refine sh ?_
  refine rs0 ?_
  iterate 2 refine vp ?_
  refine vn ?_
  cases h
  exact Wp.ret en0

end Go.Proofs.Ytcpbhkplgnhmkaa
