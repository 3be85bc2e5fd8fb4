/- Contracts: models of functions are right. No law is proved here. -/
import Derived.Test.YtaebdeidbibfkaaDoorJGMod
import Derived.Test.YtaebdeidbibfkaaDoorJTaj
import Derived.Test.YtaebdeidbibfkaaDoorJSo
import Derived.Test.YtaebdeidbibfkaaDoorJGC1
import Derived.Test.YtaebdeidbibfkaaDoorJGC2
import Derived.Test.YtaebdeidbibfkaaDoorJGC3
namespace Go.Proofs.YtaebdeidbibfkaaDoor
open Go.Av Go.G
attribute [-simp] Int.natCast_tdiv_eq_ediv
attribute [local simp] runf guardA opf St.ev Go.Av.look St.setd constAV constAV0 opBin opLen intBin St.need lookT TT0 tab resA resOne resAll blt_dec ble_dec beq_dec isPure
attribute [local simp] opMakeSlice opCopy opIndexAddr opLoad opStore St.mem St.rows opUn calleeA toArgs toArg toArg0 toArgs0 shift shift0 shift1 splice cellsOf isFree ofCells TS.isAgg isCell strBin opConvert
attribute [local simp] opSlice3 opClear fz_clear opBuildSlice fillA opAppend eqC eqA cksB ckB St.newBox runI valKind withinB readsHp refsD refs noSl opFieldAddr opBuild opMax opMin placeOf Op.operands Call.operands opIndex opExtract opSlice opField partA
attribute [local simp] loA hiA lenA opMakeMap opLookup opMapUpdate keyOk findA_int findA_str findA_bool putA_strB putA_strI putA_strS putA_intB putA_intI putA_intS putA_boolI putA_boolB byteRow_rwN bytesOf_rwN opBytesStr mAV_length mAV_nil cA1 cA2 cA3 cA4 opNilCheck opMakeFunc opRange
attribute [local simp] aL cI cB cS cL rw_map fz_rw fz_const dropRow_rw fz_append fz_set fz_copy fz_rows rowLen_rw rowsLen_nil rowsLen_cons rowsLen_append rowsLen_map rowsLen_dm rowsLen_tm rowsLen_take rowsLen_drop rowsLen_replicate take_map_len take_map_le drop_map_len take_drop_len chunks isScalar isScalar0
attribute [local simp] putBack putAt objMap mapC mapA mapT map0 bid rid memB passed closedB argsH argH argH0 argsH0 objIds ids0 idsC isLocT isLocA isLocC isLoc0 LocObj
attribute [local congr] bind_congr1 map_congr1 cond_congr1
attribute [local simp] cApiAddr cApiContact cApiCoil cApiRung cApiIns cApiLadder cApiSize cApiProgram cReducePair cReduceEdge cTreeTree_eq TreeTree_Kind_mk TreeTree_N_mk TreeTree_Kids_mk eta_TreeTree
variable [Drawn]
set_option maxHeartbeats 4000000
set_option linter.unusedSectionVars false
set_option maxRecDepth 20000
set_option linter.unusedSimpArgs false
set_option linter.unusedVariables false
theorem con_lex_IsName {n : Nat} {word0 : Str} {r : Bool} (h : lex_IsName n word0 = some r) : Con Tryd.prog G0 116 [.str word0] (.bool r) [] := by
  refine con_of (T := TT0) tt_ok Tryd.func116 (c := _) (by unfold Tryd.f116; rfl) Tryd.ntmps116 (rs := [.tmp 2]) (by rw [Tryd.results116]) (by unfold Tryd.f116; rfl) (by simp) ?_
  simp only [argsCh]
  have F := True.intro
  dsimp only [lex_IsName] at h
  refine rs0 ?_
  refine vp ?_
  refine vn ?_
  refine Wp.seq ?_
  refine rs0 ?_
  iterate 3 refine vp ?_
  refine sE h F (fun _ F h => ?_) fun _ F h => ?_
  refine vg ?_
  refine vg ?_
  refine vg ?_
  refine vp ?_
  refine vn ?_
  refine sD h F (fun F h => ?_) fun F h => ?_
  refine cF ?_
  refine Wp.skip ?_
  refine sh ?_
  refine Wp.seq ?_
  refine rs0 ?_
  iterate 2 refine vp ?_
  refine vn ?_
  refine Wp.block ?_
  refine lp [some 0] (fun p10739 : Nat => { ch := [(13, .hptr 0 0 0)], hp := [.siter word0 p10739], base := 0, n := 37, cond := True, gl := G0 }) (fun m x => lex_IsName_L1 n word0 m x = some r) n 0 h ?_
  rintro rec_n1 p10739 h
  dsimp only [lex_IsName_L1] at h
  try dsimp only
  refine rs0 ?_
  refine sD h F (fun F h => ?_) fun F h => ?_
  refine v0 ?_
  refine vp ?_
  refine vn ?_
  refine Wp.seq ?_
  refine cF ?_
  refine Wp.exit ?_
  refine sh ?_
  refine rs0 ?_
  refine vp ?_
  refine vn ?_
  cases h
  exact Wp.ret en0
  refine v1 ?_
  refine vp ?_
  refine vn ?_
  refine Wp.seq ?_
  refine cT ?_
  refine Wp.skip ?_
  refine sh ?_
  refine Wp.block ?_
  refine rs0 ?_
  iterate 4 refine vp ?_
  refine vn ?_
  refine rs0 ?_
  refine vp ?_
  obtain ⟨r10743, hr10742, h⟩ := obind h
  refine vc (con_lex_letter hr10742) ?_
  iterate 2 refine vp ?_
  refine sB h F (fun F h => ?_) fun F h => ?_
  refine vs ?_
  refine vs ?_
  refine vs ?_
  refine vs ?_
  refine vs ?_
  refine vs ?_
  refine vs ?_
  refine vs ?_
  refine vs ?_
  refine vs ?_
  refine vs ?_
  refine vs ?_
  refine vs ?_
  refine vs ?_
  refine vp ?_
  refine vn ?_
  refine cF ?_
  refine Wp.skip ?_
  exact nx [some 0] (p10739 + (Utf8.decode word0 p10739).2) h
  refine vg ?_
  refine vg ?_
  refine vg ?_
  refine sB h F (fun F h => ?_) fun F h => ?_
  refine vg ?_
  refine vg ?_
  refine vg ?_
  refine sB h F (fun F h => ?_) fun F h => ?_
  refine vs ?_
  refine vs ?_
  refine vs ?_
  refine vs ?_
  refine vs ?_
  refine vs ?_
  refine vg ?_
  refine vg ?_
  refine vp ?_
  refine vn ?_
  refine cF ?_
  refine Wp.skip ?_
  exact nx [some 0] (p10739 + (Utf8.decode word0 p10739).2) h
  refine vg ?_
  refine vg ?_
  refine vg ?_
  refine sD h F (fun F h => ?_) fun F h => ?_
  refine vg ?_
  refine vg ?_
  refine vg ?_
  refine vg ?_
  refine vg ?_
  refine vp ?_
  refine vn ?_
  refine sD h F (fun F h => ?_) fun F h => ?_
  refine cF ?_
  refine Wp.skip ?_
  exact nx [some 0] (p10739 + (Utf8.decode word0 p10739).2) h
  refine cT ?_
  refine rs0 ?_
  refine vp ?_
  refine vn ?_
  cases h
  exact Wp.ret en0
  refine vs ?_
  refine vs ?_
  refine vg ?_
  refine vg ?_
  refine vg ?_
  refine vp ?_
  refine vn ?_
  refine cT ?_
  refine rs0 ?_
  refine vp ?_
  refine vn ?_
  cases h
  exact Wp.ret en0
  refine vs ?_
  refine vs ?_
  refine vs ?_
  refine vs ?_
  refine vs ?_
  refine vs ?_
  refine vs ?_
  refine vs ?_
  refine vs ?_
  refine vs ?_
  refine vg ?_
  refine vp ?_
  refine vn ?_
  refine cT ?_
  refine rs0 ?_
  refine vp ?_
  refine vn ?_
  cases h
  exact Wp.ret en0
  refine cT ?_
  refine rs0 ?_
  refine vp ?_
  refine vn ?_
  cases h
  exact Wp.ret en0
  refine vs ?_
  refine vs ?_
  refine vs ?_
  refine vp ?_
  refine vn ?_
  refine cT ?_
  refine rs0 ?_
  refine vp ?_
  refine vn ?_
  cases h
  exact Wp.ret en0
theorem con_law17_TooLarge {n : Nat} {l0 : ApiLadder} {r : Int} (h : law17_TooLarge n l0 = some r) : Con Tryd.prog G0 21 [.agg (cApiLadder l0)] (.int .i64 r) [] := by
  refine con_of (T := TT0) tt_ok Tryd.func21 (c := _) (by unfold Tryd.f21; rfl) Tryd.ntmps21 (rs := [.tmp 2]) (by rw [Tryd.results21]) (by unfold Tryd.f21; rfl) (by simp) ?_
  simp only [argsCh]
  have F := True.intro
  dsimp only [law17_TooLarge] at h
  refine rs0 ?_
  iterate 2 refine vp ?_
  refine vn ?_
  refine rs0 ?_
  refine vp ?_
  refine vn ?_
  refine jn (fun p6 : Int => { ch := [(1, .hptr 0 0 0), (3, .int .i64 p6)], hp := [.var [.int .i64 l0.I, .int .i64 l0.Q, .int .i64 l0.M, aL cApiRung l0.Rungs]], base := 0, n := 27, cond := True, gl := G0 }) (fun x => law17_TooLarge_J1 n l0 x = some r) ?_ ?_
  clear h
  rintro p6 h
  dsimp only [law17_TooLarge_J1] at h
  try dsimp only
  refine Wp.seq ?_
  refine rs0 ?_
  iterate 2 refine vp ?_
  refine vn ?_
  refine sD h F (fun F h => ?_) fun F h => ?_
  refine cF ?_
  refine Wp.skip ?_
  refine sh ?_
  refine rs0 ?_
  refine vp ?_
  obtain ⟨r49, hr48, h⟩ := obind h
  refine vc (con_law11_TooLarge hr48) ?_
  refine vp ?_
  refine vn ?_
  cases h
  exact Wp.ret en0
  refine cT ?_
  refine rs0 ?_
  refine vp ?_
  refine vn ?_
  cases h
  exact Wp.ret en0
  refine rs0 ?_
  iterate 4 refine vp ?_
  refine vn ?_
  refine Wp.block ?_
  refine lp [some 0] (fun x : Int × Int => { ch := [(1, .hptr 0 0 0), (3, .int .i64 x.1), (7, aL cApiRung l0.Rungs), (8, .int .i64 (l0.Rungs.length : Int)), (9, .int .i64 x.2)], hp := [.var [.int .i64 l0.I, .int .i64 l0.Q, .int .i64 l0.M, aL cApiRung l0.Rungs]], base := 0, n := 27, cond := True, gl := G0 }) (fun m x => law17_TooLarge_L2 n l0 m x.1 x.2 = some r) n (0, 0) h ?_
  rintro rec_n2 ⟨p51, p52⟩ h
  dsimp only [law17_TooLarge_L2] at h
  try dsimp only
  refine rs0 ?_
  refine vp ?_
  refine vn ?_
  refine Wp.seq ?_
  refine sD h F (fun F h => ?_) fun F h => ?_
  refine cF ?_
  refine Wp.exit ?_
  exact nx [some 0] p51 h
  refine cT ?_
  refine Wp.skip ?_
  refine sh ?_
  refine Wp.seq ?_
  refine Wp.block ?_
  refine rs0 ?_
  refine eI h F fun x54 F h => ?_
  iterate 4 refine vp ?_
  refine vn ?_
  refine rs0 ?_
  iterate 6 refine vp ?_
  refine vn ?_
  refine rs0 ?_
  iterate 4 refine vp ?_
  refine vn ?_
  refine sD h F (fun F h => ?_) fun F h => ?_
  refine cF ?_
  refine Wp.skip ?_
  refine sh ?_
  refine rg0 ?_
  iterate 2 refine vp ?_
  refine vn ?_
  exact nx [some 0] ((IntKind.i64.wrap (p51 + (x54.Contacts.length : Int))), (IntKind.i64.wrap (p52 + 1))) h
  refine cT ?_
  refine rs0 ?_
  refine vp ?_
  refine vn ?_
  cases h
  exact Wp.ret en0
theorem con_slices_IndexFunc_reduce_edge_c50_v1 {n : Nat} {s0 : Nat} {l0 : List ReduceEdge} {b1 : ReduceEdge} {r : Int} (h : slices_IndexFunc_reduce_edge_c50_v1 n s0 l0 b1 = some r) : ConH Tryd.prog G0 49 [.sl 0 s0 (l0.length - s0), .clos 50 [] [.hptr 1 0 0]] [.arr 5 l0.length (rw (l0.map cReduceEdge)), .var [.str b1.pair.from_, .str b1.pair.to_, .int .i64 b1.t_.Kind, .int .i64 b1.t_.N, aL cTreeTree b1.t_.Kids]] (.int .i64 r) [.arr 5 l0.length (rw (l0.map cReduceEdge)), .var [.str b1.pair.from_, .str b1.pair.to_, .int .i64 b1.t_.Kind, .int .i64 b1.t_.N, aL cTreeTree b1.t_.Kids]] := by
  refine conH_of (T := TT0) tt_ok Tryd.func49 (c := _) (by unfold Tryd.f49; rfl) Tryd.ntmps49 (rs := [.tmp 4]) (by rw [Tryd.results49]) (by unfold Tryd.f49; rfl) (by simp) (k := 2) rfl rfl ?_
  try simp only [argsCh]
  have F := True.intro
  dsimp only [slices_IndexFunc_reduce_edge_c50_v1] at h
  refine rs0 ?_
  refine vp ?_
  refine vn ?_
  refine Wp.seq ?_
  refine rs0 ?_
  iterate 3 refine vp ?_
  refine vn ?_
  refine Wp.block ?_
  refine lp [some 0, some 1] (fun p14781 : Int => { ch := [(0, .sl 0 s0 (l0.length - s0)), (1, .clos 50 [] [.hptr 1 0 0]), (7, .int .i64 (((l0.length - s0) : Nat) : Int)), (8, .int .i64 p14781)], hp := [.arr 5 l0.length (rw (l0.map cReduceEdge)), .var [.str b1.pair.from_, .str b1.pair.to_, .int .i64 b1.t_.Kind, .int .i64 b1.t_.N, aL cTreeTree b1.t_.Kids]], base := 2, n := 19, cond := True, gl := G0 }) (fun m x => slices_IndexFunc_reduce_edge_c50_v1_L1 n s0 l0 b1 m x = some r) n 0 h ?_
  rintro rec_n1 p14781 h
  dsimp only [slices_IndexFunc_reduce_edge_c50_v1_L1] at h
  try dsimp only
  refine rs0 ?_
  refine vp ?_
  refine vn ?_
  refine Wp.seq ?_
  refine sD h F (fun F h => ?_) fun F h => ?_
  refine cF ?_
  refine Wp.exit ?_
  refine sh ?_
  refine rs0 ?_
  refine vp ?_
  refine vn ?_
  cases h
  exact Wp.ret (enH [some 0, some 1])
  refine cT ?_
  refine Wp.skip ?_
  refine sh ?_
  refine Wp.seq ?_
  refine Wp.block ?_
  refine rs0 ?_
  iterate 2 refine vp ?_
  refine vn ?_
  refine rs0 ?_
  iterate 3 refine vp ?_
  refine eI h F fun x14785 F h => ?_
  simp only [List.getElem?_drop, Nat.add_zero] at F
  iterate 2 refine vp ?_
  obtain ⟨r14787, hr14786, h⟩ := obind h
  refine vh [1] (con_reduce_parallel_1 hr14786) ?_
  refine vn ?_
  refine sB h F (fun F h => ?_) fun F h => ?_
  refine cF ?_
  refine Wp.skip ?_
  refine sh ?_
  refine rg0 ?_
  iterate 2 refine vp ?_
  refine vn ?_
  exact nx [some 0, some 1] (IntKind.i64.wrap (p14781 + 1)) h
  refine cT ?_
  refine rs0 ?_
  iterate 2 refine vp ?_
  refine vn ?_
  cases h
  exact Wp.ret (enH [some 0, some 1])
theorem con_graph_numbers_c129 {n : Nat} {r_0 : ApiRung} {b0 : Str} {r : (List Int)} (h : graph_numbers_c129 n r_0 b0 = some r) : ConH Tryd.prog G0 98 [.agg (cApiRung r_0), .clos 129 [] [.hptr 0 0 0]] [.var [.str b0]] (aL (cI .i64) r) [.var [.str b0]] := by
  refine conH_of (T := TT0) tt_ok Tryd.func98 (c := _) (by unfold Tryd.f98; rfl) Tryd.ntmps98 (rs := [.tmp 4]) (by rw [Tryd.results98]) (by unfold Tryd.f98; rfl) (by simp) (k := 1) rfl rfl ?_
  try simp only [argsCh]
  have F := True.intro
  dsimp only [graph_numbers_c129] at h
  refine rs0 ?_
  iterate 2 refine vp ?_
  refine vn ?_
  refine rs0 ?_
  refine vp ?_
  refine vn ?_
  refine Wp.seq ?_
  refine rs0 ?_
  iterate 4 refine vp ?_
  refine vn ?_
  refine Wp.block ?_
  refine lp [some 0, none] (fun x : Int × (List Int) => { ch := [(1, .clos 129 [] [.hptr 0 0 0]), (5, .sl 1 0 x.2.length), (9, aL cApiContact r_0.Contacts), (10, .int .i64 (r_0.Contacts.length : Int)), (11, .int .i64 x.1)], hp := [.var [.str b0], .arr 1 x.2.length (rw (x.2.map (cI .i64)))], base := 1, n := 25, cond := True, gl := G0 }) (fun m x => graph_numbers_c129_L1 n r_0 b0 m x.1 x.2 = some r) n (0, []) h ?_
  rintro rec_n1 ⟨p14273, p14274⟩ h
  dsimp only [graph_numbers_c129_L1] at h
  try dsimp only
  refine rs0 ?_
  refine vp ?_
  refine vn ?_
  refine Wp.seq ?_
  refine sD h F (fun F h => ?_) fun F h => ?_
  refine cF ?_
  refine Wp.exit ?_
  refine sh ?_
  refine rs0 ?_
  iterate 2 refine vp ?_
  refine vn ?_
  cases h
  exact Wp.ret (enH [some 0])
  refine cT ?_
  refine Wp.skip ?_
  refine sh ?_
  refine Wp.seq ?_
  refine Wp.block ?_
  refine rs0 ?_
  refine vp ?_
  refine eI h F fun x14279 F h => ?_
  iterate 5 refine vp ?_
  refine vn ?_
  refine rs0 ?_
  iterate 2 refine vp ?_
  obtain ⟨r14281, hr14280, h⟩ := obind h
  refine vh [0] (con_graph_Outgoing_1 hr14280) ?_
  refine vn ?_
  refine sB h F (fun F h => ?_) fun F h => ?_
  refine cF ?_
  refine Wp.skip ?_
  refine sh ?_
  refine rg0 ?_
  iterate 2 refine vp ?_
  refine vn ?_
  exact nx [some 0, some 1] ((IntKind.i64.wrap (p14273 + 1)), p14274) h
  refine cT ?_
  refine rg (fun d => Nat.beq d 22) ?_
  iterate 3 refine vp ?_
  refine gd h F fun F h => ?_
  refine vp ?_
  refine nm (cI .i64) h F fun l14282 F h => ?_
  refine vp ?_
  refine vn ?_
  refine sh ?_
  refine rg0 ?_
  iterate 2 refine vp ?_
  refine vn ?_
  exact nx [some 0, some 3] ((IntKind.i64.wrap (p14273 + 1)), l14282) h
theorem con_slices_IndexFunc_string_c128_v1 {n : Nat} {l0 : List Str} {m2 : List (Str × Bool)} {r : Int} (h : slices_IndexFunc_string_c128_v1 n l0 m2 = some r) : ConH Tryd.prog G0 71 [.sl 0 0 l0.length, .clos 128 [] [.hptr 1 0 0]] [.arr 1 l0.length (rw (l0.map cS)), .var [.mp 2], .map (mAV AV.str cB m2)] (.int .i64 r) [.arr 1 l0.length (rw (l0.map cS)), .var [.mp 2], .map (mAV AV.str cB m2)] := by
  refine conH_of (T := TT0) tt_ok Tryd.func71 (c := _) (by unfold Tryd.f71; rfl) Tryd.ntmps71 (rs := [.tmp 4]) (by rw [Tryd.results71]) (by unfold Tryd.f71; rfl) (by simp) (k := 3) rfl rfl ?_
  try simp only [argsCh]
  have F := True.intro
  dsimp only [slices_IndexFunc_string_c128_v1] at h
  refine rs0 ?_
  refine vp ?_
  refine vn ?_
  refine Wp.seq ?_
  refine rs0 ?_
  iterate 3 refine vp ?_
  refine vn ?_
  refine Wp.block ?_
  refine lp [some 0, some 1, some 2] (fun p14380 : Int => { ch := [(0, .sl 0 0 l0.length), (1, .clos 128 [] [.hptr 1 0 0]), (7, .int .i64 (l0.length : Int)), (8, .int .i64 p14380)], hp := [.arr 1 l0.length (rw (l0.map cS)), .var [.mp 2], .map (mAV AV.str cB m2)], base := 3, n := 19, cond := True, gl := G0 }) (fun m x => slices_IndexFunc_string_c128_v1_L1 n l0 m2 m x = some r) n 0 h ?_
  rintro rec_n1 p14380 h
  dsimp only [slices_IndexFunc_string_c128_v1_L1] at h
  try dsimp only
  refine rs0 ?_
  refine vp ?_
  refine vn ?_
  refine Wp.seq ?_
  refine sD h F (fun F h => ?_) fun F h => ?_
  refine cF ?_
  refine Wp.exit ?_
  refine sh ?_
  refine rs0 ?_
  refine vp ?_
  refine vn ?_
  cases h
  exact Wp.ret (enH [some 0, some 1, some 2])
  refine cT ?_
  refine Wp.skip ?_
  refine sh ?_
  refine Wp.seq ?_
  refine Wp.block ?_
  refine rs0 ?_
  iterate 2 refine vp ?_
  refine vn ?_
  refine rs0 ?_
  iterate 3 refine vp ?_
  refine eI h F fun x14384 F h => ?_
  iterate 2 refine vp ?_
  obtain ⟨r14386, hr14385, h⟩ := obind h
  refine vh [1, 2] (con_graph_gather_2 hr14385) ?_
  refine vn ?_
  refine sB h F (fun F h => ?_) fun F h => ?_
  refine cF ?_
  refine Wp.skip ?_
  refine sh ?_
  refine rg0 ?_
  iterate 2 refine vp ?_
  refine vn ?_
  exact nx [some 0, some 1, some 2] (IntKind.i64.wrap (p14380 + 1)) h
  refine cT ?_
  refine rs0 ?_
  iterate 2 refine vp ?_
  refine vn ?_
  cases h
  exact Wp.ret (enH [some 0, some 1, some 2])
theorem con_slices_IndexFunc_tree_Tree_c66 {n : Nat} {s0 : List TreeTree} {b0 : TreeTree} {r : Int} (h : slices_IndexFunc_tree_Tree_c66 n s0 b0 = some r) : ConH Tryd.prog G0 94 [aL cTreeTree s0, .clos 66 [] [.hptr 0 0 0]] [.var [.int .i64 b0.Kind, .int .i64 b0.N, aL cTreeTree b0.Kids]] (.int .i64 r) [.var [.int .i64 b0.Kind, .int .i64 b0.N, aL cTreeTree b0.Kids]] := by
  refine conH_of (T := TT0) tt_ok Tryd.func94 (c := _) (by unfold Tryd.f94; rfl) Tryd.ntmps94 (rs := [.tmp 4]) (by rw [Tryd.results94]) (by unfold Tryd.f94; rfl) (by simp) (k := 1) rfl rfl ?_
  try simp only [argsCh]
  have F := True.intro
  dsimp only [slices_IndexFunc_tree_Tree_c66] at h
  refine rs0 ?_
  refine vp ?_
  refine vn ?_
  refine Wp.seq ?_
  refine rs0 ?_
  iterate 3 refine vp ?_
  refine vn ?_
  refine Wp.block ?_
  refine lp [some 0] (fun p15241 : Int => { ch := [(0, aL cTreeTree s0), (1, .clos 66 [] [.hptr 0 0 0]), (7, .int .i64 (s0.length : Int)), (8, .int .i64 p15241)], hp := [.var [.int .i64 b0.Kind, .int .i64 b0.N, aL cTreeTree b0.Kids]], base := 1, n := 19, cond := True, gl := G0 }) (fun m x => slices_IndexFunc_tree_Tree_c66_L1 n s0 b0 m x = some r) n 0 h ?_
  rintro rec_n1 p15241 h
  dsimp only [slices_IndexFunc_tree_Tree_c66_L1] at h
  try dsimp only
  refine rs0 ?_
  refine vp ?_
  refine vn ?_
  refine Wp.seq ?_
  refine sD h F (fun F h => ?_) fun F h => ?_
  refine cF ?_
  refine Wp.exit ?_
  refine sh ?_
  refine rs0 ?_
  refine vp ?_
  refine vn ?_
  cases h
  exact Wp.ret (enH [some 0])
  refine cT ?_
  refine Wp.skip ?_
  refine sh ?_
  refine Wp.seq ?_
  refine Wp.block ?_
  refine rs0 ?_
  iterate 2 refine vp ?_
  refine vn ?_
  refine rs0 ?_
  iterate 3 refine vp ?_
  refine eI h F fun x15245 F h => ?_
  iterate 2 refine vp ?_
  obtain ⟨r15247, hr15246, h⟩ := obind h
  refine vh [0] (con_tree_Tree_check_1 hr15246) ?_
  refine vn ?_
  refine sB h F (fun F h => ?_) fun F h => ?_
  refine cF ?_
  refine Wp.skip ?_
  refine sh ?_
  refine rg0 ?_
  iterate 2 refine vp ?_
  refine vn ?_
  exact nx [some 0] (IntKind.i64.wrap (p15241 + 1)) h
  refine cT ?_
  refine rs0 ?_
  iterate 2 refine vp ?_
  refine vn ?_
  cases h
  exact Wp.ret (enH [some 0])
theorem con_slices_IndexFunc_api_Contact_c36 {n : Nat} {s0 : List ApiContact} {r : Int} (h : slices_IndexFunc_api_Contact_c36 n s0 = some r) : Con Tryd.prog G0 58 [aL cApiContact s0, .clos 36 [] []] (.int .i64 r) [] := by
  refine con_of (T := TT0) tt_ok Tryd.func58 (c := _) (by unfold Tryd.f58; rfl) Tryd.ntmps58 (rs := [.tmp 4]) (by rw [Tryd.results58]) (by unfold Tryd.f58; rfl) (by simp) ?_
  simp only [argsCh]
  have F := True.intro
  dsimp only [slices_IndexFunc_api_Contact_c36] at h
  refine rs0 ?_
  refine vp ?_
  refine vn ?_
  refine Wp.seq ?_
  refine rs0 ?_
  iterate 3 refine vp ?_
  refine vn ?_
  refine Wp.block ?_
  refine lp [] (fun p15351 : Int => { ch := [(0, aL cApiContact s0), (1, .clos 36 [] []), (7, .int .i64 (s0.length : Int)), (8, .int .i64 p15351)], hp := [], base := 0, n := 19, cond := True, gl := G0 }) (fun m x => slices_IndexFunc_api_Contact_c36_L1 n s0 m x = some r) n 0 h ?_
  rintro rec_n1 p15351 h
  dsimp only [slices_IndexFunc_api_Contact_c36_L1] at h
  try dsimp only
  refine rs0 ?_
  refine vp ?_
  refine vn ?_
  refine Wp.seq ?_
  refine sD h F (fun F h => ?_) fun F h => ?_
  refine cF ?_
  refine Wp.exit ?_
  refine sh ?_
  refine rs0 ?_
  refine vp ?_
  refine vn ?_
  cases h
  exact Wp.ret en0
  refine cT ?_
  refine Wp.skip ?_
  refine sh ?_
  refine Wp.seq ?_
  refine Wp.block ?_
  refine rs0 ?_
  iterate 2 refine vp ?_
  refine vn ?_
  refine rs0 ?_
  iterate 3 refine vp ?_
  refine eI h F fun x15355 F h => ?_
  iterate 2 refine vp ?_
  obtain ⟨r15357, hr15356, h⟩ := obind h
  refine vc (con_codegen_Tree_1 hr15356) ?_
  refine vn ?_
  refine sB h F (fun F h => ?_) fun F h => ?_
  refine cF ?_
  refine Wp.skip ?_
  refine sh ?_
  refine rg0 ?_
  iterate 2 refine vp ?_
  refine vn ?_
  exact nx [] (IntKind.i64.wrap (p15351 + 1)) h
  refine cT ?_
  refine rs0 ?_
  iterate 2 refine vp ?_
  refine vn ?_
  cases h
  exact Wp.ret en0
end Go.Proofs.YtaebdeidbibfkaaDoor
