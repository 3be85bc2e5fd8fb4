/- Contracts: models of functions are right. No law is proved here. -/
import Derived.Test.YtaebdeidbibfkaaGreatDoorZGMod
import Derived.Test.YtaebdeidbibfkaaGreatDoorZTaz
import Derived.Test.YtaebdeidbibfkaaGreatDoorZSoz
import Derived.Test.YtaebdeidbibfkaaGreatDoorZShz
import Derived.Test.YtaebdeidbibfkaaGreatDoorZGC4
import Derived.Test.YtaebdeidbibfkaaGreatDoorZGC6
import Derived.Test.YtaebdeidbibfkaaGreatDoorZGC7
import Derived.Test.YtaebdeidbibfkaaGreatDoorZGC8
namespace Go.Proofs.YtaebdeidbibfkaaGreatDoor
open Go.Av Go.G
attribute [-simp] Int.natCast_tdiv_eq_ediv
attribute [local simp] runf guardA opf St.ev Go.Av.look St.setd constAV constAV0 opBin opLen intBin St.need lookT TT0 tab resA resOne resAll blt_dec ble_dec beq_dec isPure
attribute [local simp] opMakeSlice opCopy opIndexAddr opLoad opStore St.mem St.rows opUn calleeA toArgs toArg toArg0 toArgs0 shift shift0 shift1 splice cellsOf isFree ofCells TS.isAgg isCell strBin opConvert
attribute [local simp] opSlice3 opClear fz_clear opBuildSlice fillA opAppend eqC eqA cksB ckB St.newBox runI valKind withinB readsHp refsD refs noSl opFieldAddr opBuild opMax opMin placeOf Op.operands Call.operands opIndex opExtract opSlice opField partA
attribute [local simp] loA hiA lenA opMakeMap opLookup opMapUpdate keyOk findA_int findA_str findA_bool putA_strB putA_strI putA_strS putA_intB putA_intI putA_intS putA_boolI putA_boolB byteRow_rwN bytesOf_rwN opBytesStr mAV_length mAV_nil cA1 cA2 cA3 cA4 opNilCheck opMakeFunc opRange
attribute [local simp] aL cI cB cS cL rw_map fz_rw fz_const dropRow_rw fz_append fz_set fz_copy fz_rows rowLen_rw rowsLen_nil rowsLen_cons rowsLen_append rowsLen_map rowsLen_dm rowsLen_tm rowsLen_take rowsLen_drop rowsLen_replicate take_map_len take_map_le drop_map_len take_drop_len chunks isScalar isScalar0
attribute [local simp] putBack putAt objMap mapC mapA mapT map0 bid rid memB passed closedB argsH argH argH0 argsH0 objIds ids0 idsC isLocT isLocA isLocC isLoc0 LocObj
attribute [local congr] bind_congr1 map_congr1 cond_congr1
attribute [local simp] cApiAddr cApiContact cApiCoil cApiRung cReducePair cReduceEdge cTreeTree_eq TreeTree_Kind_mk TreeTree_N_mk TreeTree_Kids_mk eta_TreeTree cRef14Tree_eq Ref14Tree_Kind_mk Ref14Tree_N_mk Ref14Tree_Kids_mk eta_Ref14Tree
variable [Drawn]
set_option maxHeartbeats 4000000
set_option linter.unusedSectionVars false
set_option maxRecDepth 20000
set_option linter.unusedSimpArgs false
set_option linter.unusedVariables false

theorem con_ref15_join {n : Nat} {_append0 : Int} {a1 : Ref14Tree} {a2 : Ref14Tree} {r : Ref14Tree} (h : ref15_join n _append0 a1 a2 = some r) : Con Tryz.prog G0 60 [.int .i64 _append0, .agg [.int .i64 a1.Kind, .int .i64 a1.N, aL cRef14Tree a1.Kids], .agg [.int .i64 a2.Kind, .int .i64 a2.N, aL cRef14Tree a2.Kids]] (.agg [.int .i64 r.Kind, .int .i64 r.N, aL cRef14Tree r.Kids]) [] := by
  refine con_of (T := TT0) tt_ok Tryz.func60 (c := _) (by unfold Tryz.f60; rfl) Tryz.ntmps60 (rs := [.cell 6 36]) (by rw [Tryz.results60]) (by unfold Tryz.f60; rfl) (by simp) ?_
  simp only [argsCh]
  have F := True.intro
  dsimp only [ref15_join] at h
  refine rs0 ?_
  iterate 3 refine vp ?_
  refine vn ?_
  refine rs0 ?_
  refine vp ?_
  refine vn ?_
  refine rs0 ?_
  iterate 3 refine vp ?_
  refine nl cRef14Tree h F fun l5151 m F h => ?_
  try simp only [m]
  clear m
  refine vp ?_
  refine vn ?_
  refine jn (fun p5162 : List Ref14Tree => { ch := [(0, .int .i64 _append0), (6, .hptr 0 0 0), (7, .sl 1 0 p5162.length)], hp := [.var [.int .i64 0, .int .i64 0, .nilsl], .arr 3 p5162.length (rw (p5162.map cRef14Tree))], base := 0, n := 90, cond := True, gl := G0 }) (fun x => ref15_join_J1 n _append0 x = some r) ?_ ?_
  clear h
  rintro p5162 h
  dsimp only [ref15_join_J1] at h
  try dsimp only
  refine Wp.seq ?_
  refine rs0 ?_
  iterate 2 refine vp ?_
  refine vn ?_
  refine sB h F (fun F h => ?_) fun F h => ?_
  refine cF ?_
  refine Wp.skip ?_
  refine sh ?_
  refine rs0 ?_
  refine vp ?_
  refine vn ?_
  refine Wp.seq ?_
  refine rs0 ?_
  refine vp ?_
  refine vn ?_
  refine Wp.block ?_
  refine lp [some 0, some 1, none] (fun x : (List Ref14Tree) × Int => { ch := [(6, .hptr 0 0 0), (7, .sl 1 0 p5162.length), (10, .sl 2 0 x.1.length), (11, .int .i64 x.2)], hp := [.var [.int .i64 0, .int .i64 0, .nilsl], .arr 3 p5162.length (rw (p5162.map cRef14Tree)), .arr 3 x.1.length (rw (x.1.map cRef14Tree))], base := 0, n := 90, cond := True, gl := G0 }) (fun m x => ref15_join_L2 n p5162 m x.1 x.2 = some r) n ([], 0) h ?_
  rintro rec_n2 ⟨p5167, p5168⟩ h
  dsimp only [ref15_join_L2] at h
  try dsimp only
  refine Wp.seq ?_
  refine rs0 ?_
  iterate 4 refine vp ?_
  refine vn ?_
  refine sD h F (fun F h => ?_) fun F h => ?_
  refine cF ?_
  refine Wp.exit ?_
  refine sh ?_
  refine rs0 ?_
  iterate 3 refine vp ?_
  refine vn ?_
  cases h
  exact Wp.ret en0
  refine cT ?_
  refine Wp.skip ?_
  refine sh ?_
  refine Wp.seq ?_
  refine Wp.block ?_
  refine rs0 ?_
  refine vp ?_
  refine vn ?_
  refine jn (fun p5257 : Int => { ch := [(6, .hptr 1 0 0), (7, .sl 2 0 p5162.length), (10, .sl 0 0 p5167.length), (11, .int .i64 p5168), (12, .int .i64 p5257)], hp := [.arr 3 p5167.length (rw (p5167.map cRef14Tree)), .var [.int .i64 0, .int .i64 0, .nilsl], .arr 3 p5162.length (rw (p5162.map cRef14Tree))], base := 0, n := 90, cond := True, gl := G0 }) (fun x => ref15_join_J3 p5162 p5167 p5168 (ref15_join_L2 n p5162 rec_n2) x = some r) ?_ ?_
  clear h
  rintro p5257 h
  dsimp only [ref15_join_J3] at h
  try dsimp only
  refine rs (fun d => Nat.beq d 75) ?_
  iterate 3 refine vp ?_
  refine gd h F fun F h => ?_
  refine vp ?_
  refine gd h F fun F h => ?_
  refine vp ?_
  refine nm cRef14Tree h F fun l5258 F h => ?_
  refine vp ?_
  refine vn ?_
  refine rs0 ?_
  iterate 3 refine vp ?_
  refine eI h F fun x5259 F h => ?_
  iterate 3 refine vp ?_
  refine gd h F fun F h => ?_
  refine vp ?_
  refine nm cRef14Tree h F fun l5260 F h => ?_
  refine vp ?_
  refine vn ?_
  refine rg0 ?_
  iterate 3 refine vp ?_
  refine gd h F fun F h => ?_
  refine vp ?_
  refine gd h F fun F h => ?_
  refine vp ?_
  refine nm cRef14Tree h F fun l5261 F h => ?_
  refine vp ?_
  refine vn ?_
  refine sh ?_
  refine rg0 ?_
  iterate 3 refine vp ?_
  refine vn ?_
  exact nx [some 1, some 2, some 5] (l5261, (IntKind.i64.wrap (p5168 + 1))) h
  refine Wp.block ?_
  refine lp [some 2, some 0, some 1] (fun p5268 : Int => { ch := [(6, .hptr 1 0 0), (7, .sl 2 0 p5162.length), (10, .sl 0 0 p5167.length), (11, .int .i64 p5168), (12, .int .i64 p5268)], hp := [.arr 3 p5167.length (rw (p5167.map cRef14Tree)), .var [.int .i64 0, .int .i64 0, .nilsl], .arr 3 p5162.length (rw (p5162.map cRef14Tree))], base := 0, n := 90, cond := True, gl := G0 }) (fun m x => ref15_join_L4 n p5162 p5167 p5168 (ref15_join_L2 n p5162 rec_n2) m x = some r) n 0 h ?_
  rintro rec_n4 p5268 h
  dsimp only [ref15_join_L4] at h
  try dsimp only
  refine Wp.seq ?_
  refine dw (fun _ => false) [0, 2] ?_
  refine du 5 ?_
  refine sD h F (fun F h => ?_) fun F h => ?_
  refine ds ?_
  refine ds ?_
  refine ds ?_
  refine ds ?_
  refine ds ?_
  refine ds ?_
  refine ds ?_
  refine ds ?_
  refine ds ?_
  refine ds ?_
  refine ds ?_
  refine du 1 ?_
  refine dn ?_
  refine cF ?_
  refine Wp.exit ?_
  exact nx [some 0, some 1, some 2] p5268 h
  refine du 1 ?_
  refine du 1 ?_
  refine eI h F fun x5275 F h => ?_
  refine du 1 ?_
  refine du 1 ?_
  obtain ⟨r5277, hr5276, h⟩ := obind h
  refine dc (con_ref15_least hr5276) ?_ (hg := by (simp [F]; done))
  refine du 1 ?_
  refine du 1 ?_
  refine eI h F fun x5278 F h => ?_
  refine du 1 ?_
  refine du 1 ?_
  obtain ⟨r5280, hr5279, h⟩ := obind h
  refine dc (con_ref15_least hr5279) ?_ (hg := by (simp [F]; done))
  refine du 1 ?_
  refine du 1 ?_
  refine dn ?_
  refine sD h F (fun F h => ?_) fun F h => ?_
  refine cF ?_
  refine Wp.exit ?_
  exact nx [some 0, some 1, some 2] p5268 h
  refine cT ?_
  refine Wp.skip ?_
  refine sh ?_
  refine Wp.block ?_
  refine rg0 ?_
  iterate 3 refine vp ?_
  refine vn ?_
  exact nx [some 0, some 1, some 2] (IntKind.i64.wrap (p5268 + 1)) h
  refine cT ?_
  refine rs0 ?_
  iterate 3 refine vp ?_
  refine vn ?_
  cases h
  exact Wp.ret en0
  refine rs0 ?_
  refine vp ?_
  refine vn ?_
  refine Wp.block ?_
  refine lp [some 2, none] (fun x : (List Ref14Tree) × Int => { ch := [(0, .int .i64 _append0), (6, .hptr 0 0 0), (7, .sl 1 0 x.1.length), (8, aL cRef14Tree l5151), (9, .int .i64 x.2)], hp := [.var [.int .i64 0, .int .i64 0, .nilsl], .arr 3 x.1.length (rw (x.1.map cRef14Tree))], base := 0, n := 90, cond := True, gl := G0 }) (fun m x => ref15_join_L5 n _append0 l5151 m x.1 x.2 = some r) n ([], 0) h ?_
  rintro rec_n5 ⟨p5283, p5284⟩ h
  dsimp only [ref15_join_L5] at h
  try dsimp only
  refine Wp.seq ?_
  refine rs0 ?_
  iterate 2 refine vp ?_
  refine vn ?_
  refine sD h F (fun F h => ?_) fun F h => ?_
  refine cF ?_
  refine Wp.exit ?_
  exact nx [some 0, some 1] p5283 h
  refine cT ?_
  refine Wp.skip ?_
  refine sh ?_
  refine Wp.seq ?_
  refine Wp.block ?_
  refine rs0 ?_
  iterate 2 refine vp ?_
  refine eI h F fun x5288 F h => ?_
  iterate 5 refine vp ?_
  refine vn ?_
  refine sB h F (fun F h => ?_) fun F h => ?_
  refine cF ?_
  refine rg (fun d => Nat.beq d 41) ?_
  iterate 6 refine vp ?_
  refine gd h F fun F h => ?_
  refine vp ?_
  refine nm cRef14Tree h F fun l5290 F h => ?_
  refine vp ?_
  refine vn ?_
  refine sh ?_
  refine rg0 ?_
  iterate 3 refine vp ?_
  refine vn ?_
  exact nx [some 0, some 2] (l5290, (IntKind.i64.wrap (p5284 + 1))) h
  refine cT ?_
  refine rg (fun d => Nat.beq d 34) ?_
  iterate 6 refine vp ?_
  refine gd h F fun F h => ?_
  refine vp ?_
  refine nm cRef14Tree h F fun l5289 F h => ?_
  refine vp ?_
  refine vn ?_
  refine sh ?_
  refine rg0 ?_
  iterate 3 refine vp ?_
  refine vn ?_
  exact nx [some 0, some 2] (l5289, (IntKind.i64.wrap (p5284 + 1))) h

theorem con_reduce_sorted_1 {n : Nat} {a0 : TreeTree} {b1 : TreeTree} {r : Int} (h : reduce_sorted_1 n a0 b1 = some r) : Con Tryz.prog G0 70 [.agg [.int .i64 a0.Kind, .int .i64 a0.N, aL cTreeTree a0.Kids], .agg [.int .i64 b1.Kind, .int .i64 b1.N, aL cTreeTree b1.Kids]] (.int .i64 r) [] := by
  refine con_of (T := TT0) tt_ok Tryz.func70 (c := _) (by unfold Tryz.f70; rfl) Tryz.ntmps70 (rs := [.tmp 4]) (by rw [Tryz.results70]) (by unfold Tryz.f70; rfl) (by simp) ?_
  simp only [argsCh]
  have F := True.intro
  dsimp only [reduce_sorted_1] at h
  refine rs0 ?_
  iterate 3 refine vp ?_
  refine vn ?_
  refine dw (fun _ => false) [0, 1] ?_
  refine du 1 ?_
  obtain ⟨r4427, hr4426, h⟩ := obind h
  refine dc (con_tree_Leaves _ hr4426) ?_
  obtain ⟨r4435, hr4434, h⟩ := obind h
  refine dc (con_slices_Min_int hr4434) ?_
  refine du 1 ?_
  obtain ⟨r4437, hr4436, h⟩ := obind h
  refine dc (con_tree_Leaves _ hr4436) ?_
  obtain ⟨r4439, hr4438, h⟩ := obind h
  refine dc (con_slices_Min_int hr4438) ?_
  obtain ⟨r4445, hr4444, h⟩ := obind h
  refine dc (con_cmp_Compare_int hr4444) ?_
  refine du 1 ?_
  refine dn ?_
  cases h
  exact Wp.ret en0

theorem con_slices_ContainsFunc_tree_Tree_c92 {n : Nat} {s0 : List TreeTree} {b0 : TreeTree} {r : Bool} (h : slices_ContainsFunc_tree_Tree_c92 n s0 b0 = some r) : ConH Tryz.prog G0 91 [aL cTreeTree s0, .clos 92 [] [.hptr 0 0 0]] [.var [.int .i64 b0.Kind, .int .i64 b0.N, aL cTreeTree b0.Kids]] (.bool r) [.var [.int .i64 b0.Kind, .int .i64 b0.N, aL cTreeTree b0.Kids]] := by
  refine conH_of (T := TT0) tt_ok Tryz.func91 (c := _) (by unfold Tryz.f91; rfl) Tryz.ntmps91 (rs := [.tmp 4]) (by rw [Tryz.results91]) (by unfold Tryz.f91; rfl) (by simp) (k := 1) rfl rfl ?_
  try simp only [argsCh]
  have F := True.intro
  dsimp only [slices_ContainsFunc_tree_Tree_c92] at h
  refine rs0 ?_
  refine vp ?_
  refine vn ?_
  refine rs0 ?_
  iterate 2 refine vp ?_
  obtain ⟨r4694, hr4693, h⟩ := obind h
  refine vh [0] (con_slices_IndexFunc_tree_Tree_c92 hr4693) ?_
  iterate 2 refine vp ?_
  refine vn ?_
  cases h
  exact Wp.ret (enH [some 0])

theorem con_graph_Outgoing {n : Nat} {r_0 : ApiRung} {node1 : Str} {r : (List Int)} (h : graph_Outgoing n r_0 node1 = some r) : Con Tryz.prog G0 137 [.agg (cApiRung r_0), .str node1] (aL (cI .i64) r) [] := by
  refine con_of (T := TT0) tt_ok Tryz.func137 (c := _) (by unfold Tryz.f137; rfl) Tryz.ntmps137 (rs := [.tmp 4]) (by rw [Tryz.results137]) (by unfold Tryz.f137; rfl) (by simp) ?_
  simp only [argsCh]
  have F := True.intro
  dsimp only [graph_Outgoing] at h
  refine rs0 ?_
  iterate 3 refine vp ?_
  refine vn ?_
  refine rs0 ?_
  iterate 2 refine vp ?_
  obtain ⟨r3481, hr3480, h⟩ := obind h
  refine vh [1] (con_graph_numbers_c168 hr3480) ?_
  refine vp ?_
  refine vn ?_
  cases h
  exact Wp.ret en0

end Go.Proofs.YtaebdeidbibfkaaGreatDoor
