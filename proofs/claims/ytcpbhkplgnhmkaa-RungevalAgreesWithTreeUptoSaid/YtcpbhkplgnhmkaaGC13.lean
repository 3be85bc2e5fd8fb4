/- Contracts: models of functions are right. No law is proved here. -/
import Derived.Test.YtcpbhkplgnhmkaaGMod
import Derived.Test.YtcpbhkplgnhmkaaTak
import Derived.Test.YtcpbhkplgnhmkaaLawM11
import Derived.Test.YtcpbhkplgnhmkaaGC9
import Derived.Test.YtcpbhkplgnhmkaaGC10
import Derived.Test.YtcpbhkplgnhmkaaGC11
namespace Go.Proofs.Ytcpbhkplgnhmkaa
open Go.Av Go.G
attribute [-simp] Int.natCast_tdiv_eq_ediv
attribute [local simp] runf guardA opf St.ev Go.Av.look St.setd constAV constAV0 opBin opLen intBin St.need lookT TT0 tab resA resOne resAll blt_dec ble_dec beq_dec isPure
attribute [local simp] opMakeSlice opCopy opIndexAddr opLoad opStore St.mem St.rows opUn calleeA toArgs toArg toArg0 toArgs0 shift shift0 shift1 splice cellsOf isFree ofCells TS.isAgg isCell strBin opConvert
attribute [local simp] opSlice3 opClear fz_clear opBuildSlice fillA opAppend eqC eqA cksB ckB St.newBox runI valKind withinB readsHp refsD refs noSl opFieldAddr opBuild opMax opMin placeOf Op.operands Call.operands opIndex opExtract opSlice opField partA
attribute [local simp] loA hiA lenA opMakeMap opLookup opMapUpdate keyOk findA_int findA_str findA_bool putA_strB putA_strI putA_strS putA_intB putA_intI putA_intS putA_boolI putA_boolB byteRow_rw bytesOf_rw opBytesStr mAV_length mAV_nil cA1 cA2 cA3 cA4 opNilCheck opMakeFunc opRange
attribute [local simp] aL cI cB cS cL rw_map fz_rw fz_const dropRow_rw fz_append fz_set fz_copy fz_rows rowLen_rw rowsLen_nil rowsLen_cons rowsLen_append rowsLen_map rowsLen_dm rowsLen_tm rowsLen_take rowsLen_drop rowsLen_replicate take_map_len take_map_le drop_map_len take_drop_len chunks isScalar isScalar0
attribute [local simp] putBack putAt objMap mapC mapA mapT map0 bid rid memB passed closedB argsH argH argH0 argsH0 objIds ids0 idsC isLocT isLocA isLocC isLoc0 LocObj
attribute [local congr] bind_congr1 map_congr1 cond_congr1
attribute [local simp] cApiAddr cApiContact cApiCoil cApiRung cApiState cReducePair cReduceEdge cTreeTree_eq TreeTree_Kind_mk TreeTree_N_mk TreeTree_Kids_mk eta_TreeTree
variable [Drawn]
set_option maxHeartbeats 4000000
set_option linter.unusedSectionVars false
set_option maxRecDepth 20000
set_option linter.unusedSimpArgs false
set_option linter.unusedVariables false

theorem con_reduce_sorted (n : Nat) : ∀ {t0 : TreeTree} {r : TreeTree}, reduce_sorted n t0 = some r → Con Try.prog G0 17 [.agg [.int .i64 t0.Kind, .int .i64 t0.N, aL cTreeTree t0.Kids]] (.agg [.int .i64 r.Kind, .int .i64 r.N, aL cTreeTree r.Kids]) [] := by
  induction n with
  | zero => intro t0 r h; simp [reduce_sorted] at h
  | succ n Hslf_reduce_sorted =>
   intro t0 r h
   refine con_of (T := TT0) tt_ok Try.func17 (c := _) (by unfold Try.f17; rfl) Try.ntmps17 (rs := [.cell 2 37]) (by rw [Try.results17]) (by unfold Try.f17; rfl) (by simp) ?_
   simp only [argsCh]
   have F := True.intro
   dsimp only [reduce_sorted] at h
   refine rs0 ?_
   iterate 2 refine vp ?_
   refine vn ?_
   refine rs0 ?_
   iterate 7 refine vp ?_
   refine vn ?_
   refine jn (fun p5385 : List TreeTree => { ch := [(2, .hptr 0 0 0), (3, .hptr 1 0 0)], hp := [.var [.int .i64 0, .int .i64 0, .nilsl], .var [.int .i64 t0.Kind, .int .i64 t0.N, .sl 2 0 p5385.length], .arr 3 p5385.length (rw (p5385.map cTreeTree))], base := 0, n := 33, cond := True, gl := G0 }) (fun x => reduce_sorted_J1 n t0 x = some r) ?_ ?_
   clear h
   rintro p5385 h
   dsimp only [reduce_sorted_J1] at h
   try dsimp only
   refine Wp.seq ?_
   refine rs0 ?_
   iterate 3 refine vp ?_
   refine vn ?_
   refine sB h F (fun F h => ?_) fun F h => ?_
   refine cF ?_
   refine Wp.skip ?_
   refine sh ?_
   refine rs0 ?_
   iterate 2 refine vp ?_
   refine vn ?_
   cases h
   exact Wp.ret en0
   refine cT ?_
   refine rg0 ?_
   iterate 2 refine vp ?_
   obtain ⟨q5432, hr5431, h⟩ := obind h
   refine vh [2] (con_slices_SortFunc_tree_Tree_c31 hr5431) ?_
   have F := And.intro (len_slices_SortFunc_tree_Tree_c31 hr5431) F
   refine vn ?_
   refine sh ?_
   refine rs0 ?_
   iterate 2 refine vp ?_
   refine vn ?_
   cases h
   exact Wp.ret en0
   refine rs0 ?_
   iterate 4 refine vp ?_
   refine vn ?_
   refine Wp.block ?_
   refine lp [some 1, some 2, none] (fun x : Int × (List TreeTree) => { ch := [(2, .hptr 0 0 0), (3, .hptr 1 0 0), (12, aL cTreeTree t0.Kids), (13, .int .i64 (t0.Kids.length : Int)), (14, .int .i64 x.1)], hp := [.var [.int .i64 0, .int .i64 0, .nilsl], .var [.int .i64 t0.Kind, .int .i64 t0.N, .sl 2 0 x.2.length], .arr 3 x.2.length (rw (x.2.map cTreeTree))], base := 0, n := 33, cond := True, gl := G0 }) (fun m x => reduce_sorted_L2 n t0 (reduce_sorted n) m x.1 x.2 = some r) n (0, []) h ?_
   rintro rec_n2 ⟨p5437, p5438⟩ h
   dsimp only [reduce_sorted_L2] at h
   try dsimp only
   refine rs0 ?_
   refine vp ?_
   refine vn ?_
   refine Wp.seq ?_
   refine sD h F (fun F h => ?_) fun F h => ?_
   refine cF ?_
   refine Wp.exit ?_
   exact nx [some 0, some 1, some 2] p5438 h
   refine cT ?_
   refine Wp.skip ?_
   refine sh ?_
   refine Wp.seq ?_
   refine Wp.block ?_
   refine rs0 ?_
   refine eI h F fun x5443 F h => ?_
   iterate 4 refine vp ?_
   refine vn ?_
   refine dw1 (fun d => Nat.beq d 23 || Nat.beq d 1023) [1, 2, 3] ?_
   refine du 3 ?_
   obtain ⟨r5445, hr5444, h⟩ := obind h
   refine dc (Hslf_reduce_sorted hr5444) ?_
   refine du 1 ?_
   refine gd h F fun F h => ?_
   refine db ?_
   refine nm cTreeTree h F fun l5446 F h => ?_
   refine du 1 ?_
   refine db ?_
   refine dn ?_
   refine sh ?_
   refine rg0 ?_
   iterate 2 refine vp ?_
   refine vn ?_
   exact nx [some 0, some 1, some 4] ((IntKind.i64.wrap (p5437 + 1)), l5446) h

theorem con_graph_gather_1_c68_82 (n : Nat) : ∀ {n_0 : Str} {m1 : List (Str × Bool)} {b3 : ApiRung} {r : (List (Str × Bool))}, graph_gather_1_c68_82 n n_0 m1 b3 = some r → ConH Try.prog G0 82 [.str n_0, .hptr 0 0 0, .hptr 2 0 0, .hptr 4 0 0] [.var [.mp 1], .map (mAV AV.str cB m1), .var [.clos 68 [] [.hptr 3 0 0]], .var [.str b3.Label, aL cApiContact b3.Contacts, aL cApiCoil b3.Coils, .str b3.Jump], .var [.clos 82 [] [.hptr 0 0 0, .hptr 2 0 0, .hptr 4 0 0]]] (.tup []) [.var [.mp 1], .map (mAV AV.str cB r), .var [.clos 68 [] [.hptr 3 0 0]], .var [.str b3.Label, aL cApiContact b3.Contacts, aL cApiCoil b3.Coils, .str b3.Jump], .var [.clos 82 [] [.hptr 0 0 0, .hptr 2 0 0, .hptr 4 0 0]]] := by
  induction n with
  | zero => intro n_0 m1 b3 r h; simp [graph_gather_1_c68_82] at h
  | succ n Hslf_graph_gather_1_c68_82 =>
   intro n_0 m1 b3 r h
   refine conH_of (T := TT0) tt_ok Try.func82 (c := _) (by unfold Try.f82; rfl) Try.ntmps82 (rs := []) (by rw [Try.results82]) (by unfold Try.f82; rfl) (by simp) (k := 5) rfl rfl ?_
   try simp only [argsCh]
   have F := True.intro
   dsimp only [graph_gather_1_c68_82] at h
   refine Wp.seq ?_
   refine rs0 ?_
   iterate 3 refine vp ?_
   refine vn ?_
   refine sB h F (fun F h => ?_) fun F h => ?_
   refine cF ?_
   refine Wp.skip ?_
   refine sh ?_
   refine rs0 ?_
   iterate 3 refine vp ?_
   refine vn ?_
   refine rs0 ?_
   iterate 2 refine vp ?_
   obtain ⟨r4513, hr4512, h⟩ := obind h
   refine vh [3] (con_graph_Reachable_1 hr4512) ?_
   iterate 2 refine vp ?_
   refine vn ?_
   refine Wp.block ?_
   refine lp [some 0, some 1, some 2, some 3, some 4] (fun x : (List (Str × Bool)) × Int => { ch := [(3, .hptr 4 0 0), (14, aL cS r4513), (15, .int .i64 (r4513.length : Int)), (16, .int .i64 x.2)], hp := [.var [.mp 1], .map (mAV AV.str cB x.1), .var [.clos 68 [] [.hptr 3 0 0]], .var [.str b3.Label, aL cApiContact b3.Contacts, aL cApiCoil b3.Coils, .str b3.Jump], .var [.clos 82 [] [.hptr 0 0 0, .hptr 2 0 0, .hptr 4 0 0]]], base := 5, n := 24, cond := True, gl := G0 }) (fun m x => graph_gather_1_c68_82_L1 b3 r4513 (graph_gather_1_c68_82 n) m x.1 x.2 = some r) n ((mPut m1 n_0 true), 0) h ?_
   rintro rec_n1 ⟨p4517, p4518⟩ h
   dsimp only [graph_gather_1_c68_82_L1] at h
   try dsimp only
   refine rs0 ?_
   refine vp ?_
   refine vn ?_
   refine Wp.seq ?_
   refine sD h F (fun F h => ?_) fun F h => ?_
   refine cF ?_
   refine Wp.exit ?_
   cases h
   exact n2r (enH [some 0, some 1, some 2, some 3, some 4])
   refine cT ?_
   refine Wp.skip ?_
   refine sh ?_
   refine Wp.seq ?_
   refine Wp.block ?_
   refine rs0 ?_
   refine eI h F fun x4522 F h => ?_
   iterate 3 refine vp ?_
   refine vn ?_
   refine rg0 ?_
   iterate 2 refine vp ?_
   obtain ⟨q4524, hr4523, h⟩ := obind h
   refine vh [0, 1, 2, 3, 4] (Hslf_graph_gather_1_c68_82 hr4523) ?_
   refine vn ?_
   refine sh ?_
   refine rg0 ?_
   iterate 2 refine vp ?_
   refine vn ?_
   exact nx [some 0, some 1, some 2, some 3, some 4] (q4524, (IntKind.i64.wrap (p4518 + 1))) h
   refine cT ?_
   cases h
   exact Wp.ret (enH [some 0, some 1, some 2, some 3, some 4])

theorem con_slices_IndexFunc_string_c47_v1 {n : Nat} {l0 : List Str} {b1 : ApiRung} {m3 : List (Str × Bool)} {r : Int} (h : slices_IndexFunc_string_c47_v1 n l0 b1 m3 = some r) : ConH Try.prog G0 46 [.sl 0 0 l0.length, .clos 47 [] [.hptr 1 0 0, .hptr 2 0 0]] [.arr 1 l0.length (rw (l0.map cS)), .var [.str b1.Label, aL cApiContact b1.Contacts, aL cApiCoil b1.Coils, .str b1.Jump], .var [.mp 3], .map (mAV AV.str cB m3)] (.int .i64 r) [.arr 1 l0.length (rw (l0.map cS)), .var [.str b1.Label, aL cApiContact b1.Contacts, aL cApiCoil b1.Coils, .str b1.Jump], .var [.mp 3], .map (mAV AV.str cB m3)] := by
  refine conH_of (T := TT0) tt_ok Try.func46 (c := _) (by unfold Try.f46; rfl) Try.ntmps46 (rs := [.tmp 4]) (by rw [Try.results46]) (by unfold Try.f46; rfl) (by simp) (k := 4) rfl rfl ?_
  try simp only [argsCh]
  have F := True.intro
  dsimp only [slices_IndexFunc_string_c47_v1] at h
  refine rs0 ?_
  refine vp ?_
  refine vn ?_
  refine Wp.seq ?_
  refine rs0 ?_
  iterate 3 refine vp ?_
  refine vn ?_
  refine Wp.block ?_
  refine lp [some 0, some 1, some 2, some 3] (fun p3461 : Int => { ch := [(0, .sl 0 0 l0.length), (1, .clos 47 [] [.hptr 1 0 0, .hptr 2 0 0]), (7, .int .i64 (l0.length : Int)), (8, .int .i64 p3461)], hp := [.arr 1 l0.length (rw (l0.map cS)), .var [.str b1.Label, aL cApiContact b1.Contacts, aL cApiCoil b1.Coils, .str b1.Jump], .var [.mp 3], .map (mAV AV.str cB m3)], base := 4, n := 19, cond := True, gl := G0 }) (fun m x => slices_IndexFunc_string_c47_v1_L1 n l0 b1 m3 m x = some r) n 0 h ?_
  rintro rec_n1 p3461 h
  dsimp only [slices_IndexFunc_string_c47_v1_L1] at h
  try dsimp only
  refine rs0 ?_
  refine vp ?_
  refine vn ?_
  refine Wp.seq ?_
  refine sD h F (fun F h => ?_) fun F h => ?_
  refine cF ?_
  refine Wp.exit ?_
  refine sh ?_
  refine rs0 ?_
  refine vp ?_
  refine vn ?_
  cases h
  exact Wp.ret (enH [some 0, some 1, some 2, some 3])
  refine cT ?_
  refine Wp.skip ?_
  refine sh ?_
  refine Wp.seq ?_
  refine Wp.block ?_
  refine rs0 ?_
  iterate 2 refine vp ?_
  refine vn ?_
  refine rs0 ?_
  iterate 3 refine vp ?_
  refine eI h F fun x3465 F h => ?_
  iterate 2 refine vp ?_
  obtain ⟨r3467, hr3466, h⟩ := obind h
  refine vh [1, 2, 3] (con_graph_TopoSort_1 hr3466) ?_
  refine vn ?_
  refine sB h F (fun F h => ?_) fun F h => ?_
  refine cF ?_
  refine Wp.skip ?_
  refine sh ?_
  refine rg0 ?_
  iterate 2 refine vp ?_
  refine vn ?_
  exact nx [some 0, some 1, some 2, some 3] (IntKind.i64.wrap (p3461 + 1)) h
  refine cT ?_
  refine rs0 ?_
  iterate 2 refine vp ?_
  refine vn ?_
  cases h
  exact Wp.ret (enH [some 0, some 1, some 2, some 3])

theorem con_tree_Tree_eval (n : Nat) : ∀ {t0 : TreeTree} {on1 : List Bool} {r : Bool}, tree_Tree_eval n t0 on1 = some r → Con Try.prog G0 19 [.agg [.int .i64 t0.Kind, .int .i64 t0.N, aL cTreeTree t0.Kids], aL cB on1] (.bool r) [] := by
  induction n with
  | zero => intro t0 on1 r h; simp [tree_Tree_eval] at h
  | succ n Hslf_tree_Tree_eval =>
   intro t0 on1 r h
   refine con_of (T := TT0) tt_ok Try.func19 (c := _) (by unfold Try.f19; rfl) Try.ntmps19 (rs := [.tmp 4]) (by rw [Try.results19]) (by unfold Try.f19; rfl) (by simp) ?_
   simp only [argsCh]
   have F := True.intro
   dsimp only [tree_Tree_eval] at h
   refine rs0 ?_
   iterate 3 refine vp ?_
   refine vn ?_
   refine rs0 ?_
   iterate 3 refine vp ?_
   refine vn ?_
   refine Wp.seq ?_
   refine rs0 ?_
   iterate 2 refine vp ?_
   refine vn ?_
   refine Wp.block ?_
   refine rs0 ?_
   iterate 2 refine vp ?_
   refine vn ?_
   refine sB h F (fun F h => ?_) fun F h => ?_
   refine cF ?_
   refine rs0 ?_
   iterate 2 refine vp ?_
   refine vn ?_
   refine sB h F (fun F h => ?_) fun F h => ?_
   refine cF ?_
   refine Wp.skip ?_
   refine sh ?_
   refine rs0 ?_
   iterate 3 refine vp ?_
   refine eI h F fun x5629 F h => ?_
   iterate 3 refine vp ?_
   refine vn ?_
   cases h
   exact Wp.ret en0
   refine cT ?_
   refine rs0 ?_
   iterate 3 refine vp ?_
   obtain ⟨r5628, hr5627, h⟩ := obind h
   refine vh [1] (con_slices_ContainsFunc_tree_Tree_c36 Hslf_tree_Tree_eval hr5627) ?_
   refine vp ?_
   refine vn ?_
   cases h
   exact Wp.ret en0
   refine cT ?_
   refine rs0 ?_
   iterate 3 refine vp ?_
   obtain ⟨r5602, hr5601, h⟩ := obind h
   refine vh [2, 1] (con_slices_ContainsFunc_tree_Tree_c38_36 Hslf_tree_Tree_eval hr5601) ?_
   iterate 2 refine vp ?_
   refine vn ?_
   cases h
   exact Wp.ret en0

end Go.Proofs.Ytcpbhkplgnhmkaa
