/- Contracts: models of functions are right. No law is proved here. -/
import Derived.Test.YtaebdeidbibfkaaDoorOGMod
import Derived.Test.YtaebdeidbibfkaaDoorOTav
import Derived.Test.YtaebdeidbibfkaaDoorOSo
import Derived.Test.YtaebdeidbibfkaaDoorOSh
import Derived.Test.YtaebdeidbibfkaaDoorOGC8
import Derived.Test.YtaebdeidbibfkaaDoorOGC9
namespace Go.Proofs.YtaebdeidbibfkaaDoor
open Go.Av Go.G
attribute [-simp] Int.natCast_tdiv_eq_ediv
attribute [local simp] runf guardA opf St.ev Go.Av.look St.setd constAV constAV0 opBin opLen intBin St.need lookT TT0 tab resA resOne resAll blt_dec ble_dec beq_dec isPure
attribute [local simp] opMakeSlice opCopy opIndexAddr opLoad opStore St.mem St.rows opUn calleeA toArgs toArg toArg0 toArgs0 shift shift0 shift1 splice cellsOf isFree ofCells TS.isAgg isCell strBin opConvert
attribute [local simp] opSlice3 opClear fz_clear opBuildSlice fillA opAppend eqC eqA cksB ckB St.newBox runI valKind withinB readsHp refsD refs noSl opFieldAddr opBuild opMax opMin placeOf Op.operands Call.operands opIndex opExtract opSlice opField partA
attribute [local simp] loA hiA lenA opMakeMap opLookup opMapUpdate keyOk findA_int findA_str findA_bool putA_strB putA_strI putA_strS putA_intB putA_intI putA_intS putA_boolI putA_boolB byteRow_rwN bytesOf_rwN opBytesStr mAV_length mAV_nil cA1 cA2 cA3 cA4 opNilCheck opMakeFunc opRange
attribute [local simp] aL cI cB cS cL rw_map fz_rw fz_const dropRow_rw fz_append fz_set fz_copy fz_rows rowLen_rw rowsLen_nil rowsLen_cons rowsLen_append rowsLen_map rowsLen_dm rowsLen_tm rowsLen_take rowsLen_drop rowsLen_replicate take_map_len take_map_le drop_map_len take_drop_len chunks isScalar isScalar0
attribute [local simp] putBack putAt objMap mapC mapA mapT map0 bid rid memB passed closedB argsH argH argH0 argsH0 objIds ids0 idsC isLocT isLocA isLocC isLoc0 LocObj
attribute [local congr] bind_congr1 map_congr1 cond_congr1
attribute [local simp] cApiAddr cApiContact cApiCoil cApiRung cReducePair cReduceEdge cTreeTree_eq TreeTree_Kind_mk TreeTree_N_mk TreeTree_Kids_mk eta_TreeTree cRef14Tree_eq Ref14Tree_Kind_mk Ref14Tree_N_mk Ref14Tree_Kids_mk eta_Ref14Tree
variable [Drawn]
set_option maxHeartbeats 4000000
set_option linter.unusedSectionVars false
set_option maxRecDepth 20000
set_option linter.unusedSimpArgs false
set_option linter.unusedVariables false

theorem con_ref15_Sorted (n : Nat) : ∀ {t0 : Ref14Tree} {r : Ref14Tree}, ref15_Sorted n t0 = some r → Con Tryd.prog G0 15 [.agg [.int .i64 t0.Kind, .int .i64 t0.N, aL cRef14Tree t0.Kids]] (.agg [.int .i64 r.Kind, .int .i64 r.N, aL cRef14Tree r.Kids]) [] := by
  induction n with
  | zero => intro t0 r h; simp [ref15_Sorted] at h
  | succ n Hslf_ref15_Sorted =>
   intro t0 r h
   refine con_of (T := TT0) tt_ok Tryd.func15 (c := _) (by unfold Tryd.f15; rfl) Tryd.ntmps15 (rs := [.cell 2 43]) (by rw [Tryd.results15]) (by unfold Tryd.f15; rfl) (by simp) ?_
   simp only [argsCh]
   have F := True.intro
   dsimp only [ref15_Sorted] at h
   refine rs0 ?_
   iterate 2 refine vp ?_
   refine vn ?_
   refine Wp.seq ?_
   refine rs0 ?_
   iterate 3 refine vp ?_
   refine vn ?_
   refine sB h F (fun F h => ?_) fun F h => ?_
   refine cF ?_
   refine Wp.skip ?_
   refine sh ?_
   refine rs0 ?_
   refine vp ?_
   refine vn ?_
   refine jn (fun p14051 : List Ref14Tree => { ch := [(1, .hptr 0 0 0), (2, .hptr 1 0 0), (3, .sl 2 0 p14051.length)], hp := [.var [.int .i64 t0.Kind, .int .i64 t0.N, aL cRef14Tree t0.Kids], .var [.int .i64 0, .int .i64 0, .nilsl], .arr 3 p14051.length (rw (p14051.map cRef14Tree))], base := 0, n := 52, cond := True, gl := G0 }) (fun x => ref15_Sorted_J1 n t0 x = some r) ?_ ?_
   clear h
   rintro p14051 h
   dsimp only [ref15_Sorted_J1] at h
   try dsimp only
   refine Wp.seq ?_
   refine rs0 ?_
   iterate 3 refine vp ?_
   refine vn ?_
   refine sB h F (fun F h => ?_) fun F h => ?_
   refine cF ?_
   refine Wp.skip ?_
   refine sh ?_
   refine dw (fun _ => false) [2] ?_
   refine du 1 ?_
   refine eN (m := 0) h F fun x14052 F h => ?_
   refine du 3 ?_
   refine eN (m := 1) h F fun x14053 F h => ?_
   refine du 2 ?_
   obtain ⟨r14242, hr14241, h⟩ := obind h
   refine dc (con_ref15_join hr14241) ?_
   refine de ?_
   refine db ?_
   refine dn ?_
   refine Wp.seq ?_
   refine rs0 ?_
   refine vp ?_
   refine vn ?_
   refine Wp.block ?_
   refine lp [some 1, some 2, some 3] (fun x : Int × Int × (List Ref14Tree) × Int => { ch := [(2, .hptr 0 0 0), (3, .sl 1 0 p14051.length), (5, .hptr 2 0 0), (6, .int .i64 x.2.2.2)], hp := [.var [.int .i64 0, .int .i64 0, .nilsl], .arr 3 p14051.length (rw (p14051.map cRef14Tree)), .var [.int .i64 x.1, .int .i64 x.2.1, aL cRef14Tree x.2.2.1]], base := 0, n := 52, cond := True, gl := G0 }) (fun m x => ref15_Sorted_L2 n p14051 m x.1 x.2.1 x.2.2.1 x.2.2.2 = some r) n (r14242.Kind, r14242.N, r14242.Kids, 2) h ?_
   rintro rec_n2 ⟨p14246, p14247, p14248, p14249⟩ h
   dsimp only [ref15_Sorted_L2] at h
   try dsimp only
   refine Wp.seq ?_
   refine rs0 ?_
   iterate 4 refine vp ?_
   refine vn ?_
   refine sD h F (fun F h => ?_) fun F h => ?_
   refine cF ?_
   refine Wp.exit ?_
   refine sh ?_
   refine rs0 ?_
   iterate 2 refine vp ?_
   refine vn ?_
   cases h
   exact Wp.ret en0
   refine cT ?_
   refine Wp.skip ?_
   refine sh ?_
   refine Wp.seq ?_
   refine Wp.block ?_
   refine dw1 (fun _ => false) [1, 2] ?_
   refine du 3 ?_
   refine eI h F fun x14253 F h => ?_
   refine du 2 ?_
   obtain ⟨r14255, hr14254, h⟩ := obind h
   refine dc (con_ref15_join hr14254) ?_
   refine db ?_
   refine dn ?_
   refine sh ?_
   refine rg0 ?_
   iterate 3 refine vp ?_
   refine vn ?_
   exact nx [some 0, some 1, some 2] (r14255.Kind, r14255.N, r14255.Kids, (IntKind.i64.wrap (p14249 + 1))) h
   refine cT ?_
   refine rs0 ?_
   iterate 3 refine vp ?_
   refine vn ?_
   cases h
   exact Wp.ret en0
   refine rs0 ?_
   refine vp ?_
   refine vn ?_
   refine Wp.block ?_
   refine lp [some 0, some 1, none] (fun x : (List Ref14Tree) × Int => { ch := [(1, .hptr 0 0 0), (2, .hptr 1 0 0), (3, .sl 2 0 x.1.length), (4, .int .i64 x.2)], hp := [.var [.int .i64 t0.Kind, .int .i64 t0.N, aL cRef14Tree t0.Kids], .var [.int .i64 0, .int .i64 0, .nilsl], .arr 3 x.1.length (rw (x.1.map cRef14Tree))], base := 0, n := 52, cond := True, gl := G0 }) (fun m x => ref15_Sorted_L3 n t0 (ref15_Sorted n) m x.1 x.2 = some r) n ([], 0) h ?_
   rintro rec_n3 ⟨p14260, p14261⟩ h
   dsimp only [ref15_Sorted_L3] at h
   try dsimp only
   refine Wp.seq ?_
   refine rs0 ?_
   iterate 5 refine vp ?_
   refine vn ?_
   refine sD h F (fun F h => ?_) fun F h => ?_
   refine cF ?_
   refine Wp.exit ?_
   exact nx [some 0, some 1, some 2] p14260 h
   refine cT ?_
   refine Wp.skip ?_
   refine sh ?_
   refine Wp.seq ?_
   refine Wp.block ?_
   refine rg (fun d => Nat.beq d 26) ?_
   iterate 4 refine vp ?_
   refine eI h F fun x14266 F h => ?_
   iterate 2 refine vp ?_
   obtain ⟨r14268, hr14267, h⟩ := obind h
   refine vc (Hslf_ref15_Sorted hr14267) ?_
   refine vp ?_
   refine gd h F fun F h => ?_
   refine vp ?_
   refine nm cRef14Tree h F fun l14269 F h => ?_
   refine vp ?_
   refine vn ?_
   refine sh ?_
   refine rg0 ?_
   iterate 3 refine vp ?_
   refine vn ?_
   exact nx [some 0, some 1, some 3] (l14269, (IntKind.i64.wrap (p14261 + 1))) h
   refine cT ?_
   refine rs0 ?_
   iterate 2 refine vp ?_
   refine vn ?_
   cases h
   exact Wp.ret en0

theorem con_graph_Reachable_1 {n : Nat} {n_0 : Str} {b0 : ApiRung} {r : (List Str)} (h : graph_Reachable_1 n n_0 b0 = some r) : ConH Tryd.prog G0 101 [.str n_0, .hptr 0 0 0] [.var [.str b0.Label, aL cApiContact b0.Contacts, aL cApiCoil b0.Coils, .str b0.Jump]] (aL cS r) [.var [.str b0.Label, aL cApiContact b0.Contacts, aL cApiCoil b0.Coils, .str b0.Jump]] := by
  refine conH_of (T := TT0) tt_ok Tryd.func101 (c := _) (by unfold Tryd.f101; rfl) Tryd.ntmps101 (rs := [.tmp 3]) (by rw [Tryd.results101]) (by unfold Tryd.f101; rfl) (by simp) (k := 1) rfl rfl ?_
  try simp only [argsCh]
  have F := True.intro
  dsimp only [graph_Reachable_1] at h
  refine rs0 ?_
  refine vp ?_
  refine vn ?_
  refine rs0 ?_
  refine vp ?_
  refine vn ?_
  refine Wp.seq ?_
  refine rs0 ?_
  iterate 2 refine vp ?_
  obtain ⟨r12873, hr12872, h⟩ := obind h
  refine vc (con_graph_Outgoing hr12872) ?_
  iterate 2 refine vp ?_
  refine vn ?_
  refine Wp.block ?_
  refine lp [some 0, none] (fun x : Int × (List Str) => { ch := [(1, .hptr 0 0 0), (4, .sl 1 0 x.2.length), (9, aL (cI .i64) r12873), (10, .int .i64 (r12873.length : Int)), (11, .int .i64 x.1)], hp := [.var [.str b0.Label, aL cApiContact b0.Contacts, aL cApiCoil b0.Coils, .str b0.Jump], .arr 1 x.2.length (rw (x.2.map cS))], base := 1, n := 26, cond := True, gl := G0 }) (fun m x => graph_Reachable_1_L1 b0 r12873 m x.1 x.2 = some r) n (0, []) h ?_
  rintro rec_n1 ⟨p12877, p12878⟩ h
  dsimp only [graph_Reachable_1_L1] at h
  try dsimp only
  refine rs0 ?_
  refine vp ?_
  refine vn ?_
  refine Wp.seq ?_
  refine sD h F (fun F h => ?_) fun F h => ?_
  refine cF ?_
  refine Wp.exit ?_
  refine sh ?_
  refine rs0 ?_
  iterate 2 refine vp ?_
  refine vn ?_
  cases h
  exact Wp.ret (enH [some 0])
  refine cT ?_
  refine Wp.skip ?_
  refine sh ?_
  refine Wp.seq ?_
  refine Wp.block ?_
  refine rs0 ?_
  refine eI h F fun x12882 F h => ?_
  iterate 3 refine vp ?_
  refine vn ?_
  refine rg (fun d => Nat.beq d 23) ?_
  iterate 4 refine vp ?_
  refine eI h F fun x12883 F h => ?_
  iterate 4 refine vp ?_
  refine gd h F fun F h => ?_
  refine vp ?_
  refine nm cS h F fun l12884 F h => ?_
  refine vp ?_
  refine vn ?_
  refine sh ?_
  refine rg0 ?_
  iterate 2 refine vp ?_
  refine vn ?_
  exact nx [some 0, some 2] ((IntKind.i64.wrap (p12877 + 1)), l12884) h

theorem con_graph_Ancestors_1 {n : Nat} {n_0 : Str} {b0 : ApiRung} {r : (List Str)} (h : graph_Ancestors_1 n n_0 b0 = some r) : ConH Tryd.prog G0 103 [.str n_0, .hptr 0 0 0] [.var [.str b0.Label, aL cApiContact b0.Contacts, aL cApiCoil b0.Coils, .str b0.Jump]] (aL cS r) [.var [.str b0.Label, aL cApiContact b0.Contacts, aL cApiCoil b0.Coils, .str b0.Jump]] := by
  refine conH_of (T := TT0) tt_ok Tryd.func103 (c := _) (by unfold Tryd.f103; rfl) Tryd.ntmps103 (rs := [.tmp 3]) (by rw [Tryd.results103]) (by unfold Tryd.f103; rfl) (by simp) (k := 1) rfl rfl ?_
  try simp only [argsCh]
  have F := True.intro
  dsimp only [graph_Ancestors_1] at h
  refine rs0 ?_
  refine vp ?_
  refine vn ?_
  refine rs0 ?_
  refine vp ?_
  refine vn ?_
  refine Wp.seq ?_
  refine rs0 ?_
  iterate 2 refine vp ?_
  obtain ⟨r13161, hr13160, h⟩ := obind h
  refine vc (con_graph_Incoming hr13160) ?_
  iterate 2 refine vp ?_
  refine vn ?_
  refine Wp.block ?_
  refine lp [some 0, none] (fun x : Int × (List Str) => { ch := [(1, .hptr 0 0 0), (4, .sl 1 0 x.2.length), (9, aL (cI .i64) r13161), (10, .int .i64 (r13161.length : Int)), (11, .int .i64 x.1)], hp := [.var [.str b0.Label, aL cApiContact b0.Contacts, aL cApiCoil b0.Coils, .str b0.Jump], .arr 1 x.2.length (rw (x.2.map cS))], base := 1, n := 26, cond := True, gl := G0 }) (fun m x => graph_Ancestors_1_L1 b0 r13161 m x.1 x.2 = some r) n (0, []) h ?_
  rintro rec_n1 ⟨p13165, p13166⟩ h
  dsimp only [graph_Ancestors_1_L1] at h
  try dsimp only
  refine rs0 ?_
  refine vp ?_
  refine vn ?_
  refine Wp.seq ?_
  refine sD h F (fun F h => ?_) fun F h => ?_
  refine cF ?_
  refine Wp.exit ?_
  refine sh ?_
  refine rs0 ?_
  iterate 2 refine vp ?_
  refine vn ?_
  cases h
  exact Wp.ret (enH [some 0])
  refine cT ?_
  refine Wp.skip ?_
  refine sh ?_
  refine Wp.seq ?_
  refine Wp.block ?_
  refine rs0 ?_
  refine eI h F fun x13170 F h => ?_
  iterate 3 refine vp ?_
  refine vn ?_
  refine rg (fun d => Nat.beq d 23) ?_
  iterate 4 refine vp ?_
  refine eI h F fun x13171 F h => ?_
  iterate 4 refine vp ?_
  refine gd h F fun F h => ?_
  refine vp ?_
  refine nm cS h F fun l13172 F h => ?_
  refine vp ?_
  refine vn ?_
  refine sh ?_
  refine rg0 ?_
  iterate 2 refine vp ?_
  refine vn ?_
  exact nx [some 0, some 2] ((IntKind.i64.wrap (p13165 + 1)), l13172) h

theorem con_slices_IndexFunc_string_c80_v1 {n : Nat} {l0 : List Str} {b1 : List Str} {b2 : List Str} {r : Int} (h : slices_IndexFunc_string_c80_v1 n l0 b1 b2 = some r) : ConH Tryd.prog G0 71 [.sl 0 0 l0.length, .clos 80 [] [.hptr 1 0 0, .hptr 2 0 0]] [.arr 1 l0.length (rw (l0.map cS)), .var [aL cS b1], .var [aL cS b2]] (.int .i64 r) [.arr 1 l0.length (rw (l0.map cS)), .var [aL cS b1], .var [aL cS b2]] := by
  refine conH_of (T := TT0) tt_ok Tryd.func71 (c := _) (by unfold Tryd.f71; rfl) Tryd.ntmps71 (rs := [.tmp 4]) (by rw [Tryd.results71]) (by unfold Tryd.f71; rfl) (by simp) (k := 3) rfl rfl ?_
  try simp only [argsCh]
  have F := True.intro
  dsimp only [slices_IndexFunc_string_c80_v1] at h
  refine rs0 ?_
  refine vp ?_
  refine vn ?_
  refine Wp.seq ?_
  refine rs0 ?_
  iterate 3 refine vp ?_
  refine vn ?_
  refine Wp.block ?_
  refine lp [some 0, some 1, some 2] (fun p13276 : Int => { ch := [(0, .sl 0 0 l0.length), (1, .clos 80 [] [.hptr 1 0 0, .hptr 2 0 0]), (7, .int .i64 (l0.length : Int)), (8, .int .i64 p13276)], hp := [.arr 1 l0.length (rw (l0.map cS)), .var [aL cS b1], .var [aL cS b2]], base := 3, n := 19, cond := True, gl := G0 }) (fun m x => slices_IndexFunc_string_c80_v1_L1 n l0 b1 b2 m x = some r) n 0 h ?_
  rintro rec_n1 p13276 h
  dsimp only [slices_IndexFunc_string_c80_v1_L1] at h
  try dsimp only
  refine rs0 ?_
  refine vp ?_
  refine vn ?_
  refine Wp.seq ?_
  refine sD h F (fun F h => ?_) fun F h => ?_
  refine cF ?_
  refine Wp.exit ?_
  refine sh ?_
  refine rs0 ?_
  refine vp ?_
  refine vn ?_
  cases h
  exact Wp.ret (enH [some 0, some 1, some 2])
  refine cT ?_
  refine Wp.skip ?_
  refine sh ?_
  refine Wp.seq ?_
  refine Wp.block ?_
  refine rs0 ?_
  iterate 2 refine vp ?_
  refine vn ?_
  refine rs0 ?_
  iterate 3 refine vp ?_
  refine eI h F fun x13280 F h => ?_
  iterate 2 refine vp ?_
  obtain ⟨r13282, hr13281, h⟩ := obind h
  refine vh [1, 2] (con_flow_DeadNodes_1 hr13281) ?_
  refine vn ?_
  refine sB h F (fun F h => ?_) fun F h => ?_
  refine cF ?_
  refine Wp.skip ?_
  refine sh ?_
  refine rg0 ?_
  iterate 2 refine vp ?_
  refine vn ?_
  exact nx [some 0, some 1, some 2] (IntKind.i64.wrap (p13276 + 1)) h
  refine cT ?_
  refine rs0 ?_
  iterate 2 refine vp ?_
  refine vn ?_
  cases h
  exact Wp.ret (enH [some 0, some 1, some 2])

theorem con_graph_TopoSort_1 {n : Nat} {n_0 : Str} {b0 : ApiRung} {m2 : List (Str × Bool)} {r : Bool} (h : graph_TopoSort_1 n n_0 b0 m2 = some r) : ConH Tryd.prog G0 72 [.str n_0, .hptr 0 0 0, .hptr 1 0 0] [.var [.str b0.Label, aL cApiContact b0.Contacts, aL cApiCoil b0.Coils, .str b0.Jump], .var [.mp 2], .map (mAV AV.str cB m2)] (.bool r) [.var [.str b0.Label, aL cApiContact b0.Contacts, aL cApiCoil b0.Coils, .str b0.Jump], .var [.mp 2], .map (mAV AV.str cB m2)] := by
  refine conH_of (T := TT0) tt_ok Tryd.func72 (c := _) (by unfold Tryd.f72; rfl) Tryd.ntmps72 (rs := [.tmp 4]) (by rw [Tryd.results72]) (by unfold Tryd.f72; rfl) (by simp) (k := 3) rfl rfl ?_
  try simp only [argsCh]
  have F := True.intro
  dsimp only [graph_TopoSort_1] at h
  refine rs0 ?_
  refine vp ?_
  refine vn ?_
  refine rs0 ?_
  iterate 2 refine vp ?_
  obtain ⟨r11814, hr11813, h⟩ := obind h
  refine vc (con_graph_Incoming hr11813) ?_
  refine vp ?_
  obtain ⟨r11816, hr11815, h⟩ := obind h
  refine vh [1, 2, 0] (con_slices_ContainsFunc_int_c75 hr11815) ?_
  iterate 2 refine vp ?_
  refine vn ?_
  cases h
  exact Wp.ret (enH [some 0, some 1, some 2])

theorem len_slices_SortFunc_tree_Tree_c54 {n : Nat} {l0 : List TreeTree} {r : List TreeTree} (h : slices_SortFunc_tree_Tree_c54 n l0 = some r) : r.length = l0.length := sortM_length h
theorem con_slices_SortFunc_tree_Tree_c54 {n : Nat} {l0 : List TreeTree} {r : List TreeTree} (h : slices_SortFunc_tree_Tree_c54 n l0 = some r) : ConH Tryd.prog G0 53 [.sl 0 0 l0.length, .clos 54 [] []] [.arr 3 l0.length (rw (l0.map cTreeTree))] (.tup []) [.arr 3 r.length (rw (r.map cTreeTree))] := by
  have hl : r.length = l0.length := sortM_length h
  rw [hl]
  exact conH_sort Tryd.sort_lays (tt_ok 31 _ rfl) rfl cTreeTree (fun x => by simp [cTreeTree_eq]) ⟨_, Tryd.func53, rfl, by decide⟩ 54 (fun a b => reduce_sorted_1 n a b) (fun a b r hr => by have := @con_reduce_sorted_1 ⟨True⟩ _ _ _ _ hr; simpa only [cTreeTree_eq] using this) l0 r h

end Go.Proofs.YtaebdeidbibfkaaDoor
