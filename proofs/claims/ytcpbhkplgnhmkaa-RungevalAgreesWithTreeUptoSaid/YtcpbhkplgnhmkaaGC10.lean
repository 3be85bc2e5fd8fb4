/- Contracts: models of functions are right. No law is proved here. -/
import Derived.Test.YtcpbhkplgnhmkaaGMod
import Derived.Test.YtcpbhkplgnhmkaaTak
import Derived.Test.YtcpbhkplgnhmkaaLawM11
import Derived.Test.YtcpbhkplgnhmkaaGC7
import Derived.Test.YtcpbhkplgnhmkaaGC8
import Derived.Test.YtcpbhkplgnhmkaaGC9
namespace Go.Proofs.Ytcpbhkplgnhmkaa
open Go.Av Go.G
attribute [-simp] Int.natCast_tdiv_eq_ediv
attribute [local simp] runf guardA opf St.ev Go.Av.look St.setd constAV constAV0 opBin opLen intBin St.need lookT TT0 tab resA resOne resAll blt_dec ble_dec beq_dec isPure
attribute [local simp] opMakeSlice opCopy opIndexAddr opLoad opStore St.mem St.rows opUn calleeA toArgs toArg toArg0 toArgs0 shift shift0 shift1 splice cellsOf isFree ofCells TS.isAgg isCell strBin opConvert
attribute [local simp] opSlice3 opClear fz_clear opBuildSlice fillA opAppend eqC eqA cksB ckB St.newBox runI valKind withinB readsHp refsD refs noSl opFieldAddr opBuild opMax opMin placeOf Op.operands Call.operands opIndex opExtract opSlice opField partA
attribute [local simp] loA hiA lenA opMakeMap opLookup opMapUpdate keyOk findA_int findA_str findA_bool putA_strB putA_strI putA_strS putA_intB putA_intI putA_intS putA_boolI putA_boolB byteRow_rw bytesOf_rw opBytesStr mAV_length mAV_nil cA1 cA2 cA3 cA4 opNilCheck opMakeFunc opRange
attribute [local simp] aL cI cB cS cL rw_map fz_rw fz_const dropRow_rw fz_append fz_set fz_copy fz_rows rowLen_rw rowsLen_nil rowsLen_cons rowsLen_append rowsLen_map rowsLen_dm rowsLen_tm rowsLen_take rowsLen_drop rowsLen_replicate take_map_len take_map_le drop_map_len take_drop_len chunks isScalar isScalar0
attribute [local simp] putBack putAt objMap mapC mapA mapT map0 bid rid memB passed closedB argsH argH argH0 argsH0 objIds ids0 idsC isLocT isLocA isLocC isLoc0 LocObj
attribute [local congr] bind_congr1 map_congr1 cond_congr1
attribute [local simp] cApiAddr cApiContact cApiCoil cApiRung cApiState cReducePair cReduceEdge cTreeTree_eq TreeTree_Kind_mk TreeTree_N_mk TreeTree_Kids_mk eta_TreeTree
variable [Drawn]
set_option maxHeartbeats 4000000
set_option linter.unusedSectionVars false
set_option maxRecDepth 20000
set_option linter.unusedSimpArgs false
set_option linter.unusedVariables false

theorem con_tree_Tree_check (n : Nat) : ∀ {_append0 : TreeTree} {a1 : Int} {m0 : List (Int × Bool)} {r : Int × (List (Int × Bool))}, tree_Tree_check n _append0 a1 m0 = some r → ConH Try.prog G0 35 [.agg [.int .i64 _append0.Kind, .int .i64 _append0.N, aL cTreeTree _append0.Kids], .int .i64 a1, .mp 0] [.map (mAV (AV.int .i64) cB m0)] (.int .i64 r.1) [.map (mAV (AV.int .i64) cB r.2)] := by
  induction n with
  | zero => intro _append0 a1 m0 r h; simp [tree_Tree_check] at h
  | succ n Hslf_tree_Tree_check =>
   intro _append0 a1 m0 r h
   refine conH_of (T := TT0) tt_ok Try.func35 (c := _) (by unfold Try.f35; rfl) Try.ntmps35 (rs := [.tmp 6]) (by rw [Try.results35]) (by unfold Try.f35; rfl) (by simp) (k := 1) rfl rfl ?_
   try simp only [argsCh]
   have F := True.intro
   dsimp only [tree_Tree_check] at h
   refine rs0 ?_
   iterate 2 refine vp ?_
   refine vn ?_
   refine jn (fun _ : Unit => { ch := [(1, .int .i64 a1), (2, .mp 0), (3, .hptr 1 0 0)], hp := [.map (mAV (AV.int .i64) cB m0), .var [.int .i64 _append0.Kind, .int .i64 _append0.N, aL cTreeTree _append0.Kids]], base := 1, n := 96, cond := True, gl := G0 }) (fun x => tree_Tree_check_J1 n _append0 a1 m0 (tree_Tree_check n) = some r) ?_ ?_
   clear h
   rintro _ h
   dsimp only [tree_Tree_check_J1] at h
   try dsimp only
   refine Wp.seq ?_
   refine rs0 ?_
   iterate 4 refine vp ?_
   refine vn ?_
   refine Wp.block ?_
   refine lp [some 0] (fun x : (List (Int × Bool)) × Int => { ch := [(1, .int .i64 a1), (2, .mp 0), (82, aL cTreeTree _append0.Kids), (83, .int .i64 (_append0.Kids.length : Int)), (84, .int .i64 x.2)], hp := [.map (mAV (AV.int .i64) cB x.1)], base := 1, n := 96, cond := True, gl := G0 }) (fun m x => tree_Tree_check_L2 _append0 a1 (tree_Tree_check n) m x.1 x.2 = some r) n (m0, 0) h ?_
   rintro rec_n2 ⟨m5550, p5551⟩ h
   dsimp only [tree_Tree_check_L2] at h
   try dsimp only
   refine rs0 ?_
   refine vp ?_
   refine vn ?_
   refine Wp.seq ?_
   refine sD h F (fun F h => ?_) fun F h => ?_
   refine cF ?_
   refine Wp.exit ?_
   refine sh ?_
   refine rs0 ?_
   refine vp ?_
   refine vn ?_
   cases h
   exact Wp.ret (enH [some 0])
   refine cT ?_
   refine Wp.skip ?_
   refine sh ?_
   refine Wp.seq ?_
   refine Wp.block ?_
   refine rs0 ?_
   refine eI h F fun x5556 F h => ?_
   iterate 4 refine vp ?_
   refine vn ?_
   refine rs0 ?_
   iterate 3 refine vp ?_
   obtain ⟨⟨r5558, q5559⟩, hr5557, h⟩ := obind h
   dsimp only at h
   refine vh [0] (Hslf_tree_Tree_check hr5557) ?_
   refine vp ?_
   refine vn ?_
   refine rs0 ?_
   iterate 2 refine vp ?_
   refine vn ?_
   refine sB h F (fun F h => ?_) fun F h => ?_
   refine cF ?_
   refine Wp.skip ?_
   refine sh ?_
   refine rg0 ?_
   iterate 2 refine vp ?_
   refine vn ?_
   exact nx [some 0] (q5559, (IntKind.i64.wrap (p5551 + 1))) h
   refine cT ?_
   refine rs0 ?_
   iterate 2 refine vp ?_
   refine vn ?_
   cases h
   exact Wp.ret (enH [some 0])
   refine Wp.block ?_
   refine rs0 ?_
   iterate 4 refine vp ?_
   refine sD h F (fun F h => ?_) fun F h => ?_
   refine vg ?_
   refine vg ?_
   refine vg ?_
   iterate 2 refine vp ?_
   refine vn ?_
   refine sD h F (fun F h => ?_) fun F h => ?_
   refine cF ?_
   refine rs0 ?_
   iterate 4 refine vp ?_
   refine sB h F (fun F h => ?_) fun F h => ?_
   refine vs ?_
   refine vs ?_
   refine vs ?_
   refine vs ?_
   iterate 2 refine vp ?_
   refine vg ?_
   refine vg ?_
   refine vg ?_
   refine vg ?_
   refine sB h F (fun F h => ?_) fun F h => ?_
   refine vs ?_
   refine vs ?_
   refine vs ?_
   refine vg ?_
   iterate 2 refine vp ?_
   refine vn ?_
   refine cF ?_
   refine rs0 ?_
   iterate 4 refine vp ?_
   refine vs ?_
   refine vs ?_
   refine vs ?_
   refine vs ?_
   refine vs ?_
   refine vs ?_
   refine vs ?_
   refine vs ?_
   refine vs ?_
   iterate 2 refine vp ?_
   refine vn ?_
   refine cF ?_
   refine rs0 ?_
   iterate 4 refine vp ?_
   refine vs ?_
   refine vs ?_
   refine vs ?_
   refine vs ?_
   iterate 2 refine vp ?_
   refine vn ?_
   refine cF ?_
   refine rs0 ?_
   iterate 4 refine vp ?_
   refine vn ?_
   refine cF ?_
   refine rs0 ?_
   iterate 5 refine vp ?_
   refine vn ?_
   refine sD h F (fun F h => ?_) fun F h => ?_
   refine cF ?_
   refine rs0 ?_
   iterate 3 refine vp ?_
   obtain ⟨r5563, hr5562, h⟩ := obind h
   refine vh [1] (con_slices_ContainsFunc_tree_Tree_c59 hr5562) ?_
   refine vp ?_
   refine vn ?_
   refine sB h F (fun F h => ?_) fun F h => ?_
   refine cF ?_
   refine Wp.skip ?_
   exact nx [some 0, some 1] () h
   refine cT ?_
   refine rs0 ?_
   refine vp ?_
   refine vn ?_
   cases h
   exact Wp.ret (enH [some 0])
   refine cT ?_
   refine rs0 ?_
   refine vp ?_
   refine vn ?_
   cases h
   exact Wp.ret (enH [some 0])
   refine vg ?_
   refine vg ?_
   refine vg ?_
   refine vg ?_
   iterate 2 refine vp ?_
   refine vn ?_
   refine sB h F (fun F h => ?_) fun F h => ?_
   refine cF ?_
   refine rs0 ?_
   iterate 4 refine vp ?_
   refine vs ?_
   refine vs ?_
   refine vs ?_
   refine vs ?_
   refine vs ?_
   refine vs ?_
   refine vs ?_
   refine vs ?_
   refine vs ?_
   iterate 2 refine vp ?_
   refine vn ?_
   refine cF ?_
   refine rs0 ?_
   iterate 4 refine vp ?_
   refine vs ?_
   refine vs ?_
   refine vs ?_
   refine vs ?_
   iterate 2 refine vp ?_
   refine vn ?_
   refine cF ?_
   refine rs0 ?_
   iterate 4 refine vp ?_
   refine vn ?_
   refine cF ?_
   refine rs0 ?_
   iterate 5 refine vp ?_
   refine vn ?_
   refine sD h F (fun F h => ?_) fun F h => ?_
   refine cF ?_
   refine rs0 ?_
   iterate 3 refine vp ?_
   obtain ⟨r5561, hr5560, h⟩ := obind h
   refine vh [1] (con_slices_ContainsFunc_tree_Tree_c59 hr5560) ?_
   refine vp ?_
   refine vn ?_
   refine sB h F (fun F h => ?_) fun F h => ?_
   refine cF ?_
   refine Wp.skip ?_
   exact nx [some 0, some 1] () h
   refine cT ?_
   refine rs0 ?_
   refine vp ?_
   refine vn ?_
   cases h
   exact Wp.ret (enH [some 0])
   refine cT ?_
   refine rs0 ?_
   refine vp ?_
   refine vn ?_
   cases h
   exact Wp.ret (enH [some 0])
   refine cT ?_
   refine rs0 ?_
   refine vp ?_
   refine vn ?_
   cases h
   exact Wp.ret (enH [some 0])
   refine vg ?_
   refine vg ?_
   refine vg ?_
   refine vg ?_
   iterate 2 refine vp ?_
   refine sD h F (fun F h => ?_) fun F h => ?_
   refine vg ?_
   refine vg ?_
   refine vg ?_
   refine vg ?_
   refine sB h F (fun F h => ?_) fun F h => ?_
   refine vs ?_
   refine vs ?_
   refine vs ?_
   refine vg ?_
   iterate 2 refine vp ?_
   refine vn ?_
   refine cF ?_
   refine rs0 ?_
   iterate 4 refine vp ?_
   refine vg ?_
   refine vg ?_
   refine vg ?_
   refine vg ?_
   refine sD h F (fun F h => ?_) fun F h => ?_
   refine vg ?_
   refine vg ?_
   refine vg ?_
   refine vg ?_
   refine vg ?_
   iterate 2 refine vp ?_
   refine vn ?_
   refine sD h F (fun F h => ?_) fun F h => ?_
   refine cF ?_
   refine rs0 ?_
   iterate 4 refine vp ?_
   refine vg ?_
   refine vg ?_
   refine vg ?_
   refine vg ?_
   iterate 2 refine vp ?_
   refine vn ?_
   refine sB h F (fun F h => ?_) fun F h => ?_
   refine cF ?_
   refine rs0 ?_
   iterate 4 refine vp ?_
   refine vn ?_
   refine cT ?_
   refine rs0 ?_
   iterate 4 refine vp ?_
   refine vn ?_
   refine rs0 ?_
   refine vp ?_
   refine vn ?_
   cases h
   exact Wp.ret (enH [some 0])
   refine cT ?_
   refine rs0 ?_
   refine vp ?_
   refine vn ?_
   cases h
   exact Wp.ret (enH [some 0])
   refine cT ?_
   refine rs0 ?_
   refine vp ?_
   refine vn ?_
   cases h
   exact Wp.ret (enH [some 0])
   refine vs ?_
   refine vs ?_
   refine vs ?_
   refine vs ?_
   refine vg ?_
   iterate 2 refine vp ?_
   refine vn ?_
   refine cT ?_
   refine rs0 ?_
   refine vp ?_
   refine vn ?_
   cases h
   exact Wp.ret (enH [some 0])
   refine vg ?_
   refine vg ?_
   refine vg ?_
   refine vg ?_
   iterate 2 refine vp ?_
   refine vn ?_
   refine sB h F (fun F h => ?_) fun F h => ?_
   refine cF ?_
   refine rs0 ?_
   iterate 4 refine vp ?_
   refine vg ?_
   refine vg ?_
   refine vg ?_
   refine vg ?_
   refine sD h F (fun F h => ?_) fun F h => ?_
   refine vg ?_
   refine vg ?_
   refine vg ?_
   refine vg ?_
   refine vg ?_
   iterate 2 refine vp ?_
   refine vn ?_
   refine sD h F (fun F h => ?_) fun F h => ?_
   refine cF ?_
   refine rs0 ?_
   iterate 4 refine vp ?_
   refine vg ?_
   refine vg ?_
   refine vg ?_
   refine vg ?_
   iterate 2 refine vp ?_
   refine vn ?_
   refine sB h F (fun F h => ?_) fun F h => ?_
   refine cF ?_
   refine rs0 ?_
   iterate 4 refine vp ?_
   refine vn ?_
   refine cT ?_
   refine rs0 ?_
   iterate 4 refine vp ?_
   refine vn ?_
   refine rs0 ?_
   refine vp ?_
   refine vn ?_
   cases h
   exact Wp.ret (enH [some 0])
   refine cT ?_
   refine rs0 ?_
   refine vp ?_
   refine vn ?_
   cases h
   exact Wp.ret (enH [some 0])
   refine cT ?_
   refine rs0 ?_
   refine vp ?_
   refine vn ?_
   cases h
   exact Wp.ret (enH [some 0])
   refine vs ?_
   refine vs ?_
   refine vs ?_
   refine vs ?_
   refine vg ?_
   iterate 2 refine vp ?_
   refine vn ?_
   refine cT ?_
   refine rs0 ?_
   refine vp ?_
   refine vn ?_
   cases h
   exact Wp.ret (enH [some 0])
   refine cT ?_
   refine rs0 ?_
   refine vp ?_
   refine vn ?_
   cases h
   exact Wp.ret (enH [some 0])
   refine vs ?_
   refine vs ?_
   refine vs ?_
   refine vs ?_
   refine vs ?_
   refine vs ?_
   refine vs ?_
   refine vs ?_
   iterate 2 refine vp ?_
   refine vn ?_
   refine cT ?_
   refine rs0 ?_
   refine vp ?_
   refine vn ?_
   cases h
   exact Wp.ret (enH [some 0])
   refine cT ?_
   refine rs0 ?_
   refine vp ?_
   refine vn ?_
   cases h
   exact Wp.ret (enH [some 0])
   refine vs ?_
   refine vs ?_
   refine vs ?_
   iterate 2 refine vp ?_
   refine vn ?_
   refine cT ?_
   refine rs0 ?_
   refine vp ?_
   refine vn ?_
   cases h
   exact Wp.ret (enH [some 0])

theorem con_graph_Reachable_1 {n : Nat} {n_0 : Str} {b0 : ApiRung} {r : (List Str)} (h : graph_Reachable_1 n n_0 b0 = some r) : ConH Try.prog G0 68 [.str n_0, .hptr 0 0 0] [.var [.str b0.Label, aL cApiContact b0.Contacts, aL cApiCoil b0.Coils, .str b0.Jump]] (aL cS r) [.var [.str b0.Label, aL cApiContact b0.Contacts, aL cApiCoil b0.Coils, .str b0.Jump]] := by
  refine conH_of (T := TT0) tt_ok Try.func68 (c := _) (by unfold Try.f68; rfl) Try.ntmps68 (rs := [.tmp 3]) (by rw [Try.results68]) (by unfold Try.f68; rfl) (by simp) (k := 1) rfl rfl ?_
  try simp only [argsCh]
  have F := True.intro
  dsimp only [graph_Reachable_1] at h
  refine rs0 ?_
  refine vp ?_
  refine vn ?_
  refine rs0 ?_
  refine vp ?_
  refine vn ?_
  refine Wp.seq ?_
  refine rs0 ?_
  iterate 2 refine vp ?_
  obtain ⟨r4481, hr4480, h⟩ := obind h
  refine vc (con_graph_Outgoing hr4480) ?_
  iterate 2 refine vp ?_
  refine vn ?_
  refine Wp.block ?_
  refine lp [some 0, none] (fun x : Int × (List Str) => { ch := [(1, .hptr 0 0 0), (4, .sl 1 0 x.2.length), (9, aL (cI .i64) r4481), (10, .int .i64 (r4481.length : Int)), (11, .int .i64 x.1)], hp := [.var [.str b0.Label, aL cApiContact b0.Contacts, aL cApiCoil b0.Coils, .str b0.Jump], .arr 1 x.2.length (rw (x.2.map cS))], base := 1, n := 26, cond := True, gl := G0 }) (fun m x => graph_Reachable_1_L1 b0 r4481 m x.1 x.2 = some r) n (0, []) h ?_
  rintro rec_n1 ⟨p4485, p4486⟩ h
  dsimp only [graph_Reachable_1_L1] at h
  try dsimp only
  refine rs0 ?_
  refine vp ?_
  refine vn ?_
  refine Wp.seq ?_
  refine sD h F (fun F h => ?_) fun F h => ?_
  refine cF ?_
  refine Wp.exit ?_
  refine sh ?_
  refine rs0 ?_
  iterate 2 refine vp ?_
  refine vn ?_
  cases h
  exact Wp.ret (enH [some 0])
  refine cT ?_
  refine Wp.skip ?_
  refine sh ?_
  refine Wp.seq ?_
  refine Wp.block ?_
  refine rs0 ?_
  refine eI h F fun x4490 F h => ?_
  iterate 3 refine vp ?_
  refine vn ?_
  refine rg (fun d => Nat.beq d 23) ?_
  iterate 4 refine vp ?_
  refine eI h F fun x4491 F h => ?_
  iterate 4 refine vp ?_
  refine gd h F fun F h => ?_
  refine vp ?_
  refine nm cS h F fun l4492 F h => ?_
  refine vp ?_
  refine vn ?_
  refine sh ?_
  refine rg0 ?_
  iterate 2 refine vp ?_
  refine vn ?_
  exact nx [some 0, some 2] ((IntKind.i64.wrap (p4485 + 1)), l4492) h

theorem con_slices_ContainsFunc_tree_Tree_c38_36 {slf_tree_Tree_eval : TreeTree → (List Bool) → Option (Bool)} (Hslf_tree_Tree_eval : ∀ {t0 : TreeTree} {on1 : List Bool} {r : Bool}, slf_tree_Tree_eval t0 on1 = some r → Con Try.prog G0 19 [.agg [.int .i64 t0.Kind, .int .i64 t0.N, aL cTreeTree t0.Kids], aL cB on1] (.bool r) []) {n : Nat} {s0 : List TreeTree} {b1 : List Bool} {r : Bool} (h : slices_ContainsFunc_tree_Tree_c38_36 slf_tree_Tree_eval n s0 b1 = some r) : ConH Try.prog G0 37 [aL cTreeTree s0, .clos 38 [] [.hptr 0 0 0]] [.var [.clos 36 [] [.hptr 1 0 0]], .var [aL cB b1]] (.bool r) [.var [.clos 36 [] [.hptr 1 0 0]], .var [aL cB b1]] := by
  refine conH_of (T := TT0) tt_ok Try.func37 (c := _) (by unfold Try.f37; rfl) Try.ntmps37 (rs := [.tmp 4]) (by rw [Try.results37]) (by unfold Try.f37; rfl) (by simp) (k := 2) rfl rfl ?_
  try simp only [argsCh]
  have F := True.intro
  dsimp only [slices_ContainsFunc_tree_Tree_c38_36] at h
  refine rs0 ?_
  refine vp ?_
  refine vn ?_
  refine rs0 ?_
  iterate 2 refine vp ?_
  obtain ⟨r5600, hr5599, h⟩ := obind h
  refine vh [0, 1] (con_slices_IndexFunc_tree_Tree_c38_36 Hslf_tree_Tree_eval hr5599) ?_
  iterate 2 refine vp ?_
  refine vn ?_
  cases h
  exact Wp.ret (enH [some 0, some 1])

theorem con_graph_TopoSort_1 {n : Nat} {n_0 : Str} {b0 : ApiRung} {m2 : List (Str × Bool)} {r : Bool} (h : graph_TopoSort_1 n n_0 b0 m2 = some r) : ConH Try.prog G0 47 [.str n_0, .hptr 0 0 0, .hptr 1 0 0] [.var [.str b0.Label, aL cApiContact b0.Contacts, aL cApiCoil b0.Coils, .str b0.Jump], .var [.mp 2], .map (mAV AV.str cB m2)] (.bool r) [.var [.str b0.Label, aL cApiContact b0.Contacts, aL cApiCoil b0.Coils, .str b0.Jump], .var [.mp 2], .map (mAV AV.str cB m2)] := by
  refine conH_of (T := TT0) tt_ok Try.func47 (c := _) (by unfold Try.f47; rfl) Try.ntmps47 (rs := [.tmp 4]) (by rw [Try.results47]) (by unfold Try.f47; rfl) (by simp) (k := 3) rfl rfl ?_
  try simp only [argsCh]
  have F := True.intro
  dsimp only [graph_TopoSort_1] at h
  refine rs0 ?_
  refine vp ?_
  refine vn ?_
  refine rs0 ?_
  iterate 2 refine vp ?_
  obtain ⟨r3446, hr3445, h⟩ := obind h
  refine vc (con_graph_Incoming hr3445) ?_
  refine vp ?_
  obtain ⟨r3448, hr3447, h⟩ := obind h
  refine vh [1, 2, 0] (con_slices_ContainsFunc_int_c50 hr3447) ?_
  iterate 2 refine vp ?_
  refine vn ?_
  cases h
  exact Wp.ret (enH [some 0, some 1, some 2])

theorem con_ref12_Reachable {n : Nat} {r_0 : ApiRung} {node1 : Str} {r : (List Str)} (h : ref12_Reachable n r_0 node1 = some r) : Con Try.prog G0 8 [.agg (cApiRung r_0), .str node1] (aL cS r) [] := by
  refine con_of (T := TT0) tt_ok Try.func8 (c := _) (by unfold Try.f8; rfl) Try.ntmps8 (rs := [.tmp 4]) (by rw [Try.results8]) (by unfold Try.f8; rfl) (by simp) ?_
  simp only [argsCh]
  have F := True.intro
  dsimp only [ref12_Reachable] at h
  refine rs0 ?_
  iterate 2 refine vp ?_
  refine vn ?_
  refine rs0 ?_
  iterate 2 refine vp ?_
  obtain ⟨r1058, hr1057, h⟩ := obind h
  refine vc (con_ref12_spread hr1057) ?_
  refine vp ?_
  refine vn ?_
  cases h
  exact Wp.ret en0

end Go.Proofs.Ytcpbhkplgnhmkaa
