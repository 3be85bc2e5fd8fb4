/- Contracts: models of functions are right. No law is proved here. -/
import Derived.Test.YtaebdeidbibfkaaGreatDoorUGMod
import Derived.Test.YtaebdeidbibfkaaGreatDoorUTau
import Derived.Test.YtaebdeidbibfkaaGreatDoorUSoz
import Derived.Test.YtaebdeidbibfkaaGreatDoorUShz
namespace Go.Proofs.YtaebdeidbibfkaaGreatDoor
open Go.Av Go.G
attribute [-simp] Int.natCast_tdiv_eq_ediv
attribute [local simp] runf guardA opf St.ev Go.Av.look St.setd constAV constAV0 opBin opLen intBin St.need lookT TT0 tab resA resOne resAll blt_dec ble_dec beq_dec isPure
attribute [local simp] opMakeSlice opCopy opIndexAddr opLoad opStore St.mem St.rows opUn calleeA toArgs toArg toArg0 toArgs0 shift shift0 shift1 splice cellsOf isFree ofCells TS.isAgg isCell strBin opConvert
attribute [local simp] opSlice3 opClear fz_clear opBuildSlice fillA opAppend eqC eqA cksB ckB St.newBox runI valKind withinB readsHp refsD refs noSl opFieldAddr opBuild opMax opMin placeOf Op.operands Call.operands opIndex opExtract opSlice opField partA
attribute [local simp] loA hiA lenA opMakeMap opLookup opMapUpdate keyOk findA_int findA_str findA_bool putA_strB putA_strI putA_strS putA_intB putA_intI putA_intS putA_boolI putA_boolB byteRow_rwN bytesOf_rwN opBytesStr mAV_length mAV_nil cA1 cA2 cA3 cA4 opNilCheck opMakeFunc opRange
attribute [local simp] aL cI cB cS cL rw_map fz_rw fz_const dropRow_rw fz_append fz_set fz_copy fz_rows rowLen_rw rowsLen_nil rowsLen_cons rowsLen_append rowsLen_map rowsLen_dm rowsLen_tm rowsLen_take rowsLen_drop rowsLen_replicate take_map_len take_map_le drop_map_len take_drop_len chunks isScalar isScalar0
attribute [local simp] putBack putAt objMap mapC mapA mapT map0 bid rid memB passed closedB argsH argH argH0 argsH0 objIds ids0 idsC isLocT isLocA isLocC isLoc0 LocObj
attribute [local congr] bind_congr1 map_congr1 cond_congr1
attribute [local simp] cApiAddr cApiContact cApiCoil cApiRung cReducePair cReduceEdge cRef15Edge cTreeTree_eq TreeTree_Kind_mk TreeTree_N_mk TreeTree_Kids_mk eta_TreeTree cRef14Tree_eq Ref14Tree_Kind_mk Ref14Tree_N_mk Ref14Tree_Kids_mk eta_Ref14Tree
variable [Drawn]
set_option maxHeartbeats 4000000
set_option linter.unusedSectionVars false
set_option maxRecDepth 20000
set_option linter.unusedSimpArgs false
set_option linter.unusedVariables false

theorem con_tree_Leaves (n : Nat) : ∀ {t0 : TreeTree} {r : (List Int)}, tree_Leaves n t0 = some r → Con Tryz.prog G0 73 [.agg [.int .i64 t0.Kind, .int .i64 t0.N, aL cTreeTree t0.Kids]] (aL (cI .i64) r) [] := by
  induction n with
  | zero => intro t0 r h; simp [tree_Leaves] at h
  | succ n Hslf_tree_Leaves =>
   intro t0 r h
   refine con_of (T := TT0) tt_ok Tryz.func73 (c := _) (by unfold Tryz.f73; rfl) Tryz.ntmps73 (rs := [.tmp 2]) (by rw [Tryz.results73]) (by unfold Tryz.f73; rfl) (by simp) ?_
   simp only [argsCh]
   have F := True.intro
   dsimp only [tree_Leaves] at h
   refine rs0 ?_
   iterate 2 refine vp ?_
   refine vn ?_
   refine Wp.seq ?_
   refine rs0 ?_
   iterate 2 refine vp ?_
   refine vn ?_
   refine Wp.block ?_
   refine rs0 ?_
   iterate 2 refine vp ?_
   refine vn ?_
   refine sB h F (fun F h => ?_) fun F h => ?_
   refine cF ?_
   refine jn (fun p4410 : Bool => { ch := [(1, .hptr 0 0 0), (13, .bool p4410)], hp := [.var [.int .i64 t0.Kind, .int .i64 t0.N, aL cTreeTree t0.Kids]], base := 0, n := 29, cond := True, gl := G0 }) (fun x => tree_Leaves_J1 n t0 (tree_Leaves n) x = some r) ?_ ?_
   clear h
   rintro p4410 h
   dsimp only [tree_Leaves_J1] at h
   try dsimp only
   refine sB h F (fun F h => ?_) fun F h => ?_
   refine cF ?_
   refine Wp.skip ?_
   refine sh ?_
   refine rs0 ?_
   refine vp ?_
   refine vn ?_
   cases h
   exact Wp.ret en0
   refine cT ?_
   refine rs0 ?_
   refine vp ?_
   refine vn ?_
   refine Wp.seq ?_
   refine rs0 ?_
   iterate 4 refine vp ?_
   refine vn ?_
   refine Wp.block ?_
   refine lp [none] (fun x : Int × (List Int) => { ch := [(3, .sl 0 0 x.2.length), (17, aL cTreeTree t0.Kids), (18, .int .i64 (t0.Kids.length : Int)), (19, .int .i64 x.1)], hp := [.arr 1 x.2.length (rw (x.2.map (cI .i64)))], base := 0, n := 29, cond := True, gl := G0 }) (fun m x => tree_Leaves_L2 t0 (tree_Leaves n) m x.1 x.2 = some r) n (0, []) h ?_
   rintro rec_n2 ⟨p4414, p4415⟩ h
   dsimp only [tree_Leaves_L2] at h
   try dsimp only
   refine rs0 ?_
   refine vp ?_
   refine vn ?_
   refine Wp.seq ?_
   refine sD h F (fun F h => ?_) fun F h => ?_
   refine cF ?_
   refine Wp.exit ?_
   refine sh ?_
   refine rs0 ?_
   iterate 2 refine vp ?_
   refine vn ?_
   cases h
   exact Wp.ret en0
   refine cT ?_
   refine Wp.skip ?_
   refine sh ?_
   refine Wp.seq ?_
   refine Wp.block ?_
   refine rs0 ?_
   refine eI h F fun x4420 F h => ?_
   iterate 4 refine vp ?_
   refine vn ?_
   refine rg (fun d => Nat.beq d 26) ?_
   iterate 2 refine vp ?_
   obtain ⟨r4422, hr4421, h⟩ := obind h
   refine vc (Hslf_tree_Leaves hr4421) ?_
   refine gd h F fun F h => ?_
   refine vp ?_
   refine nm (cI .i64) h F fun l4423 F h => ?_
   refine vp ?_
   refine vn ?_
   refine sh ?_
   refine rg0 ?_
   iterate 2 refine vp ?_
   refine vn ?_
   exact nx [some 2] ((IntKind.i64.wrap (p4414 + 1)), l4423) h
   refine rs0 ?_
   iterate 2 refine vp ?_
   refine vn ?_
   refine sB h F (fun F h => ?_) fun F h => ?_
   refine cF ?_
   refine rg0 ?_
   iterate 2 refine vp ?_
   refine vn ?_
   exact nx [some 0] (t0.Kind == 2) h
   refine cT ?_
   refine Wp.skip ?_
   exact nx [some 0] (t0.Kind == 1) h
   refine cT ?_
   refine rs0 ?_
   iterate 3 refine vp ?_
   refine nl (cI .i64) h F fun l4409 m F h => ?_
   try simp only [m]
   clear m
   refine vp ?_
   refine vn ?_
   cases h
   exact Wp.ret en0

theorem con_ref14_Leaves (n : Nat) : ∀ {t0 : Ref14Tree} {r : (List Int)}, ref14_Leaves n t0 = some r → Con Tryz.prog G0 32 [.agg [.int .i64 t0.Kind, .int .i64 t0.N, aL cRef14Tree t0.Kids]] (aL (cI .i64) r) [] := by
  induction n with
  | zero => intro t0 r h; simp [ref14_Leaves] at h
  | succ n Hslf_ref14_Leaves =>
   intro t0 r h
   refine con_of (T := TT0) tt_ok Tryz.func32 (c := _) (by unfold Tryz.f32; rfl) Tryz.ntmps32 (rs := [.tmp 2]) (by rw [Tryz.results32]) (by unfold Tryz.f32; rfl) (by simp) ?_
   simp only [argsCh]
   have F := True.intro
   dsimp only [ref14_Leaves] at h
   refine rs0 ?_
   iterate 2 refine vp ?_
   refine vn ?_
   refine Wp.seq ?_
   refine rs0 ?_
   iterate 3 refine vp ?_
   refine vn ?_
   refine sB h F (fun F h => ?_) fun F h => ?_
   refine cF ?_
   refine Wp.skip ?_
   refine sh ?_
   refine jn (fun _ : Unit => { ch := [(1, .hptr 0 0 0)], hp := [.var [.int .i64 t0.Kind, .int .i64 t0.N, aL cRef14Tree t0.Kids]], base := 0, n := 35, cond := True, gl := G0 }) (fun x => ref14_Leaves_J1 n t0 (ref14_Leaves n) = some r) ?_ ?_
   clear h
   rintro _ h
   dsimp only [ref14_Leaves_J1] at h
   try dsimp only
   refine rs0 ?_
   refine vp ?_
   refine vn ?_
   refine Wp.seq ?_
   refine rs0 ?_
   refine vp ?_
   refine vn ?_
   refine Wp.block ?_
   refine lp [some 0, none] (fun x : (List Int) × Int => { ch := [(1, .hptr 0 0 0), (3, .sl 1 0 x.1.length), (4, .int .i64 x.2)], hp := [.var [.int .i64 t0.Kind, .int .i64 t0.N, aL cRef14Tree t0.Kids], .arr 1 x.1.length (rw (x.1.map (cI .i64)))], base := 0, n := 35, cond := True, gl := G0 }) (fun m x => ref14_Leaves_L2 t0 (ref14_Leaves n) m x.1 x.2 = some r) n ([], 0) h ?_
   rintro rec_n2 ⟨p9531, p9532⟩ h
   dsimp only [ref14_Leaves_L2] at h
   try dsimp only
   refine Wp.seq ?_
   refine rs0 ?_
   iterate 5 refine vp ?_
   refine vn ?_
   refine sD h F (fun F h => ?_) fun F h => ?_
   refine cF ?_
   refine Wp.exit ?_
   refine sh ?_
   refine rs0 ?_
   iterate 2 refine vp ?_
   refine vn ?_
   cases h
   exact Wp.ret en0
   refine cT ?_
   refine Wp.skip ?_
   refine sh ?_
   refine Wp.seq ?_
   refine Wp.block ?_
   refine rg (fun d => Nat.beq d 33) ?_
   iterate 4 refine vp ?_
   refine eI h F fun x9537 F h => ?_
   iterate 2 refine vp ?_
   obtain ⟨r9539, hr9538, h⟩ := obind h
   refine vc (Hslf_ref14_Leaves hr9538) ?_
   refine gd h F fun F h => ?_
   refine vp ?_
   refine nm (cI .i64) h F fun l9540 F h => ?_
   refine vp ?_
   refine vn ?_
   refine sh ?_
   refine rg0 ?_
   iterate 3 refine vp ?_
   refine vn ?_
   exact nx [some 0, some 2] (l9540, (IntKind.i64.wrap (p9532 + 1))) h
   refine rs0 ?_
   iterate 4 refine vp ?_
   refine sB h F (fun F h => ?_) fun F h => ?_
   refine vs ?_
   refine vs ?_
   refine vs ?_
   refine vp ?_
   refine vn ?_
   refine cF ?_
   refine Wp.skip ?_
   exact nx [some 0] () h
   refine vg ?_
   refine vg ?_
   refine vg ?_
   refine vp ?_
   refine vn ?_
   refine sB h F (fun F h => ?_) fun F h => ?_
   refine cF ?_
   refine Wp.skip ?_
   exact nx [some 0] () h
   refine cT ?_
   refine rs0 ?_
   refine vp ?_
   refine vn ?_
   cases h
   exact Wp.ret en0
   refine cT ?_
   refine rs0 ?_
   iterate 3 refine vp ?_
   refine nl (cI .i64) h F fun l9527 m F h => ?_
   try simp only [m]
   clear m
   refine vp ?_
   refine vn ?_
   cases h
   exact Wp.ret en0

theorem con_law14_Of (n : Nat) : ∀ {t0 : TreeTree} {r : Ref14Tree}, law14_Of n t0 = some r → Con Tryz.prog G0 13 [.agg [.int .i64 t0.Kind, .int .i64 t0.N, aL cTreeTree t0.Kids]] (.agg [.int .i64 r.Kind, .int .i64 r.N, aL cRef14Tree r.Kids]) [] := by
  induction n with
  | zero => intro t0 r h; simp [law14_Of] at h
  | succ n Hslf_law14_Of =>
   intro t0 r h
   refine con_of (T := TT0) tt_ok Tryz.func13 (c := _) (by unfold Tryz.f13; rfl) Tryz.ntmps13 (rs := [.cell 2 36]) (by rw [Tryz.results13]) (by unfold Tryz.f13; rfl) (by simp) ?_
   simp only [argsCh]
   have F := True.intro
   dsimp only [law14_Of] at h
   refine rs0 ?_
   iterate 2 refine vp ?_
   refine vn ?_
   refine rs0 ?_
   iterate 7 refine vp ?_
   refine vn ?_
   refine Wp.seq ?_
   refine rs0 ?_
   iterate 4 refine vp ?_
   refine vn ?_
   refine Wp.block ?_
   refine lp [some 1, some 2, none] (fun x : Int × (List Ref14Tree) => { ch := [(2, .hptr 0 0 0), (3, .hptr 1 0 0), (12, aL cTreeTree t0.Kids), (13, .int .i64 (t0.Kids.length : Int)), (14, .int .i64 x.1)], hp := [.var [.int .i64 0, .int .i64 0, .nilsl], .var [.int .i64 t0.Kind, .int .i64 t0.N, .sl 2 0 x.2.length], .arr 3 x.2.length (rw (x.2.map cRef14Tree))], base := 0, n := 27, cond := True, gl := G0 }) (fun m x => law14_Of_L1 t0 (law14_Of n) m x.1 x.2 = some r) n (0, []) h ?_
   rintro rec_n1 ⟨p10357, p10358⟩ h
   dsimp only [law14_Of_L1] at h
   try dsimp only
   refine rs0 ?_
   refine vp ?_
   refine vn ?_
   refine Wp.seq ?_
   refine sD h F (fun F h => ?_) fun F h => ?_
   refine cF ?_
   refine Wp.exit ?_
   refine sh ?_
   refine rs0 ?_
   iterate 2 refine vp ?_
   refine vn ?_
   cases h
   exact Wp.ret en0
   refine cT ?_
   refine Wp.skip ?_
   refine sh ?_
   refine Wp.seq ?_
   refine Wp.block ?_
   refine rs0 ?_
   refine eI h F fun x10363 F h => ?_
   iterate 4 refine vp ?_
   refine vn ?_
   refine dw1 (fun d => Nat.beq d 23 || Nat.beq d 1023) [1, 2, 3] ?_
   refine du 3 ?_
   obtain ⟨r10365, hr10364, h⟩ := obind h
   refine dc (Hslf_law14_Of hr10364) ?_
   refine du 1 ?_
   refine gd h F fun F h => ?_
   refine db ?_
   refine nm cRef14Tree h F fun l10366 F h => ?_
   refine du 1 ?_
   refine db ?_
   refine dn ?_
   refine sh ?_
   refine rg0 ?_
   iterate 2 refine vp ?_
   refine vn ?_
   exact nx [some 0, some 1, some 4] ((IntKind.i64.wrap (p10357 + 1)), l10366) h

theorem con_slices_Min_int {n : Nat} {x_0 : List Int} {r : Int} (h : slices_Min_int n x_0 = some r) : Con Tryz.prog G0 72 [aL (cI .i64) x_0] (.int .i64 r) [] := by
  refine con_of (T := TT0) tt_ok Tryz.func72 (c := _) (by unfold Tryz.f72; rfl) Tryz.ntmps72 (rs := [.tmp 2]) (by rw [Tryz.results72]) (by unfold Tryz.f72; rfl) (by simp) ?_
  simp only [argsCh]
  have F := True.intro
  dsimp only [slices_Min_int] at h
  refine rs0 ?_
  refine vp ?_
  refine vn ?_
  refine Wp.seq ?_
  refine rs0 ?_
  iterate 3 refine vp ?_
  refine vn ?_
  refine sD h F (fun F h => ?_) fun F h => ?_
  refine cF ?_
  refine Wp.skip ?_
  refine sh ?_
  refine rs0 ?_
  refine vp ?_
  refine eN (m := 0) h F fun x4426 F h => ?_
  iterate 3 refine vp ?_
  refine vn ?_
  refine Wp.seq ?_
  refine rs0 ?_
  refine vp ?_
  refine vn ?_
  refine Wp.block ?_
  refine lp [] (fun x : Int × Int => { ch := [(0, aL (cI .i64) x_0), (3, .int .i64 x.1), (4, .int .i64 x.2)], hp := [], base := 0, n := 25, cond := True, gl := G0 }) (fun m x => slices_Min_int_L1 x_0 m x.1 x.2 = some r) n (x4426, 1) h ?_
  rintro rec_n1 ⟨x4428, p4429⟩ h
  dsimp only [slices_Min_int_L1] at h
  try dsimp only
  refine Wp.seq ?_
  refine rs0 ?_
  iterate 4 refine vp ?_
  refine vn ?_
  refine sD h F (fun F h => ?_) fun F h => ?_
  refine cF ?_
  refine Wp.exit ?_
  refine sh ?_
  refine rs0 ?_
  iterate 2 refine vp ?_
  refine vn ?_
  cases h
  exact Wp.ret en0
  refine cT ?_
  refine Wp.skip ?_
  refine sh ?_
  refine Wp.seq ?_
  refine Wp.block ?_
  refine rg0 ?_
  iterate 3 refine vp ?_
  refine eI h F fun x4431 F h => ?_
  iterate 4 refine vp ?_
  refine vn ?_
  refine sh ?_
  refine rg0 ?_
  iterate 3 refine vp ?_
  refine vn ?_
  exact nx [] ((imin x4428 x4431), (IntKind.i64.wrap (p4429 + 1))) h
  refine cT ?_
  refine rg0 ?_
  cases h

theorem con_graph_TopoSort_1_1 {n : Nat} {i_0 : Int} {m1 : List (Str × Bool)} {b2 : ApiRung} {r : Bool} (h : graph_TopoSort_1_1 n i_0 m1 b2 = some r) : ConH Tryz.prog G0 102 [.int .i64 i_0, .hptr 0 0 0, .hptr 2 0 0] [.var [.mp 1], .map (mAV AV.str cB m1), .var [.str b2.Label, aL cApiContact b2.Contacts, aL cApiCoil b2.Coils, .str b2.Jump]] (.bool r) [.var [.mp 1], .map (mAV AV.str cB m1), .var [.str b2.Label, aL cApiContact b2.Contacts, aL cApiCoil b2.Coils, .str b2.Jump]] := by
  refine conH_of (T := TT0) tt_ok Tryz.func102 (c := _) (by unfold Tryz.f102; rfl) Tryz.ntmps102 (rs := [.tmp 4]) (by rw [Tryz.results102]) (by unfold Tryz.f102; rfl) (by simp) (k := 3) rfl rfl ?_
  try simp only [argsCh]
  have F := True.intro
  dsimp only [graph_TopoSort_1_1] at h
  refine rs0 ?_
  refine vp ?_
  refine vn ?_
  refine dw (fun _ => false) [0, 1, 2] ?_
  refine du 4 ?_
  refine eI h F fun x2408 F h => ?_
  refine du 6 ?_
  refine dn ?_
  cases h
  exact Wp.ret (enH [some 0, some 1, some 2])

theorem con_reduce_parallel_1 {n : Nat} {y0 : ReduceEdge} {b0 : ReduceEdge} {r : Bool} (h : reduce_parallel_1 n y0 b0 = some r) : ConH Tryz.prog G0 66 [.agg (cReduceEdge y0), .hptr 0 0 0] [.var [.str b0.pair.from_, .str b0.pair.to_, .int .i64 b0.t_.Kind, .int .i64 b0.t_.N, aL cTreeTree b0.t_.Kids]] (.bool r) [.var [.str b0.pair.from_, .str b0.pair.to_, .int .i64 b0.t_.Kind, .int .i64 b0.t_.N, aL cTreeTree b0.t_.Kids]] := by
  refine conH_of (T := TT0) tt_ok Tryz.func66 (c := _) (by unfold Tryz.f66; rfl) Tryz.ntmps66 (rs := [.tmp 3]) (by rw [Tryz.results66]) (by unfold Tryz.f66; rfl) (by simp) (k := 1) rfl rfl ?_
  try simp only [argsCh]
  have F := True.intro
  dsimp only [reduce_parallel_1] at h
  refine rs0 ?_
  iterate 2 refine vp ?_
  refine vn ?_
  refine rs0 ?_
  iterate 6 refine vp ?_
  refine vn ?_
  cases h
  exact Wp.ret (enH [some 0])

theorem con_graph_Incoming_1 {n : Nat} {c0 : ApiContact} {b0 : Str} {r : Bool} (h : graph_Incoming_1 n c0 b0 = some r) : ConH Tryz.prog G0 134 [.agg (cApiContact c0), .hptr 0 0 0] [.var [.str b0]] (.bool r) [.var [.str b0]] := by
  refine conH_of (T := TT0) tt_ok Tryz.func134 (c := _) (by unfold Tryz.f134; rfl) Tryz.ntmps134 (rs := [.tmp 3]) (by rw [Tryz.results134]) (by unfold Tryz.f134; rfl) (by simp) (k := 1) rfl rfl ?_
  try simp only [argsCh]
  have F := True.intro
  dsimp only [graph_Incoming_1] at h
  refine rs0 ?_
  iterate 2 refine vp ?_
  refine vn ?_
  refine rs0 ?_
  iterate 5 refine vp ?_
  refine vn ?_
  cases h
  exact Wp.ret (enH [some 0])

end Go.Proofs.YtaebdeidbibfkaaGreatDoor
