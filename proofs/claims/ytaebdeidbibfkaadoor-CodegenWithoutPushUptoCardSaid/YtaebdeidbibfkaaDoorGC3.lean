/- Contracts: models of functions are right. No law is proved here. -/
import Derived.Test.YtaebdeidbibfkaaDoorGMod
import Derived.Test.YtaebdeidbibfkaaDoorTab
namespace Go.Proofs.YtaebdeidbibfkaaDoor
open Go.Av Go.G
attribute [-simp] Int.natCast_tdiv_eq_ediv
attribute [local simp] runf guardA opf St.ev Go.Av.look St.setd constAV constAV0 opBin opLen intBin St.need lookT TT0 tab resA resOne resAll blt_dec ble_dec beq_dec isPure
attribute [local simp] opMakeSlice opCopy opIndexAddr opLoad opStore St.mem St.rows opUn calleeA toArgs toArg toArg0 toArgs0 shift shift0 shift1 splice cellsOf isFree ofCells TS.isAgg isCell strBin opConvert
attribute [local simp] opSlice3 opClear fz_clear opBuildSlice fillA opAppend eqC eqA cksB ckB St.newBox runI valKind withinB readsHp refsD refs noSl opFieldAddr opBuild opMax opMin placeOf Op.operands Call.operands opIndex opExtract opSlice opField partA
attribute [local simp] loA hiA lenA opMakeMap opLookup opMapUpdate keyOk findA_int findA_str findA_bool putA_strB putA_strI putA_strS putA_intB putA_intI putA_intS putA_boolI putA_boolB mAV_length mAV_nil cA1 cA2 cA3 cA4 opNilCheck opMakeFunc opRange
attribute [local simp] aL cI cB cS cL rw_map fz_rw fz_const dropRow_rw fz_append fz_set fz_copy fz_rows rowLen_rw rowsLen_nil rowsLen_cons rowsLen_append rowsLen_map rowsLen_dm rowsLen_tm rowsLen_take rowsLen_drop rowsLen_replicate take_map_len take_map_le drop_map_len take_drop_len chunks isScalar isScalar0
attribute [local simp] putBack putAt objMap mapC mapA mapT map0 bid rid memB passed closedB argsH argH argH0 argsH0 objIds ids0 idsC isLocT isLocA isLocC isLoc0 LocObj
attribute [local congr] bind_congr1 map_congr1 cond_congr1
attribute [local simp] cApiAddr cApiContact cApiCoil cApiRung cApiIns cApiLadder cApiSize cApiProgram cReducePair cReduceEdge cTreeTree_eq TreeTree_Kind_mk TreeTree_N_mk TreeTree_Kids_mk eta_TreeTree
set_option maxHeartbeats 4000000
set_option maxRecDepth 20000
set_option linter.unusedSimpArgs false
set_option linter.unusedVariables false

theorem con_codegen_Coils {n : Nat} {r_0 : ApiRung} {r : (List ApiIns) × Int} (h : codegen_Coils n r_0 = some r) : Con Tryd.prog G0 62 [.agg (cApiRung r_0)] (.tup [aL cApiIns r.1, .int .i64 r.2]) [] := by
  refine con_of (T := TT0) tt_ok Tryd.func62 (c := _) (by unfold Tryd.f62; rfl) Tryd.ntmps62 (rs := [.tmp 2, .tmp 3]) (by rw [Tryd.results62]) (by unfold Tryd.f62; rfl) (by simp) ?_
  simp only [argsCh]
  have F := True.intro
  dsimp only [codegen_Coils] at h
  refine rs0 ?_
  iterate 3 refine vp ?_
  refine vn ?_
  refine rs0 ?_
  refine vp ?_
  refine vn ?_
  refine Wp.seq ?_
  refine rs0 ?_
  iterate 4 refine vp ?_
  refine vn ?_
  refine Wp.block ?_
  refine lp [none] (fun x : Int × (List ApiIns) => { ch := [(4, .sl 0 0 x.2.length), (8, aL cApiCoil r_0.Coils), (9, .int .i64 (r_0.Coils.length : Int)), (10, .int .i64 x.1)], hp := [.arr 4 x.2.length (rw (x.2.map cApiIns))], base := 0, n := 34, cond := True, gl := G0 }) (fun m x => codegen_Coils_L1 r_0 m x.1 x.2 = some r) n (0, []) h ?_
  rintro rec_n1 ⟨p47109, p47110⟩ h
  dsimp only [codegen_Coils_L1] at h
  try dsimp only
  refine rs0 ?_
  refine vp ?_
  refine vn ?_
  refine Wp.seq ?_
  refine sD h F (fun F h => ?_) fun F h => ?_
  refine cF ?_
  refine Wp.exit ?_
  refine sh ?_
  refine rs0 ?_
  iterate 3 refine vp ?_
  refine vn ?_
  cases h
  exact Wp.ret en0
  refine cT ?_
  refine Wp.skip ?_
  refine sh ?_
  refine Wp.seq ?_
  refine Wp.block ?_
  refine rs0 ?_
  refine eI h F fun x47116 F h => ?_
  iterate 4 refine vp ?_
  refine vn ?_
  refine Wp.seq ?_
  refine rs0 ?_
  iterate 4 refine vp ?_
  refine sD h F (fun F h => ?_) fun F h => ?_
  refine vg ?_
  refine vg ?_
  refine vg ?_
  refine vp ?_
  refine vn ?_
  refine sD h F (fun F h => ?_) fun F h => ?_
  refine cF ?_
  refine Wp.skip ?_
  refine sh ?_
  refine dw1 (fun d => Nat.beq d 31 || Nat.beq d 1031) [0, 1] ?_
  refine du 3 ?_
  refine sP h F (fun F h => ?_) fun F h => ?_
  refine du 6 ?_
  refine gd h F fun F h => ?_
  refine db ?_
  refine nm cApiIns h F fun l47117 F h => ?_
  refine du 1 ?_
  refine dn ?_
  refine sh ?_
  refine rg0 ?_
  iterate 2 refine vp ?_
  refine vn ?_
  exact nx [some 2] ((IntKind.i64.wrap (p47109 + 1)), l47117) h
  refine sP h F (fun F h => ?_) fun F h => ?_
  refine du 6 ?_
  refine gd h F fun F h => ?_
  refine db ?_
  refine nm cApiIns h F fun l47118 F h => ?_
  refine du 1 ?_
  refine dn ?_
  refine sh ?_
  refine rg0 ?_
  iterate 2 refine vp ?_
  refine vn ?_
  exact nx [some 2] ((IntKind.i64.wrap (p47109 + 1)), l47118) h
  refine sP h F (fun F h => ?_) fun F h => ?_
  refine du 6 ?_
  refine gd h F fun F h => ?_
  refine db ?_
  refine nm cApiIns h F fun l47119 F h => ?_
  refine du 1 ?_
  refine dn ?_
  refine sh ?_
  refine rg0 ?_
  iterate 2 refine vp ?_
  refine vn ?_
  exact nx [some 2] ((IntKind.i64.wrap (p47109 + 1)), l47119) h
  refine sP h F (fun F h => ?_) fun F h => ?_
  refine du 6 ?_
  refine gd h F fun F h => ?_
  refine db ?_
  refine nm cApiIns h F fun l47120 F h => ?_
  refine du 1 ?_
  refine dn ?_
  refine sh ?_
  refine rg0 ?_
  iterate 2 refine vp ?_
  refine vn ?_
  exact nx [some 2] ((IntKind.i64.wrap (p47109 + 1)), l47120) h
  cases h
  refine cT ?_
  refine rs0 ?_
  iterate 2 refine vp ?_
  refine vn ?_
  cases h
  exact Wp.ret en0
  refine vs ?_
  refine vs ?_
  refine vs ?_
  refine vp ?_
  refine vn ?_
  refine cT ?_
  refine rs0 ?_
  iterate 2 refine vp ?_
  refine vn ?_
  cases h
  exact Wp.ret en0

theorem con_reduce_sorted (n : Nat) : ∀ {t0 : TreeTree} {r : TreeTree}, reduce_sorted n t0 = some r → Con Tryd.prog G0 31 [.agg [.int .i64 t0.Kind, .int .i64 t0.N, aL cTreeTree t0.Kids]] (.agg [.int .i64 r.Kind, .int .i64 r.N, aL cTreeTree r.Kids]) [] := by
  induction n with
  | zero => intro t0 r h; simp [reduce_sorted] at h
  | succ n Hslf_reduce_sorted =>
   intro t0 r h
   refine con_of (T := TT0) tt_ok Tryd.func31 (c := _) (by unfold Tryd.f31; rfl) Tryd.ntmps31 (rs := [.cell 2 31]) (by rw [Tryd.results31]) (by unfold Tryd.f31; rfl) (by simp) ?_
   simp only [argsCh]
   have F := True.intro
   dsimp only [reduce_sorted] at h
   refine rs0 ?_
   iterate 2 refine vp ?_
   refine vn ?_
   refine rs0 ?_
   iterate 7 refine vp ?_
   refine vn ?_
   refine jn (fun p46346 : List TreeTree => { ch := [(2, .hptr 0 0 0), (3, .hptr 1 0 0)], hp := [.var [.int .i64 0, .int .i64 0, .nilsl], .var [.int .i64 t0.Kind, .int .i64 t0.N, .sl 2 0 p46346.length], .arr 3 p46346.length (rw (p46346.map cTreeTree))], base := 0, n := 33, cond := True, gl := G0 }) (fun x => reduce_sorted_J1 t0 x = some r) ?_ ?_
   clear h
   rintro p46346 h
   dsimp only [reduce_sorted_J1] at h
   try dsimp only
   refine Wp.seq ?_
   refine rs0 ?_
   iterate 3 refine vp ?_
   refine vn ?_
   refine sB h F (fun F h => ?_) fun F h => ?_
   refine cF ?_
   refine Wp.skip ?_
   refine sh ?_
   refine rs0 ?_
   iterate 2 refine vp ?_
   refine vn ?_
   cases h
   exact Wp.ret en0
   refine cT ?_
   refine rg0 ?_
   iterate 2 refine vp ?_
   cases h
   refine rs0 ?_
   iterate 4 refine vp ?_
   refine vn ?_
   refine Wp.block ?_
   refine lp [some 1, some 2, none] (fun x : Int × (List TreeTree) => { ch := [(2, .hptr 0 0 0), (3, .hptr 1 0 0), (12, aL cTreeTree t0.Kids), (13, .int .i64 (t0.Kids.length : Int)), (14, .int .i64 x.1)], hp := [.var [.int .i64 0, .int .i64 0, .nilsl], .var [.int .i64 t0.Kind, .int .i64 t0.N, .sl 2 0 x.2.length], .arr 3 x.2.length (rw (x.2.map cTreeTree))], base := 0, n := 33, cond := True, gl := G0 }) (fun m x => reduce_sorted_L2 t0 (reduce_sorted n) m x.1 x.2 = some r) n (0, []) h ?_
   rintro rec_n2 ⟨p46351, p46352⟩ h
   dsimp only [reduce_sorted_L2] at h
   try dsimp only
   refine rs0 ?_
   refine vp ?_
   refine vn ?_
   refine Wp.seq ?_
   refine sD h F (fun F h => ?_) fun F h => ?_
   refine cF ?_
   refine Wp.exit ?_
   exact nx [some 0, some 1, some 2] p46352 h
   refine cT ?_
   refine Wp.skip ?_
   refine sh ?_
   refine Wp.seq ?_
   refine Wp.block ?_
   refine rs0 ?_
   refine eI h F fun x46357 F h => ?_
   iterate 4 refine vp ?_
   refine vn ?_
   refine dw1 (fun d => Nat.beq d 23 || Nat.beq d 1023) [1, 2, 3] ?_
   refine du 3 ?_
   obtain ⟨r46359, hr46358, h⟩ := obind h
   refine dc (Hslf_reduce_sorted hr46358) ?_
   refine du 1 ?_
   refine gd h F fun F h => ?_
   refine db ?_
   refine nm cTreeTree h F fun l46360 F h => ?_
   refine du 1 ?_
   refine db ?_
   refine dn ?_
   refine sh ?_
   refine rg0 ?_
   iterate 2 refine vp ?_
   refine vn ?_
   exact nx [some 0, some 1, some 4] ((IntKind.i64.wrap (p46351 + 1)), l46360) h

theorem con_addr_Width {n : Nat} {s0 : ApiSize} {space1 : Int} {r : Int} (h : addr_Width n s0 space1 = some r) : Con Tryd.prog G0 142 [.agg (cApiSize s0), .int .i64 space1] (.int .i64 r) [] := by
  refine con_of (T := TT0) tt_ok Tryd.func142 (c := _) (by unfold Tryd.f142; rfl) Tryd.ntmps142 (rs := [.tmp 4]) (by rw [Tryd.results142]) (by unfold Tryd.f142; rfl) (by simp) ?_
  simp only [argsCh]
  have F := True.intro
  dsimp only [addr_Width] at h
  refine rs0 ?_
  iterate 2 refine vp ?_
  refine vn ?_
  refine Wp.seq ?_
  refine rs0 ?_
  refine vp ?_
  refine vn ?_
  refine Wp.block ?_
  refine rs0 ?_
  iterate 2 refine vp ?_
  refine vn ?_
  refine sB h F (fun F h => ?_) fun F h => ?_
  refine cF ?_
  refine rs0 ?_
  iterate 2 refine vp ?_
  refine vn ?_
  refine sB h F (fun F h => ?_) fun F h => ?_
  refine cF ?_
  refine rs0 ?_
  iterate 2 refine vp ?_
  refine vn ?_
  refine sB h F (fun F h => ?_) fun F h => ?_
  refine cF ?_
  refine Wp.skip ?_
  refine sh ?_
  refine rs0 ?_
  refine vp ?_
  refine vn ?_
  cases h
  exact Wp.ret en0
  refine cT ?_
  refine rs0 ?_
  iterate 3 refine vp ?_
  refine vn ?_
  cases h
  exact Wp.ret en0
  refine cT ?_
  refine rs0 ?_
  iterate 3 refine vp ?_
  refine vn ?_
  cases h
  exact Wp.ret en0
  refine cT ?_
  refine rs0 ?_
  iterate 3 refine vp ?_
  refine vn ?_
  cases h
  exact Wp.ret en0

theorem con_reduce_parallel_1 {n : Nat} {y0 : ReduceEdge} {b0 : ReduceEdge} {r : Bool} (h : reduce_parallel_1 n y0 b0 = some r) : ConH Tryd.prog G0 50 [.agg (cReduceEdge y0), .hptr 0 0 0] [.var [.str b0.pair.from_, .str b0.pair.to_, .int .i64 b0.t_.Kind, .int .i64 b0.t_.N, aL cTreeTree b0.t_.Kids]] (.bool r) [.var [.str b0.pair.from_, .str b0.pair.to_, .int .i64 b0.t_.Kind, .int .i64 b0.t_.N, aL cTreeTree b0.t_.Kids]] := by
  refine conH_of (T := TT0) tt_ok Tryd.func50 (c := _) (by unfold Tryd.f50; rfl) Tryd.ntmps50 (rs := [.tmp 3]) (by rw [Tryd.results50]) (by unfold Tryd.f50; rfl) (by simp) (k := 1) rfl rfl ?_
  try simp only [argsCh]
  have F := True.intro
  dsimp only [reduce_parallel_1] at h
  refine rs0 ?_
  iterate 2 refine vp ?_
  refine vn ?_
  refine rs0 ?_
  iterate 6 refine vp ?_
  refine vn ?_
  cases h
  exact Wp.ret (enH [some 0])

theorem con_tree_Tree_check_1 {n : Nat} {k0 : TreeTree} {b0 : TreeTree} {r : Bool} (h : tree_Tree_check_1 n k0 b0 = some r) : ConH Tryd.prog G0 66 [.agg [.int .i64 k0.Kind, .int .i64 k0.N, aL cTreeTree k0.Kids], .hptr 0 0 0] [.var [.int .i64 b0.Kind, .int .i64 b0.N, aL cTreeTree b0.Kids]] (.bool r) [.var [.int .i64 b0.Kind, .int .i64 b0.N, aL cTreeTree b0.Kids]] := by
  refine conH_of (T := TT0) tt_ok Tryd.func66 (c := _) (by unfold Tryd.f66; rfl) Tryd.ntmps66 (rs := [.tmp 3]) (by rw [Tryd.results66]) (by unfold Tryd.f66; rfl) (by simp) (k := 1) rfl rfl ?_
  try simp only [argsCh]
  have F := True.intro
  dsimp only [tree_Tree_check_1] at h
  refine rs0 ?_
  iterate 2 refine vp ?_
  refine vn ?_
  refine rs0 ?_
  iterate 6 refine vp ?_
  refine vn ?_
  cases h
  exact Wp.ret (enH [some 0])

theorem con_printer_Check_1 {n : Nat} {x_0 : ApiRung} {b0 : ApiRung} {r : Bool} (h : printer_Check_1 n x_0 b0 = some r) : ConH Tryd.prog G0 90 [.agg (cApiRung x_0), .hptr 0 0 0] [.var [.str b0.Label, aL cApiContact b0.Contacts, aL cApiCoil b0.Coils, .str b0.Jump]] (.bool r) [.var [.str b0.Label, aL cApiContact b0.Contacts, aL cApiCoil b0.Coils, .str b0.Jump]] := by
  refine conH_of (T := TT0) tt_ok Tryd.func90 (c := _) (by unfold Tryd.f90; rfl) Tryd.ntmps90 (rs := [.tmp 3]) (by rw [Tryd.results90]) (by unfold Tryd.f90; rfl) (by simp) (k := 1) rfl rfl ?_
  try simp only [argsCh]
  have F := True.intro
  dsimp only [printer_Check_1] at h
  refine rs0 ?_
  iterate 2 refine vp ?_
  refine vn ?_
  refine rs0 ?_
  iterate 6 refine vp ?_
  refine vn ?_
  cases h
  exact Wp.ret (enH [some 0])

theorem con_codegen_sees {n : Nat} {c0 : ApiContact} {r : Bool} (h : codegen_sees n c0 = some r) : Con Tryd.prog G0 37 [.agg (cApiContact c0)] (.bool r) [] := by
  refine con_of (T := TT0) tt_ok Tryd.func37 (c := _) (by unfold Tryd.f37; rfl) Tryd.ntmps37 (rs := [.tmp 2]) (by rw [Tryd.results37]) (by unfold Tryd.f37; rfl) (by simp) ?_
  simp only [argsCh]
  have F := True.intro
  dsimp only [codegen_sees] at h
  refine rs0 ?_
  iterate 2 refine vp ?_
  refine vn ?_
  refine rs0 ?_
  iterate 4 refine vp ?_
  refine sB h F (fun F h => ?_) fun F h => ?_
  refine vg ?_
  refine vg ?_
  refine vg ?_
  iterate 2 refine vp ?_
  refine vn ?_
  cases h
  exact Wp.ret en0
  refine vs ?_
  refine vs ?_
  refine vs ?_
  iterate 2 refine vp ?_
  refine vn ?_
  cases h
  exact Wp.ret en0

theorem con_graph_Incoming_1 {n : Nat} {c0 : ApiContact} {b0 : Str} {r : Bool} (h : graph_Incoming_1 n c0 b0 = some r) : ConH Tryd.prog G0 99 [.agg (cApiContact c0), .hptr 0 0 0] [.var [.str b0]] (.bool r) [.var [.str b0]] := by
  refine conH_of (T := TT0) tt_ok Tryd.func99 (c := _) (by unfold Tryd.f99; rfl) Tryd.ntmps99 (rs := [.tmp 3]) (by rw [Tryd.results99]) (by unfold Tryd.f99; rfl) (by simp) (k := 1) rfl rfl ?_
  try simp only [argsCh]
  have F := True.intro
  dsimp only [graph_Incoming_1] at h
  refine rs0 ?_
  iterate 2 refine vp ?_
  refine vn ?_
  refine rs0 ?_
  iterate 5 refine vp ?_
  refine vn ?_
  cases h
  exact Wp.ret (enH [some 0])

end Go.Proofs.YtaebdeidbibfkaaDoor
