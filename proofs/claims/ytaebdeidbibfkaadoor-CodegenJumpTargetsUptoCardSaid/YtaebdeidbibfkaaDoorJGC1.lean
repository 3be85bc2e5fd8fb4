/- Contracts: models of functions are right. No law is proved here. -/
import Derived.Test.YtaebdeidbibfkaaDoorJGMod
import Derived.Test.YtaebdeidbibfkaaDoorJTaj
import Derived.Test.YtaebdeidbibfkaaDoorJSo
namespace Go.Proofs.YtaebdeidbibfkaaDoor
open Go.Av Go.G
attribute [-simp] Int.natCast_tdiv_eq_ediv
attribute [local simp] runf guardA opf St.ev Go.Av.look St.setd constAV constAV0 opBin opLen intBin St.need lookT TT0 tab resA resOne resAll blt_dec ble_dec beq_dec isPure
attribute [local simp] opMakeSlice opCopy opIndexAddr opLoad opStore St.mem St.rows opUn calleeA toArgs toArg toArg0 toArgs0 shift shift0 shift1 splice cellsOf isFree ofCells TS.isAgg isCell strBin opConvert
attribute [local simp] opSlice3 opClear fz_clear opBuildSlice fillA opAppend eqC eqA cksB ckB St.newBox runI valKind withinB readsHp refsD refs noSl opFieldAddr opBuild opMax opMin placeOf Op.operands Call.operands opIndex opExtract opSlice opField partA
attribute [local simp] loA hiA lenA opMakeMap opLookup opMapUpdate keyOk findA_int findA_str findA_bool putA_strB putA_strI putA_strS putA_intB putA_intI putA_intS putA_boolI putA_boolB byteRow_rwN bytesOf_rwN opBytesStr mAV_length mAV_nil cA1 cA2 cA3 cA4 opNilCheck opMakeFunc opRange
attribute [local simp] aL cI cB cS cL rw_map fz_rw fz_const dropRow_rw fz_append fz_set fz_copy fz_rows rowLen_rw rowsLen_nil rowsLen_cons rowsLen_append rowsLen_map rowsLen_dm rowsLen_tm rowsLen_take rowsLen_drop rowsLen_replicate take_map_len take_map_le drop_map_len take_drop_len chunks isScalar isScalar0
attribute [local simp] putBack putAt objMap mapC mapA mapT map0 bid rid memB passed closedB argsH argH argH0 argsH0 objIds ids0 idsC isLocT isLocA isLocC isLoc0 LocObj
attribute [local congr] bind_congr1 map_congr1 cond_congr1
attribute [local simp] cApiAddr cApiContact cApiCoil cApiRung cApiIns cApiLadder cApiSize cApiProgram cReducePair cReduceEdge cTreeTree_eq TreeTree_Kind_mk TreeTree_N_mk TreeTree_Kids_mk eta_TreeTree
variable [Drawn]
set_option maxHeartbeats 4000000
set_option linter.unusedSectionVars false
set_option maxRecDepth 20000
set_option linter.unusedSimpArgs false
set_option linter.unusedVariables false
theorem con_law11_TooLarge {n : Nat} {l0 : ApiLadder} {r : Int} (h : law11_TooLarge n l0 = some r) : Con Tryd.prog G0 39 [.agg (cApiLadder l0)] (.int .i64 r) [] := by
  refine con_of (T := TT0) tt_ok Tryd.func39 (c := _) (by unfold Tryd.f39; rfl) Tryd.ntmps39 (rs := [.tmp 2]) (by rw [Tryd.results39]) (by unfold Tryd.f39; rfl) (by simp) ?_
  simp only [argsCh]
  have F := True.intro
  dsimp only [law11_TooLarge] at h
  refine rs0 ?_
  iterate 2 refine vp ?_
  refine vn ?_
  refine rs0 ?_
  refine vp ?_
  refine vn ?_
  refine jn (fun p27 : Int => { ch := [(1, .hptr 0 0 0), (3, .int .i64 p27)], hp := [.var [.int .i64 l0.I, .int .i64 l0.Q, .int .i64 l0.M, aL cApiRung l0.Rungs]], base := 0, n := 58, cond := True, gl := G0 }) (fun x => law11_TooLarge_J1 l0 x = some r) ?_ ?_
  clear h
  rintro p27 h
  dsimp only [law11_TooLarge_J1] at h
  try dsimp only
  refine Wp.seq ?_
  refine rs0 ?_
  iterate 5 refine vp ?_
  refine sD h F (fun F h => ?_) fun F h => ?_
  refine vg ?_
  refine vg ?_
  refine vp ?_
  refine vn ?_
  refine sD h F (fun F h => ?_) fun F h => ?_
  refine cF ?_
  refine Wp.skip ?_
  refine sh ?_
  refine rs0 ?_
  refine vp ?_
  refine vn ?_
  cases h
  exact Wp.ret en0
  refine cT ?_
  refine rs0 ?_
  refine vp ?_
  refine vn ?_
  cases h
  exact Wp.ret en0
  refine vs ?_
  refine vs ?_
  refine vp ?_
  refine vn ?_
  refine cT ?_
  refine rs0 ?_
  refine vp ?_
  refine vn ?_
  cases h
  exact Wp.ret en0
  refine rs0 ?_
  iterate 4 refine vp ?_
  refine vn ?_
  refine Wp.block ?_
  refine lp [some 0] (fun x : Int × Int => { ch := [(1, .hptr 0 0 0), (3, .int .i64 x.2), (9, aL cApiRung l0.Rungs), (10, .int .i64 (l0.Rungs.length : Int)), (11, .int .i64 x.1)], hp := [.var [.int .i64 l0.I, .int .i64 l0.Q, .int .i64 l0.M, aL cApiRung l0.Rungs]], base := 0, n := 58, cond := True, gl := G0 }) (fun m x => law11_TooLarge_L2 n l0 m x.1 x.2 = some r) n (0, 0) h ?_
  rintro rec_n2 ⟨p34, p35⟩ h
  dsimp only [law11_TooLarge_L2] at h
  try dsimp only
  refine rs0 ?_
  refine vp ?_
  refine vn ?_
  refine Wp.seq ?_
  refine sD h F (fun F h => ?_) fun F h => ?_
  refine cF ?_
  refine Wp.exit ?_
  exact nx [some 0] p35 h
  refine cT ?_
  refine Wp.skip ?_
  refine sh ?_
  refine Wp.seq ?_
  refine Wp.block ?_
  refine rs0 ?_
  refine eI h F fun x42 F h => ?_
  iterate 4 refine vp ?_
  refine vn ?_
  refine rs0 ?_
  iterate 18 refine vp ?_
  refine vn ?_
  refine rs0 ?_
  iterate 4 refine vp ?_
  refine vn ?_
  refine Wp.block ?_
  refine lp [some 0] (fun x : Int × Int => { ch := [(1, .hptr 0 0 0), (3, .int .i64 x.1), (9, aL cApiRung l0.Rungs), (10, .int .i64 (l0.Rungs.length : Int)), (11, .int .i64 p34), (33, aL cApiContact x42.Contacts), (34, .int .i64 (x42.Contacts.length : Int)), (35, .int .i64 x.2)], hp := [.var [.int .i64 l0.I, .int .i64 l0.Q, .int .i64 l0.M, aL cApiRung l0.Rungs]], base := 0, n := 58, cond := True, gl := G0 }) (fun m x => law11_TooLarge_L3 p34 (law11_TooLarge_L2 n l0 rec_n2) x42 m x.1 x.2 = some r) n ((IntKind.i64.wrap (p35 + (IntKind.i64.wrap ((IntKind.i64.wrap ((IntKind.i64.wrap ((x42.Contacts.length : Int) + (x42.Coils.length : Int))) + (x42.Label.size : Int))) + (x42.Jump.size : Int))))), 0) h ?_
  rintro rec_n3 ⟨p44, p45⟩ h
  dsimp only [law11_TooLarge_L3] at h
  try dsimp only
  refine rs0 ?_
  refine vp ?_
  refine vn ?_
  refine Wp.seq ?_
  refine sD h F (fun F h => ?_) fun F h => ?_
  refine cF ?_
  refine Wp.exit ?_
  refine sh ?_
  refine rg0 ?_
  iterate 2 refine vp ?_
  refine vn ?_
  exact nx [some 0] ((IntKind.i64.wrap (p34 + 1)), p44) h
  refine cT ?_
  refine Wp.skip ?_
  refine sh ?_
  refine Wp.seq ?_
  refine Wp.block ?_
  refine rs0 ?_
  refine eI h F fun x47 F h => ?_
  iterate 4 refine vp ?_
  refine vn ?_
  refine rg0 ?_
  iterate 10 refine vp ?_
  refine vn ?_
  refine sh ?_
  refine rg0 ?_
  iterate 2 refine vp ?_
  refine vn ?_
  exact nx [some 0] ((IntKind.i64.wrap (p44 + (IntKind.i64.wrap ((x47.From.size : Int) + (x47.To.size : Int))))), (IntKind.i64.wrap (p45 + 1))) h
theorem con_reduce_join {n : Nat} {kind0 : Int} {a1 : TreeTree} {b2 : TreeTree} {r : TreeTree} (h : reduce_join n kind0 a1 b2 = some r) : Con Tryd.prog G0 51 [.int .i64 kind0, .agg [.int .i64 a1.Kind, .int .i64 a1.N, aL cTreeTree a1.Kids], .agg [.int .i64 b2.Kind, .int .i64 b2.N, aL cTreeTree b2.Kids]] (.agg [.int .i64 r.Kind, .int .i64 r.N, aL cTreeTree r.Kids]) [] := by
  refine con_of (T := TT0) tt_ok Tryd.func51 (c := _) (by unfold Tryd.f51; rfl) Tryd.ntmps51 (rs := [.cell 6 31]) (by rw [Tryd.results51]) (by unfold Tryd.f51; rfl) (by simp) ?_
  simp only [argsCh]
  have F := True.intro
  dsimp only [reduce_join] at h
  refine rs0 ?_
  iterate 3 refine vp ?_
  refine vn ?_
  refine rs0 ?_
  iterate 4 refine vp ?_
  refine vn ?_
  refine Wp.seq ?_
  refine rs0 ?_
  iterate 3 refine vp ?_
  refine nl cTreeTree h F fun l14800 m F h => ?_
  try simp only [m]
  clear m
  iterate 2 refine vp ?_
  refine vn ?_
  refine Wp.block ?_
  refine lp [some 2, some 3, none] (fun x : Int × (List TreeTree) => { ch := [(0, .int .i64 kind0), (6, .hptr 0 0 0), (7, .hptr 1 0 0), (14, aL cTreeTree l14800), (15, .int .i64 (l14800.length : Int)), (16, .int .i64 x.1)], hp := [.var [.int .i64 0, .int .i64 0, .nilsl], .var [.int .i64 kind0, .int .i64 0, .sl 2 0 x.2.length], .arr 3 x.2.length (rw (x.2.map cTreeTree))], base := 0, n := 38, cond := True, gl := G0 }) (fun m x => reduce_join_L1 kind0 l14800 m x.1 x.2 = some r) n (0, []) h ?_
  rintro rec_n1 ⟨p14803, p14804⟩ h
  dsimp only [reduce_join_L1] at h
  try dsimp only
  refine rs0 ?_
  refine vp ?_
  refine vn ?_
  refine Wp.seq ?_
  refine sD h F (fun F h => ?_) fun F h => ?_
  refine cF ?_
  refine Wp.exit ?_
  refine sh ?_
  refine rs0 ?_
  iterate 2 refine vp ?_
  refine vn ?_
  cases h
  exact Wp.ret en0
  refine cT ?_
  refine Wp.skip ?_
  refine sh ?_
  refine Wp.seq ?_
  refine Wp.block ?_
  refine rs0 ?_
  refine eI h F fun x14808 F h => ?_
  iterate 4 refine vp ?_
  refine vn ?_
  refine rs0 ?_
  iterate 4 refine vp ?_
  refine vn ?_
  refine sB h F (fun F h => ?_) fun F h => ?_
  refine cF ?_
  refine rg (fun d => Nat.beq d 34) ?_
  iterate 4 refine vp ?_
  refine gd h F fun F h => ?_
  refine vp ?_
  refine nm cTreeTree h F fun l14810 F h => ?_
  iterate 2 refine vp ?_
  refine vn ?_
  refine sh ?_
  refine rg0 ?_
  iterate 2 refine vp ?_
  refine vn ?_
  exact nx [some 0, some 1, some 4] ((IntKind.i64.wrap (p14803 + 1)), l14810) h
  refine cT ?_
  refine rg (fun d => Nat.beq d 28) ?_
  iterate 4 refine vp ?_
  refine gd h F fun F h => ?_
  refine vp ?_
  refine nm cTreeTree h F fun l14809 F h => ?_
  iterate 2 refine vp ?_
  refine vn ?_
  refine sh ?_
  refine rg0 ?_
  iterate 2 refine vp ?_
  refine vn ?_
  exact nx [some 0, some 1, some 4] ((IntKind.i64.wrap (p14803 + 1)), l14809) h
theorem con_slices_Equal_api_Ins {n : Nat} {s10 : List ApiIns} {s21 : List ApiIns} {r : Bool} (h : slices_Equal_api_Ins n s10 s21 = some r) : Con Tryd.prog G0 34 [aL cApiIns s10, aL cApiIns s21] (.bool r) [] := by
  refine con_of (T := TT0) tt_ok Tryd.func34 (c := _) (by unfold Tryd.f34; rfl) Tryd.ntmps34 (rs := [.tmp 4]) (by rw [Tryd.results34]) (by unfold Tryd.f34; rfl) (by simp) ?_
  simp only [argsCh]
  have F := True.intro
  dsimp only [slices_Equal_api_Ins] at h
  refine rs0 ?_
  refine vp ?_
  refine vn ?_
  refine Wp.seq ?_
  refine rs0 ?_
  iterate 5 refine vp ?_
  refine vn ?_
  refine sB h F (fun F h => ?_) fun F h => ?_
  refine cF ?_
  refine Wp.skip ?_
  refine sh ?_
  refine Wp.seq ?_
  refine rs0 ?_
  iterate 3 refine vp ?_
  refine vn ?_
  refine Wp.block ?_
  refine lp [] (fun p16079 : Int => { ch := [(0, aL cApiIns s10), (1, aL cApiIns s21), (12, .int .i64 (s10.length : Int)), (13, .int .i64 p16079)], hp := [], base := 0, n := 26, cond := True, gl := G0 }) (fun m x => slices_Equal_api_Ins_L1 s10 s21 m x = some r) n 0 h ?_
  rintro rec_n1 p16079 h
  dsimp only [slices_Equal_api_Ins_L1] at h
  try dsimp only
  refine rs0 ?_
  refine vp ?_
  refine vn ?_
  refine Wp.seq ?_
  refine sD h F (fun F h => ?_) fun F h => ?_
  refine cF ?_
  refine Wp.exit ?_
  refine sh ?_
  refine rs0 ?_
  refine vp ?_
  refine vn ?_
  cases h
  exact Wp.ret en0
  refine cT ?_
  refine Wp.skip ?_
  refine sh ?_
  refine Wp.seq ?_
  refine Wp.block ?_
  refine rs0 ?_
  iterate 2 refine vp ?_
  refine vn ?_
  refine dw (fun _ => false) [] ?_
  refine du 2 ?_
  refine eI h F fun x16082 F h => ?_
  refine du 4 ?_
  refine eI h F fun x16083 F h => ?_
  refine du 3 ?_
  refine dn ?_
  refine sB h F (fun F h => ?_) fun F h => ?_
  refine cF ?_
  refine Wp.skip ?_
  refine sh ?_
  refine rg0 ?_
  iterate 2 refine vp ?_
  refine vn ?_
  exact nx [] (IntKind.i64.wrap (p16079 + 1)) h
  refine cT ?_
  refine rs0 ?_
  refine vp ?_
  refine vn ?_
  cases h
  exact Wp.ret en0
  refine cT ?_
  refine rs0 ?_
  refine vp ?_
  refine vn ?_
  cases h
  exact Wp.ret en0
theorem con_addr_Width {n : Nat} {s0 : ApiSize} {space1 : Int} {r : Int} (h : addr_Width n s0 space1 = some r) : Con Tryd.prog G0 142 [.agg (cApiSize s0), .int .i64 space1] (.int .i64 r) [] := by
  refine con_of (T := TT0) tt_ok Tryd.func142 (c := _) (by unfold Tryd.f142; rfl) Tryd.ntmps142 (rs := [.tmp 4]) (by rw [Tryd.results142]) (by unfold Tryd.f142; rfl) (by simp) ?_
  simp only [argsCh]
  have F := True.intro
  dsimp only [addr_Width] at h
  refine rs0 ?_
  iterate 2 refine vp ?_
  refine vn ?_
  refine Wp.seq ?_
  refine rs0 ?_
  refine vp ?_
  refine vn ?_
  refine Wp.block ?_
  refine rs0 ?_
  iterate 2 refine vp ?_
  refine vn ?_
  refine sB h F (fun F h => ?_) fun F h => ?_
  refine cF ?_
  refine rs0 ?_
  iterate 2 refine vp ?_
  refine vn ?_
  refine sB h F (fun F h => ?_) fun F h => ?_
  refine cF ?_
  refine rs0 ?_
  iterate 2 refine vp ?_
  refine vn ?_
  refine sB h F (fun F h => ?_) fun F h => ?_
  refine cF ?_
  refine Wp.skip ?_
  refine sh ?_
  refine rs0 ?_
  refine vp ?_
  refine vn ?_
  cases h
  exact Wp.ret en0
  refine cT ?_
  refine rs0 ?_
  iterate 3 refine vp ?_
  refine vn ?_
  cases h
  exact Wp.ret en0
  refine cT ?_
  refine rs0 ?_
  iterate 3 refine vp ?_
  refine vn ?_
  cases h
  exact Wp.ret en0
  refine cT ?_
  refine rs0 ?_
  iterate 3 refine vp ?_
  refine vn ?_
  cases h
  exact Wp.ret en0
theorem con_graph_TopoSort_1_1 {n : Nat} {i_0 : Int} {m1 : List (Str × Bool)} {b2 : ApiRung} {r : Bool} (h : graph_TopoSort_1_1 n i_0 m1 b2 = some r) : ConH Tryd.prog G0 75 [.int .i64 i_0, .hptr 0 0 0, .hptr 2 0 0] [.var [.mp 1], .map (mAV AV.str cB m1), .var [.str b2.Label, aL cApiContact b2.Contacts, aL cApiCoil b2.Coils, .str b2.Jump]] (.bool r) [.var [.mp 1], .map (mAV AV.str cB m1), .var [.str b2.Label, aL cApiContact b2.Contacts, aL cApiCoil b2.Coils, .str b2.Jump]] := by
  refine conH_of (T := TT0) tt_ok Tryd.func75 (c := _) (by unfold Tryd.f75; rfl) Tryd.ntmps75 (rs := [.tmp 4]) (by rw [Tryd.results75]) (by unfold Tryd.f75; rfl) (by simp) (k := 3) rfl rfl ?_
  try simp only [argsCh]
  have F := True.intro
  dsimp only [graph_TopoSort_1_1] at h
  refine rs0 ?_
  refine vp ?_
  refine vn ?_
  refine dw (fun _ => false) [0, 1, 2] ?_
  refine du 4 ?_
  refine eI h F fun x13213 F h => ?_
  refine du 6 ?_
  refine dn ?_
  cases h
  exact Wp.ret (enH [some 0, some 1, some 2])
theorem con_printer_Check_1 {n : Nat} {x_0 : ApiRung} {b0 : ApiRung} {r : Bool} (h : printer_Check_1 n x_0 b0 = some r) : ConH Tryd.prog G0 90 [.agg (cApiRung x_0), .hptr 0 0 0] [.var [.str b0.Label, aL cApiContact b0.Contacts, aL cApiCoil b0.Coils, .str b0.Jump]] (.bool r) [.var [.str b0.Label, aL cApiContact b0.Contacts, aL cApiCoil b0.Coils, .str b0.Jump]] := by
  refine conH_of (T := TT0) tt_ok Tryd.func90 (c := _) (by unfold Tryd.f90; rfl) Tryd.ntmps90 (rs := [.tmp 3]) (by rw [Tryd.results90]) (by unfold Tryd.f90; rfl) (by simp) (k := 1) rfl rfl ?_
  try simp only [argsCh]
  have F := True.intro
  dsimp only [printer_Check_1] at h
  refine rs0 ?_
  iterate 2 refine vp ?_
  refine vn ?_
  refine rs0 ?_
  iterate 6 refine vp ?_
  refine vn ?_
  cases h
  exact Wp.ret (enH [some 0])
theorem con_codegen_sees {n : Nat} {c0 : ApiContact} {r : Bool} (h : codegen_sees n c0 = some r) : Con Tryd.prog G0 37 [.agg (cApiContact c0)] (.bool r) [] := by
  refine con_of (T := TT0) tt_ok Tryd.func37 (c := _) (by unfold Tryd.f37; rfl) Tryd.ntmps37 (rs := [.tmp 2]) (by rw [Tryd.results37]) (by unfold Tryd.f37; rfl) (by simp) ?_
  simp only [argsCh]
  have F := True.intro
  dsimp only [codegen_sees] at h
  refine rs0 ?_
  iterate 2 refine vp ?_
  refine vn ?_
  refine rs0 ?_
  iterate 4 refine vp ?_
  refine sB h F (fun F h => ?_) fun F h => ?_
  refine vg ?_
  refine vg ?_
  refine vg ?_
  iterate 2 refine vp ?_
  refine vn ?_
  cases h
  exact Wp.ret en0
  refine vs ?_
  refine vs ?_
  refine vs ?_
  iterate 2 refine vp ?_
  refine vn ?_
  cases h
  exact Wp.ret en0
theorem con_graph_Outgoing_1 {n : Nat} {c0 : ApiContact} {b0 : Str} {r : Bool} (h : graph_Outgoing_1 n c0 b0 = some r) : ConH Tryd.prog G0 129 [.agg (cApiContact c0), .hptr 0 0 0] [.var [.str b0]] (.bool r) [.var [.str b0]] := by
  refine conH_of (T := TT0) tt_ok Tryd.func129 (c := _) (by unfold Tryd.f129; rfl) Tryd.ntmps129 (rs := [.tmp 3]) (by rw [Tryd.results129]) (by unfold Tryd.f129; rfl) (by simp) (k := 1) rfl rfl ?_
  try simp only [argsCh]
  have F := True.intro
  dsimp only [graph_Outgoing_1] at h
  refine rs0 ?_
  iterate 2 refine vp ?_
  refine vn ?_
  refine rs0 ?_
  iterate 5 refine vp ?_
  refine vn ?_
  cases h
  exact Wp.ret (enH [some 0])
theorem con_cmp_isNaN_int {n : Nat} {x_0 : Int} {r : Bool} (h : cmp_isNaN_int n x_0 = some r) : Con Tryd.prog G0 84 [.int .i64 x_0] (.bool r) [] := by
  refine con_of (T := TT0) tt_ok Tryd.func84 (c := _) (by unfold Tryd.f84; rfl) Tryd.ntmps84 (rs := [.tmp 2]) (by rw [Tryd.results84]) (by unfold Tryd.f84; rfl) (by simp) ?_
  simp only [argsCh]
  have F := True.intro
  dsimp only [cmp_isNaN_int] at h
  refine rs0 ?_
  refine vp ?_
  refine vn ?_
  refine rs0 ?_
  iterate 4 refine vp ?_
  refine vn ?_
  cases h
  exact Wp.ret en0
end Go.Proofs.YtaebdeidbibfkaaDoor
