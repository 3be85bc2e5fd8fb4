/- Contracts: models of functions are right. No law is proved here. -/
import Derived.Test.YtaebdeidbibfkaaDoorHGMod
import Derived.Test.YtaebdeidbibfkaaDoorHTah
import Derived.Test.YtaebdeidbibfkaaDoorHSo
namespace Go.Proofs.YtaebdeidbibfkaaDoor
open Go.Av Go.G
attribute [-simp] Int.natCast_tdiv_eq_ediv
attribute [local simp] runf guardA opf St.ev Go.Av.look St.setd constAV constAV0 opBin opLen intBin St.need lookT TT0 tab resA resOne resAll blt_dec ble_dec beq_dec isPure
attribute [local simp] opMakeSlice opCopy opIndexAddr opLoad opStore St.mem St.rows opUn calleeA toArgs toArg toArg0 toArgs0 shift shift0 shift1 splice cellsOf isFree ofCells TS.isAgg isCell strBin opConvert
attribute [local simp] opSlice3 opClear fz_clear opBuildSlice fillA opAppend eqC eqA cksB ckB St.newBox runI valKind withinB readsHp refsD refs noSl opFieldAddr opBuild opMax opMin placeOf Op.operands Call.operands opIndex opExtract opSlice opField partA
attribute [local simp] loA hiA lenA opMakeMap opLookup opMapUpdate keyOk findA_int findA_str findA_bool putA_strB putA_strI putA_strS putA_intB putA_intI putA_intS putA_boolI putA_boolB mAV_length mAV_nil cA1 cA2 cA3 cA4 opNilCheck opMakeFunc opRange
attribute [local simp] aL cI cB cS cL rw_map fz_rw fz_const dropRow_rw fz_append fz_set fz_copy fz_rows rowLen_rw rowsLen_nil rowsLen_cons rowsLen_append rowsLen_map rowsLen_dm rowsLen_tm rowsLen_take rowsLen_drop rowsLen_replicate take_map_len take_map_le drop_map_len take_drop_len chunks isScalar isScalar0
attribute [local simp] putBack putAt objMap mapC mapA mapT map0 bid rid memB passed closedB argsH argH argH0 argsH0 objIds ids0 idsC isLocT isLocA isLocC isLoc0 LocObj
attribute [local congr] bind_congr1 map_congr1 cond_congr1
attribute [local simp] cApiAddr cApiContact cApiCoil cApiRung cApiIns cApiLadder cApiSize cApiProgram cReducePair cReduceEdge cTreeTree_eq TreeTree_Kind_mk TreeTree_N_mk TreeTree_Kids_mk eta_TreeTree
set_option maxHeartbeats 4000000
set_option maxRecDepth 20000
set_option linter.unusedSimpArgs false
set_option linter.unusedVariables false

theorem con_graph_Nodes_o0 {n : Nat} {r_0 : ApiRung} {r : (List Str)} (h : graph_Nodes_o0 n r_0 = some r) : Con Tryd.prog G0 70 [.agg (cApiRung r_0)] (.sl 0 0 r.length) [.arr 1 r.length (rw (r.map cS))] := by
  refine con_of (T := TT0) tt_ok Tryd.func70 (c := _) (by unfold Tryd.f70; rfl) Tryd.ntmps70 (rs := [.tmp 2]) (by rw [Tryd.results70]) (by unfold Tryd.f70; rfl) (by simp) ?_
  simp only [argsCh]
  have F := True.intro
  dsimp only [graph_Nodes_o0] at h
  refine rs0 ?_
  iterate 2 refine vp ?_
  refine vn ?_
  refine rs (fun d => Nat.beq d 9) ?_
  refine vp ?_
  refine nl cS h F fun l13088 m F h => ?_
  try simp only [m]
  clear m
  refine vp ?_
  refine vn ?_
  refine rs0 ?_
  iterate 5 refine vp ?_
  refine vn ?_
  refine Wp.seq ?_
  refine rs0 ?_
  iterate 4 refine vp ?_
  refine vn ?_
  refine Wp.block ?_
  refine lp [some 1, some 2] (fun x : Int × (List Str) × (List (Str × Bool)) => { ch := [(3, .sl 0 0 x.2.1.length), (4, .mp 1), (13, aL cApiContact r_0.Contacts), (14, .int .i64 (r_0.Contacts.length : Int)), (15, .int .i64 x.1)], hp := [.arr 1 x.2.1.length (rw (x.2.1.map cS)), .map (mAV AV.str cB x.2.2)], base := 0, n := 42, cond := True, gl := G0 }) (fun m x => graph_Nodes_o0_L1 n r_0 m x.1 x.2.1 x.2.2 = some r) n (0, l13088, (mPut (mPut ([]) (⟨#[76]⟩ : Str) true) (⟨#[82]⟩ : Str) true)) h ?_
  rintro rec_n1 ⟨p13100, l13101, p13102⟩ h
  dsimp only [graph_Nodes_o0_L1] at h
  try dsimp only
  refine rs0 ?_
  refine vp ?_
  refine vn ?_
  refine Wp.seq ?_
  refine sD h F (fun F h => ?_) fun F h => ?_
  refine cF ?_
  refine Wp.exit ?_
  refine sh ?_
  refine rs0 ?_
  iterate 2 refine vp ?_
  refine vn ?_
  cases h
  exact Wp.ret (enH [some 0])
  refine cT ?_
  refine Wp.skip ?_
  refine sh ?_
  refine Wp.seq ?_
  refine Wp.block ?_
  refine rs0 ?_
  refine eI h F fun x13114 F h => ?_
  iterate 4 refine vp ?_
  refine vn ?_
  refine rs0 ?_
  iterate 5 refine vp ?_
  refine nl cS h F fun l13115 m F h => ?_
  try simp only [m]
  clear m
  iterate 2 refine vp ?_
  refine vn ?_
  refine Wp.block ?_
  refine lp [some 0, some 1] (fun x : Int × (List Str) × (List (Str × Bool)) => { ch := [(3, .sl 0 0 x.2.1.length), (4, .mp 1), (13, aL cApiContact r_0.Contacts), (14, .int .i64 (r_0.Contacts.length : Int)), (15, .int .i64 p13100), (23, aL cS l13115), (24, .int .i64 (l13115.length : Int)), (25, .int .i64 x.1)], hp := [.arr 1 x.2.1.length (rw (x.2.1.map cS)), .map (mAV AV.str cB x.2.2)], base := 0, n := 42, cond := True, gl := G0 }) (fun m x => graph_Nodes_o0_L2 p13100 (graph_Nodes_o0_L1 n r_0 rec_n1) l13115 m x.1 x.2.1 x.2.2 = some r) n (0, l13101, p13102) h ?_
  rintro rec_n2 ⟨p13118, l13119, p13120⟩ h
  dsimp only [graph_Nodes_o0_L2] at h
  try dsimp only
  refine rs0 ?_
  refine vp ?_
  refine vn ?_
  refine Wp.seq ?_
  refine sD h F (fun F h => ?_) fun F h => ?_
  refine cF ?_
  refine Wp.exit ?_
  refine sh ?_
  refine rg0 ?_
  iterate 2 refine vp ?_
  refine vn ?_
  exact nx [some 0, some 1] ((IntKind.i64.wrap (p13100 + 1)), l13119, p13120) h
  refine cT ?_
  refine Wp.skip ?_
  refine sh ?_
  refine Wp.seq ?_
  refine Wp.block ?_
  refine rs0 ?_
  refine eI h F fun x13123 F h => ?_
  iterate 3 refine vp ?_
  refine vn ?_
  refine rs0 ?_
  iterate 4 refine vp ?_
  refine vn ?_
  refine sB h F (fun F h => ?_) fun F h => ?_
  refine cF ?_
  refine Wp.skip ?_
  refine sh ?_
  refine rg0 ?_
  iterate 2 refine vp ?_
  refine vn ?_
  exact nx [some 0, some 1] ((IntKind.i64.wrap (p13118 + 1)), l13119, p13120) h
  refine cT ?_
  refine rs0 ?_
  iterate 3 refine vp ?_
  refine vn ?_
  refine rg0 ?_
  iterate 3 refine vp ?_
  refine gd h F fun F h => ?_
  refine vp ?_
  refine nm cS h F fun l13124 F h => ?_
  refine vp ?_
  refine vn ?_
  refine sh ?_
  refine rg0 ?_
  iterate 2 refine vp ?_
  refine vn ?_
  exact nx [some 2, some 1] ((IntKind.i64.wrap (p13118 + 1)), l13124, (mPut p13120 x13123 true)) h

theorem con_law12_TooLarge {n : Nat} {r_0 : ApiRung} {r : Int} (h : law12_TooLarge n r_0 = some r) : Con Tryd.prog G0 9 [.agg (cApiRung r_0)] (.int .i64 r) [] := by
  refine con_of (T := TT0) tt_ok Tryd.func9 (c := _) (by unfold Tryd.f9; rfl) Tryd.ntmps9 (rs := [.tmp 2]) (by rw [Tryd.results9]) (by unfold Tryd.f9; rfl) (by simp) ?_
  simp only [argsCh]
  have F := True.intro
  dsimp only [law12_TooLarge] at h
  refine rs0 ?_
  iterate 2 refine vp ?_
  refine vn ?_
  refine rs0 ?_
  refine vp ?_
  refine vn ?_
  refine jn (fun p6 : Int => { ch := [(1, .hptr 0 0 0), (3, .int .i64 p6)], hp := [.var [.str r_0.Label, aL cApiContact r_0.Contacts, aL cApiCoil r_0.Coils, .str r_0.Jump]], base := 0, n := 32, cond := True, gl := G0 }) (fun x => law12_TooLarge_J1 r_0 x = some r) ?_ ?_
  clear h
  rintro p6 h
  dsimp only [law12_TooLarge_J1] at h
  try dsimp only
  refine Wp.seq ?_
  refine rs0 ?_
  iterate 3 refine vp ?_
  refine sD h F (fun F h => ?_) fun F h => ?_
  refine vg ?_
  refine vg ?_
  refine vg ?_
  refine vg ?_
  refine vp ?_
  refine vn ?_
  refine sD h F (fun F h => ?_) fun F h => ?_
  refine cF ?_
  refine Wp.skip ?_
  refine sh ?_
  refine rs0 ?_
  refine vp ?_
  refine vn ?_
  cases h
  exact Wp.ret en0
  refine cT ?_
  refine rs0 ?_
  refine vp ?_
  refine vn ?_
  cases h
  exact Wp.ret en0
  refine vs ?_
  refine vs ?_
  refine vs ?_
  refine vs ?_
  refine vp ?_
  refine vn ?_
  refine cT ?_
  refine rs0 ?_
  refine vp ?_
  refine vn ?_
  cases h
  exact Wp.ret en0
  refine rs0 ?_
  iterate 4 refine vp ?_
  refine vn ?_
  refine Wp.block ?_
  refine lp [some 0] (fun x : Int × Int => { ch := [(1, .hptr 0 0 0), (3, .int .i64 x.1), (7, aL cApiContact r_0.Contacts), (8, .int .i64 (r_0.Contacts.length : Int)), (9, .int .i64 x.2)], hp := [.var [.str r_0.Label, aL cApiContact r_0.Contacts, aL cApiCoil r_0.Coils, .str r_0.Jump]], base := 0, n := 32, cond := True, gl := G0 }) (fun m x => law12_TooLarge_L2 r_0 m x.1 x.2 = some r) n (0, 0) h ?_
  rintro rec_n2 ⟨p8, p9⟩ h
  dsimp only [law12_TooLarge_L2] at h
  try dsimp only
  refine rs0 ?_
  refine vp ?_
  refine vn ?_
  refine Wp.seq ?_
  refine sD h F (fun F h => ?_) fun F h => ?_
  refine cF ?_
  refine Wp.exit ?_
  exact nx [some 0] p8 h
  refine cT ?_
  refine Wp.skip ?_
  refine sh ?_
  refine Wp.seq ?_
  refine Wp.block ?_
  refine rs0 ?_
  refine eI h F fun x11 F h => ?_
  iterate 4 refine vp ?_
  refine vn ?_
  refine rg0 ?_
  iterate 11 refine vp ?_
  refine vn ?_
  refine sh ?_
  refine rg0 ?_
  iterate 2 refine vp ?_
  refine vn ?_
  exact nx [some 0] ((IntKind.i64.wrap (p8 + (IntKind.i64.wrap ((IntKind.i64.wrap (1 + (x11.From.size : Int))) + (x11.To.size : Int))))), (IntKind.i64.wrap (p9 + 1))) h

theorem con_slices_Min_int {n : Nat} {x_0 : List Int} {r : Int} (h : slices_Min_int n x_0 = some r) : Con Tryd.prog G0 56 [aL (cI .i64) x_0] (.int .i64 r) [] := by
  refine con_of (T := TT0) tt_ok Tryd.func56 (c := _) (by unfold Tryd.f56; rfl) Tryd.ntmps56 (rs := [.tmp 2]) (by rw [Tryd.results56]) (by unfold Tryd.f56; rfl) (by simp) ?_
  simp only [argsCh]
  have F := True.intro
  dsimp only [slices_Min_int] at h
  refine rs0 ?_
  refine vp ?_
  refine vn ?_
  refine Wp.seq ?_
  refine rs0 ?_
  iterate 3 refine vp ?_
  refine vn ?_
  refine sD h F (fun F h => ?_) fun F h => ?_
  refine cF ?_
  refine Wp.skip ?_
  refine sh ?_
  refine rs0 ?_
  refine vp ?_
  refine eN (m := 0) h F fun x15099 F h => ?_
  iterate 3 refine vp ?_
  refine vn ?_
  refine Wp.seq ?_
  refine rs0 ?_
  refine vp ?_
  refine vn ?_
  refine Wp.block ?_
  refine lp [] (fun x : Int × Int => { ch := [(0, aL (cI .i64) x_0), (3, .int .i64 x.1), (4, .int .i64 x.2)], hp := [], base := 0, n := 25, cond := True, gl := G0 }) (fun m x => slices_Min_int_L1 x_0 m x.1 x.2 = some r) n (x15099, 1) h ?_
  rintro rec_n1 ⟨x15101, p15102⟩ h
  dsimp only [slices_Min_int_L1] at h
  try dsimp only
  refine Wp.seq ?_
  refine rs0 ?_
  iterate 4 refine vp ?_
  refine vn ?_
  refine sD h F (fun F h => ?_) fun F h => ?_
  refine cF ?_
  refine Wp.exit ?_
  refine sh ?_
  refine rs0 ?_
  iterate 2 refine vp ?_
  refine vn ?_
  cases h
  exact Wp.ret en0
  refine cT ?_
  refine Wp.skip ?_
  refine sh ?_
  refine Wp.seq ?_
  refine Wp.block ?_
  refine rg0 ?_
  iterate 3 refine vp ?_
  refine eI h F fun x15104 F h => ?_
  iterate 4 refine vp ?_
  refine vn ?_
  refine sh ?_
  refine rg0 ?_
  iterate 3 refine vp ?_
  refine vn ?_
  exact nx [] ((imin x15101 x15104), (IntKind.i64.wrap (p15102 + 1))) h
  refine cT ?_
  refine rg0 ?_
  cases h

theorem con_addr_Width {n : Nat} {s0 : ApiSize} {space1 : Int} {r : Int} (h : addr_Width n s0 space1 = some r) : Con Tryd.prog G0 142 [.agg (cApiSize s0), .int .i64 space1] (.int .i64 r) [] := by
  refine con_of (T := TT0) tt_ok Tryd.func142 (c := _) (by unfold Tryd.f142; rfl) Tryd.ntmps142 (rs := [.tmp 4]) (by rw [Tryd.results142]) (by unfold Tryd.f142; rfl) (by simp) ?_
  simp only [argsCh]
  have F := True.intro
  dsimp only [addr_Width] at h
  refine rs0 ?_
  iterate 2 refine vp ?_
  refine vn ?_
  refine Wp.seq ?_
  refine rs0 ?_
  refine vp ?_
  refine vn ?_
  refine Wp.block ?_
  refine rs0 ?_
  iterate 2 refine vp ?_
  refine vn ?_
  refine sB h F (fun F h => ?_) fun F h => ?_
  refine cF ?_
  refine rs0 ?_
  iterate 2 refine vp ?_
  refine vn ?_
  refine sB h F (fun F h => ?_) fun F h => ?_
  refine cF ?_
  refine rs0 ?_
  iterate 2 refine vp ?_
  refine vn ?_
  refine sB h F (fun F h => ?_) fun F h => ?_
  refine cF ?_
  refine Wp.skip ?_
  refine sh ?_
  refine rs0 ?_
  refine vp ?_
  refine vn ?_
  cases h
  exact Wp.ret en0
  refine cT ?_
  refine rs0 ?_
  iterate 3 refine vp ?_
  refine vn ?_
  cases h
  exact Wp.ret en0
  refine cT ?_
  refine rs0 ?_
  iterate 3 refine vp ?_
  refine vn ?_
  cases h
  exact Wp.ret en0
  refine cT ?_
  refine rs0 ?_
  iterate 3 refine vp ?_
  refine vn ?_
  cases h
  exact Wp.ret en0

theorem con_graph_TopoSort_1_1 {n : Nat} {i_0 : Int} {m1 : List (Str × Bool)} {b2 : ApiRung} {r : Bool} (h : graph_TopoSort_1_1 n i_0 m1 b2 = some r) : ConH Tryd.prog G0 75 [.int .i64 i_0, .hptr 0 0 0, .hptr 2 0 0] [.var [.mp 1], .map (mAV AV.str cB m1), .var [.str b2.Label, aL cApiContact b2.Contacts, aL cApiCoil b2.Coils, .str b2.Jump]] (.bool r) [.var [.mp 1], .map (mAV AV.str cB m1), .var [.str b2.Label, aL cApiContact b2.Contacts, aL cApiCoil b2.Coils, .str b2.Jump]] := by
  refine conH_of (T := TT0) tt_ok Tryd.func75 (c := _) (by unfold Tryd.f75; rfl) Tryd.ntmps75 (rs := [.tmp 4]) (by rw [Tryd.results75]) (by unfold Tryd.f75; rfl) (by simp) (k := 3) rfl rfl ?_
  try simp only [argsCh]
  have F := True.intro
  dsimp only [graph_TopoSort_1_1] at h
  refine rs0 ?_
  refine vp ?_
  refine vn ?_
  refine dw (fun _ => false) [0, 1, 2] ?_
  refine du 4 ?_
  refine eI h F fun x13170 F h => ?_
  refine du 6 ?_
  refine dn ?_
  cases h
  exact Wp.ret (enH [some 0, some 1, some 2])

theorem con_printer_Check_1 {n : Nat} {x_0 : ApiRung} {b0 : ApiRung} {r : Bool} (h : printer_Check_1 n x_0 b0 = some r) : ConH Tryd.prog G0 90 [.agg (cApiRung x_0), .hptr 0 0 0] [.var [.str b0.Label, aL cApiContact b0.Contacts, aL cApiCoil b0.Coils, .str b0.Jump]] (.bool r) [.var [.str b0.Label, aL cApiContact b0.Contacts, aL cApiCoil b0.Coils, .str b0.Jump]] := by
  refine conH_of (T := TT0) tt_ok Tryd.func90 (c := _) (by unfold Tryd.f90; rfl) Tryd.ntmps90 (rs := [.tmp 3]) (by rw [Tryd.results90]) (by unfold Tryd.f90; rfl) (by simp) (k := 1) rfl rfl ?_
  try simp only [argsCh]
  have F := True.intro
  dsimp only [printer_Check_1] at h
  refine rs0 ?_
  iterate 2 refine vp ?_
  refine vn ?_
  refine rs0 ?_
  iterate 6 refine vp ?_
  refine vn ?_
  cases h
  exact Wp.ret (enH [some 0])

theorem con_codegen_sees {n : Nat} {c0 : ApiContact} {r : Bool} (h : codegen_sees n c0 = some r) : Con Tryd.prog G0 37 [.agg (cApiContact c0)] (.bool r) [] := by
  refine con_of (T := TT0) tt_ok Tryd.func37 (c := _) (by unfold Tryd.f37; rfl) Tryd.ntmps37 (rs := [.tmp 2]) (by rw [Tryd.results37]) (by unfold Tryd.f37; rfl) (by simp) ?_
  simp only [argsCh]
  have F := True.intro
  dsimp only [codegen_sees] at h
  refine rs0 ?_
  iterate 2 refine vp ?_
  refine vn ?_
  refine rs0 ?_
  iterate 4 refine vp ?_
  refine sB h F (fun F h => ?_) fun F h => ?_
  refine vg ?_
  refine vg ?_
  refine vg ?_
  iterate 2 refine vp ?_
  refine vn ?_
  cases h
  exact Wp.ret en0
  refine vs ?_
  refine vs ?_
  refine vs ?_
  iterate 2 refine vp ?_
  refine vn ?_
  cases h
  exact Wp.ret en0

theorem con_graph_Outgoing_1 {n : Nat} {c0 : ApiContact} {b0 : Str} {r : Bool} (h : graph_Outgoing_1 n c0 b0 = some r) : ConH Tryd.prog G0 129 [.agg (cApiContact c0), .hptr 0 0 0] [.var [.str b0]] (.bool r) [.var [.str b0]] := by
  refine conH_of (T := TT0) tt_ok Tryd.func129 (c := _) (by unfold Tryd.f129; rfl) Tryd.ntmps129 (rs := [.tmp 3]) (by rw [Tryd.results129]) (by unfold Tryd.f129; rfl) (by simp) (k := 1) rfl rfl ?_
  try simp only [argsCh]
  have F := True.intro
  dsimp only [graph_Outgoing_1] at h
  refine rs0 ?_
  iterate 2 refine vp ?_
  refine vn ?_
  refine rs0 ?_
  iterate 5 refine vp ?_
  refine vn ?_
  cases h
  exact Wp.ret (enH [some 0])

theorem con_cmp_isNaN_int {n : Nat} {x_0 : Int} {r : Bool} (h : cmp_isNaN_int n x_0 = some r) : Con Tryd.prog G0 84 [.int .i64 x_0] (.bool r) [] := by
  refine con_of (T := TT0) tt_ok Tryd.func84 (c := _) (by unfold Tryd.f84; rfl) Tryd.ntmps84 (rs := [.tmp 2]) (by rw [Tryd.results84]) (by unfold Tryd.f84; rfl) (by simp) ?_
  simp only [argsCh]
  have F := True.intro
  dsimp only [cmp_isNaN_int] at h
  refine rs0 ?_
  refine vp ?_
  refine vn ?_
  refine rs0 ?_
  iterate 4 refine vp ?_
  refine vn ?_
  cases h
  exact Wp.ret en0

end Go.Proofs.YtaebdeidbibfkaaDoor
