/- Contracts: models of functions are right. No law is proved here. -/
import Derived.Test.YtaebdeidbibfkaaDoorJGMod
import Derived.Test.YtaebdeidbibfkaaDoorJTaj
import Derived.Test.YtaebdeidbibfkaaDoorJSo
import Derived.Test.YtaebdeidbibfkaaDoorJGC2
import Derived.Test.YtaebdeidbibfkaaDoorJGC4
import Derived.Test.YtaebdeidbibfkaaDoorJGC8
import Derived.Test.YtaebdeidbibfkaaDoorJGC9
import Derived.Test.YtaebdeidbibfkaaDoorJGC10
namespace Go.Proofs.YtaebdeidbibfkaaDoor
open Go.Av Go.G
attribute [-simp] Int.natCast_tdiv_eq_ediv
attribute [local simp] runf guardA opf St.ev Go.Av.look St.setd constAV constAV0 opBin opLen intBin St.need lookT TT0 tab resA resOne resAll blt_dec ble_dec beq_dec isPure
attribute [local simp] opMakeSlice opCopy opIndexAddr opLoad opStore St.mem St.rows opUn calleeA toArgs toArg toArg0 toArgs0 shift shift0 shift1 splice cellsOf isFree ofCells TS.isAgg isCell strBin opConvert
attribute [local simp] opSlice3 opClear fz_clear opBuildSlice fillA opAppend eqC eqA cksB ckB St.newBox runI valKind withinB readsHp refsD refs noSl opFieldAddr opBuild opMax opMin placeOf Op.operands Call.operands opIndex opExtract opSlice opField partA
attribute [local simp] loA hiA lenA opMakeMap opLookup opMapUpdate keyOk findA_int findA_str findA_bool putA_strB putA_strI putA_strS putA_intB putA_intI putA_intS putA_boolI putA_boolB byteRow_rwN bytesOf_rwN opBytesStr mAV_length mAV_nil cA1 cA2 cA3 cA4 opNilCheck opMakeFunc opRange
attribute [local simp] aL cI cB cS cL rw_map fz_rw fz_const dropRow_rw fz_append fz_set fz_copy fz_rows rowLen_rw rowsLen_nil rowsLen_cons rowsLen_append rowsLen_map rowsLen_dm rowsLen_tm rowsLen_take rowsLen_drop rowsLen_replicate take_map_len take_map_le drop_map_len take_drop_len chunks isScalar isScalar0
attribute [local simp] putBack putAt objMap mapC mapA mapT map0 bid rid memB passed closedB argsH argH argH0 argsH0 objIds ids0 idsC isLocT isLocA isLocC isLoc0 LocObj
attribute [local congr] bind_congr1 map_congr1 cond_congr1
attribute [local simp] cApiAddr cApiContact cApiCoil cApiRung cApiIns cApiLadder cApiSize cApiProgram cReducePair cReduceEdge cTreeTree_eq TreeTree_Kind_mk TreeTree_N_mk TreeTree_Kids_mk eta_TreeTree
variable [Drawn]
set_option maxHeartbeats 4000000
set_option linter.unusedSectionVars false
set_option maxRecDepth 20000
set_option linter.unusedSimpArgs false
set_option linter.unusedVariables false
theorem con_printer_Check {n : Nat} {_append0 : ApiLadder} {r : Int × Int} (h : printer_Check n _append0 = some r) : Con Tryd.prog G0 60 [.agg (cApiLadder _append0)] (.tup [.int .i64 r.1, .int .i64 r.2]) [] := by
  refine con_of (T := TT0) tt_ok Tryd.func60 (c := _) (by unfold Tryd.f60; rfl) Tryd.ntmps60 (rs := [.tmp 2, .tmp 3]) (by rw [Tryd.results60]) (by unfold Tryd.f60; rfl) (by simp) ?_
  simp only [argsCh]
  have F := True.intro
  dsimp only [printer_Check] at h
  refine rs0 ?_
  iterate 3 refine vp ?_
  refine vn ?_
  refine rs0 ?_
  refine vp ?_
  obtain ⟨r10722, hr10721, h⟩ := obind h
  refine vc (con_printer_sizes hr10721) ?_
  iterate 2 refine vp ?_
  refine vn ?_
  refine Wp.seq ?_
  refine Wp.block ?_
  refine rs0 ?_
  refine vp ?_
  obtain ⟨r10734, hr10733, h⟩ := obind h
  refine vc (con_addr_CheckSize hr10733) ?_
  iterate 2 refine vp ?_
  refine vn ?_
  refine sB h F (fun F h => ?_) fun F h => ?_
  refine cF ?_
  refine rs0 ?_
  iterate 5 refine vp ?_
  refine vn ?_
  refine sD h F (fun F h => ?_) fun F h => ?_
  refine cF ?_
  refine Wp.skip ?_
  refine sh ?_
  refine jn (fun _ : Unit => { ch := [(1, .hptr 0 0 0)], hp := [.var [.int .i64 _append0.I, .int .i64 _append0.Q, .int .i64 _append0.M, aL cApiRung _append0.Rungs]], base := 0, n := 67, cond := True, gl := G0 }) (fun x => printer_Check_J1 n _append0 = some r) ?_ ?_
  clear h
  rintro _ h
  dsimp only [printer_Check_J1] at h
  try dsimp only
  refine Wp.seq ?_
  refine rs0 ?_
  iterate 4 refine vp ?_
  refine vn ?_
  refine Wp.block ?_
  refine lp [some 0] (fun p10901 : Int => { ch := [(1, .hptr 0 0 0), (42, aL cApiRung _append0.Rungs), (43, .int .i64 (_append0.Rungs.length : Int)), (44, .int .i64 p10901)], hp := [.var [.int .i64 _append0.I, .int .i64 _append0.Q, .int .i64 _append0.M, aL cApiRung _append0.Rungs]], base := 0, n := 67, cond := True, gl := G0 }) (fun m x => printer_Check_L2 n _append0 m x = some r) n 0 h ?_
  rintro rec_n2 p10901 h
  dsimp only [printer_Check_L2] at h
  try dsimp only
  refine rs0 ?_
  refine vp ?_
  refine vn ?_
  refine Wp.seq ?_
  refine sD h F (fun F h => ?_) fun F h => ?_
  refine cF ?_
  refine Wp.exit ?_
  refine sh ?_
  refine rs0 ?_
  iterate 5 refine vp ?_
  refine vn ?_
  cases h
  exact Wp.ret en0
  refine cT ?_
  refine Wp.skip ?_
  refine sh ?_
  refine Wp.seq ?_
  refine Wp.block ?_
  refine rs0 ?_
  refine vp ?_
  refine eI h F fun x10906 F h => ?_
  iterate 5 refine vp ?_
  refine vn ?_
  refine rs0 ?_
  iterate 4 refine vp ?_
  refine sEn h F (fun _ F h => ?_) fun _ F h => ?_
  refine vs ?_
  refine vs ?_
  refine vs ?_
  refine vs ?_
  refine vs ?_
  refine vs ?_
  refine vs ?_
  refine vs ?_
  refine vp ?_
  refine vn ?_
  refine cF ?_
  refine Wp.skip ?_
  refine sh ?_
  refine rg0 ?_
  iterate 2 refine vp ?_
  refine vn ?_
  exact nx [some 0] (IntKind.i64.wrap (p10901 + 1)) h
  refine vg ?_
  refine vg ?_
  refine vg ?_
  refine vg ?_
  refine gd h F fun F h => ?_
  refine vg ?_
  refine nm cApiRung h F fun l10907 F h => ?_
  refine vg ?_
  obtain ⟨r10909, hr10908, h⟩ := obind h
  refine vh [1] (con_slices_ContainsFunc_api_Rung_c90 hr10908) ?_ (hg := by (simp [F]; done))
  refine vg ?_
  refine vp ?_
  refine vn ?_
  refine sB h F (fun F h => ?_) fun F h => ?_
  refine cF ?_
  refine Wp.skip ?_
  refine sh ?_
  refine rg0 ?_
  iterate 2 refine vp ?_
  refine vn ?_
  exact nx [some 0] (IntKind.i64.wrap (p10901 + 1)) h
  refine cT ?_
  refine rs0 ?_
  iterate 3 refine vp ?_
  refine vn ?_
  cases h
  exact Wp.ret en0
  refine rs0 ?_
  iterate 4 refine vp ?_
  refine vn ?_
  refine Wp.block ?_
  refine lp [some 0, some 1] (fun p10914 : Int => { ch := [(1, .hptr 0 0 0), (4, .hptr 1 0 0), (22, aL cApiRung _append0.Rungs), (23, .int .i64 (_append0.Rungs.length : Int)), (24, .int .i64 p10914)], hp := [.var [.int .i64 _append0.I, .int .i64 _append0.Q, .int .i64 _append0.M, aL cApiRung _append0.Rungs], .var [.int .i64 r10722.I, .int .i64 r10722.Q, .int .i64 r10722.M, .int .i64 r10722.E]], base := 0, n := 67, cond := True, gl := G0 }) (fun m x => printer_Check_L3 n _append0 r10722 m x = some r) n 0 h ?_
  rintro rec_n3 p10914 h
  dsimp only [printer_Check_L3] at h
  try dsimp only
  refine rs0 ?_
  refine vp ?_
  refine vn ?_
  refine Wp.seq ?_
  refine sD h F (fun F h => ?_) fun F h => ?_
  refine cF ?_
  refine Wp.exit ?_
  exact nx [some 0] () h
  refine cT ?_
  refine Wp.skip ?_
  refine sh ?_
  refine Wp.seq ?_
  refine Wp.block ?_
  refine rs0 ?_
  refine vp ?_
  refine eI h F fun x10919 F h => ?_
  iterate 5 refine vp ?_
  refine vn ?_
  refine dw (fun _ => false) [0, 1, 2] ?_
  refine du 4 ?_
  refine gd h F fun F h => ?_
  refine du 1 ?_
  refine nm cApiRung h F fun l10920 F h => ?_
  refine du 1 ?_
  obtain ⟨r10922, hr10921, h⟩ := obind h
  refine dc (con_printer_rung hr10921) ?_
  refine du 1 ?_
  refine dn ?_
  refine rs0 ?_
  iterate 2 refine vp ?_
  refine vn ?_
  refine sB h F (fun F h => ?_) fun F h => ?_
  refine cF ?_
  refine Wp.skip ?_
  refine sh ?_
  refine rg0 ?_
  iterate 2 refine vp ?_
  refine vn ?_
  exact nx [some 0, some 1] (IntKind.i64.wrap (p10914 + 1)) h
  refine cT ?_
  refine rs0 ?_
  iterate 4 refine vp ?_
  refine vn ?_
  cases h
  exact Wp.ret en0
  refine cT ?_
  refine rs0 ?_
  iterate 2 refine vp ?_
  refine vn ?_
  cases h
  exact Wp.ret en0
  refine cT ?_
  refine rs0 ?_
  iterate 2 refine vp ?_
  refine vn ?_
  cases h
  exact Wp.ret en0
theorem con_slices_DeleteFunc_string_c80 {n : Nat} {l0 : List Str} {b1 : List Str} {b2 : List Str} {r : (List Str)} (h : slices_DeleteFunc_string_c80 n l0 b1 b2 = some r) : ConH Tryd.prog G0 79 [.sl 0 0 l0.length, .clos 80 [] [.hptr 1 0 0, .hptr 2 0 0]] [.arr 1 l0.length (rw (l0.map cS)), .var [aL cS b1], .var [aL cS b2]] (.sl 0 0 r.length) [.arr 1 r.length (rw (r.map cS)), .var [aL cS b1], .var [aL cS b2]] := by
  refine conH_of (T := TT0) tt_ok Tryd.func79 (c := _) (by unfold Tryd.f79; rfl) Tryd.ntmps79 (rs := [.tmp 4]) (by rw [Tryd.results79]) (by unfold Tryd.f79; rfl) (by simp) (k := 3) rfl rfl ?_
  try simp only [argsCh]
  have F := True.intro
  dsimp only [slices_DeleteFunc_string_c80] at h
  refine rs0 ?_
  refine vp ?_
  refine vn ?_
  refine rs0 ?_
  iterate 2 refine vp ?_
  obtain ⟨r14731, hr14730, h⟩ := obind h
  refine vh [0, 1, 2] (con_slices_IndexFunc_string_c80_v1 hr14730) ?_
  refine vp ?_
  refine vn ?_
  refine Wp.seq ?_
  refine rs0 ?_
  iterate 2 refine vp ?_
  refine vn ?_
  refine sB h F (fun F h => ?_) fun F h => ?_
  refine cF ?_
  refine Wp.skip ?_
  refine sh ?_
  refine Wp.seq ?_
  refine rs0 ?_
  iterate 3 refine vp ?_
  refine vn ?_
  refine Wp.block ?_
  refine lp [some 0, some 1, some 2] (fun x : (List Str) × Int × Int => { ch := [(0, .sl 0 0 x.1.length), (1, .clos 80 [] [.hptr 1 0 0, .hptr 2 0 0]), (5, .int .i64 x.2.1), (6, .int .i64 x.2.2)], hp := [.arr 1 x.1.length (rw (x.1.map cS)), .var [aL cS b1], .var [aL cS b2]], base := 3, n := 42, cond := True, gl := G0 }) (fun m x => slices_DeleteFunc_string_c80_L1 n b1 b2 m x.1 x.2.1 x.2.2 = some r) n (l0, r14731, (IntKind.i64.wrap (r14731 + 1))) h ?_
  rintro rec_n1 ⟨l14737, r14738, p14739⟩ h
  dsimp only [slices_DeleteFunc_string_c80_L1] at h
  try dsimp only
  refine Wp.seq ?_
  refine rs0 ?_
  iterate 4 refine vp ?_
  refine vn ?_
  refine sD h F (fun F h => ?_) fun F h => ?_
  refine cF ?_
  refine Wp.exit ?_
  refine sh ?_
  refine rs0 ?_
  iterate 2 refine vp ?_
  refine gd h F fun F h => ?_
  refine vp ?_
  refine gd h F fun F h => ?_
  refine vp ?_
  refine vn ?_
  refine rl [some 0, some 1, some 2] { ch := [(0, .sl 0 0 l14737.length), (1, .clos 80 [] [.hptr 1 0 0, .hptr 2 0 0]), (5, .int .i64 r14738), (6, .int .i64 p14739), (16, .int .i64 p14739), (17, .sl 0 0 l14737.length), (18, .int .i64 (l14737.length : Int)), (19, .bool (decide (p14739 < (l14737.length : Int)))), (36, .sl 0 0 l14737.length), (37, .int .i64 r14738), (38, .sl 0 r14738.toNat (l14737.length - r14738.toNat))], hp := [.arr 1 (l14737.take r14738.toNat).length (rw ((l14737.take r14738.toNat).map cS)), .var [aL cS b1], .var [aL cS b2]], base := 3, n := 42, cond := True, gl := G0 } ?_
  refine rs0 ?_
  iterate 2 refine vp ?_
  refine gd h F fun F h => ?_
  iterate 2 refine vp ?_
  refine vn ?_
  cases h
  exact Wp.ret (enH [some 0, some 1, some 2])
  refine cT ?_
  refine Wp.skip ?_
  refine sh ?_
  refine Wp.seq ?_
  refine Wp.block ?_
  refine rs0 ?_
  iterate 2 refine vp ?_
  refine eI h F fun x14745 F h => ?_
  iterate 3 refine vp ?_
  refine vn ?_
  refine rs0 ?_
  iterate 2 refine vp ?_
  obtain ⟨r14747, hr14746, h⟩ := obind h
  refine vh [1, 2] (con_flow_DeadNodes_1 hr14746) ?_
  refine vp ?_
  refine vn ?_
  refine sB h F (fun F h => ?_) fun F h => ?_
  refine cF ?_
  refine Wp.skip ?_
  refine sh ?_
  refine rg0 ?_
  iterate 3 refine vp ?_
  refine vn ?_
  exact nx [some 0, some 1, some 2] (l14737, r14738, (IntKind.i64.wrap (p14739 + 1))) h
  refine cT ?_
  refine rs0 ?_
  iterate 3 refine vp ?_
  refine eI h F fun x14748 F h => ?_
  iterate 2 refine vp ?_
  refine nm cS h F fun l14749 F h => ?_
  refine vn ?_
  refine rg0 ?_
  iterate 3 refine vp ?_
  refine vn ?_
  refine sh ?_
  refine rg0 ?_
  iterate 3 refine vp ?_
  refine vn ?_
  exact nx [some 0, some 1, some 2] (l14749, (IntKind.i64.wrap (r14738 + 1)), (IntKind.i64.wrap (p14739 + 1))) h
  refine cT ?_
  refine rs0 ?_
  iterate 2 refine vp ?_
  refine vn ?_
  cases h
  exact Wp.ret (enH [some 0, some 1, some 2])
theorem con_reduce_sorted (n : Nat) : ∀ {t0 : TreeTree} {r : TreeTree}, reduce_sorted n t0 = some r → Con Tryd.prog G0 31 [.agg [.int .i64 t0.Kind, .int .i64 t0.N, aL cTreeTree t0.Kids]] (.agg [.int .i64 r.Kind, .int .i64 r.N, aL cTreeTree r.Kids]) [] := by
  induction n with
  | zero => intro t0 r h; simp [reduce_sorted] at h
  | succ n Hslf_reduce_sorted =>
   intro t0 r h
   refine con_of (T := TT0) tt_ok Tryd.func31 (c := _) (by unfold Tryd.f31; rfl) Tryd.ntmps31 (rs := [.cell 2 31]) (by rw [Tryd.results31]) (by unfold Tryd.f31; rfl) (by simp) ?_
   simp only [argsCh]
   have F := True.intro
   dsimp only [reduce_sorted] at h
   refine rs0 ?_
   iterate 2 refine vp ?_
   refine vn ?_
   refine rs0 ?_
   iterate 7 refine vp ?_
   refine vn ?_
   refine jn (fun p15114 : List TreeTree => { ch := [(2, .hptr 0 0 0), (3, .hptr 1 0 0)], hp := [.var [.int .i64 0, .int .i64 0, .nilsl], .var [.int .i64 t0.Kind, .int .i64 t0.N, .sl 2 0 p15114.length], .arr 3 p15114.length (rw (p15114.map cTreeTree))], base := 0, n := 33, cond := True, gl := G0 }) (fun x => reduce_sorted_J1 n t0 x = some r) ?_ ?_
   clear h
   rintro p15114 h
   dsimp only [reduce_sorted_J1] at h
   try dsimp only
   refine Wp.seq ?_
   refine rs0 ?_
   iterate 3 refine vp ?_
   refine vn ?_
   refine sB h F (fun F h => ?_) fun F h => ?_
   refine cF ?_
   refine Wp.skip ?_
   refine sh ?_
   refine rs0 ?_
   iterate 2 refine vp ?_
   refine vn ?_
   cases h
   exact Wp.ret en0
   refine cT ?_
   refine rg0 ?_
   iterate 2 refine vp ?_
   obtain ⟨q15161, hr15160, h⟩ := obind h
   refine vh [2] (con_slices_SortFunc_tree_Tree_c54 hr15160) ?_
   have F := And.intro (len_slices_SortFunc_tree_Tree_c54 hr15160) F
   refine vn ?_
   refine sh ?_
   refine rs0 ?_
   iterate 2 refine vp ?_
   refine vn ?_
   cases h
   exact Wp.ret en0
   refine rs0 ?_
   iterate 4 refine vp ?_
   refine vn ?_
   refine Wp.block ?_
   refine lp [some 1, some 2, none] (fun x : Int × (List TreeTree) => { ch := [(2, .hptr 0 0 0), (3, .hptr 1 0 0), (12, aL cTreeTree t0.Kids), (13, .int .i64 (t0.Kids.length : Int)), (14, .int .i64 x.1)], hp := [.var [.int .i64 0, .int .i64 0, .nilsl], .var [.int .i64 t0.Kind, .int .i64 t0.N, .sl 2 0 x.2.length], .arr 3 x.2.length (rw (x.2.map cTreeTree))], base := 0, n := 33, cond := True, gl := G0 }) (fun m x => reduce_sorted_L2 n t0 (reduce_sorted n) m x.1 x.2 = some r) n (0, []) h ?_
   rintro rec_n2 ⟨p15166, p15167⟩ h
   dsimp only [reduce_sorted_L2] at h
   try dsimp only
   refine rs0 ?_
   refine vp ?_
   refine vn ?_
   refine Wp.seq ?_
   refine sD h F (fun F h => ?_) fun F h => ?_
   refine cF ?_
   refine Wp.exit ?_
   exact nx [some 0, some 1, some 2] p15167 h
   refine cT ?_
   refine Wp.skip ?_
   refine sh ?_
   refine Wp.seq ?_
   refine Wp.block ?_
   refine rs0 ?_
   refine eI h F fun x15172 F h => ?_
   iterate 4 refine vp ?_
   refine vn ?_
   refine dw1 (fun d => Nat.beq d 23 || Nat.beq d 1023) [1, 2, 3] ?_
   refine du 3 ?_
   obtain ⟨r15174, hr15173, h⟩ := obind h
   refine dc (Hslf_reduce_sorted hr15173) ?_
   refine du 1 ?_
   refine gd h F fun F h => ?_
   refine db ?_
   refine nm cTreeTree h F fun l15175 F h => ?_
   refine du 1 ?_
   refine db ?_
   refine dn ?_
   refine sh ?_
   refine rg0 ?_
   iterate 2 refine vp ?_
   refine vn ?_
   exact nx [some 0, some 1, some 4] ((IntKind.i64.wrap (p15166 + 1)), l15175) h
theorem con_graph_gather_1_c101_127 (n : Nat) : ∀ {n_0 : Str} {m1 : List (Str × Bool)} {b3 : ApiRung} {r : (List (Str × Bool))}, graph_gather_1_c101_127 n n_0 m1 b3 = some r → ConH Tryd.prog G0 127 [.str n_0, .hptr 0 0 0, .hptr 2 0 0, .hptr 4 0 0] [.var [.mp 1], .map (mAV AV.str cB m1), .var [.clos 101 [] [.hptr 3 0 0]], .var [.str b3.Label, aL cApiContact b3.Contacts, aL cApiCoil b3.Coils, .str b3.Jump], .var [.clos 127 [] [.hptr 0 0 0, .hptr 2 0 0, .hptr 4 0 0]]] (.tup []) [.var [.mp 1], .map (mAV AV.str cB r), .var [.clos 101 [] [.hptr 3 0 0]], .var [.str b3.Label, aL cApiContact b3.Contacts, aL cApiCoil b3.Coils, .str b3.Jump], .var [.clos 127 [] [.hptr 0 0 0, .hptr 2 0 0, .hptr 4 0 0]]] := by
  induction n with
  | zero => intro n_0 m1 b3 r h; simp [graph_gather_1_c101_127] at h
  | succ n Hslf_graph_gather_1_c101_127 =>
   intro n_0 m1 b3 r h
   refine conH_of (T := TT0) tt_ok Tryd.func127 (c := _) (by unfold Tryd.f127; rfl) Tryd.ntmps127 (rs := []) (by rw [Tryd.results127]) (by unfold Tryd.f127; rfl) (by simp) (k := 5) rfl rfl ?_
   try simp only [argsCh]
   have F := True.intro
   dsimp only [graph_gather_1_c101_127] at h
   refine Wp.seq ?_
   refine rs0 ?_
   iterate 3 refine vp ?_
   refine vn ?_
   refine sB h F (fun F h => ?_) fun F h => ?_
   refine cF ?_
   refine Wp.skip ?_
   refine sh ?_
   refine rs0 ?_
   iterate 3 refine vp ?_
   refine vn ?_
   refine rs0 ?_
   iterate 2 refine vp ?_
   obtain ⟨r14331, hr14330, h⟩ := obind h
   refine vh [3] (con_graph_Reachable_1 hr14330) ?_
   iterate 2 refine vp ?_
   refine vn ?_
   refine Wp.block ?_
   refine lp [some 0, some 1, some 2, some 3, some 4] (fun x : (List (Str × Bool)) × Int => { ch := [(3, .hptr 4 0 0), (14, aL cS r14331), (15, .int .i64 (r14331.length : Int)), (16, .int .i64 x.2)], hp := [.var [.mp 1], .map (mAV AV.str cB x.1), .var [.clos 101 [] [.hptr 3 0 0]], .var [.str b3.Label, aL cApiContact b3.Contacts, aL cApiCoil b3.Coils, .str b3.Jump], .var [.clos 127 [] [.hptr 0 0 0, .hptr 2 0 0, .hptr 4 0 0]]], base := 5, n := 24, cond := True, gl := G0 }) (fun m x => graph_gather_1_c101_127_L1 b3 r14331 (graph_gather_1_c101_127 n) m x.1 x.2 = some r) n ((mPut m1 n_0 true), 0) h ?_
   rintro rec_n1 ⟨p14335, p14336⟩ h
   dsimp only [graph_gather_1_c101_127_L1] at h
   try dsimp only
   refine rs0 ?_
   refine vp ?_
   refine vn ?_
   refine Wp.seq ?_
   refine sD h F (fun F h => ?_) fun F h => ?_
   refine cF ?_
   refine Wp.exit ?_
   cases h
   exact n2r (enH [some 0, some 1, some 2, some 3, some 4])
   refine cT ?_
   refine Wp.skip ?_
   refine sh ?_
   refine Wp.seq ?_
   refine Wp.block ?_
   refine rs0 ?_
   refine eI h F fun x14340 F h => ?_
   iterate 3 refine vp ?_
   refine vn ?_
   refine rg0 ?_
   iterate 2 refine vp ?_
   obtain ⟨q14342, hr14341, h⟩ := obind h
   refine vh [0, 1, 2, 3, 4] (Hslf_graph_gather_1_c101_127 hr14341) ?_
   refine vn ?_
   refine sh ?_
   refine rg0 ?_
   iterate 2 refine vp ?_
   refine vn ?_
   exact nx [some 0, some 1, some 2, some 3, some 4] (q14342, (IntKind.i64.wrap (p14336 + 1))) h
   refine cT ?_
   cases h
   exact Wp.ret (enH [some 0, some 1, some 2, some 3, some 4])
theorem con_graph_gather_1_c103_127 (n : Nat) : ∀ {n_0 : Str} {m1 : List (Str × Bool)} {b3 : ApiRung} {r : (List (Str × Bool))}, graph_gather_1_c103_127 n n_0 m1 b3 = some r → ConH Tryd.prog G0 127 [.str n_0, .hptr 0 0 0, .hptr 2 0 0, .hptr 4 0 0] [.var [.mp 1], .map (mAV AV.str cB m1), .var [.clos 103 [] [.hptr 3 0 0]], .var [.str b3.Label, aL cApiContact b3.Contacts, aL cApiCoil b3.Coils, .str b3.Jump], .var [.clos 127 [] [.hptr 0 0 0, .hptr 2 0 0, .hptr 4 0 0]]] (.tup []) [.var [.mp 1], .map (mAV AV.str cB r), .var [.clos 103 [] [.hptr 3 0 0]], .var [.str b3.Label, aL cApiContact b3.Contacts, aL cApiCoil b3.Coils, .str b3.Jump], .var [.clos 127 [] [.hptr 0 0 0, .hptr 2 0 0, .hptr 4 0 0]]] := by
  induction n with
  | zero => intro n_0 m1 b3 r h; simp [graph_gather_1_c103_127] at h
  | succ n Hslf_graph_gather_1_c103_127 =>
   intro n_0 m1 b3 r h
   refine conH_of (T := TT0) tt_ok Tryd.func127 (c := _) (by unfold Tryd.f127; rfl) Tryd.ntmps127 (rs := []) (by rw [Tryd.results127]) (by unfold Tryd.f127; rfl) (by simp) (k := 5) rfl rfl ?_
   try simp only [argsCh]
   have F := True.intro
   dsimp only [graph_gather_1_c103_127] at h
   refine Wp.seq ?_
   refine rs0 ?_
   iterate 3 refine vp ?_
   refine vn ?_
   refine sB h F (fun F h => ?_) fun F h => ?_
   refine cF ?_
   refine Wp.skip ?_
   refine sh ?_
   refine rs0 ?_
   iterate 3 refine vp ?_
   refine vn ?_
   refine rs0 ?_
   iterate 2 refine vp ?_
   obtain ⟨r14619, hr14618, h⟩ := obind h
   refine vh [3] (con_graph_Ancestors_1 hr14618) ?_
   iterate 2 refine vp ?_
   refine vn ?_
   refine Wp.block ?_
   refine lp [some 0, some 1, some 2, some 3, some 4] (fun x : (List (Str × Bool)) × Int => { ch := [(3, .hptr 4 0 0), (14, aL cS r14619), (15, .int .i64 (r14619.length : Int)), (16, .int .i64 x.2)], hp := [.var [.mp 1], .map (mAV AV.str cB x.1), .var [.clos 103 [] [.hptr 3 0 0]], .var [.str b3.Label, aL cApiContact b3.Contacts, aL cApiCoil b3.Coils, .str b3.Jump], .var [.clos 127 [] [.hptr 0 0 0, .hptr 2 0 0, .hptr 4 0 0]]], base := 5, n := 24, cond := True, gl := G0 }) (fun m x => graph_gather_1_c103_127_L1 b3 r14619 (graph_gather_1_c103_127 n) m x.1 x.2 = some r) n ((mPut m1 n_0 true), 0) h ?_
   rintro rec_n1 ⟨p14623, p14624⟩ h
   dsimp only [graph_gather_1_c103_127_L1] at h
   try dsimp only
   refine rs0 ?_
   refine vp ?_
   refine vn ?_
   refine Wp.seq ?_
   refine sD h F (fun F h => ?_) fun F h => ?_
   refine cF ?_
   refine Wp.exit ?_
   cases h
   exact n2r (enH [some 0, some 1, some 2, some 3, some 4])
   refine cT ?_
   refine Wp.skip ?_
   refine sh ?_
   refine Wp.seq ?_
   refine Wp.block ?_
   refine rs0 ?_
   refine eI h F fun x14628 F h => ?_
   iterate 3 refine vp ?_
   refine vn ?_
   refine rg0 ?_
   iterate 2 refine vp ?_
   obtain ⟨q14630, hr14629, h⟩ := obind h
   refine vh [0, 1, 2, 3, 4] (Hslf_graph_gather_1_c103_127 hr14629) ?_
   refine vn ?_
   refine sh ?_
   refine rg0 ?_
   iterate 2 refine vp ?_
   refine vn ?_
   exact nx [some 0, some 1, some 2, some 3, some 4] (q14630, (IntKind.i64.wrap (p14624 + 1))) h
   refine cT ?_
   cases h
   exact Wp.ret (enH [some 0, some 1, some 2, some 3, some 4])
theorem con_slices_IndexFunc_string_c72_v1 {n : Nat} {l0 : List Str} {b1 : ApiRung} {m3 : List (Str × Bool)} {r : Int} (h : slices_IndexFunc_string_c72_v1 n l0 b1 m3 = some r) : ConH Tryd.prog G0 71 [.sl 0 0 l0.length, .clos 72 [] [.hptr 1 0 0, .hptr 2 0 0]] [.arr 1 l0.length (rw (l0.map cS)), .var [.str b1.Label, aL cApiContact b1.Contacts, aL cApiCoil b1.Coils, .str b1.Jump], .var [.mp 3], .map (mAV AV.str cB m3)] (.int .i64 r) [.arr 1 l0.length (rw (l0.map cS)), .var [.str b1.Label, aL cApiContact b1.Contacts, aL cApiCoil b1.Coils, .str b1.Jump], .var [.mp 3], .map (mAV AV.str cB m3)] := by
  refine conH_of (T := TT0) tt_ok Tryd.func71 (c := _) (by unfold Tryd.f71; rfl) Tryd.ntmps71 (rs := [.tmp 4]) (by rw [Tryd.results71]) (by unfold Tryd.f71; rfl) (by simp) (k := 4) rfl rfl ?_
  try simp only [argsCh]
  have F := True.intro
  dsimp only [slices_IndexFunc_string_c72_v1] at h
  refine rs0 ?_
  refine vp ?_
  refine vn ?_
  refine Wp.seq ?_
  refine rs0 ?_
  iterate 3 refine vp ?_
  refine vn ?_
  refine Wp.block ?_
  refine lp [some 0, some 1, some 2, some 3] (fun p13255 : Int => { ch := [(0, .sl 0 0 l0.length), (1, .clos 72 [] [.hptr 1 0 0, .hptr 2 0 0]), (7, .int .i64 (l0.length : Int)), (8, .int .i64 p13255)], hp := [.arr 1 l0.length (rw (l0.map cS)), .var [.str b1.Label, aL cApiContact b1.Contacts, aL cApiCoil b1.Coils, .str b1.Jump], .var [.mp 3], .map (mAV AV.str cB m3)], base := 4, n := 19, cond := True, gl := G0 }) (fun m x => slices_IndexFunc_string_c72_v1_L1 n l0 b1 m3 m x = some r) n 0 h ?_
  rintro rec_n1 p13255 h
  dsimp only [slices_IndexFunc_string_c72_v1_L1] at h
  try dsimp only
  refine rs0 ?_
  refine vp ?_
  refine vn ?_
  refine Wp.seq ?_
  refine sD h F (fun F h => ?_) fun F h => ?_
  refine cF ?_
  refine Wp.exit ?_
  refine sh ?_
  refine rs0 ?_
  refine vp ?_
  refine vn ?_
  cases h
  exact Wp.ret (enH [some 0, some 1, some 2, some 3])
  refine cT ?_
  refine Wp.skip ?_
  refine sh ?_
  refine Wp.seq ?_
  refine Wp.block ?_
  refine rs0 ?_
  iterate 2 refine vp ?_
  refine vn ?_
  refine rs0 ?_
  iterate 3 refine vp ?_
  refine eI h F fun x13259 F h => ?_
  iterate 2 refine vp ?_
  obtain ⟨r13261, hr13260, h⟩ := obind h
  refine vh [1, 2, 3] (con_graph_TopoSort_1 hr13260) ?_
  refine vn ?_
  refine sB h F (fun F h => ?_) fun F h => ?_
  refine cF ?_
  refine Wp.skip ?_
  refine sh ?_
  refine rg0 ?_
  iterate 2 refine vp ?_
  refine vn ?_
  exact nx [some 0, some 1, some 2, some 3] (IntKind.i64.wrap (p13255 + 1)) h
  refine cT ?_
  refine rs0 ?_
  iterate 2 refine vp ?_
  refine vn ?_
  cases h
  exact Wp.ret (enH [some 0, some 1, some 2, some 3])
theorem con_tree_Check {n : Nat} {t0 : TreeTree} {many1 : Int} {r : Int} (h : tree_Check n t0 many1 = some r) : Con Tryd.prog G0 26 [.agg [.int .i64 t0.Kind, .int .i64 t0.N, aL cTreeTree t0.Kids], .int .i64 many1] (.int .i64 r) [] := by
  refine con_of (T := TT0) tt_ok Tryd.func26 (c := _) (by unfold Tryd.f26; rfl) Tryd.ntmps26 (rs := [.tmp 4]) (by rw [Tryd.results26]) (by unfold Tryd.f26; rfl) (by simp) ?_
  simp only [argsCh]
  have F := True.intro
  dsimp only [tree_Check] at h
  refine rs0 ?_
  iterate 2 refine vp ?_
  refine vn ?_
  refine rs0 ?_
  iterate 2 refine vp ?_
  refine vn ?_
  refine rs0 ?_
  iterate 3 refine vp ?_
  obtain ⟨⟨r15309, q15310⟩, hr15308, h⟩ := obind h
  dsimp only at h
  refine vh [1] (con_tree_Tree_check _ hr15308) ?_
  refine vp ?_
  refine vn ?_
  refine Wp.seq ?_
  refine rs0 ?_
  iterate 3 refine vp ?_
  refine sB h F (fun F h => ?_) fun F h => ?_
  refine vs ?_
  refine vs ?_
  refine vs ?_
  refine vs ?_
  refine vs ?_
  refine vp ?_
  refine vn ?_
  refine cF ?_
  refine Wp.skip ?_
  refine sh ?_
  refine rs0 ?_
  iterate 2 refine vp ?_
  refine vn ?_
  cases h
  exact Wp.ret en0
  refine vg ?_
  refine vg ?_
  refine vg ?_
  refine vg ?_
  refine vg ?_
  refine vp ?_
  refine vn ?_
  refine sB h F (fun F h => ?_) fun F h => ?_
  refine cF ?_
  refine Wp.skip ?_
  refine sh ?_
  refine rs0 ?_
  iterate 2 refine vp ?_
  refine vn ?_
  cases h
  exact Wp.ret en0
  refine cT ?_
  refine rg0 ?_
  refine vp ?_
  refine vn ?_
  refine sh ?_
  refine rs0 ?_
  iterate 2 refine vp ?_
  refine vn ?_
  cases h
  exact Wp.ret en0
end Go.Proofs.YtaebdeidbibfkaaDoor
