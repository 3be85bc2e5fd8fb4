/- Contracts: models of functions are right. No law is proved here. -/
import Derived.Test.YtaebdeidbibfkaaDoorJGMod
import Derived.Test.YtaebdeidbibfkaaDoorJTaj
import Derived.Test.YtaebdeidbibfkaaDoorJSo
import Derived.Test.YtaebdeidbibfkaaDoorJGC6
import Derived.Test.YtaebdeidbibfkaaDoorJGC7
import Derived.Test.YtaebdeidbibfkaaDoorJGC8
import Derived.Test.YtaebdeidbibfkaaDoorJGC9
namespace Go.Proofs.YtaebdeidbibfkaaDoor
open Go.Av Go.G
attribute [-simp] Int.natCast_tdiv_eq_ediv
attribute [local simp] runf guardA opf St.ev Go.Av.look St.setd constAV constAV0 opBin opLen intBin St.need lookT TT0 tab resA resOne resAll blt_dec ble_dec beq_dec isPure
attribute [local simp] opMakeSlice opCopy opIndexAddr opLoad opStore St.mem St.rows opUn calleeA toArgs toArg toArg0 toArgs0 shift shift0 shift1 splice cellsOf isFree ofCells TS.isAgg isCell strBin opConvert
attribute [local simp] opSlice3 opClear fz_clear opBuildSlice fillA opAppend eqC eqA cksB ckB St.newBox runI valKind withinB readsHp refsD refs noSl opFieldAddr opBuild opMax opMin placeOf Op.operands Call.operands opIndex opExtract opSlice opField partA
attribute [local simp] loA hiA lenA opMakeMap opLookup opMapUpdate keyOk findA_int findA_str findA_bool putA_strB putA_strI putA_strS putA_intB putA_intI putA_intS putA_boolI putA_boolB byteRow_rwN bytesOf_rwN opBytesStr mAV_length mAV_nil cA1 cA2 cA3 cA4 opNilCheck opMakeFunc opRange
attribute [local simp] aL cI cB cS cL rw_map fz_rw fz_const dropRow_rw fz_append fz_set fz_copy fz_rows rowLen_rw rowsLen_nil rowsLen_cons rowsLen_append rowsLen_map rowsLen_dm rowsLen_tm rowsLen_take rowsLen_drop rowsLen_replicate take_map_len take_map_le drop_map_len take_drop_len chunks isScalar isScalar0
attribute [local simp] putBack putAt objMap mapC mapA mapT map0 bid rid memB passed closedB argsH argH argH0 argsH0 objIds ids0 idsC isLocT isLocA isLocC isLoc0 LocObj
attribute [local congr] bind_congr1 map_congr1 cond_congr1
attribute [local simp] cApiAddr cApiContact cApiCoil cApiRung cApiIns cApiLadder cApiSize cApiProgram cReducePair cReduceEdge cTreeTree_eq TreeTree_Kind_mk TreeTree_N_mk TreeTree_Kids_mk eta_TreeTree
variable [Drawn]
set_option maxHeartbeats 4000000
set_option linter.unusedSectionVars false
set_option maxRecDepth 20000
set_option linter.unusedSimpArgs false
set_option linter.unusedVariables false
theorem con_tree_Tree_check (n : Nat) : ∀ {_append0 : TreeTree} {a1 : Int} {m0 : List (Int × Bool)} {r : Int × (List (Int × Bool))}, tree_Tree_check n _append0 a1 m0 = some r → ConH Tryd.prog G0 45 [.agg [.int .i64 _append0.Kind, .int .i64 _append0.N, aL cTreeTree _append0.Kids], .int .i64 a1, .mp 0] [.map (mAV (AV.int .i64) cB m0)] (.int .i64 r.1) [.map (mAV (AV.int .i64) cB r.2)] := by
  induction n with
  | zero => intro _append0 a1 m0 r h; simp [tree_Tree_check] at h
  | succ n Hslf_tree_Tree_check =>
   intro _append0 a1 m0 r h
   refine conH_of (T := TT0) tt_ok Tryd.func45 (c := _) (by unfold Tryd.f45; rfl) Tryd.ntmps45 (rs := [.tmp 6]) (by rw [Tryd.results45]) (by unfold Tryd.f45; rfl) (by simp) (k := 1) rfl rfl ?_
   try simp only [argsCh]
   have F := True.intro
   dsimp only [tree_Tree_check] at h
   refine rs0 ?_
   iterate 2 refine vp ?_
   refine vn ?_
   refine jn (fun _ : Unit => { ch := [(1, .int .i64 a1), (2, .mp 0), (3, .hptr 1 0 0)], hp := [.map (mAV (AV.int .i64) cB m0), .var [.int .i64 _append0.Kind, .int .i64 _append0.N, aL cTreeTree _append0.Kids]], base := 1, n := 96, cond := True, gl := G0 }) (fun x => tree_Tree_check_J1 n _append0 a1 m0 (tree_Tree_check n) = some r) ?_ ?_
   clear h
   rintro _ h
   dsimp only [tree_Tree_check_J1] at h
   try dsimp only
   refine Wp.seq ?_
   refine rs0 ?_
   iterate 4 refine vp ?_
   refine vn ?_
   refine Wp.block ?_
   refine lp [some 0] (fun x : (List (Int × Bool)) × Int => { ch := [(1, .int .i64 a1), (2, .mp 0), (82, aL cTreeTree _append0.Kids), (83, .int .i64 (_append0.Kids.length : Int)), (84, .int .i64 x.2)], hp := [.map (mAV (AV.int .i64) cB x.1)], base := 1, n := 96, cond := True, gl := G0 }) (fun m x => tree_Tree_check_L2 _append0 a1 (tree_Tree_check n) m x.1 x.2 = some r) n (m0, 0) h ?_
   rintro rec_n2 ⟨m15294, p15295⟩ h
   dsimp only [tree_Tree_check_L2] at h
   try dsimp only
   refine rs0 ?_
   refine vp ?_
   refine vn ?_
   refine Wp.seq ?_
   refine sD h F (fun F h => ?_) fun F h => ?_
   refine cF ?_
   refine Wp.exit ?_
   refine sh ?_
   refine rs0 ?_
   refine vp ?_
   refine vn ?_
   cases h
   exact Wp.ret (enH [some 0])
   refine cT ?_
   refine Wp.skip ?_
   refine sh ?_
   refine Wp.seq ?_
   refine Wp.block ?_
   refine rs0 ?_
   refine eI h F fun x15300 F h => ?_
   iterate 4 refine vp ?_
   refine vn ?_
   refine rs0 ?_
   iterate 3 refine vp ?_
   obtain ⟨⟨r15302, q15303⟩, hr15301, h⟩ := obind h
   dsimp only at h
   refine vh [0] (Hslf_tree_Tree_check hr15301) ?_
   refine vp ?_
   refine vn ?_
   refine rs0 ?_
   iterate 2 refine vp ?_
   refine vn ?_
   refine sB h F (fun F h => ?_) fun F h => ?_
   refine cF ?_
   refine Wp.skip ?_
   refine sh ?_
   refine rg0 ?_
   iterate 2 refine vp ?_
   refine vn ?_
   exact nx [some 0] (q15303, (IntKind.i64.wrap (p15295 + 1))) h
   refine cT ?_
   refine rs0 ?_
   iterate 2 refine vp ?_
   refine vn ?_
   cases h
   exact Wp.ret (enH [some 0])
   refine Wp.block ?_
   refine rs0 ?_
   iterate 4 refine vp ?_
   refine sD h F (fun F h => ?_) fun F h => ?_
   refine vg ?_
   refine vg ?_
   refine vg ?_
   iterate 2 refine vp ?_
   refine vn ?_
   refine sD h F (fun F h => ?_) fun F h => ?_
   refine cF ?_
   refine rs0 ?_
   iterate 4 refine vp ?_
   refine sB h F (fun F h => ?_) fun F h => ?_
   refine vs ?_
   refine vs ?_
   refine vs ?_
   refine vs ?_
   iterate 2 refine vp ?_
   refine vg ?_
   refine vg ?_
   refine vg ?_
   refine vg ?_
   refine sB h F (fun F h => ?_) fun F h => ?_
   refine vs ?_
   refine vs ?_
   refine vs ?_
   refine vg ?_
   iterate 2 refine vp ?_
   refine vn ?_
   refine cF ?_
   refine rs0 ?_
   iterate 4 refine vp ?_
   refine vs ?_
   refine vs ?_
   refine vs ?_
   refine vs ?_
   refine vs ?_
   refine vs ?_
   refine vs ?_
   refine vs ?_
   refine vs ?_
   iterate 2 refine vp ?_
   refine vn ?_
   refine cF ?_
   refine rs0 ?_
   iterate 4 refine vp ?_
   refine vs ?_
   refine vs ?_
   refine vs ?_
   refine vs ?_
   iterate 2 refine vp ?_
   refine vn ?_
   refine cF ?_
   refine rs0 ?_
   iterate 4 refine vp ?_
   refine vn ?_
   refine cF ?_
   refine rs0 ?_
   iterate 5 refine vp ?_
   refine vn ?_
   refine sD h F (fun F h => ?_) fun F h => ?_
   refine cF ?_
   refine rs0 ?_
   iterate 3 refine vp ?_
   obtain ⟨r15307, hr15306, h⟩ := obind h
   refine vh [1] (con_slices_ContainsFunc_tree_Tree_c66 hr15306) ?_
   refine vp ?_
   refine vn ?_
   refine sB h F (fun F h => ?_) fun F h => ?_
   refine cF ?_
   refine Wp.skip ?_
   exact nx [some 0, some 1] () h
   refine cT ?_
   refine rs0 ?_
   refine vp ?_
   refine vn ?_
   cases h
   exact Wp.ret (enH [some 0])
   refine cT ?_
   refine rs0 ?_
   refine vp ?_
   refine vn ?_
   cases h
   exact Wp.ret (enH [some 0])
   refine vg ?_
   refine vg ?_
   refine vg ?_
   refine vg ?_
   iterate 2 refine vp ?_
   refine vn ?_
   refine sB h F (fun F h => ?_) fun F h => ?_
   refine cF ?_
   refine rs0 ?_
   iterate 4 refine vp ?_
   refine vs ?_
   refine vs ?_
   refine vs ?_
   refine vs ?_
   refine vs ?_
   refine vs ?_
   refine vs ?_
   refine vs ?_
   refine vs ?_
   iterate 2 refine vp ?_
   refine vn ?_
   refine cF ?_
   refine rs0 ?_
   iterate 4 refine vp ?_
   refine vs ?_
   refine vs ?_
   refine vs ?_
   refine vs ?_
   iterate 2 refine vp ?_
   refine vn ?_
   refine cF ?_
   refine rs0 ?_
   iterate 4 refine vp ?_
   refine vn ?_
   refine cF ?_
   refine rs0 ?_
   iterate 5 refine vp ?_
   refine vn ?_
   refine sD h F (fun F h => ?_) fun F h => ?_
   refine cF ?_
   refine rs0 ?_
   iterate 3 refine vp ?_
   obtain ⟨r15305, hr15304, h⟩ := obind h
   refine vh [1] (con_slices_ContainsFunc_tree_Tree_c66 hr15304) ?_
   refine vp ?_
   refine vn ?_
   refine sB h F (fun F h => ?_) fun F h => ?_
   refine cF ?_
   refine Wp.skip ?_
   exact nx [some 0, some 1] () h
   refine cT ?_
   refine rs0 ?_
   refine vp ?_
   refine vn ?_
   cases h
   exact Wp.ret (enH [some 0])
   refine cT ?_
   refine rs0 ?_
   refine vp ?_
   refine vn ?_
   cases h
   exact Wp.ret (enH [some 0])
   refine cT ?_
   refine rs0 ?_
   refine vp ?_
   refine vn ?_
   cases h
   exact Wp.ret (enH [some 0])
   refine vg ?_
   refine vg ?_
   refine vg ?_
   refine vg ?_
   iterate 2 refine vp ?_
   refine sD h F (fun F h => ?_) fun F h => ?_
   refine vg ?_
   refine vg ?_
   refine vg ?_
   refine vg ?_
   refine sB h F (fun F h => ?_) fun F h => ?_
   refine vs ?_
   refine vs ?_
   refine vs ?_
   refine vg ?_
   iterate 2 refine vp ?_
   refine vn ?_
   refine cF ?_
   refine rs0 ?_
   iterate 4 refine vp ?_
   refine vg ?_
   refine vg ?_
   refine vg ?_
   refine vg ?_
   refine sD h F (fun F h => ?_) fun F h => ?_
   refine vg ?_
   refine vg ?_
   refine vg ?_
   refine vg ?_
   refine vg ?_
   iterate 2 refine vp ?_
   refine vn ?_
   refine sD h F (fun F h => ?_) fun F h => ?_
   refine cF ?_
   refine rs0 ?_
   iterate 4 refine vp ?_
   refine vg ?_
   refine vg ?_
   refine vg ?_
   refine vg ?_
   iterate 2 refine vp ?_
   refine vn ?_
   refine sB h F (fun F h => ?_) fun F h => ?_
   refine cF ?_
   refine rs0 ?_
   iterate 4 refine vp ?_
   refine vn ?_
   refine cT ?_
   refine rs0 ?_
   iterate 4 refine vp ?_
   refine vn ?_
   refine rs0 ?_
   refine vp ?_
   refine vn ?_
   cases h
   exact Wp.ret (enH [some 0])
   refine cT ?_
   refine rs0 ?_
   refine vp ?_
   refine vn ?_
   cases h
   exact Wp.ret (enH [some 0])
   refine cT ?_
   refine rs0 ?_
   refine vp ?_
   refine vn ?_
   cases h
   exact Wp.ret (enH [some 0])
   refine vs ?_
   refine vs ?_
   refine vs ?_
   refine vs ?_
   refine vg ?_
   iterate 2 refine vp ?_
   refine vn ?_
   refine cT ?_
   refine rs0 ?_
   refine vp ?_
   refine vn ?_
   cases h
   exact Wp.ret (enH [some 0])
   refine vg ?_
   refine vg ?_
   refine vg ?_
   refine vg ?_
   iterate 2 refine vp ?_
   refine vn ?_
   refine sB h F (fun F h => ?_) fun F h => ?_
   refine cF ?_
   refine rs0 ?_
   iterate 4 refine vp ?_
   refine vg ?_
   refine vg ?_
   refine vg ?_
   refine vg ?_
   refine sD h F (fun F h => ?_) fun F h => ?_
   refine vg ?_
   refine vg ?_
   refine vg ?_
   refine vg ?_
   refine vg ?_
   iterate 2 refine vp ?_
   refine vn ?_
   refine sD h F (fun F h => ?_) fun F h => ?_
   refine cF ?_
   refine rs0 ?_
   iterate 4 refine vp ?_
   refine vg ?_
   refine vg ?_
   refine vg ?_
   refine vg ?_
   iterate 2 refine vp ?_
   refine vn ?_
   refine sB h F (fun F h => ?_) fun F h => ?_
   refine cF ?_
   refine rs0 ?_
   iterate 4 refine vp ?_
   refine vn ?_
   refine cT ?_
   refine rs0 ?_
   iterate 4 refine vp ?_
   refine vn ?_
   refine rs0 ?_
   refine vp ?_
   refine vn ?_
   cases h
   exact Wp.ret (enH [some 0])
   refine cT ?_
   refine rs0 ?_
   refine vp ?_
   refine vn ?_
   cases h
   exact Wp.ret (enH [some 0])
   refine cT ?_
   refine rs0 ?_
   refine vp ?_
   refine vn ?_
   cases h
   exact Wp.ret (enH [some 0])
   refine vs ?_
   refine vs ?_
   refine vs ?_
   refine vs ?_
   refine vg ?_
   iterate 2 refine vp ?_
   refine vn ?_
   refine cT ?_
   refine rs0 ?_
   refine vp ?_
   refine vn ?_
   cases h
   exact Wp.ret (enH [some 0])
   refine cT ?_
   refine rs0 ?_
   refine vp ?_
   refine vn ?_
   cases h
   exact Wp.ret (enH [some 0])
   refine vs ?_
   refine vs ?_
   refine vs ?_
   refine vs ?_
   refine vs ?_
   refine vs ?_
   refine vs ?_
   refine vs ?_
   iterate 2 refine vp ?_
   refine vn ?_
   refine cT ?_
   refine rs0 ?_
   refine vp ?_
   refine vn ?_
   cases h
   exact Wp.ret (enH [some 0])
   refine cT ?_
   refine rs0 ?_
   refine vp ?_
   refine vn ?_
   cases h
   exact Wp.ret (enH [some 0])
   refine vs ?_
   refine vs ?_
   refine vs ?_
   iterate 2 refine vp ?_
   refine vn ?_
   refine cT ?_
   refine rs0 ?_
   refine vp ?_
   refine vn ?_
   cases h
   exact Wp.ret (enH [some 0])
theorem con_printer_rung {n : Nat} {_append0 : ApiSize} {a1 : List ApiRung} {a2 : ApiRung} {r : Int} (h : printer_rung n _append0 a1 a2 = some r) : Con Tryd.prog G0 88 [.agg (cApiSize _append0), aL cApiRung a1, .agg (cApiRung a2)] (.int .i64 r) [] := by
  refine con_of (T := TT0) tt_ok Tryd.func88 (c := _) (by unfold Tryd.f88; rfl) Tryd.ntmps88 (rs := [.tmp 6]) (by rw [Tryd.results88]) (by unfold Tryd.f88; rfl) (by simp) ?_
  simp only [argsCh]
  have F := True.intro
  dsimp only [printer_rung] at h
  refine rs0 ?_
  iterate 3 refine vp ?_
  refine vn ?_
  refine jn (fun _ : Unit => { ch := [(3, .hptr 0 0 0), (5, .hptr 1 0 0)], hp := [.var [.int .i64 _append0.I, .int .i64 _append0.Q, .int .i64 _append0.M, .int .i64 _append0.E], .var [.str a2.Label, aL cApiContact a2.Contacts, aL cApiCoil a2.Coils, .str a2.Jump]], base := 0, n := 90, cond := True, gl := G0 }) (fun x => printer_rung_J1 n _append0 a2 = some r) ?_ ?_
  clear h
  rintro _ h
  dsimp only [printer_rung_J1] at h
  try dsimp only
  refine Wp.seq ?_
  refine rs0 ?_
  iterate 4 refine vp ?_
  refine vn ?_
  refine sD h F (fun F h => ?_) fun F h => ?_
  refine cF ?_
  refine Wp.skip ?_
  refine sh ?_
  refine jn (fun _ : Unit => { ch := [(3, .hptr 0 0 0), (5, .hptr 1 0 0)], hp := [.var [.int .i64 _append0.I, .int .i64 _append0.Q, .int .i64 _append0.M, .int .i64 _append0.E], .var [.str a2.Label, aL cApiContact a2.Contacts, aL cApiCoil a2.Coils, .str a2.Jump]], base := 0, n := 90, cond := True, gl := G0 }) (fun x => printer_rung_J2 n _append0 a2 = some r) ?_ ?_
  clear h
  rintro _ h
  dsimp only [printer_rung_J2] at h
  try dsimp only
  refine Wp.seq ?_
  refine rs0 ?_
  iterate 4 refine vp ?_
  refine vn ?_
  refine sD h F (fun F h => ?_) fun F h => ?_
  refine cF ?_
  refine Wp.skip ?_
  refine sh ?_
  refine jn (fun _ : Unit => { ch := [(5, .hptr 0 0 0)], hp := [.var [.str a2.Label, aL cApiContact a2.Contacts, aL cApiCoil a2.Coils, .str a2.Jump]], base := 0, n := 90, cond := True, gl := G0 }) (fun x => printer_rung_J3 n a2 = some r) ?_ ?_
  clear h
  rintro _ h
  dsimp only [printer_rung_J3] at h
  try dsimp only
  refine Wp.seq ?_
  refine rs0 ?_
  iterate 4 refine vp ?_
  refine sEn h F (fun _ F h => ?_) fun _ F h => ?_
  refine vs ?_
  refine vs ?_
  refine vs ?_
  refine vs ?_
  refine vp ?_
  refine vn ?_
  refine cF ?_
  refine Wp.skip ?_
  refine sh ?_
  refine rs0 ?_
  refine vp ?_
  refine vn ?_
  cases h
  exact Wp.ret en0
  refine vg ?_
  refine vg ?_
  obtain ⟨r10819, hr10818, h⟩ := obind h
  refine vc (con_lex_IsName hr10818) ?_ (hg := by (simp [F]; done))
  refine vg ?_
  refine vp ?_
  refine vn ?_
  refine sB h F (fun F h => ?_) fun F h => ?_
  refine cF ?_
  refine Wp.skip ?_
  refine sh ?_
  refine rs0 ?_
  refine vp ?_
  refine vn ?_
  cases h
  exact Wp.ret en0
  refine cT ?_
  refine rs0 ?_
  refine vp ?_
  refine vn ?_
  cases h
  exact Wp.ret en0
  refine rs0 ?_
  iterate 4 refine vp ?_
  refine vn ?_
  refine Wp.block ?_
  refine lp [some 0, some 1] (fun p10823 : Int => { ch := [(3, .hptr 0 0 0), (5, .hptr 1 0 0), (61, aL cApiCoil a2.Coils), (62, .int .i64 (a2.Coils.length : Int)), (63, .int .i64 p10823)], hp := [.var [.int .i64 _append0.I, .int .i64 _append0.Q, .int .i64 _append0.M, .int .i64 _append0.E], .var [.str a2.Label, aL cApiContact a2.Contacts, aL cApiCoil a2.Coils, .str a2.Jump]], base := 0, n := 90, cond := True, gl := G0 }) (fun m x => printer_rung_L4 n _append0 a2 m x = some r) n 0 h ?_
  rintro rec_n4 p10823 h
  dsimp only [printer_rung_L4] at h
  try dsimp only
  refine rs0 ?_
  refine vp ?_
  refine vn ?_
  refine Wp.seq ?_
  refine sD h F (fun F h => ?_) fun F h => ?_
  refine cF ?_
  refine Wp.exit ?_
  exact nx [some 1] () h
  refine cT ?_
  refine Wp.skip ?_
  refine sh ?_
  refine Wp.seq ?_
  refine Wp.block ?_
  refine rs0 ?_
  refine eI h F fun x10827 F h => ?_
  iterate 4 refine vp ?_
  refine vn ?_
  refine Wp.seq ?_
  refine rs0 ?_
  iterate 5 refine vp ?_
  obtain ⟨r10829, hr10828, h⟩ := obind h
  refine vc (con_printer_part hr10828) ?_
  refine vp ?_
  refine vn ?_
  refine rs0 ?_
  iterate 2 refine vp ?_
  refine vn ?_
  refine sB h F (fun F h => ?_) fun F h => ?_
  refine cF ?_
  refine Wp.skip ?_
  refine sh ?_
  refine rs0 ?_
  iterate 4 refine vp ?_
  refine vn ?_
  refine sB h F (fun F h => ?_) fun F h => ?_
  refine cF ?_
  refine Wp.skip ?_
  refine sh ?_
  refine rg0 ?_
  iterate 2 refine vp ?_
  refine vn ?_
  exact nx [some 0, some 1] (IntKind.i64.wrap (p10823 + 1)) h
  refine cT ?_
  refine rs0 ?_
  refine vp ?_
  refine vn ?_
  cases h
  exact Wp.ret en0
  refine cT ?_
  refine rs0 ?_
  iterate 2 refine vp ?_
  refine vn ?_
  cases h
  exact Wp.ret en0
  refine cT ?_
  refine rs0 ?_
  refine vp ?_
  refine vn ?_
  cases h
  exact Wp.ret en0
  refine rs0 ?_
  iterate 4 refine vp ?_
  refine vn ?_
  refine Wp.block ?_
  refine lp [some 0, some 1] (fun p10839 : Int => { ch := [(3, .hptr 0 0 0), (5, .hptr 1 0 0), (30, aL cApiContact a2.Contacts), (31, .int .i64 (a2.Contacts.length : Int)), (32, .int .i64 p10839)], hp := [.var [.int .i64 _append0.I, .int .i64 _append0.Q, .int .i64 _append0.M, .int .i64 _append0.E], .var [.str a2.Label, aL cApiContact a2.Contacts, aL cApiCoil a2.Coils, .str a2.Jump]], base := 0, n := 90, cond := True, gl := G0 }) (fun m x => printer_rung_L5 n _append0 a2 m x = some r) n 0 h ?_
  rintro rec_n5 p10839 h
  dsimp only [printer_rung_L5] at h
  try dsimp only
  refine rs0 ?_
  refine vp ?_
  refine vn ?_
  refine Wp.seq ?_
  refine sD h F (fun F h => ?_) fun F h => ?_
  refine cF ?_
  refine Wp.exit ?_
  exact nx [some 0, some 1] () h
  refine cT ?_
  refine Wp.skip ?_
  refine sh ?_
  refine Wp.seq ?_
  refine Wp.block ?_
  refine rs0 ?_
  refine eI h F fun x10849 F h => ?_
  iterate 4 refine vp ?_
  refine vn ?_
  refine Wp.seq ?_
  refine rs0 ?_
  iterate 5 refine vp ?_
  obtain ⟨r10853, hr10852, h⟩ := obind h
  refine vc (con_printer_part hr10852) ?_
  refine vp ?_
  refine vn ?_
  refine rs0 ?_
  iterate 2 refine vp ?_
  refine vn ?_
  refine sB h F (fun F h => ?_) fun F h => ?_
  refine cF ?_
  refine Wp.skip ?_
  refine sh ?_
  refine rs0 ?_
  iterate 2 refine vp ?_
  obtain ⟨r10855, hr10854, h⟩ := obind h
  refine vc (con_lex_IsName hr10854) ?_
  iterate 2 refine vp ?_
  refine sB h F (fun F h => ?_) fun F h => ?_
  refine vg ?_
  refine vg ?_
  obtain ⟨r10857, hr10856, h⟩ := obind h
  refine vc (con_lex_IsName hr10856) ?_ (hg := by (simp [F]; done))
  refine vg ?_
  refine vp ?_
  refine vn ?_
  refine sB h F (fun F h => ?_) fun F h => ?_
  refine cF ?_
  refine Wp.skip ?_
  refine sh ?_
  refine rg0 ?_
  iterate 2 refine vp ?_
  refine vn ?_
  exact nx [some 0, some 1] (IntKind.i64.wrap (p10839 + 1)) h
  refine cT ?_
  refine rs0 ?_
  refine vp ?_
  refine vn ?_
  cases h
  exact Wp.ret en0
  refine vs ?_
  refine vs ?_
  refine vs ?_
  refine vs ?_
  refine vp ?_
  refine vn ?_
  refine cT ?_
  refine rs0 ?_
  refine vp ?_
  refine vn ?_
  cases h
  exact Wp.ret en0
  refine cT ?_
  refine rs0 ?_
  iterate 2 refine vp ?_
  refine vn ?_
  cases h
  exact Wp.ret en0
  refine cT ?_
  refine rs0 ?_
  refine vp ?_
  refine vn ?_
  cases h
  exact Wp.ret en0
  refine rs0 ?_
  iterate 3 refine vp ?_
  refine vn ?_
  refine sEn h F (fun _ F h => ?_) fun _ F h => ?_
  refine cF ?_
  refine Wp.skip ?_
  exact nx [some 0, some 1] () h
  refine cT ?_
  refine Wp.block ?_
  refine rs0 ?_
  iterate 2 refine vp ?_
  obtain ⟨r10859, hr10858, h⟩ := obind h
  refine vc (con_lex_IsName hr10858) ?_
  iterate 2 refine vp ?_
  refine vn ?_
  refine sB h F (fun F h => ?_) fun F h => ?_
  refine cF ?_
  refine rs0 ?_
  iterate 2 refine vp ?_
  obtain ⟨r10861, hr10860, h⟩ := obind h
  refine vh [1] (con_slices_ContainsFunc_api_Rung_c117 hr10860) ?_
  refine vp ?_
  refine vn ?_
  refine sB h F (fun F h => ?_) fun F h => ?_
  refine cF ?_
  refine Wp.skip ?_
  exact nx [some 0, some 1] () h
  refine cT ?_
  refine rs0 ?_
  refine vp ?_
  refine vn ?_
  cases h
  exact Wp.ret en0
  refine cT ?_
  refine rs0 ?_
  refine vp ?_
  refine vn ?_
  cases h
  exact Wp.ret en0
theorem con_graph_Reachable_1 {n : Nat} {n_0 : Str} {b0 : ApiRung} {r : (List Str)} (h : graph_Reachable_1 n n_0 b0 = some r) : ConH Tryd.prog G0 101 [.str n_0, .hptr 0 0 0] [.var [.str b0.Label, aL cApiContact b0.Contacts, aL cApiCoil b0.Coils, .str b0.Jump]] (aL cS r) [.var [.str b0.Label, aL cApiContact b0.Contacts, aL cApiCoil b0.Coils, .str b0.Jump]] := by
  refine conH_of (T := TT0) tt_ok Tryd.func101 (c := _) (by unfold Tryd.f101; rfl) Tryd.ntmps101 (rs := [.tmp 3]) (by rw [Tryd.results101]) (by unfold Tryd.f101; rfl) (by simp) (k := 1) rfl rfl ?_
  try simp only [argsCh]
  have F := True.intro
  dsimp only [graph_Reachable_1] at h
  refine rs0 ?_
  refine vp ?_
  refine vn ?_
  refine rs0 ?_
  refine vp ?_
  refine vn ?_
  refine Wp.seq ?_
  refine rs0 ?_
  iterate 2 refine vp ?_
  obtain ⟨r14299, hr14298, h⟩ := obind h
  refine vc (con_graph_Outgoing hr14298) ?_
  iterate 2 refine vp ?_
  refine vn ?_
  refine Wp.block ?_
  refine lp [some 0, none] (fun x : Int × (List Str) => { ch := [(1, .hptr 0 0 0), (4, .sl 1 0 x.2.length), (9, aL (cI .i64) r14299), (10, .int .i64 (r14299.length : Int)), (11, .int .i64 x.1)], hp := [.var [.str b0.Label, aL cApiContact b0.Contacts, aL cApiCoil b0.Coils, .str b0.Jump], .arr 1 x.2.length (rw (x.2.map cS))], base := 1, n := 26, cond := True, gl := G0 }) (fun m x => graph_Reachable_1_L1 b0 r14299 m x.1 x.2 = some r) n (0, []) h ?_
  rintro rec_n1 ⟨p14303, p14304⟩ h
  dsimp only [graph_Reachable_1_L1] at h
  try dsimp only
  refine rs0 ?_
  refine vp ?_
  refine vn ?_
  refine Wp.seq ?_
  refine sD h F (fun F h => ?_) fun F h => ?_
  refine cF ?_
  refine Wp.exit ?_
  refine sh ?_
  refine rs0 ?_
  iterate 2 refine vp ?_
  refine vn ?_
  cases h
  exact Wp.ret (enH [some 0])
  refine cT ?_
  refine Wp.skip ?_
  refine sh ?_
  refine Wp.seq ?_
  refine Wp.block ?_
  refine rs0 ?_
  refine eI h F fun x14308 F h => ?_
  iterate 3 refine vp ?_
  refine vn ?_
  refine rg (fun d => Nat.beq d 23) ?_
  iterate 4 refine vp ?_
  refine eI h F fun x14309 F h => ?_
  iterate 4 refine vp ?_
  refine gd h F fun F h => ?_
  refine vp ?_
  refine nm cS h F fun l14310 F h => ?_
  refine vp ?_
  refine vn ?_
  refine sh ?_
  refine rg0 ?_
  iterate 2 refine vp ?_
  refine vn ?_
  exact nx [some 0, some 2] ((IntKind.i64.wrap (p14303 + 1)), l14310) h
theorem con_graph_Ancestors_1 {n : Nat} {n_0 : Str} {b0 : ApiRung} {r : (List Str)} (h : graph_Ancestors_1 n n_0 b0 = some r) : ConH Tryd.prog G0 103 [.str n_0, .hptr 0 0 0] [.var [.str b0.Label, aL cApiContact b0.Contacts, aL cApiCoil b0.Coils, .str b0.Jump]] (aL cS r) [.var [.str b0.Label, aL cApiContact b0.Contacts, aL cApiCoil b0.Coils, .str b0.Jump]] := by
  refine conH_of (T := TT0) tt_ok Tryd.func103 (c := _) (by unfold Tryd.f103; rfl) Tryd.ntmps103 (rs := [.tmp 3]) (by rw [Tryd.results103]) (by unfold Tryd.f103; rfl) (by simp) (k := 1) rfl rfl ?_
  try simp only [argsCh]
  have F := True.intro
  dsimp only [graph_Ancestors_1] at h
  refine rs0 ?_
  refine vp ?_
  refine vn ?_
  refine rs0 ?_
  refine vp ?_
  refine vn ?_
  refine Wp.seq ?_
  refine rs0 ?_
  iterate 2 refine vp ?_
  obtain ⟨r14587, hr14586, h⟩ := obind h
  refine vc (con_graph_Incoming hr14586) ?_
  iterate 2 refine vp ?_
  refine vn ?_
  refine Wp.block ?_
  refine lp [some 0, none] (fun x : Int × (List Str) => { ch := [(1, .hptr 0 0 0), (4, .sl 1 0 x.2.length), (9, aL (cI .i64) r14587), (10, .int .i64 (r14587.length : Int)), (11, .int .i64 x.1)], hp := [.var [.str b0.Label, aL cApiContact b0.Contacts, aL cApiCoil b0.Coils, .str b0.Jump], .arr 1 x.2.length (rw (x.2.map cS))], base := 1, n := 26, cond := True, gl := G0 }) (fun m x => graph_Ancestors_1_L1 b0 r14587 m x.1 x.2 = some r) n (0, []) h ?_
  rintro rec_n1 ⟨p14591, p14592⟩ h
  dsimp only [graph_Ancestors_1_L1] at h
  try dsimp only
  refine rs0 ?_
  refine vp ?_
  refine vn ?_
  refine Wp.seq ?_
  refine sD h F (fun F h => ?_) fun F h => ?_
  refine cF ?_
  refine Wp.exit ?_
  refine sh ?_
  refine rs0 ?_
  iterate 2 refine vp ?_
  refine vn ?_
  cases h
  exact Wp.ret (enH [some 0])
  refine cT ?_
  refine Wp.skip ?_
  refine sh ?_
  refine Wp.seq ?_
  refine Wp.block ?_
  refine rs0 ?_
  refine eI h F fun x14596 F h => ?_
  iterate 3 refine vp ?_
  refine vn ?_
  refine rg (fun d => Nat.beq d 23) ?_
  iterate 4 refine vp ?_
  refine eI h F fun x14597 F h => ?_
  iterate 4 refine vp ?_
  refine gd h F fun F h => ?_
  refine vp ?_
  refine nm cS h F fun l14598 F h => ?_
  refine vp ?_
  refine vn ?_
  refine sh ?_
  refine rg0 ?_
  iterate 2 refine vp ?_
  refine vn ?_
  exact nx [some 0, some 2] ((IntKind.i64.wrap (p14591 + 1)), l14598) h
theorem con_slices_IndexFunc_string_c80_v1 {n : Nat} {l0 : List Str} {b1 : List Str} {b2 : List Str} {r : Int} (h : slices_IndexFunc_string_c80_v1 n l0 b1 b2 = some r) : ConH Tryd.prog G0 71 [.sl 0 0 l0.length, .clos 80 [] [.hptr 1 0 0, .hptr 2 0 0]] [.arr 1 l0.length (rw (l0.map cS)), .var [aL cS b1], .var [aL cS b2]] (.int .i64 r) [.arr 1 l0.length (rw (l0.map cS)), .var [aL cS b1], .var [aL cS b2]] := by
  refine conH_of (T := TT0) tt_ok Tryd.func71 (c := _) (by unfold Tryd.f71; rfl) Tryd.ntmps71 (rs := [.tmp 4]) (by rw [Tryd.results71]) (by unfold Tryd.f71; rfl) (by simp) (k := 3) rfl rfl ?_
  try simp only [argsCh]
  have F := True.intro
  dsimp only [slices_IndexFunc_string_c80_v1] at h
  refine rs0 ?_
  refine vp ?_
  refine vn ?_
  refine Wp.seq ?_
  refine rs0 ?_
  iterate 3 refine vp ?_
  refine vn ?_
  refine Wp.block ?_
  refine lp [some 0, some 1, some 2] (fun p14702 : Int => { ch := [(0, .sl 0 0 l0.length), (1, .clos 80 [] [.hptr 1 0 0, .hptr 2 0 0]), (7, .int .i64 (l0.length : Int)), (8, .int .i64 p14702)], hp := [.arr 1 l0.length (rw (l0.map cS)), .var [aL cS b1], .var [aL cS b2]], base := 3, n := 19, cond := True, gl := G0 }) (fun m x => slices_IndexFunc_string_c80_v1_L1 n l0 b1 b2 m x = some r) n 0 h ?_
  rintro rec_n1 p14702 h
  dsimp only [slices_IndexFunc_string_c80_v1_L1] at h
  try dsimp only
  refine rs0 ?_
  refine vp ?_
  refine vn ?_
  refine Wp.seq ?_
  refine sD h F (fun F h => ?_) fun F h => ?_
  refine cF ?_
  refine Wp.exit ?_
  refine sh ?_
  refine rs0 ?_
  refine vp ?_
  refine vn ?_
  cases h
  exact Wp.ret (enH [some 0, some 1, some 2])
  refine cT ?_
  refine Wp.skip ?_
  refine sh ?_
  refine Wp.seq ?_
  refine Wp.block ?_
  refine rs0 ?_
  iterate 2 refine vp ?_
  refine vn ?_
  refine rs0 ?_
  iterate 3 refine vp ?_
  refine eI h F fun x14706 F h => ?_
  iterate 2 refine vp ?_
  obtain ⟨r14708, hr14707, h⟩ := obind h
  refine vh [1, 2] (con_flow_DeadNodes_1 hr14707) ?_
  refine vn ?_
  refine sB h F (fun F h => ?_) fun F h => ?_
  refine cF ?_
  refine Wp.skip ?_
  refine sh ?_
  refine rg0 ?_
  iterate 2 refine vp ?_
  refine vn ?_
  exact nx [some 0, some 1, some 2] (IntKind.i64.wrap (p14702 + 1)) h
  refine cT ?_
  refine rs0 ?_
  iterate 2 refine vp ?_
  refine vn ?_
  cases h
  exact Wp.ret (enH [some 0, some 1, some 2])
theorem con_graph_TopoSort_1 {n : Nat} {n_0 : Str} {b0 : ApiRung} {m2 : List (Str × Bool)} {r : Bool} (h : graph_TopoSort_1 n n_0 b0 m2 = some r) : ConH Tryd.prog G0 72 [.str n_0, .hptr 0 0 0, .hptr 1 0 0] [.var [.str b0.Label, aL cApiContact b0.Contacts, aL cApiCoil b0.Coils, .str b0.Jump], .var [.mp 2], .map (mAV AV.str cB m2)] (.bool r) [.var [.str b0.Label, aL cApiContact b0.Contacts, aL cApiCoil b0.Coils, .str b0.Jump], .var [.mp 2], .map (mAV AV.str cB m2)] := by
  refine conH_of (T := TT0) tt_ok Tryd.func72 (c := _) (by unfold Tryd.f72; rfl) Tryd.ntmps72 (rs := [.tmp 4]) (by rw [Tryd.results72]) (by unfold Tryd.f72; rfl) (by simp) (k := 3) rfl rfl ?_
  try simp only [argsCh]
  have F := True.intro
  dsimp only [graph_TopoSort_1] at h
  refine rs0 ?_
  refine vp ?_
  refine vn ?_
  refine rs0 ?_
  iterate 2 refine vp ?_
  obtain ⟨r13240, hr13239, h⟩ := obind h
  refine vc (con_graph_Incoming hr13239) ?_
  refine vp ?_
  obtain ⟨r13242, hr13241, h⟩ := obind h
  refine vh [1, 2, 0] (con_slices_ContainsFunc_int_c75 hr13241) ?_
  iterate 2 refine vp ?_
  refine vn ?_
  cases h
  exact Wp.ret (enH [some 0, some 1, some 2])
theorem len_slices_SortFunc_tree_Tree_c54 {n : Nat} {l0 : List TreeTree} {r : List TreeTree} (h : slices_SortFunc_tree_Tree_c54 n l0 = some r) : r.length = l0.length := sortM_length h
theorem con_slices_SortFunc_tree_Tree_c54 {n : Nat} {l0 : List TreeTree} {r : List TreeTree} (h : slices_SortFunc_tree_Tree_c54 n l0 = some r) : ConH Tryd.prog G0 53 [.sl 0 0 l0.length, .clos 54 [] []] [.arr 3 l0.length (rw (l0.map cTreeTree))] (.tup []) [.arr 3 r.length (rw (r.map cTreeTree))] := by
  have hl : r.length = l0.length := sortM_length h
  rw [hl]
  exact conH_sort Tryd.sort_lays (tt_ok 31 _ rfl) rfl cTreeTree (fun x => by simp [cTreeTree_eq]) ⟨_, Tryd.func53, rfl, by decide⟩ 54 (fun a b => reduce_sorted_1 n a b) (fun a b r hr => by have := @con_reduce_sorted_1 ⟨True⟩ _ _ _ _ hr; simpa only [cTreeTree_eq] using this) l0 r h
end Go.Proofs.YtaebdeidbibfkaaDoor
