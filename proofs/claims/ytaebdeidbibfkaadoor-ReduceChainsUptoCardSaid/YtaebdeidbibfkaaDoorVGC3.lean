/- Contracts: models of functions are right. No law is proved here. -/
import Derived.Test.YtaebdeidbibfkaaDoorVGMod
import Derived.Test.YtaebdeidbibfkaaDoorVTav
import Derived.Test.YtaebdeidbibfkaaDoorVSo
import Derived.Test.YtaebdeidbibfkaaDoorVSh
namespace Go.Proofs.YtaebdeidbibfkaaDoor
open Go.Av Go.G
attribute [-simp] Int.natCast_tdiv_eq_ediv
attribute [local simp] runf guardA opf St.ev Go.Av.look St.setd constAV constAV0 opBin opLen intBin St.need lookT TT0 tab resA resOne resAll blt_dec ble_dec beq_dec isPure
attribute [local simp] opMakeSlice opCopy opIndexAddr opLoad opStore St.mem St.rows opUn calleeA toArgs toArg toArg0 toArgs0 shift shift0 shift1 splice cellsOf isFree ofCells TS.isAgg isCell strBin opConvert
attribute [local simp] opSlice3 opClear fz_clear opBuildSlice fillA opAppend eqC eqA cksB ckB St.newBox runI valKind withinB readsHp refsD refs noSl opFieldAddr opBuild opMax opMin placeOf Op.operands Call.operands opIndex opExtract opSlice opField partA
attribute [local simp] loA hiA lenA opMakeMap opLookup opMapUpdate keyOk findA_int findA_str findA_bool putA_strB putA_strI putA_strS putA_intB putA_intI putA_intS putA_boolI putA_boolB byteRow_rwN bytesOf_rwN opBytesStr mAV_length mAV_nil cA1 cA2 cA3 cA4 opNilCheck opMakeFunc opRange
attribute [local simp] aL cI cB cS cL rw_map fz_rw fz_const dropRow_rw fz_append fz_set fz_copy fz_rows rowLen_rw rowsLen_nil rowsLen_cons rowsLen_append rowsLen_map rowsLen_dm rowsLen_tm rowsLen_take rowsLen_drop rowsLen_replicate take_map_len take_map_le drop_map_len take_drop_len chunks isScalar isScalar0
attribute [local simp] putBack putAt objMap mapC mapA mapT map0 bid rid memB passed closedB argsH argH argH0 argsH0 objIds ids0 idsC isLocT isLocA isLocC isLoc0 LocObj
attribute [local congr] bind_congr1 map_congr1 cond_congr1
attribute [local simp] cApiAddr cApiContact cApiCoil cApiRung cReducePair cReduceEdge cTreeTree_eq TreeTree_Kind_mk TreeTree_N_mk TreeTree_Kids_mk eta_TreeTree cRef14Tree_eq Ref14Tree_Kind_mk Ref14Tree_N_mk Ref14Tree_Kids_mk eta_Ref14Tree
variable [Drawn]
set_option maxHeartbeats 4000000
set_option linter.unusedSectionVars false
set_option maxRecDepth 20000
set_option linter.unusedSimpArgs false
set_option linter.unusedVariables false

theorem con_tree_Leaves (n : Nat) : ∀ {t0 : TreeTree} {r : (List Int)}, tree_Leaves n t0 = some r → Con Tryd.prog G0 18 [.agg [.int .i64 t0.Kind, .int .i64 t0.N, aL cTreeTree t0.Kids]] (aL (cI .i64) r) [] := by
  induction n with
  | zero => intro t0 r h; simp [tree_Leaves] at h
  | succ n Hslf_tree_Leaves =>
   intro t0 r h
   refine con_of (T := TT0) tt_ok Tryd.func18 (c := _) (by unfold Tryd.f18; rfl) Tryd.ntmps18 (rs := [.tmp 2]) (by rw [Tryd.results18]) (by unfold Tryd.f18; rfl) (by simp) ?_
   simp only [argsCh]
   have F := True.intro
   dsimp only [tree_Leaves] at h
   refine rs0 ?_
   iterate 2 refine vp ?_
   refine vn ?_
   refine Wp.seq ?_
   refine rs0 ?_
   iterate 2 refine vp ?_
   refine vn ?_
   refine Wp.block ?_
   refine rs0 ?_
   iterate 2 refine vp ?_
   refine vn ?_
   refine sB h F (fun F h => ?_) fun F h => ?_
   refine cF ?_
   refine jn (fun p13700 : Bool => { ch := [(1, .hptr 0 0 0), (13, .bool p13700)], hp := [.var [.int .i64 t0.Kind, .int .i64 t0.N, aL cTreeTree t0.Kids]], base := 0, n := 29, cond := True, gl := G0 }) (fun x => tree_Leaves_J1 n t0 (tree_Leaves n) x = some r) ?_ ?_
   clear h
   rintro p13700 h
   dsimp only [tree_Leaves_J1] at h
   try dsimp only
   refine sB h F (fun F h => ?_) fun F h => ?_
   refine cF ?_
   refine Wp.skip ?_
   refine sh ?_
   refine rs0 ?_
   refine vp ?_
   refine vn ?_
   cases h
   exact Wp.ret en0
   refine cT ?_
   refine rs0 ?_
   refine vp ?_
   refine vn ?_
   refine Wp.seq ?_
   refine rs0 ?_
   iterate 4 refine vp ?_
   refine vn ?_
   refine Wp.block ?_
   refine lp [none] (fun x : Int × (List Int) => { ch := [(3, .sl 0 0 x.2.length), (17, aL cTreeTree t0.Kids), (18, .int .i64 (t0.Kids.length : Int)), (19, .int .i64 x.1)], hp := [.arr 1 x.2.length (rw (x.2.map (cI .i64)))], base := 0, n := 29, cond := True, gl := G0 }) (fun m x => tree_Leaves_L2 t0 (tree_Leaves n) m x.1 x.2 = some r) n (0, []) h ?_
   rintro rec_n2 ⟨p13704, p13705⟩ h
   dsimp only [tree_Leaves_L2] at h
   try dsimp only
   refine rs0 ?_
   refine vp ?_
   refine vn ?_
   refine Wp.seq ?_
   refine sD h F (fun F h => ?_) fun F h => ?_
   refine cF ?_
   refine Wp.exit ?_
   refine sh ?_
   refine rs0 ?_
   iterate 2 refine vp ?_
   refine vn ?_
   cases h
   exact Wp.ret en0
   refine cT ?_
   refine Wp.skip ?_
   refine sh ?_
   refine Wp.seq ?_
   refine Wp.block ?_
   refine rs0 ?_
   refine eI h F fun x13710 F h => ?_
   iterate 4 refine vp ?_
   refine vn ?_
   refine rg (fun d => Nat.beq d 26) ?_
   iterate 2 refine vp ?_
   obtain ⟨r13712, hr13711, h⟩ := obind h
   refine vc (Hslf_tree_Leaves hr13711) ?_
   refine gd h F fun F h => ?_
   refine vp ?_
   refine nm (cI .i64) h F fun l13713 F h => ?_
   refine vp ?_
   refine vn ?_
   refine sh ?_
   refine rg0 ?_
   iterate 2 refine vp ?_
   refine vn ?_
   exact nx [some 2] ((IntKind.i64.wrap (p13704 + 1)), l13713) h
   refine rs0 ?_
   iterate 2 refine vp ?_
   refine vn ?_
   refine sB h F (fun F h => ?_) fun F h => ?_
   refine cF ?_
   refine rg0 ?_
   iterate 2 refine vp ?_
   refine vn ?_
   exact nx [some 0] (t0.Kind == 2) h
   refine cT ?_
   refine Wp.skip ?_
   exact nx [some 0] (t0.Kind == 1) h
   refine cT ?_
   refine rs0 ?_
   iterate 3 refine vp ?_
   refine nl (cI .i64) h F fun l13699 m F h => ?_
   try simp only [m]
   clear m
   refine vp ?_
   refine vn ?_
   cases h
   exact Wp.ret en0

theorem con_law15_rung {n : Nat} {l0 : List Str} {r : ApiRung} (h : law15_rung n l0 = some r) : Con Tryd.prog G0 16 [aL cS l0] (.agg (cApiRung r)) [] := by
  refine con_of (T := TT0) tt_ok Tryd.func16 (c := _) (by unfold Tryd.f16; rfl) Tryd.ntmps16 (rs := [.cell 2 25]) (by rw [Tryd.results16]) (by unfold Tryd.f16; rfl) (by simp) ?_
  simp only [argsCh]
  have F := True.intro
  dsimp only [law15_rung] at h
  refine rs0 ?_
  refine vp ?_
  refine vn ?_
  refine rs0 ?_
  refine vp ?_
  refine vn ?_
  refine Wp.seq ?_
  refine rs0 ?_
  refine vp ?_
  refine vn ?_
  refine Wp.block ?_
  refine lp [some 0, some 1, none] (fun x : (List ApiContact) × Int => { ch := [(0, aL cS l0), (2, .hptr 0 0 0), (3, .hptr 1 0 0), (4, .int .i64 x.2)], hp := [.var [.str (⟨#[]⟩ : Str), .nilsl, .nilsl, .str (⟨#[]⟩ : Str)], .var [.str (⟨#[]⟩ : Str), .sl 2 0 x.1.length, .nilsl, .str (⟨#[]⟩ : Str)], .arr 5 x.1.length (rw (x.1.map cApiContact))], base := 0, n := 28, cond := True, gl := G0 }) (fun m x => law15_rung_L1 l0 m x.1 x.2 = some r) n ([], 0) h ?_
  rintro rec_n1 ⟨p9494, p9495⟩ h
  dsimp only [law15_rung_L1] at h
  try dsimp only
  refine Wp.seq ?_
  refine rs0 ?_
  iterate 5 refine vp ?_
  refine vn ?_
  refine sD h F (fun F h => ?_) fun F h => ?_
  refine cF ?_
  refine Wp.exit ?_
  refine sh ?_
  refine rs0 ?_
  iterate 2 refine vp ?_
  refine vn ?_
  cases h
  exact Wp.ret en0
  refine cT ?_
  refine Wp.skip ?_
  refine sh ?_
  refine Wp.seq ?_
  refine Wp.block ?_
  refine dw1 (fun d => Nat.beq d 25 || Nat.beq d 1025) [1, 2] ?_
  refine du 4 ?_
  refine eI h F fun x9499 F h => ?_
  refine du 5 ?_
  refine eI h F fun x9500 F h => ?_
  refine du 4 ?_
  refine gd h F fun F h => ?_
  refine db ?_
  refine nm cApiContact h F fun l9501 F h => ?_
  refine du 1 ?_
  refine db ?_
  refine dn ?_
  refine sh ?_
  refine rg0 ?_
  iterate 3 refine vp ?_
  refine vn ?_
  exact nx [some 0, some 1, some 3] (l9501, (IntKind.i64.wrap (p9495 + 2))) h

theorem con_graph_TopoSort_1_1 {n : Nat} {i_0 : Int} {m1 : List (Str × Bool)} {b2 : ApiRung} {r : Bool} (h : graph_TopoSort_1_1 n i_0 m1 b2 = some r) : ConH Tryd.prog G0 75 [.int .i64 i_0, .hptr 0 0 0, .hptr 2 0 0] [.var [.mp 1], .map (mAV AV.str cB m1), .var [.str b2.Label, aL cApiContact b2.Contacts, aL cApiCoil b2.Coils, .str b2.Jump]] (.bool r) [.var [.mp 1], .map (mAV AV.str cB m1), .var [.str b2.Label, aL cApiContact b2.Contacts, aL cApiCoil b2.Coils, .str b2.Jump]] := by
  refine conH_of (T := TT0) tt_ok Tryd.func75 (c := _) (by unfold Tryd.f75; rfl) Tryd.ntmps75 (rs := [.tmp 4]) (by rw [Tryd.results75]) (by unfold Tryd.f75; rfl) (by simp) (k := 3) rfl rfl ?_
  try simp only [argsCh]
  have F := True.intro
  dsimp only [graph_TopoSort_1_1] at h
  refine rs0 ?_
  refine vp ?_
  refine vn ?_
  refine dw (fun _ => false) [0, 1, 2] ?_
  refine du 4 ?_
  refine eI h F fun x11787 F h => ?_
  refine du 6 ?_
  refine dn ?_
  cases h
  exact Wp.ret (enH [some 0, some 1, some 2])

theorem dec2_eq (i : Nat) (h : i < 100) : (⟨(Lib.decDigits i).toArray⟩ : Str) = dec2 i := by
  unfold dec2
  rw [Lib.decDigits]
  split
  · rfl
  · rw [Lib.decDigits, dif_pos (by omega : i / 10 < 10)]
    rfl
theorem con_strconv_Itoa {n : Nat} {i : Int} {r : Str} (h : strconv_Itoa n i = some r) : Con Tryd.prog G0 44 [.int .i64 i] (.str r) [] := by
  unfold strconv_Itoa at h
  split at h
  · rename_i hi
    cases h
    refine con_below ⟨_, Tryd.func44, rfl, by decide⟩ fun E w vals hh ha => ?_
    obtain ⟨x, rfl, hx⟩ := args_one ha
    cases hx.int'
    obtain ⟨k, rfl⟩ := Int.eq_ofNat_of_zero_le hi.1
    refine ⟨_, fun w' => .str _, (Tryd.strconv_Itoa_small k (by omega) w).mono fun e w' ⟨he, hw⟩ => ?_⟩
    subst hw
    rw [dec2_eq k (by omega)] at he
    exact ⟨he, Go.RowKit.Below.refl _ _, fun _ => Nat.le_refl _⟩
  · cases h

theorem con_graph_Incoming_1 {n : Nat} {c0 : ApiContact} {b0 : Str} {r : Bool} (h : graph_Incoming_1 n c0 b0 = some r) : ConH Tryd.prog G0 99 [.agg (cApiContact c0), .hptr 0 0 0] [.var [.str b0]] (.bool r) [.var [.str b0]] := by
  refine conH_of (T := TT0) tt_ok Tryd.func99 (c := _) (by unfold Tryd.f99; rfl) Tryd.ntmps99 (rs := [.tmp 3]) (by rw [Tryd.results99]) (by unfold Tryd.f99; rfl) (by simp) (k := 1) rfl rfl ?_
  try simp only [argsCh]
  have F := True.intro
  dsimp only [graph_Incoming_1] at h
  refine rs0 ?_
  iterate 2 refine vp ?_
  refine vn ?_
  refine rs0 ?_
  iterate 5 refine vp ?_
  refine vn ?_
  cases h
  exact Wp.ret (enH [some 0])

end Go.Proofs.YtaebdeidbibfkaaDoor
