/- Contracts: models of functions are right. No law is proved here. -/
import Derived.Test.YtfghchpnolfllaaDoorGMod
import Derived.Test.YtfghchpnolfllaaDoorTab
import Derived.Test.YtfghchpnolfllaaDoorSh
namespace Go.Proofs.YtfghchpnolfllaaDoor
open Go.Av Go.G
attribute [-simp] Int.natCast_tdiv_eq_ediv
attribute [local simp] runf guardA opf St.ev Go.Av.look St.setd constAV constAV0 opBin opLen intBin St.need lookT TT0 tab resA resOne resAll blt_dec ble_dec beq_dec isPure
attribute [local simp] opMakeSlice opCopy opIndexAddr opLoad opStore St.mem St.rows opUn calleeA toArgs toArg toArg0 toArgs0 shift shift0 shift1 splice cellsOf isFree ofCells TS.isAgg isCell strBin opConvert
attribute [local simp] opBuildSlice fillA opAppend eqC eqA cksB ckB St.newBox runI valKind withinB readsHp refsD refs noSl opFieldAddr opBuild opMax opMin placeOf Op.operands Call.operands opIndex opExtract opSlice opField partA
attribute [local simp] loA hiA lenA opMakeMap opLookup opMapUpdate keyOk findA_int findA_str putA_strB putA_strI putA_intB putA_intI mAV_length mAV_nil cA1 cA2 cA3 cA4 opNilCheck opMakeFunc opRange
attribute [local simp] aL cI cB cS cL rw_map fz_rw fz_const dropRow_rw fz_append fz_set fz_copy fz_rows rowLen_rw rowsLen_nil rowsLen_cons rowsLen_append rowsLen_map rowsLen_take rowsLen_drop rowsLen_replicate take_map_len take_map_le drop_map_len take_drop_len chunks isScalar isScalar0
attribute [local simp] putBack putAt objMap mapC mapA mapT map0 bid rid memB passed closedB argsH argH argH0 argsH0 objIds ids0 idsC isLocT isLocA isLocC isLoc0 LocObj
attribute [local congr] bind_congr1 map_congr1 cond_congr1
attribute [local simp] cTreeTree_eq TreeTree_Kind_mk TreeTree_N_mk TreeTree_Kids_mk eta_TreeTree cRef14Tree_eq Ref14Tree_Kind_mk Ref14Tree_N_mk Ref14Tree_Kids_mk eta_Ref14Tree
set_option maxHeartbeats 4000000
set_option maxRecDepth 20000
set_option linter.unusedSimpArgs false
set_option linter.unusedVariables false

theorem con_law14_weight (n : Nat) : ∀ {t0 : TreeTree} {deep1 : Int} {r : Int}, law14_weight n t0 deep1 = some r → Con Tryd.prog G0 24 [.agg [.int .i64 t0.Kind, .int .i64 t0.N, aL cTreeTree t0.Kids], .int .i64 deep1] (.int .i64 r) [] := by
  induction n with
  | zero => intro t0 deep1 r h; simp [law14_weight] at h
  | succ n Hslf_law14_weight =>
   intro t0 deep1 r h
   refine con_of (T := TT0) tt_ok Tryd.func24 (c := _) (by unfold Tryd.f24; rfl) Tryd.ntmps24 (rs := [.tmp 4]) (by rw [Tryd.results24]) (by unfold Tryd.f24; rfl) (by simp) ?_
   simp only [argsCh]
   have F := True.intro
   dsimp only [law14_weight] at h
   refine rs0 ?_
   iterate 2 refine vp ?_
   refine vn ?_
   refine Wp.seq ?_
   refine rs0 ?_
   iterate 2 refine vp ?_
   refine vn ?_
   refine sD h F (fun F h => ?_) fun F h => ?_
   refine cF ?_
   refine Wp.skip ?_
   refine sh ?_
   refine rs0 ?_
   refine vp ?_
   refine vn ?_
   refine Wp.seq ?_
   refine rs0 ?_
   iterate 4 refine vp ?_
   refine vn ?_
   refine Wp.block ?_
   refine lp [] (fun x : Int × Int => { ch := [(1, .int .i64 deep1), (5, .int .i64 x.2), (11, aL cTreeTree t0.Kids), (12, .int .i64 (t0.Kids.length : Int)), (13, .int .i64 x.1)], hp := [], base := 0, n := 27, cond := True, gl := G0 }) (fun m x => law14_weight_L1 t0 deep1 (law14_weight n) m x.1 x.2 = some r) n (0, 1) h ?_
   rintro rec_n1 ⟨p4, p5⟩ h
   dsimp only [law14_weight_L1] at h
   try dsimp only
   refine rs0 ?_
   refine vp ?_
   refine vn ?_
   refine Wp.seq ?_
   refine sD h F (fun F h => ?_) fun F h => ?_
   refine cF ?_
   refine Wp.exit ?_
   refine sh ?_
   refine rs0 ?_
   iterate 2 refine vp ?_
   refine vn ?_
   cases h
   exact Wp.ret en0
   refine cT ?_
   refine Wp.skip ?_
   refine sh ?_
   refine Wp.seq ?_
   refine Wp.block ?_
   refine rs0 ?_
   refine eI h F fun x9 F h => ?_
   iterate 4 refine vp ?_
   refine vn ?_
   refine rs0 ?_
   iterate 4 refine vp ?_
   obtain ⟨r11, hr10, h⟩ := obind h
   refine vc (Hslf_law14_weight hr10) ?_
   iterate 2 refine vp ?_
   refine vn ?_
   refine rs0 ?_
   iterate 2 refine vp ?_
   refine vn ?_
   refine sD h F (fun F h => ?_) fun F h => ?_
   refine cF ?_
   refine Wp.skip ?_
   refine sh ?_
   refine rg0 ?_
   iterate 2 refine vp ?_
   refine vn ?_
   exact nx [] ((IntKind.i64.wrap (p4 + 1)), (IntKind.i64.wrap (p5 + r11))) h
   refine cT ?_
   refine rs0 ?_
   refine vp ?_
   refine vn ?_
   cases h
   exact Wp.ret en0
   refine cT ?_
   refine rs0 ?_
   refine vp ?_
   refine vn ?_
   cases h
   exact Wp.ret en0

theorem con_law14_turned (n : Nat) : ∀ {t0 : TreeTree} {r : TreeTree}, law14_turned n t0 = some r → Con Tryd.prog G0 17 [.agg [.int .i64 t0.Kind, .int .i64 t0.N, aL cTreeTree t0.Kids]] (.agg [.int .i64 r.Kind, .int .i64 r.N, aL cTreeTree r.Kids]) [] := by
  induction n with
  | zero => intro t0 r h; simp [law14_turned] at h
  | succ n Hslf_law14_turned =>
   intro t0 r h
   refine con_of (T := TT0) tt_ok Tryd.func17 (c := _) (by unfold Tryd.f17; rfl) Tryd.ntmps17 (rs := [.cell 2 24]) (by rw [Tryd.results17]) (by unfold Tryd.f17; rfl) (by simp) ?_
   simp only [argsCh]
   have F := True.intro
   dsimp only [law14_turned] at h
   refine rs0 ?_
   iterate 2 refine vp ?_
   refine vn ?_
   refine rs0 ?_
   iterate 7 refine vp ?_
   refine vn ?_
   refine Wp.seq ?_
   refine rs0 ?_
   iterate 4 refine vp ?_
   refine vn ?_
   refine Wp.block ?_
   refine lp [some 0, some 1, some 2, none] (fun x : Int × (List TreeTree) => { ch := [(1, .hptr 0 0 0), (2, .hptr 1 0 0), (3, .hptr 2 0 0), (12, .int .i64 (t0.Kids.length : Int)), (13, .int .i64 x.1)], hp := [.var [.int .i64 t0.Kind, .int .i64 t0.N, aL cTreeTree t0.Kids], .var [.int .i64 0, .int .i64 0, .nilsl], .var [.int .i64 t0.Kind, .int .i64 t0.N, .sl 3 0 x.2.length], .arr 3 x.2.length (rw (x.2.map cTreeTree))], base := 0, n := 34, cond := True, gl := G0 }) (fun m x => law14_turned_L1 t0 (law14_turned n) m x.1 x.2 = some r) n (0, []) h ?_
   rintro rec_n1 ⟨p1069, p1070⟩ h
   dsimp only [law14_turned_L1] at h
   try dsimp only
   refine rs0 ?_
   refine vp ?_
   refine vn ?_
   refine Wp.seq ?_
   refine sD h F (fun F h => ?_) fun F h => ?_
   refine cF ?_
   refine Wp.exit ?_
   refine sh ?_
   refine rs0 ?_
   iterate 2 refine vp ?_
   refine vn ?_
   cases h
   exact Wp.ret en0
   refine cT ?_
   refine Wp.skip ?_
   refine sh ?_
   refine Wp.seq ?_
   refine Wp.block ?_
   refine rs0 ?_
   iterate 2 refine vp ?_
   refine vn ?_
   refine dw1 (fun d => Nat.beq d 30 || Nat.beq d 1030) [0, 2, 3] ?_
   refine du 10 ?_
   refine eI h F fun x1075 F h => ?_
   refine du 2 ?_
   obtain ⟨r1077, hr1076, h⟩ := obind h
   refine dc (Hslf_law14_turned hr1076) ?_
   refine du 1 ?_
   refine gd h F fun F h => ?_
   refine db ?_
   refine nm cTreeTree h F fun l1078 F h => ?_
   refine du 1 ?_
   refine db ?_
   refine dn ?_
   refine sh ?_
   refine rg0 ?_
   iterate 2 refine vp ?_
   refine vn ?_
   exact nx [some 0, some 1, some 2, some 4] ((IntKind.i64.wrap (p1069 + 1)), l1078) h

theorem con_law14_TreeComposition_1 {n : Nat} {kind0 : Int} {b0 : TreeTree} {b1 : TreeTree} {r : TreeTree} (h : law14_TreeComposition_1 n kind0 b0 b1 = some r) : ConH Tryd.prog G0 18 [.int .i64 kind0, .hptr 0 0 0, .hptr 1 0 0] [.var [.int .i64 b0.Kind, .int .i64 b0.N, aL cTreeTree b0.Kids], .var [.int .i64 b1.Kind, .int .i64 b1.N, aL cTreeTree b1.Kids]] (.agg [.int .i64 r.Kind, .int .i64 r.N, aL cTreeTree r.Kids]) [.var [.int .i64 b0.Kind, .int .i64 b0.N, aL cTreeTree b0.Kids], .var [.int .i64 b1.Kind, .int .i64 b1.N, aL cTreeTree b1.Kids]] := by
  refine conH_of (T := TT0) tt_ok Tryd.func18 (c := _) (by unfold Tryd.f18; rfl) Tryd.ntmps18 (rs := [.cell 4 24]) (by rw [Tryd.results18]) (by unfold Tryd.f18; rfl) (by simp) (k := 2) rfl rfl ?_
  try simp only [argsCh]
  have F := True.intro
  dsimp only [law14_TreeComposition_1] at h
  refine rs0 ?_
  refine vp ?_
  refine vn ?_
  refine Wp.seq ?_
  refine rs0 ?_
  iterate 4 refine vp ?_
  refine vn ?_
  refine sB h F (fun F h => ?_) fun F h => ?_
  refine cF ?_
  refine Wp.skip ?_
  refine sh ?_
  refine rs0 ?_
  iterate 4 refine vp ?_
  refine nl cTreeTree h F fun l1088 m F h => ?_
  try simp only [m]
  clear m
  iterate 2 refine vp ?_
  refine vn ?_
  cases h
  exact Wp.ret (enH [some 0, some 1])
  refine cT ?_
  refine dw (fun d => Nat.beq d 13 || Nat.beq d 16) [0, 1] ?_
  refine du 4 ?_
  refine gd h F fun F h => ?_
  refine de ?_
  refine du 2 ?_
  refine gd h F fun F h => ?_
  refine de ?_
  refine nm cTreeTree h F fun l1087 F h => ?_
  refine du 1 ?_
  refine db ?_
  refine dn ?_
  cases h
  exact Wp.ret (enH [some 0, some 1])

theorem con_tree_Tree_check_1 {n : Nat} {k0 : TreeTree} {b0 : TreeTree} {r : Bool} (h : tree_Tree_check_1 n k0 b0 = some r) : ConH Tryd.prog G0 37 [.agg [.int .i64 k0.Kind, .int .i64 k0.N, aL cTreeTree k0.Kids], .hptr 0 0 0] [.var [.int .i64 b0.Kind, .int .i64 b0.N, aL cTreeTree b0.Kids]] (.bool r) [.var [.int .i64 b0.Kind, .int .i64 b0.N, aL cTreeTree b0.Kids]] := by
  refine conH_of (T := TT0) tt_ok Tryd.func37 (c := _) (by unfold Tryd.f37; rfl) Tryd.ntmps37 (rs := [.tmp 3]) (by rw [Tryd.results37]) (by unfold Tryd.f37; rfl) (by simp) (k := 1) rfl rfl ?_
  try simp only [argsCh]
  have F := True.intro
  dsimp only [tree_Tree_check_1] at h
  refine rs0 ?_
  iterate 2 refine vp ?_
  refine vn ?_
  refine rs0 ?_
  iterate 6 refine vp ?_
  refine vn ?_
  cases h
  exact Wp.ret (enH [some 0])

end Go.Proofs.YtfghchpnolfllaaDoor
