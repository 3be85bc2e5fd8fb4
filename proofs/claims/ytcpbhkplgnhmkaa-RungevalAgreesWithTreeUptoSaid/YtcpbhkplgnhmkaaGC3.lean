/- Contracts: models of functions are right. No law is proved here. -/
import Derived.Test.YtcpbhkplgnhmkaaGMod
import Derived.Test.YtcpbhkplgnhmkaaTak
import Derived.Test.YtcpbhkplgnhmkaaLawM11
namespace Go.Proofs.Ytcpbhkplgnhmkaa
open Go.Av Go.G
attribute [-simp] Int.natCast_tdiv_eq_ediv
attribute [local simp] runf guardA opf St.ev Go.Av.look St.setd constAV constAV0 opBin opLen intBin St.need lookT TT0 tab resA resOne resAll blt_dec ble_dec beq_dec isPure
attribute [local simp] opMakeSlice opCopy opIndexAddr opLoad opStore St.mem St.rows opUn calleeA toArgs toArg toArg0 toArgs0 shift shift0 shift1 splice cellsOf isFree ofCells TS.isAgg isCell strBin opConvert
attribute [local simp] opSlice3 opClear fz_clear opBuildSlice fillA opAppend eqC eqA cksB ckB St.newBox runI valKind withinB readsHp refsD refs noSl opFieldAddr opBuild opMax opMin placeOf Op.operands Call.operands opIndex opExtract opSlice opField partA
attribute [local simp] loA hiA lenA opMakeMap opLookup opMapUpdate keyOk findA_int findA_str findA_bool putA_strB putA_strI putA_strS putA_intB putA_intI putA_intS putA_boolI putA_boolB byteRow_rw bytesOf_rw opBytesStr mAV_length mAV_nil cA1 cA2 cA3 cA4 opNilCheck opMakeFunc opRange
attribute [local simp] aL cI cB cS cL rw_map fz_rw fz_const dropRow_rw fz_append fz_set fz_copy fz_rows rowLen_rw rowsLen_nil rowsLen_cons rowsLen_append rowsLen_map rowsLen_dm rowsLen_tm rowsLen_take rowsLen_drop rowsLen_replicate take_map_len take_map_le drop_map_len take_drop_len chunks isScalar isScalar0
attribute [local simp] putBack putAt objMap mapC mapA mapT map0 bid rid memB passed closedB argsH argH argH0 argsH0 objIds ids0 idsC isLocT isLocA isLocC isLoc0 LocObj
attribute [local congr] bind_congr1 map_congr1 cond_congr1
attribute [local simp] cApiAddr cApiContact cApiCoil cApiRung cApiState cReducePair cReduceEdge cTreeTree_eq TreeTree_Kind_mk TreeTree_N_mk TreeTree_Kids_mk eta_TreeTree
variable [Drawn]
set_option maxHeartbeats 4000000
set_option linter.unusedSectionVars false
set_option maxRecDepth 20000
set_option linter.unusedSimpArgs false
set_option linter.unusedVariables false

theorem con_tree_Leaves (n : Nat) : ∀ {t0 : TreeTree} {r : (List Int)}, tree_Leaves n t0 = some r → Con Try.prog G0 34 [.agg [.int .i64 t0.Kind, .int .i64 t0.N, aL cTreeTree t0.Kids]] (aL (cI .i64) r) [] := by
  induction n with
  | zero => intro t0 r h; simp [tree_Leaves] at h
  | succ n Hslf_tree_Leaves =>
   intro t0 r h
   refine con_of (T := TT0) tt_ok Try.func34 (c := _) (by unfold Try.f34; rfl) Try.ntmps34 (rs := [.tmp 2]) (by rw [Try.results34]) (by unfold Try.f34; rfl) (by simp) ?_
   simp only [argsCh]
   have F := True.intro
   dsimp only [tree_Leaves] at h
   refine rs0 ?_
   iterate 2 refine vp ?_
   refine vn ?_
   refine Wp.seq ?_
   refine rs0 ?_
   iterate 2 refine vp ?_
   refine vn ?_
   refine Wp.block ?_
   refine rs0 ?_
   iterate 2 refine vp ?_
   refine vn ?_
   refine sB h F (fun F h => ?_) fun F h => ?_
   refine cF ?_
   refine jn (fun p5397 : Bool => { ch := [(1, .hptr 0 0 0), (13, .bool p5397)], hp := [.var [.int .i64 t0.Kind, .int .i64 t0.N, aL cTreeTree t0.Kids]], base := 0, n := 29, cond := True, gl := G0 }) (fun x => tree_Leaves_J1 n t0 (tree_Leaves n) x = some r) ?_ ?_
   clear h
   rintro p5397 h
   dsimp only [tree_Leaves_J1] at h
   try dsimp only
   refine sB h F (fun F h => ?_) fun F h => ?_
   refine cF ?_
   refine Wp.skip ?_
   refine sh ?_
   refine rs0 ?_
   refine vp ?_
   refine vn ?_
   cases h
   exact Wp.ret en0
   refine cT ?_
   refine rs0 ?_
   refine vp ?_
   refine vn ?_
   refine Wp.seq ?_
   refine rs0 ?_
   iterate 4 refine vp ?_
   refine vn ?_
   refine Wp.block ?_
   refine lp [none] (fun x : Int × (List Int) => { ch := [(3, .sl 0 0 x.2.length), (17, aL cTreeTree t0.Kids), (18, .int .i64 (t0.Kids.length : Int)), (19, .int .i64 x.1)], hp := [.arr 1 x.2.length (rw (x.2.map (cI .i64)))], base := 0, n := 29, cond := True, gl := G0 }) (fun m x => tree_Leaves_L2 t0 (tree_Leaves n) m x.1 x.2 = some r) n (0, []) h ?_
   rintro rec_n2 ⟨p5401, p5402⟩ h
   dsimp only [tree_Leaves_L2] at h
   try dsimp only
   refine rs0 ?_
   refine vp ?_
   refine vn ?_
   refine Wp.seq ?_
   refine sD h F (fun F h => ?_) fun F h => ?_
   refine cF ?_
   refine Wp.exit ?_
   refine sh ?_
   refine rs0 ?_
   iterate 2 refine vp ?_
   refine vn ?_
   cases h
   exact Wp.ret en0
   refine cT ?_
   refine Wp.skip ?_
   refine sh ?_
   refine Wp.seq ?_
   refine Wp.block ?_
   refine rs0 ?_
   refine eI h F fun x5407 F h => ?_
   iterate 4 refine vp ?_
   refine vn ?_
   refine rg (fun d => Nat.beq d 26) ?_
   iterate 2 refine vp ?_
   obtain ⟨r5409, hr5408, h⟩ := obind h
   refine vc (Hslf_tree_Leaves hr5408) ?_
   refine gd h F fun F h => ?_
   refine vp ?_
   refine nm (cI .i64) h F fun l5410 F h => ?_
   refine vp ?_
   refine vn ?_
   refine sh ?_
   refine rg0 ?_
   iterate 2 refine vp ?_
   refine vn ?_
   exact nx [some 2] ((IntKind.i64.wrap (p5401 + 1)), l5410) h
   refine rs0 ?_
   iterate 2 refine vp ?_
   refine vn ?_
   refine sB h F (fun F h => ?_) fun F h => ?_
   refine cF ?_
   refine rg0 ?_
   iterate 2 refine vp ?_
   refine vn ?_
   exact nx [some 0] (t0.Kind == 2) h
   refine cT ?_
   refine Wp.skip ?_
   exact nx [some 0] (t0.Kind == 1) h
   refine cT ?_
   refine rs0 ?_
   iterate 3 refine vp ?_
   refine nl (cI .i64) h F fun l5396 m F h => ?_
   try simp only [m]
   clear m
   refine vp ?_
   refine vn ?_
   cases h
   exact Wp.ret en0

theorem con_reduce_join {n : Nat} {kind0 : Int} {a1 : TreeTree} {b2 : TreeTree} {r : TreeTree} (h : reduce_join n kind0 a1 b2 = some r) : Con Try.prog G0 28 [.int .i64 kind0, .agg [.int .i64 a1.Kind, .int .i64 a1.N, aL cTreeTree a1.Kids], .agg [.int .i64 b2.Kind, .int .i64 b2.N, aL cTreeTree b2.Kids]] (.agg [.int .i64 r.Kind, .int .i64 r.N, aL cTreeTree r.Kids]) [] := by
  refine con_of (T := TT0) tt_ok Try.func28 (c := _) (by unfold Try.f28; rfl) Try.ntmps28 (rs := [.cell 6 37]) (by rw [Try.results28]) (by unfold Try.f28; rfl) (by simp) ?_
  simp only [argsCh]
  have F := True.intro
  dsimp only [reduce_join] at h
  refine rs0 ?_
  iterate 3 refine vp ?_
  refine vn ?_
  refine rs0 ?_
  iterate 4 refine vp ?_
  refine vn ?_
  refine Wp.seq ?_
  refine rs0 ?_
  iterate 3 refine vp ?_
  refine nl cTreeTree h F fun l5051 m F h => ?_
  try simp only [m]
  clear m
  iterate 2 refine vp ?_
  refine vn ?_
  refine Wp.block ?_
  refine lp [some 2, some 3, none] (fun x : Int × (List TreeTree) => { ch := [(0, .int .i64 kind0), (6, .hptr 0 0 0), (7, .hptr 1 0 0), (14, aL cTreeTree l5051), (15, .int .i64 (l5051.length : Int)), (16, .int .i64 x.1)], hp := [.var [.int .i64 0, .int .i64 0, .nilsl], .var [.int .i64 kind0, .int .i64 0, .sl 2 0 x.2.length], .arr 3 x.2.length (rw (x.2.map cTreeTree))], base := 0, n := 38, cond := True, gl := G0 }) (fun m x => reduce_join_L1 kind0 l5051 m x.1 x.2 = some r) n (0, []) h ?_
  rintro rec_n1 ⟨p5054, p5055⟩ h
  dsimp only [reduce_join_L1] at h
  try dsimp only
  refine rs0 ?_
  refine vp ?_
  refine vn ?_
  refine Wp.seq ?_
  refine sD h F (fun F h => ?_) fun F h => ?_
  refine cF ?_
  refine Wp.exit ?_
  refine sh ?_
  refine rs0 ?_
  iterate 2 refine vp ?_
  refine vn ?_
  cases h
  exact Wp.ret en0
  refine cT ?_
  refine Wp.skip ?_
  refine sh ?_
  refine Wp.seq ?_
  refine Wp.block ?_
  refine rs0 ?_
  refine eI h F fun x5059 F h => ?_
  iterate 4 refine vp ?_
  refine vn ?_
  refine rs0 ?_
  iterate 4 refine vp ?_
  refine vn ?_
  refine sB h F (fun F h => ?_) fun F h => ?_
  refine cF ?_
  refine rg (fun d => Nat.beq d 34) ?_
  iterate 4 refine vp ?_
  refine gd h F fun F h => ?_
  refine vp ?_
  refine nm cTreeTree h F fun l5061 F h => ?_
  iterate 2 refine vp ?_
  refine vn ?_
  refine sh ?_
  refine rg0 ?_
  iterate 2 refine vp ?_
  refine vn ?_
  exact nx [some 0, some 1, some 4] ((IntKind.i64.wrap (p5054 + 1)), l5061) h
  refine cT ?_
  refine rg (fun d => Nat.beq d 28) ?_
  iterate 4 refine vp ?_
  refine gd h F fun F h => ?_
  refine vp ?_
  refine nm cTreeTree h F fun l5060 F h => ?_
  iterate 2 refine vp ?_
  refine vn ?_
  refine sh ?_
  refine rg0 ?_
  iterate 2 refine vp ?_
  refine vn ?_
  exact nx [some 0, some 1, some 4] ((IntKind.i64.wrap (p5054 + 1)), l5060) h

theorem con_rungeval_conducting {n : Nat} {kind0 : Int} {v1 : Bool} {was2 : Bool} {r : Bool} (h : rungeval_conducting n kind0 v1 was2 = some r) : Con Try.prog G0 42 [.int .i64 kind0, .bool v1, .bool was2] (.bool r) [] := by
  refine con_of (T := TT0) tt_ok Try.func42 (c := _) (by unfold Try.f42; rfl) Try.ntmps42 (rs := [.tmp 6]) (by rw [Try.results42]) (by unfold Try.f42; rfl) (by simp) ?_
  simp only [argsCh]
  have F := True.intro
  dsimp only [rungeval_conducting] at h
  refine rs0 ?_
  refine vp ?_
  refine vn ?_
  refine rs0 ?_
  iterate 5 refine vp ?_
  refine sB h F (fun F h => ?_) fun F h => ?_
  refine vs ?_
  refine vs ?_
  iterate 4 refine vp ?_
  refine vg ?_
  iterate 3 refine vp ?_
  refine sP h F (fun F h => ?_) fun F h => ?_
  iterate 2 refine vp ?_
  refine vn ?_
  cases h
  exact Wp.ret en0
  refine sP h F (fun F h => ?_) fun F h => ?_
  iterate 2 refine vp ?_
  refine vn ?_
  cases h
  exact Wp.ret en0
  refine sP h F (fun F h => ?_) fun F h => ?_
  iterate 2 refine vp ?_
  refine vn ?_
  cases h
  exact Wp.ret en0
  refine sP h F (fun F h => ?_) fun F h => ?_
  iterate 2 refine vp ?_
  refine vn ?_
  cases h
  exact Wp.ret en0
  cases h
  refine vg ?_
  refine vg ?_
  iterate 4 refine vp ?_
  refine vs ?_
  iterate 3 refine vp ?_
  refine sP h F (fun F h => ?_) fun F h => ?_
  iterate 2 refine vp ?_
  refine vn ?_
  cases h
  exact Wp.ret en0
  refine sP h F (fun F h => ?_) fun F h => ?_
  iterate 2 refine vp ?_
  refine vn ?_
  cases h
  exact Wp.ret en0
  refine sP h F (fun F h => ?_) fun F h => ?_
  iterate 2 refine vp ?_
  refine vn ?_
  cases h
  exact Wp.ret en0
  refine sP h F (fun F h => ?_) fun F h => ?_
  iterate 2 refine vp ?_
  refine vn ?_
  cases h
  exact Wp.ret en0
  cases h

theorem con_rungeval_writes {n : Nat} {kind0 : Int} {on1 : Bool} {r : Bool × Bool} (h : rungeval_writes n kind0 on1 = some r) : Con Try.prog G0 43 [.int .i64 kind0, .bool on1] (.tup [.bool r.1, .bool r.2]) [] := by
  refine con_of (T := TT0) tt_ok Try.func43 (c := _) (by unfold Try.f43; rfl) Try.ntmps43 (rs := [.tmp 4, .tmp 5]) (by rw [Try.results43]) (by unfold Try.f43; rfl) (by simp) ?_
  simp only [argsCh]
  have F := True.intro
  dsimp only [rungeval_writes] at h
  refine rs0 ?_
  iterate 2 refine vp ?_
  refine vn ?_
  refine rs0 ?_
  iterate 11 refine vp ?_
  refine sP h F (fun F h => ?_) fun F h => ?_
  iterate 3 refine vp ?_
  refine vn ?_
  refine dw (fun _ => false) [0] ?_
  refine du 6 ?_
  refine dn ?_
  cases h
  exact Wp.ret en0
  refine sP h F (fun F h => ?_) fun F h => ?_
  iterate 3 refine vp ?_
  refine vn ?_
  refine dw (fun _ => false) [0] ?_
  refine du 6 ?_
  refine dn ?_
  cases h
  exact Wp.ret en0
  refine sP h F (fun F h => ?_) fun F h => ?_
  iterate 3 refine vp ?_
  refine vn ?_
  refine dw (fun _ => false) [0] ?_
  refine du 6 ?_
  refine dn ?_
  cases h
  exact Wp.ret en0
  refine sP h F (fun F h => ?_) fun F h => ?_
  iterate 3 refine vp ?_
  refine vn ?_
  refine dw (fun _ => false) [0] ?_
  refine du 6 ?_
  refine dn ?_
  cases h
  exact Wp.ret en0
  cases h

theorem con_tree_Tree_eval_1 {slf_tree_Tree_eval : TreeTree → (List Bool) → Option (Bool)} (Hslf_tree_Tree_eval : ∀ {t0 : TreeTree} {on1 : List Bool} {r : Bool}, slf_tree_Tree_eval t0 on1 = some r → Con Try.prog G0 19 [.agg [.int .i64 t0.Kind, .int .i64 t0.N, aL cTreeTree t0.Kids], aL cB on1] (.bool r) []) {n : Nat} {k0 : TreeTree} {b0 : List Bool} {r : Bool} (h : tree_Tree_eval_1 slf_tree_Tree_eval n k0 b0 = some r) : ConH Try.prog G0 36 [.agg [.int .i64 k0.Kind, .int .i64 k0.N, aL cTreeTree k0.Kids], .hptr 0 0 0] [.var [aL cB b0]] (.bool r) [.var [aL cB b0]] := by
  refine conH_of (T := TT0) tt_ok Try.func36 (c := _) (by unfold Try.f36; rfl) Try.ntmps36 (rs := [.tmp 3]) (by rw [Try.results36]) (by unfold Try.f36; rfl) (by simp) (k := 1) rfl rfl ?_
  try simp only [argsCh]
  have F := True.intro
  dsimp only [tree_Tree_eval_1] at h
  refine rs0 ?_
  iterate 2 refine vp ?_
  refine vn ?_
  refine rs0 ?_
  iterate 2 refine vp ?_
  obtain ⟨r5573, hr5572, h⟩ := obind h
  refine vc (Hslf_tree_Tree_eval hr5572) ?_
  refine vp ?_
  refine vn ?_
  cases h
  exact Wp.ret (enH [some 0])

theorem con_image_is {n : Nat} {l0 : List Bool} {n_1 : Int} {r : Bool} (h : image_is n l0 n_1 = some r) : Con Try.prog G0 81 [aL cB l0, .int .i64 n_1] (.bool r) [] := by
  refine con_of (T := TT0) tt_ok Try.func81 (c := _) (by unfold Try.f81; rfl) Try.ntmps81 (rs := [.tmp 4]) (by rw [Try.results81]) (by unfold Try.f81; rfl) (by simp) ?_
  simp only [argsCh]
  have F := True.intro
  dsimp only [image_is] at h
  refine rs0 ?_
  refine vp ?_
  refine vn ?_
  refine rs0 ?_
  iterate 3 refine vp ?_
  refine sD h F (fun F h => ?_) fun F h => ?_
  refine vs ?_
  refine vs ?_
  refine vs ?_
  refine vs ?_
  iterate 2 refine vp ?_
  refine vn ?_
  cases h
  exact Wp.ret en0
  refine vg ?_
  refine vg ?_
  refine vg ?_
  refine vg ?_
  iterate 2 refine vp ?_
  refine vn ?_
  cases h
  exact Wp.ret en0

theorem con_graph_gather_2 {n : Nat} {n_0 : Str} {m1 : List (Str × Bool)} {r : Bool} (h : graph_gather_2 n n_0 m1 = some r) : ConH Try.prog G0 83 [.str n_0, .hptr 0 0 0] [.var [.mp 1], .map (mAV AV.str cB m1)] (.bool r) [.var [.mp 1], .map (mAV AV.str cB m1)] := by
  refine conH_of (T := TT0) tt_ok Try.func83 (c := _) (by unfold Try.f83; rfl) Try.ntmps83 (rs := [.tmp 3]) (by rw [Try.results83]) (by unfold Try.f83; rfl) (by simp) (k := 2) rfl rfl ?_
  try simp only [argsCh]
  have F := True.intro
  dsimp only [graph_gather_2] at h
  refine rs0 ?_
  refine vp ?_
  refine vn ?_
  refine rs0 ?_
  iterate 5 refine vp ?_
  refine vn ?_
  cases h
  exact Wp.ret (enH [some 0, some 1])

theorem con_cmp_isNaN_int {n : Nat} {x_0 : Int} {r : Bool} (h : cmp_isNaN_int n x_0 = some r) : Con Try.prog G0 58 [.int .i64 x_0] (.bool r) [] := by
  refine con_of (T := TT0) tt_ok Try.func58 (c := _) (by unfold Try.f58; rfl) Try.ntmps58 (rs := [.tmp 2]) (by rw [Try.results58]) (by unfold Try.f58; rfl) (by simp) ?_
  simp only [argsCh]
  have F := True.intro
  dsimp only [cmp_isNaN_int] at h
  refine rs0 ?_
  refine vp ?_
  refine vn ?_
  refine rs0 ?_
  iterate 4 refine vp ?_
  refine vn ?_
  cases h
  exact Wp.ret en0

end Go.Proofs.Ytcpbhkplgnhmkaa
