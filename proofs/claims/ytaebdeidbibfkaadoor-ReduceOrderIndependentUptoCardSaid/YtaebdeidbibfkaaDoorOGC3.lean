/- Contracts: models of functions are right. No law is proved here. -/
import Derived.Test.YtaebdeidbibfkaaDoorOGMod
import Derived.Test.YtaebdeidbibfkaaDoorOTav
import Derived.Test.YtaebdeidbibfkaaDoorOSo
import Derived.Test.YtaebdeidbibfkaaDoorOSh
namespace Go.Proofs.YtaebdeidbibfkaaDoor
open Go.Av Go.G
attribute [-simp] Int.natCast_tdiv_eq_ediv
attribute [local simp] runf guardA opf St.ev Go.Av.look St.setd constAV constAV0 opBin opLen intBin St.need lookT TT0 tab resA resOne resAll blt_dec ble_dec beq_dec isPure
attribute [local simp] opMakeSlice opCopy opIndexAddr opLoad opStore St.mem St.rows opUn calleeA toArgs toArg toArg0 toArgs0 shift shift0 shift1 splice cellsOf isFree ofCells TS.isAgg isCell strBin opConvert
attribute [local simp] opSlice3 opClear fz_clear opBuildSlice fillA opAppend eqC eqA cksB ckB St.newBox runI valKind withinB readsHp refsD refs noSl opFieldAddr opBuild opMax opMin placeOf Op.operands Call.operands opIndex opExtract opSlice opField partA
attribute [local simp] loA hiA lenA opMakeMap opLookup opMapUpdate keyOk findA_int findA_str findA_bool putA_strB putA_strI putA_strS putA_intB putA_intI putA_intS putA_boolI putA_boolB byteRow_rwN bytesOf_rwN opBytesStr mAV_length mAV_nil cA1 cA2 cA3 cA4 opNilCheck opMakeFunc opRange
attribute [local simp] aL cI cB cS cL rw_map fz_rw fz_const dropRow_rw fz_append fz_set fz_copy fz_rows rowLen_rw rowsLen_nil rowsLen_cons rowsLen_append rowsLen_map rowsLen_dm rowsLen_tm rowsLen_take rowsLen_drop rowsLen_replicate take_map_len take_map_le drop_map_len take_drop_len chunks isScalar isScalar0
attribute [local simp] putBack putAt objMap mapC mapA mapT map0 bid rid memB passed closedB argsH argH argH0 argsH0 objIds ids0 idsC isLocT isLocA isLocC isLoc0 LocObj
attribute [local congr] bind_congr1 map_congr1 cond_congr1
attribute [local simp] cApiAddr cApiContact cApiCoil cApiRung cReducePair cReduceEdge cTreeTree_eq TreeTree_Kind_mk TreeTree_N_mk TreeTree_Kids_mk eta_TreeTree cRef14Tree_eq Ref14Tree_Kind_mk Ref14Tree_N_mk Ref14Tree_Kids_mk eta_Ref14Tree
variable [Drawn]
set_option maxHeartbeats 4000000
set_option linter.unusedSectionVars false
set_option maxRecDepth 20000
set_option linter.unusedSimpArgs false
set_option linter.unusedVariables false

theorem con_graph_Nodes_o0 {n : Nat} {r_0 : ApiRung} {r : (List Str)} (h : graph_Nodes_o0 n r_0 = some r) : Con Tryd.prog G0 70 [.agg (cApiRung r_0)] (.sl 0 0 r.length) [.arr 1 r.length (rw (r.map cS))] := by
  refine con_of (T := TT0) tt_ok Tryd.func70 (c := _) (by unfold Tryd.f70; rfl) Tryd.ntmps70 (rs := [.tmp 2]) (by rw [Tryd.results70]) (by unfold Tryd.f70; rfl) (by simp) ?_
  simp only [argsCh]
  have F := True.intro
  dsimp only [graph_Nodes_o0] at h
  refine rs0 ?_
  iterate 2 refine vp ?_
  refine vn ?_
  refine rs (fun d => Nat.beq d 9) ?_
  refine vp ?_
  refine nl cS h F fun l11705 m F h => ?_
  try simp only [m]
  clear m
  refine vp ?_
  refine vn ?_
  refine rs0 ?_
  iterate 5 refine vp ?_
  refine vn ?_
  refine Wp.seq ?_
  refine rs0 ?_
  iterate 4 refine vp ?_
  refine vn ?_
  refine Wp.block ?_
  refine lp [some 1, some 2] (fun x : Int × (List Str) × (List (Str × Bool)) => { ch := [(3, .sl 0 0 x.2.1.length), (4, .mp 1), (13, aL cApiContact r_0.Contacts), (14, .int .i64 (r_0.Contacts.length : Int)), (15, .int .i64 x.1)], hp := [.arr 1 x.2.1.length (rw (x.2.1.map cS)), .map (mAV AV.str cB x.2.2)], base := 0, n := 42, cond := True, gl := G0 }) (fun m x => graph_Nodes_o0_L1 n r_0 m x.1 x.2.1 x.2.2 = some r) n (0, l11705, (mPut (mPut ([]) (⟨#[76]⟩ : Str) true) (⟨#[82]⟩ : Str) true)) h ?_
  rintro rec_n1 ⟨p11717, l11718, p11719⟩ h
  dsimp only [graph_Nodes_o0_L1] at h
  try dsimp only
  refine rs0 ?_
  refine vp ?_
  refine vn ?_
  refine Wp.seq ?_
  refine sD h F (fun F h => ?_) fun F h => ?_
  refine cF ?_
  refine Wp.exit ?_
  refine sh ?_
  refine rs0 ?_
  iterate 2 refine vp ?_
  refine vn ?_
  cases h
  exact Wp.ret (enH [some 0])
  refine cT ?_
  refine Wp.skip ?_
  refine sh ?_
  refine Wp.seq ?_
  refine Wp.block ?_
  refine rs0 ?_
  refine eI h F fun x11731 F h => ?_
  iterate 4 refine vp ?_
  refine vn ?_
  refine rs0 ?_
  iterate 5 refine vp ?_
  refine nl cS h F fun l11732 m F h => ?_
  try simp only [m]
  clear m
  iterate 2 refine vp ?_
  refine vn ?_
  refine Wp.block ?_
  refine lp [some 0, some 1] (fun x : Int × (List Str) × (List (Str × Bool)) => { ch := [(3, .sl 0 0 x.2.1.length), (4, .mp 1), (13, aL cApiContact r_0.Contacts), (14, .int .i64 (r_0.Contacts.length : Int)), (15, .int .i64 p11717), (23, aL cS l11732), (24, .int .i64 (l11732.length : Int)), (25, .int .i64 x.1)], hp := [.arr 1 x.2.1.length (rw (x.2.1.map cS)), .map (mAV AV.str cB x.2.2)], base := 0, n := 42, cond := True, gl := G0 }) (fun m x => graph_Nodes_o0_L2 p11717 (graph_Nodes_o0_L1 n r_0 rec_n1) l11732 m x.1 x.2.1 x.2.2 = some r) n (0, l11718, p11719) h ?_
  rintro rec_n2 ⟨p11735, l11736, p11737⟩ h
  dsimp only [graph_Nodes_o0_L2] at h
  try dsimp only
  refine rs0 ?_
  refine vp ?_
  refine vn ?_
  refine Wp.seq ?_
  refine sD h F (fun F h => ?_) fun F h => ?_
  refine cF ?_
  refine Wp.exit ?_
  refine sh ?_
  refine rg0 ?_
  iterate 2 refine vp ?_
  refine vn ?_
  exact nx [some 0, some 1] ((IntKind.i64.wrap (p11717 + 1)), l11736, p11737) h
  refine cT ?_
  refine Wp.skip ?_
  refine sh ?_
  refine Wp.seq ?_
  refine Wp.block ?_
  refine rs0 ?_
  refine eI h F fun x11740 F h => ?_
  iterate 3 refine vp ?_
  refine vn ?_
  refine rs0 ?_
  iterate 4 refine vp ?_
  refine vn ?_
  refine sB h F (fun F h => ?_) fun F h => ?_
  refine cF ?_
  refine Wp.skip ?_
  refine sh ?_
  refine rg0 ?_
  iterate 2 refine vp ?_
  refine vn ?_
  exact nx [some 0, some 1] ((IntKind.i64.wrap (p11735 + 1)), l11736, p11737) h
  refine cT ?_
  refine rs0 ?_
  iterate 3 refine vp ?_
  refine vn ?_
  refine rg0 ?_
  iterate 3 refine vp ?_
  refine gd h F fun F h => ?_
  refine vp ?_
  refine nm cS h F fun l11741 F h => ?_
  refine vp ?_
  refine vn ?_
  refine sh ?_
  refine rg0 ?_
  iterate 2 refine vp ?_
  refine vn ?_
  exact nx [some 2, some 1] ((IntKind.i64.wrap (p11735 + 1)), l11741, (mPut p11737 x11740 true)) h

theorem con_ref14_Leaves (n : Nat) : ∀ {t0 : Ref14Tree} {r : (List Int)}, ref14_Leaves n t0 = some r → Con Tryd.prog G0 85 [.agg [.int .i64 t0.Kind, .int .i64 t0.N, aL cRef14Tree t0.Kids]] (aL (cI .i64) r) [] := by
  induction n with
  | zero => intro t0 r h; simp [ref14_Leaves] at h
  | succ n Hslf_ref14_Leaves =>
   intro t0 r h
   refine con_of (T := TT0) tt_ok Tryd.func85 (c := _) (by unfold Tryd.f85; rfl) Tryd.ntmps85 (rs := [.tmp 2]) (by rw [Tryd.results85]) (by unfold Tryd.f85; rfl) (by simp) ?_
   simp only [argsCh]
   have F := True.intro
   dsimp only [ref14_Leaves] at h
   refine rs0 ?_
   iterate 2 refine vp ?_
   refine vn ?_
   refine Wp.seq ?_
   refine rs0 ?_
   iterate 3 refine vp ?_
   refine vn ?_
   refine sB h F (fun F h => ?_) fun F h => ?_
   refine cF ?_
   refine Wp.skip ?_
   refine sh ?_
   refine jn (fun _ : Unit => { ch := [(1, .hptr 0 0 0)], hp := [.var [.int .i64 t0.Kind, .int .i64 t0.N, aL cRef14Tree t0.Kids]], base := 0, n := 35, cond := True, gl := G0 }) (fun x => ref14_Leaves_J1 n t0 (ref14_Leaves n) = some r) ?_ ?_
   clear h
   rintro _ h
   dsimp only [ref14_Leaves_J1] at h
   try dsimp only
   refine rs0 ?_
   refine vp ?_
   refine vn ?_
   refine Wp.seq ?_
   refine rs0 ?_
   refine vp ?_
   refine vn ?_
   refine Wp.block ?_
   refine lp [some 0, none] (fun x : (List Int) × Int => { ch := [(1, .hptr 0 0 0), (3, .sl 1 0 x.1.length), (4, .int .i64 x.2)], hp := [.var [.int .i64 t0.Kind, .int .i64 t0.N, aL cRef14Tree t0.Kids], .arr 1 x.1.length (rw (x.1.map (cI .i64)))], base := 0, n := 35, cond := True, gl := G0 }) (fun m x => ref14_Leaves_L2 t0 (ref14_Leaves n) m x.1 x.2 = some r) n ([], 0) h ?_
   rintro rec_n2 ⟨p14110, p14111⟩ h
   dsimp only [ref14_Leaves_L2] at h
   try dsimp only
   refine Wp.seq ?_
   refine rs0 ?_
   iterate 5 refine vp ?_
   refine vn ?_
   refine sD h F (fun F h => ?_) fun F h => ?_
   refine cF ?_
   refine Wp.exit ?_
   refine sh ?_
   refine rs0 ?_
   iterate 2 refine vp ?_
   refine vn ?_
   cases h
   exact Wp.ret en0
   refine cT ?_
   refine Wp.skip ?_
   refine sh ?_
   refine Wp.seq ?_
   refine Wp.block ?_
   refine rg (fun d => Nat.beq d 33) ?_
   iterate 4 refine vp ?_
   refine eI h F fun x14116 F h => ?_
   iterate 2 refine vp ?_
   obtain ⟨r14118, hr14117, h⟩ := obind h
   refine vc (Hslf_ref14_Leaves hr14117) ?_
   refine gd h F fun F h => ?_
   refine vp ?_
   refine nm (cI .i64) h F fun l14119 F h => ?_
   refine vp ?_
   refine vn ?_
   refine sh ?_
   refine rg0 ?_
   iterate 3 refine vp ?_
   refine vn ?_
   exact nx [some 0, some 2] (l14119, (IntKind.i64.wrap (p14111 + 1))) h
   refine rs0 ?_
   iterate 4 refine vp ?_
   refine sB h F (fun F h => ?_) fun F h => ?_
   refine vs ?_
   refine vs ?_
   refine vs ?_
   refine vp ?_
   refine vn ?_
   refine cF ?_
   refine Wp.skip ?_
   exact nx [some 0] () h
   refine vg ?_
   refine vg ?_
   refine vg ?_
   refine vp ?_
   refine vn ?_
   refine sB h F (fun F h => ?_) fun F h => ?_
   refine cF ?_
   refine Wp.skip ?_
   exact nx [some 0] () h
   refine cT ?_
   refine rs0 ?_
   refine vp ?_
   refine vn ?_
   cases h
   exact Wp.ret en0
   refine cT ?_
   refine rs0 ?_
   iterate 3 refine vp ?_
   refine nl (cI .i64) h F fun l14106 m F h => ?_
   try simp only [m]
   clear m
   refine vp ?_
   refine vn ?_
   cases h
   exact Wp.ret en0

theorem con_law15_rung_o1 {n : Nat} {l0 : List Str} {r : ApiRung} (h : law15_rung_o1 n l0 = some r) : Con Tryd.prog G0 16 [aL cS l0] (.agg [.str r.Label, .sl 0 0 r.Contacts.length, aL cApiCoil r.Coils, .str r.Jump]) [.arr 5 r.Contacts.length (rw (r.Contacts.map cApiContact))] := by
  refine con_of (T := TT0) tt_ok Tryd.func16 (c := _) (by unfold Tryd.f16; rfl) Tryd.ntmps16 (rs := [.cell 2 25]) (by rw [Tryd.results16]) (by unfold Tryd.f16; rfl) (by simp) ?_
  simp only [argsCh]
  have F := True.intro
  dsimp only [law15_rung_o1] at h
  refine rs0 ?_
  refine vp ?_
  refine vn ?_
  refine rs0 ?_
  refine vp ?_
  refine vn ?_
  refine Wp.seq ?_
  refine rs0 ?_
  refine vp ?_
  refine vn ?_
  refine Wp.block ?_
  refine lp [some 0, some 1, none] (fun x : (List ApiContact) × Int => { ch := [(0, aL cS l0), (2, .hptr 0 0 0), (3, .hptr 1 0 0), (4, .int .i64 x.2)], hp := [.var [.str (⟨#[]⟩ : Str), .nilsl, .nilsl, .str (⟨#[]⟩ : Str)], .var [.str (⟨#[]⟩ : Str), .sl 2 0 x.1.length, .nilsl, .str (⟨#[]⟩ : Str)], .arr 5 x.1.length (rw (x.1.map cApiContact))], base := 0, n := 28, cond := True, gl := G0 }) (fun m x => law15_rung_o1_L1 l0 m x.1 x.2 = some r) n ([], 0) h ?_
  rintro rec_n1 ⟨p14303, p14304⟩ h
  dsimp only [law15_rung_o1_L1] at h
  try dsimp only
  refine Wp.seq ?_
  refine rs0 ?_
  iterate 5 refine vp ?_
  refine vn ?_
  refine sD h F (fun F h => ?_) fun F h => ?_
  refine cF ?_
  refine Wp.exit ?_
  refine sh ?_
  refine rs0 ?_
  iterate 2 refine vp ?_
  refine vn ?_
  cases h
  exact Wp.ret (enH [some 2])
  refine cT ?_
  refine Wp.skip ?_
  refine sh ?_
  refine Wp.seq ?_
  refine Wp.block ?_
  refine dw1 (fun d => Nat.beq d 25 || Nat.beq d 1025) [1, 2] ?_
  refine du 4 ?_
  refine eI h F fun x14308 F h => ?_
  refine du 5 ?_
  refine eI h F fun x14309 F h => ?_
  refine du 4 ?_
  refine gd h F fun F h => ?_
  refine db ?_
  refine nm cApiContact h F fun l14310 F h => ?_
  refine du 1 ?_
  refine db ?_
  refine dn ?_
  refine sh ?_
  refine rg0 ?_
  iterate 3 refine vp ?_
  refine vn ?_
  exact nx [some 0, some 1, some 3] (l14310, (IntKind.i64.wrap (p14304 + 2))) h

theorem con_slices_Min_int {n : Nat} {x_0 : List Int} {r : Int} (h : slices_Min_int n x_0 = some r) : Con Tryd.prog G0 56 [aL (cI .i64) x_0] (.int .i64 r) [] := by
  refine con_of (T := TT0) tt_ok Tryd.func56 (c := _) (by unfold Tryd.f56; rfl) Tryd.ntmps56 (rs := [.tmp 2]) (by rw [Tryd.results56]) (by unfold Tryd.f56; rfl) (by simp) ?_
  simp only [argsCh]
  have F := True.intro
  dsimp only [slices_Min_int] at h
  refine rs0 ?_
  refine vp ?_
  refine vn ?_
  refine Wp.seq ?_
  refine rs0 ?_
  iterate 3 refine vp ?_
  refine vn ?_
  refine sD h F (fun F h => ?_) fun F h => ?_
  refine cF ?_
  refine Wp.skip ?_
  refine sh ?_
  refine rs0 ?_
  refine vp ?_
  refine eN (m := 0) h F fun x13716 F h => ?_
  iterate 3 refine vp ?_
  refine vn ?_
  refine Wp.seq ?_
  refine rs0 ?_
  refine vp ?_
  refine vn ?_
  refine Wp.block ?_
  refine lp [] (fun x : Int × Int => { ch := [(0, aL (cI .i64) x_0), (3, .int .i64 x.1), (4, .int .i64 x.2)], hp := [], base := 0, n := 25, cond := True, gl := G0 }) (fun m x => slices_Min_int_L1 x_0 m x.1 x.2 = some r) n (x13716, 1) h ?_
  rintro rec_n1 ⟨x13718, p13719⟩ h
  dsimp only [slices_Min_int_L1] at h
  try dsimp only
  refine Wp.seq ?_
  refine rs0 ?_
  iterate 4 refine vp ?_
  refine vn ?_
  refine sD h F (fun F h => ?_) fun F h => ?_
  refine cF ?_
  refine Wp.exit ?_
  refine sh ?_
  refine rs0 ?_
  iterate 2 refine vp ?_
  refine vn ?_
  cases h
  exact Wp.ret en0
  refine cT ?_
  refine Wp.skip ?_
  refine sh ?_
  refine Wp.seq ?_
  refine Wp.block ?_
  refine rg0 ?_
  iterate 3 refine vp ?_
  refine eI h F fun x13721 F h => ?_
  iterate 4 refine vp ?_
  refine vn ?_
  refine sh ?_
  refine rg0 ?_
  iterate 3 refine vp ?_
  refine vn ?_
  exact nx [] ((imin x13718 x13721), (IntKind.i64.wrap (p13719 + 1))) h
  refine cT ?_
  refine rg0 ?_
  cases h

theorem con_reduce_parallel_1 {n : Nat} {y0 : ReduceEdge} {b0 : ReduceEdge} {r : Bool} (h : reduce_parallel_1 n y0 b0 = some r) : ConH Tryd.prog G0 50 [.agg (cReduceEdge y0), .hptr 0 0 0] [.var [.str b0.pair.from_, .str b0.pair.to_, .int .i64 b0.t_.Kind, .int .i64 b0.t_.N, aL cTreeTree b0.t_.Kids]] (.bool r) [.var [.str b0.pair.from_, .str b0.pair.to_, .int .i64 b0.t_.Kind, .int .i64 b0.t_.N, aL cTreeTree b0.t_.Kids]] := by
  refine conH_of (T := TT0) tt_ok Tryd.func50 (c := _) (by unfold Tryd.f50; rfl) Tryd.ntmps50 (rs := [.tmp 3]) (by rw [Tryd.results50]) (by unfold Tryd.f50; rfl) (by simp) (k := 1) rfl rfl ?_
  try simp only [argsCh]
  have F := True.intro
  dsimp only [reduce_parallel_1] at h
  refine rs0 ?_
  iterate 2 refine vp ?_
  refine vn ?_
  refine rs0 ?_
  iterate 6 refine vp ?_
  refine vn ?_
  cases h
  exact Wp.ret (enH [some 0])

theorem con_graph_gather_2 {n : Nat} {n_0 : Str} {m1 : List (Str × Bool)} {r : Bool} (h : graph_gather_2 n n_0 m1 = some r) : ConH Tryd.prog G0 128 [.str n_0, .hptr 0 0 0] [.var [.mp 1], .map (mAV AV.str cB m1)] (.bool r) [.var [.mp 1], .map (mAV AV.str cB m1)] := by
  refine conH_of (T := TT0) tt_ok Tryd.func128 (c := _) (by unfold Tryd.f128; rfl) Tryd.ntmps128 (rs := [.tmp 3]) (by rw [Tryd.results128]) (by unfold Tryd.f128; rfl) (by simp) (k := 2) rfl rfl ?_
  try simp only [argsCh]
  have F := True.intro
  dsimp only [graph_gather_2] at h
  refine rs0 ?_
  refine vp ?_
  refine vn ?_
  refine rs0 ?_
  iterate 5 refine vp ?_
  refine vn ?_
  cases h
  exact Wp.ret (enH [some 0, some 1])

theorem con_cmp_isNaN_int {n : Nat} {x_0 : Int} {r : Bool} (h : cmp_isNaN_int n x_0 = some r) : Con Tryd.prog G0 84 [.int .i64 x_0] (.bool r) [] := by
  refine con_of (T := TT0) tt_ok Tryd.func84 (c := _) (by unfold Tryd.f84; rfl) Tryd.ntmps84 (rs := [.tmp 2]) (by rw [Tryd.results84]) (by unfold Tryd.f84; rfl) (by simp) ?_
  simp only [argsCh]
  have F := True.intro
  dsimp only [cmp_isNaN_int] at h
  refine rs0 ?_
  refine vp ?_
  refine vn ?_
  refine rs0 ?_
  iterate 4 refine vp ?_
  refine vn ?_
  cases h
  exact Wp.ret en0

end Go.Proofs.YtaebdeidbibfkaaDoor
