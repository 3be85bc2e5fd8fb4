/- Contracts: models of functions are right. No law is proved here. -/
import Derived.Test.YtaebdeidbibfkaaGreatDoorGMod
import Derived.Test.YtaebdeidbibfkaaGreatDoorTaz
namespace Go.Proofs.YtaebdeidbibfkaaGreatDoor
open Go.Av Go.G
attribute [-simp] Int.natCast_tdiv_eq_ediv
attribute [local simp] runf guardA opf St.ev Go.Av.look St.setd constAV constAV0 opBin opLen intBin St.need lookT TT0 tab resA resOne resAll blt_dec ble_dec beq_dec isPure
attribute [local simp] opMakeSlice opCopy opIndexAddr opLoad opStore St.mem St.rows opUn calleeA toArgs toArg toArg0 toArgs0 shift shift0 shift1 splice cellsOf isFree ofCells TS.isAgg isCell strBin opConvert
attribute [local simp] opSlice3 opClear fz_clear opBuildSlice fillA opAppend eqC eqA cksB ckB St.newBox runI valKind withinB readsHp refsD refs noSl opFieldAddr opBuild opMax opMin placeOf Op.operands Call.operands opIndex opExtract opSlice opField partA
attribute [local simp] loA hiA lenA opMakeMap opLookup opMapUpdate keyOk findA_int findA_str findA_bool putA_strB putA_strI putA_strS putA_intB putA_intI putA_intS putA_boolI putA_boolB mAV_length mAV_nil cA1 cA2 cA3 cA4 opNilCheck opMakeFunc opRange
attribute [local simp] aL cI cB cS cL rw_map fz_rw fz_const dropRow_rw fz_append fz_set fz_copy fz_rows rowLen_rw rowsLen_nil rowsLen_cons rowsLen_append rowsLen_map rowsLen_dm rowsLen_tm rowsLen_take rowsLen_drop rowsLen_replicate take_map_len take_map_le drop_map_len take_drop_len chunks isScalar isScalar0
attribute [local simp] putBack putAt objMap mapC mapA mapT map0 bid rid memB passed closedB argsH argH argH0 argsH0 objIds ids0 idsC isLocT isLocA isLocC isLoc0 LocObj
attribute [local congr] bind_congr1 map_congr1 cond_congr1
attribute [local simp] cApiAddr cApiContact cApiCoil cApiRung cApiIns cApiLadder cApiSize cApiProgram cReducePair cReduceEdge cTreeTree_eq TreeTree_Kind_mk TreeTree_N_mk TreeTree_Kids_mk eta_TreeTree cRef14Tree_eq Ref14Tree_Kind_mk Ref14Tree_N_mk Ref14Tree_Kids_mk eta_Ref14Tree
set_option maxHeartbeats 4000000
set_option maxRecDepth 20000
set_option linter.unusedSimpArgs false
set_option linter.unusedVariables false

theorem con_graph_Nodes_o0 {n : Nat} {r_0 : ApiRung} {r : (List Str)} (h : graph_Nodes_o0 n r_0 = some r) : Con Tryz.prog G0 97 [.agg (cApiRung r_0)] (.sl 0 0 r.length) [.arr 1 r.length (rw (r.map cS))] := by
  refine con_of (T := TT0) tt_ok Tryz.func97 (c := _) (by unfold Tryz.f97; rfl) Tryz.ntmps97 (rs := [.tmp 2]) (by rw [Tryz.results97]) (by unfold Tryz.f97; rfl) (by simp) ?_
  simp only [argsCh]
  have F := True.intro
  dsimp only [graph_Nodes_o0] at h
  refine rs0 ?_
  iterate 2 refine vp ?_
  refine vn ?_
  refine rs (fun d => Nat.beq d 9) ?_
  refine vp ?_
  refine nl cS h F fun l12994 m F h => ?_
  try simp only [m]
  clear m
  refine vp ?_
  refine vn ?_
  refine rs0 ?_
  iterate 5 refine vp ?_
  refine vn ?_
  refine Wp.seq ?_
  refine rs0 ?_
  iterate 4 refine vp ?_
  refine vn ?_
  refine Wp.block ?_
  refine lp [some 1, some 2] (fun x : Int × (List Str) × (List (Str × Bool)) => { ch := [(3, .sl 0 0 x.2.1.length), (4, .mp 1), (13, aL cApiContact r_0.Contacts), (14, .int .i64 (r_0.Contacts.length : Int)), (15, .int .i64 x.1)], hp := [.arr 1 x.2.1.length (rw (x.2.1.map cS)), .map (mAV AV.str cB x.2.2)], base := 0, n := 42, cond := True, gl := G0 }) (fun m x => graph_Nodes_o0_L1 n r_0 m x.1 x.2.1 x.2.2 = some r) n (0, l12994, (mPut (mPut ([]) (⟨#[76]⟩ : Str) true) (⟨#[82]⟩ : Str) true)) h ?_
  rintro rec_n1 ⟨p13006, l13007, p13008⟩ h
  dsimp only [graph_Nodes_o0_L1] at h
  try dsimp only
  refine rs0 ?_
  refine vp ?_
  refine vn ?_
  refine Wp.seq ?_
  refine sD h F (fun F h => ?_) fun F h => ?_
  refine cF ?_
  refine Wp.exit ?_
  refine sh ?_
  refine rs0 ?_
  iterate 2 refine vp ?_
  refine vn ?_
  cases h
  exact Wp.ret (enH [some 0])
  refine cT ?_
  refine Wp.skip ?_
  refine sh ?_
  refine Wp.seq ?_
  refine Wp.block ?_
  refine rs0 ?_
  refine eI h F fun x13020 F h => ?_
  iterate 4 refine vp ?_
  refine vn ?_
  refine rs0 ?_
  iterate 5 refine vp ?_
  refine nl cS h F fun l13021 m F h => ?_
  try simp only [m]
  clear m
  iterate 2 refine vp ?_
  refine vn ?_
  refine Wp.block ?_
  refine lp [some 0, some 1] (fun x : Int × (List Str) × (List (Str × Bool)) => { ch := [(3, .sl 0 0 x.2.1.length), (4, .mp 1), (13, aL cApiContact r_0.Contacts), (14, .int .i64 (r_0.Contacts.length : Int)), (15, .int .i64 p13006), (23, aL cS l13021), (24, .int .i64 (l13021.length : Int)), (25, .int .i64 x.1)], hp := [.arr 1 x.2.1.length (rw (x.2.1.map cS)), .map (mAV AV.str cB x.2.2)], base := 0, n := 42, cond := True, gl := G0 }) (fun m x => graph_Nodes_o0_L2 p13006 (graph_Nodes_o0_L1 n r_0 rec_n1) l13021 m x.1 x.2.1 x.2.2 = some r) n (0, l13007, p13008) h ?_
  rintro rec_n2 ⟨p13024, l13025, p13026⟩ h
  dsimp only [graph_Nodes_o0_L2] at h
  try dsimp only
  refine rs0 ?_
  refine vp ?_
  refine vn ?_
  refine Wp.seq ?_
  refine sD h F (fun F h => ?_) fun F h => ?_
  refine cF ?_
  refine Wp.exit ?_
  refine sh ?_
  refine rg0 ?_
  iterate 2 refine vp ?_
  refine vn ?_
  exact nx [some 0, some 1] ((IntKind.i64.wrap (p13006 + 1)), l13025, p13026) h
  refine cT ?_
  refine Wp.skip ?_
  refine sh ?_
  refine Wp.seq ?_
  refine Wp.block ?_
  refine rs0 ?_
  refine eI h F fun x13029 F h => ?_
  iterate 3 refine vp ?_
  refine vn ?_
  refine rs0 ?_
  iterate 4 refine vp ?_
  refine vn ?_
  refine sB h F (fun F h => ?_) fun F h => ?_
  refine cF ?_
  refine Wp.skip ?_
  refine sh ?_
  refine rg0 ?_
  iterate 2 refine vp ?_
  refine vn ?_
  exact nx [some 0, some 1] ((IntKind.i64.wrap (p13024 + 1)), l13025, p13026) h
  refine cT ?_
  refine rs0 ?_
  iterate 3 refine vp ?_
  refine vn ?_
  refine rg0 ?_
  iterate 3 refine vp ?_
  refine gd h F fun F h => ?_
  refine vp ?_
  refine nm cS h F fun l13030 F h => ?_
  refine vp ?_
  refine vn ?_
  refine sh ?_
  refine rg0 ?_
  iterate 2 refine vp ?_
  refine vn ?_
  exact nx [some 2, some 1] ((IntKind.i64.wrap (p13024 + 1)), l13030, (mPut p13026 x13029 true)) h

theorem con_reduce_sorted (n : Nat) : ∀ {t0 : TreeTree} {r : TreeTree}, reduce_sorted n t0 = some r → Con Tryz.prog G0 41 [.agg [.int .i64 t0.Kind, .int .i64 t0.N, aL cTreeTree t0.Kids]] (.agg [.int .i64 r.Kind, .int .i64 r.N, aL cTreeTree r.Kids]) [] := by
  induction n with
  | zero => intro t0 r h; simp [reduce_sorted] at h
  | succ n Hslf_reduce_sorted =>
   intro t0 r h
   refine con_of (T := TT0) tt_ok Tryz.func41 (c := _) (by unfold Tryz.f41; rfl) Tryz.ntmps41 (rs := [.cell 2 30]) (by rw [Tryz.results41]) (by unfold Tryz.f41; rfl) (by simp) ?_
   simp only [argsCh]
   have F := True.intro
   dsimp only [reduce_sorted] at h
   refine rs0 ?_
   iterate 2 refine vp ?_
   refine vn ?_
   refine rs0 ?_
   iterate 7 refine vp ?_
   refine vn ?_
   refine jn (fun p14977 : List TreeTree => { ch := [(2, .hptr 0 0 0), (3, .hptr 1 0 0)], hp := [.var [.int .i64 0, .int .i64 0, .nilsl], .var [.int .i64 t0.Kind, .int .i64 t0.N, .sl 2 0 p14977.length], .arr 3 p14977.length (rw (p14977.map cTreeTree))], base := 0, n := 33, cond := True, gl := G0 }) (fun x => reduce_sorted_J1 t0 x = some r) ?_ ?_
   clear h
   rintro p14977 h
   dsimp only [reduce_sorted_J1] at h
   try dsimp only
   refine Wp.seq ?_
   refine rs0 ?_
   iterate 3 refine vp ?_
   refine vn ?_
   refine sB h F (fun F h => ?_) fun F h => ?_
   refine cF ?_
   refine Wp.skip ?_
   refine sh ?_
   refine rs0 ?_
   iterate 2 refine vp ?_
   refine vn ?_
   cases h
   exact Wp.ret en0
   refine cT ?_
   refine rg0 ?_
   iterate 2 refine vp ?_
   cases h
   refine rs0 ?_
   iterate 4 refine vp ?_
   refine vn ?_
   refine Wp.block ?_
   refine lp [some 1, some 2, none] (fun x : Int × (List TreeTree) => { ch := [(2, .hptr 0 0 0), (3, .hptr 1 0 0), (12, aL cTreeTree t0.Kids), (13, .int .i64 (t0.Kids.length : Int)), (14, .int .i64 x.1)], hp := [.var [.int .i64 0, .int .i64 0, .nilsl], .var [.int .i64 t0.Kind, .int .i64 t0.N, .sl 2 0 x.2.length], .arr 3 x.2.length (rw (x.2.map cTreeTree))], base := 0, n := 33, cond := True, gl := G0 }) (fun m x => reduce_sorted_L2 t0 (reduce_sorted n) m x.1 x.2 = some r) n (0, []) h ?_
   rintro rec_n2 ⟨p14982, p14983⟩ h
   dsimp only [reduce_sorted_L2] at h
   try dsimp only
   refine rs0 ?_
   refine vp ?_
   refine vn ?_
   refine Wp.seq ?_
   refine sD h F (fun F h => ?_) fun F h => ?_
   refine cF ?_
   refine Wp.exit ?_
   exact nx [some 0, some 1, some 2] p14983 h
   refine cT ?_
   refine Wp.skip ?_
   refine sh ?_
   refine Wp.seq ?_
   refine Wp.block ?_
   refine rs0 ?_
   refine eI h F fun x14988 F h => ?_
   iterate 4 refine vp ?_
   refine vn ?_
   refine dw1 (fun d => Nat.beq d 23 || Nat.beq d 1023) [1, 2, 3] ?_
   refine du 3 ?_
   obtain ⟨r14990, hr14989, h⟩ := obind h
   refine dc (Hslf_reduce_sorted hr14989) ?_
   refine du 1 ?_
   refine gd h F fun F h => ?_
   refine db ?_
   refine nm cTreeTree h F fun l14991 F h => ?_
   refine du 1 ?_
   refine db ?_
   refine dn ?_
   refine sh ?_
   refine rg0 ?_
   iterate 2 refine vp ?_
   refine vn ?_
   exact nx [some 0, some 1, some 4] ((IntKind.i64.wrap (p14982 + 1)), l14991) h

theorem con_reduce_join {n : Nat} {kind0 : Int} {a1 : TreeTree} {b2 : TreeTree} {r : TreeTree} (h : reduce_join n kind0 a1 b2 = some r) : Con Tryz.prog G0 67 [.int .i64 kind0, .agg [.int .i64 a1.Kind, .int .i64 a1.N, aL cTreeTree a1.Kids], .agg [.int .i64 b2.Kind, .int .i64 b2.N, aL cTreeTree b2.Kids]] (.agg [.int .i64 r.Kind, .int .i64 r.N, aL cTreeTree r.Kids]) [] := by
  refine con_of (T := TT0) tt_ok Tryz.func67 (c := _) (by unfold Tryz.f67; rfl) Tryz.ntmps67 (rs := [.cell 6 30]) (by rw [Tryz.results67]) (by unfold Tryz.f67; rfl) (by simp) ?_
  simp only [argsCh]
  have F := True.intro
  dsimp only [reduce_join] at h
  refine rs0 ?_
  iterate 3 refine vp ?_
  refine vn ?_
  refine rs0 ?_
  iterate 4 refine vp ?_
  refine vn ?_
  refine Wp.seq ?_
  refine rs0 ?_
  iterate 3 refine vp ?_
  refine nl cTreeTree h F fun l14663 m F h => ?_
  try simp only [m]
  clear m
  iterate 2 refine vp ?_
  refine vn ?_
  refine Wp.block ?_
  refine lp [some 2, some 3, none] (fun x : Int × (List TreeTree) => { ch := [(0, .int .i64 kind0), (6, .hptr 0 0 0), (7, .hptr 1 0 0), (14, aL cTreeTree l14663), (15, .int .i64 (l14663.length : Int)), (16, .int .i64 x.1)], hp := [.var [.int .i64 0, .int .i64 0, .nilsl], .var [.int .i64 kind0, .int .i64 0, .sl 2 0 x.2.length], .arr 3 x.2.length (rw (x.2.map cTreeTree))], base := 0, n := 38, cond := True, gl := G0 }) (fun m x => reduce_join_L1 kind0 l14663 m x.1 x.2 = some r) n (0, []) h ?_
  rintro rec_n1 ⟨p14666, p14667⟩ h
  dsimp only [reduce_join_L1] at h
  try dsimp only
  refine rs0 ?_
  refine vp ?_
  refine vn ?_
  refine Wp.seq ?_
  refine sD h F (fun F h => ?_) fun F h => ?_
  refine cF ?_
  refine Wp.exit ?_
  refine sh ?_
  refine rs0 ?_
  iterate 2 refine vp ?_
  refine vn ?_
  cases h
  exact Wp.ret en0
  refine cT ?_
  refine Wp.skip ?_
  refine sh ?_
  refine Wp.seq ?_
  refine Wp.block ?_
  refine rs0 ?_
  refine eI h F fun x14671 F h => ?_
  iterate 4 refine vp ?_
  refine vn ?_
  refine rs0 ?_
  iterate 4 refine vp ?_
  refine vn ?_
  refine sB h F (fun F h => ?_) fun F h => ?_
  refine cF ?_
  refine rg (fun d => Nat.beq d 34) ?_
  iterate 4 refine vp ?_
  refine gd h F fun F h => ?_
  refine vp ?_
  refine nm cTreeTree h F fun l14673 F h => ?_
  iterate 2 refine vp ?_
  refine vn ?_
  refine sh ?_
  refine rg0 ?_
  iterate 2 refine vp ?_
  refine vn ?_
  exact nx [some 0, some 1, some 4] ((IntKind.i64.wrap (p14666 + 1)), l14673) h
  refine cT ?_
  refine rg (fun d => Nat.beq d 28) ?_
  iterate 4 refine vp ?_
  refine gd h F fun F h => ?_
  refine vp ?_
  refine nm cTreeTree h F fun l14672 F h => ?_
  iterate 2 refine vp ?_
  refine vn ?_
  refine sh ?_
  refine rg0 ?_
  iterate 2 refine vp ?_
  refine vn ?_
  exact nx [some 0, some 1, some 4] ((IntKind.i64.wrap (p14666 + 1)), l14672) h

theorem con_law14_Of (n : Nat) : ∀ {t0 : TreeTree} {r : Ref14Tree}, law14_Of n t0 = some r → Con Tryz.prog G0 13 [.agg [.int .i64 t0.Kind, .int .i64 t0.N, aL cTreeTree t0.Kids]] (.agg [.int .i64 r.Kind, .int .i64 r.N, aL cRef14Tree r.Kids]) [] := by
  induction n with
  | zero => intro t0 r h; simp [law14_Of] at h
  | succ n Hslf_law14_Of =>
   intro t0 r h
   refine con_of (T := TT0) tt_ok Tryz.func13 (c := _) (by unfold Tryz.f13; rfl) Tryz.ntmps13 (rs := [.cell 2 36]) (by rw [Tryz.results13]) (by unfold Tryz.f13; rfl) (by simp) ?_
   simp only [argsCh]
   have F := True.intro
   dsimp only [law14_Of] at h
   refine rs0 ?_
   iterate 2 refine vp ?_
   refine vn ?_
   refine rs0 ?_
   iterate 7 refine vp ?_
   refine vn ?_
   refine Wp.seq ?_
   refine rs0 ?_
   iterate 4 refine vp ?_
   refine vn ?_
   refine Wp.block ?_
   refine lp [some 1, some 2, none] (fun x : Int × (List Ref14Tree) => { ch := [(2, .hptr 0 0 0), (3, .hptr 1 0 0), (12, aL cTreeTree t0.Kids), (13, .int .i64 (t0.Kids.length : Int)), (14, .int .i64 x.1)], hp := [.var [.int .i64 0, .int .i64 0, .nilsl], .var [.int .i64 t0.Kind, .int .i64 t0.N, .sl 2 0 x.2.length], .arr 3 x.2.length (rw (x.2.map cRef14Tree))], base := 0, n := 27, cond := True, gl := G0 }) (fun m x => law14_Of_L1 t0 (law14_Of n) m x.1 x.2 = some r) n (0, []) h ?_
   rintro rec_n1 ⟨p15919, p15920⟩ h
   dsimp only [law14_Of_L1] at h
   try dsimp only
   refine rs0 ?_
   refine vp ?_
   refine vn ?_
   refine Wp.seq ?_
   refine sD h F (fun F h => ?_) fun F h => ?_
   refine cF ?_
   refine Wp.exit ?_
   refine sh ?_
   refine rs0 ?_
   iterate 2 refine vp ?_
   refine vn ?_
   cases h
   exact Wp.ret en0
   refine cT ?_
   refine Wp.skip ?_
   refine sh ?_
   refine Wp.seq ?_
   refine Wp.block ?_
   refine rs0 ?_
   refine eI h F fun x15925 F h => ?_
   iterate 4 refine vp ?_
   refine vn ?_
   refine dw1 (fun d => Nat.beq d 23 || Nat.beq d 1023) [1, 2, 3] ?_
   refine du 3 ?_
   obtain ⟨r15927, hr15926, h⟩ := obind h
   refine dc (Hslf_law14_Of hr15926) ?_
   refine du 1 ?_
   refine gd h F fun F h => ?_
   refine db ?_
   refine nm cRef14Tree h F fun l15928 F h => ?_
   refine du 1 ?_
   refine db ?_
   refine dn ?_
   refine sh ?_
   refine rg0 ?_
   iterate 2 refine vp ?_
   refine vn ?_
   exact nx [some 0, some 1, some 4] ((IntKind.i64.wrap (p15919 + 1)), l15928) h

theorem con_ref17_slotOf {n : Nat} {r_0 : ApiRung} {i_1 : Int} {slot2 : Int} {r : Int} (h : ref17_slotOf n r_0 i_1 slot2 = some r) : Con Tryz.prog G0 117 [.agg (cApiRung r_0), .int .i64 i_1, .int .i64 slot2] (.int .i64 r) [] := by
  refine con_of (T := TT0) tt_ok Tryz.func117 (c := _) (by unfold Tryz.f117; rfl) Tryz.ntmps117 (rs := [.tmp 6]) (by rw [Tryz.results117]) (by unfold Tryz.f117; rfl) (by simp) ?_
  simp only [argsCh]
  have F := True.intro
  dsimp only [ref17_slotOf] at h
  refine rs0 ?_
  iterate 2 refine vp ?_
  refine vn ?_
  refine rs0 ?_
  iterate 2 refine vp ?_
  refine vn ?_
  refine Wp.seq ?_
  refine rs0 ?_
  refine vp ?_
  refine vn ?_
  refine Wp.block ?_
  refine lp [some 0] (fun x : Int × Int => { ch := [(1, .int .i64 i_1), (3, .hptr 0 0 0), (7, .int .i64 x.1), (8, .int .i64 x.2)], hp := [.var [.str r_0.Label, aL cApiContact r_0.Contacts, aL cApiCoil r_0.Coils, .str r_0.Jump]], base := 0, n := 25, cond := True, gl := G0 }) (fun m x => ref17_slotOf_L1 r_0 i_1 m x.1 x.2 = some r) n (slot2, 0) h ?_
  rintro rec_n1 ⟨slot16377, p16378⟩ h
  dsimp only [ref17_slotOf_L1] at h
  try dsimp only
  refine Wp.seq ?_
  refine rs0 ?_
  iterate 3 refine vp ?_
  refine vn ?_
  refine sD h F (fun F h => ?_) fun F h => ?_
  refine cF ?_
  refine Wp.exit ?_
  refine sh ?_
  refine rs0 ?_
  iterate 2 refine vp ?_
  refine vn ?_
  cases h
  exact Wp.ret en0
  refine cT ?_
  refine Wp.skip ?_
  refine sh ?_
  refine Wp.seq ?_
  refine Wp.block ?_
  refine rs0 ?_
  iterate 3 refine vp ?_
  refine eI h F fun x16380 F h => ?_
  iterate 4 refine vp ?_
  refine vn ?_
  refine sD h F (fun F h => ?_) fun F h => ?_
  refine cF ?_
  refine Wp.skip ?_
  refine sh ?_
  refine rg0 ?_
  iterate 3 refine vp ?_
  refine vn ?_
  exact nx [some 0] (slot16377, (IntKind.i64.wrap (p16378 + 1))) h
  refine cT ?_
  refine rg0 ?_
  iterate 3 refine vp ?_
  refine vn ?_
  refine sh ?_
  refine rg0 ?_
  iterate 3 refine vp ?_
  refine vn ?_
  exact nx [some 0] ((IntKind.i64.wrap (slot16377 + 1)), (IntKind.i64.wrap (p16378 + 1))) h

theorem con_codegen_maker_put_v1 {n : Nat} {x_1 : ApiIns} {b0 : Str} {b0_1 : List ApiContact} {b0_2 : List ApiCoil} {b0_3 : Str} {l1 : List Int} {l2 : List ApiIns} {r : (List ApiIns)} (h : codegen_maker_put_v1 n x_1 b0 b0_1 b0_2 b0_3 l1 l2 = some r) : ConH Tryz.prog G0 79 [.hptr 0 0 0, .agg (cApiIns x_1)] [.var [.str b0, aL cApiContact b0_1, aL cApiCoil b0_2, .str b0_3, .sl 1 0 l1.length, .sl 2 0 l2.length], .arr 1 l1.length (rw (l1.map (cI .i64))), .arr 4 l2.length (rw (l2.map cApiIns))] (.tup []) [.var [.str b0, aL cApiContact b0_1, aL cApiCoil b0_2, .str b0_3, .sl 1 0 l1.length, .sl 3 0 r.length], .arr 1 l1.length (rw (l1.map (cI .i64))), .dead, .arr 4 r.length (rw (r.map cApiIns))] := by
  refine conH_of (T := TT0) tt_ok Tryz.func79 (c := _) (by unfold Tryz.f79; rfl) Tryz.ntmps79 (rs := []) (by rw [Tryz.results79]) (by unfold Tryz.f79; rfl) (by simp) (k := 3) rfl rfl ?_
  try simp only [argsCh]
  have F := True.intro
  dsimp only [codegen_maker_put_v1] at h
  refine rs0 ?_
  refine vp ?_
  refine vn ?_
  refine dw1 (fun d => Nat.beq d 11) [0, 1, 3] ?_
  refine du 7 ?_
  refine gd h F fun F h => ?_
  refine de ?_
  refine nm cApiIns h F fun l15278 F h => ?_
  refine du 2 ?_
  refine db ?_
  refine dn ?_
  cases h
  exact n2r (enH [some 0, some 1, some 2, some 4])

theorem con_printer_Check_1 {n : Nat} {x_0 : ApiRung} {b0 : ApiRung} {r : Bool} (h : printer_Check_1 n x_0 b0 = some r) : ConH Tryz.prog G0 122 [.agg (cApiRung x_0), .hptr 0 0 0] [.var [.str b0.Label, aL cApiContact b0.Contacts, aL cApiCoil b0.Coils, .str b0.Jump]] (.bool r) [.var [.str b0.Label, aL cApiContact b0.Contacts, aL cApiCoil b0.Coils, .str b0.Jump]] := by
  refine conH_of (T := TT0) tt_ok Tryz.func122 (c := _) (by unfold Tryz.f122; rfl) Tryz.ntmps122 (rs := [.tmp 3]) (by rw [Tryz.results122]) (by unfold Tryz.f122; rfl) (by simp) (k := 1) rfl rfl ?_
  try simp only [argsCh]
  have F := True.intro
  dsimp only [printer_Check_1] at h
  refine rs0 ?_
  iterate 2 refine vp ?_
  refine vn ?_
  refine rs0 ?_
  iterate 6 refine vp ?_
  refine vn ?_
  cases h
  exact Wp.ret (enH [some 0])

theorem con_printer_rung_1 {n : Nat} {x_0 : ApiRung} {b0 : ApiRung} {r : Bool} (h : printer_rung_1 n x_0 b0 = some r) : ConH Tryz.prog G0 153 [.agg (cApiRung x_0), .hptr 0 0 0] [.var [.str b0.Label, aL cApiContact b0.Contacts, aL cApiCoil b0.Coils, .str b0.Jump]] (.bool r) [.var [.str b0.Label, aL cApiContact b0.Contacts, aL cApiCoil b0.Coils, .str b0.Jump]] := by
  refine conH_of (T := TT0) tt_ok Tryz.func153 (c := _) (by unfold Tryz.f153; rfl) Tryz.ntmps153 (rs := [.tmp 3]) (by rw [Tryz.results153]) (by unfold Tryz.f153; rfl) (by simp) (k := 1) rfl rfl ?_
  try simp only [argsCh]
  have F := True.intro
  dsimp only [printer_rung_1] at h
  refine rs0 ?_
  iterate 2 refine vp ?_
  refine vn ?_
  refine rs0 ?_
  iterate 6 refine vp ?_
  refine vn ?_
  cases h
  exact Wp.ret (enH [some 0])

theorem con_codegen_sees {n : Nat} {c0 : ApiContact} {r : Bool} (h : codegen_sees n c0 = some r) : Con Tryz.prog G0 48 [.agg (cApiContact c0)] (.bool r) [] := by
  refine con_of (T := TT0) tt_ok Tryz.func48 (c := _) (by unfold Tryz.f48; rfl) Tryz.ntmps48 (rs := [.tmp 2]) (by rw [Tryz.results48]) (by unfold Tryz.f48; rfl) (by simp) ?_
  simp only [argsCh]
  have F := True.intro
  dsimp only [codegen_sees] at h
  refine rs0 ?_
  iterate 2 refine vp ?_
  refine vn ?_
  refine rs0 ?_
  iterate 4 refine vp ?_
  refine sB h F (fun F h => ?_) fun F h => ?_
  refine vg ?_
  refine vg ?_
  refine vg ?_
  iterate 2 refine vp ?_
  refine vn ?_
  cases h
  exact Wp.ret en0
  refine vs ?_
  refine vs ?_
  refine vs ?_
  iterate 2 refine vp ?_
  refine vn ?_
  cases h
  exact Wp.ret en0

theorem con_graph_Incoming_1 {n : Nat} {c0 : ApiContact} {b0 : Str} {r : Bool} (h : graph_Incoming_1 n c0 b0 = some r) : ConH Tryz.prog G0 134 [.agg (cApiContact c0), .hptr 0 0 0] [.var [.str b0]] (.bool r) [.var [.str b0]] := by
  refine conH_of (T := TT0) tt_ok Tryz.func134 (c := _) (by unfold Tryz.f134; rfl) Tryz.ntmps134 (rs := [.tmp 3]) (by rw [Tryz.results134]) (by unfold Tryz.f134; rfl) (by simp) (k := 1) rfl rfl ?_
  try simp only [argsCh]
  have F := True.intro
  dsimp only [graph_Incoming_1] at h
  refine rs0 ?_
  iterate 2 refine vp ?_
  refine vn ?_
  refine rs0 ?_
  iterate 5 refine vp ?_
  refine vn ?_
  cases h
  exact Wp.ret (enH [some 0])

theorem con_printer_sizes {n : Nat} {l0 : ApiLadder} {r : ApiSize} (h : printer_sizes n l0 = some r) : Con Tryz.prog G0 118 [.agg (cApiLadder l0)] (.agg (cApiSize r)) [] := by
  refine con_of (T := TT0) tt_ok Tryz.func118 (c := _) (by unfold Tryz.f118; rfl) Tryz.ntmps118 (rs := [.cell 2 61]) (by rw [Tryz.results118]) (by unfold Tryz.f118; rfl) (by simp) ?_
  simp only [argsCh]
  have F := True.intro
  dsimp only [printer_sizes] at h
  refine rs0 ?_
  iterate 2 refine vp ?_
  refine vn ?_
  refine rs0 ?_
  iterate 8 refine vp ?_
  refine vn ?_
  cases h
  exact Wp.ret en0

end Go.Proofs.YtaebdeidbibfkaaGreatDoor
