/- Contracts: models of functions are right. No law is proved here. -/
import Derived.Test.YtaebdeidbibfkaaDoorOGMod
import Derived.Test.YtaebdeidbibfkaaDoorOTav
import Derived.Test.YtaebdeidbibfkaaDoorOSo
import Derived.Test.YtaebdeidbibfkaaDoorOSh
namespace Go.Proofs.YtaebdeidbibfkaaDoor
open Go.Av Go.G
attribute [-simp] Int.natCast_tdiv_eq_ediv
attribute [local simp] runf guardA opf St.ev Go.Av.look St.setd constAV constAV0 opBin opLen intBin St.need lookT TT0 tab resA resOne resAll blt_dec ble_dec beq_dec isPure
attribute [local simp] opMakeSlice opCopy opIndexAddr opLoad opStore St.mem St.rows opUn calleeA toArgs toArg toArg0 toArgs0 shift shift0 shift1 splice cellsOf isFree ofCells TS.isAgg isCell strBin opConvert
attribute [local simp] opSlice3 opClear fz_clear opBuildSlice fillA opAppend eqC eqA cksB ckB St.newBox runI valKind withinB readsHp refsD refs noSl opFieldAddr opBuild opMax opMin placeOf Op.operands Call.operands opIndex opExtract opSlice opField partA
attribute [local simp] loA hiA lenA opMakeMap opLookup opMapUpdate keyOk findA_int findA_str findA_bool putA_strB putA_strI putA_strS putA_intB putA_intI putA_intS putA_boolI putA_boolB byteRow_rwN bytesOf_rwN opBytesStr mAV_length mAV_nil cA1 cA2 cA3 cA4 opNilCheck opMakeFunc opRange
attribute [local simp] aL cI cB cS cL rw_map fz_rw fz_const dropRow_rw fz_append fz_set fz_copy fz_rows rowLen_rw rowsLen_nil rowsLen_cons rowsLen_append rowsLen_map rowsLen_dm rowsLen_tm rowsLen_take rowsLen_drop rowsLen_replicate take_map_len take_map_le drop_map_len take_drop_len chunks isScalar isScalar0
attribute [local simp] putBack putAt objMap mapC mapA mapT map0 bid rid memB passed closedB argsH argH argH0 argsH0 objIds ids0 idsC isLocT isLocA isLocC isLoc0 LocObj
attribute [local congr] bind_congr1 map_congr1 cond_congr1
attribute [local simp] cApiAddr cApiContact cApiCoil cApiRung cReducePair cReduceEdge cTreeTree_eq TreeTree_Kind_mk TreeTree_N_mk TreeTree_Kids_mk eta_TreeTree cRef14Tree_eq Ref14Tree_Kind_mk Ref14Tree_N_mk Ref14Tree_Kids_mk eta_Ref14Tree
variable [Drawn]
set_option maxHeartbeats 4000000
set_option linter.unusedSectionVars false
set_option maxRecDepth 20000
set_option linter.unusedSimpArgs false
set_option linter.unusedVariables false

theorem con_law15_named (n : Nat) : ∀ {t0 : Ref14Tree} {at1 : List Int} {r : Ref14Tree}, law15_named n t0 at1 = some r → Con Tryd.prog G0 12 [.agg [.int .i64 t0.Kind, .int .i64 t0.N, aL cRef14Tree t0.Kids], aL (cI .i64) at1] (.agg [.int .i64 r.Kind, .int .i64 r.N, aL cRef14Tree r.Kids]) [] := by
  induction n with
  | zero => intro t0 at1 r h; simp [law15_named] at h
  | succ n Hslf_law15_named =>
   intro t0 at1 r h
   refine con_of (T := TT0) tt_ok Tryd.func12 (c := _) (by unfold Tryd.f12; rfl) Tryd.ntmps12 (rs := [.cell 4 43]) (by rw [Tryd.results12]) (by unfold Tryd.f12; rfl) (by simp) ?_
   simp only [argsCh]
   have F := True.intro
   dsimp only [law15_named] at h
   refine rs0 ?_
   iterate 2 refine vp ?_
   refine vn ?_
   refine rs0 ?_
   iterate 5 refine vp ?_
   refine vn ?_
   refine jn (fun x14011 : Int => { ch := [(1, aL (cI .i64) at1), (2, .hptr 0 0 0), (4, .hptr 1 0 0), (5, .hptr 2 0 0)], hp := [.var [.int .i64 t0.Kind, .int .i64 t0.N, aL cRef14Tree t0.Kids], .var [.int .i64 0, .int .i64 0, .nilsl], .var [.int .i64 t0.Kind, .int .i64 x14011, .nilsl]], base := 0, n := 49, cond := True, gl := G0 }) (fun x => law15_named_J1 n t0 at1 (law15_named n) x = some r) ?_ ?_
   clear h
   rintro x14011 h
   dsimp only [law15_named_J1] at h
   try dsimp only
   refine Wp.seq ?_
   refine rs0 ?_
   iterate 4 refine vp ?_
   refine vn ?_
   refine Wp.block ?_
   refine lp [some 1, some 2, none] (fun x : Int × (List Ref14Tree) => { ch := [(1, aL (cI .i64) at1), (4, .hptr 0 0 0), (5, .hptr 1 0 0), (33, aL cRef14Tree t0.Kids), (34, .int .i64 (t0.Kids.length : Int)), (35, .int .i64 x.1)], hp := [.var [.int .i64 0, .int .i64 0, .nilsl], .var [.int .i64 t0.Kind, .int .i64 x14011, .sl 2 0 x.2.length], .arr 3 x.2.length (rw (x.2.map cRef14Tree))], base := 0, n := 49, cond := True, gl := G0 }) (fun m x => law15_named_L2 t0 at1 x14011 (law15_named n) m x.1 x.2 = some r) n (0, []) h ?_
   rintro rec_n2 ⟨p14016, p14017⟩ h
   dsimp only [law15_named_L2] at h
   try dsimp only
   refine rs0 ?_
   refine vp ?_
   refine vn ?_
   refine Wp.seq ?_
   refine sD h F (fun F h => ?_) fun F h => ?_
   refine cF ?_
   refine Wp.exit ?_
   refine sh ?_
   refine rs0 ?_
   iterate 2 refine vp ?_
   refine vn ?_
   cases h
   exact Wp.ret en0
   refine cT ?_
   refine Wp.skip ?_
   refine sh ?_
   refine Wp.seq ?_
   refine Wp.block ?_
   refine rs0 ?_
   refine eI h F fun x14022 F h => ?_
   iterate 4 refine vp ?_
   refine vn ?_
   refine dw1 (fun d => Nat.beq d 45 || Nat.beq d 1045) [1, 2, 3] ?_
   refine du 4 ?_
   obtain ⟨r14024, hr14023, h⟩ := obind h
   refine dc (Hslf_law15_named hr14023) ?_
   refine du 1 ?_
   refine gd h F fun F h => ?_
   refine db ?_
   refine nm cRef14Tree h F fun l14025 F h => ?_
   refine du 1 ?_
   refine db ?_
   refine dn ?_
   refine sh ?_
   refine rg0 ?_
   iterate 2 refine vp ?_
   refine vn ?_
   exact nx [some 0, some 1, some 4] ((IntKind.i64.wrap (p14016 + 1)), l14025) h
   refine rs0 ?_
   iterate 4 refine vp ?_
   refine sB h F (fun F h => ?_) fun F h => ?_
   refine vs ?_
   refine vs ?_
   refine vs ?_
   iterate 2 refine vp ?_
   refine vs ?_
   refine vs ?_
   refine vs ?_
   refine vs ?_
   refine vs ?_
   refine vp ?_
   refine vn ?_
   refine cF ?_
   refine Wp.skip ?_
   exact nx [some 0, some 1, some 2] 0 h
   refine vg ?_
   refine vg ?_
   refine vg ?_
   iterate 2 refine vp ?_
   refine sD h F (fun F h => ?_) fun F h => ?_
   refine vs ?_
   refine vs ?_
   refine vs ?_
   refine vs ?_
   refine vs ?_
   refine vp ?_
   refine vn ?_
   refine cF ?_
   refine Wp.skip ?_
   exact nx [some 0, some 1, some 2] 0 h
   refine vg ?_
   refine vg ?_
   refine vg ?_
   refine vg ?_
   refine vg ?_
   refine vp ?_
   refine vn ?_
   refine sD h F (fun F h => ?_) fun F h => ?_
   refine cF ?_
   refine Wp.skip ?_
   exact nx [some 0, some 1, some 2] 0 h
   refine cT ?_
   refine rg0 ?_
   iterate 3 refine vp ?_
   refine eI h F fun x14026 F h => ?_
   iterate 4 refine vp ?_
   refine vn ?_
   exact nx [some 0, some 1, some 2] x14026 h

theorem con_reduce_join {n : Nat} {kind0 : Int} {a1 : TreeTree} {b2 : TreeTree} {r : TreeTree} (h : reduce_join n kind0 a1 b2 = some r) : Con Tryd.prog G0 51 [.int .i64 kind0, .agg [.int .i64 a1.Kind, .int .i64 a1.N, aL cTreeTree a1.Kids], .agg [.int .i64 b2.Kind, .int .i64 b2.N, aL cTreeTree b2.Kids]] (.agg [.int .i64 r.Kind, .int .i64 r.N, aL cTreeTree r.Kids]) [] := by
  refine con_of (T := TT0) tt_ok Tryd.func51 (c := _) (by unfold Tryd.f51; rfl) Tryd.ntmps51 (rs := [.cell 6 31]) (by rw [Tryd.results51]) (by unfold Tryd.f51; rfl) (by simp) ?_
  simp only [argsCh]
  have F := True.intro
  dsimp only [reduce_join] at h
  refine rs0 ?_
  iterate 3 refine vp ?_
  refine vn ?_
  refine rs0 ?_
  iterate 4 refine vp ?_
  refine vn ?_
  refine Wp.seq ?_
  refine rs0 ?_
  iterate 3 refine vp ?_
  refine nl cTreeTree h F fun l13374 m F h => ?_
  try simp only [m]
  clear m
  iterate 2 refine vp ?_
  refine vn ?_
  refine Wp.block ?_
  refine lp [some 2, some 3, none] (fun x : Int × (List TreeTree) => { ch := [(0, .int .i64 kind0), (6, .hptr 0 0 0), (7, .hptr 1 0 0), (14, aL cTreeTree l13374), (15, .int .i64 (l13374.length : Int)), (16, .int .i64 x.1)], hp := [.var [.int .i64 0, .int .i64 0, .nilsl], .var [.int .i64 kind0, .int .i64 0, .sl 2 0 x.2.length], .arr 3 x.2.length (rw (x.2.map cTreeTree))], base := 0, n := 38, cond := True, gl := G0 }) (fun m x => reduce_join_L1 kind0 l13374 m x.1 x.2 = some r) n (0, []) h ?_
  rintro rec_n1 ⟨p13377, p13378⟩ h
  dsimp only [reduce_join_L1] at h
  try dsimp only
  refine rs0 ?_
  refine vp ?_
  refine vn ?_
  refine Wp.seq ?_
  refine sD h F (fun F h => ?_) fun F h => ?_
  refine cF ?_
  refine Wp.exit ?_
  refine sh ?_
  refine rs0 ?_
  iterate 2 refine vp ?_
  refine vn ?_
  cases h
  exact Wp.ret en0
  refine cT ?_
  refine Wp.skip ?_
  refine sh ?_
  refine Wp.seq ?_
  refine Wp.block ?_
  refine rs0 ?_
  refine eI h F fun x13382 F h => ?_
  iterate 4 refine vp ?_
  refine vn ?_
  refine rs0 ?_
  iterate 4 refine vp ?_
  refine vn ?_
  refine sB h F (fun F h => ?_) fun F h => ?_
  refine cF ?_
  refine rg (fun d => Nat.beq d 34) ?_
  iterate 4 refine vp ?_
  refine gd h F fun F h => ?_
  refine vp ?_
  refine nm cTreeTree h F fun l13384 F h => ?_
  iterate 2 refine vp ?_
  refine vn ?_
  refine sh ?_
  refine rg0 ?_
  iterate 2 refine vp ?_
  refine vn ?_
  exact nx [some 0, some 1, some 4] ((IntKind.i64.wrap (p13377 + 1)), l13384) h
  refine cT ?_
  refine rg (fun d => Nat.beq d 28) ?_
  iterate 4 refine vp ?_
  refine gd h F fun F h => ?_
  refine vp ?_
  refine nm cTreeTree h F fun l13383 F h => ?_
  iterate 2 refine vp ?_
  refine vn ?_
  refine sh ?_
  refine rg0 ?_
  iterate 2 refine vp ?_
  refine vn ?_
  exact nx [some 0, some 1, some 4] ((IntKind.i64.wrap (p13377 + 1)), l13383) h

theorem con_law14_Of (n : Nat) : ∀ {t0 : TreeTree} {r : Ref14Tree}, law14_Of n t0 = some r → Con Tryd.prog G0 13 [.agg [.int .i64 t0.Kind, .int .i64 t0.N, aL cTreeTree t0.Kids]] (.agg [.int .i64 r.Kind, .int .i64 r.N, aL cRef14Tree r.Kids]) [] := by
  induction n with
  | zero => intro t0 r h; simp [law14_Of] at h
  | succ n Hslf_law14_Of =>
   intro t0 r h
   refine con_of (T := TT0) tt_ok Tryd.func13 (c := _) (by unfold Tryd.f13; rfl) Tryd.ntmps13 (rs := [.cell 2 43]) (by rw [Tryd.results13]) (by unfold Tryd.f13; rfl) (by simp) ?_
   simp only [argsCh]
   have F := True.intro
   dsimp only [law14_Of] at h
   refine rs0 ?_
   iterate 2 refine vp ?_
   refine vn ?_
   refine rs0 ?_
   iterate 7 refine vp ?_
   refine vn ?_
   refine Wp.seq ?_
   refine rs0 ?_
   iterate 4 refine vp ?_
   refine vn ?_
   refine Wp.block ?_
   refine lp [some 1, some 2, none] (fun x : Int × (List Ref14Tree) => { ch := [(2, .hptr 0 0 0), (3, .hptr 1 0 0), (12, aL cTreeTree t0.Kids), (13, .int .i64 (t0.Kids.length : Int)), (14, .int .i64 x.1)], hp := [.var [.int .i64 0, .int .i64 0, .nilsl], .var [.int .i64 t0.Kind, .int .i64 t0.N, .sl 2 0 x.2.length], .arr 3 x.2.length (rw (x.2.map cRef14Tree))], base := 0, n := 27, cond := True, gl := G0 }) (fun m x => law14_Of_L1 t0 (law14_Of n) m x.1 x.2 = some r) n (0, []) h ?_
   rintro rec_n1 ⟨p13988, p13989⟩ h
   dsimp only [law14_Of_L1] at h
   try dsimp only
   refine rs0 ?_
   refine vp ?_
   refine vn ?_
   refine Wp.seq ?_
   refine sD h F (fun F h => ?_) fun F h => ?_
   refine cF ?_
   refine Wp.exit ?_
   refine sh ?_
   refine rs0 ?_
   iterate 2 refine vp ?_
   refine vn ?_
   cases h
   exact Wp.ret en0
   refine cT ?_
   refine Wp.skip ?_
   refine sh ?_
   refine Wp.seq ?_
   refine Wp.block ?_
   refine rs0 ?_
   refine eI h F fun x13994 F h => ?_
   iterate 4 refine vp ?_
   refine vn ?_
   refine dw1 (fun d => Nat.beq d 23 || Nat.beq d 1023) [1, 2, 3] ?_
   refine du 3 ?_
   obtain ⟨r13996, hr13995, h⟩ := obind h
   refine dc (Hslf_law14_Of hr13995) ?_
   refine du 1 ?_
   refine gd h F fun F h => ?_
   refine db ?_
   refine nm cRef14Tree h F fun l13997 F h => ?_
   refine du 1 ?_
   refine db ?_
   refine dn ?_
   refine sh ?_
   refine rg0 ?_
   iterate 2 refine vp ?_
   refine vn ?_
   exact nx [some 0, some 1, some 4] ((IntKind.i64.wrap (p13988 + 1)), l13997) h

theorem con_law15_rung {n : Nat} {l0 : List Str} {r : ApiRung} (h : law15_rung n l0 = some r) : Con Tryd.prog G0 16 [aL cS l0] (.agg (cApiRung r)) [] := by
  refine con_of (T := TT0) tt_ok Tryd.func16 (c := _) (by unfold Tryd.f16; rfl) Tryd.ntmps16 (rs := [.cell 2 25]) (by rw [Tryd.results16]) (by unfold Tryd.f16; rfl) (by simp) ?_
  simp only [argsCh]
  have F := True.intro
  dsimp only [law15_rung] at h
  refine rs0 ?_
  refine vp ?_
  refine vn ?_
  refine rs0 ?_
  refine vp ?_
  refine vn ?_
  refine Wp.seq ?_
  refine rs0 ?_
  refine vp ?_
  refine vn ?_
  refine Wp.block ?_
  refine lp [some 0, some 1, none] (fun x : (List ApiContact) × Int => { ch := [(0, aL cS l0), (2, .hptr 0 0 0), (3, .hptr 1 0 0), (4, .int .i64 x.2)], hp := [.var [.str (⟨#[]⟩ : Str), .nilsl, .nilsl, .str (⟨#[]⟩ : Str)], .var [.str (⟨#[]⟩ : Str), .sl 2 0 x.1.length, .nilsl, .str (⟨#[]⟩ : Str)], .arr 5 x.1.length (rw (x.1.map cApiContact))], base := 0, n := 28, cond := True, gl := G0 }) (fun m x => law15_rung_L1 l0 m x.1 x.2 = some r) n ([], 0) h ?_
  rintro rec_n1 ⟨p9494, p9495⟩ h
  dsimp only [law15_rung_L1] at h
  try dsimp only
  refine Wp.seq ?_
  refine rs0 ?_
  iterate 5 refine vp ?_
  refine vn ?_
  refine sD h F (fun F h => ?_) fun F h => ?_
  refine cF ?_
  refine Wp.exit ?_
  refine sh ?_
  refine rs0 ?_
  iterate 2 refine vp ?_
  refine vn ?_
  cases h
  exact Wp.ret en0
  refine cT ?_
  refine Wp.skip ?_
  refine sh ?_
  refine Wp.seq ?_
  refine Wp.block ?_
  refine dw1 (fun d => Nat.beq d 25 || Nat.beq d 1025) [1, 2] ?_
  refine du 4 ?_
  refine eI h F fun x9499 F h => ?_
  refine du 5 ?_
  refine eI h F fun x9500 F h => ?_
  refine du 4 ?_
  refine gd h F fun F h => ?_
  refine db ?_
  refine nm cApiContact h F fun l9501 F h => ?_
  refine du 1 ?_
  refine db ?_
  refine dn ?_
  refine sh ?_
  refine rg0 ?_
  iterate 3 refine vp ?_
  refine vn ?_
  exact nx [some 0, some 1, some 3] (l9501, (IntKind.i64.wrap (p9495 + 2))) h

theorem con_graph_TopoSort_1_1 {n : Nat} {i_0 : Int} {m1 : List (Str × Bool)} {b2 : ApiRung} {r : Bool} (h : graph_TopoSort_1_1 n i_0 m1 b2 = some r) : ConH Tryd.prog G0 75 [.int .i64 i_0, .hptr 0 0 0, .hptr 2 0 0] [.var [.mp 1], .map (mAV AV.str cB m1), .var [.str b2.Label, aL cApiContact b2.Contacts, aL cApiCoil b2.Coils, .str b2.Jump]] (.bool r) [.var [.mp 1], .map (mAV AV.str cB m1), .var [.str b2.Label, aL cApiContact b2.Contacts, aL cApiCoil b2.Coils, .str b2.Jump]] := by
  refine conH_of (T := TT0) tt_ok Tryd.func75 (c := _) (by unfold Tryd.f75; rfl) Tryd.ntmps75 (rs := [.tmp 4]) (by rw [Tryd.results75]) (by unfold Tryd.f75; rfl) (by simp) (k := 3) rfl rfl ?_
  try simp only [argsCh]
  have F := True.intro
  dsimp only [graph_TopoSort_1_1] at h
  refine rs0 ?_
  refine vp ?_
  refine vn ?_
  refine dw (fun _ => false) [0, 1, 2] ?_
  refine du 4 ?_
  refine eI h F fun x11787 F h => ?_
  refine du 6 ?_
  refine dn ?_
  cases h
  exact Wp.ret (enH [some 0, some 1, some 2])

theorem con_graph_Outgoing_1 {n : Nat} {c0 : ApiContact} {b0 : Str} {r : Bool} (h : graph_Outgoing_1 n c0 b0 = some r) : ConH Tryd.prog G0 129 [.agg (cApiContact c0), .hptr 0 0 0] [.var [.str b0]] (.bool r) [.var [.str b0]] := by
  refine conH_of (T := TT0) tt_ok Tryd.func129 (c := _) (by unfold Tryd.f129; rfl) Tryd.ntmps129 (rs := [.tmp 3]) (by rw [Tryd.results129]) (by unfold Tryd.f129; rfl) (by simp) (k := 1) rfl rfl ?_
  try simp only [argsCh]
  have F := True.intro
  dsimp only [graph_Outgoing_1] at h
  refine rs0 ?_
  iterate 2 refine vp ?_
  refine vn ?_
  refine rs0 ?_
  iterate 5 refine vp ?_
  refine vn ?_
  cases h
  exact Wp.ret (enH [some 0])

end Go.Proofs.YtaebdeidbibfkaaDoor
