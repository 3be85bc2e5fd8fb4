/- Contracts: models of functions are right. No law is proved here. -/
import Derived.Test.YtaebdeidbibfkaaGreatDoorGMod
import Derived.Test.YtaebdeidbibfkaaGreatDoorTaz
import Derived.Test.YtaebdeidbibfkaaGreatDoorGC4
import Derived.Test.YtaebdeidbibfkaaGreatDoorGC5
import Derived.Test.YtaebdeidbibfkaaGreatDoorGC6
namespace Go.Proofs.YtaebdeidbibfkaaGreatDoor
open Go.Av Go.G
attribute [-simp] Int.natCast_tdiv_eq_ediv
attribute [local simp] runf guardA opf St.ev Go.Av.look St.setd constAV constAV0 opBin opLen intBin St.need lookT TT0 tab resA resOne resAll blt_dec ble_dec beq_dec isPure
attribute [local simp] opMakeSlice opCopy opIndexAddr opLoad opStore St.mem St.rows opUn calleeA toArgs toArg toArg0 toArgs0 shift shift0 shift1 splice cellsOf isFree ofCells TS.isAgg isCell strBin opConvert
attribute [local simp] opSlice3 opClear fz_clear opBuildSlice fillA opAppend eqC eqA cksB ckB St.newBox runI valKind withinB readsHp refsD refs noSl opFieldAddr opBuild opMax opMin placeOf Op.operands Call.operands opIndex opExtract opSlice opField partA
attribute [local simp] loA hiA lenA opMakeMap opLookup opMapUpdate keyOk findA_int findA_str findA_bool putA_strB putA_strI putA_strS putA_intB putA_intI putA_intS putA_boolI putA_boolB mAV_length mAV_nil cA1 cA2 cA3 cA4 opNilCheck opMakeFunc opRange
attribute [local simp] aL cI cB cS cL rw_map fz_rw fz_const dropRow_rw fz_append fz_set fz_copy fz_rows rowLen_rw rowsLen_nil rowsLen_cons rowsLen_append rowsLen_map rowsLen_dm rowsLen_tm rowsLen_take rowsLen_drop rowsLen_replicate take_map_len take_map_le drop_map_len take_drop_len chunks isScalar isScalar0
attribute [local simp] putBack putAt objMap mapC mapA mapT map0 bid rid memB passed closedB argsH argH argH0 argsH0 objIds ids0 idsC isLocT isLocA isLocC isLoc0 LocObj
attribute [local congr] bind_congr1 map_congr1 cond_congr1
attribute [local simp] cApiAddr cApiContact cApiCoil cApiRung cApiIns cApiLadder cApiSize cApiProgram cReducePair cReduceEdge cTreeTree_eq TreeTree_Kind_mk TreeTree_N_mk TreeTree_Kids_mk eta_TreeTree cRef14Tree_eq Ref14Tree_Kind_mk Ref14Tree_N_mk Ref14Tree_Kids_mk eta_Ref14Tree
set_option maxHeartbeats 4000000
set_option maxRecDepth 20000
set_option linter.unusedSimpArgs false
set_option linter.unusedVariables false

theorem con_ref17_lay_o0 {slf_ref17_lay : ApiRung → Ref14Tree → Int → Option ((List ApiIns))} (Hslf_ref17_lay : ∀ {_append0 : ApiRung} {a1 : Ref14Tree} {a2 : Int} {r : (List ApiIns)}, slf_ref17_lay _append0 a1 a2 = some r → Con Tryz.prog G0 51 [.agg (cApiRung _append0), .agg [.int .i64 a1.Kind, .int .i64 a1.N, aL cRef14Tree a1.Kids], .int .i64 a2] (aL cApiIns r) []) (n : Nat) : ∀ {_append0 : ApiRung} {a1 : Ref14Tree} {a2 : Int} {r : (List ApiIns)}, ref17_lay_o0 slf_ref17_lay n _append0 a1 a2 = some r → Con Tryz.prog G0 51 [.agg (cApiRung _append0), .agg [.int .i64 a1.Kind, .int .i64 a1.N, aL cRef14Tree a1.Kids], .int .i64 a2] (.sl 0 0 r.length) [.arr 4 r.length (rw (r.map cApiIns))] := by
  induction n with
  | zero => intro _append0 a1 a2 r h; simp [ref17_lay_o0] at h
  | succ n Hslf_ref17_lay_o0 =>
   intro _append0 a1 a2 r h
   refine con_of (T := TT0) tt_ok Tryz.func51 (c := _) (by unfold Tryz.f51; rfl) Tryz.ntmps51 (rs := [.tmp 6]) (by rw [Tryz.results51]) (by unfold Tryz.f51; rfl) (by simp) ?_
   simp only [argsCh]
   have F := True.intro
   dsimp only [ref17_lay_o0] at h
   refine rs0 ?_
   iterate 3 refine vp ?_
   refine vn ?_
   refine Wp.seq ?_
   refine rs0 ?_
   iterate 3 refine vp ?_
   refine vn ?_
   refine sB h F (fun F h => ?_) fun F h => ?_
   refine cF ?_
   refine Wp.skip ?_
   refine sh ?_
   refine dw (fun d => Nat.beq d 25) [0, 1] ?_
   refine du 3 ?_
   refine eN (m := 0) h F fun x16419 F h => ?_
   refine du 3 ?_
   obtain ⟨r16421, hr16420, h⟩ := obind h
   refine dx (Hslf_ref17_lay_o0 hr16420) ?_
   refine du 1 ?_
   refine dn ?_
   refine Wp.seq ?_
   refine rs0 ?_
   refine vp ?_
   refine vn ?_
   refine Wp.block ?_
   refine lp [some 0, some 1, some 2] (fun x : (List ApiIns) × Int => { ch := [(2, .int .i64 a2), (3, .hptr 0 0 0), (4, .hptr 1 0 0), (7, .sl 2 0 x.1.length), (8, .int .i64 x.2)], hp := [.var [.str _append0.Label, aL cApiContact _append0.Contacts, aL cApiCoil _append0.Coils, .str _append0.Jump], .var [.int .i64 a1.Kind, .int .i64 a1.N, aL cRef14Tree a1.Kids], .arr 4 x.1.length (rw (x.1.map cApiIns))], base := 0, n := 91, cond := True, gl := G0 }) (fun m x => ref17_lay_o0_L1 _append0 a1 a2 slf_ref17_lay m x.1 x.2 = some r) n (r16421, 1) h ?_
   rintro rec_n1 ⟨r16444, p16445⟩ h
   dsimp only [ref17_lay_o0_L1] at h
   try dsimp only
   refine Wp.seq ?_
   refine rs0 ?_
   iterate 5 refine vp ?_
   refine vn ?_
   refine sD h F (fun F h => ?_) fun F h => ?_
   refine cF ?_
   refine Wp.exit ?_
   refine sh ?_
   refine rs0 ?_
   iterate 2 refine vp ?_
   refine vn ?_
   cases h
   exact Wp.ret (enH [some 2])
   refine cT ?_
   refine Wp.skip ?_
   refine sh ?_
   refine Wp.seq ?_
   refine Wp.block ?_
   refine rs0 ?_
   iterate 3 refine vp ?_
   refine eI h F fun x16468 F h => ?_
   iterate 4 refine vp ?_
   refine vn ?_
   refine jn (fun _ : Unit => { ch := [(2, .int .i64 a2), (3, .hptr 0 0 0), (4, .hptr 1 0 0), (7, .sl 3 0 r16444.length), (8, .int .i64 p16445), (9, .hptr 2 0 0)], hp := [.var [.str _append0.Label, aL cApiContact _append0.Contacts, aL cApiCoil _append0.Coils, .str _append0.Jump], .var [.int .i64 a1.Kind, .int .i64 a1.N, aL cRef14Tree a1.Kids], .var [.int .i64 x16468.Kind, .int .i64 x16468.N, aL cRef14Tree x16468.Kids], .arr 4 r16444.length (rw (r16444.map cApiIns))], base := 0, n := 91, cond := True, gl := G0 }) (fun x => ref17_lay_o0_J2 _append0 a1 a2 r16444 p16445 (ref17_lay_o0_L1 _append0 a1 a2 slf_ref17_lay rec_n1) x16468 slf_ref17_lay = some r) ?_ ?_
   clear h
   rintro _ h
   dsimp only [ref17_lay_o0_J2] at h
   try dsimp only
   refine rs0 ?_
   iterate 3 refine vp ?_
   refine gd h F fun F h => ?_
   refine vp ?_
   refine nm cApiIns h F fun l16483 F h => ?_
   refine vp ?_
   refine vn ?_
   refine rs0 ?_
   iterate 4 refine vp ?_
   obtain ⟨r16485, hr16484, h⟩ := obind h
   refine vc (Hslf_ref17_lay hr16484) ?_
   refine gd h F fun F h => ?_
   refine vp ?_
   refine nm cApiIns h F fun l16486 F h => ?_
   refine vp ?_
   refine vn ?_
   refine rg0 ?_
   iterate 6 refine vp ?_
   refine gd h F fun F h => ?_
   refine vp ?_
   refine nm cApiIns h F fun l16487 F h => ?_
   refine vp ?_
   refine vn ?_
   refine sh ?_
   refine rg0 ?_
   iterate 3 refine vp ?_
   refine vn ?_
   exact nx [some 0, some 1, some 6] (l16487, (IntKind.i64.wrap (p16445 + 1))) h
   refine rs0 ?_
   iterate 4 refine vp ?_
   refine sB h F (fun F h => ?_) fun F h => ?_
   refine vs ?_
   refine vs ?_
   refine vs ?_
   refine vs ?_
   refine vs ?_
   refine vs ?_
   refine vs ?_
   refine vs ?_
   refine vp ?_
   refine vn ?_
   refine cF ?_
   refine Wp.skip ?_
   exact nx [some 0, some 1, some 3, some 2] () h
   refine vg ?_
   refine vg ?_
   refine vg ?_
   refine vg ?_
   refine eI h F fun x16488 F h => ?_
   refine vg ?_
   refine vg ?_
   refine vg ?_
   refine vg ?_
   refine vp ?_
   refine vn ?_
   refine sD h F (fun F h => ?_) fun F h => ?_
   refine cF ?_
   refine Wp.skip ?_
   exact nx [some 0, some 1, some 3, some 2] () h
   refine cT ?_
   refine dw (fun d => Nat.beq d 72 || Nat.beq d 1072) [0, 1, 2, 3] ?_
   refine du 8 ?_
   refine du 8 ?_
   refine du 5 ?_
   refine gd h F fun F h => ?_
   refine db ?_
   refine nm cApiIns h F fun l16489 F h => ?_
   refine du 1 ?_
   refine dn ?_
   refine Wp.exit ?_
   refine sh ?_
   refine rg0 ?_
   iterate 3 refine vp ?_
   refine vn ?_
   exact nx [some 0, some 1, some 4] (l16489, (IntKind.i64.wrap (p16445 + 1))) h
   refine cT ?_
   refine rs (fun d => Nat.beq d 18) ?_
   iterate 4 refine vp ?_
   obtain ⟨r16417, hr16416, h⟩ := obind h
   refine vc (con_ref17_load hr16416) ?_
   refine vp ?_
   refine nl cApiIns h F fun l16418 m F h => ?_
   try simp only [m]
   clear m
   refine vp ?_
   refine vn ?_
   cases h
   exact Wp.ret (enH [some 2])

theorem con_printer_part {n : Nat} {s0 : ApiSize} {kind1 : Int} {a2 : ApiAddr} {r : Int} (h : printer_part n s0 kind1 a2 = some r) : Con Tryz.prog G0 154 [.agg (cApiSize s0), .int .i64 kind1, .agg (cApiAddr a2)] (.int .i64 r) [] := by
  refine con_of (T := TT0) tt_ok Tryz.func154 (c := _) (by unfold Tryz.f154; rfl) Tryz.ntmps154 (rs := [.tmp 6]) (by rw [Tryz.results154]) (by unfold Tryz.f154; rfl) (by simp) ?_
  simp only [argsCh]
  have F := True.intro
  dsimp only [printer_part] at h
  refine rs0 ?_
  iterate 3 refine vp ?_
  refine vn ?_
  refine Wp.seq ?_
  refine rs0 ?_
  iterate 3 refine vp ?_
  refine sD h F (fun F h => ?_) fun F h => ?_
  refine vg ?_
  refine vg ?_
  refine vp ?_
  refine vn ?_
  refine sD h F (fun F h => ?_) fun F h => ?_
  refine cF ?_
  refine Wp.skip ?_
  refine sh ?_
  refine rs0 ?_
  iterate 2 refine vp ?_
  obtain ⟨r10643, hr10642, h⟩ := obind h
  refine vc (con_addr_CheckAddr hr10642) ?_
  refine vp ?_
  refine vn ?_
  cases h
  exact Wp.ret en0
  refine cT ?_
  refine rs0 ?_
  refine vp ?_
  refine vn ?_
  cases h
  exact Wp.ret en0
  refine vs ?_
  refine vs ?_
  refine vp ?_
  refine vn ?_
  refine cT ?_
  refine rs0 ?_
  refine vp ?_
  refine vn ?_
  cases h
  exact Wp.ret en0

theorem con_slices_ContainsFunc_int_c102 {n : Nat} {s0 : List Int} {m1 : List (Str × Bool)} {b2 : ApiRung} {r : Bool} (h : slices_ContainsFunc_int_c102 n s0 m1 b2 = some r) : ConH Tryz.prog G0 100 [aL (cI .i64) s0, .clos 102 [] [.hptr 0 0 0, .hptr 2 0 0]] [.var [.mp 1], .map (mAV AV.str cB m1), .var [.str b2.Label, aL cApiContact b2.Contacts, aL cApiCoil b2.Coils, .str b2.Jump]] (.bool r) [.var [.mp 1], .map (mAV AV.str cB m1), .var [.str b2.Label, aL cApiContact b2.Contacts, aL cApiCoil b2.Coils, .str b2.Jump]] := by
  refine conH_of (T := TT0) tt_ok Tryz.func100 (c := _) (by unfold Tryz.f100; rfl) Tryz.ntmps100 (rs := [.tmp 4]) (by rw [Tryz.results100]) (by unfold Tryz.f100; rfl) (by simp) (k := 3) rfl rfl ?_
  try simp only [argsCh]
  have F := True.intro
  dsimp only [slices_ContainsFunc_int_c102] at h
  refine rs0 ?_
  refine vp ?_
  refine vn ?_
  refine rs0 ?_
  iterate 2 refine vp ?_
  obtain ⟨r13099, hr13098, h⟩ := obind h
  refine vh [0, 1, 2] (con_slices_IndexFunc_int_c102 hr13098) ?_
  iterate 2 refine vp ?_
  refine vn ?_
  cases h
  exact Wp.ret (enH [some 0, some 1, some 2])

theorem con_slices_ContainsFunc_tree_Tree_c92 {n : Nat} {s0 : List TreeTree} {b0 : TreeTree} {r : Bool} (h : slices_ContainsFunc_tree_Tree_c92 n s0 b0 = some r) : ConH Tryz.prog G0 91 [aL cTreeTree s0, .clos 92 [] [.hptr 0 0 0]] [.var [.int .i64 b0.Kind, .int .i64 b0.N, aL cTreeTree b0.Kids]] (.bool r) [.var [.int .i64 b0.Kind, .int .i64 b0.N, aL cTreeTree b0.Kids]] := by
  refine conH_of (T := TT0) tt_ok Tryz.func91 (c := _) (by unfold Tryz.f91; rfl) Tryz.ntmps91 (rs := [.tmp 4]) (by rw [Tryz.results91]) (by unfold Tryz.f91; rfl) (by simp) (k := 1) rfl rfl ?_
  try simp only [argsCh]
  have F := True.intro
  dsimp only [slices_ContainsFunc_tree_Tree_c92] at h
  refine rs0 ?_
  refine vp ?_
  refine vn ?_
  refine rs0 ?_
  iterate 2 refine vp ?_
  obtain ⟨r15067, hr15066, h⟩ := obind h
  refine vh [0] (con_slices_IndexFunc_tree_Tree_c92 hr15066) ?_
  iterate 2 refine vp ?_
  refine vn ?_
  cases h
  exact Wp.ret (enH [some 0])

theorem con_graph_Outgoing {n : Nat} {r_0 : ApiRung} {node1 : Str} {r : (List Int)} (h : graph_Outgoing n r_0 node1 = some r) : Con Tryz.prog G0 137 [.agg (cApiRung r_0), .str node1] (aL (cI .i64) r) [] := by
  refine con_of (T := TT0) tt_ok Tryz.func137 (c := _) (by unfold Tryz.f137; rfl) Tryz.ntmps137 (rs := [.tmp 4]) (by rw [Tryz.results137]) (by unfold Tryz.f137; rfl) (by simp) ?_
  simp only [argsCh]
  have F := True.intro
  dsimp only [graph_Outgoing] at h
  refine rs0 ?_
  iterate 3 refine vp ?_
  refine vn ?_
  refine rs0 ?_
  iterate 2 refine vp ?_
  obtain ⟨r14147, hr14146, h⟩ := obind h
  refine vh [1] (con_graph_numbers_c168 hr14146) ?_
  refine vp ?_
  refine vn ?_
  cases h
  exact Wp.ret en0

end Go.Proofs.YtaebdeidbibfkaaGreatDoor
