/- Contracts: models of functions are right. No law is proved here. -/
import Derived.Test.YtaebdeidbibfkaaGreatDoorWGMod
import Derived.Test.YtaebdeidbibfkaaGreatDoorWTaw
import Derived.Test.YtaebdeidbibfkaaGreatDoorWSoz
import Derived.Test.YtaebdeidbibfkaaGreatDoorWShw
import Derived.Test.YtaebdeidbibfkaaGreatDoorWGC9
import Derived.Test.YtaebdeidbibfkaaGreatDoorWGC10
namespace Go.Proofs.YtaebdeidbibfkaaGreatDoor
open Go.Av Go.G
attribute [-simp] Int.natCast_tdiv_eq_ediv
attribute [local simp] runf guardA opf St.ev Go.Av.look St.setd constAV constAV0 opBin opLen intBin St.need lookT TT0 tab resA resOne resAll blt_dec ble_dec beq_dec isPure
attribute [local simp] opMakeSlice opCopy opIndexAddr opLoad opStore St.mem St.rows opUn calleeA toArgs toArg toArg0 toArgs0 shift shift0 shift1 splice cellsOf isFree ofCells TS.isAgg isCell strBin opConvert
attribute [local simp] opSlice3 opClear fz_clear opBuildSlice fillA opAppend eqC eqA cksB ckB St.newBox runI valKind withinB readsHp refsD refs noSl opFieldAddr opBuild opMax opMin placeOf Op.operands Call.operands opIndex opExtract opSlice opField partA
attribute [local simp] loA hiA lenA opMakeMap opLookup opMapUpdate keyOk findA_int findA_str findA_bool putA_strB putA_strI putA_strS putA_intB putA_intI putA_intS putA_boolI putA_boolB byteRow_rwN bytesOf_rwN opBytesStr mAV_length mAV_nil cA1 cA2 cA3 cA4 opNilCheck opMakeFunc opRange
attribute [local simp] aL cI cB cS cL rw_map fz_rw fz_const dropRow_rw fz_append fz_set fz_copy fz_rows rowLen_rw rowsLen_nil rowsLen_cons rowsLen_append rowsLen_map rowsLen_dm rowsLen_tm rowsLen_take rowsLen_drop rowsLen_replicate take_map_len take_map_le drop_map_len take_drop_len chunks isScalar isScalar0
attribute [local simp] putBack putAt objMap mapC mapA mapT map0 bid rid memB passed closedB argsH argH argH0 argsH0 objIds ids0 idsC isLocT isLocA isLocC isLoc0 LocObj
attribute [local congr] bind_congr1 map_congr1 cond_congr1
attribute [local simp] cApiAddr cApiContact cApiCoil cApiRung cReducePair cReduceEdge cTreeTree_eq TreeTree_Kind_mk TreeTree_N_mk TreeTree_Kids_mk eta_TreeTree cRef14Tree_eq Ref14Tree_Kind_mk Ref14Tree_N_mk Ref14Tree_Kids_mk eta_Ref14Tree
variable [Drawn]
set_option maxHeartbeats 4000000
set_option linter.unusedSectionVars false
set_option maxRecDepth 20000
set_option linter.unusedSimpArgs false
set_option linter.unusedVariables false

theorem con_tree_Tree_check (n : Nat) : ∀ {_append0 : TreeTree} {a1 : Int} {m0 : List (Int × Bool)} {r : Int × (List (Int × Bool))}, tree_Tree_check n _append0 a1 m0 = some r → ConH Tryz.prog G0 59 [.agg [.int .i64 _append0.Kind, .int .i64 _append0.N, aL cTreeTree _append0.Kids], .int .i64 a1, .mp 0] [.map (mAV (AV.int .i64) cB m0)] (.int .i64 r.1) [.map (mAV (AV.int .i64) cB r.2)] := by
  induction n with
  | zero => intro _append0 a1 m0 r h; simp [tree_Tree_check] at h
  | succ n Hslf_tree_Tree_check =>
   intro _append0 a1 m0 r h
   refine conH_of (T := TT0) tt_ok Tryz.func59 (c := _) (by unfold Tryz.f59; rfl) Tryz.ntmps59 (rs := [.tmp 6]) (by rw [Tryz.results59]) (by unfold Tryz.f59; rfl) (by simp) (k := 1) rfl rfl ?_
   try simp only [argsCh]
   have F := True.intro
   dsimp only [tree_Tree_check] at h
   refine rs0 ?_
   iterate 2 refine vp ?_
   refine vn ?_
   refine jn (fun _ : Unit => { ch := [(1, .int .i64 a1), (2, .mp 0), (3, .hptr 1 0 0)], hp := [.map (mAV (AV.int .i64) cB m0), .var [.int .i64 _append0.Kind, .int .i64 _append0.N, aL cTreeTree _append0.Kids]], base := 1, n := 96, cond := True, gl := G0 }) (fun x => tree_Tree_check_J1 n _append0 a1 m0 (tree_Tree_check n) = some r) ?_ ?_
   clear h
   rintro _ h
   dsimp only [tree_Tree_check_J1] at h
   try dsimp only
   refine Wp.seq ?_
   refine rs0 ?_
   iterate 4 refine vp ?_
   refine vn ?_
   refine Wp.block ?_
   refine lp [some 0] (fun x : (List (Int × Bool)) × Int => { ch := [(1, .int .i64 a1), (2, .mp 0), (82, aL cTreeTree _append0.Kids), (83, .int .i64 (_append0.Kids.length : Int)), (84, .int .i64 x.2)], hp := [.map (mAV (AV.int .i64) cB x.1)], base := 1, n := 96, cond := True, gl := G0 }) (fun m x => tree_Tree_check_L2 _append0 a1 (tree_Tree_check n) m x.1 x.2 = some r) n (m0, 0) h ?_
   rintro rec_n2 ⟨m4780, p4781⟩ h
   dsimp only [tree_Tree_check_L2] at h
   try dsimp only
   refine rs0 ?_
   refine vp ?_
   refine vn ?_
   refine Wp.seq ?_
   refine sD h F (fun F h => ?_) fun F h => ?_
   refine cF ?_
   refine Wp.exit ?_
   refine sh ?_
   refine rs0 ?_
   refine vp ?_
   refine vn ?_
   cases h
   exact Wp.ret (enH [some 0])
   refine cT ?_
   refine Wp.skip ?_
   refine sh ?_
   refine Wp.seq ?_
   refine Wp.block ?_
   refine rs0 ?_
   refine eI h F fun x4786 F h => ?_
   iterate 4 refine vp ?_
   refine vn ?_
   refine rs0 ?_
   iterate 3 refine vp ?_
   obtain ⟨⟨r4788, q4789⟩, hr4787, h⟩ := obind h
   dsimp only at h
   refine vh [0] (Hslf_tree_Tree_check hr4787) ?_
   refine vp ?_
   refine vn ?_
   refine rs0 ?_
   iterate 2 refine vp ?_
   refine vn ?_
   refine sB h F (fun F h => ?_) fun F h => ?_
   refine cF ?_
   refine Wp.skip ?_
   refine sh ?_
   refine rg0 ?_
   iterate 2 refine vp ?_
   refine vn ?_
   exact nx [some 0] (q4789, (IntKind.i64.wrap (p4781 + 1))) h
   refine cT ?_
   refine rs0 ?_
   iterate 2 refine vp ?_
   refine vn ?_
   cases h
   exact Wp.ret (enH [some 0])
   refine Wp.block ?_
   refine rs0 ?_
   iterate 4 refine vp ?_
   refine sD h F (fun F h => ?_) fun F h => ?_
   refine vg ?_
   refine vg ?_
   refine vg ?_
   iterate 2 refine vp ?_
   refine vn ?_
   refine sD h F (fun F h => ?_) fun F h => ?_
   refine cF ?_
   refine rs0 ?_
   iterate 4 refine vp ?_
   refine sB h F (fun F h => ?_) fun F h => ?_
   refine vs ?_
   refine vs ?_
   refine vs ?_
   refine vs ?_
   iterate 2 refine vp ?_
   refine vg ?_
   refine vg ?_
   refine vg ?_
   refine vg ?_
   refine sB h F (fun F h => ?_) fun F h => ?_
   refine vs ?_
   refine vs ?_
   refine vs ?_
   refine vg ?_
   iterate 2 refine vp ?_
   refine vn ?_
   refine cF ?_
   refine rs0 ?_
   iterate 4 refine vp ?_
   refine vs ?_
   refine vs ?_
   refine vs ?_
   refine vs ?_
   refine vs ?_
   refine vs ?_
   refine vs ?_
   refine vs ?_
   refine vs ?_
   iterate 2 refine vp ?_
   refine vn ?_
   refine cF ?_
   refine rs0 ?_
   iterate 4 refine vp ?_
   refine vs ?_
   refine vs ?_
   refine vs ?_
   refine vs ?_
   iterate 2 refine vp ?_
   refine vn ?_
   refine cF ?_
   refine rs0 ?_
   iterate 4 refine vp ?_
   refine vn ?_
   refine cF ?_
   refine rs0 ?_
   iterate 5 refine vp ?_
   refine vn ?_
   refine sD h F (fun F h => ?_) fun F h => ?_
   refine cF ?_
   refine rs0 ?_
   iterate 3 refine vp ?_
   obtain ⟨r4793, hr4792, h⟩ := obind h
   refine vh [1] (con_slices_ContainsFunc_tree_Tree_c92 hr4792) ?_
   refine vp ?_
   refine vn ?_
   refine sB h F (fun F h => ?_) fun F h => ?_
   refine cF ?_
   refine Wp.skip ?_
   exact nx [some 0, some 1] () h
   refine cT ?_
   refine rs0 ?_
   refine vp ?_
   refine vn ?_
   cases h
   exact Wp.ret (enH [some 0])
   refine cT ?_
   refine rs0 ?_
   refine vp ?_
   refine vn ?_
   cases h
   exact Wp.ret (enH [some 0])
   refine vg ?_
   refine vg ?_
   refine vg ?_
   refine vg ?_
   iterate 2 refine vp ?_
   refine vn ?_
   refine sB h F (fun F h => ?_) fun F h => ?_
   refine cF ?_
   refine rs0 ?_
   iterate 4 refine vp ?_
   refine vs ?_
   refine vs ?_
   refine vs ?_
   refine vs ?_
   refine vs ?_
   refine vs ?_
   refine vs ?_
   refine vs ?_
   refine vs ?_
   iterate 2 refine vp ?_
   refine vn ?_
   refine cF ?_
   refine rs0 ?_
   iterate 4 refine vp ?_
   refine vs ?_
   refine vs ?_
   refine vs ?_
   refine vs ?_
   iterate 2 refine vp ?_
   refine vn ?_
   refine cF ?_
   refine rs0 ?_
   iterate 4 refine vp ?_
   refine vn ?_
   refine cF ?_
   refine rs0 ?_
   iterate 5 refine vp ?_
   refine vn ?_
   refine sD h F (fun F h => ?_) fun F h => ?_
   refine cF ?_
   refine rs0 ?_
   iterate 3 refine vp ?_
   obtain ⟨r4791, hr4790, h⟩ := obind h
   refine vh [1] (con_slices_ContainsFunc_tree_Tree_c92 hr4790) ?_
   refine vp ?_
   refine vn ?_
   refine sB h F (fun F h => ?_) fun F h => ?_
   refine cF ?_
   refine Wp.skip ?_
   exact nx [some 0, some 1] () h
   refine cT ?_
   refine rs0 ?_
   refine vp ?_
   refine vn ?_
   cases h
   exact Wp.ret (enH [some 0])
   refine cT ?_
   refine rs0 ?_
   refine vp ?_
   refine vn ?_
   cases h
   exact Wp.ret (enH [some 0])
   refine cT ?_
   refine rs0 ?_
   refine vp ?_
   refine vn ?_
   cases h
   exact Wp.ret (enH [some 0])
   refine vg ?_
   refine vg ?_
   refine vg ?_
   refine vg ?_
   iterate 2 refine vp ?_
   refine sD h F (fun F h => ?_) fun F h => ?_
   refine vg ?_
   refine vg ?_
   refine vg ?_
   refine vg ?_
   refine sB h F (fun F h => ?_) fun F h => ?_
   refine vs ?_
   refine vs ?_
   refine vs ?_
   refine vg ?_
   iterate 2 refine vp ?_
   refine vn ?_
   refine cF ?_
   refine rs0 ?_
   iterate 4 refine vp ?_
   refine vg ?_
   refine vg ?_
   refine vg ?_
   refine vg ?_
   refine sD h F (fun F h => ?_) fun F h => ?_
   refine vg ?_
   refine vg ?_
   refine vg ?_
   refine vg ?_
   refine vg ?_
   iterate 2 refine vp ?_
   refine vn ?_
   refine sD h F (fun F h => ?_) fun F h => ?_
   refine cF ?_
   refine rs0 ?_
   iterate 4 refine vp ?_
   refine vg ?_
   refine vg ?_
   refine vg ?_
   refine vg ?_
   iterate 2 refine vp ?_
   refine vn ?_
   refine sB h F (fun F h => ?_) fun F h => ?_
   refine cF ?_
   refine rs0 ?_
   iterate 4 refine vp ?_
   refine vn ?_
   refine cT ?_
   refine rs0 ?_
   iterate 4 refine vp ?_
   refine vn ?_
   refine rs0 ?_
   refine vp ?_
   refine vn ?_
   cases h
   exact Wp.ret (enH [some 0])
   refine cT ?_
   refine rs0 ?_
   refine vp ?_
   refine vn ?_
   cases h
   exact Wp.ret (enH [some 0])
   refine cT ?_
   refine rs0 ?_
   refine vp ?_
   refine vn ?_
   cases h
   exact Wp.ret (enH [some 0])
   refine vs ?_
   refine vs ?_
   refine vs ?_
   refine vs ?_
   refine vg ?_
   iterate 2 refine vp ?_
   refine vn ?_
   refine cT ?_
   refine rs0 ?_
   refine vp ?_
   refine vn ?_
   cases h
   exact Wp.ret (enH [some 0])
   refine vg ?_
   refine vg ?_
   refine vg ?_
   refine vg ?_
   iterate 2 refine vp ?_
   refine vn ?_
   refine sB h F (fun F h => ?_) fun F h => ?_
   refine cF ?_
   refine rs0 ?_
   iterate 4 refine vp ?_
   refine vg ?_
   refine vg ?_
   refine vg ?_
   refine vg ?_
   refine sD h F (fun F h => ?_) fun F h => ?_
   refine vg ?_
   refine vg ?_
   refine vg ?_
   refine vg ?_
   refine vg ?_
   iterate 2 refine vp ?_
   refine vn ?_
   refine sD h F (fun F h => ?_) fun F h => ?_
   refine cF ?_
   refine rs0 ?_
   iterate 4 refine vp ?_
   refine vg ?_
   refine vg ?_
   refine vg ?_
   refine vg ?_
   iterate 2 refine vp ?_
   refine vn ?_
   refine sB h F (fun F h => ?_) fun F h => ?_
   refine cF ?_
   refine rs0 ?_
   iterate 4 refine vp ?_
   refine vn ?_
   refine cT ?_
   refine rs0 ?_
   iterate 4 refine vp ?_
   refine vn ?_
   refine rs0 ?_
   refine vp ?_
   refine vn ?_
   cases h
   exact Wp.ret (enH [some 0])
   refine cT ?_
   refine rs0 ?_
   refine vp ?_
   refine vn ?_
   cases h
   exact Wp.ret (enH [some 0])
   refine cT ?_
   refine rs0 ?_
   refine vp ?_
   refine vn ?_
   cases h
   exact Wp.ret (enH [some 0])
   refine vs ?_
   refine vs ?_
   refine vs ?_
   refine vs ?_
   refine vg ?_
   iterate 2 refine vp ?_
   refine vn ?_
   refine cT ?_
   refine rs0 ?_
   refine vp ?_
   refine vn ?_
   cases h
   exact Wp.ret (enH [some 0])
   refine cT ?_
   refine rs0 ?_
   refine vp ?_
   refine vn ?_
   cases h
   exact Wp.ret (enH [some 0])
   refine vs ?_
   refine vs ?_
   refine vs ?_
   refine vs ?_
   refine vs ?_
   refine vs ?_
   refine vs ?_
   refine vs ?_
   iterate 2 refine vp ?_
   refine vn ?_
   refine cT ?_
   refine rs0 ?_
   refine vp ?_
   refine vn ?_
   cases h
   exact Wp.ret (enH [some 0])
   refine cT ?_
   refine rs0 ?_
   refine vp ?_
   refine vn ?_
   cases h
   exact Wp.ret (enH [some 0])
   refine vs ?_
   refine vs ?_
   refine vs ?_
   iterate 2 refine vp ?_
   refine vn ?_
   refine cT ?_
   refine rs0 ?_
   refine vp ?_
   refine vn ?_
   cases h
   exact Wp.ret (enH [some 0])

theorem con_slices_IndexFunc_string_c107_v1 {n : Nat} {l0 : List Str} {b1 : List Str} {b2 : List Str} {r : Int} (h : slices_IndexFunc_string_c107_v1 n l0 b1 b2 = some r) : ConH Tryz.prog G0 98 [.sl 0 0 l0.length, .clos 107 [] [.hptr 1 0 0, .hptr 2 0 0]] [.arr 1 l0.length (rw (l0.map cS)), .var [aL cS b1], .var [aL cS b2]] (.int .i64 r) [.arr 1 l0.length (rw (l0.map cS)), .var [aL cS b1], .var [aL cS b2]] := by
  refine conH_of (T := TT0) tt_ok Tryz.func98 (c := _) (by unfold Tryz.f98; rfl) Tryz.ntmps98 (rs := [.tmp 4]) (by rw [Tryz.results98]) (by unfold Tryz.f98; rfl) (by simp) (k := 3) rfl rfl ?_
  try simp only [argsCh]
  have F := True.intro
  dsimp only [slices_IndexFunc_string_c107_v1] at h
  refine rs0 ?_
  refine vp ?_
  refine vn ?_
  refine Wp.seq ?_
  refine rs0 ?_
  iterate 3 refine vp ?_
  refine vn ?_
  refine Wp.block ?_
  refine lp [some 0, some 1, some 2] (fun p3899 : Int => { ch := [(0, .sl 0 0 l0.length), (1, .clos 107 [] [.hptr 1 0 0, .hptr 2 0 0]), (7, .int .i64 (l0.length : Int)), (8, .int .i64 p3899)], hp := [.arr 1 l0.length (rw (l0.map cS)), .var [aL cS b1], .var [aL cS b2]], base := 3, n := 19, cond := True, gl := G0 }) (fun m x => slices_IndexFunc_string_c107_v1_L1 n l0 b1 b2 m x = some r) n 0 h ?_
  rintro rec_n1 p3899 h
  dsimp only [slices_IndexFunc_string_c107_v1_L1] at h
  try dsimp only
  refine rs0 ?_
  refine vp ?_
  refine vn ?_
  refine Wp.seq ?_
  refine sD h F (fun F h => ?_) fun F h => ?_
  refine cF ?_
  refine Wp.exit ?_
  refine sh ?_
  refine rs0 ?_
  refine vp ?_
  refine vn ?_
  cases h
  exact Wp.ret (enH [some 0, some 1, some 2])
  refine cT ?_
  refine Wp.skip ?_
  refine sh ?_
  refine Wp.seq ?_
  refine Wp.block ?_
  refine rs0 ?_
  iterate 2 refine vp ?_
  refine vn ?_
  refine rs0 ?_
  iterate 3 refine vp ?_
  refine eI h F fun x3903 F h => ?_
  iterate 2 refine vp ?_
  obtain ⟨r3905, hr3904, h⟩ := obind h
  refine vh [1, 2] (con_flow_DeadNodes_1 hr3904) ?_
  refine vn ?_
  refine sB h F (fun F h => ?_) fun F h => ?_
  refine cF ?_
  refine Wp.skip ?_
  refine sh ?_
  refine rg0 ?_
  iterate 2 refine vp ?_
  refine vn ?_
  exact nx [some 0, some 1, some 2] (IntKind.i64.wrap (p3899 + 1)) h
  refine cT ?_
  refine rs0 ?_
  iterate 2 refine vp ?_
  refine vn ?_
  cases h
  exact Wp.ret (enH [some 0, some 1, some 2])

theorem con_graph_Reachable_1 {n : Nat} {n_0 : Str} {b0 : ApiRung} {r : (List Str)} (h : graph_Reachable_1 n n_0 b0 = some r) : ConH Tryz.prog G0 136 [.str n_0, .hptr 0 0 0] [.var [.str b0.Label, aL cApiContact b0.Contacts, aL cApiCoil b0.Coils, .str b0.Jump]] (aL cS r) [.var [.str b0.Label, aL cApiContact b0.Contacts, aL cApiCoil b0.Coils, .str b0.Jump]] := by
  refine conH_of (T := TT0) tt_ok Tryz.func136 (c := _) (by unfold Tryz.f136; rfl) Tryz.ntmps136 (rs := [.tmp 3]) (by rw [Tryz.results136]) (by unfold Tryz.f136; rfl) (by simp) (k := 1) rfl rfl ?_
  try simp only [argsCh]
  have F := True.intro
  dsimp only [graph_Reachable_1] at h
  refine rs0 ?_
  refine vp ?_
  refine vn ?_
  refine rs0 ?_
  refine vp ?_
  refine vn ?_
  refine Wp.seq ?_
  refine rs0 ?_
  iterate 2 refine vp ?_
  obtain ⟨r3496, hr3495, h⟩ := obind h
  refine vc (con_graph_Outgoing hr3495) ?_
  iterate 2 refine vp ?_
  refine vn ?_
  refine Wp.block ?_
  refine lp [some 0, none] (fun x : Int × (List Str) => { ch := [(1, .hptr 0 0 0), (4, .sl 1 0 x.2.length), (9, aL (cI .i64) r3496), (10, .int .i64 (r3496.length : Int)), (11, .int .i64 x.1)], hp := [.var [.str b0.Label, aL cApiContact b0.Contacts, aL cApiCoil b0.Coils, .str b0.Jump], .arr 1 x.2.length (rw (x.2.map cS))], base := 1, n := 26, cond := True, gl := G0 }) (fun m x => graph_Reachable_1_L1 b0 r3496 m x.1 x.2 = some r) n (0, []) h ?_
  rintro rec_n1 ⟨p3500, p3501⟩ h
  dsimp only [graph_Reachable_1_L1] at h
  try dsimp only
  refine rs0 ?_
  refine vp ?_
  refine vn ?_
  refine Wp.seq ?_
  refine sD h F (fun F h => ?_) fun F h => ?_
  refine cF ?_
  refine Wp.exit ?_
  refine sh ?_
  refine rs0 ?_
  iterate 2 refine vp ?_
  refine vn ?_
  cases h
  exact Wp.ret (enH [some 0])
  refine cT ?_
  refine Wp.skip ?_
  refine sh ?_
  refine Wp.seq ?_
  refine Wp.block ?_
  refine rs0 ?_
  refine eI h F fun x3505 F h => ?_
  iterate 3 refine vp ?_
  refine vn ?_
  refine rg (fun d => Nat.beq d 23) ?_
  iterate 4 refine vp ?_
  refine eI h F fun x3506 F h => ?_
  iterate 4 refine vp ?_
  refine gd h F fun F h => ?_
  refine vp ?_
  refine nm cS h F fun l3507 F h => ?_
  refine vp ?_
  refine vn ?_
  refine sh ?_
  refine rg0 ?_
  iterate 2 refine vp ?_
  refine vn ?_
  exact nx [some 0, some 2] ((IntKind.i64.wrap (p3500 + 1)), l3507) h

theorem con_graph_Ancestors_1 {n : Nat} {n_0 : Str} {b0 : ApiRung} {r : (List Str)} (h : graph_Ancestors_1 n n_0 b0 = some r) : ConH Tryz.prog G0 138 [.str n_0, .hptr 0 0 0] [.var [.str b0.Label, aL cApiContact b0.Contacts, aL cApiCoil b0.Coils, .str b0.Jump]] (aL cS r) [.var [.str b0.Label, aL cApiContact b0.Contacts, aL cApiCoil b0.Coils, .str b0.Jump]] := by
  refine conH_of (T := TT0) tt_ok Tryz.func138 (c := _) (by unfold Tryz.f138; rfl) Tryz.ntmps138 (rs := [.tmp 3]) (by rw [Tryz.results138]) (by unfold Tryz.f138; rfl) (by simp) (k := 1) rfl rfl ?_
  try simp only [argsCh]
  have F := True.intro
  dsimp only [graph_Ancestors_1] at h
  refine rs0 ?_
  refine vp ?_
  refine vn ?_
  refine rs0 ?_
  refine vp ?_
  refine vn ?_
  refine Wp.seq ?_
  refine rs0 ?_
  iterate 2 refine vp ?_
  obtain ⟨r3784, hr3783, h⟩ := obind h
  refine vc (con_graph_Incoming hr3783) ?_
  iterate 2 refine vp ?_
  refine vn ?_
  refine Wp.block ?_
  refine lp [some 0, none] (fun x : Int × (List Str) => { ch := [(1, .hptr 0 0 0), (4, .sl 1 0 x.2.length), (9, aL (cI .i64) r3784), (10, .int .i64 (r3784.length : Int)), (11, .int .i64 x.1)], hp := [.var [.str b0.Label, aL cApiContact b0.Contacts, aL cApiCoil b0.Coils, .str b0.Jump], .arr 1 x.2.length (rw (x.2.map cS))], base := 1, n := 26, cond := True, gl := G0 }) (fun m x => graph_Ancestors_1_L1 b0 r3784 m x.1 x.2 = some r) n (0, []) h ?_
  rintro rec_n1 ⟨p3788, p3789⟩ h
  dsimp only [graph_Ancestors_1_L1] at h
  try dsimp only
  refine rs0 ?_
  refine vp ?_
  refine vn ?_
  refine Wp.seq ?_
  refine sD h F (fun F h => ?_) fun F h => ?_
  refine cF ?_
  refine Wp.exit ?_
  refine sh ?_
  refine rs0 ?_
  iterate 2 refine vp ?_
  refine vn ?_
  cases h
  exact Wp.ret (enH [some 0])
  refine cT ?_
  refine Wp.skip ?_
  refine sh ?_
  refine Wp.seq ?_
  refine Wp.block ?_
  refine rs0 ?_
  refine eI h F fun x3793 F h => ?_
  iterate 3 refine vp ?_
  refine vn ?_
  refine rg (fun d => Nat.beq d 23) ?_
  iterate 4 refine vp ?_
  refine eI h F fun x3794 F h => ?_
  iterate 4 refine vp ?_
  refine gd h F fun F h => ?_
  refine vp ?_
  refine nm cS h F fun l3795 F h => ?_
  refine vp ?_
  refine vn ?_
  refine sh ?_
  refine rg0 ?_
  iterate 2 refine vp ?_
  refine vn ?_
  exact nx [some 0, some 2] ((IntKind.i64.wrap (p3788 + 1)), l3795) h

theorem con_ref14_Check {n : Nat} {t0 : Ref14Tree} {many1 : Int} {r : Int} (h : ref14_Check n t0 many1 = some r) : Con Tryz.prog G0 50 [.agg [.int .i64 t0.Kind, .int .i64 t0.N, aL cRef14Tree t0.Kids], .int .i64 many1] (.int .i64 r) [] := by
  refine con_of (T := TT0) tt_ok Tryz.func50 (c := _) (by unfold Tryz.f50; rfl) Tryz.ntmps50 (rs := [.tmp 4]) (by rw [Tryz.results50]) (by unfold Tryz.f50; rfl) (by simp) ?_
  simp only [argsCh]
  have F := True.intro
  dsimp only [ref14_Check] at h
  refine rs0 ?_
  iterate 2 refine vp ?_
  refine vn ?_
  refine jn (fun p5434 : Int => { ch := [(1, .int .i64 p5434), (2, .hptr 0 0 0)], hp := [.var [.int .i64 t0.Kind, .int .i64 t0.N, aL cRef14Tree t0.Kids]], base := 0, n := 22, cond := True, gl := G0 }) (fun x => ref14_Check_J1 n t0 x = some r) ?_ ?_
  clear h
  rintro p5434 h
  dsimp only [ref14_Check_J1] at h
  try dsimp only
  refine rs0 ?_
  iterate 2 refine vp ?_
  obtain ⟨⟨r5732, r5733⟩, hr5731, h⟩ := obind h
  dsimp only at h
  refine vc (con_ref14_check_v1 _ hr5731) ?_
  iterate 5 refine vp ?_
  refine vn ?_
  refine Wp.seq ?_
  refine rs0 ?_
  iterate 2 refine vp ?_
  refine vn ?_
  refine sB h F (fun F h => ?_) fun F h => ?_
  refine cF ?_
  refine Wp.skip ?_
  refine sh ?_
  refine Wp.seq ?_
  refine rs0 ?_
  iterate 4 refine vp ?_
  refine vn ?_
  refine sB h F (fun F h => ?_) fun F h => ?_
  refine cF ?_
  refine Wp.skip ?_
  refine sh ?_
  refine rs0 ?_
  refine vp ?_
  refine vn ?_
  cases h
  exact Wp.ret en0
  refine cT ?_
  refine rs0 ?_
  refine vp ?_
  refine vn ?_
  cases h
  exact Wp.ret en0
  refine cT ?_
  refine rs0 ?_
  iterate 2 refine vp ?_
  refine vn ?_
  cases h
  exact Wp.ret en0
  refine rs0 ?_
  iterate 2 refine vp ?_
  refine vn ?_
  refine sD h F (fun F h => ?_) fun F h => ?_
  refine cF ?_
  refine Wp.skip ?_
  exact nx [some 0] many1 h
  refine cT ?_
  refine rg0 ?_
  refine vp ?_
  refine vn ?_
  exact nx [some 0] 0 h

theorem con_graph_TopoSort_1 {n : Nat} {n_0 : Str} {b0 : ApiRung} {m2 : List (Str × Bool)} {r : Bool} (h : graph_TopoSort_1 n n_0 b0 m2 = some r) : ConH Tryz.prog G0 99 [.str n_0, .hptr 0 0 0, .hptr 1 0 0] [.var [.str b0.Label, aL cApiContact b0.Contacts, aL cApiCoil b0.Coils, .str b0.Jump], .var [.mp 2], .map (mAV AV.str cB m2)] (.bool r) [.var [.str b0.Label, aL cApiContact b0.Contacts, aL cApiCoil b0.Coils, .str b0.Jump], .var [.mp 2], .map (mAV AV.str cB m2)] := by
  refine conH_of (T := TT0) tt_ok Tryz.func99 (c := _) (by unfold Tryz.f99; rfl) Tryz.ntmps99 (rs := [.tmp 4]) (by rw [Tryz.results99]) (by unfold Tryz.f99; rfl) (by simp) (k := 3) rfl rfl ?_
  try simp only [argsCh]
  have F := True.intro
  dsimp only [graph_TopoSort_1] at h
  refine rs0 ?_
  refine vp ?_
  refine vn ?_
  refine rs0 ?_
  iterate 2 refine vp ?_
  obtain ⟨r2437, hr2436, h⟩ := obind h
  refine vc (con_graph_Incoming hr2436) ?_
  refine vp ?_
  obtain ⟨r2439, hr2438, h⟩ := obind h
  refine vh [1, 2, 0] (con_slices_ContainsFunc_int_c102 hr2438) ?_
  iterate 2 refine vp ?_
  refine vn ?_
  cases h
  exact Wp.ret (enH [some 0, some 1, some 2])

theorem len_slices_SortFunc_tree_Tree_c70 {n : Nat} {l0 : List TreeTree} {r : List TreeTree} (h : slices_SortFunc_tree_Tree_c70 n l0 = some r) : r.length = l0.length := sortM_length h
theorem con_slices_SortFunc_tree_Tree_c70 {n : Nat} {l0 : List TreeTree} {r : List TreeTree} (h : slices_SortFunc_tree_Tree_c70 n l0 = some r) : ConH Tryz.prog G0 69 [.sl 0 0 l0.length, .clos 70 [] []] [.arr 3 l0.length (rw (l0.map cTreeTree))] (.tup []) [.arr 3 r.length (rw (r.map cTreeTree))] := by
  have hl : r.length = l0.length := sortM_length h
  rw [hl]
  exact conH_sort Tryz.sort_lays (tt_ok 30 _ rfl) rfl cTreeTree (fun x => by simp [cTreeTree_eq]) ⟨_, Tryz.func69, rfl, by decide⟩ 70 (fun a b => reduce_sorted_1 n a b) (fun a b r hr => by have := @con_reduce_sorted_1 ⟨True⟩ _ _ _ _ hr; simpa only [cTreeTree_eq] using this) l0 r h

end Go.Proofs.YtaebdeidbibfkaaGreatDoor
