/- Contracts: models of functions are right. No law is proved here. -/
import Derived.Test.YtfghchpnolfllaaDoorGMod
import Derived.Test.YtfghchpnolfllaaDoorTab
import Derived.Test.YtfghchpnolfllaaDoorSh
import Derived.Test.YtfghchpnolfllaaDoorGC2
namespace Go.Proofs.YtfghchpnolfllaaDoor
open Go.Av Go.G
attribute [-simp] Int.natCast_tdiv_eq_ediv
attribute [local simp] runf guardA opf St.ev Go.Av.look St.setd constAV constAV0 opBin opLen intBin St.need lookT TT0 tab resA resOne resAll blt_dec ble_dec beq_dec isPure
attribute [local simp] opMakeSlice opCopy opIndexAddr opLoad opStore St.mem St.rows opUn calleeA toArgs toArg toArg0 toArgs0 shift shift0 shift1 splice cellsOf isFree ofCells TS.isAgg isCell strBin opConvert
attribute [local simp] opBuildSlice fillA opAppend eqC eqA cksB ckB St.newBox runI valKind withinB readsHp refsD refs noSl opFieldAddr opBuild opMax opMin placeOf Op.operands Call.operands opIndex opExtract opSlice opField partA
attribute [local simp] loA hiA lenA opMakeMap opLookup opMapUpdate keyOk findA_int findA_str putA_strB putA_strI putA_intB putA_intI mAV_length mAV_nil cA1 cA2 cA3 cA4 opNilCheck opMakeFunc opRange
attribute [local simp] aL cI cB cS cL rw_map fz_rw fz_const dropRow_rw fz_append fz_set fz_copy fz_rows rowLen_rw rowsLen_nil rowsLen_cons rowsLen_append rowsLen_map rowsLen_take rowsLen_drop rowsLen_replicate take_map_len take_map_le drop_map_len take_drop_len chunks isScalar isScalar0
attribute [local simp] putBack putAt objMap mapC mapA mapT map0 bid rid memB passed closedB argsH argH argH0 argsH0 objIds ids0 idsC isLocT isLocA isLocC isLoc0 LocObj
attribute [local congr] bind_congr1 map_congr1 cond_congr1
attribute [local simp] cTreeTree_eq TreeTree_Kind_mk TreeTree_N_mk TreeTree_Kids_mk eta_TreeTree cRef14Tree_eq Ref14Tree_Kind_mk Ref14Tree_N_mk Ref14Tree_Kids_mk eta_Ref14Tree
set_option maxHeartbeats 4000000
set_option maxRecDepth 20000
set_option linter.unusedSimpArgs false
set_option linter.unusedVariables false

theorem con_tree_Tree_check (n : Nat) : ∀ {_append0 : TreeTree} {a1 : Int} {m0 : List (Int × Bool)} {r : Int × (List (Int × Bool))}, tree_Tree_check n _append0 a1 m0 = some r → ConH Tryd.prog G0 30 [.agg [.int .i64 _append0.Kind, .int .i64 _append0.N, aL cTreeTree _append0.Kids], .int .i64 a1, .mp 0] [.map (mAV (AV.int .i64) cB m0)] (.int .i64 r.1) [.map (mAV (AV.int .i64) cB r.2)] := by
  induction n with
  | zero => intro _append0 a1 m0 r h; simp [tree_Tree_check] at h
  | succ n Hslf_tree_Tree_check =>
   intro _append0 a1 m0 r h
   refine conH_of (T := TT0) tt_ok Tryd.func30 (c := _) (by unfold Tryd.f30; rfl) Tryd.ntmps30 (rs := [.tmp 6]) (by rw [Tryd.results30]) (by unfold Tryd.f30; rfl) (by simp) (k := 1) rfl rfl ?_
   try simp only [argsCh]
   have F := True.intro
   dsimp only [tree_Tree_check] at h
   refine rs0 ?_
   iterate 2 refine vp ?_
   refine vn ?_
   refine jn (fun _ : Unit => { ch := [(1, .int .i64 a1), (2, .mp 0), (3, .hptr 1 0 0)], hp := [.map (mAV (AV.int .i64) cB m0), .var [.int .i64 _append0.Kind, .int .i64 _append0.N, aL cTreeTree _append0.Kids]], base := 1, n := 96, cond := True, gl := G0 }) (fun x => tree_Tree_check_J1 n _append0 a1 m0 (tree_Tree_check n) = some r) ?_ ?_
   clear h
   rintro _ h
   dsimp only [tree_Tree_check_J1] at h
   try dsimp only
   refine Wp.seq ?_
   refine rs0 ?_
   iterate 4 refine vp ?_
   refine vn ?_
   refine Wp.block ?_
   refine lp [some 0] (fun x : (List (Int × Bool)) × Int => { ch := [(1, .int .i64 a1), (2, .mp 0), (82, aL cTreeTree _append0.Kids), (83, .int .i64 (_append0.Kids.length : Int)), (84, .int .i64 x.2)], hp := [.map (mAV (AV.int .i64) cB x.1)], base := 1, n := 96, cond := True, gl := G0 }) (fun m x => tree_Tree_check_L2 _append0 a1 (tree_Tree_check n) m x.1 x.2 = some r) n (m0, 0) h ?_
   rintro rec_n2 ⟨m252, p253⟩ h
   dsimp only [tree_Tree_check_L2] at h
   try dsimp only
   refine rs0 ?_
   refine vp ?_
   refine vn ?_
   refine Wp.seq ?_
   refine sD h F (fun F h => ?_) fun F h => ?_
   refine cF ?_
   refine Wp.exit ?_
   refine sh ?_
   refine rs0 ?_
   refine vp ?_
   refine vn ?_
   cases h
   exact Wp.ret (enH [some 0])
   refine cT ?_
   refine Wp.skip ?_
   refine sh ?_
   refine Wp.seq ?_
   refine Wp.block ?_
   refine rs0 ?_
   refine eI h F fun x258 F h => ?_
   iterate 4 refine vp ?_
   refine vn ?_
   refine rs0 ?_
   iterate 3 refine vp ?_
   obtain ⟨⟨r260, q261⟩, hr259, h⟩ := obind h
   dsimp only at h
   refine vh [0] (Hslf_tree_Tree_check hr259) ?_
   refine vp ?_
   refine vn ?_
   refine rs0 ?_
   iterate 2 refine vp ?_
   refine vn ?_
   refine sB h F (fun F h => ?_) fun F h => ?_
   refine cF ?_
   refine Wp.skip ?_
   refine sh ?_
   refine rg0 ?_
   iterate 2 refine vp ?_
   refine vn ?_
   exact nx [some 0] (q261, (IntKind.i64.wrap (p253 + 1))) h
   refine cT ?_
   refine rs0 ?_
   iterate 2 refine vp ?_
   refine vn ?_
   cases h
   exact Wp.ret (enH [some 0])
   refine Wp.block ?_
   refine rs0 ?_
   iterate 4 refine vp ?_
   refine sD h F (fun F h => ?_) fun F h => ?_
   refine vg ?_
   refine vg ?_
   refine vg ?_
   iterate 2 refine vp ?_
   refine vn ?_
   refine sD h F (fun F h => ?_) fun F h => ?_
   refine cF ?_
   refine rs0 ?_
   iterate 4 refine vp ?_
   refine sB h F (fun F h => ?_) fun F h => ?_
   refine vs ?_
   refine vs ?_
   refine vs ?_
   refine vs ?_
   iterate 2 refine vp ?_
   refine vg ?_
   refine vg ?_
   refine vg ?_
   refine vg ?_
   refine sB h F (fun F h => ?_) fun F h => ?_
   refine vs ?_
   refine vs ?_
   refine vs ?_
   refine vg ?_
   iterate 2 refine vp ?_
   refine vn ?_
   refine cF ?_
   refine rs0 ?_
   iterate 4 refine vp ?_
   refine vs ?_
   refine vs ?_
   refine vs ?_
   refine vs ?_
   refine vs ?_
   refine vs ?_
   refine vs ?_
   refine vs ?_
   refine vs ?_
   iterate 2 refine vp ?_
   refine vn ?_
   refine cF ?_
   refine rs0 ?_
   iterate 4 refine vp ?_
   refine vs ?_
   refine vs ?_
   refine vs ?_
   refine vs ?_
   iterate 2 refine vp ?_
   refine vn ?_
   refine cF ?_
   refine rs0 ?_
   iterate 4 refine vp ?_
   refine vn ?_
   refine cF ?_
   refine rs0 ?_
   iterate 5 refine vp ?_
   refine vn ?_
   refine sD h F (fun F h => ?_) fun F h => ?_
   refine cF ?_
   refine rs0 ?_
   iterate 3 refine vp ?_
   obtain ⟨r265, hr264, h⟩ := obind h
   refine vh [1] (con_slices_ContainsFunc_tree_Tree_c37 hr264) ?_
   refine vp ?_
   refine vn ?_
   refine sB h F (fun F h => ?_) fun F h => ?_
   refine cF ?_
   refine Wp.skip ?_
   exact nx [some 0, some 1] () h
   refine cT ?_
   refine rs0 ?_
   refine vp ?_
   refine vn ?_
   cases h
   exact Wp.ret (enH [some 0])
   refine cT ?_
   refine rs0 ?_
   refine vp ?_
   refine vn ?_
   cases h
   exact Wp.ret (enH [some 0])
   refine vg ?_
   refine vg ?_
   refine vg ?_
   refine vg ?_
   iterate 2 refine vp ?_
   refine vn ?_
   refine sB h F (fun F h => ?_) fun F h => ?_
   refine cF ?_
   refine rs0 ?_
   iterate 4 refine vp ?_
   refine vs ?_
   refine vs ?_
   refine vs ?_
   refine vs ?_
   refine vs ?_
   refine vs ?_
   refine vs ?_
   refine vs ?_
   refine vs ?_
   iterate 2 refine vp ?_
   refine vn ?_
   refine cF ?_
   refine rs0 ?_
   iterate 4 refine vp ?_
   refine vs ?_
   refine vs ?_
   refine vs ?_
   refine vs ?_
   iterate 2 refine vp ?_
   refine vn ?_
   refine cF ?_
   refine rs0 ?_
   iterate 4 refine vp ?_
   refine vn ?_
   refine cF ?_
   refine rs0 ?_
   iterate 5 refine vp ?_
   refine vn ?_
   refine sD h F (fun F h => ?_) fun F h => ?_
   refine cF ?_
   refine rs0 ?_
   iterate 3 refine vp ?_
   obtain ⟨r263, hr262, h⟩ := obind h
   refine vh [1] (con_slices_ContainsFunc_tree_Tree_c37 hr262) ?_
   refine vp ?_
   refine vn ?_
   refine sB h F (fun F h => ?_) fun F h => ?_
   refine cF ?_
   refine Wp.skip ?_
   exact nx [some 0, some 1] () h
   refine cT ?_
   refine rs0 ?_
   refine vp ?_
   refine vn ?_
   cases h
   exact Wp.ret (enH [some 0])
   refine cT ?_
   refine rs0 ?_
   refine vp ?_
   refine vn ?_
   cases h
   exact Wp.ret (enH [some 0])
   refine cT ?_
   refine rs0 ?_
   refine vp ?_
   refine vn ?_
   cases h
   exact Wp.ret (enH [some 0])
   refine vg ?_
   refine vg ?_
   refine vg ?_
   refine vg ?_
   iterate 2 refine vp ?_
   refine sD h F (fun F h => ?_) fun F h => ?_
   refine vg ?_
   refine vg ?_
   refine vg ?_
   refine vg ?_
   refine sB h F (fun F h => ?_) fun F h => ?_
   refine vs ?_
   refine vs ?_
   refine vs ?_
   refine vg ?_
   iterate 2 refine vp ?_
   refine vn ?_
   refine cF ?_
   refine rs0 ?_
   iterate 4 refine vp ?_
   refine vg ?_
   refine vg ?_
   refine vg ?_
   refine vg ?_
   refine sD h F (fun F h => ?_) fun F h => ?_
   refine vg ?_
   refine vg ?_
   refine vg ?_
   refine vg ?_
   refine vg ?_
   iterate 2 refine vp ?_
   refine vn ?_
   refine sD h F (fun F h => ?_) fun F h => ?_
   refine cF ?_
   refine rs0 ?_
   iterate 4 refine vp ?_
   refine vg ?_
   refine vg ?_
   refine vg ?_
   refine vg ?_
   iterate 2 refine vp ?_
   refine vn ?_
   refine sB h F (fun F h => ?_) fun F h => ?_
   refine cF ?_
   refine rs0 ?_
   iterate 4 refine vp ?_
   refine vn ?_
   refine cT ?_
   refine rs0 ?_
   iterate 4 refine vp ?_
   refine vn ?_
   refine rs0 ?_
   refine vp ?_
   refine vn ?_
   cases h
   exact Wp.ret (enH [some 0])
   refine cT ?_
   refine rs0 ?_
   refine vp ?_
   refine vn ?_
   cases h
   exact Wp.ret (enH [some 0])
   refine cT ?_
   refine rs0 ?_
   refine vp ?_
   refine vn ?_
   cases h
   exact Wp.ret (enH [some 0])
   refine vs ?_
   refine vs ?_
   refine vs ?_
   refine vs ?_
   refine vg ?_
   iterate 2 refine vp ?_
   refine vn ?_
   refine cT ?_
   refine rs0 ?_
   refine vp ?_
   refine vn ?_
   cases h
   exact Wp.ret (enH [some 0])
   refine vg ?_
   refine vg ?_
   refine vg ?_
   refine vg ?_
   iterate 2 refine vp ?_
   refine vn ?_
   refine sB h F (fun F h => ?_) fun F h => ?_
   refine cF ?_
   refine rs0 ?_
   iterate 4 refine vp ?_
   refine vg ?_
   refine vg ?_
   refine vg ?_
   refine vg ?_
   refine sD h F (fun F h => ?_) fun F h => ?_
   refine vg ?_
   refine vg ?_
   refine vg ?_
   refine vg ?_
   refine vg ?_
   iterate 2 refine vp ?_
   refine vn ?_
   refine sD h F (fun F h => ?_) fun F h => ?_
   refine cF ?_
   refine rs0 ?_
   iterate 4 refine vp ?_
   refine vg ?_
   refine vg ?_
   refine vg ?_
   refine vg ?_
   iterate 2 refine vp ?_
   refine vn ?_
   refine sB h F (fun F h => ?_) fun F h => ?_
   refine cF ?_
   refine rs0 ?_
   iterate 4 refine vp ?_
   refine vn ?_
   refine cT ?_
   refine rs0 ?_
   iterate 4 refine vp ?_
   refine vn ?_
   refine rs0 ?_
   refine vp ?_
   refine vn ?_
   cases h
   exact Wp.ret (enH [some 0])
   refine cT ?_
   refine rs0 ?_
   refine vp ?_
   refine vn ?_
   cases h
   exact Wp.ret (enH [some 0])
   refine cT ?_
   refine rs0 ?_
   refine vp ?_
   refine vn ?_
   cases h
   exact Wp.ret (enH [some 0])
   refine vs ?_
   refine vs ?_
   refine vs ?_
   refine vs ?_
   refine vg ?_
   iterate 2 refine vp ?_
   refine vn ?_
   refine cT ?_
   refine rs0 ?_
   refine vp ?_
   refine vn ?_
   cases h
   exact Wp.ret (enH [some 0])
   refine cT ?_
   refine rs0 ?_
   refine vp ?_
   refine vn ?_
   cases h
   exact Wp.ret (enH [some 0])
   refine vs ?_
   refine vs ?_
   refine vs ?_
   refine vs ?_
   refine vs ?_
   refine vs ?_
   refine vs ?_
   refine vs ?_
   iterate 2 refine vp ?_
   refine vn ?_
   refine cT ?_
   refine rs0 ?_
   refine vp ?_
   refine vn ?_
   cases h
   exact Wp.ret (enH [some 0])
   refine cT ?_
   refine rs0 ?_
   refine vp ?_
   refine vn ?_
   cases h
   exact Wp.ret (enH [some 0])
   refine vs ?_
   refine vs ?_
   refine vs ?_
   iterate 2 refine vp ?_
   refine vn ?_
   refine cT ?_
   refine rs0 ?_
   refine vp ?_
   refine vn ?_
   cases h
   exact Wp.ret (enH [some 0])

theorem con_slices_ContainsFunc_tree_Tree_c36_34 {slf_tree_Tree_eval : TreeTree → (List Bool) → Option (Bool)} (Hslf_tree_Tree_eval : ∀ {t0 : TreeTree} {on1 : List Bool} {r : Bool}, slf_tree_Tree_eval t0 on1 = some r → Con Tryd.prog G0 27 [.agg [.int .i64 t0.Kind, .int .i64 t0.N, aL cTreeTree t0.Kids], aL cB on1] (.bool r) []) {n : Nat} {s0 : List TreeTree} {b1 : List Bool} {r : Bool} (h : slices_ContainsFunc_tree_Tree_c36_34 slf_tree_Tree_eval n s0 b1 = some r) : ConH Tryd.prog G0 35 [aL cTreeTree s0, .clos 36 [] [.hptr 0 0 0]] [.var [.clos 34 [] [.hptr 1 0 0]], .var [aL cB b1]] (.bool r) [.var [.clos 34 [] [.hptr 1 0 0]], .var [aL cB b1]] := by
  refine conH_of (T := TT0) tt_ok Tryd.func35 (c := _) (by unfold Tryd.f35; rfl) Tryd.ntmps35 (rs := [.tmp 4]) (by rw [Tryd.results35]) (by unfold Tryd.f35; rfl) (by simp) (k := 2) rfl rfl ?_
  try simp only [argsCh]
  have F := True.intro
  dsimp only [slices_ContainsFunc_tree_Tree_c36_34] at h
  refine rs0 ?_
  refine vp ?_
  refine vn ?_
  refine rs0 ?_
  iterate 2 refine vp ?_
  obtain ⟨r302, hr301, h⟩ := obind h
  refine vh [0, 1] (con_slices_IndexFunc_tree_Tree_c36_34 Hslf_tree_Tree_eval hr301) ?_
  iterate 2 refine vp ?_
  refine vn ?_
  cases h
  exact Wp.ret (enH [some 0, some 1])

end Go.Proofs.YtfghchpnolfllaaDoor
