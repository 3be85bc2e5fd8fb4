/- Contracts: models of functions are right. No law is proved here. -/
import Derived.Test.YtfghchpnolfllaaDoorGMod
import Derived.Test.YtfghchpnolfllaaDoorTab
import Derived.Test.YtfghchpnolfllaaDoorSh
namespace Go.Proofs.YtfghchpnolfllaaDoor
open Go.Av Go.G
attribute [-simp] Int.natCast_tdiv_eq_ediv
attribute [local simp] runf guardA opf St.ev Go.Av.look St.setd constAV constAV0 opBin opLen intBin St.need lookT TT0 tab resA resOne resAll blt_dec ble_dec beq_dec isPure
attribute [local simp] opMakeSlice opCopy opIndexAddr opLoad opStore St.mem St.rows opUn calleeA toArgs toArg toArg0 toArgs0 shift shift0 shift1 splice cellsOf isFree ofCells TS.isAgg isCell strBin opConvert
attribute [local simp] opBuildSlice fillA opAppend eqC eqA cksB ckB St.newBox runI valKind withinB readsHp refsD refs noSl opFieldAddr opBuild opMax opMin placeOf Op.operands Call.operands opIndex opExtract opSlice opField partA
attribute [local simp] loA hiA lenA opMakeMap opLookup opMapUpdate keyOk findA_int findA_str putA_strB putA_strI putA_intB putA_intI mAV_length mAV_nil cA1 cA2 cA3 cA4 opNilCheck opMakeFunc opRange
attribute [local simp] aL cI cB cS cL rw_map fz_rw fz_const dropRow_rw fz_append fz_set fz_copy fz_rows rowLen_rw rowsLen_nil rowsLen_cons rowsLen_append rowsLen_map rowsLen_take rowsLen_drop rowsLen_replicate take_map_len take_map_le drop_map_len take_drop_len chunks isScalar isScalar0
attribute [local simp] putBack putAt objMap mapC mapA mapT map0 bid rid memB passed closedB argsH argH argH0 argsH0 objIds ids0 idsC isLocT isLocA isLocC isLoc0 LocObj
attribute [local congr] bind_congr1 map_congr1 cond_congr1
attribute [local simp] cTreeTree_eq TreeTree_Kind_mk TreeTree_N_mk TreeTree_Kids_mk eta_TreeTree cRef14Tree_eq Ref14Tree_Kind_mk Ref14Tree_N_mk Ref14Tree_Kids_mk eta_Ref14Tree
set_option maxHeartbeats 4000000
set_option maxRecDepth 20000
set_option linter.unusedSimpArgs false
set_option linter.unusedVariables false

theorem con_ref14_check_v2 (n : Nat) : ∀ {_append0 : Ref14Tree} {a1 : Int} {l0 : List Int} {r : Int × (List Int)}, ref14_check_v2 n _append0 a1 l0 = some r → ConH Tryd.prog G0 29 [.agg [.int .i64 _append0.Kind, .int .i64 _append0.N, aL cRef14Tree _append0.Kids], .int .i64 a1, .sl 0 0 l0.length] [.arr 1 l0.length (rw (l0.map (cI .i64)))] (.tup [.int .i64 r.1, .sl 1 0 r.2.length]) [.dead, .arr 1 r.2.length (rw (r.2.map (cI .i64)))] := by
  induction n with
  | zero => intro _append0 a1 l0 r h; simp [ref14_check_v2] at h
  | succ n Hslf_ref14_check_v2 =>
   intro _append0 a1 l0 r h
   refine conH_of (T := TT0) tt_ok Tryd.func29 (c := _) (by unfold Tryd.f29; rfl) Tryd.ntmps29 (rs := [.tmp 6, .tmp 7]) (by rw [Tryd.results29]) (by unfold Tryd.f29; rfl) (by simp) (k := 1) rfl rfl ?_
   try simp only [argsCh]
   have F := True.intro
   dsimp only [ref14_check_v2] at h
   refine rs0 ?_
   iterate 3 refine vp ?_
   refine vn ?_
   refine Wp.seq ?_
   refine rs0 ?_
   iterate 4 refine vp ?_
   refine sD h F (fun F h => ?_) fun F h => ?_
   refine vg ?_
   refine vg ?_
   refine vg ?_
   refine vp ?_
   refine vn ?_
   refine sD h F (fun F h => ?_) fun F h => ?_
   refine cF ?_
   refine Wp.skip ?_
   refine sh ?_
   refine Wp.seq ?_
   refine rs0 ?_
   iterate 3 refine vp ?_
   refine vn ?_
   refine sB h F (fun F h => ?_) fun F h => ?_
   refine cF ?_
   refine Wp.skip ?_
   refine sh ?_
   refine Wp.seq ?_
   refine rs0 ?_
   iterate 3 refine vp ?_
   refine vn ?_
   refine sB h F (fun F h => ?_) fun F h => ?_
   refine cF ?_
   refine Wp.skip ?_
   refine sh ?_
   refine Wp.seq ?_
   refine rs0 ?_
   iterate 4 refine vp ?_
   refine vn ?_
   refine sD h F (fun F h => ?_) fun F h => ?_
   refine cF ?_
   refine Wp.skip ?_
   refine sh ?_
   refine jn (fun _ : Unit => { ch := [(1, .int .i64 a1), (2, .sl 0 0 l0.length), (3, .hptr 1 0 0)], hp := [.arr 1 l0.length (rw (l0.map (cI .i64))), .var [.int .i64 _append0.Kind, .int .i64 _append0.N, aL cRef14Tree _append0.Kids]], base := 1, n := 109, cond := True, gl := G0 }) (fun x => ref14_check_v2_J2 n _append0 a1 l0 (ref14_check_v2 n) = some r) ?_ ?_
   clear h
   rintro _ h
   dsimp only [ref14_check_v2_J2] at h
   try dsimp only
   refine Wp.seq ?_
   refine rs0 ?_
   refine vp ?_
   refine vn ?_
   refine Wp.block ?_
   refine lp [some 0, some 1, some 0] (fun x : Int × (List Int) => { ch := [(1, .int .i64 a1), (2, .sl 2 0 x.2.length), (3, .hptr 1 0 0), (10, .int .i64 x.1)], hp := [.dead, .var [.int .i64 _append0.Kind, .int .i64 _append0.N, aL cRef14Tree _append0.Kids], .arr 1 x.2.length (rw (x.2.map (cI .i64)))], base := 1, n := 109, cond := True, gl := G0 }) (fun m x => ref14_check_v2_L3 _append0 a1 (ref14_check_v2 n) m x.1 x.2 = some r) n (0, l0) h ?_
   rintro rec_n3 ⟨p719, l720⟩ h
   dsimp only [ref14_check_v2_L3] at h
   try dsimp only
   refine Wp.seq ?_
   refine rs0 ?_
   iterate 5 refine vp ?_
   refine vn ?_
   refine sD h F (fun F h => ?_) fun F h => ?_
   refine cF ?_
   refine Wp.exit ?_
   refine sh ?_
   refine rs0 ?_
   iterate 3 refine vp ?_
   refine vn ?_
   cases h
   exact Wp.ret (enH [some 0, some 2])
   refine cT ?_
   refine Wp.skip ?_
   refine sh ?_
   refine Wp.seq ?_
   refine Wp.block ?_
   refine rs0 ?_
   iterate 3 refine vp ?_
   refine eI h F fun x725 F h => ?_
   iterate 4 refine vp ?_
   obtain ⟨⟨r727, q728⟩, hr726, h⟩ := obind h
   dsimp only at h
   refine vh [2] (Hslf_ref14_check_v2 hr726) ?_
   iterate 5 refine vp ?_
   refine vn ?_
   refine Wp.seq ?_
   refine rs0 ?_
   iterate 2 refine vp ?_
   refine vn ?_
   refine sB h F (fun F h => ?_) fun F h => ?_
   refine cF ?_
   refine Wp.skip ?_
   refine sh ?_
   refine rg0 ?_
   iterate 2 refine vp ?_
   refine vn ?_
   refine sh ?_
   refine rg0 ?_
   iterate 3 refine vp ?_
   refine vn ?_
   exact nx [some 0, some 1, some 3] ((IntKind.i64.wrap (p719 + 1)), q728) h
   refine cT ?_
   refine rs0 ?_
   iterate 4 refine vp ?_
   refine vn ?_
   cases h
   exact Wp.ret (enH [some 0, some 3])
   refine rs0 ?_
   refine vp ?_
   refine vn ?_
   refine Wp.block ?_
   refine lp [some 0, some 1] (fun p730 : Int => { ch := [(1, .int .i64 a1), (2, .sl 0 0 l0.length), (3, .hptr 1 0 0), (9, .int .i64 p730)], hp := [.arr 1 l0.length (rw (l0.map (cI .i64))), .var [.int .i64 _append0.Kind, .int .i64 _append0.N, aL cRef14Tree _append0.Kids]], base := 1, n := 109, cond := True, gl := G0 }) (fun m x => ref14_check_v2_L4 n _append0 a1 l0 (ref14_check_v2 n) m x = some r) n 0 h ?_
   rintro rec_n4 p730 h
   dsimp only [ref14_check_v2_L4] at h
   try dsimp only
   refine Wp.seq ?_
   refine rs0 ?_
   iterate 5 refine vp ?_
   refine vn ?_
   refine sD h F (fun F h => ?_) fun F h => ?_
   refine cF ?_
   refine Wp.exit ?_
   exact nx [some 0, some 1] () h
   refine cT ?_
   refine Wp.skip ?_
   refine sh ?_
   refine Wp.seq ?_
   refine Wp.block ?_
   refine dw (fun _ => false) [1] ?_
   refine du 3 ?_
   refine eI h F fun x732 F h => ?_
   refine du 6 ?_
   refine dn ?_
   refine sB h F (fun F h => ?_) fun F h => ?_
   refine cF ?_
   refine Wp.skip ?_
   refine sh ?_
   refine rg0 ?_
   iterate 3 refine vp ?_
   refine vn ?_
   exact nx [some 0, some 1] (IntKind.i64.wrap (p730 + 1)) h
   refine cT ?_
   refine rs0 ?_
   iterate 3 refine vp ?_
   refine vn ?_
   cases h
   exact Wp.ret (enH [some 0, some 0])
   refine cT ?_
   refine rs0 ?_
   iterate 3 refine vp ?_
   refine vn ?_
   cases h
   exact Wp.ret (enH [some 0, some 0])
   refine cT ?_
   refine rs0 ?_
   iterate 3 refine vp ?_
   refine vn ?_
   cases h
   exact Wp.ret (enH [some 0, some 0])
   refine cT ?_
   refine Wp.seq ?_
   refine rs0 ?_
   iterate 4 refine vp ?_
   refine vn ?_
   refine sD h F (fun F h => ?_) fun F h => ?_
   refine cF ?_
   refine Wp.skip ?_
   refine sh ?_
   refine Wp.seq ?_
   refine rs0 ?_
   iterate 4 refine vp ?_
   refine sD h F (fun F h => ?_) fun F h => ?_
   refine vg ?_
   refine vg ?_
   refine vg ?_
   refine vg ?_
   refine vp ?_
   refine vn ?_
   refine sD h F (fun F h => ?_) fun F h => ?_
   refine cF ?_
   refine Wp.skip ?_
   refine sh ?_
   refine Wp.seq ?_
   refine rs0 ?_
   refine vp ?_
   refine vn ?_
   refine Wp.block ?_
   refine lp [some 0, some 1] (fun p700 : Int => { ch := [(2, .sl 0 0 l0.length), (3, .hptr 1 0 0), (8, .int .i64 p700)], hp := [.arr 1 l0.length (rw (l0.map (cI .i64))), .var [.int .i64 _append0.Kind, .int .i64 _append0.N, aL cRef14Tree _append0.Kids]], base := 1, n := 109, cond := True, gl := G0 }) (fun m x => ref14_check_v2_L1 _append0 l0 m x = some r) n 0 h ?_
   rintro rec_n1 p700 h
   dsimp only [ref14_check_v2_L1] at h
   try dsimp only
   refine Wp.seq ?_
   refine rs0 ?_
   iterate 4 refine vp ?_
   refine vn ?_
   refine sD h F (fun F h => ?_) fun F h => ?_
   refine cF ?_
   refine Wp.exit ?_
   refine sh ?_
   refine rs0 ?_
   iterate 4 refine vp ?_
   refine gd h F fun F h => ?_
   refine vp ?_
   refine nm (cI .i64) h F fun l706 F h => ?_
   iterate 2 refine vp ?_
   refine vn ?_
   cases h
   exact Wp.ret (enH [some 0, some 2])
   refine cT ?_
   refine Wp.skip ?_
   refine sh ?_
   refine Wp.seq ?_
   refine Wp.block ?_
   refine dw (fun _ => false) [0, 1] ?_
   refine du 2 ?_
   refine eI h F fun x705 F h => ?_
   refine du 5 ?_
   refine dn ?_
   refine sB h F (fun F h => ?_) fun F h => ?_
   refine cF ?_
   refine Wp.skip ?_
   refine sh ?_
   refine rg0 ?_
   iterate 3 refine vp ?_
   refine vn ?_
   exact nx [some 0, some 1] (IntKind.i64.wrap (p700 + 1)) h
   refine cT ?_
   refine rs0 ?_
   iterate 3 refine vp ?_
   refine vn ?_
   cases h
   exact Wp.ret (enH [some 0, some 0])
   refine cT ?_
   refine rs0 ?_
   iterate 3 refine vp ?_
   refine vn ?_
   cases h
   exact Wp.ret (enH [some 0, some 0])
   refine vs ?_
   refine vs ?_
   refine vs ?_
   refine vs ?_
   refine vp ?_
   refine vn ?_
   refine cT ?_
   refine rs0 ?_
   iterate 3 refine vp ?_
   refine vn ?_
   cases h
   exact Wp.ret (enH [some 0, some 0])
   refine cT ?_
   refine rs0 ?_
   iterate 3 refine vp ?_
   refine vn ?_
   cases h
   exact Wp.ret (enH [some 0, some 0])
   refine cT ?_
   refine rs0 ?_
   iterate 3 refine vp ?_
   refine vn ?_
   cases h
   exact Wp.ret (enH [some 0, some 0])
   refine vs ?_
   refine vs ?_
   refine vs ?_
   refine vp ?_
   refine vn ?_
   refine cT ?_
   refine rs0 ?_
   iterate 3 refine vp ?_
   refine vn ?_
   cases h
   exact Wp.ret (enH [some 0, some 0])

theorem con_law14_Of (n : Nat) : ∀ {t0 : TreeTree} {r : Ref14Tree}, law14_Of n t0 = some r → Con Tryd.prog G0 12 [.agg [.int .i64 t0.Kind, .int .i64 t0.N, aL cTreeTree t0.Kids]] (.agg [.int .i64 r.Kind, .int .i64 r.N, aL cRef14Tree r.Kids]) [] := by
  induction n with
  | zero => intro t0 r h; simp [law14_Of] at h
  | succ n Hslf_law14_Of =>
   intro t0 r h
   refine con_of (T := TT0) tt_ok Tryd.func12 (c := _) (by unfold Tryd.f12; rfl) Tryd.ntmps12 (rs := [.cell 2 35]) (by rw [Tryd.results12]) (by unfold Tryd.f12; rfl) (by simp) ?_
   simp only [argsCh]
   have F := True.intro
   dsimp only [law14_Of] at h
   refine rs0 ?_
   iterate 2 refine vp ?_
   refine vn ?_
   refine rs0 ?_
   iterate 7 refine vp ?_
   refine vn ?_
   refine Wp.seq ?_
   refine rs0 ?_
   iterate 4 refine vp ?_
   refine vn ?_
   refine Wp.block ?_
   refine lp [some 1, some 2, none] (fun x : Int × (List Ref14Tree) => { ch := [(2, .hptr 0 0 0), (3, .hptr 1 0 0), (12, aL cTreeTree t0.Kids), (13, .int .i64 (t0.Kids.length : Int)), (14, .int .i64 x.1)], hp := [.var [.int .i64 0, .int .i64 0, .nilsl], .var [.int .i64 t0.Kind, .int .i64 t0.N, .sl 2 0 x.2.length], .arr 3 x.2.length (rw (x.2.map cRef14Tree))], base := 0, n := 27, cond := True, gl := G0 }) (fun m x => law14_Of_L1 t0 (law14_Of n) m x.1 x.2 = some r) n (0, []) h ?_
   rintro rec_n1 ⟨p520, p521⟩ h
   dsimp only [law14_Of_L1] at h
   try dsimp only
   refine rs0 ?_
   refine vp ?_
   refine vn ?_
   refine Wp.seq ?_
   refine sD h F (fun F h => ?_) fun F h => ?_
   refine cF ?_
   refine Wp.exit ?_
   refine sh ?_
   refine rs0 ?_
   iterate 2 refine vp ?_
   refine vn ?_
   cases h
   exact Wp.ret en0
   refine cT ?_
   refine Wp.skip ?_
   refine sh ?_
   refine Wp.seq ?_
   refine Wp.block ?_
   refine rs0 ?_
   refine eI h F fun x526 F h => ?_
   iterate 4 refine vp ?_
   refine vn ?_
   refine dw1 (fun d => Nat.beq d 23 || Nat.beq d 1023) [1, 2, 3] ?_
   refine du 3 ?_
   obtain ⟨r528, hr527, h⟩ := obind h
   refine dc (Hslf_law14_Of hr527) ?_
   refine du 1 ?_
   refine gd h F fun F h => ?_
   refine db ?_
   refine nm cRef14Tree h F fun l529 F h => ?_
   refine du 1 ?_
   refine db ?_
   refine dn ?_
   refine sh ?_
   refine rg0 ?_
   iterate 2 refine vp ?_
   refine vn ?_
   exact nx [some 0, some 1, some 4] ((IntKind.i64.wrap (p520 + 1)), l529) h

theorem con_tree_Tree_eval_1 {slf_tree_Tree_eval : TreeTree → (List Bool) → Option (Bool)} (Hslf_tree_Tree_eval : ∀ {t0 : TreeTree} {on1 : List Bool} {r : Bool}, slf_tree_Tree_eval t0 on1 = some r → Con Tryd.prog G0 27 [.agg [.int .i64 t0.Kind, .int .i64 t0.N, aL cTreeTree t0.Kids], aL cB on1] (.bool r) []) {n : Nat} {k0 : TreeTree} {b0 : List Bool} {r : Bool} (h : tree_Tree_eval_1 slf_tree_Tree_eval n k0 b0 = some r) : ConH Tryd.prog G0 34 [.agg [.int .i64 k0.Kind, .int .i64 k0.N, aL cTreeTree k0.Kids], .hptr 0 0 0] [.var [aL cB b0]] (.bool r) [.var [aL cB b0]] := by
  refine conH_of (T := TT0) tt_ok Tryd.func34 (c := _) (by unfold Tryd.f34; rfl) Tryd.ntmps34 (rs := [.tmp 3]) (by rw [Tryd.results34]) (by unfold Tryd.f34; rfl) (by simp) (k := 1) rfl rfl ?_
  try simp only [argsCh]
  have F := True.intro
  dsimp only [tree_Tree_eval_1] at h
  refine rs0 ?_
  iterate 2 refine vp ?_
  refine vn ?_
  refine rs0 ?_
  iterate 2 refine vp ?_
  obtain ⟨r275, hr274, h⟩ := obind h
  refine vc (Hslf_tree_Tree_eval hr274) ?_
  refine vp ?_
  refine vn ?_
  cases h
  exact Wp.ret (enH [some 0])

theorem con_strings_Join {n : Nat} {l : List Str} {sep : Str} {r : Str} (h : strings_Join n l sep = some r) : Con Tryd.prog G0 33 [aL cS l, .str sep] (.str r) [] := by
  unfold strings_Join at h
  split at h
  · rename_i hi
    cases h
    refine con_below ⟨_, Tryd.func33, rfl, by decide⟩ fun E w vals hh ha => ?_
    obtain ⟨x, y, rfl, hx, hy⟩ := args_two ha
    cases hy.str'
    rcases rep_strs hh hx with ⟨rfl, a, c, rfl⟩ | ⟨b, o, c, rfl, hb, hc, hcells⟩
    · refine ⟨_, fun w' => .str _, (Tryd.strings_Join_none a c sep w).mono fun e w' ⟨he, hw⟩ => ?_⟩
      subst hw
      exact ⟨he, Go.RowKit.Below.refl _ _⟩
    · exact ⟨_, fun w' => .str _, Tryd.strings_Join b o c l sep w hcells hb hi.1 hc (by simpa [joinS, Lib.join, ByteArray.size] using hi.2)⟩
  · cases h

end Go.Proofs.YtfghchpnolfllaaDoor
