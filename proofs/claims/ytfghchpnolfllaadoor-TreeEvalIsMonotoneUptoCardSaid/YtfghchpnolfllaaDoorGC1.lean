/- Contracts: models of functions are right. No law is proved here. -/
import Derived.Test.YtfghchpnolfllaaDoorGMod
import Derived.Test.YtfghchpnolfllaaDoorTab
import Derived.Test.YtfghchpnolfllaaDoorSh
import Derived.Test.YtfghchpnolfllaaDoorGC0
namespace Go.Proofs.YtfghchpnolfllaaDoor
open Go.Av Go.G
attribute [-simp] Int.natCast_tdiv_eq_ediv
attribute [local simp] runf guardA opf St.ev Go.Av.look St.setd constAV constAV0 opBin opLen intBin St.need lookT TT0 tab resA resOne resAll blt_dec ble_dec beq_dec isPure
attribute [local simp] opMakeSlice opCopy opIndexAddr opLoad opStore St.mem St.rows opUn calleeA toArgs toArg toArg0 toArgs0 shift shift0 shift1 splice cellsOf isFree ofCells TS.isAgg isCell strBin opConvert
attribute [local simp] opBuildSlice fillA opAppend eqC eqA cksB ckB St.newBox runI valKind withinB readsHp refsD refs noSl opFieldAddr opBuild opMax opMin placeOf Op.operands Call.operands opIndex opExtract opSlice opField partA
attribute [local simp] loA hiA lenA opMakeMap opLookup opMapUpdate keyOk findA_int findA_str putA_strB putA_strI putA_intB putA_intI mAV_length mAV_nil cA1 cA2 cA3 cA4 opNilCheck opMakeFunc opRange
attribute [local simp] aL cI cB cS cL rw_map fz_rw fz_const dropRow_rw fz_append fz_set fz_copy fz_rows rowLen_rw rowsLen_nil rowsLen_cons rowsLen_append rowsLen_map rowsLen_take rowsLen_drop rowsLen_replicate take_map_len take_map_le drop_map_len take_drop_len chunks isScalar isScalar0
attribute [local simp] putBack putAt objMap mapC mapA mapT map0 bid rid memB passed closedB argsH argH argH0 argsH0 objIds ids0 idsC isLocT isLocA isLocC isLoc0 LocObj
attribute [local congr] bind_congr1 map_congr1 cond_congr1
attribute [local simp] cTreeTree_eq TreeTree_Kind_mk TreeTree_N_mk TreeTree_Kids_mk eta_TreeTree cRef14Tree_eq Ref14Tree_Kind_mk Ref14Tree_N_mk Ref14Tree_Kids_mk eta_Ref14Tree
set_option maxHeartbeats 4000000
set_option maxRecDepth 20000
set_option linter.unusedSimpArgs false
set_option linter.unusedVariables false

theorem con_tree_Format (n : Nat) : ∀ {t0 : TreeTree} {r : Str}, tree_Format n t0 = some r → Con Tryd.prog G0 26 [.agg [.int .i64 t0.Kind, .int .i64 t0.N, aL cTreeTree t0.Kids]] (.str r) [] := by
  induction n with
  | zero => intro t0 r h; simp [tree_Format] at h
  | succ n Hslf_tree_Format =>
   intro t0 r h
   refine con_of (T := TT0) tt_ok Tryd.func26 (c := _) (by unfold Tryd.f26; rfl) Tryd.ntmps26 (rs := [.tmp 2]) (by rw [Tryd.results26]) (by unfold Tryd.f26; rfl) (by simp) ?_
   simp only [argsCh]
   have F := True.intro
   dsimp only [tree_Format] at h
   refine rs0 ?_
   iterate 2 refine vp ?_
   refine vn ?_
   refine Wp.seq ?_
   refine rs0 ?_
   iterate 3 refine vp ?_
   refine vn ?_
   refine sB h F (fun F h => ?_) fun F h => ?_
   refine cF ?_
   refine Wp.skip ?_
   refine sh ?_
   refine jn (fun _ : Unit => { ch := [(1, .hptr 0 0 0)], hp := [.var [.int .i64 t0.Kind, .int .i64 t0.N, aL cTreeTree t0.Kids]], base := 0, n := 48, cond := True, gl := G0 }) (fun x => tree_Format_J1 n t0 (tree_Format n) = some r) ?_ ?_
   clear h
   rintro _ h
   dsimp only [tree_Format_J1] at h
   try dsimp only
   refine rs0 ?_
   iterate 2 refine vp ?_
   refine sP h F (fun F h => ?_) fun F h => ?_
   iterate 4 refine vp ?_
   refine vn ?_
   refine rs0 ?_
   refine vp ?_
   refine vn ?_
   refine jn (fun p411 : List Str => { ch := [(3, .hptr 0 0 0), (4, .sl 1 0 p411.length)], hp := [.var [.int .u8 0, .int .u8 0], .arr 1 p411.length (rw (p411.map cS))], base := 0, n := 48, cond := True, gl := G0 }) (fun x => tree_Format_J2 n x = some r) ?_ ?_
   clear h
   rintro p411 h
   dsimp only [tree_Format_J2] at h
   try dsimp only
   refine dw (fun _ => false) [0, 1] ?_
   refine du 4 ?_
   obtain ⟨r413, hr412, h⟩ := obind h
   refine dc (con_strings_Join hr412) ?_
   refine gd h F fun F h => ?_
   refine du 4 ?_
   refine gd h F fun F h => ?_
   refine du 2 ?_
   refine dn ?_
   cases h
   exact Wp.ret en0
   refine rs0 ?_
   iterate 4 refine vp ?_
   refine vn ?_
   refine Wp.block ?_
   refine lp [some 1, none] (fun x : Int × (List Str) => { ch := [(3, .hptr 0 0 0), (4, .sl 1 0 x.2.length), (26, aL cTreeTree t0.Kids), (27, .int .i64 (t0.Kids.length : Int)), (28, .int .i64 x.1)], hp := [.var [.int .u8 0, .int .u8 0], .arr 1 x.2.length (rw (x.2.map cS))], base := 0, n := 48, cond := True, gl := G0 }) (fun m x => tree_Format_L3 n t0 (tree_Format n) m x.1 x.2 = some r) n (0, []) h ?_
   rintro rec_n3 ⟨p418, p419⟩ h
   dsimp only [tree_Format_L3] at h
   try dsimp only
   refine rs0 ?_
   refine vp ?_
   refine vn ?_
   refine Wp.seq ?_
   refine sD h F (fun F h => ?_) fun F h => ?_
   refine cF ?_
   refine Wp.exit ?_
   exact nx [some 0, some 1] p419 h
   refine cT ?_
   refine Wp.skip ?_
   refine sh ?_
   refine Wp.seq ?_
   refine Wp.block ?_
   refine rs0 ?_
   refine eI h F fun x424 F h => ?_
   iterate 4 refine vp ?_
   refine vn ?_
   refine rg (fun d => Nat.beq d 36) ?_
   iterate 2 refine vp ?_
   obtain ⟨r426, hr425, h⟩ := obind h
   refine vc (Hslf_tree_Format hr425) ?_
   refine vp ?_
   refine gd h F fun F h => ?_
   refine vp ?_
   refine nm cS h F fun l427 F h => ?_
   refine vp ?_
   refine vn ?_
   refine sh ?_
   refine rg0 ?_
   iterate 2 refine vp ?_
   refine vn ?_
   exact nx [some 0, some 3] ((IntKind.i64.wrap (p418 + 1)), l427) h
   refine sP h F (fun F h => ?_) fun F h => ?_
   iterate 4 refine vp ?_
   refine vn ?_
   refine rs0 ?_
   refine vp ?_
   refine vn ?_
   refine jn (fun p442 : List Str => { ch := [(3, .hptr 0 0 0), (4, .sl 1 0 p442.length)], hp := [.var [.int .u8 91, .int .u8 93], .arr 1 p442.length (rw (p442.map cS))], base := 0, n := 48, cond := True, gl := G0 }) (fun x => tree_Format_J4 n x = some r) ?_ ?_
   clear h
   rintro p442 h
   dsimp only [tree_Format_J4] at h
   try dsimp only
   refine dw (fun _ => false) [0, 1] ?_
   refine du 4 ?_
   obtain ⟨r444, hr443, h⟩ := obind h
   refine dc (con_strings_Join hr443) ?_
   refine gd h F fun F h => ?_
   refine du 4 ?_
   refine gd h F fun F h => ?_
   refine du 2 ?_
   refine dn ?_
   cases h
   exact Wp.ret en0
   refine rs0 ?_
   iterate 4 refine vp ?_
   refine vn ?_
   refine Wp.block ?_
   refine lp [some 1, none] (fun x : Int × (List Str) => { ch := [(3, .hptr 0 0 0), (4, .sl 1 0 x.2.length), (26, aL cTreeTree t0.Kids), (27, .int .i64 (t0.Kids.length : Int)), (28, .int .i64 x.1)], hp := [.var [.int .u8 91, .int .u8 93], .arr 1 x.2.length (rw (x.2.map cS))], base := 0, n := 48, cond := True, gl := G0 }) (fun m x => tree_Format_L5 n t0 (tree_Format n) m x.1 x.2 = some r) n (0, []) h ?_
   rintro rec_n5 ⟨p449, p450⟩ h
   dsimp only [tree_Format_L5] at h
   try dsimp only
   refine rs0 ?_
   refine vp ?_
   refine vn ?_
   refine Wp.seq ?_
   refine sD h F (fun F h => ?_) fun F h => ?_
   refine cF ?_
   refine Wp.exit ?_
   exact nx [some 0, some 1] p450 h
   refine cT ?_
   refine Wp.skip ?_
   refine sh ?_
   refine Wp.seq ?_
   refine Wp.block ?_
   refine rs0 ?_
   refine eI h F fun x455 F h => ?_
   iterate 4 refine vp ?_
   refine vn ?_
   refine rg (fun d => Nat.beq d 36) ?_
   iterate 2 refine vp ?_
   obtain ⟨r457, hr456, h⟩ := obind h
   refine vc (Hslf_tree_Format hr456) ?_
   refine vp ?_
   refine gd h F fun F h => ?_
   refine vp ?_
   refine nm cS h F fun l458 F h => ?_
   refine vp ?_
   refine vn ?_
   refine sh ?_
   refine rg0 ?_
   iterate 2 refine vp ?_
   refine vn ?_
   exact nx [some 0, some 3] ((IntKind.i64.wrap (p449 + 1)), l458) h
   refine sP h F (fun F h => ?_) fun F h => ?_
   iterate 4 refine vp ?_
   refine vn ?_
   refine rs0 ?_
   refine vp ?_
   refine vn ?_
   refine jn (fun p473 : List Str => { ch := [(3, .hptr 0 0 0), (4, .sl 1 0 p473.length)], hp := [.var [.int .u8 123, .int .u8 125], .arr 1 p473.length (rw (p473.map cS))], base := 0, n := 48, cond := True, gl := G0 }) (fun x => tree_Format_J6 n x = some r) ?_ ?_
   clear h
   rintro p473 h
   dsimp only [tree_Format_J6] at h
   try dsimp only
   refine dw (fun _ => false) [0, 1] ?_
   refine du 4 ?_
   obtain ⟨r475, hr474, h⟩ := obind h
   refine dc (con_strings_Join hr474) ?_
   refine gd h F fun F h => ?_
   refine du 4 ?_
   refine gd h F fun F h => ?_
   refine du 2 ?_
   refine dn ?_
   cases h
   exact Wp.ret en0
   refine rs0 ?_
   iterate 4 refine vp ?_
   refine vn ?_
   refine Wp.block ?_
   refine lp [some 1, none] (fun x : Int × (List Str) => { ch := [(3, .hptr 0 0 0), (4, .sl 1 0 x.2.length), (26, aL cTreeTree t0.Kids), (27, .int .i64 (t0.Kids.length : Int)), (28, .int .i64 x.1)], hp := [.var [.int .u8 123, .int .u8 125], .arr 1 x.2.length (rw (x.2.map cS))], base := 0, n := 48, cond := True, gl := G0 }) (fun m x => tree_Format_L7 n t0 (tree_Format n) m x.1 x.2 = some r) n (0, []) h ?_
   rintro rec_n7 ⟨p480, p481⟩ h
   dsimp only [tree_Format_L7] at h
   try dsimp only
   refine rs0 ?_
   refine vp ?_
   refine vn ?_
   refine Wp.seq ?_
   refine sD h F (fun F h => ?_) fun F h => ?_
   refine cF ?_
   refine Wp.exit ?_
   exact nx [some 0, some 1] p481 h
   refine cT ?_
   refine Wp.skip ?_
   refine sh ?_
   refine Wp.seq ?_
   refine Wp.block ?_
   refine rs0 ?_
   refine eI h F fun x486 F h => ?_
   iterate 4 refine vp ?_
   refine vn ?_
   refine rg (fun d => Nat.beq d 36) ?_
   iterate 2 refine vp ?_
   obtain ⟨r488, hr487, h⟩ := obind h
   refine vc (Hslf_tree_Format hr487) ?_
   refine vp ?_
   refine gd h F fun F h => ?_
   refine vp ?_
   refine nm cS h F fun l489 F h => ?_
   refine vp ?_
   refine vn ?_
   refine sh ?_
   refine rg0 ?_
   iterate 2 refine vp ?_
   refine vn ?_
   exact nx [some 0, some 3] ((IntKind.i64.wrap (p480 + 1)), l489) h
   cases h
   refine rs0 ?_
   iterate 4 refine vp ?_
   refine sB h F (fun F h => ?_) fun F h => ?_
   refine vs ?_
   refine vs ?_
   refine vs ?_
   refine vp ?_
   refine vn ?_
   refine cF ?_
   refine Wp.skip ?_
   exact nx [some 0] () h
   refine vg ?_
   refine vg ?_
   refine vg ?_
   refine vp ?_
   refine vn ?_
   refine sB h F (fun F h => ?_) fun F h => ?_
   refine cF ?_
   refine Wp.skip ?_
   exact nx [some 0] () h
   refine cT ?_
   refine rs0 ?_
   refine vp ?_
   refine vn ?_
   cases h
   exact Wp.ret en0
   refine cT ?_
   refine rs0 ?_
   iterate 2 refine vp ?_
   obtain ⟨r396, hr395, h⟩ := obind h
   refine vc (con_strconv_Itoa hr395) ?_
   refine vp ?_
   refine vn ?_
   cases h
   exact Wp.ret en0

theorem con_slices_IndexFunc_tree_Tree_c34 {slf_tree_Tree_eval : TreeTree → (List Bool) → Option (Bool)} (Hslf_tree_Tree_eval : ∀ {t0 : TreeTree} {on1 : List Bool} {r : Bool}, slf_tree_Tree_eval t0 on1 = some r → Con Tryd.prog G0 27 [.agg [.int .i64 t0.Kind, .int .i64 t0.N, aL cTreeTree t0.Kids], aL cB on1] (.bool r) []) {n : Nat} {s0 : List TreeTree} {b0 : List Bool} {r : Int} (h : slices_IndexFunc_tree_Tree_c34 slf_tree_Tree_eval n s0 b0 = some r) : ConH Tryd.prog G0 42 [aL cTreeTree s0, .clos 34 [] [.hptr 0 0 0]] [.var [aL cB b0]] (.int .i64 r) [.var [aL cB b0]] := by
  refine conH_of (T := TT0) tt_ok Tryd.func42 (c := _) (by unfold Tryd.f42; rfl) Tryd.ntmps42 (rs := [.tmp 4]) (by rw [Tryd.results42]) (by unfold Tryd.f42; rfl) (by simp) (k := 1) rfl rfl ?_
  try simp only [argsCh]
  have F := True.intro
  dsimp only [slices_IndexFunc_tree_Tree_c34] at h
  refine rs0 ?_
  refine vp ?_
  refine vn ?_
  refine Wp.seq ?_
  refine rs0 ?_
  iterate 3 refine vp ?_
  refine vn ?_
  refine Wp.block ?_
  refine lp [some 0] (fun p318 : Int => { ch := [(0, aL cTreeTree s0), (1, .clos 34 [] [.hptr 0 0 0]), (7, .int .i64 (s0.length : Int)), (8, .int .i64 p318)], hp := [.var [aL cB b0]], base := 1, n := 19, cond := True, gl := G0 }) (fun m x => slices_IndexFunc_tree_Tree_c34_L1 n s0 b0 slf_tree_Tree_eval m x = some r) n 0 h ?_
  rintro rec_n1 p318 h
  dsimp only [slices_IndexFunc_tree_Tree_c34_L1] at h
  try dsimp only
  refine rs0 ?_
  refine vp ?_
  refine vn ?_
  refine Wp.seq ?_
  refine sD h F (fun F h => ?_) fun F h => ?_
  refine cF ?_
  refine Wp.exit ?_
  refine sh ?_
  refine rs0 ?_
  refine vp ?_
  refine vn ?_
  cases h
  exact Wp.ret (enH [some 0])
  refine cT ?_
  refine Wp.skip ?_
  refine sh ?_
  refine Wp.seq ?_
  refine Wp.block ?_
  refine rs0 ?_
  iterate 2 refine vp ?_
  refine vn ?_
  refine rs0 ?_
  iterate 3 refine vp ?_
  refine eI h F fun x322 F h => ?_
  iterate 2 refine vp ?_
  obtain ⟨r324, hr323, h⟩ := obind h
  refine vh [0] (con_tree_Tree_eval_1 Hslf_tree_Tree_eval hr323) ?_
  refine vn ?_
  refine sB h F (fun F h => ?_) fun F h => ?_
  refine cF ?_
  refine Wp.skip ?_
  refine sh ?_
  refine rg0 ?_
  iterate 2 refine vp ?_
  refine vn ?_
  exact nx [some 0] (IntKind.i64.wrap (p318 + 1)) h
  refine cT ?_
  refine rs0 ?_
  iterate 2 refine vp ?_
  refine vn ?_
  cases h
  exact Wp.ret (enH [some 0])

theorem con_slices_IndexFunc_tree_Tree_c37 {n : Nat} {s0 : List TreeTree} {b0 : TreeTree} {r : Int} (h : slices_IndexFunc_tree_Tree_c37 n s0 b0 = some r) : ConH Tryd.prog G0 42 [aL cTreeTree s0, .clos 37 [] [.hptr 0 0 0]] [.var [.int .i64 b0.Kind, .int .i64 b0.N, aL cTreeTree b0.Kids]] (.int .i64 r) [.var [.int .i64 b0.Kind, .int .i64 b0.N, aL cTreeTree b0.Kids]] := by
  refine conH_of (T := TT0) tt_ok Tryd.func42 (c := _) (by unfold Tryd.f42; rfl) Tryd.ntmps42 (rs := [.tmp 4]) (by rw [Tryd.results42]) (by unfold Tryd.f42; rfl) (by simp) (k := 1) rfl rfl ?_
  try simp only [argsCh]
  have F := True.intro
  dsimp only [slices_IndexFunc_tree_Tree_c37] at h
  refine rs0 ?_
  refine vp ?_
  refine vn ?_
  refine Wp.seq ?_
  refine rs0 ?_
  iterate 3 refine vp ?_
  refine vn ?_
  refine Wp.block ?_
  refine lp [some 0] (fun p199 : Int => { ch := [(0, aL cTreeTree s0), (1, .clos 37 [] [.hptr 0 0 0]), (7, .int .i64 (s0.length : Int)), (8, .int .i64 p199)], hp := [.var [.int .i64 b0.Kind, .int .i64 b0.N, aL cTreeTree b0.Kids]], base := 1, n := 19, cond := True, gl := G0 }) (fun m x => slices_IndexFunc_tree_Tree_c37_L1 n s0 b0 m x = some r) n 0 h ?_
  rintro rec_n1 p199 h
  dsimp only [slices_IndexFunc_tree_Tree_c37_L1] at h
  try dsimp only
  refine rs0 ?_
  refine vp ?_
  refine vn ?_
  refine Wp.seq ?_
  refine sD h F (fun F h => ?_) fun F h => ?_
  refine cF ?_
  refine Wp.exit ?_
  refine sh ?_
  refine rs0 ?_
  refine vp ?_
  refine vn ?_
  cases h
  exact Wp.ret (enH [some 0])
  refine cT ?_
  refine Wp.skip ?_
  refine sh ?_
  refine Wp.seq ?_
  refine Wp.block ?_
  refine rs0 ?_
  iterate 2 refine vp ?_
  refine vn ?_
  refine rs0 ?_
  iterate 3 refine vp ?_
  refine eI h F fun x203 F h => ?_
  iterate 2 refine vp ?_
  obtain ⟨r205, hr204, h⟩ := obind h
  refine vh [0] (con_tree_Tree_check_1 hr204) ?_
  refine vn ?_
  refine sB h F (fun F h => ?_) fun F h => ?_
  refine cF ?_
  refine Wp.skip ?_
  refine sh ?_
  refine rg0 ?_
  iterate 2 refine vp ?_
  refine vn ?_
  exact nx [some 0] (IntKind.i64.wrap (p199 + 1)) h
  refine cT ?_
  refine rs0 ?_
  iterate 2 refine vp ?_
  refine vn ?_
  cases h
  exact Wp.ret (enH [some 0])

theorem con_tree_Tree_eval_2_c34 {slf_tree_Tree_eval : TreeTree → (List Bool) → Option (Bool)} (Hslf_tree_Tree_eval : ∀ {t0 : TreeTree} {on1 : List Bool} {r : Bool}, slf_tree_Tree_eval t0 on1 = some r → Con Tryd.prog G0 27 [.agg [.int .i64 t0.Kind, .int .i64 t0.N, aL cTreeTree t0.Kids], aL cB on1] (.bool r) []) {n : Nat} {k0 : TreeTree} {b1 : List Bool} {r : Bool} (h : tree_Tree_eval_2_c34 slf_tree_Tree_eval n k0 b1 = some r) : ConH Tryd.prog G0 36 [.agg [.int .i64 k0.Kind, .int .i64 k0.N, aL cTreeTree k0.Kids], .hptr 0 0 0] [.var [.clos 34 [] [.hptr 1 0 0]], .var [aL cB b1]] (.bool r) [.var [.clos 34 [] [.hptr 1 0 0]], .var [aL cB b1]] := by
  refine conH_of (T := TT0) tt_ok Tryd.func36 (c := _) (by unfold Tryd.f36; rfl) Tryd.ntmps36 (rs := [.tmp 3]) (by rw [Tryd.results36]) (by unfold Tryd.f36; rfl) (by simp) (k := 2) rfl rfl ?_
  try simp only [argsCh]
  have F := True.intro
  dsimp only [tree_Tree_eval_2_c34] at h
  refine rs0 ?_
  iterate 2 refine vp ?_
  refine vn ?_
  refine rs0 ?_
  iterate 2 refine vp ?_
  obtain ⟨r279, hr278, h⟩ := obind h
  refine vh [1] (con_tree_Tree_eval_1 Hslf_tree_Tree_eval hr278) ?_
  iterate 2 refine vp ?_
  refine vn ?_
  cases h
  exact Wp.ret (enH [some 0, some 1])

theorem con_law14_TooLarge {n : Nat} {t0 : TreeTree} {r : Int} (h : law14_TooLarge n t0 = some r) : Con Tryd.prog G0 8 [.agg [.int .i64 t0.Kind, .int .i64 t0.N, aL cTreeTree t0.Kids]] (.int .i64 r) [] := by
  refine con_of (T := TT0) tt_ok Tryd.func8 (c := _) (by unfold Tryd.f8; rfl) Tryd.ntmps8 (rs := [.tmp 2]) (by rw [Tryd.results8]) (by unfold Tryd.f8; rfl) (by simp) ?_
  simp only [argsCh]
  have F := True.intro
  dsimp only [law14_TooLarge] at h
  refine rs0 ?_
  iterate 2 refine vp ?_
  refine vn ?_
  refine Wp.seq ?_
  refine rs0 ?_
  refine vp ?_
  obtain ⟨r13, hr12, h⟩ := obind h
  refine vc (con_law14_weight _ hr12) ?_
  refine vp ?_
  refine vn ?_
  refine sD h F (fun F h => ?_) fun F h => ?_
  refine cF ?_
  refine Wp.skip ?_
  refine sh ?_
  refine rs0 ?_
  refine vp ?_
  refine vn ?_
  cases h
  exact Wp.ret en0
  refine cT ?_
  refine rs0 ?_
  refine vp ?_
  refine vn ?_
  cases h
  exact Wp.ret en0

end Go.Proofs.YtfghchpnolfllaaDoor
