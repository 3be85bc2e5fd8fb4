/- Contracts: models of functions are right. No law is proved here. -/
import Derived.Test.YtaebdeidbibfkaaGreatDoorUGMod
import Derived.Test.YtaebdeidbibfkaaGreatDoorUTau
import Derived.Test.YtaebdeidbibfkaaGreatDoorUSoz
import Derived.Test.YtaebdeidbibfkaaGreatDoorUShz
namespace Go.Proofs.YtaebdeidbibfkaaGreatDoor
open Go.Av Go.G
attribute [-simp] Int.natCast_tdiv_eq_ediv
attribute [local simp] runf guardA opf St.ev Go.Av.look St.setd constAV constAV0 opBin opLen intBin St.need lookT TT0 tab resA resOne resAll blt_dec ble_dec beq_dec isPure
attribute [local simp] opMakeSlice opCopy opIndexAddr opLoad opStore St.mem St.rows opUn calleeA toArgs toArg toArg0 toArgs0 shift shift0 shift1 splice cellsOf isFree ofCells TS.isAgg isCell strBin opConvert
attribute [local simp] opSlice3 opClear fz_clear opBuildSlice fillA opAppend eqC eqA cksB ckB St.newBox runI valKind withinB readsHp refsD refs noSl opFieldAddr opBuild opMax opMin placeOf Op.operands Call.operands opIndex opExtract opSlice opField partA
attribute [local simp] loA hiA lenA opMakeMap opLookup opMapUpdate keyOk findA_int findA_str findA_bool putA_strB putA_strI putA_strS putA_intB putA_intI putA_intS putA_boolI putA_boolB byteRow_rwN bytesOf_rwN opBytesStr mAV_length mAV_nil cA1 cA2 cA3 cA4 opNilCheck opMakeFunc opRange
attribute [local simp] aL cI cB cS cL rw_map fz_rw fz_const dropRow_rw fz_append fz_set fz_copy fz_rows rowLen_rw rowsLen_nil rowsLen_cons rowsLen_append rowsLen_map rowsLen_dm rowsLen_tm rowsLen_take rowsLen_drop rowsLen_replicate take_map_len take_map_le drop_map_len take_drop_len chunks isScalar isScalar0
attribute [local simp] putBack putAt objMap mapC mapA mapT map0 bid rid memB passed closedB argsH argH argH0 argsH0 objIds ids0 idsC isLocT isLocA isLocC isLoc0 LocObj
attribute [local congr] bind_congr1 map_congr1 cond_congr1
attribute [local simp] cApiAddr cApiContact cApiCoil cApiRung cReducePair cReduceEdge cRef15Edge cTreeTree_eq TreeTree_Kind_mk TreeTree_N_mk TreeTree_Kids_mk eta_TreeTree cRef14Tree_eq Ref14Tree_Kind_mk Ref14Tree_N_mk Ref14Tree_Kids_mk eta_Ref14Tree
variable [Drawn]
set_option maxHeartbeats 4000000
set_option linter.unusedSectionVars false
set_option maxRecDepth 20000
set_option linter.unusedSimpArgs false
set_option linter.unusedVariables false

theorem con_graph_Nodes_o0 {n : Nat} {r_0 : ApiRung} {r : (List Str)} (h : graph_Nodes_o0 n r_0 = some r) : Con Tryz.prog G0 97 [.agg (cApiRung r_0)] (.sl 0 0 r.length) [.arr 1 r.length (rw (r.map cS))] := by
  refine con_of (T := TT0) tt_ok Tryz.func97 (c := _) (by unfold Tryz.f97; rfl) Tryz.ntmps97 (rs := [.tmp 2]) (by rw [Tryz.results97]) (by unfold Tryz.f97; rfl) (by simp) ?_
  simp only [argsCh]
  have F := True.intro
  dsimp only [graph_Nodes_o0] at h
  refine rs0 ?_
  iterate 2 refine vp ?_
  refine vn ?_
  refine rs (fun d => Nat.beq d 9) ?_
  refine vp ?_
  refine nl cS h F fun l2326 m F h => ?_
  try simp only [m]
  clear m
  refine vp ?_
  refine vn ?_
  refine rs0 ?_
  iterate 5 refine vp ?_
  refine vn ?_
  refine Wp.seq ?_
  refine rs0 ?_
  iterate 4 refine vp ?_
  refine vn ?_
  refine Wp.block ?_
  refine lp [some 1, some 2] (fun x : Int × (List Str) × (List (Str × Bool)) => { ch := [(3, .sl 0 0 x.2.1.length), (4, .mp 1), (13, aL cApiContact r_0.Contacts), (14, .int .i64 (r_0.Contacts.length : Int)), (15, .int .i64 x.1)], hp := [.arr 1 x.2.1.length (rw (x.2.1.map cS)), .map (mAV AV.str cB x.2.2)], base := 0, n := 42, cond := True, gl := G0 }) (fun m x => graph_Nodes_o0_L1 n r_0 m x.1 x.2.1 x.2.2 = some r) n (0, l2326, (mPut (mPut ([]) (⟨#[76]⟩ : Str) true) (⟨#[82]⟩ : Str) true)) h ?_
  rintro rec_n1 ⟨p2338, l2339, p2340⟩ h
  dsimp only [graph_Nodes_o0_L1] at h
  try dsimp only
  refine rs0 ?_
  refine vp ?_
  refine vn ?_
  refine Wp.seq ?_
  refine sD h F (fun F h => ?_) fun F h => ?_
  refine cF ?_
  refine Wp.exit ?_
  refine sh ?_
  refine rs0 ?_
  iterate 2 refine vp ?_
  refine vn ?_
  cases h
  exact Wp.ret (enH [some 0])
  refine cT ?_
  refine Wp.skip ?_
  refine sh ?_
  refine Wp.seq ?_
  refine Wp.block ?_
  refine rs0 ?_
  refine eI h F fun x2352 F h => ?_
  iterate 4 refine vp ?_
  refine vn ?_
  refine rs0 ?_
  iterate 5 refine vp ?_
  refine nl cS h F fun l2353 m F h => ?_
  try simp only [m]
  clear m
  iterate 2 refine vp ?_
  refine vn ?_
  refine Wp.block ?_
  refine lp [some 0, some 1] (fun x : Int × (List Str) × (List (Str × Bool)) => { ch := [(3, .sl 0 0 x.2.1.length), (4, .mp 1), (13, aL cApiContact r_0.Contacts), (14, .int .i64 (r_0.Contacts.length : Int)), (15, .int .i64 p2338), (23, aL cS l2353), (24, .int .i64 (l2353.length : Int)), (25, .int .i64 x.1)], hp := [.arr 1 x.2.1.length (rw (x.2.1.map cS)), .map (mAV AV.str cB x.2.2)], base := 0, n := 42, cond := True, gl := G0 }) (fun m x => graph_Nodes_o0_L2 p2338 (graph_Nodes_o0_L1 n r_0 rec_n1) l2353 m x.1 x.2.1 x.2.2 = some r) n (0, l2339, p2340) h ?_
  rintro rec_n2 ⟨p2356, l2357, p2358⟩ h
  dsimp only [graph_Nodes_o0_L2] at h
  try dsimp only
  refine rs0 ?_
  refine vp ?_
  refine vn ?_
  refine Wp.seq ?_
  refine sD h F (fun F h => ?_) fun F h => ?_
  refine cF ?_
  refine Wp.exit ?_
  refine sh ?_
  refine rg0 ?_
  iterate 2 refine vp ?_
  refine vn ?_
  exact nx [some 0, some 1] ((IntKind.i64.wrap (p2338 + 1)), l2357, p2358) h
  refine cT ?_
  refine Wp.skip ?_
  refine sh ?_
  refine Wp.seq ?_
  refine Wp.block ?_
  refine rs0 ?_
  refine eI h F fun x2361 F h => ?_
  iterate 3 refine vp ?_
  refine vn ?_
  refine rs0 ?_
  iterate 4 refine vp ?_
  refine vn ?_
  refine sB h F (fun F h => ?_) fun F h => ?_
  refine cF ?_
  refine Wp.skip ?_
  refine sh ?_
  refine rg0 ?_
  iterate 2 refine vp ?_
  refine vn ?_
  exact nx [some 0, some 1] ((IntKind.i64.wrap (p2356 + 1)), l2357, p2358) h
  refine cT ?_
  refine rs0 ?_
  iterate 3 refine vp ?_
  refine vn ?_
  refine rg0 ?_
  iterate 3 refine vp ?_
  refine gd h F fun F h => ?_
  refine vp ?_
  refine nm cS h F fun l2362 F h => ?_
  refine vp ?_
  refine vn ?_
  refine sh ?_
  refine rg0 ?_
  iterate 2 refine vp ?_
  refine vn ?_
  exact nx [some 2, some 1] ((IntKind.i64.wrap (p2356 + 1)), l2362, (mPut p2358 x2361 true)) h

theorem con_ref15_many {n : Nat} {l0 : List Ref15Edge} {node1 : Str} {r : Int × Int} (h : ref15_many n l0 node1 = some r) : Con Tryz.prog G0 77 [aL cRef15Edge l0, .str node1] (.tup [.int .i64 r.1, .int .i64 r.2]) [] := by
  refine con_of (T := TT0) tt_ok Tryz.func77 (c := _) (by unfold Tryz.f77; rfl) Tryz.ntmps77 (rs := [.tmp 4, .tmp 5]) (by rw [Tryz.results77]) (by unfold Tryz.f77; rfl) (by simp) ?_
  simp only [argsCh]
  have F := True.intro
  dsimp only [ref15_many] at h
  refine rs0 ?_
  iterate 2 refine vp ?_
  refine vn ?_
  refine rs0 ?_
  refine vp ?_
  refine vn ?_
  refine rs0 ?_
  refine vp ?_
  refine vn ?_
  refine Wp.seq ?_
  refine rs0 ?_
  refine vp ?_
  refine vn ?_
  refine Wp.block ?_
  refine lp [] (fun x : Int × Int × Int => { ch := [(0, aL cRef15Edge l0), (1, .str node1), (6, .int .i64 x.1), (7, .int .i64 x.2.1), (8, .int .i64 x.2.2)], hp := [], base := 0, n := 35, cond := True, gl := G0 }) (fun m x => ref15_many_L1 l0 node1 m x.1 x.2.1 x.2.2 = some r) n (0, 0, 0) h ?_
  rintro rec_n1 ⟨p9715, p9716, p9717⟩ h
  dsimp only [ref15_many_L1] at h
  try dsimp only
  refine Wp.seq ?_
  refine rs0 ?_
  iterate 4 refine vp ?_
  refine vn ?_
  refine sD h F (fun F h => ?_) fun F h => ?_
  refine cF ?_
  refine Wp.exit ?_
  refine sh ?_
  refine rs0 ?_
  iterate 4 refine vp ?_
  refine vn ?_
  cases h
  exact Wp.ret en0
  refine cT ?_
  refine Wp.skip ?_
  refine sh ?_
  refine Wp.seq ?_
  refine Wp.block ?_
  refine jn (fun p9723 : Int => { ch := [(0, aL cRef15Edge l0), (1, .str node1), (6, .int .i64 p9723), (7, .int .i64 p9716), (8, .int .i64 p9717)], hp := [], base := 0, n := 35, cond := True, gl := G0 }) (fun x => ref15_many_J2 l0 node1 p9716 p9717 (ref15_many_L1 l0 node1 rec_n1) x = some r) ?_ ?_
  clear h
  rintro p9723 h
  dsimp only [ref15_many_J2] at h
  try dsimp only
  refine rs0 ?_
  iterate 2 refine vp ?_
  refine eI h F fun x9724 F h => ?_
  iterate 5 refine vp ?_
  refine vn ?_
  refine sE h F (fun _ F h => ?_) fun _ F h => ?_
  refine cF ?_
  refine Wp.skip ?_
  refine sh ?_
  refine rg0 ?_
  iterate 3 refine vp ?_
  refine vn ?_
  exact nx [] (p9723, p9716, (IntKind.i64.wrap (p9717 + 1))) h
  refine cT ?_
  refine rg0 ?_
  iterate 3 refine vp ?_
  refine vn ?_
  refine sh ?_
  refine rg0 ?_
  iterate 3 refine vp ?_
  refine vn ?_
  exact nx [] (p9723, (IntKind.i64.wrap (p9716 + 1)), (IntKind.i64.wrap (p9717 + 1))) h
  refine rs0 ?_
  iterate 2 refine vp ?_
  refine eI h F fun x9725 F h => ?_
  iterate 5 refine vp ?_
  refine vn ?_
  refine sE h F (fun _ F h => ?_) fun _ F h => ?_
  refine cF ?_
  refine Wp.skip ?_
  exact nx [] p9715 h
  refine cT ?_
  refine rg0 ?_
  iterate 3 refine vp ?_
  refine vn ?_
  exact nx [] (IntKind.i64.wrap (p9715 + 1)) h

theorem con_ref15_without_o0 {n : Nat} {l0 : List Ref15Edge} {i_1 : Int} {k2 : Int} {r : (List Ref15Edge)} (h : ref15_without_o0 n l0 i_1 k2 = some r) : Con Tryz.prog G0 76 [aL cRef15Edge l0, .int .i64 i_1, .int .i64 k2] (.sl 0 0 r.length) [.arr 5 r.length (rw (r.map cRef15Edge))] := by
  refine con_of (T := TT0) tt_ok Tryz.func76 (c := _) (by unfold Tryz.f76; rfl) Tryz.ntmps76 (rs := [.tmp 6]) (by rw [Tryz.results76]) (by unfold Tryz.f76; rfl) (by simp) ?_
  simp only [argsCh]
  have F := True.intro
  dsimp only [ref15_without_o0] at h
  refine rs0 ?_
  refine vp ?_
  refine vn ?_
  refine rs0 ?_
  refine vp ?_
  refine vn ?_
  refine Wp.seq ?_
  refine rs0 ?_
  refine vp ?_
  refine vn ?_
  refine Wp.block ?_
  refine lp [none] (fun x : (List Ref15Edge) × Int => { ch := [(0, aL cRef15Edge l0), (1, .int .i64 i_1), (2, .int .i64 k2), (7, .sl 0 0 x.1.length), (8, .int .i64 x.2)], hp := [.arr 5 x.1.length (rw (x.1.map cRef15Edge))], base := 0, n := 31, cond := True, gl := G0 }) (fun m x => ref15_without_o0_L1 l0 i_1 k2 m x.1 x.2 = some r) n ([], 0) h ?_
  rintro rec_n1 ⟨p9467, p9468⟩ h
  dsimp only [ref15_without_o0_L1] at h
  try dsimp only
  refine Wp.seq ?_
  refine rs0 ?_
  iterate 4 refine vp ?_
  refine vn ?_
  refine sD h F (fun F h => ?_) fun F h => ?_
  refine cF ?_
  refine Wp.exit ?_
  refine sh ?_
  refine rs0 ?_
  iterate 2 refine vp ?_
  refine vn ?_
  cases h
  exact Wp.ret (enH [some 0])
  refine cT ?_
  refine Wp.skip ?_
  refine sh ?_
  refine Wp.seq ?_
  refine Wp.block ?_
  refine rs0 ?_
  iterate 4 refine vp ?_
  refine sB h F (fun F h => ?_) fun F h => ?_
  refine vs ?_
  refine vs ?_
  refine vs ?_
  refine vp ?_
  refine vn ?_
  refine cF ?_
  refine Wp.skip ?_
  refine sh ?_
  refine rg0 ?_
  iterate 3 refine vp ?_
  refine vn ?_
  exact nx [some 0] (p9467, (IntKind.i64.wrap (p9468 + 1))) h
  refine vg ?_
  refine vg ?_
  refine vg ?_
  refine vp ?_
  refine vn ?_
  refine sB h F (fun F h => ?_) fun F h => ?_
  refine cF ?_
  refine Wp.skip ?_
  refine sh ?_
  refine rg0 ?_
  iterate 3 refine vp ?_
  refine vn ?_
  exact nx [some 0] (p9467, (IntKind.i64.wrap (p9468 + 1))) h
  refine cT ?_
  refine rg (fun d => Nat.beq d 29) ?_
  iterate 3 refine vp ?_
  refine eI h F fun x9471 F h => ?_
  iterate 3 refine vp ?_
  refine gd h F fun F h => ?_
  refine vp ?_
  refine nm cRef15Edge h F fun l9472 F h => ?_
  refine vp ?_
  refine vn ?_
  refine sh ?_
  refine rg0 ?_
  iterate 3 refine vp ?_
  refine vn ?_
  exact nx [some 1] (l9472, (IntKind.i64.wrap (p9468 + 1))) h

theorem con_slices_Index_string {n : Nat} {s0 : List Str} {v1 : Str} {r : Int} (h : slices_Index_string n s0 v1 = some r) : Con Tryz.prog G0 139 [aL cS s0, .str v1] (.int .i64 r) [] := by
  refine con_of (T := TT0) tt_ok Tryz.func139 (c := _) (by unfold Tryz.f139; rfl) Tryz.ntmps139 (rs := [.tmp 4]) (by rw [Tryz.results139]) (by unfold Tryz.f139; rfl) (by simp) ?_
  simp only [argsCh]
  have F := True.intro
  dsimp only [slices_Index_string] at h
  refine rs0 ?_
  refine vp ?_
  refine vn ?_
  refine Wp.seq ?_
  refine rs0 ?_
  iterate 3 refine vp ?_
  refine vn ?_
  refine Wp.block ?_
  refine lp [] (fun p3387 : Int => { ch := [(0, aL cS s0), (1, .str v1), (7, .int .i64 (s0.length : Int)), (8, .int .i64 p3387)], hp := [], base := 0, n := 19, cond := True, gl := G0 }) (fun m x => slices_Index_string_L1 s0 v1 m x = some r) n 0 h ?_
  rintro rec_n1 p3387 h
  dsimp only [slices_Index_string_L1] at h
  try dsimp only
  refine rs0 ?_
  refine vp ?_
  refine vn ?_
  refine Wp.seq ?_
  refine sD h F (fun F h => ?_) fun F h => ?_
  refine cF ?_
  refine Wp.exit ?_
  refine sh ?_
  refine rs0 ?_
  refine vp ?_
  refine vn ?_
  cases h
  exact Wp.ret en0
  refine cT ?_
  refine Wp.skip ?_
  refine sh ?_
  refine Wp.seq ?_
  refine Wp.block ?_
  refine rs0 ?_
  iterate 2 refine vp ?_
  refine vn ?_
  refine rs0 ?_
  iterate 3 refine vp ?_
  refine eI h F fun x3389 F h => ?_
  iterate 3 refine vp ?_
  refine vn ?_
  refine sE h F (fun _ F h => ?_) fun _ F h => ?_
  refine cF ?_
  refine Wp.skip ?_
  refine sh ?_
  refine rg0 ?_
  iterate 2 refine vp ?_
  refine vn ?_
  exact nx [] (IntKind.i64.wrap (p3387 + 1)) h
  refine cT ?_
  refine rs0 ?_
  iterate 2 refine vp ?_
  refine vn ?_
  cases h
  exact Wp.ret en0

theorem con_ref12_has {n : Nat} {l0 : List Str} {s1 : Str} {r : Bool} (h : ref12_has n l0 s1 = some r) : Con Tryz.prog G0 113 [aL cS l0, .str s1] (.bool r) [] := by
  refine con_of (T := TT0) tt_ok Tryz.func113 (c := _) (by unfold Tryz.f113; rfl) Tryz.ntmps113 (rs := [.tmp 4]) (by rw [Tryz.results113]) (by unfold Tryz.f113; rfl) (by simp) ?_
  simp only [argsCh]
  have F := True.intro
  dsimp only [ref12_has] at h
  refine rs0 ?_
  refine vp ?_
  refine vn ?_
  refine Wp.seq ?_
  refine rs0 ?_
  refine vp ?_
  refine vn ?_
  refine Wp.block ?_
  refine lp [] (fun p7444 : Int => { ch := [(0, aL cS l0), (1, .str s1), (5, .int .i64 p7444)], hp := [], base := 0, n := 18, cond := True, gl := G0 }) (fun m x => ref12_has_L1 l0 s1 m x = some r) n 0 h ?_
  rintro rec_n1 p7444 h
  dsimp only [ref12_has_L1] at h
  try dsimp only
  refine Wp.seq ?_
  refine rs0 ?_
  iterate 4 refine vp ?_
  refine vn ?_
  refine sD h F (fun F h => ?_) fun F h => ?_
  refine cF ?_
  refine Wp.exit ?_
  refine sh ?_
  refine rs0 ?_
  refine vp ?_
  refine vn ?_
  cases h
  exact Wp.ret en0
  refine cT ?_
  refine Wp.skip ?_
  refine sh ?_
  refine Wp.seq ?_
  refine Wp.block ?_
  refine rs0 ?_
  iterate 2 refine vp ?_
  refine eI h F fun x7446 F h => ?_
  iterate 4 refine vp ?_
  refine vn ?_
  refine sE h F (fun _ F h => ?_) fun _ F h => ?_
  refine cF ?_
  refine Wp.skip ?_
  refine sh ?_
  refine rg0 ?_
  iterate 3 refine vp ?_
  refine vn ?_
  exact nx [] (IntKind.i64.wrap (p7444 + 1)) h
  refine cT ?_
  refine rs0 ?_
  refine vp ?_
  refine vn ?_
  cases h
  exact Wp.ret en0

theorem dec2_eq (i : Nat) (h : i < 100) : (⟨(Lib.decDigits i).toArray⟩ : Str) = dec2 i := by
  unfold dec2
  rw [Lib.decDigits]
  split
  · rfl
  · rw [Lib.decDigits, dif_pos (by omega : i / 10 < 10)]
    rfl
theorem con_strconv_Itoa {n : Nat} {i : Int} {r : Str} (h : strconv_Itoa n i = some r) : Con Tryz.prog G0 57 [.int .i64 i] (.str r) [] := by
  unfold strconv_Itoa at h
  split at h
  · rename_i hi
    cases h
    refine con_below ⟨_, Tryz.func57, rfl, by decide⟩ fun E w vals hh ha => ?_
    obtain ⟨x, rfl, hx⟩ := args_one ha
    cases hx.int'
    obtain ⟨k, rfl⟩ := Int.eq_ofNat_of_zero_le hi.1
    refine ⟨_, fun w' => .str _, (Tryz.strconv_Itoa_small k (by omega) w).mono fun e w' ⟨he, hw⟩ => ?_⟩
    subst hw
    rw [dec2_eq k (by omega)] at he
    exact ⟨he, Go.RowKit.Below.refl _ _, fun _ => Nat.le_refl _⟩
  · cases h

theorem con_cmp_isNaN_int {n : Nat} {x_0 : Int} {r : Bool} (h : cmp_isNaN_int n x_0 = some r) : Con Tryz.prog G0 111 [.int .i64 x_0] (.bool r) [] := by
  refine con_of (T := TT0) tt_ok Tryz.func111 (c := _) (by unfold Tryz.f111; rfl) Tryz.ntmps111 (rs := [.tmp 2]) (by rw [Tryz.results111]) (by unfold Tryz.f111; rfl) (by simp) ?_
  simp only [argsCh]
  have F := True.intro
  dsimp only [cmp_isNaN_int] at h
  refine rs0 ?_
  refine vp ?_
  refine vn ?_
  refine rs0 ?_
  iterate 4 refine vp ?_
  refine vn ?_
  cases h
  exact Wp.ret en0

end Go.Proofs.YtaebdeidbibfkaaGreatDoor
