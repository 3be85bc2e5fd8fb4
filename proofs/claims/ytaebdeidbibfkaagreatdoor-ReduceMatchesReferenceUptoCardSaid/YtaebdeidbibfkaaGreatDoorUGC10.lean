/- Contracts: models of functions are right. No law is proved here. -/
import Derived.Test.YtaebdeidbibfkaaGreatDoorUGMod
import Derived.Test.YtaebdeidbibfkaaGreatDoorUTau
import Derived.Test.YtaebdeidbibfkaaGreatDoorUSoz
import Derived.Test.YtaebdeidbibfkaaGreatDoorUShz
import Derived.Test.YtaebdeidbibfkaaGreatDoorUGC2
import Derived.Test.YtaebdeidbibfkaaGreatDoorUGC8
import Derived.Test.YtaebdeidbibfkaaGreatDoorUGC9
namespace Go.Proofs.YtaebdeidbibfkaaGreatDoor
open Go.Av Go.G
attribute [-simp] Int.natCast_tdiv_eq_ediv
attribute [local simp] runf guardA opf St.ev Go.Av.look St.setd constAV constAV0 opBin opLen intBin St.need lookT TT0 tab resA resOne resAll blt_dec ble_dec beq_dec isPure
attribute [local simp] opMakeSlice opCopy opIndexAddr opLoad opStore St.mem St.rows opUn calleeA toArgs toArg toArg0 toArgs0 shift shift0 shift1 splice cellsOf isFree ofCells TS.isAgg isCell strBin opConvert
attribute [local simp] opSlice3 opClear fz_clear opBuildSlice fillA opAppend eqC eqA cksB ckB St.newBox runI valKind withinB readsHp refsD refs noSl opFieldAddr opBuild opMax opMin placeOf Op.operands Call.operands opIndex opExtract opSlice opField partA
attribute [local simp] loA hiA lenA opMakeMap opLookup opMapUpdate keyOk findA_int findA_str findA_bool putA_strB putA_strI putA_strS putA_intB putA_intI putA_intS putA_boolI putA_boolB byteRow_rwN bytesOf_rwN opBytesStr mAV_length mAV_nil cA1 cA2 cA3 cA4 opNilCheck opMakeFunc opRange
attribute [local simp] aL cI cB cS cL rw_map fz_rw fz_const dropRow_rw fz_append fz_set fz_copy fz_rows rowLen_rw rowsLen_nil rowsLen_cons rowsLen_append rowsLen_map rowsLen_dm rowsLen_tm rowsLen_take rowsLen_drop rowsLen_replicate take_map_len take_map_le drop_map_len take_drop_len chunks isScalar isScalar0
attribute [local simp] putBack putAt objMap mapC mapA mapT map0 bid rid memB passed closedB argsH argH argH0 argsH0 objIds ids0 idsC isLocT isLocA isLocC isLoc0 LocObj
attribute [local congr] bind_congr1 map_congr1 cond_congr1
attribute [local simp] cApiAddr cApiContact cApiCoil cApiRung cReducePair cReduceEdge cRef15Edge cTreeTree_eq TreeTree_Kind_mk TreeTree_N_mk TreeTree_Kids_mk eta_TreeTree cRef14Tree_eq Ref14Tree_Kind_mk Ref14Tree_N_mk Ref14Tree_Kids_mk eta_Ref14Tree
variable [Drawn]
set_option maxHeartbeats 4000000
set_option linter.unusedSectionVars false
set_option maxRecDepth 20000
set_option linter.unusedSimpArgs false
set_option linter.unusedVariables false

theorem con_ref15_step {n : Nat} {_append0 : List Ref15Edge} {r : (List Ref15Edge) × Bool} (h : ref15_step n _append0 = some r) : Con Tryz.prog G0 43 [aL cRef15Edge _append0] (.tup [aL cRef15Edge r.1, .bool r.2]) [] := by
  refine con_of (T := TT0) tt_ok Tryz.func43 (c := _) (by unfold Tryz.f43; rfl) Tryz.ntmps43 (rs := [.tmp 2, .tmp 3]) (by rw [Tryz.results43]) (by unfold Tryz.f43; rfl) (by simp) ?_
  simp only [argsCh]
  have F := True.intro
  dsimp only [ref15_step] at h
  refine rs0 ?_
  iterate 2 refine vp ?_
  refine vn ?_
  refine Wp.seq ?_
  refine rs0 ?_
  refine vp ?_
  refine vn ?_
  refine Wp.block ?_
  refine lp [] (fun p9881 : Int => { ch := [(0, aL cRef15Edge _append0), (4, .int .i64 p9881)], hp := [], base := 0, n := 154, cond := True, gl := G0 }) (fun m x => ref15_step_L1 n _append0 m x = some r) n 0 h ?_
  rintro rec_n1 p9881 h
  dsimp only [ref15_step_L1] at h
  try dsimp only
  refine Wp.seq ?_
  refine rs0 ?_
  iterate 4 refine vp ?_
  refine vn ?_
  refine sD h F (fun F h => ?_) fun F h => ?_
  refine cF ?_
  refine Wp.exit ?_
  refine sh ?_
  refine rs0 ?_
  iterate 3 refine vp ?_
  refine vn ?_
  cases h
  exact Wp.ret en0
  refine cT ?_
  refine Wp.skip ?_
  refine sh ?_
  refine Wp.seq ?_
  refine Wp.block ?_
  refine rs0 ?_
  refine vp ?_
  refine vn ?_
  refine Wp.block ?_
  refine lp [] (fun p10163 : Int => { ch := [(0, aL cRef15Edge _append0), (4, .int .i64 p9881), (5, .int .i64 p10163)], hp := [], base := 0, n := 154, cond := True, gl := G0 }) (fun m x => ref15_step_L2 n _append0 p9881 (ref15_step_L1 n _append0 rec_n1) m x = some r) n 0 h ?_
  rintro rec_n2 p10163 h
  dsimp only [ref15_step_L2] at h
  try dsimp only
  refine Wp.seq ?_
  refine rs0 ?_
  iterate 4 refine vp ?_
  refine vn ?_
  refine sD h F (fun F h => ?_) fun F h => ?_
  refine cF ?_
  refine Wp.exit ?_
  refine sh ?_
  refine rg0 ?_
  iterate 3 refine vp ?_
  refine vn ?_
  exact nx [] (IntKind.i64.wrap (p9881 + 1)) h
  refine cT ?_
  refine Wp.skip ?_
  refine sh ?_
  refine Wp.seq ?_
  refine Wp.block ?_
  refine jn (fun _ : Unit => { ch := [(0, aL cRef15Edge _append0), (4, .int .i64 p9881), (5, .int .i64 p10163)], hp := [], base := 0, n := 154, cond := True, gl := G0 }) (fun x => ref15_step_J3 n _append0 p9881 p10163 (ref15_step_L2 n _append0 p9881 (ref15_step_L1 n _append0 rec_n1) rec_n2) = some r) ?_ ?_
  clear h
  rintro _ h
  dsimp only [ref15_step_J3] at h
  try dsimp only
  refine Wp.seq ?_
  refine dw (fun _ => false) [] ?_
  refine du 4 ?_
  refine sB h F (fun F h => ?_) fun F h => ?_
  refine du 1 ?_
  refine du 1 ?_
  refine eI h F fun x10287 F h => ?_
  refine du 1 ?_
  refine du 1 ?_
  refine du 1 ?_
  refine du 1 ?_
  refine du 1 ?_
  refine eI h F fun x10288 F h => ?_
  refine du 1 ?_
  refine du 1 ?_
  refine du 1 ?_
  refine du 1 ?_
  refine du 2 ?_
  refine sEn h F (fun _ F h => ?_) fun _ F h => ?_
  refine du 1 ?_
  refine du 1 ?_
  refine du 1 ?_
  refine du 1 ?_
  refine du 1 ?_
  refine du 1 ?_
  refine du 2 ?_
  refine sE h F (fun _ F h => ?_) fun _ F h => ?_
  refine du 1 ?_
  refine du 1 ?_
  refine du 1 ?_
  refine du 1 ?_
  refine du 1 ?_
  refine du 1 ?_
  refine du 1 ?_
  refine dn ?_
  refine sE h F (fun _ F h => ?_) fun _ F h => ?_
  refine cF ?_
  refine Wp.skip ?_
  refine sh ?_
  refine rs0 ?_
  iterate 6 refine vp ?_
  obtain ⟨⟨r10290, r10291⟩, hr10289, h⟩ := obind h
  dsimp only at h
  refine vc (con_ref15_many hr10289) ?_
  iterate 5 refine vp ?_
  refine vn ?_
  refine rs0 ?_
  iterate 3 refine vp ?_
  refine sB h F (fun F h => ?_) fun F h => ?_
  refine vs ?_
  refine vs ?_
  refine vp ?_
  refine vn ?_
  refine cF ?_
  refine Wp.skip ?_
  refine sh ?_
  refine rg0 ?_
  iterate 3 refine vp ?_
  refine vn ?_
  exact nx [] (IntKind.i64.wrap (p10163 + 1)) h
  refine vg ?_
  refine vg ?_
  refine vp ?_
  refine vn ?_
  refine sB h F (fun F h => ?_) fun F h => ?_
  refine cF ?_
  refine Wp.skip ?_
  refine sh ?_
  refine rg0 ?_
  iterate 3 refine vp ?_
  refine vn ?_
  exact nx [] (IntKind.i64.wrap (p10163 + 1)) h
  refine cT ?_
  refine dw (fun d => Nat.beq d 128 || Nat.beq d 152 || Nat.beq d 1152) [] ?_
  refine du 3 ?_
  obtain ⟨r10293, hr10292, h⟩ := obind h
  refine dx (con_ref15_without_o0 hr10292) ?_
  refine du 8 ?_
  refine du 8 ?_
  refine du 4 ?_
  obtain ⟨r10295, hr10294, h⟩ := obind h
  refine dc (con_ref15_join hr10294) ?_
  refine du 2 ?_
  refine gd h F fun F h => ?_
  refine db ?_
  refine nm cRef15Edge h F fun l10296 F h => ?_
  refine du 2 ?_
  refine dn ?_
  cases h
  exact Wp.ret en0
  refine cT ?_
  refine Wp.exit ?_
  refine sh ?_
  refine rg0 ?_
  iterate 3 refine vp ?_
  refine vn ?_
  exact nx [] (IntKind.i64.wrap (p10163 + 1)) h
  refine ds ?_
  refine ds ?_
  refine ds ?_
  refine ds ?_
  refine ds ?_
  refine ds ?_
  refine du 1 ?_
  refine dn ?_
  refine cT ?_
  refine Wp.exit ?_
  refine sh ?_
  refine rg0 ?_
  iterate 3 refine vp ?_
  refine vn ?_
  exact nx [] (IntKind.i64.wrap (p10163 + 1)) h
  refine ds ?_
  refine ds ?_
  refine ds ?_
  refine ds ?_
  refine ds ?_
  refine ds ?_
  refine du 2 ?_
  refine ds ?_
  refine ds ?_
  refine ds ?_
  refine ds ?_
  refine ds ?_
  refine ds ?_
  refine du 1 ?_
  refine dn ?_
  refine cT ?_
  refine Wp.exit ?_
  refine sh ?_
  refine rg0 ?_
  iterate 3 refine vp ?_
  refine vn ?_
  exact nx [] (IntKind.i64.wrap (p10163 + 1)) h
  refine ds ?_
  refine ds ?_
  refine ds ?_
  refine ds ?_
  refine ds ?_
  refine ds ?_
  refine ds ?_
  refine ds ?_
  refine ds ?_
  refine ds ?_
  refine ds ?_
  refine du 2 ?_
  refine ds ?_
  refine ds ?_
  refine ds ?_
  refine ds ?_
  refine ds ?_
  refine ds ?_
  refine du 2 ?_
  refine ds ?_
  refine ds ?_
  refine ds ?_
  refine ds ?_
  refine ds ?_
  refine ds ?_
  refine du 1 ?_
  refine dn ?_
  refine cT ?_
  refine Wp.exit ?_
  refine sh ?_
  refine rg0 ?_
  iterate 3 refine vp ?_
  refine vn ?_
  exact nx [] (IntKind.i64.wrap (p10163 + 1)) h
  refine dw (fun _ => false) [] ?_
  refine du 4 ?_
  refine sD h F (fun F h => ?_) fun F h => ?_
  refine ds ?_
  refine ds ?_
  refine ds ?_
  refine ds ?_
  refine ds ?_
  refine ds ?_
  refine ds ?_
  refine ds ?_
  refine ds ?_
  refine ds ?_
  refine ds ?_
  refine du 2 ?_
  refine ds ?_
  refine ds ?_
  refine ds ?_
  refine ds ?_
  refine ds ?_
  refine ds ?_
  refine ds ?_
  refine ds ?_
  refine ds ?_
  refine ds ?_
  refine ds ?_
  refine du 1 ?_
  refine dn ?_
  refine cF ?_
  refine Wp.skip ?_
  exact nx [] () h
  refine du 1 ?_
  refine du 1 ?_
  refine eI h F fun x10297 F h => ?_
  refine du 1 ?_
  refine du 1 ?_
  refine du 1 ?_
  refine du 1 ?_
  refine du 1 ?_
  refine eI h F fun x10298 F h => ?_
  refine du 1 ?_
  refine du 1 ?_
  refine du 1 ?_
  refine du 1 ?_
  refine du 2 ?_
  refine sE h F (fun _ F h => ?_) fun _ F h => ?_
  refine ds ?_
  refine ds ?_
  refine ds ?_
  refine ds ?_
  refine ds ?_
  refine ds ?_
  refine ds ?_
  refine ds ?_
  refine ds ?_
  refine ds ?_
  refine ds ?_
  refine du 1 ?_
  refine dn ?_
  refine cF ?_
  refine Wp.skip ?_
  exact nx [] () h
  refine du 1 ?_
  refine du 1 ?_
  refine du 1 ?_
  refine du 1 ?_
  refine du 1 ?_
  refine du 1 ?_
  refine du 1 ?_
  refine du 1 ?_
  refine du 1 ?_
  refine du 1 ?_
  refine du 1 ?_
  refine du 1 ?_
  refine dn ?_
  refine sE h F (fun _ F h => ?_) fun _ F h => ?_
  refine cF ?_
  refine Wp.skip ?_
  exact nx [] () h
  refine cT ?_
  refine dw (fun d => Nat.beq d 52 || Nat.beq d 76 || Nat.beq d 1076) [] ?_
  refine du 3 ?_
  obtain ⟨r10300, hr10299, h⟩ := obind h
  refine dx (con_ref15_without_o0 hr10299) ?_
  refine du 8 ?_
  refine du 8 ?_
  refine du 4 ?_
  obtain ⟨r10302, hr10301, h⟩ := obind h
  refine dc (con_ref15_join hr10301) ?_
  refine du 2 ?_
  refine gd h F fun F h => ?_
  refine db ?_
  refine nm cRef15Edge h F fun l10303 F h => ?_
  refine du 2 ?_
  refine dn ?_
  cases h
  exact Wp.ret en0

theorem len_slices_SortFunc_tree_Tree_c70 {n : Nat} {l0 : List TreeTree} {r : List TreeTree} (h : slices_SortFunc_tree_Tree_c70 n l0 = some r) : r.length = l0.length := sortM_length h
theorem con_slices_SortFunc_tree_Tree_c70 {n : Nat} {l0 : List TreeTree} {r : List TreeTree} (h : slices_SortFunc_tree_Tree_c70 n l0 = some r) : ConH Tryz.prog G0 69 [.sl 0 0 l0.length, .clos 70 [] []] [.arr 3 l0.length (rw (l0.map cTreeTree))] (.tup []) [.arr 3 r.length (rw (r.map cTreeTree))] := by
  have hl : r.length = l0.length := sortM_length h
  rw [hl]
  exact conH_sort Tryz.sort_lays (tt_ok 30 _ rfl) rfl cTreeTree (fun x => by simp [cTreeTree_eq]) ⟨_, Tryz.func69, rfl, by decide⟩ 70 (fun a b => reduce_sorted_1 n a b) (fun a b r hr => by have := @con_reduce_sorted_1 ⟨True⟩ _ _ _ _ hr; simpa only [cTreeTree_eq] using this) l0 r h

theorem con_ref12_Ancestors {n : Nat} {r_0 : ApiRung} {node1 : Str} {r : (List Str)} (h : ref12_Ancestors n r_0 node1 = some r) : Con Tryz.prog G0 115 [.agg (cApiRung r_0), .str node1] (aL cS r) [] := by
  refine con_of (T := TT0) tt_ok Tryz.func115 (c := _) (by unfold Tryz.f115; rfl) Tryz.ntmps115 (rs := [.tmp 4]) (by rw [Tryz.results115]) (by unfold Tryz.f115; rfl) (by simp) ?_
  simp only [argsCh]
  have F := True.intro
  dsimp only [ref12_Ancestors] at h
  refine rs0 ?_
  iterate 2 refine vp ?_
  refine vn ?_
  refine rs0 ?_
  iterate 2 refine vp ?_
  obtain ⟨r8455, hr8454, h⟩ := obind h
  refine vc (con_ref12_spread hr8454) ?_
  refine vp ?_
  refine vn ?_
  cases h
  exact Wp.ret en0

end Go.Proofs.YtaebdeidbibfkaaGreatDoor
