/- Contracts: models of functions are right. No law is proved here. -/
import Derived.Test.YtfghchpnolfllaaDoorGMod
import Derived.Test.YtfghchpnolfllaaDoorTab
import Derived.Test.YtfghchpnolfllaaDoorSh
import Derived.Test.YtfghchpnolfllaaDoorGC1
import Derived.Test.YtfghchpnolfllaaDoorGC2
import Derived.Test.YtfghchpnolfllaaDoorGC5
import Derived.Test.YtfghchpnolfllaaDoorGC6
import Derived.Test.YtfghchpnolfllaaDoorGC7
namespace Go.Proofs.YtfghchpnolfllaaDoor
open Go.Av Go.G
attribute [-simp] Int.natCast_tdiv_eq_ediv
attribute [local simp] runf guardA opf St.ev Go.Av.look St.setd constAV constAV0 opBin opLen intBin St.need lookT TT0 tab resA resOne resAll blt_dec ble_dec beq_dec isPure
attribute [local simp] opMakeSlice opCopy opIndexAddr opLoad opStore St.mem St.rows opUn calleeA toArgs toArg toArg0 toArgs0 shift shift0 shift1 splice cellsOf isFree ofCells TS.isAgg isCell strBin opConvert
attribute [local simp] opBuildSlice fillA opAppend eqC eqA cksB ckB St.newBox runI valKind withinB readsHp refsD refs noSl opFieldAddr opBuild opMax opMin placeOf Op.operands Call.operands opIndex opExtract opSlice opField partA
attribute [local simp] loA hiA lenA opMakeMap opLookup opMapUpdate keyOk findA_int findA_str putA_strB putA_strI putA_intB putA_intI mAV_length mAV_nil cA1 cA2 cA3 cA4 opNilCheck opMakeFunc opRange
attribute [local simp] aL cI cB cS cL rw_map fz_rw fz_const dropRow_rw fz_append fz_set fz_copy fz_rows rowLen_rw rowsLen_nil rowsLen_cons rowsLen_append rowsLen_map rowsLen_take rowsLen_drop rowsLen_replicate take_map_len take_map_le drop_map_len take_drop_len chunks isScalar isScalar0
attribute [local simp] putBack putAt objMap mapC mapA mapT map0 bid rid memB passed closedB argsH argH argH0 argsH0 objIds ids0 idsC isLocT isLocA isLocC isLoc0 LocObj
attribute [local congr] bind_congr1 map_congr1 cond_congr1
attribute [local simp] cTreeTree_eq TreeTree_Kind_mk TreeTree_N_mk TreeTree_Kids_mk eta_TreeTree cRef14Tree_eq Ref14Tree_Kind_mk Ref14Tree_N_mk Ref14Tree_Kids_mk eta_Ref14Tree
set_option maxHeartbeats 4000000
set_option maxRecDepth 20000
set_option linter.unusedSimpArgs false
set_option linter.unusedVariables false

theorem con_law14_TreeComposition {n : Nat} {_append0 : TreeTree} {a1 : List Bool} {a2 : Bool} {r : Bool} (h : law14_TreeComposition n _append0 a1 a2 = some r) : Con Tryd.prog G0 5 [.agg [.int .i64 _append0.Kind, .int .i64 _append0.N, aL cTreeTree _append0.Kids], aL cB a1, .bool a2] (.bool r) [] := by
  refine con_of (T := TT0) tt_ok Tryd.func5 (c := _) (by unfold Tryd.f5; rfl) Tryd.ntmps5 (rs := [.tmp 6]) (by rw [Tryd.results5]) (by unfold Tryd.f5; rfl) (by simp) ?_
  simp only [argsCh]
  have F := True.intro
  dsimp only [law14_TreeComposition] at h
  refine rs0 ?_
  iterate 2 refine vp ?_
  refine vn ?_
  refine Wp.seq ?_
  refine rs0 ?_
  refine vp ?_
  obtain ⟨r1045, hr1044, h⟩ := obind h
  refine vc (con_law14_TooLarge hr1044) ?_
  iterate 2 refine vp ?_
  refine sD h F (fun F h => ?_) fun F h => ?_
  refine vg ?_
  refine vg ?_
  refine vg ?_
  iterate 2 refine vp ?_
  refine sD h F (fun F h => ?_) fun F h => ?_
  refine vg ?_
  refine vg ?_
  refine vg ?_
  obtain ⟨r1051, hr1050, h⟩ := obind h
  refine vc (con_tree_Check hr1050) ?_ (hg := by (simp [F]; done))
  refine vg ?_
  refine vp ?_
  refine vn ?_
  refine sB h F (fun F h => ?_) fun F h => ?_
  refine cF ?_
  refine Wp.skip ?_
  refine sh ?_
  refine rs0 ?_
  iterate 2 refine vp ?_
  obtain ⟨⟨r1055, r1056⟩, hr1054, h⟩ := obind h
  dsimp only at h
  refine vc (con_tree_Eval hr1054) ?_
  iterate 5 refine vp ?_
  refine vn ?_
  refine rs0 ?_
  refine vp ?_
  obtain ⟨r1080, hr1079, h⟩ := obind h
  refine vc (con_law14_turned _ hr1079) ?_
  refine vp ?_
  obtain ⟨⟨r1082, r1083⟩, hr1081, h⟩ := obind h
  dsimp only at h
  refine vc (con_tree_Eval hr1081) ?_
  iterate 5 refine vp ?_
  refine vn ?_
  refine rs (fun d => Nat.beq d 49) ?_
  iterate 2 refine vp ?_
  refine gd h F fun F h => ?_
  iterate 3 refine vp ?_
  refine gd h F fun F h => ?_
  refine vp ?_
  refine nm cB h F fun l1084 F h => ?_
  refine vp ?_
  refine vn ?_
  refine rs0 ?_
  iterate 5 refine vp ?_
  refine vn ?_
  refine rs0 ?_
  iterate 2 refine vp ?_
  refine vn ?_
  refine rs0 ?_
  refine vp ?_
  obtain ⟨r1090, hr1089, h⟩ := obind h
  refine vh [0, 3] (con_law14_TreeComposition_1 hr1089) ?_
  refine vp ?_
  obtain ⟨⟨r1092, r1093⟩, hr1091, h⟩ := obind h
  dsimp only at h
  refine vc (con_tree_Eval hr1091) ?_
  iterate 5 refine vp ?_
  refine vn ?_
  refine rs0 ?_
  refine vp ?_
  obtain ⟨r1095, hr1094, h⟩ := obind h
  refine vh [0, 3] (con_law14_TreeComposition_1 hr1094) ?_
  refine vp ?_
  obtain ⟨⟨r1097, r1098⟩, hr1096, h⟩ := obind h
  dsimp only at h
  refine vc (con_tree_Eval hr1096) ?_
  iterate 5 refine vp ?_
  refine vn ?_
  refine rs0 ?_
  obtain ⟨r1100, hr1099, h⟩ := obind h
  refine vc (con_law14_alive hr1099) ?_
  refine vp ?_
  refine sB h F (fun F h => ?_) fun F h => ?_
  refine vs ?_
  refine vs ?_
  iterate 2 refine vp ?_
  refine vs ?_
  refine vs ?_
  iterate 2 refine vp ?_
  refine vs ?_
  refine vs ?_
  iterate 2 refine vp ?_
  refine vs ?_
  refine vs ?_
  iterate 2 refine vp ?_
  refine vs ?_
  refine vs ?_
  refine vs ?_
  iterate 2 refine vp ?_
  refine vs ?_
  refine vs ?_
  refine vs ?_
  refine vs ?_
  refine vs ?_
  refine vs ?_
  iterate 2 refine vp ?_
  refine vs ?_
  refine vs ?_
  refine vs ?_
  refine vs ?_
  refine vs ?_
  refine vs ?_
  iterate 2 refine vp ?_
  refine vn ?_
  cases h
  exact Wp.ret en0
  refine vg ?_
  refine vg ?_
  iterate 2 refine vp ?_
  refine sB h F (fun F h => ?_) fun F h => ?_
  refine vs ?_
  refine vs ?_
  iterate 2 refine vp ?_
  refine vs ?_
  refine vs ?_
  iterate 2 refine vp ?_
  refine vs ?_
  refine vs ?_
  iterate 2 refine vp ?_
  refine vs ?_
  refine vs ?_
  refine vs ?_
  iterate 2 refine vp ?_
  refine vs ?_
  refine vs ?_
  refine vs ?_
  refine vs ?_
  refine vs ?_
  refine vs ?_
  iterate 2 refine vp ?_
  refine vs ?_
  refine vs ?_
  refine vs ?_
  refine vs ?_
  refine vs ?_
  refine vs ?_
  iterate 2 refine vp ?_
  refine vn ?_
  cases h
  exact Wp.ret en0
  refine vg ?_
  refine vg ?_
  iterate 2 refine vp ?_
  refine sB h F (fun F h => ?_) fun F h => ?_
  refine vs ?_
  refine vs ?_
  iterate 2 refine vp ?_
  refine vs ?_
  refine vs ?_
  iterate 2 refine vp ?_
  refine vs ?_
  refine vs ?_
  refine vs ?_
  iterate 2 refine vp ?_
  refine vs ?_
  refine vs ?_
  refine vs ?_
  refine vs ?_
  refine vs ?_
  refine vs ?_
  iterate 2 refine vp ?_
  refine vs ?_
  refine vs ?_
  refine vs ?_
  refine vs ?_
  refine vs ?_
  refine vs ?_
  iterate 2 refine vp ?_
  refine vn ?_
  cases h
  exact Wp.ret en0
  refine vg ?_
  refine vg ?_
  iterate 2 refine vp ?_
  refine sB h F (fun F h => ?_) fun F h => ?_
  refine vs ?_
  refine vs ?_
  iterate 2 refine vp ?_
  refine vs ?_
  refine vs ?_
  refine vs ?_
  iterate 2 refine vp ?_
  refine vs ?_
  refine vs ?_
  refine vs ?_
  refine vs ?_
  refine vs ?_
  refine vs ?_
  iterate 2 refine vp ?_
  refine vs ?_
  refine vs ?_
  refine vs ?_
  refine vs ?_
  refine vs ?_
  refine vs ?_
  iterate 2 refine vp ?_
  refine vn ?_
  cases h
  exact Wp.ret en0
  refine vg ?_
  refine vg ?_
  iterate 2 refine vp ?_
  refine sB h F (fun F h => ?_) fun F h => ?_
  refine vs ?_
  refine vs ?_
  refine vs ?_
  iterate 2 refine vp ?_
  refine vs ?_
  refine vs ?_
  refine vs ?_
  refine vs ?_
  refine vs ?_
  refine vs ?_
  iterate 2 refine vp ?_
  refine vs ?_
  refine vs ?_
  refine vs ?_
  refine vs ?_
  refine vs ?_
  refine vs ?_
  iterate 2 refine vp ?_
  refine vn ?_
  cases h
  exact Wp.ret en0
  refine vg ?_
  refine vg ?_
  refine vg ?_
  iterate 2 refine vp ?_
  refine sB h F (fun F h => ?_) fun F h => ?_
  refine vs ?_
  refine vs ?_
  refine vs ?_
  refine vs ?_
  refine vs ?_
  refine vs ?_
  iterate 2 refine vp ?_
  refine vs ?_
  refine vs ?_
  refine vs ?_
  refine vs ?_
  refine vs ?_
  refine vs ?_
  iterate 2 refine vp ?_
  refine vn ?_
  cases h
  exact Wp.ret en0
  refine vg ?_
  refine vg ?_
  refine vg ?_
  refine sB h F (fun F h => ?_) fun F h => ?_
  refine vg ?_
  refine vg ?_
  refine vg ?_
  iterate 2 refine vp ?_
  refine sB h F (fun F h => ?_) fun F h => ?_
  refine vs ?_
  refine vs ?_
  refine vs ?_
  refine vs ?_
  refine vs ?_
  refine vs ?_
  iterate 2 refine vp ?_
  refine vn ?_
  cases h
  exact Wp.ret en0
  refine vg ?_
  refine vg ?_
  refine vg ?_
  refine vs ?_
  refine vg ?_
  refine vg ?_
  iterate 2 refine vp ?_
  refine vn ?_
  cases h
  exact Wp.ret en0
  refine vs ?_
  refine vg ?_
  refine vg ?_
  iterate 2 refine vp ?_
  refine sB h F (fun F h => ?_) fun F h => ?_
  refine vs ?_
  refine vs ?_
  refine vs ?_
  refine vs ?_
  refine vs ?_
  refine vs ?_
  iterate 2 refine vp ?_
  refine vn ?_
  cases h
  exact Wp.ret en0
  refine vg ?_
  refine vg ?_
  refine vg ?_
  refine vg ?_
  refine vg ?_
  refine vg ?_
  iterate 2 refine vp ?_
  refine vn ?_
  cases h
  exact Wp.ret en0
  refine cT ?_
  refine rs0 ?_
  obtain ⟨r1053, hr1052, h⟩ := obind h
  refine vc (con_law14_alive hr1052) ?_
  refine vp ?_
  refine vn ?_
  cases h
  exact Wp.ret en0
  refine vs ?_
  refine vs ?_
  refine vs ?_
  refine vs ?_
  refine vs ?_
  refine vp ?_
  refine vn ?_
  refine cT ?_
  refine rs0 ?_
  obtain ⟨r1049, hr1048, h⟩ := obind h
  refine vc (con_law14_alive hr1048) ?_
  refine vp ?_
  refine vn ?_
  cases h
  exact Wp.ret en0
  refine vs ?_
  refine vs ?_
  refine vs ?_
  iterate 2 refine vp ?_
  refine vs ?_
  refine vs ?_
  refine vs ?_
  refine vs ?_
  refine vs ?_
  refine vp ?_
  refine vn ?_
  refine cT ?_
  refine rs0 ?_
  obtain ⟨r1047, hr1046, h⟩ := obind h
  refine vc (con_law14_alive hr1046) ?_
  refine vp ?_
  refine vn ?_
  cases h
  exact Wp.ret en0

end Go.Proofs.YtfghchpnolfllaaDoor
