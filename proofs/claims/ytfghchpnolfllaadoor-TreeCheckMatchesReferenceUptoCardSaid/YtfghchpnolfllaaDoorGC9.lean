/- Contracts: models of functions are right. No law is proved here. -/
import Derived.Test.YtfghchpnolfllaaDoorGMod
import Derived.Test.YtfghchpnolfllaaDoorTab
import Derived.Test.YtfghchpnolfllaaDoorSh
import Derived.Test.YtfghchpnolfllaaDoorGC0
import Derived.Test.YtfghchpnolfllaaDoorGC1
import Derived.Test.YtfghchpnolfllaaDoorGC2
import Derived.Test.YtfghchpnolfllaaDoorGC3
import Derived.Test.YtfghchpnolfllaaDoorGC5
import Derived.Test.YtfghchpnolfllaaDoorGC6
import Derived.Test.YtfghchpnolfllaaDoorGC8
namespace Go.Proofs.YtfghchpnolfllaaDoor
open Go.Av Go.G
attribute [-simp] Int.natCast_tdiv_eq_ediv
attribute [local simp] runf guardA opf St.ev Go.Av.look St.setd constAV constAV0 opBin opLen intBin St.need lookT TT0 tab resA resOne resAll blt_dec ble_dec beq_dec isPure
attribute [local simp] opMakeSlice opCopy opIndexAddr opLoad opStore St.mem St.rows opUn calleeA toArgs toArg toArg0 toArgs0 shift shift0 shift1 splice cellsOf isFree ofCells TS.isAgg isCell strBin opConvert
attribute [local simp] opBuildSlice fillA opAppend eqC eqA cksB ckB St.newBox runI valKind withinB readsHp refsD refs noSl opFieldAddr opBuild opMax opMin placeOf Op.operands Call.operands opIndex opExtract opSlice opField partA
attribute [local simp] loA hiA lenA opMakeMap opLookup opMapUpdate keyOk findA_int findA_str putA_strB putA_strI putA_intB putA_intI mAV_length mAV_nil cA1 cA2 cA3 cA4 opNilCheck opMakeFunc opRange
attribute [local simp] aL cI cB cS cL rw_map fz_rw fz_const dropRow_rw fz_append fz_set fz_copy fz_rows rowLen_rw rowsLen_nil rowsLen_cons rowsLen_append rowsLen_map rowsLen_take rowsLen_drop rowsLen_replicate take_map_len take_map_le drop_map_len take_drop_len chunks isScalar isScalar0
attribute [local simp] putBack putAt objMap mapC mapA mapT map0 bid rid memB passed closedB argsH argH argH0 argsH0 objIds ids0 idsC isLocT isLocA isLocC isLoc0 LocObj
attribute [local congr] bind_congr1 map_congr1 cond_congr1
attribute [local simp] cTreeTree_eq TreeTree_Kind_mk TreeTree_N_mk TreeTree_Kids_mk eta_TreeTree cRef14Tree_eq Ref14Tree_Kind_mk Ref14Tree_N_mk Ref14Tree_Kids_mk eta_Ref14Tree
set_option maxHeartbeats 4000000
set_option maxRecDepth 20000
set_option linter.unusedSimpArgs false
set_option linter.unusedVariables false

theorem con_law14_TreeCheckMatchesReference {n : Nat} {t0 : TreeTree} {u1 : TreeTree} {many2 : Int} {r : Bool} (h : law14_TreeCheckMatchesReference n t0 u1 many2 = some r) : Con Tryd.prog G0 7 [.agg [.int .i64 t0.Kind, .int .i64 t0.N, aL cTreeTree t0.Kids], .agg [.int .i64 u1.Kind, .int .i64 u1.N, aL cTreeTree u1.Kids], .int .i64 many2] (.bool r) [] := by
  refine con_of (T := TT0) tt_ok Tryd.func7 (c := _) (by unfold Tryd.f7; rfl) Tryd.ntmps7 (rs := [.tmp 6]) (by rw [Tryd.results7]) (by unfold Tryd.f7; rfl) (by simp) ?_
  simp only [argsCh]
  have F := True.intro
  dsimp only [law14_TreeCheckMatchesReference] at h
  refine rs0 ?_
  iterate 3 refine vp ?_
  refine vn ?_
  refine Wp.seq ?_
  refine rs0 ?_
  refine vp ?_
  obtain ⟨r1181, hr1180, h⟩ := obind h
  refine vc (con_law14_TooLarge hr1180) ?_
  iterate 2 refine vp ?_
  refine sD h F (fun F h => ?_) fun F h => ?_
  refine vg ?_
  obtain ⟨r1185, hr1184, h⟩ := obind h
  refine vc (con_law14_TooLarge hr1184) ?_ (hg := by (simp [F]; done))
  refine vg ?_
  refine vp ?_
  refine vn ?_
  refine sD h F (fun F h => ?_) fun F h => ?_
  refine cF ?_
  refine Wp.skip ?_
  refine sh ?_
  refine rl [some 0, some 1, none, none] { ch := [(2, .int .i64 many2), (3, .hptr 0 0 0), (4, .hptr 1 0 0), (6, .bool false), (10, .int .i64 r1181), (11, .bool (decide (r1181 > 0))), (12, .bool (decide (r1181 > 0))), (14, .int .i64 r1185), (15, .bool (decide (r1185 > 0))), (16, .bool (decide (r1185 > 0)))], hp := [.var [.int .i64 t0.Kind, .int .i64 t0.N, aL cTreeTree t0.Kids], .var [.int .i64 u1.Kind, .int .i64 u1.N, aL cTreeTree u1.Kids], .slot, .slot], base := 0, n := 53, cond := True, gl := G0 } ?_
  refine dz [2, 3] (fun d => Nat.beq d 7 || Nat.beq d 8) [0, 1] ?_
  refine du 1 ?_
  obtain ⟨r1189, hr1188, h⟩ := obind h
  refine dc (con_law14_Of _ hr1188) ?_
  refine du 1 ?_
  obtain ⟨r1191, hr1190, h⟩ := obind h
  refine dc (con_law14_Of _ hr1190) ?_
  refine dl 2 ?_
  refine dl 3 ?_
  refine db ?_
  refine db ?_
  refine dn ?_
  refine dw (fun _ => false) [0, 1, 2, 3] ?_
  obtain ⟨r1193, hr1192, h⟩ := obind h
  refine dc (con_law14_alive hr1192) ?_
  refine du 1 ?_
  refine sB h F (fun F h => ?_) fun F h => ?_
  refine ds ?_
  refine ds ?_
  refine ds ?_
  refine ds ?_
  refine ds ?_
  refine ds ?_
  refine ds ?_
  refine du 2 ?_
  refine ds ?_
  refine ds ?_
  refine ds ?_
  refine ds ?_
  refine ds ?_
  refine du 2 ?_
  refine ds ?_
  refine ds ?_
  refine ds ?_
  refine ds ?_
  refine ds ?_
  refine ds ?_
  refine ds ?_
  refine du 2 ?_
  refine ds ?_
  refine ds ?_
  refine ds ?_
  refine du 2 ?_
  refine dn ?_
  cases h
  exact Wp.ret en0
  refine du 1 ?_
  refine du 1 ?_
  obtain ⟨r1195, hr1194, h⟩ := obind h
  refine dc (con_tree_Check hr1194) ?_ (hg := by (simp [F]; done))
  refine du 1 ?_
  refine du 1 ?_
  obtain ⟨r1197, hr1196, h⟩ := obind h
  refine dc (con_ref14_Check hr1196) ?_ (hg := by (simp [F]; done))
  refine du 1 ?_
  refine du 2 ?_
  refine sB h F (fun F h => ?_) fun F h => ?_
  refine ds ?_
  refine ds ?_
  refine ds ?_
  refine ds ?_
  refine ds ?_
  refine du 2 ?_
  refine ds ?_
  refine ds ?_
  refine ds ?_
  refine ds ?_
  refine ds ?_
  refine ds ?_
  refine ds ?_
  refine du 2 ?_
  refine ds ?_
  refine ds ?_
  refine ds ?_
  refine du 2 ?_
  refine dn ?_
  cases h
  exact Wp.ret en0
  refine du 1 ?_
  obtain ⟨r1224, hr1223, h⟩ := obind h
  refine dc (con_tree_Leaves _ hr1223) ?_ (hg := by (simp [F]; done))
  refine du 1 ?_
  obtain ⟨r1251, hr1250, h⟩ := obind h
  refine dc (con_ref14_Leaves _ hr1250) ?_ (hg := by (simp [F]; done))
  obtain ⟨r1260, hr1259, h⟩ := obind h
  refine dc (con_slices_Equal_int hr1259) ?_ (hg := by (simp [F]; done))
  refine du 2 ?_
  refine sB h F (fun F h => ?_) fun F h => ?_
  refine ds ?_
  refine ds ?_
  refine ds ?_
  refine ds ?_
  refine ds ?_
  refine ds ?_
  refine ds ?_
  refine du 2 ?_
  refine ds ?_
  refine ds ?_
  refine ds ?_
  refine du 2 ?_
  refine dn ?_
  cases h
  exact Wp.ret en0
  refine du 1 ?_
  refine du 1 ?_
  obtain ⟨r1277, hr1276, h⟩ := obind h
  refine dc (con_tree_Equal _ hr1276) ?_ (hg := by (simp [F]; done))
  refine du 1 ?_
  refine du 1 ?_
  obtain ⟨r1292, hr1291, h⟩ := obind h
  refine dc (con_ref14_Equal _ hr1291) ?_ (hg := by (simp [F]; done))
  refine du 1 ?_
  refine du 2 ?_
  refine sB h F (fun F h => ?_) fun F h => ?_
  refine ds ?_
  refine ds ?_
  refine ds ?_
  refine du 2 ?_
  refine dn ?_
  cases h
  exact Wp.ret en0
  refine du 1 ?_
  refine du 1 ?_
  obtain ⟨r1294, hr1293, h⟩ := obind h
  refine dc (con_tree_Equal _ hr1293) ?_ (hg := by (simp [F]; done))
  refine du 2 ?_
  refine dn ?_
  cases h
  exact Wp.ret en0
  refine cT ?_
  refine rs0 ?_
  obtain ⟨r1187, hr1186, h⟩ := obind h
  refine vc (con_law14_alive hr1186) ?_
  refine vp ?_
  refine vn ?_
  cases h
  exact Wp.ret en0
  refine vs ?_
  refine vs ?_
  refine vs ?_
  refine vp ?_
  refine vn ?_
  refine cT ?_
  refine rs0 ?_
  obtain ⟨r1183, hr1182, h⟩ := obind h
  refine vc (con_law14_alive hr1182) ?_
  refine vp ?_
  refine vn ?_
  cases h
  exact Wp.ret en0

end Go.Proofs.YtfghchpnolfllaaDoor
