/- Contracts: models of functions are right. No law is proved here. -/
import Derived.Test.YtfghchpnolfllaaDoorGMod
import Derived.Test.YtfghchpnolfllaaDoorTab
import Derived.Test.YtfghchpnolfllaaDoorSh
import Derived.Test.YtfghchpnolfllaaDoorGC1
import Derived.Test.YtfghchpnolfllaaDoorGC4
import Derived.Test.YtfghchpnolfllaaDoorGC5
import Derived.Test.YtfghchpnolfllaaDoorGC6
namespace Go.Proofs.YtfghchpnolfllaaDoor
open Go.Av Go.G
attribute [-simp] Int.natCast_tdiv_eq_ediv
attribute [local simp] runf guardA opf St.ev Go.Av.look St.setd constAV constAV0 opBin opLen intBin St.need lookT TT0 tab resA resOne resAll blt_dec ble_dec beq_dec isPure
attribute [local simp] opMakeSlice opCopy opIndexAddr opLoad opStore St.mem St.rows opUn calleeA toArgs toArg toArg0 toArgs0 shift shift0 shift1 splice cellsOf isFree ofCells TS.isAgg isCell strBin opConvert
attribute [local simp] opBuildSlice fillA opAppend eqC eqA cksB ckB St.newBox runI valKind withinB readsHp refsD refs noSl opFieldAddr opBuild opMax opMin placeOf Op.operands Call.operands opIndex opExtract opSlice opField partA
attribute [local simp] loA hiA lenA opMakeMap opLookup opMapUpdate keyOk findA_int findA_str putA_strB putA_strI putA_intB putA_intI mAV_length mAV_nil cA1 cA2 cA3 cA4 opNilCheck opMakeFunc opRange
attribute [local simp] aL cI cB cS cL rw_map fz_rw fz_const dropRow_rw fz_append fz_set fz_copy fz_rows rowLen_rw rowsLen_nil rowsLen_cons rowsLen_append rowsLen_map rowsLen_take rowsLen_drop rowsLen_replicate take_map_len take_map_le drop_map_len take_drop_len chunks isScalar isScalar0
attribute [local simp] putBack putAt objMap mapC mapA mapT map0 bid rid memB passed closedB argsH argH argH0 argsH0 objIds ids0 idsC isLocT isLocA isLocC isLoc0 LocObj
attribute [local congr] bind_congr1 map_congr1 cond_congr1
attribute [local simp] cTreeTree_eq TreeTree_Kind_mk TreeTree_N_mk TreeTree_Kids_mk eta_TreeTree cRef14Tree_eq Ref14Tree_Kind_mk Ref14Tree_N_mk Ref14Tree_Kids_mk eta_Ref14Tree
set_option maxHeartbeats 4000000
set_option maxRecDepth 20000
set_option linter.unusedSimpArgs false
set_option linter.unusedVariables false

theorem con_law14_TreeDepthBounds {n : Nat} {_append0 : TreeTree} {a1 : List Bool} {r : Bool} (h : law14_TreeDepthBounds n _append0 a1 = some r) : Con Tryd.prog G0 6 [.agg [.int .i64 _append0.Kind, .int .i64 _append0.N, aL cTreeTree _append0.Kids], aL cB a1] (.bool r) [] := by
  refine con_of (T := TT0) tt_ok Tryd.func6 (c := _) (by unfold Tryd.f6; rfl) Tryd.ntmps6 (rs := [.tmp 4]) (by rw [Tryd.results6]) (by unfold Tryd.f6; rfl) (by simp) ?_
  simp only [argsCh]
  have F := True.intro
  dsimp only [law14_TreeDepthBounds] at h
  refine rs0 ?_
  iterate 2 refine vp ?_
  refine vn ?_
  refine Wp.seq ?_
  refine rs0 ?_
  refine vp ?_
  obtain ⟨r1133, hr1132, h⟩ := obind h
  refine vc (con_law14_TooLarge hr1132) ?_
  iterate 2 refine vp ?_
  refine sD h F (fun F h => ?_) fun F h => ?_
  refine vg ?_
  refine vg ?_
  refine vg ?_
  iterate 2 refine vp ?_
  refine sD h F (fun F h => ?_) fun F h => ?_
  refine vg ?_
  refine vg ?_
  refine vg ?_
  obtain ⟨r1139, hr1138, h⟩ := obind h
  refine vc (con_tree_Check hr1138) ?_ (hg := by (simp [F]; done))
  refine vg ?_
  refine vp ?_
  refine vn ?_
  refine sB h F (fun F h => ?_) fun F h => ?_
  refine cF ?_
  refine Wp.skip ?_
  refine sh ?_
  refine dw (fun d => Nat.beq d 34) [0] ?_
  refine du 3 ?_
  refine gd h F fun F h => ?_
  refine de ?_
  refine nm cB h F fun l1142 F h => ?_
  obtain ⟨⟨r1144, r1145⟩, hr1143, h⟩ := obind h
  dsimp only at h
  refine dx (con_tree_StackDepth hr1143) ?_
  refine du 5 ?_
  refine dn ?_
  refine rs0 ?_
  iterate 2 refine vp ?_
  obtain ⟨⟨r1147, r1148⟩, hr1146, h⟩ := obind h
  dsimp only at h
  refine vc (con_tree_StackDepth hr1146) ?_
  iterate 5 refine vp ?_
  refine vn ?_
  refine rs0 ?_
  iterate 2 refine vp ?_
  refine gd h F fun F h => ?_
  refine vp ?_
  refine nm cB h F fun l1149 F h => ?_
  refine vp ?_
  refine vn ?_
  refine jn (fun l1158 : List Bool => { ch := [(1, aL cB a1), (2, .hptr 0 0 0), (5, .int .i64 r1144), (6, .int .i64 r1145), (7, .int .i64 r1147), (8, .int .i64 r1148), (9, .sl 1 0 l1158.length)], hp := [.var [.int .i64 _append0.Kind, .int .i64 _append0.N, aL cTreeTree _append0.Kids], .arr 1 l1158.length (rw (l1158.map cB))], base := 0, n := 99, cond := True, gl := G0 }) (fun x => law14_TreeDepthBounds_J1 n _append0 a1 r1144 r1145 r1147 r1148 x = some r) ?_ ?_
  clear h
  rintro l1158 h
  dsimp only [law14_TreeDepthBounds_J1] at h
  try dsimp only
  refine rs0 ?_
  iterate 2 refine vp ?_
  obtain ⟨⟨r1160, r1161⟩, hr1159, h⟩ := obind h
  dsimp only at h
  refine vc (con_tree_StackDepth hr1159) ?_
  iterate 5 refine vp ?_
  refine vn ?_
  refine rs0 ?_
  obtain ⟨r1163, hr1162, h⟩ := obind h
  refine vc (con_law14_alive hr1162) ?_
  refine vp ?_
  refine sB h F (fun F h => ?_) fun F h => ?_
  refine vs ?_
  refine vs ?_
  iterate 2 refine vp ?_
  refine vs ?_
  refine vs ?_
  iterate 2 refine vp ?_
  refine vs ?_
  refine vs ?_
  iterate 2 refine vp ?_
  refine vs ?_
  refine vs ?_
  refine vs ?_
  iterate 2 refine vp ?_
  refine vs ?_
  refine vs ?_
  refine vs ?_
  iterate 2 refine vp ?_
  refine vs ?_
  refine vs ?_
  refine vs ?_
  refine vs ?_
  iterate 2 refine vp ?_
  refine vs ?_
  refine vs ?_
  refine vs ?_
  refine vs ?_
  refine vs ?_
  refine vs ?_
  refine vs ?_
  iterate 2 refine vp ?_
  refine vn ?_
  cases h
  exact Wp.ret en0
  refine vg ?_
  refine vg ?_
  iterate 2 refine vp ?_
  refine sB h F (fun F h => ?_) fun F h => ?_
  refine vs ?_
  refine vs ?_
  iterate 2 refine vp ?_
  refine vs ?_
  refine vs ?_
  iterate 2 refine vp ?_
  refine vs ?_
  refine vs ?_
  refine vs ?_
  iterate 2 refine vp ?_
  refine vs ?_
  refine vs ?_
  refine vs ?_
  iterate 2 refine vp ?_
  refine vs ?_
  refine vs ?_
  refine vs ?_
  refine vs ?_
  iterate 2 refine vp ?_
  refine vs ?_
  refine vs ?_
  refine vs ?_
  refine vs ?_
  refine vs ?_
  refine vs ?_
  refine vs ?_
  iterate 2 refine vp ?_
  refine vn ?_
  cases h
  exact Wp.ret en0
  refine vg ?_
  refine vg ?_
  iterate 2 refine vp ?_
  refine sB h F (fun F h => ?_) fun F h => ?_
  refine vs ?_
  refine vs ?_
  iterate 2 refine vp ?_
  refine vs ?_
  refine vs ?_
  refine vs ?_
  iterate 2 refine vp ?_
  refine vs ?_
  refine vs ?_
  refine vs ?_
  iterate 2 refine vp ?_
  refine vs ?_
  refine vs ?_
  refine vs ?_
  refine vs ?_
  iterate 2 refine vp ?_
  refine vs ?_
  refine vs ?_
  refine vs ?_
  refine vs ?_
  refine vs ?_
  refine vs ?_
  refine vs ?_
  iterate 2 refine vp ?_
  refine vn ?_
  cases h
  exact Wp.ret en0
  refine vg ?_
  refine vg ?_
  iterate 2 refine vp ?_
  refine sB h F (fun F h => ?_) fun F h => ?_
  refine vs ?_
  refine vs ?_
  refine vs ?_
  iterate 2 refine vp ?_
  refine vs ?_
  refine vs ?_
  refine vs ?_
  iterate 2 refine vp ?_
  refine vs ?_
  refine vs ?_
  refine vs ?_
  refine vs ?_
  iterate 2 refine vp ?_
  refine vs ?_
  refine vs ?_
  refine vs ?_
  refine vs ?_
  refine vs ?_
  refine vs ?_
  refine vs ?_
  iterate 2 refine vp ?_
  refine vn ?_
  cases h
  exact Wp.ret en0
  refine vg ?_
  refine vg ?_
  refine vg ?_
  iterate 2 refine vp ?_
  refine sD h F (fun F h => ?_) fun F h => ?_
  refine vs ?_
  refine vs ?_
  refine vs ?_
  iterate 2 refine vp ?_
  refine vs ?_
  refine vs ?_
  refine vs ?_
  refine vs ?_
  iterate 2 refine vp ?_
  refine vs ?_
  refine vs ?_
  refine vs ?_
  refine vs ?_
  refine vs ?_
  refine vs ?_
  refine vs ?_
  iterate 2 refine vp ?_
  refine vn ?_
  cases h
  exact Wp.ret en0
  refine vg ?_
  refine vg ?_
  refine vg ?_
  iterate 2 refine vp ?_
  refine sD h F (fun F h => ?_) fun F h => ?_
  refine vs ?_
  refine vs ?_
  refine vs ?_
  refine vs ?_
  iterate 2 refine vp ?_
  refine vs ?_
  refine vs ?_
  refine vs ?_
  refine vs ?_
  refine vs ?_
  refine vs ?_
  refine vs ?_
  iterate 2 refine vp ?_
  refine vn ?_
  cases h
  exact Wp.ret en0
  refine vg ?_
  refine vg ?_
  refine vg ?_
  refine vg ?_
  iterate 2 refine vp ?_
  refine sD h F (fun F h => ?_) fun F h => ?_
  refine vs ?_
  refine vs ?_
  refine vs ?_
  refine vs ?_
  refine vs ?_
  refine vs ?_
  refine vs ?_
  iterate 2 refine vp ?_
  refine vn ?_
  cases h
  exact Wp.ret en0
  refine vg ?_
  refine vg ?_
  refine vg ?_
  refine vg ?_
  refine sD h F (fun F h => ?_) fun F h => ?_
  refine vg ?_
  refine vg ?_
  refine vg ?_
  iterate 2 refine vp ?_
  refine vn ?_
  cases h
  exact Wp.ret en0
  refine vs ?_
  refine vs ?_
  refine vg ?_
  iterate 2 refine vp ?_
  refine vn ?_
  cases h
  exact Wp.ret en0
  refine rs0 ?_
  iterate 3 refine vp ?_
  refine vn ?_
  refine Wp.block ?_
  refine lp [some 0, some 2] (fun x : Int × (List Bool) => { ch := [(1, aL cB a1), (2, .hptr 0 0 0), (5, .int .i64 r1144), (6, .int .i64 r1145), (7, .int .i64 r1147), (8, .int .i64 r1148), (9, .sl 1 0 x.2.length), (47, .int .i64 (a1.length : Int)), (48, .int .i64 x.1)], hp := [.var [.int .i64 _append0.Kind, .int .i64 _append0.N, aL cTreeTree _append0.Kids], .arr 1 x.2.length (rw (x.2.map cB))], base := 0, n := 99, cond := True, gl := G0 }) (fun m x => law14_TreeDepthBounds_L2 n _append0 a1 r1144 r1145 r1147 r1148 m x.1 x.2 = some r) n (0, l1149) h ?_
  rintro rec_n2 ⟨p1166, l1167⟩ h
  dsimp only [law14_TreeDepthBounds_L2] at h
  try dsimp only
  refine rs0 ?_
  refine vp ?_
  refine vn ?_
  refine Wp.seq ?_
  refine sD h F (fun F h => ?_) fun F h => ?_
  refine cF ?_
  refine Wp.exit ?_
  exact nx [some 0, some 1] l1167 h
  refine cT ?_
  refine Wp.skip ?_
  refine sh ?_
  refine Wp.seq ?_
  refine Wp.block ?_
  refine rs0 ?_
  iterate 2 refine vp ?_
  refine vn ?_
  refine rg0 ?_
  iterate 2 refine vp ?_
  refine eI h F fun x1170 F h => ?_
  iterate 2 refine vp ?_
  refine nm cB h F fun l1171 F h => ?_
  refine vn ?_
  refine sh ?_
  refine rg0 ?_
  iterate 2 refine vp ?_
  refine vn ?_
  exact nx [some 0, some 1] ((IntKind.i64.wrap (p1166 + 1)), l1171) h
  refine cT ?_
  refine rs0 ?_
  obtain ⟨r1141, hr1140, h⟩ := obind h
  refine vc (con_law14_alive hr1140) ?_
  refine vp ?_
  refine vn ?_
  cases h
  exact Wp.ret en0
  refine vs ?_
  refine vs ?_
  refine vs ?_
  refine vs ?_
  refine vs ?_
  refine vp ?_
  refine vn ?_
  refine cT ?_
  refine rs0 ?_
  obtain ⟨r1137, hr1136, h⟩ := obind h
  refine vc (con_law14_alive hr1136) ?_
  refine vp ?_
  refine vn ?_
  cases h
  exact Wp.ret en0
  refine vs ?_
  refine vs ?_
  refine vs ?_
  iterate 2 refine vp ?_
  refine vs ?_
  refine vs ?_
  refine vs ?_
  refine vs ?_
  refine vs ?_
  refine vp ?_
  refine vn ?_
  refine cT ?_
  refine rs0 ?_
  obtain ⟨r1135, hr1134, h⟩ := obind h
  refine vc (con_law14_alive hr1134) ?_
  refine vp ?_
  refine vn ?_
  cases h
  exact Wp.ret en0

end Go.Proofs.YtfghchpnolfllaaDoor
