/- Contracts: models of functions are right. No law is proved here. -/
import Derived.Test.YtaebdeidbibfkaaGreatDoorZGMod
import Derived.Test.YtaebdeidbibfkaaGreatDoorZTaz
import Derived.Test.YtaebdeidbibfkaaGreatDoorZSoz
import Derived.Test.YtaebdeidbibfkaaGreatDoorZShz
import Derived.Test.YtaebdeidbibfkaaGreatDoorZGC2
import Derived.Test.YtaebdeidbibfkaaGreatDoorZGC3
import Derived.Test.YtaebdeidbibfkaaGreatDoorZGC4
import Derived.Test.YtaebdeidbibfkaaGreatDoorZGC6
import Derived.Test.YtaebdeidbibfkaaGreatDoorZGC11
import Derived.Test.YtaebdeidbibfkaaGreatDoorZGC12
import Derived.Test.YtaebdeidbibfkaaGreatDoorZGC13
import Derived.Test.YtaebdeidbibfkaaGreatDoorZGC17
import Derived.Test.YtaebdeidbibfkaaGreatDoorZGC18
namespace Go.Proofs.YtaebdeidbibfkaaGreatDoor
open Go.Av Go.G
attribute [-simp] Int.natCast_tdiv_eq_ediv
attribute [local simp] runf guardA opf St.ev Go.Av.look St.setd constAV constAV0 opBin opLen intBin St.need lookT TT0 tab resA resOne resAll blt_dec ble_dec beq_dec isPure
attribute [local simp] opMakeSlice opCopy opIndexAddr opLoad opStore St.mem St.rows opUn calleeA toArgs toArg toArg0 toArgs0 shift shift0 shift1 splice cellsOf isFree ofCells TS.isAgg isCell strBin opConvert
attribute [local simp] opSlice3 opClear fz_clear opBuildSlice fillA opAppend eqC eqA cksB ckB St.newBox runI valKind withinB readsHp refsD refs noSl opFieldAddr opBuild opMax opMin placeOf Op.operands Call.operands opIndex opExtract opSlice opField partA
attribute [local simp] loA hiA lenA opMakeMap opLookup opMapUpdate keyOk findA_int findA_str findA_bool putA_strB putA_strI putA_strS putA_intB putA_intI putA_intS putA_boolI putA_boolB byteRow_rwN bytesOf_rwN opBytesStr mAV_length mAV_nil cA1 cA2 cA3 cA4 opNilCheck opMakeFunc opRange
attribute [local simp] aL cI cB cS cL rw_map fz_rw fz_const dropRow_rw fz_append fz_set fz_copy fz_rows rowLen_rw rowsLen_nil rowsLen_cons rowsLen_append rowsLen_map rowsLen_dm rowsLen_tm rowsLen_take rowsLen_drop rowsLen_replicate take_map_len take_map_le drop_map_len take_drop_len chunks isScalar isScalar0
attribute [local simp] putBack putAt objMap mapC mapA mapT map0 bid rid memB passed closedB argsH argH argH0 argsH0 objIds ids0 idsC isLocT isLocA isLocC isLoc0 LocObj
attribute [local congr] bind_congr1 map_congr1 cond_congr1
attribute [local simp] cApiAddr cApiContact cApiCoil cApiRung cReducePair cReduceEdge cTreeTree_eq TreeTree_Kind_mk TreeTree_N_mk TreeTree_Kids_mk eta_TreeTree cRef14Tree_eq Ref14Tree_Kind_mk Ref14Tree_N_mk Ref14Tree_Kids_mk eta_Ref14Tree
set_option maxHeartbeats 4000000
set_option linter.unusedSectionVars false
set_option maxRecDepth 20000
set_option linter.unusedSimpArgs false
set_option linter.unusedVariables false

theorem con_law15_ReduceInvertsExpand {n : Nat} {_append0 : TreeTree} {a1 : Int} {r : Bool} (h : law15_ReduceInvertsExpand n _append0 a1 = some r) : Con Tryz.prog G0 7 [.agg [.int .i64 _append0.Kind, .int .i64 _append0.N, aL cTreeTree _append0.Kids], .int .u8 a1] (.bool r) [] := by
  refine con_of (T := TT0) tt_ok Tryz.func7 (c := _) (by unfold Tryz.f7; rfl) Tryz.ntmps7 (rs := [.tmp 4]) (by rw [Tryz.results7]) (by unfold Tryz.f7; rfl) (by simp) ?_
  simp only [argsCh]
  have F := True.intro
  dsimp only [law15_ReduceInvertsExpand] at h
  refine rs0 ?_
  iterate 2 refine vp ?_
  refine vn ?_
  refine Wp.seq ?_
  refine rs0 ?_
  refine vp ?_
  obtain ⟨r4615, hr4614, h⟩ := obind h
  refine vc (con_law14_TooLarge hr4614) ?_
  refine vp ?_
  refine vn ?_
  refine sD h F (fun F h => ?_) fun F h => ?_
  refine cF ?_
  refine Wp.skip ?_
  refine sh ?_
  refine rs0 ?_
  refine vp ?_
  obtain ⟨r4641, hr4640, h⟩ := obind h
  refine vc (con_law14_Of _ hr4640) ?_
  obtain ⟨r4668, hr4667, h⟩ := obind h
  refine vc (con_ref14_Leaves _ hr4667) ?_
  iterate 2 refine vp ?_
  refine vn ?_
  refine Wp.seq ?_
  refine rs0 ?_
  iterate 3 refine vp ?_
  refine sD h F (fun F h => ?_) fun F h => ?_
  refine vg ?_
  refine vg ?_
  obtain ⟨r4761, hr4760, h⟩ := obind h
  refine vc (con_tree_Check hr4760) ?_ (hg := by (simp [F]; done))
  refine vg ?_
  refine vp ?_
  refine vn ?_
  refine sB h F (fun F h => ?_) fun F h => ?_
  refine cF ?_
  refine Wp.skip ?_
  refine sh ?_
  refine rs0 ?_
  refine vp ?_
  refine gd h F fun F h => ?_
  refine vp ?_
  refine nm cApiContact h F fun l4764 F h => ?_
  refine vp ?_
  refine vn ?_
  refine jn (fun l4773 : List ApiContact => { ch := [(2, .hptr 0 0 0), (6, .sl 1 0 l4773.length)], hp := [.var [.int .i64 _append0.Kind, .int .i64 _append0.N, aL cTreeTree _append0.Kids], .arr 5 l4773.length (rw (l4773.map cApiContact))], base := 0, n := 104, cond := True, gl := G0 }) (fun x => law15_ReduceInvertsExpand_J1 n _append0 x = some r) ?_ ?_
  clear h
  rintro l4773 h
  dsimp only [law15_ReduceInvertsExpand_J1] at h
  try dsimp only
  refine rs0 ?_
  iterate 2 refine vp ?_
  refine vl [some 0, none] { ch := [(2, .hptr 0 0 0), (6, aL cApiContact l4773), (52, .agg [.int .i64 _append0.Kind, .int .i64 _append0.N, aL cTreeTree _append0.Kids]), (53, aL cApiContact l4773)], hp := [.var [.int .i64 _append0.Kind, .int .i64 _append0.N, aL cTreeTree _append0.Kids], .dead], base := 0, n := 104, cond := True, gl := G0 } ?_
  obtain ⟨⟨r5091, r5092⟩, hr5090, h⟩ := obind h
  dsimp only at h
  refine vc (con_reduce_Expand hr5090) ?_
  iterate 6 refine vp ?_
  refine vn ?_
  refine rs0 ?_
  refine vp ?_
  obtain ⟨⟨r5094, r5095⟩, hr5093, h⟩ := obind h
  dsimp only at h
  refine vc (con_reduce_Reduce hr5093) ?_
  iterate 6 refine vp ?_
  refine vn ?_
  refine rs0 ?_
  iterate 2 refine vp ?_
  obtain ⟨⟨r5097, r5098⟩, hr5096, h⟩ := obind h
  dsimp only at h
  refine vc (con_reduce_Expand hr5096) ?_
  iterate 6 refine vp ?_
  refine vn ?_
  refine rs0 ?_
  refine vp ?_
  obtain ⟨⟨r5100, r5101⟩, hr5099, h⟩ := obind h
  dsimp only at h
  refine vc (con_reduce_Reduce hr5099) ?_
  iterate 6 refine vp ?_
  refine vn ?_
  refine rs0 ?_
  refine vp ?_
  obtain ⟨r5103, hr5102, h⟩ := obind h
  refine vc (con_law14_Of _ hr5102) ?_
  obtain ⟨r5321, hr5320, h⟩ := obind h
  refine vc (con_ref15_Sorted _ hr5320) ?_
  iterate 2 refine vp ?_
  refine vn ?_
  refine dw (fun _ => false) [3, 5, 6] ?_
  obtain ⟨r5323, hr5322, h⟩ := obind h
  refine dc (con_law15_alive hr5322) ?_
  refine du 1 ?_
  refine sB h F (fun F h => ?_) fun F h => ?_
  refine ds ?_
  refine ds ?_
  refine du 2 ?_
  refine ds ?_
  refine ds ?_
  refine du 2 ?_
  refine ds ?_
  refine ds ?_
  refine du 2 ?_
  refine ds ?_
  refine ds ?_
  refine du 2 ?_
  refine ds ?_
  refine ds ?_
  refine ds ?_
  refine du 2 ?_
  refine ds ?_
  refine ds ?_
  refine ds ?_
  refine ds ?_
  refine du 2 ?_
  refine dn ?_
  cases h
  exact Wp.ret en0
  refine du 1 ?_
  refine du 1 ?_
  refine du 2 ?_
  refine sB h F (fun F h => ?_) fun F h => ?_
  refine ds ?_
  refine ds ?_
  refine du 2 ?_
  refine ds ?_
  refine ds ?_
  refine du 2 ?_
  refine ds ?_
  refine ds ?_
  refine du 2 ?_
  refine ds ?_
  refine ds ?_
  refine ds ?_
  refine du 2 ?_
  refine ds ?_
  refine ds ?_
  refine ds ?_
  refine ds ?_
  refine du 2 ?_
  refine dn ?_
  cases h
  exact Wp.ret en0
  refine du 1 ?_
  refine du 1 ?_
  refine du 2 ?_
  refine sB h F (fun F h => ?_) fun F h => ?_
  refine ds ?_
  refine ds ?_
  refine du 2 ?_
  refine ds ?_
  refine ds ?_
  refine du 2 ?_
  refine ds ?_
  refine ds ?_
  refine ds ?_
  refine du 2 ?_
  refine ds ?_
  refine ds ?_
  refine ds ?_
  refine ds ?_
  refine du 2 ?_
  refine dn ?_
  cases h
  exact Wp.ret en0
  refine du 1 ?_
  refine du 1 ?_
  refine du 2 ?_
  refine sB h F (fun F h => ?_) fun F h => ?_
  refine ds ?_
  refine ds ?_
  refine du 2 ?_
  refine ds ?_
  refine ds ?_
  refine ds ?_
  refine du 2 ?_
  refine ds ?_
  refine ds ?_
  refine ds ?_
  refine ds ?_
  refine du 2 ?_
  refine dn ?_
  cases h
  exact Wp.ret en0
  refine du 1 ?_
  refine du 1 ?_
  refine du 2 ?_
  refine sB h F (fun F h => ?_) fun F h => ?_
  refine ds ?_
  refine ds ?_
  refine ds ?_
  refine du 2 ?_
  refine ds ?_
  refine ds ?_
  refine ds ?_
  refine ds ?_
  refine du 2 ?_
  refine dn ?_
  cases h
  exact Wp.ret en0
  refine du 1 ?_
  refine du 1 ?_
  obtain ⟨r5340, hr5339, h⟩ := obind h
  refine dc (con_tree_Equal _ hr5339) ?_ (hg := by (simp [F]; done))
  refine du 2 ?_
  refine sB h F (fun F h => ?_) fun F h => ?_
  refine ds ?_
  refine ds ?_
  refine ds ?_
  refine ds ?_
  refine du 2 ?_
  refine dn ?_
  cases h
  exact Wp.ret en0
  refine du 1 ?_
  obtain ⟨r5342, hr5341, h⟩ := obind h
  refine dc (con_law14_Of _ hr5341) ?_ (hg := by (simp [F]; done))
  refine du 1 ?_
  obtain ⟨r5357, hr5356, h⟩ := obind h
  refine dc (con_ref14_Equal _ hr5356) ?_ (hg := by (simp [F]; done))
  refine du 2 ?_
  refine dn ?_
  cases h
  exact Wp.ret en0
  refine rs0 ?_
  iterate 3 refine vp ?_
  refine vn ?_
  refine Wp.block ?_
  refine lp [some 0, some 1] (fun x : Int × (List ApiContact) => { ch := [(1, .int .u8 a1), (2, .hptr 0 0 0), (6, .sl 1 0 x.2.length), (37, .int .i64 (r4668.length : Int)), (38, .int .i64 x.1)], hp := [.var [.int .i64 _append0.Kind, .int .i64 _append0.N, aL cTreeTree _append0.Kids], .arr 5 x.2.length (rw (x.2.map cApiContact))], base := 0, n := 104, cond := True, gl := G0 }) (fun m x => law15_ReduceInvertsExpand_L2 n _append0 a1 r4668 m x.1 x.2 = some r) n (0, l4764) h ?_
  rintro rec_n2 ⟨p5360, l5361⟩ h
  dsimp only [law15_ReduceInvertsExpand_L2] at h
  try dsimp only
  refine rs0 ?_
  refine vp ?_
  refine vn ?_
  refine Wp.seq ?_
  refine sD h F (fun F h => ?_) fun F h => ?_
  refine cF ?_
  refine Wp.exit ?_
  exact nx [some 0, some 1] l5361 h
  refine cT ?_
  refine Wp.skip ?_
  refine sh ?_
  refine Wp.seq ?_
  refine Wp.block ?_
  refine rs0 ?_
  iterate 2 refine vp ?_
  refine vn ?_
  refine rg0 ?_
  iterate 8 refine vp ?_
  refine eI h F fun x5364 F h => ?_
  iterate 2 refine vp ?_
  refine nm cApiContact h F fun l5365 F h => ?_
  refine vn ?_
  refine sh ?_
  refine rg0 ?_
  iterate 2 refine vp ?_
  refine vn ?_
  exact nx [some 0, some 1] ((IntKind.i64.wrap (p5360 + 1)), l5365) h
  refine cT ?_
  refine rs0 ?_
  obtain ⟨r4763, hr4762, h⟩ := obind h
  refine vc (con_law15_alive hr4762) ?_
  refine vp ?_
  refine vn ?_
  cases h
  exact Wp.ret en0
  refine vs ?_
  refine vs ?_
  refine vs ?_
  refine vs ?_
  refine vp ?_
  refine vn ?_
  refine cT ?_
  refine rs0 ?_
  obtain ⟨r4759, hr4758, h⟩ := obind h
  refine vc (con_law15_alive hr4758) ?_
  refine vp ?_
  refine vn ?_
  cases h
  exact Wp.ret en0
  refine cT ?_
  refine rs0 ?_
  obtain ⟨r4617, hr4616, h⟩ := obind h
  refine vc (con_law15_alive hr4616) ?_
  refine vp ?_
  refine vn ?_
  cases h
  exact Wp.ret en0

end Go.Proofs.YtaebdeidbibfkaaGreatDoor
