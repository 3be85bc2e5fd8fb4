/- Contracts: models of functions are right. No law is proved here. -/
import Derived.Test.YtaebdeidbibfkaaGreatDoorUGMod
import Derived.Test.YtaebdeidbibfkaaGreatDoorUTau
import Derived.Test.YtaebdeidbibfkaaGreatDoorUSoz
import Derived.Test.YtaebdeidbibfkaaGreatDoorUShz
import Derived.Test.YtaebdeidbibfkaaGreatDoorUGC3
import Derived.Test.YtaebdeidbibfkaaGreatDoorUGC4
import Derived.Test.YtaebdeidbibfkaaGreatDoorUGC14
import Derived.Test.YtaebdeidbibfkaaGreatDoorUGC17
import Derived.Test.YtaebdeidbibfkaaGreatDoorUGC18
import Derived.Test.YtaebdeidbibfkaaGreatDoorUGC19
namespace Go.Proofs.YtaebdeidbibfkaaGreatDoor
open Go.Av Go.G
attribute [-simp] Int.natCast_tdiv_eq_ediv
attribute [local simp] runf guardA opf St.ev Go.Av.look St.setd constAV constAV0 opBin opLen intBin St.need lookT TT0 tab resA resOne resAll blt_dec ble_dec beq_dec isPure
attribute [local simp] opMakeSlice opCopy opIndexAddr opLoad opStore St.mem St.rows opUn calleeA toArgs toArg toArg0 toArgs0 shift shift0 shift1 splice cellsOf isFree ofCells TS.isAgg isCell strBin opConvert
attribute [local simp] opSlice3 opClear fz_clear opBuildSlice fillA opAppend eqC eqA cksB ckB St.newBox runI valKind withinB readsHp refsD refs noSl opFieldAddr opBuild opMax opMin placeOf Op.operands Call.operands opIndex opExtract opSlice opField partA
attribute [local simp] loA hiA lenA opMakeMap opLookup opMapUpdate keyOk findA_int findA_str findA_bool putA_strB putA_strI putA_strS putA_intB putA_intI putA_intS putA_boolI putA_boolB byteRow_rwN bytesOf_rwN opBytesStr mAV_length mAV_nil cA1 cA2 cA3 cA4 opNilCheck opMakeFunc opRange
attribute [local simp] aL cI cB cS cL rw_map fz_rw fz_const dropRow_rw fz_append fz_set fz_copy fz_rows rowLen_rw rowsLen_nil rowsLen_cons rowsLen_append rowsLen_map rowsLen_dm rowsLen_tm rowsLen_take rowsLen_drop rowsLen_replicate take_map_len take_map_le drop_map_len take_drop_len chunks isScalar isScalar0
attribute [local simp] putBack putAt objMap mapC mapA mapT map0 bid rid memB passed closedB argsH argH argH0 argsH0 objIds ids0 idsC isLocT isLocA isLocC isLoc0 LocObj
attribute [local congr] bind_congr1 map_congr1 cond_congr1
attribute [local simp] cApiAddr cApiContact cApiCoil cApiRung cReducePair cReduceEdge cRef15Edge cTreeTree_eq TreeTree_Kind_mk TreeTree_N_mk TreeTree_Kids_mk eta_TreeTree cRef14Tree_eq Ref14Tree_Kind_mk Ref14Tree_N_mk Ref14Tree_Kids_mk eta_Ref14Tree
set_option maxHeartbeats 4000000
set_option linter.unusedSectionVars false
set_option maxRecDepth 20000
set_option linter.unusedSimpArgs false
set_option linter.unusedVariables false

theorem con_law15_ReduceMatchesReference {n : Nat} {r_0 : ApiRung} {r : Bool} (h : law15_ReduceMatchesReference n r_0 = some r) : Con Tryz.prog G0 3 [.agg (cApiRung r_0)] (.bool r) [] := by
  refine con_of (T := TT0) tt_ok Tryz.func3 (c := _) (by unfold Tryz.f3; rfl) Tryz.ntmps3 (rs := [.tmp 2]) (by rw [Tryz.results3]) (by unfold Tryz.f3; rfl) (by simp) ?_
  simp only [argsCh]
  have F := True.intro
  dsimp only [law15_ReduceMatchesReference] at h
  refine rs0 ?_
  iterate 2 refine vp ?_
  refine vn ?_
  refine Wp.seq ?_
  refine rs0 ?_
  refine vp ?_
  obtain ⟨r4615, hr4614, h⟩ := obind h
  refine vc (con_law12_TooLarge hr4614) ?_
  iterate 2 refine vp ?_
  refine sD h F (fun F h => ?_) fun F h => ?_
  refine vg ?_
  refine vg ?_
  refine vg ?_
  refine vg ?_
  refine vp ?_
  refine vn ?_
  refine sD h F (fun F h => ?_) fun F h => ?_
  refine cF ?_
  refine Wp.skip ?_
  refine sh ?_
  refine rs0 ?_
  refine vp ?_
  obtain ⟨⟨r4621, r4622⟩, hr4620, h⟩ := obind h
  dsimp only at h
  refine vc (con_reduce_Reduce hr4620) ?_
  iterate 6 refine vp ?_
  refine vn ?_
  refine rs0 ?_
  refine vp ?_
  obtain ⟨⟨r10341, r10342⟩, hr10340, h⟩ := obind h
  dsimp only at h
  refine vc (con_ref15_Reduce hr10340) ?_
  iterate 6 refine vp ?_
  refine vn ?_
  refine dw (fun _ => false) [0, 1, 2] ?_
  obtain ⟨r10344, hr10343, h⟩ := obind h
  refine dc (con_law15_alive hr10343) ?_
  refine du 1 ?_
  refine sB h F (fun F h => ?_) fun F h => ?_
  refine ds ?_
  refine ds ?_
  refine ds ?_
  refine ds ?_
  refine du 2 ?_
  refine ds ?_
  refine ds ?_
  refine ds ?_
  refine du 2 ?_
  refine ds ?_
  refine ds ?_
  refine ds ?_
  refine ds ?_
  refine ds ?_
  refine du 2 ?_
  refine dn ?_
  cases h
  exact Wp.ret en0
  refine du 1 ?_
  obtain ⟨r10368, hr10367, h⟩ := obind h
  refine dc (con_law14_Of _ hr10367) ?_ (hg := by (simp [F]; done))
  refine du 1 ?_
  obtain ⟨r10383, hr10382, h⟩ := obind h
  refine dc (con_ref14_Equal _ hr10382) ?_ (hg := by (simp [F]; done))
  refine du 2 ?_
  refine sB h F (fun F h => ?_) fun F h => ?_
  refine ds ?_
  refine ds ?_
  refine ds ?_
  refine du 2 ?_
  refine ds ?_
  refine ds ?_
  refine ds ?_
  refine ds ?_
  refine ds ?_
  refine du 2 ?_
  refine dn ?_
  cases h
  exact Wp.ret en0
  refine du 1 ?_
  refine du 1 ?_
  refine du 1 ?_
  refine du 2 ?_
  refine sB h F (fun F h => ?_) fun F h => ?_
  refine ds ?_
  refine ds ?_
  refine ds ?_
  refine ds ?_
  refine ds ?_
  refine du 2 ?_
  refine dn ?_
  cases h
  exact Wp.ret en0
  refine du 1 ?_
  obtain ⟨r10388, hr10387, h⟩ := obind h
  refine dc (con_reduce_IsSeriesParallel hr10387) ?_ (hg := by (simp [F]; done))
  refine du 1 ?_
  refine du 1 ?_
  refine du 1 ?_
  refine du 2 ?_
  refine dn ?_
  cases h
  exact Wp.ret en0
  refine cT ?_
  refine rs0 ?_
  obtain ⟨r4619, hr4618, h⟩ := obind h
  refine vc (con_law15_alive hr4618) ?_
  refine vp ?_
  refine vn ?_
  cases h
  exact Wp.ret en0
  refine vs ?_
  refine vs ?_
  refine vs ?_
  refine vs ?_
  refine vp ?_
  refine vn ?_
  refine cT ?_
  refine rs0 ?_
  obtain ⟨r4617, hr4616, h⟩ := obind h
  refine vc (con_law15_alive hr4616) ?_
  refine vp ?_
  refine vn ?_
  cases h
  exact Wp.ret en0

end Go.Proofs.YtaebdeidbibfkaaGreatDoor
