/- Contracts: models of functions are right. No law is proved here. -/
import Derived.Test.YtaebdeidbibfkaaGreatDoorGMod
import Derived.Test.YtaebdeidbibfkaaGreatDoorTaz
import Derived.Test.YtaebdeidbibfkaaGreatDoorGC1
import Derived.Test.YtaebdeidbibfkaaGreatDoorGC2
import Derived.Test.YtaebdeidbibfkaaGreatDoorGC3
import Derived.Test.YtaebdeidbibfkaaGreatDoorGC5
import Derived.Test.YtaebdeidbibfkaaGreatDoorGC12
import Derived.Test.YtaebdeidbibfkaaGreatDoorGC13
import Derived.Test.YtaebdeidbibfkaaGreatDoorGC21
namespace Go.Proofs.YtaebdeidbibfkaaGreatDoor
open Go.Av Go.G
attribute [-simp] Int.natCast_tdiv_eq_ediv
attribute [local simp] runf guardA opf St.ev Go.Av.look St.setd constAV constAV0 opBin opLen intBin St.need lookT TT0 tab resA resOne resAll blt_dec ble_dec beq_dec isPure
attribute [local simp] opMakeSlice opCopy opIndexAddr opLoad opStore St.mem St.rows opUn calleeA toArgs toArg toArg0 toArgs0 shift shift0 shift1 splice cellsOf isFree ofCells TS.isAgg isCell strBin opConvert
attribute [local simp] opSlice3 opClear fz_clear opBuildSlice fillA opAppend eqC eqA cksB ckB St.newBox runI valKind withinB readsHp refsD refs noSl opFieldAddr opBuild opMax opMin placeOf Op.operands Call.operands opIndex opExtract opSlice opField partA
attribute [local simp] loA hiA lenA opMakeMap opLookup opMapUpdate keyOk findA_int findA_str findA_bool putA_strB putA_strI putA_strS putA_intB putA_intI putA_intS putA_boolI putA_boolB mAV_length mAV_nil cA1 cA2 cA3 cA4 opNilCheck opMakeFunc opRange
attribute [local simp] aL cI cB cS cL rw_map fz_rw fz_const dropRow_rw fz_append fz_set fz_copy fz_rows rowLen_rw rowsLen_nil rowsLen_cons rowsLen_append rowsLen_map rowsLen_dm rowsLen_tm rowsLen_take rowsLen_drop rowsLen_replicate take_map_len take_map_le drop_map_len take_drop_len chunks isScalar isScalar0
attribute [local simp] putBack putAt objMap mapC mapA mapT map0 bid rid memB passed closedB argsH argH argH0 argsH0 objIds ids0 idsC isLocT isLocA isLocC isLoc0 LocObj
attribute [local congr] bind_congr1 map_congr1 cond_congr1
attribute [local simp] cApiAddr cApiContact cApiCoil cApiRung cApiIns cApiLadder cApiSize cApiProgram cReducePair cReduceEdge cTreeTree_eq TreeTree_Kind_mk TreeTree_N_mk TreeTree_Kids_mk eta_TreeTree cRef14Tree_eq Ref14Tree_Kind_mk Ref14Tree_N_mk Ref14Tree_Kids_mk eta_Ref14Tree
set_option maxHeartbeats 4000000
set_option maxRecDepth 20000
set_option linter.unusedSimpArgs false
set_option linter.unusedVariables false

theorem con_law17_CodegenTreeMatchesReference {n : Nat} {_append0 : ApiRung} {a1 : TreeTree} {a2 : Int} {r : Bool} (h : law17_CodegenTreeMatchesReference n _append0 a1 a2 = some r) : Con Tryz.prog G0 4 [.agg (cApiRung _append0), .agg [.int .i64 a1.Kind, .int .i64 a1.N, aL cTreeTree a1.Kids], .int .i64 a2] (.bool r) [] := by
  refine con_of (T := TT0) tt_ok Tryz.func4 (c := _) (by unfold Tryz.f4; rfl) Tryz.ntmps4 (rs := [.tmp 6]) (by rw [Tryz.results4]) (by unfold Tryz.f4; rfl) (by simp) ?_
  simp only [argsCh]
  have F := True.intro
  dsimp only [law17_CodegenTreeMatchesReference] at h
  refine rs0 ?_
  iterate 3 refine vp ?_
  refine vn ?_
  refine Wp.seq ?_
  refine rs0 ?_
  refine vp ?_
  obtain ⟨r15895, hr15894, h⟩ := obind h
  refine vc (con_law12_TooLarge hr15894) ?_
  iterate 2 refine vp ?_
  refine sD h F (fun F h => ?_) fun F h => ?_
  refine vg ?_
  obtain ⟨r15899, hr15898, h⟩ := obind h
  refine vc (con_law14_TooLarge hr15898) ?_ (hg := by (simp [F]; done))
  refine vg ?_
  iterate 2 refine vp ?_
  refine sD h F (fun F h => ?_) fun F h => ?_
  refine vg ?_
  refine vg ?_
  refine vg ?_
  refine vg ?_
  refine vp ?_
  refine vn ?_
  refine sD h F (fun F h => ?_) fun F h => ?_
  refine cF ?_
  refine Wp.skip ?_
  refine sh ?_
  refine rs0 ?_
  iterate 3 refine vp ?_
  obtain ⟨⟨r15905, r15906⟩, hr15904, h⟩ := obind h
  dsimp only at h
  refine vc (con_codegen_Tree hr15904) ?_
  iterate 5 refine vp ?_
  refine vn ?_
  refine dw (fun _ => false) [0, 1] ?_
  refine du 2 ?_
  obtain ⟨r15930, hr15929, h⟩ := obind h
  refine dc (con_law14_Of _ hr15929) ?_
  refine du 1 ?_
  obtain ⟨⟨r16567, r16568⟩, hr16566, h⟩ := obind h
  dsimp only at h
  refine dc (con_ref17_Tree hr16566) ?_
  refine du 5 ?_
  refine dn ?_
  refine rs0 ?_
  refine vp ?_
  obtain ⟨⟨r16570, r16571⟩, hr16569, h⟩ := obind h
  dsimp only at h
  refine vc (con_codegen_Coils hr16569) ?_
  iterate 5 refine vp ?_
  refine vn ?_
  refine rs0 ?_
  refine vp ?_
  obtain ⟨⟨r16590, r16591⟩, hr16589, h⟩ := obind h
  dsimp only at h
  refine vc (con_ref17_Coils hr16589) ?_
  iterate 5 refine vp ?_
  refine vn ?_
  refine rs0 ?_
  obtain ⟨r16593, hr16592, h⟩ := obind h
  refine vc (con_law17_alive hr16592) ?_
  refine vp ?_
  refine sB h F (fun F h => ?_) fun F h => ?_
  refine vs ?_
  refine vs ?_
  refine vs ?_
  iterate 2 refine vp ?_
  refine vs ?_
  refine vs ?_
  refine vs ?_
  iterate 2 refine vp ?_
  refine vs ?_
  refine vs ?_
  refine vs ?_
  iterate 2 refine vp ?_
  refine vs ?_
  refine vs ?_
  refine vs ?_
  iterate 2 refine vp ?_
  refine vn ?_
  cases h
  exact Wp.ret en0
  refine vg ?_
  refine vg ?_
  obtain ⟨r16595, hr16594, h⟩ := obind h
  refine vc (con_slices_Equal_api_Ins hr16594) ?_ (hg := by (simp [F]; done))
  iterate 2 refine vp ?_
  refine sB h F (fun F h => ?_) fun F h => ?_
  refine vs ?_
  refine vs ?_
  refine vs ?_
  iterate 2 refine vp ?_
  refine vs ?_
  refine vs ?_
  refine vs ?_
  iterate 2 refine vp ?_
  refine vs ?_
  refine vs ?_
  refine vs ?_
  iterate 2 refine vp ?_
  refine vn ?_
  cases h
  exact Wp.ret en0
  refine vg ?_
  refine vg ?_
  refine vg ?_
  iterate 2 refine vp ?_
  refine sB h F (fun F h => ?_) fun F h => ?_
  refine vs ?_
  refine vs ?_
  refine vs ?_
  iterate 2 refine vp ?_
  refine vs ?_
  refine vs ?_
  refine vs ?_
  iterate 2 refine vp ?_
  refine vn ?_
  cases h
  exact Wp.ret en0
  refine vg ?_
  refine vg ?_
  obtain ⟨r16597, hr16596, h⟩ := obind h
  refine vc (con_slices_Equal_api_Ins hr16596) ?_ (hg := by (simp [F]; done))
  iterate 2 refine vp ?_
  refine sB h F (fun F h => ?_) fun F h => ?_
  refine vs ?_
  refine vs ?_
  refine vs ?_
  iterate 2 refine vp ?_
  refine vn ?_
  cases h
  exact Wp.ret en0
  refine vg ?_
  refine vg ?_
  refine vg ?_
  iterate 2 refine vp ?_
  refine vn ?_
  cases h
  exact Wp.ret en0
  refine cT ?_
  refine rs0 ?_
  obtain ⟨r15903, hr15902, h⟩ := obind h
  refine vc (con_law17_alive hr15902) ?_
  refine vp ?_
  refine vn ?_
  cases h
  exact Wp.ret en0
  refine vs ?_
  refine vs ?_
  refine vs ?_
  refine vs ?_
  refine vp ?_
  refine vn ?_
  refine cT ?_
  refine rs0 ?_
  obtain ⟨r15901, hr15900, h⟩ := obind h
  refine vc (con_law17_alive hr15900) ?_
  refine vp ?_
  refine vn ?_
  cases h
  exact Wp.ret en0
  refine vs ?_
  refine vs ?_
  refine vs ?_
  iterate 2 refine vp ?_
  refine vs ?_
  refine vs ?_
  refine vs ?_
  refine vs ?_
  refine vp ?_
  refine vn ?_
  refine cT ?_
  refine rs0 ?_
  obtain ⟨r15897, hr15896, h⟩ := obind h
  refine vc (con_law17_alive hr15896) ?_
  refine vp ?_
  refine vn ?_
  cases h
  exact Wp.ret en0

end Go.Proofs.YtaebdeidbibfkaaGreatDoor
