/- Contracts: models of functions are right. No law is proved here. -/
import Derived.Test.YtaebdeidbibfkaaGreatDoorWGMod
import Derived.Test.YtaebdeidbibfkaaGreatDoorWTaw
import Derived.Test.YtaebdeidbibfkaaGreatDoorWSoz
import Derived.Test.YtaebdeidbibfkaaGreatDoorWShw
import Derived.Test.YtaebdeidbibfkaaGreatDoorWGC4
import Derived.Test.YtaebdeidbibfkaaGreatDoorWGC5
import Derived.Test.YtaebdeidbibfkaaGreatDoorWGC17
namespace Go.Proofs.YtaebdeidbibfkaaGreatDoor
open Go.Av Go.G
attribute [-simp] Int.natCast_tdiv_eq_ediv
attribute [local simp] runf guardA opf St.ev Go.Av.look St.setd constAV constAV0 opBin opLen intBin St.need lookT TT0 tab resA resOne resAll blt_dec ble_dec beq_dec isPure
attribute [local simp] opMakeSlice opCopy opIndexAddr opLoad opStore St.mem St.rows opUn calleeA toArgs toArg toArg0 toArgs0 shift shift0 shift1 splice cellsOf isFree ofCells TS.isAgg isCell strBin opConvert
attribute [local simp] opSlice3 opClear fz_clear opBuildSlice fillA opAppend eqC eqA cksB ckB St.newBox runI valKind withinB readsHp refsD refs noSl opFieldAddr opBuild opMax opMin placeOf Op.operands Call.operands opIndex opExtract opSlice opField partA
attribute [local simp] loA hiA lenA opMakeMap opLookup opMapUpdate keyOk findA_int findA_str findA_bool putA_strB putA_strI putA_strS putA_intB putA_intI putA_intS putA_boolI putA_boolB byteRow_rwN bytesOf_rwN opBytesStr mAV_length mAV_nil cA1 cA2 cA3 cA4 opNilCheck opMakeFunc opRange
attribute [local simp] aL cI cB cS cL rw_map fz_rw fz_const dropRow_rw fz_append fz_set fz_copy fz_rows rowLen_rw rowsLen_nil rowsLen_cons rowsLen_append rowsLen_map rowsLen_dm rowsLen_tm rowsLen_take rowsLen_drop rowsLen_replicate take_map_len take_map_le drop_map_len take_drop_len chunks isScalar isScalar0
attribute [local simp] putBack putAt objMap mapC mapA mapT map0 bid rid memB passed closedB argsH argH argH0 argsH0 objIds ids0 idsC isLocT isLocA isLocC isLoc0 LocObj
attribute [local congr] bind_congr1 map_congr1 cond_congr1
attribute [local simp] cApiAddr cApiContact cApiCoil cApiRung cReducePair cReduceEdge cTreeTree_eq TreeTree_Kind_mk TreeTree_N_mk TreeTree_Kids_mk eta_TreeTree cRef14Tree_eq Ref14Tree_Kind_mk Ref14Tree_N_mk Ref14Tree_Kids_mk eta_Ref14Tree
set_option maxHeartbeats 4000000
set_option linter.unusedSectionVars false
set_option maxRecDepth 20000
set_option linter.unusedSimpArgs false
set_option linter.unusedVariables false

theorem con_law15_alive {n : Nat} {r : Bool} (h : law15_alive n  = some r) : Con Tryz.prog G0 9 [] (.bool r) [] := by
  refine con_of (T := TT0) tt_ok Tryz.func9 (c := _) (by unfold Tryz.f9; rfl) Tryz.ntmps9 (rs := [.tmp 0]) (by rw [Tryz.results9]) (by unfold Tryz.f9; rfl) (by simp) ?_
  simp only [argsCh]
  have F := True.intro
  dsimp only [law15_alive] at h
  refine rs0 ?_
  refine vp ?_
  refine vn ?_
  refine rs0 ?_
  refine vp ?_
  refine nl cS h F fun l16 m F h => ?_
  try simp only [m]
  clear m
  obtain ⟨r35, hr34, h⟩ := obind h
  refine vc (con_law15_rung hr34) ?_
  obtain ⟨⟨r4493, r4494⟩, hr4492, h⟩ := obind h
  dsimp only at h
  refine vc (con_reduce_Reduce hr4492) ?_
  iterate 6 refine vp ?_
  refine vn ?_
  refine rs0 ?_
  refine vp ?_
  refine nl cS h F fun l4495 m F h => ?_
  try simp only [m]
  clear m
  obtain ⟨r4497, hr4496, h⟩ := obind h
  refine vc (con_law15_rung hr4496) ?_
  obtain ⟨⟨r4499, r4500⟩, hr4498, h⟩ := obind h
  dsimp only at h
  refine vc (con_reduce_Reduce hr4498) ?_
  iterate 6 refine vp ?_
  refine vn ?_
  refine rs0 ?_
  iterate 3 refine vp ?_
  refine sB h F (fun F h => ?_) fun F h => ?_
  refine vs ?_
  refine vs ?_
  refine vs ?_
  iterate 2 refine vp ?_
  refine vs ?_
  refine vs ?_
  iterate 2 refine vp ?_
  refine vn ?_
  cases h
  exact Wp.ret en0
  refine vg ?_
  obtain ⟨r4611, hr4610, h⟩ := obind h
  refine vc (con_tree_Format _ hr4610) ?_ (hg := by (simp [F]; done))
  refine vg ?_
  iterate 2 refine vp ?_
  refine sE h F (fun _ F h => ?_) fun _ F h => ?_
  refine vs ?_
  refine vs ?_
  iterate 2 refine vp ?_
  refine vn ?_
  cases h
  exact Wp.ret en0
  refine vg ?_
  refine vg ?_
  iterate 2 refine vp ?_
  refine vn ?_
  cases h
  exact Wp.ret en0

end Go.Proofs.YtaebdeidbibfkaaGreatDoor
