/- Contracts: models of functions are right. No law is proved here. -/
import Derived.Test.YtaebdeidbibfkaaGreatDoorWGMod
import Derived.Test.YtaebdeidbibfkaaGreatDoorWTaw
import Derived.Test.YtaebdeidbibfkaaGreatDoorWSoz
import Derived.Test.YtaebdeidbibfkaaGreatDoorWShw
namespace Go.Proofs.YtaebdeidbibfkaaGreatDoor
open Go.Av Go.G
attribute [-simp] Int.natCast_tdiv_eq_ediv
attribute [local simp] runf guardA opf St.ev Go.Av.look St.setd constAV constAV0 opBin opLen intBin St.need lookT TT0 tab resA resOne resAll blt_dec ble_dec beq_dec isPure
attribute [local simp] opMakeSlice opCopy opIndexAddr opLoad opStore St.mem St.rows opUn calleeA toArgs toArg toArg0 toArgs0 shift shift0 shift1 splice cellsOf isFree ofCells TS.isAgg isCell strBin opConvert
attribute [local simp] opSlice3 opClear fz_clear opBuildSlice fillA opAppend eqC eqA cksB ckB St.newBox runI valKind withinB readsHp refsD refs noSl opFieldAddr opBuild opMax opMin placeOf Op.operands Call.operands opIndex opExtract opSlice opField partA
attribute [local simp] loA hiA lenA opMakeMap opLookup opMapUpdate keyOk findA_int findA_str findA_bool putA_strB putA_strI putA_strS putA_intB putA_intI putA_intS putA_boolI putA_boolB byteRow_rwN bytesOf_rwN opBytesStr mAV_length mAV_nil cA1 cA2 cA3 cA4 opNilCheck opMakeFunc opRange
attribute [local simp] aL cI cB cS cL rw_map fz_rw fz_const dropRow_rw fz_append fz_set fz_copy fz_rows rowLen_rw rowsLen_nil rowsLen_cons rowsLen_append rowsLen_map rowsLen_dm rowsLen_tm rowsLen_take rowsLen_drop rowsLen_replicate take_map_len take_map_le drop_map_len take_drop_len chunks isScalar isScalar0
attribute [local simp] putBack putAt objMap mapC mapA mapT map0 bid rid memB passed closedB argsH argH argH0 argsH0 objIds ids0 idsC isLocT isLocA isLocC isLoc0 LocObj
attribute [local congr] bind_congr1 map_congr1 cond_congr1
attribute [local simp] cApiAddr cApiContact cApiCoil cApiRung cReducePair cReduceEdge cTreeTree_eq TreeTree_Kind_mk TreeTree_N_mk TreeTree_Kids_mk eta_TreeTree cRef14Tree_eq Ref14Tree_Kind_mk Ref14Tree_N_mk Ref14Tree_Kids_mk eta_Ref14Tree
set_option maxHeartbeats 4000000
set_option linter.unusedSectionVars false
set_option maxRecDepth 20000
set_option linter.unusedSimpArgs false
set_option linter.unusedVariables false

theorem con_strings_Join {n : Nat} {l : List Str} {sep : Str} {r : Str} (h : strings_Join n l sep = some r) : Con Tryz.prog G0 62 [aL cS l, .str sep] (.str r) [] := by
  unfold strings_Join at h
  split at h
  · rename_i hi
    cases h
    refine con_below ⟨_, Tryz.func62, rfl, by decide⟩ fun E w vals hh ha => ?_
    obtain ⟨x, y, rfl, hx, hy⟩ := args_two ha
    cases hy.str'
    rcases rep_strs hh hx with ⟨rfl, a, c, rfl⟩ | ⟨b, o, c, rfl, hb, hc, hcells⟩
    · refine ⟨_, fun w' => .str _, (Tryz.strings_Join_none a c sep w).mono fun e w' ⟨he, hw⟩ => ?_⟩
      subst hw
      exact ⟨he, Go.RowKit.Below.refl _ _, fun _ => Nat.le_refl _⟩
    · exact ⟨_, fun w' => .str _, (Tryz.strings_Join b o c l sep w hcells hb hi.1 hc (by simpa [joinS, Lib.join, ByteArray.size] using hi.2)).mono fun e w' ⟨he, hw⟩ => ⟨he, hw, fun h => (show False from h).elim⟩⟩
  · cases h

end Go.Proofs.YtaebdeidbibfkaaGreatDoor
