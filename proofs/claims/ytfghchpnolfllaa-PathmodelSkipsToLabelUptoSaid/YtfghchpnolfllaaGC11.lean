/- Contracts: models of functions are right. No law is proved here. -/
import Derived.Test.YtfghchpnolfllaaGMod
import Derived.Test.YtfghchpnolfllaaTab
import Derived.Test.YtfghchpnolfllaaGC1
import Derived.Test.YtfghchpnolfllaaGC2
import Derived.Test.YtfghchpnolfllaaGC10
namespace Go.Proofs.Ytfghchpnolfllaa
open Go.Av Go.G
attribute [-simp] Int.natCast_tdiv_eq_ediv
attribute [local simp] runf guardA opf St.ev Go.Av.look St.setd constAV constAV0 opBin opLen intBin St.need lookT TT0 tab resA resOne resAll blt_dec ble_dec beq_dec isPure
attribute [local simp] opMakeSlice opCopy opIndexAddr opLoad opStore St.mem St.rows opUn calleeA toArgs toArg toArg0 toArgs0 shift shift0 shift1 splice cellsOf isFree ofCells TS.isAgg isCell strBin opConvert
attribute [local simp] opBuildSlice fillA opAppend eqC eqA cksB ckB St.newBox runI valKind withinB readsHp refsD refs noSl opFieldAddr opBuild placeOf Op.operands Call.operands opIndex opExtract opSlice opField partA
attribute [local simp] loA hiA lenA opMakeMap opLookup opMapUpdate keyOk findA_int findA_str putA_strB putA_strI putA_intB putA_intI mAV_length mAV_nil cA1 cA2 cA3 cA4 opNilCheck opMakeFunc opRange
attribute [local simp] aL cI cB cS cL rw_map fz_rw fz_const dropRow_rw fz_append fz_set fz_copy fz_rows rowLen_rw rowsLen_nil rowsLen_cons rowsLen_append rowsLen_map rowsLen_take rowsLen_drop rowsLen_replicate take_map_len take_map_le drop_map_len take_drop_len chunks isScalar isScalar0
attribute [local simp] putBack putAt objMap mapC mapA mapT map0 bid rid memB passed closedB argsH argH argH0 argsH0 objIds ids0 idsC isLocT isLocA isLocC isLoc0 LocObj
attribute [local congr] bind_congr1 map_congr1 cond_congr1
attribute [local simp] cApiAddr cApiContact cApiCoil cApiRung cApiLadder cApiState cApiSize
set_option maxHeartbeats 4000000
set_option maxRecDepth 20000
set_option linter.unusedSimpArgs false
set_option linter.unusedVariables false

theorem con_law20_alive {n : Nat} {r : Bool} (h : law20_alive n  = some r) : Con Try.prog 10 [] (.bool r) [] := by
  refine con_of (T := TT0) tt_ok Try.func10 (c := _) (by unfold Try.f10; rfl) Try.ntmps10 (rs := [.tmp 0]) (by rw [Try.results10]) (by unfold Try.f10; rfl) (by simp) ?_
  simp only [argsCh]
  have F := True.intro
  dsimp only [law20_alive] at h
  refine rs0 ?_
  refine vp ?_
  refine vn ?_
  refine dw (fun d => Nat.beq d 2007 || Nat.beq d 3000) [] ?_
  obtain ⟨r692, hr691, h⟩ := obind h
  refine dc (con_law20_example hr691) ?_
  refine du 1 ?_
  refine nl cB h F fun l693 m F h => ?_
  try simp only [m]
  clear m
  refine gd h F fun F h => ?_
  refine du 1 ?_
  refine nl cB h F fun l694 m F h => ?_
  try simp only [m]
  clear m
  refine du 1 ?_
  obtain ⟨⟨r1293, r1294, r1295⟩, hr1292, h⟩ := obind h
  dsimp only at h
  refine dc (con_pathmodel_Scan hr1292) ?_
  refine du 4 ?_
  refine de ?_
  refine dt ?_
  refine du 2 ?_
  refine dn ?_
  refine rs0 ?_
  iterate 3 refine vp ?_
  refine sB h F (fun F h => ?_) fun F h => ?_
  refine vs ?_
  refine vs ?_
  refine vs ?_
  iterate 2 refine vp ?_
  refine vs ?_
  refine vs ?_
  refine vs ?_
  iterate 2 refine vp ?_
  refine vs ?_
  refine vs ?_
  refine vs ?_
  refine vs ?_
  iterate 2 refine vp ?_
  refine vn ?_
  cases h
  exact Wp.ret en0
  refine vg ?_
  refine vg ?_
  refine vg ?_
  iterate 2 refine vp ?_
  refine sB h F (fun F h => ?_) fun F h => ?_
  refine vs ?_
  refine vs ?_
  refine vs ?_
  iterate 2 refine vp ?_
  refine vs ?_
  refine vs ?_
  refine vs ?_
  refine vs ?_
  iterate 2 refine vp ?_
  refine vn ?_
  cases h
  exact Wp.ret en0
  refine vg ?_
  refine vg ?_
  refine nl cB h F fun l1296 m F h => ?_
  try simp only [m]
  clear m
  obtain ⟨r1305, hr1304, h⟩ := obind h
  refine vc (con_slices_Equal_bool hr1304) ?_ (hg := by (simp [F]; done))
  iterate 2 refine vp ?_
  refine sB h F (fun F h => ?_) fun F h => ?_
  refine vs ?_
  refine vs ?_
  refine vs ?_
  refine vs ?_
  iterate 2 refine vp ?_
  refine vn ?_
  cases h
  exact Wp.ret en0
  refine vg ?_
  refine vg ?_
  refine vg ?_
  refine nl cB h F fun l1306 m F h => ?_
  try simp only [m]
  clear m
  obtain ⟨r1308, hr1307, h⟩ := obind h
  refine vc (con_slices_Equal_bool hr1307) ?_ (hg := by (simp [F]; done))
  iterate 2 refine vp ?_
  refine vn ?_
  cases h
  exact Wp.ret en0

end Go.Proofs.Ytfghchpnolfllaa
