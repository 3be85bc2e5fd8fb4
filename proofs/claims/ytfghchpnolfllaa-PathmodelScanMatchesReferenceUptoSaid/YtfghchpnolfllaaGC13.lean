/- Contracts: models of functions are right. No law is proved here. -/
import Derived.Test.YtfghchpnolfllaaGMod
import Derived.Test.YtfghchpnolfllaaTab
import Derived.Test.YtfghchpnolfllaaGC1
import Derived.Test.YtfghchpnolfllaaGC2
import Derived.Test.YtfghchpnolfllaaGC5
import Derived.Test.YtfghchpnolfllaaGC8
import Derived.Test.YtfghchpnolfllaaGC11
import Derived.Test.YtfghchpnolfllaaGC12
namespace Go.Proofs.Ytfghchpnolfllaa
open Go.Av Go.G
attribute [-simp] Int.natCast_tdiv_eq_ediv
attribute [local simp] runf guardA opf St.ev Go.Av.look St.setd constAV constAV0 opBin opLen intBin St.need lookT TT0 tab resA resOne resAll blt_dec ble_dec beq_dec isPure
attribute [local simp] opMakeSlice opCopy opIndexAddr opLoad opStore St.mem St.rows opUn calleeA toArgs toArg toArg0 toArgs0 shift shift0 shift1 splice cellsOf isFree ofCells TS.isAgg isCell strBin opConvert
attribute [local simp] opBuildSlice fillA opAppend eqC eqA cksB ckB St.newBox runI valKind withinB readsHp refsD refs noSl opFieldAddr opBuild placeOf Op.operands Call.operands opIndex opExtract opSlice opField partA
attribute [local simp] loA hiA lenA opMakeMap opLookup opMapUpdate keyOk findA_int findA_str putA_strB putA_strI putA_intB putA_intI mAV_length mAV_nil cA1 cA2 cA3 cA4 opNilCheck opMakeFunc opRange
attribute [local simp] aL cI cB cS cL rw_map fz_rw fz_const dropRow_rw fz_append fz_set fz_copy fz_rows rowLen_rw rowsLen_nil rowsLen_cons rowsLen_append rowsLen_map rowsLen_take rowsLen_drop rowsLen_replicate take_map_len take_map_le drop_map_len take_drop_len chunks isScalar isScalar0
attribute [local simp] putBack putAt objMap mapC mapA mapT map0 bid rid memB passed closedB argsH argH argH0 argsH0 objIds ids0 idsC isLocT isLocA isLocC isLoc0 LocObj
attribute [local congr] bind_congr1 map_congr1 cond_congr1
attribute [local simp] cApiAddr cApiContact cApiCoil cApiRung cApiLadder cApiState cApiSize
set_option maxHeartbeats 4000000
set_option maxRecDepth 20000
set_option linter.unusedSimpArgs false
set_option linter.unusedVariables false

theorem con_law20_PathmodelScanMatchesReference {n : Nat} {_append0 : ApiLadder} {a1 : ApiState} {a2 : List (List Bool)} {r : Bool} (h : law20_PathmodelScanMatchesReference n _append0 a1 a2 = some r) : Con Try.prog 3 [.agg (cApiLadder _append0), .agg (cApiState a1), aL (cL cB) a2] (.bool r) [] := by
  refine con_of (T := TT0) tt_ok Try.func3 (c := _) (by unfold Try.f3; rfl) Try.ntmps3 (rs := [.tmp 6]) (by rw [Try.results3]) (by unfold Try.f3; rfl) (by simp) ?_
  simp only [argsCh]
  have F := True.intro
  dsimp only [law20_PathmodelScanMatchesReference] at h
  refine rs0 ?_
  iterate 3 refine vp ?_
  refine vn ?_
  refine Wp.seq ?_
  refine rs0 ?_
  iterate 3 refine vp ?_
  obtain ⟨r1312, hr1311, h⟩ := obind h
  refine vc (con_law20_TooLarge hr1311) ?_
  refine vp ?_
  refine vn ?_
  refine sD h F (fun F h => ?_) fun F h => ?_
  refine cF ?_
  refine Wp.skip ?_
  refine sh ?_
  refine rs0 ?_
  refine vp ?_
  obtain ⟨r1316, hr1315, h⟩ := obind h
  refine vc (con_ref03_Clone hr1315) ?_
  iterate 2 refine vp ?_
  refine vn ?_
  refine jn (fun _ : Unit => { ch := [(3, .hptr 0 0 0), (4, .hptr 1 0 0), (7, .hptr 2 0 0)], hp := [.var [.int .i64 _append0.I, .int .i64 _append0.Q, .int .i64 _append0.M, aL cApiRung _append0.Rungs], .var [aL cB a1.Q, aL cB a1.M, aL cB a1.E], .var [aL cB r1316.Q, aL cB r1316.M, aL cB r1316.E]], base := 0, n := 75, cond := True }) (fun x => law20_PathmodelScanMatchesReference_J1 n _append0 a1 r1316 = some r) ?_ ?_
  clear h
  rintro _ h
  dsimp only [law20_PathmodelScanMatchesReference_J1] at h
  try dsimp only
  refine dw (fun _ => false) [0, 1, 2] ?_
  obtain ⟨r2734, hr2733, h⟩ := obind h
  refine dc (con_law20_alive hr2733) ?_
  refine du 1 ?_
  refine sB h F (fun F h => ?_) fun F h => ?_
  refine ds ?_
  refine ds ?_
  refine ds ?_
  refine ds ?_
  refine ds ?_
  refine du 2 ?_
  refine ds ?_
  refine ds ?_
  refine ds ?_
  refine du 2 ?_
  refine dn ?_
  cases h
  exact Wp.ret en0
  refine du 1 ?_
  obtain ⟨r2736, hr2735, h⟩ := obind h
  refine dc (con_pathmodel_SlotBases hr2735) ?_ (hg := by (simp [F]; done))
  refine du 1 ?_
  obtain ⟨r2738, hr2737, h⟩ := obind h
  refine dc (con_ref20_SlotBases hr2737) ?_ (hg := by (simp [F]; done))
  obtain ⟨r2747, hr2746, h⟩ := obind h
  refine dc (con_slices_Equal_int hr2746) ?_ (hg := by (simp [F]; done))
  refine du 2 ?_
  refine sB h F (fun F h => ?_) fun F h => ?_
  refine ds ?_
  refine ds ?_
  refine ds ?_
  refine du 2 ?_
  refine dn ?_
  cases h
  exact Wp.ret en0
  refine du 1 ?_
  refine du 1 ?_
  obtain ⟨r2749, hr2748, h⟩ := obind h
  refine dc (con_ref03_Equal hr2748) ?_ (hg := by (simp [F]; done))
  refine du 2 ?_
  refine dn ?_
  cases h
  exact Wp.ret en0
  refine rs0 ?_
  iterate 3 refine vp ?_
  refine vn ?_
  refine Wp.block ?_
  refine lp [some 0, some 1, some 2] (fun p2763 : Int => { ch := [(3, .hptr 0 0 0), (4, .hptr 1 0 0), (7, .hptr 2 0 0), (24, aL (cL cB) a2), (25, .int .i64 (a2.length : Int)), (26, .int .i64 p2763)], hp := [.var [.int .i64 _append0.I, .int .i64 _append0.Q, .int .i64 _append0.M, aL cApiRung _append0.Rungs], .var [aL cB a1.Q, aL cB a1.M, aL cB a1.E], .var [aL cB r1316.Q, aL cB r1316.M, aL cB r1316.E]], base := 0, n := 75, cond := True }) (fun m x => law20_PathmodelScanMatchesReference_L2 n _append0 a1 a2 r1316 m x = some r) n 0 h ?_
  rintro rec_n2 p2763 h
  dsimp only [law20_PathmodelScanMatchesReference_L2] at h
  try dsimp only
  refine rs0 ?_
  refine vp ?_
  refine vn ?_
  refine Wp.seq ?_
  refine sD h F (fun F h => ?_) fun F h => ?_
  refine cF ?_
  refine Wp.exit ?_
  exact nx [some 0, some 1, some 2] () h
  refine cT ?_
  refine Wp.skip ?_
  refine sh ?_
  refine Wp.seq ?_
  refine Wp.block ?_
  refine rs0 ?_
  refine eI h F fun x2777 F h => ?_
  iterate 3 refine vp ?_
  refine vn ?_
  refine rs0 ?_
  iterate 3 refine vp ?_
  obtain ⟨⟨r2779, r2780, r2781⟩, hr2778, h⟩ := obind h
  dsimp only at h
  refine vc (con_pathmodel_Scan hr2778) ?_
  iterate 8 refine vp ?_
  refine vn ?_
  refine rs0 ?_
  iterate 3 refine vp ?_
  obtain ⟨⟨r2783, r2784, r2785⟩, hr2782, h⟩ := obind h
  dsimp only at h
  refine vc (con_ref20_Scan hr2782) ?_
  iterate 8 refine vp ?_
  refine vn ?_
  refine rs0 ?_
  iterate 2 refine vp ?_
  obtain ⟨r2787, hr2786, h⟩ := obind h
  refine vc (con_ref03_Equal hr2786) ?_
  iterate 2 refine vp ?_
  refine sB h F (fun F h => ?_) fun F h => ?_
  refine vg ?_
  refine vg ?_
  obtain ⟨r2789, hr2788, h⟩ := obind h
  refine vc (con_slices_Equal_bool hr2788) ?_ (hg := by (simp [F]; done))
  refine vg ?_
  iterate 2 refine vp ?_
  refine sB h F (fun F h => ?_) fun F h => ?_
  refine vg ?_
  refine vg ?_
  refine vg ?_
  refine vp ?_
  refine vn ?_
  refine sB h F (fun F h => ?_) fun F h => ?_
  refine cF ?_
  refine Wp.skip ?_
  refine sh ?_
  refine rg0 ?_
  iterate 2 refine vp ?_
  refine vn ?_
  exact nx [some 0, some 1, some 2] (IntKind.i64.wrap (p2763 + 1)) h
  refine cT ?_
  refine rs0 ?_
  refine vp ?_
  refine vn ?_
  cases h
  exact Wp.ret en0
  refine vs ?_
  refine vs ?_
  refine vs ?_
  refine vp ?_
  refine vn ?_
  refine cT ?_
  refine rs0 ?_
  refine vp ?_
  refine vn ?_
  cases h
  exact Wp.ret en0
  refine vs ?_
  refine vs ?_
  refine vs ?_
  refine vs ?_
  iterate 2 refine vp ?_
  refine vs ?_
  refine vs ?_
  refine vs ?_
  refine vp ?_
  refine vn ?_
  refine cT ?_
  refine rs0 ?_
  refine vp ?_
  refine vn ?_
  cases h
  exact Wp.ret en0
  refine cT ?_
  refine rs0 ?_
  obtain ⟨r1314, hr1313, h⟩ := obind h
  refine vc (con_law20_alive hr1313) ?_
  refine vp ?_
  refine vn ?_
  cases h
  exact Wp.ret en0

end Go.Proofs.Ytfghchpnolfllaa
