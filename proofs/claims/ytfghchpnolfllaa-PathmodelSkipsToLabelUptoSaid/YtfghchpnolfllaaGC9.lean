/- Contracts: models of functions are right. No law is proved here. -/
import Derived.Test.YtfghchpnolfllaaGMod
import Derived.Test.YtfghchpnolfllaaTab
import Derived.Test.YtfghchpnolfllaaGC0
import Derived.Test.YtfghchpnolfllaaGC2
import Derived.Test.YtfghchpnolfllaaGC5
import Derived.Test.YtfghchpnolfllaaGC6
import Derived.Test.YtfghchpnolfllaaGC8
namespace Go.Proofs.Ytfghchpnolfllaa
open Go.Av Go.G
attribute [-simp] Int.natCast_tdiv_eq_ediv
attribute [local simp] runf guardA opf St.ev Go.Av.look St.setd constAV constAV0 opBin opLen intBin St.need lookT TT0 tab resA resOne resAll blt_dec ble_dec beq_dec isPure
attribute [local simp] opMakeSlice opCopy opIndexAddr opLoad opStore St.mem St.rows opUn calleeA toArgs toArg toArg0 toArgs0 shift shift0 shift1 splice cellsOf isFree ofCells TS.isAgg isCell strBin opConvert
attribute [local simp] opBuildSlice fillA opAppend eqC eqA cksB ckB St.newBox runI valKind withinB readsHp refsD refs noSl opFieldAddr opBuild placeOf Op.operands Call.operands opIndex opExtract opSlice opField partA
attribute [local simp] loA hiA lenA opMakeMap opLookup opMapUpdate keyOk findA_int findA_str putA_strB putA_strI putA_intB putA_intI mAV_length mAV_nil cA1 cA2 cA3 cA4 opNilCheck opMakeFunc opRange
attribute [local simp] aL cI cB cS cL rw_map fz_rw fz_const dropRow_rw fz_append fz_set fz_copy fz_rows rowLen_rw rowsLen_nil rowsLen_cons rowsLen_append rowsLen_map rowsLen_take rowsLen_drop rowsLen_replicate take_map_len take_map_le drop_map_len take_drop_len chunks isScalar isScalar0
attribute [local simp] putBack putAt objMap mapC mapA mapT map0 bid rid memB passed closedB argsH argH argH0 argsH0 objIds ids0 idsC isLocT isLocA isLocC isLoc0 LocObj
attribute [local congr] bind_congr1 map_congr1 cond_congr1
attribute [local simp] cApiAddr cApiContact cApiCoil cApiRung cApiLadder cApiState cApiSize
set_option maxHeartbeats 4000000
set_option maxRecDepth 20000
set_option linter.unusedSimpArgs false
set_option linter.unusedVariables false

theorem con_printer_Check {n : Nat} {_append0 : ApiLadder} {r : Int × Int} (h : printer_Check n _append0 = some r) : Con Try.prog 31 [.agg (cApiLadder _append0)] (.tup [.int .i64 r.1, .int .i64 r.2]) [] := by
  refine con_of (T := TT0) tt_ok Try.func31 (c := _) (by unfold Try.f31; rfl) Try.ntmps31 (rs := [.tmp 2, .tmp 3]) (by rw [Try.results31]) (by unfold Try.f31; rfl) (by simp) ?_
  simp only [argsCh]
  have F := True.intro
  dsimp only [printer_Check] at h
  refine rs0 ?_
  iterate 3 refine vp ?_
  refine vn ?_
  refine rs0 ?_
  refine vp ?_
  obtain ⟨r696, hr695, h⟩ := obind h
  refine vc (con_printer_sizes hr695) ?_
  iterate 2 refine vp ?_
  refine vn ?_
  refine Wp.seq ?_
  refine Wp.block ?_
  refine rs0 ?_
  refine vp ?_
  obtain ⟨r708, hr707, h⟩ := obind h
  refine vc (con_addr_CheckSize hr707) ?_
  iterate 2 refine vp ?_
  refine vn ?_
  refine sB h F (fun F h => ?_) fun F h => ?_
  refine cF ?_
  refine rs0 ?_
  iterate 5 refine vp ?_
  refine vn ?_
  refine sD h F (fun F h => ?_) fun F h => ?_
  refine cF ?_
  refine Wp.skip ?_
  refine sh ?_
  refine jn (fun _ : Unit => { ch := [(1, .hptr 0 0 0)], hp := [.var [.int .i64 _append0.I, .int .i64 _append0.Q, .int .i64 _append0.M, aL cApiRung _append0.Rungs]], base := 0, n := 67, cond := True }) (fun x => printer_Check_J1 n _append0 = some r) ?_ ?_
  clear h
  rintro _ h
  dsimp only [printer_Check_J1] at h
  try dsimp only
  refine Wp.seq ?_
  refine rs0 ?_
  iterate 4 refine vp ?_
  refine vn ?_
  refine Wp.block ?_
  refine lp [some 0] (fun p875 : Int => { ch := [(1, .hptr 0 0 0), (42, aL cApiRung _append0.Rungs), (43, .int .i64 (_append0.Rungs.length : Int)), (44, .int .i64 p875)], hp := [.var [.int .i64 _append0.I, .int .i64 _append0.Q, .int .i64 _append0.M, aL cApiRung _append0.Rungs]], base := 0, n := 67, cond := True }) (fun m x => printer_Check_L2 n _append0 m x = some r) n 0 h ?_
  rintro rec_n2 p875 h
  dsimp only [printer_Check_L2] at h
  try dsimp only
  refine rs0 ?_
  refine vp ?_
  refine vn ?_
  refine Wp.seq ?_
  refine sD h F (fun F h => ?_) fun F h => ?_
  refine cF ?_
  refine Wp.exit ?_
  refine sh ?_
  refine rs0 ?_
  iterate 5 refine vp ?_
  refine vn ?_
  cases h
  exact Wp.ret en0
  refine cT ?_
  refine Wp.skip ?_
  refine sh ?_
  refine Wp.seq ?_
  refine Wp.block ?_
  refine rs0 ?_
  refine vp ?_
  refine eI h F fun x880 F h => ?_
  iterate 5 refine vp ?_
  refine vn ?_
  refine rs0 ?_
  iterate 4 refine vp ?_
  refine sEn h F (fun _ F h => ?_) fun _ F h => ?_
  refine vs ?_
  refine vs ?_
  refine vs ?_
  refine vs ?_
  refine vs ?_
  refine vs ?_
  refine vs ?_
  refine vs ?_
  refine vp ?_
  refine vn ?_
  refine cF ?_
  refine Wp.skip ?_
  refine sh ?_
  refine rg0 ?_
  iterate 2 refine vp ?_
  refine vn ?_
  exact nx [some 0] (IntKind.i64.wrap (p875 + 1)) h
  refine vg ?_
  refine vg ?_
  refine vg ?_
  refine vg ?_
  refine gd h F fun F h => ?_
  refine vg ?_
  refine nm cApiRung h F fun l881 F h => ?_
  refine vg ?_
  obtain ⟨r883, hr882, h⟩ := obind h
  refine vh [1] (con_slices_ContainsFunc_api_Rung_c54 hr882) ?_ (hg := by (simp [F]; done))
  refine vg ?_
  refine vp ?_
  refine vn ?_
  refine sB h F (fun F h => ?_) fun F h => ?_
  refine cF ?_
  refine Wp.skip ?_
  refine sh ?_
  refine rg0 ?_
  iterate 2 refine vp ?_
  refine vn ?_
  exact nx [some 0] (IntKind.i64.wrap (p875 + 1)) h
  refine cT ?_
  refine rs0 ?_
  iterate 3 refine vp ?_
  refine vn ?_
  cases h
  exact Wp.ret en0
  refine rs0 ?_
  iterate 4 refine vp ?_
  refine vn ?_
  refine Wp.block ?_
  refine lp [some 0, some 1] (fun p888 : Int => { ch := [(1, .hptr 0 0 0), (4, .hptr 1 0 0), (22, aL cApiRung _append0.Rungs), (23, .int .i64 (_append0.Rungs.length : Int)), (24, .int .i64 p888)], hp := [.var [.int .i64 _append0.I, .int .i64 _append0.Q, .int .i64 _append0.M, aL cApiRung _append0.Rungs], .var [.int .i64 r696.I, .int .i64 r696.Q, .int .i64 r696.M, .int .i64 r696.E]], base := 0, n := 67, cond := True }) (fun m x => printer_Check_L3 n _append0 r696 m x = some r) n 0 h ?_
  rintro rec_n3 p888 h
  dsimp only [printer_Check_L3] at h
  try dsimp only
  refine rs0 ?_
  refine vp ?_
  refine vn ?_
  refine Wp.seq ?_
  refine sD h F (fun F h => ?_) fun F h => ?_
  refine cF ?_
  refine Wp.exit ?_
  exact nx [some 0] () h
  refine cT ?_
  refine Wp.skip ?_
  refine sh ?_
  refine Wp.seq ?_
  refine Wp.block ?_
  refine rs0 ?_
  refine vp ?_
  refine eI h F fun x893 F h => ?_
  iterate 5 refine vp ?_
  refine vn ?_
  refine dw (fun _ => false) [0, 1, 2] ?_
  refine du 4 ?_
  refine gd h F fun F h => ?_
  refine du 1 ?_
  refine nm cApiRung h F fun l894 F h => ?_
  refine du 1 ?_
  obtain ⟨r896, hr895, h⟩ := obind h
  refine dc (con_printer_rung hr895) ?_
  refine du 1 ?_
  refine dn ?_
  refine rs0 ?_
  iterate 2 refine vp ?_
  refine vn ?_
  refine sB h F (fun F h => ?_) fun F h => ?_
  refine cF ?_
  refine Wp.skip ?_
  refine sh ?_
  refine rg0 ?_
  iterate 2 refine vp ?_
  refine vn ?_
  exact nx [some 0, some 1] (IntKind.i64.wrap (p888 + 1)) h
  refine cT ?_
  refine rs0 ?_
  iterate 4 refine vp ?_
  refine vn ?_
  cases h
  exact Wp.ret en0
  refine cT ?_
  refine rs0 ?_
  iterate 2 refine vp ?_
  refine vn ?_
  cases h
  exact Wp.ret en0
  refine cT ?_
  refine rs0 ?_
  iterate 2 refine vp ?_
  refine vn ?_
  cases h
  exact Wp.ret en0

theorem con_rungeval_Scan {n : Nat} {r_0 : ApiRung} {in1 : List Bool} {st2 : ApiState} {slot3 : Int} {r : ApiState × Bool × Int} (h : rungeval_Scan n r_0 in1 st2 slot3 = some r) : Con Try.prog 35 [.agg (cApiRung r_0), aL cB in1, .agg (cApiState st2), .int .i64 slot3] (.tup [.agg (cApiState r.1), .bool r.2.1, .int .i64 r.2.2]) [] := by
  refine con_of (T := TT0) tt_ok Try.func35 (c := _) (by unfold Try.f35; rfl) Try.ntmps35 (rs := [.cell 8 27, .tmp 9, .tmp 10]) (by rw [Try.results35]) (by unfold Try.f35; rfl) (by simp) ?_
  simp only [argsCh]
  have F := True.intro
  dsimp only [rungeval_Scan] at h
  refine rs0 ?_
  iterate 5 refine vp ?_
  refine vn ?_
  refine rs0 ?_
  iterate 4 refine vp ?_
  obtain ⟨⟨r1102, r1103, r1104⟩, hr1101, h⟩ := obind h
  dsimp only at h
  refine vc (con_rungeval_Contacts hr1101) ?_
  iterate 8 refine vp ?_
  refine vn ?_
  refine Wp.seq ?_
  refine rs0 ?_
  iterate 2 refine vp ?_
  refine vn ?_
  refine sB h F (fun F h => ?_) fun F h => ?_
  refine cF ?_
  refine Wp.skip ?_
  refine sh ?_
  refine rs0 ?_
  iterate 2 refine vp ?_
  obtain ⟨⟨r1157, r1158⟩, hr1156, h⟩ := obind h
  dsimp only at h
  refine vc (con_rungeval_Conducts hr1156) ?_
  iterate 5 refine vp ?_
  refine vn ?_
  refine Wp.seq ?_
  refine rs0 ?_
  iterate 2 refine vp ?_
  refine vn ?_
  refine sB h F (fun F h => ?_) fun F h => ?_
  refine cF ?_
  refine Wp.skip ?_
  refine sh ?_
  refine rs0 ?_
  iterate 3 refine vp ?_
  obtain ⟨⟨r1212, r1213⟩, hr1211, h⟩ := obind h
  dsimp only at h
  refine vc (con_rungeval_Coils hr1211) ?_
  iterate 6 refine vp ?_
  refine vn ?_
  refine Wp.seq ?_
  refine rs0 ?_
  iterate 2 refine vp ?_
  refine vn ?_
  refine sB h F (fun F h => ?_) fun F h => ?_
  refine cF ?_
  refine Wp.skip ?_
  refine sh ?_
  refine rs0 ?_
  iterate 5 refine vp ?_
  refine vn ?_
  cases h
  exact Wp.ret en0
  refine cT ?_
  refine rs0 ?_
  iterate 5 refine vp ?_
  refine vn ?_
  cases h
  exact Wp.ret en0
  refine cT ?_
  refine rs0 ?_
  iterate 5 refine vp ?_
  refine vn ?_
  cases h
  exact Wp.ret en0
  refine cT ?_
  refine rs0 ?_
  iterate 5 refine vp ?_
  refine vn ?_
  cases h
  exact Wp.ret en0

end Go.Proofs.Ytfghchpnolfllaa
