/- Contracts: models of functions are right. No law is proved here. -/
import Derived.Test.YtcpbhkplgnhmkaaGMod
import Derived.Test.YtcpbhkplgnhmkaaTak
import Derived.Test.YtcpbhkplgnhmkaaLawM11
import Derived.Test.YtcpbhkplgnhmkaaGC1
import Derived.Test.YtcpbhkplgnhmkaaGC2
import Derived.Test.YtcpbhkplgnhmkaaGC4
import Derived.Test.YtcpbhkplgnhmkaaGC10
import Derived.Test.YtcpbhkplgnhmkaaGC14
import Derived.Test.YtcpbhkplgnhmkaaGC18
namespace Go.Proofs.Ytcpbhkplgnhmkaa
open Go.Av Go.G
attribute [-simp] Int.natCast_tdiv_eq_ediv
attribute [local simp] runf guardA opf St.ev Go.Av.look St.setd constAV constAV0 opBin opLen intBin St.need lookT TT0 tab resA resOne resAll blt_dec ble_dec beq_dec isPure
attribute [local simp] opMakeSlice opCopy opIndexAddr opLoad opStore St.mem St.rows opUn calleeA toArgs toArg toArg0 toArgs0 shift shift0 shift1 splice cellsOf isFree ofCells TS.isAgg isCell strBin opConvert
attribute [local simp] opSlice3 opClear fz_clear opBuildSlice fillA opAppend eqC eqA cksB ckB St.newBox runI valKind withinB readsHp refsD refs noSl opFieldAddr opBuild opMax opMin placeOf Op.operands Call.operands opIndex opExtract opSlice opField partA
attribute [local simp] loA hiA lenA opMakeMap opLookup opMapUpdate keyOk findA_int findA_str findA_bool putA_strB putA_strI putA_strS putA_intB putA_intI putA_intS putA_boolI putA_boolB byteRow_rw bytesOf_rw opBytesStr mAV_length mAV_nil cA1 cA2 cA3 cA4 opNilCheck opMakeFunc opRange
attribute [local simp] aL cI cB cS cL rw_map fz_rw fz_const dropRow_rw fz_append fz_set fz_copy fz_rows rowLen_rw rowsLen_nil rowsLen_cons rowsLen_append rowsLen_map rowsLen_dm rowsLen_tm rowsLen_take rowsLen_drop rowsLen_replicate take_map_len take_map_le drop_map_len take_drop_len chunks isScalar isScalar0
attribute [local simp] putBack putAt objMap mapC mapA mapT map0 bid rid memB passed closedB argsH argH argH0 argsH0 objIds ids0 idsC isLocT isLocA isLocC isLoc0 LocObj
attribute [local congr] bind_congr1 map_congr1 cond_congr1
attribute [local simp] cApiAddr cApiContact cApiCoil cApiRung cApiState cReducePair cReduceEdge cTreeTree_eq TreeTree_Kind_mk TreeTree_N_mk TreeTree_Kids_mk eta_TreeTree
variable [Drawn]
set_option maxHeartbeats 4000000
set_option linter.unusedSectionVars false
set_option maxRecDepth 20000
set_option linter.unusedSimpArgs false
set_option linter.unusedVariables false

theorem con_law16_RungevalAgreesWithTree {n : Nat} {_append0 : ApiRung} {a1 : List Bool} {r : Bool} (h : law16_RungevalAgreesWithTree n _append0 a1 = some r) : Con Try.prog G0 3 [.agg (cApiRung _append0), aL cB a1] (.bool r) [] := by
  refine con_of (T := TT0) tt_ok Try.func3 (c := _) (by unfold Try.f3; rfl) Try.ntmps3 (rs := [.tmp 4]) (by rw [Try.results3]) (by unfold Try.f3; rfl) (by simp) ?_
  simp only [argsCh]
  have F := True.intro
  dsimp only [law16_RungevalAgreesWithTree] at h
  refine rs0 ?_
  iterate 2 refine vp ?_
  refine vn ?_
  refine Wp.seq ?_
  refine rs0 ?_
  refine vp ?_
  obtain ⟨r576, hr575, h⟩ := obind h
  refine vc (con_law12_TooLarge hr575) ?_
  iterate 2 refine vp ?_
  refine sD h F (fun F h => ?_) fun F h => ?_
  refine vg ?_
  refine vg ?_
  refine vg ?_
  refine vg ?_
  iterate 2 refine vp ?_
  refine sD h F (fun F h => ?_) fun F h => ?_
  refine vg ?_
  refine vg ?_
  refine vg ?_
  refine vg ?_
  refine vg ?_
  refine vg ?_
  refine vp ?_
  refine vn ?_
  refine sB h F (fun F h => ?_) fun F h => ?_
  refine cF ?_
  refine Wp.skip ?_
  refine sh ?_
  refine rs0 ?_
  iterate 2 refine vp ?_
  obtain ⟨⟨r584, r585⟩, hr583, h⟩ := obind h
  dsimp only at h
  refine vc (con_rungeval_Conducts hr583) ?_
  iterate 5 refine vp ?_
  refine vn ?_
  refine dw (fun d => Nat.beq d 46) [0] ?_
  refine du 3 ?_
  refine gd h F fun F h => ?_
  refine de ?_
  refine nm cB h F fun l586 F h => ?_
  obtain ⟨⟨r588, r589⟩, hr587, h⟩ := obind h
  dsimp only at h
  refine dx (con_rungeval_Conducts hr587) ?_
  refine du 5 ?_
  refine dn ?_
  refine rs0 ?_
  iterate 2 refine vp ?_
  refine gd h F fun F h => ?_
  refine vp ?_
  refine nm cB h F fun l590 F h => ?_
  refine vp ?_
  refine vn ?_
  refine jn (fun l599 : List Bool => { ch := [(1, aL cB a1), (2, .hptr 0 0 0), (5, .bool r584), (6, .int .i64 r585), (7, .bool r588), (8, .int .i64 r589), (9, .sl 1 0 l599.length)], hp := [.var [.str _append0.Label, aL cApiContact _append0.Contacts, aL cApiCoil _append0.Coils, .str _append0.Jump], .arr 1 l599.length (rw (l599.map cB))], base := 0, n := 118, cond := True, gl := G0 }) (fun x => law16_RungevalAgreesWithTree_J1 n _append0 a1 r584 r585 r588 r589 x = some r) ?_ ?_
  clear h
  rintro l599 h
  dsimp only [law16_RungevalAgreesWithTree_J1] at h
  try dsimp only
  refine rs0 ?_
  iterate 2 refine vp ?_
  obtain ⟨⟨r601, r602⟩, hr600, h⟩ := obind h
  dsimp only at h
  refine vc (con_rungeval_Conducts hr600) ?_
  iterate 5 refine vp ?_
  refine vn ?_
  refine jn (fun _ : Unit => { ch := [(1, aL cB a1), (2, .hptr 0 0 0), (5, .bool r584)], hp := [.var [.str _append0.Label, aL cApiContact _append0.Contacts, aL cApiCoil _append0.Coils, .str _append0.Jump]], base := 0, n := 118, cond := True, gl := G0 }) (fun x => law16_RungevalAgreesWithTree_J2 n _append0 a1 r584 = some r) ?_ ?_
  clear h
  rintro _ h
  dsimp only [law16_RungevalAgreesWithTree_J2] at h
  try dsimp only
  refine rs0 ?_
  refine vp ?_
  obtain ⟨⟨r5478, r5479⟩, hr5477, h⟩ := obind h
  dsimp only at h
  refine vc (con_reduce_Reduce hr5477) ?_
  iterate 6 refine vp ?_
  refine vn ?_
  refine Wp.seq ?_
  refine rs0 ?_
  iterate 2 refine vp ?_
  refine vn ?_
  refine sB h F (fun F h => ?_) fun F h => ?_
  refine cF ?_
  refine Wp.skip ?_
  refine sh ?_
  refine rs0 ?_
  iterate 2 refine vp ?_
  obtain ⟨⟨r5633, r5634⟩, hr5632, h⟩ := obind h
  dsimp only at h
  refine vc (con_tree_Eval hr5632) ?_
  iterate 5 refine vp ?_
  refine vn ?_
  refine rs0 ?_
  obtain ⟨r5636, hr5635, h⟩ := obind h
  refine vc (con_law16_alive hr5635) ?_
  refine vp ?_
  refine sB h F (fun F h => ?_) fun F h => ?_
  refine vs ?_
  refine vs ?_
  iterate 2 refine vp ?_
  refine vs ?_
  refine vs ?_
  refine vs ?_
  iterate 2 refine vp ?_
  refine vn ?_
  cases h
  exact Wp.ret en0
  refine vg ?_
  refine vg ?_
  iterate 2 refine vp ?_
  refine sB h F (fun F h => ?_) fun F h => ?_
  refine vs ?_
  refine vs ?_
  refine vs ?_
  iterate 2 refine vp ?_
  refine vn ?_
  cases h
  exact Wp.ret en0
  refine vg ?_
  refine vg ?_
  refine vg ?_
  iterate 2 refine vp ?_
  refine vn ?_
  cases h
  exact Wp.ret en0
  refine cT ?_
  refine rs0 ?_
  obtain ⟨r5483, hr5482, h⟩ := obind h
  refine vc (con_law16_alive hr5482) ?_
  refine vp ?_
  refine vn ?_
  cases h
  exact Wp.ret en0
  refine rs0 ?_
  iterate 3 refine vp ?_
  refine sB h F (fun F h => ?_) fun F h => ?_
  refine vg ?_
  refine vg ?_
  iterate 2 refine vp ?_
  refine sB h F (fun F h => ?_) fun F h => ?_
  refine vg ?_
  refine vg ?_
  iterate 2 refine vp ?_
  refine sB h F (fun F h => ?_) fun F h => ?_
  refine vg ?_
  iterate 2 refine vp ?_
  refine sB h F (fun F h => ?_) fun F h => ?_
  refine vg ?_
  refine vg ?_
  obtain ⟨r5638, hr5637, h⟩ := obind h
  refine vc (con_ref12_Reachable hr5637) ?_ (hg := by (simp [F]; done))
  obtain ⟨r5640, hr5639, h⟩ := obind h
  refine vc (con_slices_Contains_string hr5639) ?_ (hg := by (simp [F]; done))
  refine vg ?_
  iterate 2 refine vp ?_
  refine sB h F (fun F h => ?_) fun F h => ?_
  refine vg ?_
  refine vg ?_
  refine sB h F (fun F h => ?_) fun F h => ?_
  refine vs ?_
  refine vs ?_
  refine vg ?_
  refine vp ?_
  refine vn ?_
  refine cF ?_
  refine Wp.skip ?_
  exact nx [some 0] () h
  refine vg ?_
  refine vg ?_
  refine vg ?_
  refine vp ?_
  refine vn ?_
  refine sB h F (fun F h => ?_) fun F h => ?_
  refine cF ?_
  refine Wp.skip ?_
  exact nx [some 0] () h
  refine cT ?_
  refine rs0 ?_
  refine vp ?_
  refine vn ?_
  cases h
  exact Wp.ret en0
  refine vs ?_
  refine vs ?_
  refine vs ?_
  refine vs ?_
  refine vs ?_
  refine vp ?_
  refine vn ?_
  refine cT ?_
  refine rs0 ?_
  refine vp ?_
  refine vn ?_
  cases h
  exact Wp.ret en0
  refine vs ?_
  refine vs ?_
  refine vs ?_
  refine vs ?_
  refine vs ?_
  iterate 2 refine vp ?_
  refine vs ?_
  refine vs ?_
  refine vs ?_
  refine vs ?_
  refine vs ?_
  refine vp ?_
  refine vn ?_
  refine cT ?_
  refine rs0 ?_
  refine vp ?_
  refine vn ?_
  cases h
  exact Wp.ret en0
  refine vs ?_
  iterate 2 refine vp ?_
  refine vs ?_
  refine vs ?_
  refine vs ?_
  refine vs ?_
  refine vs ?_
  iterate 2 refine vp ?_
  refine vs ?_
  refine vs ?_
  refine vs ?_
  refine vs ?_
  refine vs ?_
  refine vp ?_
  refine vn ?_
  refine cT ?_
  refine rs0 ?_
  refine vp ?_
  refine vn ?_
  cases h
  exact Wp.ret en0
  refine vs ?_
  refine vs ?_
  iterate 2 refine vp ?_
  refine vs ?_
  iterate 2 refine vp ?_
  refine vs ?_
  refine vs ?_
  refine vs ?_
  refine vs ?_
  refine vs ?_
  iterate 2 refine vp ?_
  refine vs ?_
  refine vs ?_
  refine vs ?_
  refine vs ?_
  refine vs ?_
  refine vp ?_
  refine vn ?_
  refine cT ?_
  refine rs0 ?_
  refine vp ?_
  refine vn ?_
  cases h
  exact Wp.ret en0
  refine vs ?_
  refine vs ?_
  iterate 2 refine vp ?_
  refine vs ?_
  refine vs ?_
  iterate 2 refine vp ?_
  refine vs ?_
  iterate 2 refine vp ?_
  refine vs ?_
  refine vs ?_
  refine vs ?_
  refine vs ?_
  refine vs ?_
  iterate 2 refine vp ?_
  refine vs ?_
  refine vs ?_
  refine vs ?_
  refine vs ?_
  refine vs ?_
  refine vp ?_
  refine vn ?_
  refine cT ?_
  refine rs0 ?_
  refine vp ?_
  refine vn ?_
  cases h
  exact Wp.ret en0
  refine rs0 ?_
  iterate 3 refine vp ?_
  refine vn ?_
  refine Wp.block ?_
  refine lp [some 0, some 2] (fun x : Int × (List Bool) => { ch := [(1, aL cB a1), (2, .hptr 0 0 0), (5, .bool r584), (6, .int .i64 r585), (7, .bool r588), (8, .int .i64 r589), (9, .sl 1 0 x.2.length), (53, .int .i64 (a1.length : Int)), (54, .int .i64 x.1)], hp := [.var [.str _append0.Label, aL cApiContact _append0.Contacts, aL cApiCoil _append0.Coils, .str _append0.Jump], .arr 1 x.2.length (rw (x.2.map cB))], base := 0, n := 118, cond := True, gl := G0 }) (fun m x => law16_RungevalAgreesWithTree_L3 n _append0 a1 r584 r585 r588 r589 m x.1 x.2 = some r) n (0, l590) h ?_
  rintro rec_n3 ⟨p5643, l5644⟩ h
  dsimp only [law16_RungevalAgreesWithTree_L3] at h
  try dsimp only
  refine rs0 ?_
  refine vp ?_
  refine vn ?_
  refine Wp.seq ?_
  refine sD h F (fun F h => ?_) fun F h => ?_
  refine cF ?_
  refine Wp.exit ?_
  exact nx [some 0, some 1] l5644 h
  refine cT ?_
  refine Wp.skip ?_
  refine sh ?_
  refine Wp.seq ?_
  refine Wp.block ?_
  refine rs0 ?_
  iterate 2 refine vp ?_
  refine vn ?_
  refine rg0 ?_
  iterate 2 refine vp ?_
  refine eI h F fun x5647 F h => ?_
  iterate 2 refine vp ?_
  refine nm cB h F fun l5648 F h => ?_
  refine vn ?_
  refine sh ?_
  refine rg0 ?_
  iterate 2 refine vp ?_
  refine vn ?_
  exact nx [some 0, some 1] ((IntKind.i64.wrap (p5643 + 1)), l5648) h
  refine cT ?_
  refine rs0 ?_
  obtain ⟨r582, hr581, h⟩ := obind h
  refine vc (con_law16_alive hr581) ?_
  refine vp ?_
  refine vn ?_
  cases h
  exact Wp.ret en0
  refine vs ?_
  refine vs ?_
  refine vs ?_
  refine vs ?_
  refine vs ?_
  refine vs ?_
  refine vp ?_
  refine vn ?_
  refine cT ?_
  refine rs0 ?_
  obtain ⟨r580, hr579, h⟩ := obind h
  refine vc (con_law16_alive hr579) ?_
  refine vp ?_
  refine vn ?_
  cases h
  exact Wp.ret en0
  refine vs ?_
  refine vs ?_
  refine vs ?_
  refine vs ?_
  iterate 2 refine vp ?_
  refine vs ?_
  refine vs ?_
  refine vs ?_
  refine vs ?_
  refine vs ?_
  refine vs ?_
  refine vp ?_
  refine vn ?_
  refine cT ?_
  refine rs0 ?_
  obtain ⟨r578, hr577, h⟩ := obind h
  refine vc (con_law16_alive hr577) ?_
  refine vp ?_
  refine vn ?_
  cases h
  exact Wp.ret en0

end Go.Proofs.Ytcpbhkplgnhmkaa
