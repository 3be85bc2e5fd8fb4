/- Contracts: models of functions are right. No law is proved here. -/
import Derived.Test.YtfghchpnolfllaaGMod
import Derived.Test.YtfghchpnolfllaaTab
import Derived.Test.YtfghchpnolfllaaGC4
import Derived.Test.YtfghchpnolfllaaGC6
import Derived.Test.YtfghchpnolfllaaGC11
namespace Go.Proofs.Ytfghchpnolfllaa
open Go.Av Go.G
attribute [-simp] Int.natCast_tdiv_eq_ediv
attribute [local simp] runf guardA opf St.ev Go.Av.look St.setd constAV constAV0 opBin opLen intBin St.need lookT TT0 tab resA resOne resAll blt_dec ble_dec beq_dec isPure
attribute [local simp] opMakeSlice opCopy opIndexAddr opLoad opStore St.mem St.rows opUn calleeA toArgs toArg toArg0 toArgs0 shift shift0 shift1 splice cellsOf isFree ofCells TS.isAgg isCell strBin opConvert
attribute [local simp] opBuildSlice fillA opAppend eqC eqA cksB ckB St.newBox runI valKind withinB readsHp refsD refs noSl opFieldAddr opBuild placeOf Op.operands Call.operands opIndex opExtract opSlice opField partA
attribute [local simp] loA hiA lenA opMakeMap opLookup opMapUpdate keyOk findA_int findA_str putA_strB putA_strI putA_intB putA_intI mAV_length mAV_nil cA1 cA2 cA3 cA4 opNilCheck opMakeFunc opRange
attribute [local simp] aL cI cB cS cL rw_map fz_rw fz_const dropRow_rw fz_append fz_set fz_copy fz_rows rowLen_rw rowsLen_nil rowsLen_cons rowsLen_append rowsLen_map rowsLen_take rowsLen_drop rowsLen_replicate take_map_len take_map_le drop_map_len take_drop_len chunks isScalar isScalar0
attribute [local simp] putBack putAt objMap mapC mapA mapT map0 bid rid memB passed closedB argsH argH argH0 argsH0 objIds ids0 idsC isLocT isLocA isLocC isLoc0 LocObj
attribute [local congr] bind_congr1 map_congr1 cond_congr1
attribute [local simp] cApiAddr cApiContact cApiCoil cApiRung cApiLadder cApiState cApiSize
set_option maxHeartbeats 4000000
set_option maxRecDepth 20000
set_option linter.unusedSimpArgs false
set_option linter.unusedVariables false

theorem con_law20_PathmodelComposition {n : Nat} {_append0 : ApiLadder} {a1 : ApiState} {a2 : List (List Bool)} {r : Bool} (h : law20_PathmodelComposition n _append0 a1 a2 = some r) : Con Try.prog 7 [.agg (cApiLadder _append0), .agg (cApiState a1), aL (cL cB) a2] (.bool r) [] := by
  refine con_of (T := TT0) tt_ok Try.func7 (c := _) (by unfold Try.f7; rfl) Try.ntmps7 (rs := [.tmp 6]) (by rw [Try.results7]) (by unfold Try.f7; rfl) (by simp) ?_
  simp only [argsCh]
  have F := True.intro
  dsimp only [law20_PathmodelComposition] at h
  refine rs0 ?_
  iterate 3 refine vp ?_
  refine vn ?_
  refine Wp.seq ?_
  refine rs0 ?_
  iterate 3 refine vp ?_
  obtain ⟨r3072, hr3071, h⟩ := obind h
  refine vc (con_law20_TooLarge hr3071) ?_
  iterate 2 refine vp ?_
  refine sD h F (fun F h => ?_) fun F h => ?_
  refine vg ?_
  refine vg ?_
  refine vg ?_
  refine vp ?_
  refine vn ?_
  refine sD h F (fun F h => ?_) fun F h => ?_
  refine cF ?_
  refine Wp.skip ?_
  refine sh ?_
  refine rs0 ?_
  iterate 3 refine vp ?_
  obtain ⟨⟨r3078, r3079, r3080⟩, hr3077, h⟩ := obind h
  dsimp only at h
  refine vc (con_pathmodel_Run hr3077) ?_
  iterate 7 refine vp ?_
  refine vn ?_
  refine rs0 ?_
  iterate 4 refine vp ?_
  refine vn ?_
  refine dw (fun _ => false) [0, 1] ?_
  refine du 4 ?_
  refine gd h F fun F h => ?_
  refine du 1 ?_
  refine nm (cL cB) h F fun l3081 F h => ?_
  obtain ⟨⟨r3083, r3084, r3085⟩, hr3082, h⟩ := obind h
  dsimp only at h
  refine dc (con_pathmodel_Run hr3082) ?_
  refine du 7 ?_
  refine dn ?_
  refine Wp.seq ?_
  refine rs0 ?_
  iterate 2 refine vp ?_
  refine vn ?_
  refine sB h F (fun F h => ?_) fun F h => ?_
  refine cF ?_
  refine Wp.skip ?_
  refine sh ?_
  refine Wp.seq ?_
  refine rs0 ?_
  iterate 3 refine vp ?_
  refine sB h F (fun F h => ?_) fun F h => ?_
  refine vg ?_
  refine vg ?_
  refine vg ?_
  refine vg ?_
  iterate 2 refine vp ?_
  refine sB h F (fun F h => ?_) fun F h => ?_
  refine vg ?_
  refine vg ?_
  refine vg ?_
  refine vg ?_
  refine vg ?_
  refine vp ?_
  refine vn ?_
  refine sB h F (fun F h => ?_) fun F h => ?_
  refine cF ?_
  refine Wp.skip ?_
  refine sh ?_
  refine dw (fun _ => false) [0] ?_
  refine du 4 ?_
  refine eI h F fun x3090 F h => ?_
  refine du 4 ?_
  refine gd h F fun F h => ?_
  refine du 1 ?_
  refine nm (cL cB) h F fun l3091 F h => ?_
  obtain ⟨⟨r3093, r3094, r3095⟩, hr3092, h⟩ := obind h
  dsimp only at h
  refine dc (con_pathmodel_Run hr3092) ?_
  refine du 7 ?_
  refine dn ?_
  refine Wp.seq ?_
  refine rs0 ?_
  iterate 3 refine vp ?_
  refine sB h F (fun F h => ?_) fun F h => ?_
  refine vg ?_
  refine vg ?_
  refine vg ?_
  refine vg ?_
  refine vg ?_
  refine vg ?_
  refine vg ?_
  refine vp ?_
  refine vn ?_
  refine sB h F (fun F h => ?_) fun F h => ?_
  refine cF ?_
  refine Wp.skip ?_
  refine sh ?_
  refine Wp.seq ?_
  refine rs0 ?_
  iterate 3 refine vp ?_
  refine vn ?_
  refine Wp.block ?_
  refine lp [] (fun p3111 : Int => { ch := [(7, aL cApiState r3078), (10, .int .i64 (IntKind.i64.wrap ((a2.length : Int).tdiv 2))), (11, aL cApiState r3083), (14, aL cApiState r3093), (99, .int .i64 (r3078.length : Int)), (100, .int .i64 p3111)], hp := [], base := 0, n := 139, cond := True }) (fun m x => law20_PathmodelComposition_L1 n a2 r3078 r3083 r3093 m x = some r) n 0 h ?_
  rintro rec_n1 p3111 h
  dsimp only [law20_PathmodelComposition_L1] at h
  try dsimp only
  refine rs0 ?_
  refine vp ?_
  refine vn ?_
  refine Wp.seq ?_
  refine sD h F (fun F h => ?_) fun F h => ?_
  refine cF ?_
  refine Wp.exit ?_
  refine sh ?_
  refine rs0 ?_
  obtain ⟨r3141, hr3140, h⟩ := obind h
  refine vc (con_law20_alive hr3140) ?_
  refine vp ?_
  refine vn ?_
  cases h
  exact Wp.ret en0
  refine cT ?_
  refine Wp.skip ?_
  refine sh ?_
  refine Wp.seq ?_
  refine Wp.block ?_
  refine rs0 ?_
  iterate 2 refine vp ?_
  refine vn ?_
  refine dw (fun _ => false) [] ?_
  refine du 4 ?_
  refine sD h F (fun F h => ?_) fun F h => ?_
  refine ds ?_
  refine ds ?_
  refine ds ?_
  refine ds ?_
  refine ds ?_
  refine ds ?_
  refine ds ?_
  refine ds ?_
  refine ds ?_
  refine ds ?_
  refine du 2 ?_
  refine du 1 ?_
  refine du 1 ?_
  refine du 1 ?_
  refine du 1 ?_
  refine sD h F (fun F h => ?_) fun F h => ?_
  refine ds ?_
  refine ds ?_
  refine ds ?_
  refine ds ?_
  refine ds ?_
  refine ds ?_
  refine ds ?_
  refine ds ?_
  refine ds ?_
  refine ds ?_
  refine ds ?_
  refine ds ?_
  refine du 1 ?_
  refine du 1 ?_
  refine dn ?_
  refine cF ?_
  refine Wp.skip ?_
  refine sh ?_
  refine rg0 ?_
  iterate 2 refine vp ?_
  refine vn ?_
  exact nx [] (IntKind.i64.wrap (p3111 + 1)) h
  refine du 1 ?_
  refine du 1 ?_
  refine eI h F fun x3136 F h => ?_
  refine du 1 ?_
  refine du 1 ?_
  refine du 1 ?_
  refine du 1 ?_
  refine du 1 ?_
  refine du 1 ?_
  refine eI h F fun x3137 F h => ?_
  refine du 1 ?_
  refine du 1 ?_
  obtain ⟨r3139, hr3138, h⟩ := obind h
  refine dc (con_ref03_Equal hr3138) ?_ (hg := by (simp [F]; done))
  refine du 1 ?_
  refine du 1 ?_
  refine du 1 ?_
  refine dn ?_
  refine sB h F (fun F h => ?_) fun F h => ?_
  refine cF ?_
  refine Wp.skip ?_
  refine sh ?_
  refine rg0 ?_
  iterate 2 refine vp ?_
  refine vn ?_
  exact nx [] (IntKind.i64.wrap (p3111 + 1)) h
  refine cT ?_
  refine rs0 ?_
  refine vp ?_
  refine vn ?_
  cases h
  exact Wp.ret en0
  refine du 1 ?_
  refine du 1 ?_
  refine eI h F fun x3129 F h => ?_
  refine du 1 ?_
  refine du 1 ?_
  refine du 1 ?_
  refine du 1 ?_
  refine eI h F fun x3130 F h => ?_
  refine du 1 ?_
  refine du 1 ?_
  obtain ⟨r3132, hr3131, h⟩ := obind h
  refine dc (con_ref03_Equal hr3131) ?_ (hg := by (simp [F]; done))
  refine du 1 ?_
  refine du 2 ?_
  refine sB h F (fun F h => ?_) fun F h => ?_
  refine du 1 ?_
  refine du 1 ?_
  refine du 1 ?_
  refine du 1 ?_
  refine sD h F (fun F h => ?_) fun F h => ?_
  refine ds ?_
  refine ds ?_
  refine ds ?_
  refine ds ?_
  refine ds ?_
  refine ds ?_
  refine ds ?_
  refine ds ?_
  refine ds ?_
  refine ds ?_
  refine ds ?_
  refine ds ?_
  refine du 1 ?_
  refine du 1 ?_
  refine dn ?_
  refine cF ?_
  refine Wp.skip ?_
  refine sh ?_
  refine rg0 ?_
  iterate 2 refine vp ?_
  refine vn ?_
  exact nx [] (IntKind.i64.wrap (p3111 + 1)) h
  refine du 1 ?_
  refine du 1 ?_
  refine du 1 ?_
  refine du 1 ?_
  refine du 1 ?_
  refine du 1 ?_
  refine du 1 ?_
  refine du 1 ?_
  refine eI h F fun x3133 F h => ?_
  refine du 1 ?_
  refine du 1 ?_
  obtain ⟨r3135, hr3134, h⟩ := obind h
  refine dc (con_ref03_Equal hr3134) ?_ (hg := by (simp [F]; done))
  refine du 1 ?_
  refine du 1 ?_
  refine du 1 ?_
  refine dn ?_
  refine sB h F (fun F h => ?_) fun F h => ?_
  refine cF ?_
  refine Wp.skip ?_
  refine sh ?_
  refine rg0 ?_
  iterate 2 refine vp ?_
  refine vn ?_
  exact nx [] (IntKind.i64.wrap (p3111 + 1)) h
  refine cT ?_
  refine rs0 ?_
  refine vp ?_
  refine vn ?_
  cases h
  exact Wp.ret en0
  refine ds ?_
  refine ds ?_
  refine ds ?_
  refine ds ?_
  refine ds ?_
  refine ds ?_
  refine ds ?_
  refine ds ?_
  refine ds ?_
  refine ds ?_
  refine ds ?_
  refine ds ?_
  refine ds ?_
  refine ds ?_
  refine ds ?_
  refine ds ?_
  refine ds ?_
  refine du 1 ?_
  refine dn ?_
  refine cT ?_
  refine rs0 ?_
  refine vp ?_
  refine vn ?_
  cases h
  exact Wp.ret en0
  refine cT ?_
  refine rs0 ?_
  refine vp ?_
  refine vn ?_
  cases h
  exact Wp.ret en0
  refine vs ?_
  refine vs ?_
  refine vs ?_
  refine vs ?_
  refine vs ?_
  refine vs ?_
  refine vs ?_
  refine vp ?_
  refine vn ?_
  refine cT ?_
  refine rs0 ?_
  refine vp ?_
  refine vn ?_
  cases h
  exact Wp.ret en0
  refine cT ?_
  refine rs0 ?_
  refine vp ?_
  refine vn ?_
  cases h
  exact Wp.ret en0
  refine vs ?_
  refine vs ?_
  refine vs ?_
  refine vs ?_
  refine vs ?_
  refine vp ?_
  refine vn ?_
  refine cT ?_
  refine rs0 ?_
  refine vp ?_
  refine vn ?_
  cases h
  exact Wp.ret en0
  refine vs ?_
  refine vs ?_
  refine vs ?_
  refine vs ?_
  iterate 2 refine vp ?_
  refine vs ?_
  refine vs ?_
  refine vs ?_
  refine vs ?_
  refine vs ?_
  refine vp ?_
  refine vn ?_
  refine cT ?_
  refine rs0 ?_
  refine vp ?_
  refine vn ?_
  cases h
  exact Wp.ret en0
  refine cT ?_
  refine rs0 ?_
  obtain ⟨r3089, hr3088, h⟩ := obind h
  refine vc (con_law20_alive hr3088) ?_
  refine vp ?_
  refine sB h F (fun F h => ?_) fun F h => ?_
  refine vs ?_
  refine vs ?_
  refine vs ?_
  iterate 2 refine vp ?_
  refine vn ?_
  cases h
  exact Wp.ret en0
  refine vg ?_
  refine vg ?_
  refine vg ?_
  iterate 2 refine vp ?_
  refine vn ?_
  cases h
  exact Wp.ret en0
  refine cT ?_
  refine rs0 ?_
  obtain ⟨r3076, hr3075, h⟩ := obind h
  refine vc (con_law20_alive hr3075) ?_
  refine vp ?_
  refine vn ?_
  cases h
  exact Wp.ret en0
  refine vs ?_
  refine vs ?_
  refine vs ?_
  refine vp ?_
  refine vn ?_
  refine cT ?_
  refine rs0 ?_
  obtain ⟨r3074, hr3073, h⟩ := obind h
  refine vc (con_law20_alive hr3073) ?_
  refine vp ?_
  refine vn ?_
  cases h
  exact Wp.ret en0

end Go.Proofs.Ytfghchpnolfllaa
