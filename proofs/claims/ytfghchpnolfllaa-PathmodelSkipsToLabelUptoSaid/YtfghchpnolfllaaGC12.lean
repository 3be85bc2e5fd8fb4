/- Contracts: models of functions are right. No law is proved here. -/
import Derived.Test.YtfghchpnolfllaaGMod
import Derived.Test.YtfghchpnolfllaaTab
import Derived.Test.YtfghchpnolfllaaGC6
import Derived.Test.YtfghchpnolfllaaGC10
import Derived.Test.YtfghchpnolfllaaGC11
namespace Go.Proofs.Ytfghchpnolfllaa
open Go.Av Go.G
attribute [-simp] Int.natCast_tdiv_eq_ediv
attribute [local simp] runf guardA opf St.ev Go.Av.look St.setd constAV constAV0 opBin opLen intBin St.need lookT TT0 tab resA resOne resAll blt_dec ble_dec beq_dec isPure
attribute [local simp] opMakeSlice opCopy opIndexAddr opLoad opStore St.mem St.rows opUn calleeA toArgs toArg toArg0 toArgs0 shift shift0 shift1 splice cellsOf isFree ofCells TS.isAgg isCell strBin opConvert
attribute [local simp] opBuildSlice fillA opAppend eqC eqA cksB ckB St.newBox runI valKind withinB readsHp refsD refs noSl opFieldAddr opBuild placeOf Op.operands Call.operands opIndex opExtract opSlice opField partA
attribute [local simp] loA hiA lenA opMakeMap opLookup opMapUpdate keyOk findA_int findA_str putA_strB putA_strI putA_intB putA_intI mAV_length mAV_nil cA1 cA2 cA3 cA4 opNilCheck opMakeFunc opRange
attribute [local simp] aL cI cB cS cL rw_map fz_rw fz_const dropRow_rw fz_append fz_set fz_copy fz_rows rowLen_rw rowsLen_nil rowsLen_cons rowsLen_append rowsLen_map rowsLen_take rowsLen_drop rowsLen_replicate take_map_len take_map_le drop_map_len take_drop_len chunks isScalar isScalar0
attribute [local simp] putBack putAt objMap mapC mapA mapT map0 bid rid memB passed closedB argsH argH argH0 argsH0 objIds ids0 idsC isLocT isLocA isLocC isLoc0 LocObj
attribute [local congr] bind_congr1 map_congr1 cond_congr1
attribute [local simp] cApiAddr cApiContact cApiCoil cApiRung cApiLadder cApiState cApiSize
set_option maxHeartbeats 4000000
set_option maxRecDepth 20000
set_option linter.unusedSimpArgs false
set_option linter.unusedVariables false

theorem con_law20_PathmodelSkipsToLabel {n : Nat} {_append0 : ApiLadder} {a1 : ApiState} {a2 : List Bool} {r : Bool} (h : law20_PathmodelSkipsToLabel n _append0 a1 a2 = some r) : Con Try.prog 5 [.agg (cApiLadder _append0), .agg (cApiState a1), aL cB a2] (.bool r) [] := by
  refine con_of (T := TT0) tt_ok Try.func5 (c := _) (by unfold Try.f5; rfl) Try.ntmps5 (rs := [.tmp 6]) (by rw [Try.results5]) (by unfold Try.f5; rfl) (by simp) ?_
  simp only [argsCh]
  have F := True.intro
  dsimp only [law20_PathmodelSkipsToLabel] at h
  refine rs0 ?_
  iterate 3 refine vp ?_
  refine vn ?_
  refine Wp.seq ?_
  refine rs0 ?_
  iterate 4 refine vp ?_
  refine nl (cL cB) h F fun l2869 m F h => ?_
  try simp only [m]
  clear m
  obtain ⟨r2871, hr2870, h⟩ := obind h
  refine vc (con_law20_TooLarge hr2870) ?_
  refine vp ?_
  refine vn ?_
  refine sD h F (fun F h => ?_) fun F h => ?_
  refine cF ?_
  refine Wp.skip ?_
  refine sh ?_
  refine rs0 ?_
  iterate 3 refine vp ?_
  obtain ⟨⟨r2875, r2876, r2877⟩, hr2874, h⟩ := obind h
  dsimp only at h
  refine vc (con_pathmodel_Scan hr2874) ?_
  iterate 8 refine vp ?_
  refine vn ?_
  refine Wp.seq ?_
  refine rs0 ?_
  iterate 3 refine vp ?_
  refine sB h F (fun F h => ?_) fun F h => ?_
  refine vg ?_
  refine vg ?_
  refine vg ?_
  refine vg ?_
  refine vg ?_
  refine vg ?_
  refine vp ?_
  refine vn ?_
  refine sB h F (fun F h => ?_) fun F h => ?_
  refine cF ?_
  refine Wp.skip ?_
  refine sh ?_
  refine Wp.seq ?_
  refine rs0 ?_
  refine vp ?_
  refine vn ?_
  refine Wp.block ?_
  refine lp [some 0] (fun p2903 : Int => { ch := [(3, .hptr 0 0 0), (8, aL cB r2876), (10, .int .i64 p2903)], hp := [.var [.int .i64 _append0.I, .int .i64 _append0.Q, .int .i64 _append0.M, aL cApiRung _append0.Rungs]], base := 0, n := 111, cond := True }) (fun m x => law20_PathmodelSkipsToLabel_L1 n _append0 r2876 m x = some r) n 0 h ?_
  rintro rec_n1 p2903 h
  dsimp only [law20_PathmodelSkipsToLabel_L1] at h
  try dsimp only
  refine Wp.seq ?_
  refine rs0 ?_
  iterate 4 refine vp ?_
  refine vn ?_
  refine sD h F (fun F h => ?_) fun F h => ?_
  refine cF ?_
  refine Wp.exit ?_
  refine sh ?_
  refine rs0 ?_
  obtain ⟨r2937, hr2936, h⟩ := obind h
  refine vc (con_law20_alive hr2936) ?_
  refine vp ?_
  refine vn ?_
  cases h
  exact Wp.ret en0
  refine cT ?_
  refine Wp.skip ?_
  refine sh ?_
  refine Wp.seq ?_
  refine Wp.block ?_
  refine Wp.seq ?_
  refine rs0 ?_
  iterate 2 refine vp ?_
  refine eI h F fun x2925 F h => ?_
  iterate 4 refine vp ?_
  refine sB h F (fun F h => ?_) fun F h => ?_
  refine vg ?_
  refine vg ?_
  refine vg ?_
  refine vg ?_
  refine vg ?_
  iterate 2 refine vp ?_
  refine sD h F (fun F h => ?_) fun F h => ?_
  refine vg ?_
  refine vg ?_
  refine vg ?_
  refine eI h F fun x2926 F h => ?_
  refine vg ?_
  refine vg ?_
  refine vp ?_
  refine vn ?_
  refine sB h F (fun F h => ?_) fun F h => ?_
  refine cF ?_
  refine Wp.skip ?_
  refine sh ?_
  refine rs0 ?_
  iterate 3 refine vp ?_
  refine vn ?_
  refine jn (fun p2930 : Int => { ch := [(3, .hptr 0 0 0), (8, aL cB r2876), (10, .int .i64 p2903), (11, .int .i64 p2930), (54, .int .i64 p2903), (55, .int .i64 (IntKind.i64.wrap (p2903 + 1))), (56, aL cB r2876), (57, .int .i64 (r2876.length : Int)), (58, .bool (decide ((IntKind.i64.wrap (p2903 + 1)) ≥ (r2876.length : Int)))), (61, aL cB r2876), (62, .int .i64 p2903), (63, .int .i64 (IntKind.i64.wrap (p2903 + 1))), (64, .fptr [.bool x2926]), (65, .bool x2926)], hp := [.var [.int .i64 _append0.I, .int .i64 _append0.Q, .int .i64 _append0.M, aL cApiRung _append0.Rungs]], base := 0, n := 111, cond := True }) (fun x => law20_PathmodelSkipsToLabel_J2 _append0 r2876 p2903 (law20_PathmodelSkipsToLabel_L1 n _append0 r2876 rec_n1) x = some r) ?_ ?_
  clear h
  rintro p2930 h
  dsimp only [law20_PathmodelSkipsToLabel_J2] at h
  try dsimp only
  refine dw (fun _ => false) [0] ?_
  refine du 5 ?_
  refine sB h F (fun F h => ?_) fun F h => ?_
  refine du 1 ?_
  refine du 1 ?_
  refine du 1 ?_
  refine eI h F fun x2931 F h => ?_
  refine du 1 ?_
  refine du 1 ?_
  refine du 1 ?_
  refine du 1 ?_
  refine du 2 ?_
  refine sE h F (fun _ F h => ?_) fun _ F h => ?_
  refine du 1 ?_
  refine du 1 ?_
  refine du 1 ?_
  refine eI h F fun x2932 F h => ?_
  refine du 1 ?_
  refine du 1 ?_
  refine du 1 ?_
  refine du 1 ?_
  refine du 1 ?_
  refine du 1 ?_
  refine du 1 ?_
  refine du 1 ?_
  refine du 1 ?_
  refine du 1 ?_
  refine du 1 ?_
  refine dn ?_
  refine sEn h F (fun _ F h => ?_) fun _ F h => ?_
  refine cF ?_
  refine Wp.skip ?_
  refine sh ?_
  refine rg0 ?_
  iterate 3 refine vp ?_
  refine vn ?_
  exact nx [some 0] (IntKind.i64.wrap (p2903 + 1)) h
  refine cT ?_
  refine rs0 ?_
  refine vp ?_
  refine vn ?_
  cases h
  exact Wp.ret en0
  refine ds ?_
  refine ds ?_
  refine ds ?_
  refine ds ?_
  refine ds ?_
  refine ds ?_
  refine ds ?_
  refine ds ?_
  refine ds ?_
  refine ds ?_
  refine ds ?_
  refine ds ?_
  refine ds ?_
  refine du 1 ?_
  refine dn ?_
  refine cT ?_
  refine rs0 ?_
  refine vp ?_
  refine vn ?_
  cases h
  exact Wp.ret en0
  refine ds ?_
  refine ds ?_
  refine ds ?_
  refine ds ?_
  refine ds ?_
  refine ds ?_
  refine ds ?_
  refine du 2 ?_
  refine ds ?_
  refine ds ?_
  refine ds ?_
  refine ds ?_
  refine ds ?_
  refine ds ?_
  refine ds ?_
  refine ds ?_
  refine ds ?_
  refine ds ?_
  refine ds ?_
  refine ds ?_
  refine ds ?_
  refine du 1 ?_
  refine dn ?_
  refine cT ?_
  refine rs0 ?_
  refine vp ?_
  refine vn ?_
  cases h
  exact Wp.ret en0
  refine Wp.block ?_
  refine lp [some 0] (fun p2933 : Int => { ch := [(3, .hptr 0 0 0), (8, aL cB r2876), (10, .int .i64 p2903), (11, .int .i64 p2933), (54, .int .i64 p2903), (55, .int .i64 (IntKind.i64.wrap (p2903 + 1))), (56, aL cB r2876), (57, .int .i64 (r2876.length : Int)), (58, .bool (decide ((IntKind.i64.wrap (p2903 + 1)) ≥ (r2876.length : Int)))), (61, aL cB r2876), (62, .int .i64 p2903), (63, .int .i64 (IntKind.i64.wrap (p2903 + 1))), (64, .fptr [.bool x2926]), (65, .bool x2926)], hp := [.var [.int .i64 _append0.I, .int .i64 _append0.Q, .int .i64 _append0.M, aL cApiRung _append0.Rungs]], base := 0, n := 111, cond := True }) (fun m x => law20_PathmodelSkipsToLabel_L3 _append0 r2876 p2903 (law20_PathmodelSkipsToLabel_L1 n _append0 r2876 rec_n1) m x = some r) n (IntKind.i64.wrap (p2903 + 1)) h ?_
  rintro rec_n3 p2933 h
  dsimp only [law20_PathmodelSkipsToLabel_L3] at h
  try dsimp only
  refine Wp.seq ?_
  refine rs0 ?_
  iterate 5 refine vp ?_
  refine sD h F (fun F h => ?_) fun F h => ?_
  refine vs ?_
  refine vs ?_
  refine vs ?_
  refine vs ?_
  refine vs ?_
  refine vp ?_
  refine vn ?_
  refine cF ?_
  refine Wp.exit ?_
  exact nx [some 0] p2933 h
  refine vg ?_
  refine vg ?_
  refine eI h F fun x2935 F h => ?_
  refine vg ?_
  refine vg ?_
  refine vg ?_
  refine vp ?_
  refine vn ?_
  refine sB h F (fun F h => ?_) fun F h => ?_
  refine cF ?_
  refine Wp.exit ?_
  exact nx [some 0] p2933 h
  refine cT ?_
  refine Wp.skip ?_
  refine sh ?_
  refine Wp.block ?_
  refine rg0 ?_
  iterate 3 refine vp ?_
  refine vn ?_
  exact nx [some 0] (IntKind.i64.wrap (p2933 + 1)) h
  refine cT ?_
  refine Wp.exit ?_
  refine sh ?_
  refine rg0 ?_
  iterate 3 refine vp ?_
  refine vn ?_
  exact nx [some 0] (IntKind.i64.wrap (p2903 + 1)) h
  refine vs ?_
  refine vs ?_
  refine vs ?_
  refine vs ?_
  refine vs ?_
  refine vp ?_
  refine vn ?_
  refine cT ?_
  refine Wp.exit ?_
  refine sh ?_
  refine rg0 ?_
  iterate 3 refine vp ?_
  refine vn ?_
  exact nx [some 0] (IntKind.i64.wrap (p2903 + 1)) h
  refine vs ?_
  refine vs ?_
  refine vs ?_
  refine vs ?_
  refine vs ?_
  iterate 2 refine vp ?_
  refine vs ?_
  refine vs ?_
  refine vs ?_
  refine vs ?_
  refine vs ?_
  refine vp ?_
  refine vn ?_
  refine cT ?_
  refine Wp.exit ?_
  refine sh ?_
  refine rg0 ?_
  iterate 3 refine vp ?_
  refine vn ?_
  exact nx [some 0] (IntKind.i64.wrap (p2903 + 1)) h
  refine cT ?_
  refine rs0 ?_
  obtain ⟨r2885, hr2884, h⟩ := obind h
  refine vc (con_law20_alive hr2884) ?_
  refine vp ?_
  refine sB h F (fun F h => ?_) fun F h => ?_
  refine vs ?_
  refine vs ?_
  iterate 2 refine vp ?_
  refine vn ?_
  cases h
  exact Wp.ret en0
  refine vg ?_
  refine vg ?_
  iterate 2 refine vp ?_
  refine vn ?_
  cases h
  exact Wp.ret en0
  refine vs ?_
  refine vs ?_
  refine vs ?_
  refine vs ?_
  refine vs ?_
  refine vs ?_
  refine vp ?_
  refine vn ?_
  refine cT ?_
  refine rs0 ?_
  obtain ⟨r2883, hr2882, h⟩ := obind h
  refine vc (con_law20_alive hr2882) ?_
  refine vp ?_
  refine sB h F (fun F h => ?_) fun F h => ?_
  refine vs ?_
  refine vs ?_
  iterate 2 refine vp ?_
  refine vn ?_
  cases h
  exact Wp.ret en0
  refine vg ?_
  refine vg ?_
  iterate 2 refine vp ?_
  refine vn ?_
  cases h
  exact Wp.ret en0
  refine cT ?_
  refine rs0 ?_
  obtain ⟨r2873, hr2872, h⟩ := obind h
  refine vc (con_law20_alive hr2872) ?_
  refine vp ?_
  refine vn ?_
  cases h
  exact Wp.ret en0

end Go.Proofs.Ytfghchpnolfllaa
