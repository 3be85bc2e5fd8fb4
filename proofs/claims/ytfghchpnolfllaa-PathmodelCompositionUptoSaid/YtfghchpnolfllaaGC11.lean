/- Contracts: models of functions are right. No law is proved here. -/
import Derived.Test.YtfghchpnolfllaaGMod
import Derived.Test.YtfghchpnolfllaaTab
import Derived.Test.YtfghchpnolfllaaGC2
import Derived.Test.YtfghchpnolfllaaGC5
import Derived.Test.YtfghchpnolfllaaGC10
namespace Go.Proofs.Ytfghchpnolfllaa
open Go.Av Go.G
attribute [-simp] Int.natCast_tdiv_eq_ediv
attribute [local simp] runf guardA opf St.ev Go.Av.look St.setd constAV constAV0 opBin opLen intBin St.need lookT TT0 tab resA resOne resAll blt_dec ble_dec beq_dec isPure
attribute [local simp] opMakeSlice opCopy opIndexAddr opLoad opStore St.mem St.rows opUn calleeA toArgs toArg toArg0 toArgs0 shift shift0 shift1 splice cellsOf isFree ofCells TS.isAgg isCell strBin opConvert
attribute [local simp] opBuildSlice fillA opAppend eqC eqA cksB ckB St.newBox runI valKind withinB readsHp refsD refs noSl opFieldAddr opBuild placeOf Op.operands Call.operands opIndex opExtract opSlice opField partA
attribute [local simp] loA hiA lenA opMakeMap opLookup opMapUpdate keyOk findA_int findA_str putA_strB putA_strI putA_intB putA_intI mAV_length mAV_nil cA1 cA2 cA3 cA4 opNilCheck opMakeFunc opRange
attribute [local simp] aL cI cB cS cL rw_map fz_rw fz_const dropRow_rw fz_append fz_set fz_copy fz_rows rowLen_rw rowsLen_nil rowsLen_cons rowsLen_append rowsLen_map rowsLen_take rowsLen_drop rowsLen_replicate take_map_len take_map_le drop_map_len take_drop_len chunks isScalar isScalar0
attribute [local simp] putBack putAt objMap mapC mapA mapT map0 bid rid memB passed closedB argsH argH argH0 argsH0 objIds ids0 idsC isLocT isLocA isLocC isLoc0 LocObj
attribute [local congr] bind_congr1 map_congr1 cond_congr1
attribute [local simp] cApiAddr cApiContact cApiCoil cApiRung cApiLadder cApiState cApiSize
set_option maxHeartbeats 4000000
set_option maxRecDepth 20000
set_option linter.unusedSimpArgs false
set_option linter.unusedVariables false

theorem con_pathmodel_Run {n : Nat} {l0 : ApiLadder} {st1 : ApiState} {ins2 : List (List Bool)} {r : (List ApiState) × Int × Int} (h : pathmodel_Run n l0 st1 ins2 = some r) : Con Try.prog 19 [.agg (cApiLadder l0), .agg (cApiState st1), aL (cL cB) ins2] (.tup [aL cApiState r.1, .int .i64 r.2.1, .int .i64 r.2.2]) [] := by
  refine con_of (T := TT0) tt_ok Try.func19 (c := _) (by unfold Try.f19; rfl) Try.ntmps19 (rs := [.tmp 6, .tmp 7, .tmp 8]) (by rw [Try.results19]) (by unfold Try.f19; rfl) (by simp) ?_
  simp only [argsCh]
  have F := True.intro
  dsimp only [pathmodel_Run] at h
  refine rs0 ?_
  iterate 5 refine vp ?_
  refine vn ?_
  refine rs0 ?_
  refine vp ?_
  refine vn ?_
  refine Wp.seq ?_
  refine rs0 ?_
  iterate 3 refine vp ?_
  refine vn ?_
  refine Wp.block ?_
  refine lp [some 0, some 1, none] (fun x : Int × (List Bool) × (List Bool) × (List Bool) × (List ApiState) => { ch := [(2, aL (cL cB) ins2), (3, .hptr 0 0 0), (4, .hptr 1 0 0), (9, .sl 2 0 x.2.2.2.2.length), (15, aL (cL cB) ins2), (16, .int .i64 (ins2.length : Int)), (17, .int .i64 x.1)], hp := [.var [.int .i64 l0.I, .int .i64 l0.Q, .int .i64 l0.M, aL cApiRung l0.Rungs], .var [aL cB x.2.1, aL cB x.2.2.1, aL cB x.2.2.2.1], .arr 3 x.2.2.2.2.length (rw (x.2.2.2.2.map cApiState))], base := 0, n := 44, cond := True }) (fun m x => pathmodel_Run_L1 n l0 ins2 m x.1 x.2.1 x.2.2.1 x.2.2.2.1 x.2.2.2.2 = some r) n (0, st1.Q, st1.M, st1.E, []) h ?_
  rintro rec_n1 ⟨p2973, p2974, p2975, p2976, p2977⟩ h
  dsimp only [pathmodel_Run_L1] at h
  try dsimp only
  refine rs0 ?_
  refine vp ?_
  refine vn ?_
  refine Wp.seq ?_
  refine sD h F (fun F h => ?_) fun F h => ?_
  refine cF ?_
  refine Wp.exit ?_
  refine sh ?_
  refine rs0 ?_
  iterate 6 refine vp ?_
  refine vn ?_
  cases h
  exact Wp.ret en0
  refine cT ?_
  refine Wp.skip ?_
  refine sh ?_
  refine Wp.seq ?_
  refine Wp.block ?_
  refine rs0 ?_
  refine vp ?_
  refine eI h F fun x2986 F h => ?_
  iterate 4 refine vp ?_
  refine vn ?_
  refine rs0 ?_
  iterate 3 refine vp ?_
  obtain ⟨⟨r2988, r2989, r2990⟩, hr2987, h⟩ := obind h
  dsimp only at h
  refine vc (con_pathmodel_Scan hr2987) ?_
  iterate 8 refine vp ?_
  refine vn ?_
  refine Wp.seq ?_
  refine rs0 ?_
  iterate 2 refine vp ?_
  refine vn ?_
  refine sB h F (fun F h => ?_) fun F h => ?_
  refine cF ?_
  refine Wp.skip ?_
  refine sh ?_
  refine rs0 ?_
  iterate 2 refine vp ?_
  refine vn ?_
  refine rg (fun d => Nat.beq d 39) ?_
  iterate 2 refine vp ?_
  obtain ⟨r2992, hr2991, h⟩ := obind h
  refine vc (con_state_Clone hr2991) ?_
  refine vp ?_
  refine gd h F fun F h => ?_
  refine vp ?_
  refine nm cApiState h F fun l2993 F h => ?_
  refine vp ?_
  refine vn ?_
  refine sh ?_
  refine rg0 ?_
  iterate 2 refine vp ?_
  refine vn ?_
  exact nx [some 0, some 1, some 4] ((IntKind.i64.wrap (p2973 + 1)), r2988.Q, r2988.M, r2988.E, l2993) h
  refine cT ?_
  refine rs0 ?_
  iterate 5 refine vp ?_
  refine vn ?_
  cases h
  exact Wp.ret en0

theorem con_law20_alive {n : Nat} {r : Bool} (h : law20_alive n  = some r) : Con Try.prog 10 [] (.bool r) [] := by
  refine con_of (T := TT0) tt_ok Try.func10 (c := _) (by unfold Try.f10; rfl) Try.ntmps10 (rs := [.tmp 0]) (by rw [Try.results10]) (by unfold Try.f10; rfl) (by simp) ?_
  simp only [argsCh]
  have F := True.intro
  dsimp only [law20_alive] at h
  refine rs0 ?_
  refine vp ?_
  refine vn ?_
  refine dw (fun d => Nat.beq d 2007 || Nat.beq d 3000) [] ?_
  obtain ⟨r692, hr691, h⟩ := obind h
  refine dc (con_law20_example hr691) ?_
  refine du 1 ?_
  refine nl cB h F fun l693 m F h => ?_
  try simp only [m]
  clear m
  refine gd h F fun F h => ?_
  refine du 1 ?_
  refine nl cB h F fun l694 m F h => ?_
  try simp only [m]
  clear m
  refine du 1 ?_
  obtain ⟨⟨r1293, r1294, r1295⟩, hr1292, h⟩ := obind h
  dsimp only at h
  refine dc (con_pathmodel_Scan hr1292) ?_
  refine du 4 ?_
  refine de ?_
  refine dt ?_
  refine du 2 ?_
  refine dn ?_
  refine rs0 ?_
  iterate 3 refine vp ?_
  refine sB h F (fun F h => ?_) fun F h => ?_
  refine vs ?_
  refine vs ?_
  refine vs ?_
  iterate 2 refine vp ?_
  refine vs ?_
  refine vs ?_
  refine vs ?_
  iterate 2 refine vp ?_
  refine vs ?_
  refine vs ?_
  refine vs ?_
  refine vs ?_
  iterate 2 refine vp ?_
  refine vn ?_
  cases h
  exact Wp.ret en0
  refine vg ?_
  refine vg ?_
  refine vg ?_
  iterate 2 refine vp ?_
  refine sB h F (fun F h => ?_) fun F h => ?_
  refine vs ?_
  refine vs ?_
  refine vs ?_
  iterate 2 refine vp ?_
  refine vs ?_
  refine vs ?_
  refine vs ?_
  refine vs ?_
  iterate 2 refine vp ?_
  refine vn ?_
  cases h
  exact Wp.ret en0
  refine vg ?_
  refine vg ?_
  refine nl cB h F fun l1296 m F h => ?_
  try simp only [m]
  clear m
  obtain ⟨r1305, hr1304, h⟩ := obind h
  refine vc (con_slices_Equal_bool hr1304) ?_ (hg := by (simp [F]; done))
  iterate 2 refine vp ?_
  refine sB h F (fun F h => ?_) fun F h => ?_
  refine vs ?_
  refine vs ?_
  refine vs ?_
  refine vs ?_
  iterate 2 refine vp ?_
  refine vn ?_
  cases h
  exact Wp.ret en0
  refine vg ?_
  refine vg ?_
  refine vg ?_
  refine nl cB h F fun l1306 m F h => ?_
  try simp only [m]
  clear m
  obtain ⟨r1308, hr1307, h⟩ := obind h
  refine vc (con_slices_Equal_bool hr1307) ?_ (hg := by (simp [F]; done))
  iterate 2 refine vp ?_
  refine vn ?_
  cases h
  exact Wp.ret en0

end Go.Proofs.Ytfghchpnolfllaa
