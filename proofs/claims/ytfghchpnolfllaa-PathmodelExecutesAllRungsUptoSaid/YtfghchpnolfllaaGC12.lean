/- Contracts: models of functions are right. No law is proved here. -/
import Derived.Test.YtfghchpnolfllaaGMod
import Derived.Test.YtfghchpnolfllaaTab
import Derived.Test.YtfghchpnolfllaaGC4
import Derived.Test.YtfghchpnolfllaaGC6
import Derived.Test.YtfghchpnolfllaaGC10
import Derived.Test.YtfghchpnolfllaaGC11
namespace Go.Proofs.Ytfghchpnolfllaa
open Go.Av Go.G
attribute [-simp] Int.natCast_tdiv_eq_ediv
attribute [local simp] runf guardA opf St.ev Go.Av.look St.setd constAV constAV0 opBin opLen intBin St.need lookT TT0 tab resA resOne resAll blt_dec ble_dec beq_dec isPure
attribute [local simp] opMakeSlice opCopy opIndexAddr opLoad opStore St.mem St.rows opUn calleeA toArgs toArg toArg0 toArgs0 shift shift0 shift1 splice cellsOf isFree ofCells TS.isAgg isCell strBin opConvert
attribute [local simp] opBuildSlice fillA opAppend eqC eqA cksB ckB St.newBox runI valKind withinB readsHp refsD refs noSl opFieldAddr opBuild placeOf Op.operands Call.operands opIndex opExtract opSlice opField partA
attribute [local simp] loA hiA lenA opMakeMap opLookup opMapUpdate keyOk findA_int findA_str putA_strB putA_strI putA_intB putA_intI mAV_length mAV_nil cA1 cA2 cA3 cA4 opNilCheck opMakeFunc opRange
attribute [local simp] aL cI cB cS cL rw_map fz_rw fz_const dropRow_rw fz_append fz_set fz_copy fz_rows rowLen_rw rowsLen_nil rowsLen_cons rowsLen_append rowsLen_map rowsLen_take rowsLen_drop rowsLen_replicate take_map_len take_map_le drop_map_len take_drop_len chunks isScalar isScalar0
attribute [local simp] putBack putAt objMap mapC mapA mapT map0 bid rid memB passed closedB argsH argH argH0 argsH0 objIds ids0 idsC isLocT isLocA isLocC isLoc0 LocObj
attribute [local congr] bind_congr1 map_congr1 cond_congr1
attribute [local simp] cApiAddr cApiContact cApiCoil cApiRung cApiLadder cApiState cApiSize
set_option maxHeartbeats 4000000
set_option maxRecDepth 20000
set_option linter.unusedSimpArgs false
set_option linter.unusedVariables false

theorem con_law20_PathmodelExecutesAllRungs {n : Nat} {_append0 : ApiLadder} {a1 : ApiState} {a2 : List Bool} {r : Bool} (h : law20_PathmodelExecutesAllRungs n _append0 a1 a2 = some r) : Con Try.prog 4 [.agg (cApiLadder _append0), .agg (cApiState a1), aL cB a2] (.bool r) [] := by
  refine con_of (T := TT0) tt_ok Try.func4 (c := _) (by unfold Try.f4; rfl) Try.ntmps4 (rs := [.tmp 6]) (by rw [Try.results4]) (by unfold Try.f4; rfl) (by simp) ?_
  simp only [argsCh]
  have F := True.intro
  dsimp only [law20_PathmodelExecutesAllRungs] at h
  refine rs0 ?_
  iterate 3 refine vp ?_
  refine vn ?_
  refine Wp.seq ?_
  refine rs0 ?_
  iterate 4 refine vp ?_
  refine nl (cL cB) h F fun l2795 m F h => ?_
  try simp only [m]
  clear m
  obtain ⟨r2797, hr2796, h⟩ := obind h
  refine vc (con_law20_TooLarge hr2796) ?_
  refine vp ?_
  refine vn ?_
  refine sD h F (fun F h => ?_) fun F h => ?_
  refine cF ?_
  refine Wp.skip ?_
  refine sh ?_
  refine rs0 ?_
  iterate 3 refine vp ?_
  obtain ⟨⟨r2801, r2802, r2803⟩, hr2800, h⟩ := obind h
  dsimp only at h
  refine vc (con_pathmodel_Scan hr2800) ?_
  iterate 8 refine vp ?_
  refine vn ?_
  refine Wp.seq ?_
  refine rs0 ?_
  iterate 2 refine vp ?_
  refine vn ?_
  refine sB h F (fun F h => ?_) fun F h => ?_
  refine cF ?_
  refine Wp.skip ?_
  refine sh ?_
  refine jn (fun _ : Unit => { ch := [(2, aL cB a2), (3, .hptr 0 0 0), (4, .hptr 1 0 0), (8, aL cB r2802)], hp := [.var [.int .i64 _append0.I, .int .i64 _append0.Q, .int .i64 _append0.M, aL cApiRung _append0.Rungs], .var [aL cB a1.Q, aL cB a1.M, aL cB a1.E]], base := 0, n := 132, cond := True }) (fun x => law20_PathmodelExecutesAllRungs_J1 n _append0 a1 a2 r2802 = some r) ?_ ?_
  clear h
  rintro _ h
  dsimp only [law20_PathmodelExecutesAllRungs_J1] at h
  try dsimp only
  refine rs0 ?_
  refine vp ?_
  refine vn ?_
  refine jn (fun _ : Unit => { ch := [(2, aL cB a2), (3, .hptr 0 0 0), (4, .hptr 1 0 0)], hp := [.var [.int .i64 _append0.I, .int .i64 _append0.Q, .int .i64 _append0.M, aL cApiRung _append0.Rungs], .var [aL cB a1.Q, aL cB a1.M, aL cB a1.E]], base := 0, n := 132, cond := True }) (fun x => law20_PathmodelExecutesAllRungs_J2 n _append0 a1 a2 = some r) ?_ ?_
  clear h
  rintro _ h
  dsimp only [law20_PathmodelExecutesAllRungs_J2] at h
  try dsimp only
  refine rs0 ?_
  iterate 13 refine vp ?_
  obtain ⟨⟨r2833, r2834, r2835⟩, hr2832, h⟩ := obind h
  dsimp only at h
  refine vc (con_pathmodel_Scan hr2832) ?_
  iterate 8 refine vp ?_
  refine vn ?_
  refine rs0 ?_
  obtain ⟨r2837, hr2836, h⟩ := obind h
  refine vc (con_law20_alive hr2836) ?_
  refine vp ?_
  refine sB h F (fun F h => ?_) fun F h => ?_
  refine vs ?_
  refine vs ?_
  iterate 2 refine vp ?_
  refine vs ?_
  refine vs ?_
  refine vs ?_
  iterate 2 refine vp ?_
  refine vs ?_
  refine vs ?_
  refine vs ?_
  refine vs ?_
  refine vs ?_
  refine vs ?_
  refine vs ?_
  iterate 2 refine vp ?_
  refine vn ?_
  cases h
  exact Wp.ret en0
  refine vg ?_
  refine vg ?_
  iterate 2 refine vp ?_
  refine sB h F (fun F h => ?_) fun F h => ?_
  refine vs ?_
  refine vs ?_
  refine vs ?_
  iterate 2 refine vp ?_
  refine vs ?_
  refine vs ?_
  refine vs ?_
  refine vs ?_
  refine vs ?_
  refine vs ?_
  refine vs ?_
  iterate 2 refine vp ?_
  refine vn ?_
  cases h
  exact Wp.ret en0
  refine vg ?_
  refine vg ?_
  refine vg ?_
  iterate 2 refine vp ?_
  refine sB h F (fun F h => ?_) fun F h => ?_
  refine vs ?_
  refine vs ?_
  refine vs ?_
  refine vs ?_
  refine vs ?_
  refine vs ?_
  refine vs ?_
  iterate 2 refine vp ?_
  refine vn ?_
  cases h
  exact Wp.ret en0
  refine vg ?_
  refine vg ?_
  refine vg ?_
  refine vg ?_
  refine vg ?_
  refine vg ?_
  obtain ⟨r2839, hr2838, h⟩ := obind h
  refine vc (con_ref03_Equal hr2838) ?_ (hg := by (simp [F]; done))
  iterate 2 refine vp ?_
  refine vn ?_
  cases h
  exact Wp.ret en0
  refine rs0 ?_
  iterate 4 refine vp ?_
  refine vn ?_
  refine Wp.block ?_
  refine lp [some 0, some 1] (fun x : Bool × Int => { ch := [(2, aL cB a2), (3, .hptr 0 0 0), (4, .hptr 1 0 0), (8, aL cB r2802), (10, .bool x.1), (57, aL cApiRung _append0.Rungs), (58, .int .i64 (_append0.Rungs.length : Int)), (59, .int .i64 x.2)], hp := [.var [.int .i64 _append0.I, .int .i64 _append0.Q, .int .i64 _append0.M, aL cApiRung _append0.Rungs], .var [aL cB a1.Q, aL cB a1.M, aL cB a1.E]], base := 0, n := 132, cond := True }) (fun m x => law20_PathmodelExecutesAllRungs_L3 n _append0 a1 a2 r2802 m x.1 x.2 = some r) n (false, 0) h ?_
  rintro rec_n3 ⟨false2843, p2844⟩ h
  dsimp only [law20_PathmodelExecutesAllRungs_L3] at h
  try dsimp only
  refine rs0 ?_
  refine vp ?_
  refine vn ?_
  refine Wp.seq ?_
  refine sD h F (fun F h => ?_) fun F h => ?_
  refine cF ?_
  refine Wp.exit ?_
  exact nx [some 0, some 1] () h
  refine cT ?_
  refine Wp.skip ?_
  refine sh ?_
  refine Wp.seq ?_
  refine Wp.block ?_
  refine rs0 ?_
  refine vp ?_
  refine eI h F fun x2854 F h => ?_
  iterate 5 refine vp ?_
  refine vn ?_
  refine jn (fun _ : Unit => { ch := [(2, aL cB a2), (3, .hptr 1 0 0), (4, .hptr 2 0 0), (8, aL cB r2802), (10, .bool false2843), (11, .int .i64 p2844), (12, .hptr 0 0 0), (57, aL cApiRung _append0.Rungs), (58, .int .i64 (_append0.Rungs.length : Int)), (59, .int .i64 p2844)], hp := [.var [.str x2854.Label, aL cApiContact x2854.Contacts, aL cApiCoil x2854.Coils, .str x2854.Jump], .var [.int .i64 _append0.I, .int .i64 _append0.Q, .int .i64 _append0.M, aL cApiRung _append0.Rungs], .var [aL cB a1.Q, aL cB a1.M, aL cB a1.E]], base := 0, n := 132, cond := True }) (fun x => law20_PathmodelExecutesAllRungs_J4 r2802 false2843 p2844 (law20_PathmodelExecutesAllRungs_L3 n _append0 a1 a2 r2802 rec_n3) x2854 = some r) ?_ ?_
  clear h
  rintro _ h
  dsimp only [law20_PathmodelExecutesAllRungs_J4] at h
  try dsimp only
  refine jn (fun false2859 : Bool => { ch := [(2, aL cB a2), (3, .hptr 1 0 0), (4, .hptr 2 0 0), (8, aL cB r2802), (10, .bool false2859), (11, .int .i64 p2844), (12, .hptr 0 0 0), (57, aL cApiRung _append0.Rungs), (58, .int .i64 (_append0.Rungs.length : Int)), (59, .int .i64 p2844)], hp := [.var [.str x2854.Label, aL cApiContact x2854.Contacts, aL cApiCoil x2854.Coils, .str x2854.Jump], .var [.int .i64 _append0.I, .int .i64 _append0.Q, .int .i64 _append0.M, aL cApiRung _append0.Rungs], .var [aL cB a1.Q, aL cB a1.M, aL cB a1.E]], base := 0, n := 132, cond := True }) (fun x => law20_PathmodelExecutesAllRungs_J5 r2802 p2844 (law20_PathmodelExecutesAllRungs_L3 n _append0 a1 a2 r2802 rec_n3) x2854 x = some r) ?_ ?_
  clear h
  rintro false2859 h
  dsimp only [law20_PathmodelExecutesAllRungs_J5] at h
  try dsimp only
  refine rg0 ?_
  iterate 2 refine vp ?_
  refine sB h F (fun F h => ?_) fun F h => ?_
  refine vg ?_
  refine vg ?_
  refine vg ?_
  refine vg ?_
  refine sEn h F (fun _ F h => ?_) fun _ F h => ?_
  refine vs ?_
  refine vs ?_
  refine vs ?_
  refine vs ?_
  refine vg ?_
  iterate 2 refine vp ?_
  refine vn ?_
  refine sh ?_
  refine rg0 ?_
  iterate 2 refine vp ?_
  refine vn ?_
  exact nx [some 1, some 2] (false, (IntKind.i64.wrap (p2844 + 1))) h
  refine vg ?_
  refine vg ?_
  refine eI h F fun x2860 F h => ?_
  refine vg ?_
  refine vg ?_
  refine vg ?_
  iterate 2 refine vp ?_
  refine vn ?_
  refine sh ?_
  refine rg0 ?_
  iterate 2 refine vp ?_
  refine vn ?_
  exact nx [some 1, some 2] (x2860, (IntKind.i64.wrap (p2844 + 1))) h
  refine vs ?_
  refine vs ?_
  refine vs ?_
  refine vs ?_
  refine vs ?_
  refine vs ?_
  refine vs ?_
  refine vs ?_
  refine vs ?_
  iterate 2 refine vp ?_
  refine vn ?_
  refine sh ?_
  refine rg0 ?_
  iterate 2 refine vp ?_
  refine vn ?_
  exact nx [some 1, some 2] (true, (IntKind.i64.wrap (p2844 + 1))) h
  refine rs0 ?_
  iterate 4 refine vp ?_
  refine sEn h F (fun _ F h => ?_) fun _ F h => ?_
  refine vs ?_
  refine vs ?_
  refine vs ?_
  refine vs ?_
  refine vp ?_
  refine vn ?_
  refine cF ?_
  refine Wp.skip ?_
  exact nx [some 0, some 1, some 2] false2843 h
  refine vg ?_
  refine vg ?_
  refine eI h F fun x2861 F h => ?_
  refine vg ?_
  refine vg ?_
  refine vp ?_
  refine vn ?_
  refine sB h F (fun F h => ?_) fun F h => ?_
  refine cF ?_
  refine Wp.skip ?_
  exact nx [some 0, some 1, some 2] false2843 h
  refine cT ?_
  refine rg0 ?_
  refine vp ?_
  refine vn ?_
  exact nx [some 0, some 1, some 2] false h
  refine rs0 ?_
  iterate 2 refine vp ?_
  refine eI h F fun x2862 F h => ?_
  iterate 4 refine vp ?_
  refine sB h F (fun F h => ?_) fun F h => ?_
  refine vs ?_
  refine vs ?_
  refine vp ?_
  refine vn ?_
  refine cF ?_
  refine Wp.skip ?_
  exact nx [some 2, some 0, some 1] () h
  refine vg ?_
  refine vg ?_
  refine vp ?_
  refine vn ?_
  refine sB h F (fun F h => ?_) fun F h => ?_
  refine cF ?_
  refine Wp.skip ?_
  exact nx [some 2, some 0, some 1] () h
  refine cT ?_
  refine rs0 ?_
  refine vp ?_
  refine vn ?_
  cases h
  exact Wp.ret en0
  refine rs0 ?_
  iterate 7 refine vp ?_
  refine sB h F (fun F h => ?_) fun F h => ?_
  refine vg ?_
  refine vg ?_
  refine vg ?_
  refine vg ?_
  refine sD h F (fun F h => ?_) fun F h => ?_
  refine vs ?_
  refine vs ?_
  refine vs ?_
  refine vs ?_
  refine vg ?_
  refine vp ?_
  refine vn ?_
  refine cF ?_
  refine Wp.skip ?_
  exact nx [some 0, some 1] () h
  refine vg ?_
  refine eN (m := 0) h F fun x2863 F h => ?_
  refine vg ?_
  refine vg ?_
  refine vg ?_
  refine vg ?_
  refine vp ?_
  refine vn ?_
  refine sB h F (fun F h => ?_) fun F h => ?_
  refine cF ?_
  refine Wp.skip ?_
  exact nx [some 0, some 1] () h
  refine cT ?_
  refine rs0 ?_
  refine vp ?_
  refine vn ?_
  cases h
  exact Wp.ret en0
  refine vs ?_
  refine vs ?_
  refine vs ?_
  refine vs ?_
  refine vs ?_
  refine vs ?_
  refine vs ?_
  refine vs ?_
  refine vs ?_
  refine vp ?_
  refine vn ?_
  refine cT ?_
  refine rs0 ?_
  refine vp ?_
  refine vn ?_
  cases h
  exact Wp.ret en0
  refine cT ?_
  refine rs0 ?_
  obtain ⟨r2807, hr2806, h⟩ := obind h
  refine vc (con_law20_alive hr2806) ?_
  refine vp ?_
  refine sB h F (fun F h => ?_) fun F h => ?_
  refine vs ?_
  refine vs ?_
  refine vs ?_
  iterate 2 refine vp ?_
  refine vn ?_
  cases h
  exact Wp.ret en0
  refine vg ?_
  refine vg ?_
  refine vg ?_
  iterate 2 refine vp ?_
  refine vn ?_
  cases h
  exact Wp.ret en0
  refine cT ?_
  refine rs0 ?_
  obtain ⟨r2799, hr2798, h⟩ := obind h
  refine vc (con_law20_alive hr2798) ?_
  refine vp ?_
  refine vn ?_
  cases h
  exact Wp.ret en0

end Go.Proofs.Ytfghchpnolfllaa
