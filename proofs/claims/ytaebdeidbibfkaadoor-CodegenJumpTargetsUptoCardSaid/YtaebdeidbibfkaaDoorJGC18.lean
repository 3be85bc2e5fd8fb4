/- Contracts: models of functions are right. No law is proved here. -/
import Derived.Test.YtaebdeidbibfkaaDoorJGMod
import Derived.Test.YtaebdeidbibfkaaDoorJTaj
import Derived.Test.YtaebdeidbibfkaaDoorJSo
import Derived.Test.YtaebdeidbibfkaaDoorJGC3
import Derived.Test.YtaebdeidbibfkaaDoorJGC4
import Derived.Test.YtaebdeidbibfkaaDoorJGC11
import Derived.Test.YtaebdeidbibfkaaDoorJGC17
namespace Go.Proofs.YtaebdeidbibfkaaDoor
open Go.Av Go.G
attribute [-simp] Int.natCast_tdiv_eq_ediv
attribute [local simp] runf guardA opf St.ev Go.Av.look St.setd constAV constAV0 opBin opLen intBin St.need lookT TT0 tab resA resOne resAll blt_dec ble_dec beq_dec isPure
attribute [local simp] opMakeSlice opCopy opIndexAddr opLoad opStore St.mem St.rows opUn calleeA toArgs toArg toArg0 toArgs0 shift shift0 shift1 splice cellsOf isFree ofCells TS.isAgg isCell strBin opConvert
attribute [local simp] opSlice3 opClear fz_clear opBuildSlice fillA opAppend eqC eqA cksB ckB St.newBox runI valKind withinB readsHp refsD refs noSl opFieldAddr opBuild opMax opMin placeOf Op.operands Call.operands opIndex opExtract opSlice opField partA
attribute [local simp] loA hiA lenA opMakeMap opLookup opMapUpdate keyOk findA_int findA_str findA_bool putA_strB putA_strI putA_strS putA_intB putA_intI putA_intS putA_boolI putA_boolB byteRow_rwN bytesOf_rwN opBytesStr mAV_length mAV_nil cA1 cA2 cA3 cA4 opNilCheck opMakeFunc opRange
attribute [local simp] aL cI cB cS cL rw_map fz_rw fz_const dropRow_rw fz_append fz_set fz_copy fz_rows rowLen_rw rowsLen_nil rowsLen_cons rowsLen_append rowsLen_map rowsLen_dm rowsLen_tm rowsLen_take rowsLen_drop rowsLen_replicate take_map_len take_map_le drop_map_len take_drop_len chunks isScalar isScalar0
attribute [local simp] putBack putAt objMap mapC mapA mapT map0 bid rid memB passed closedB argsH argH argH0 argsH0 objIds ids0 idsC isLocT isLocA isLocC isLoc0 LocObj
attribute [local congr] bind_congr1 map_congr1 cond_congr1
attribute [local simp] cApiAddr cApiContact cApiCoil cApiRung cApiIns cApiLadder cApiSize cApiProgram cReducePair cReduceEdge cTreeTree_eq TreeTree_Kind_mk TreeTree_N_mk TreeTree_Kids_mk eta_TreeTree
variable [Drawn]
set_option maxHeartbeats 4000000
set_option linter.unusedSectionVars false
set_option maxRecDepth 20000
set_option linter.unusedSimpArgs false
set_option linter.unusedVariables false
theorem con_codegen_whole {n : Nat} {_append0 : ApiLadder} {r : ApiProgram × (List Int) × Int × Int} (h : codegen_whole n _append0 = some r) : Con Tryd.prog G0 40 [.agg (cApiLadder _append0)] (.tup [.agg (cApiProgram r.1), aL (cI .i64) r.2.1, .int .i64 r.2.2.1, .int .i64 r.2.2.2]) [] := by
  refine con_of (T := TT0) tt_ok Tryd.func40 (c := _) (by unfold Tryd.f40; rfl) Tryd.ntmps40 (rs := [.cell 2 71, .tmp 3, .tmp 4, .tmp 5]) (by rw [Tryd.results40]) (by unfold Tryd.f40; rfl) (by simp) ?_
  simp only [argsCh]
  have F := True.intro
  dsimp only [codegen_whole] at h
  refine rs0 ?_
  iterate 5 refine vp ?_
  refine vn ?_
  refine Wp.seq ?_
  refine rs0 ?_
  refine vp ?_
  obtain ⟨⟨r10927, r10928⟩, hr10926, h⟩ := obind h
  dsimp only at h
  refine vc (con_printer_Check hr10926) ?_
  iterate 5 refine vp ?_
  refine vn ?_
  refine rs0 ?_
  iterate 2 refine vp ?_
  refine vn ?_
  refine sB h F (fun F h => ?_) fun F h => ?_
  refine cF ?_
  refine Wp.skip ?_
  refine sh ?_
  refine rs0 ?_
  iterate 10 refine vp ?_
  refine vn ?_
  refine rs0 ?_
  refine vp ?_
  refine vn ?_
  refine rs0 ?_
  iterate 2 refine vp ?_
  refine vn ?_
  refine rs0 ?_
  iterate 2 refine vp ?_
  refine vn ?_
  refine jn (fun x : (List (Str × Int)) × (List (Int × Str)) × Int × (List ApiIns) × (List Int) => { ch := [(1, .hptr 0 0 0), (2, .hptr 3 0 0), (8, .hptr 4 0 0), (9, .sl 6 0 x.2.2.2.2.length), (10, .mp 1), (11, .mp 2)], hp := [.var [.int .i64 _append0.I, .int .i64 _append0.Q, .int .i64 _append0.M, aL cApiRung _append0.Rungs], .map (mAV AV.str (cI .i64) x.1), .map (mAV (AV.int .i64) cS x.2.1), .var [.int .i64 0, .int .i64 0, .int .i64 0, .int .i64 0, .nilsl], .var [.int .i64 _append0.I, .int .i64 _append0.Q, .int .i64 _append0.M, .int .i64 x.2.2.1, .sl 5 0 x.2.2.2.1.length], .arr 4 x.2.2.2.1.length (rw (x.2.2.2.1.map cApiIns)), .arr 1 x.2.2.2.2.length (rw (x.2.2.2.2.map (cI .i64)))], base := 0, n := 145, cond := True, gl := G0 }) (fun x => codegen_whole_J1 n _append0 x.1 x.2.1 x.2.2.1 x.2.2.2.1 x.2.2.2.2 = some r) ?_ ?_
  clear h
  rintro ⟨p15987, p15988, p15989, p15990, p15991⟩ h
  dsimp only [codegen_whole_J1] at h
  try dsimp only
  refine jn (fun p16006 : List ApiIns => { ch := [(1, .hptr 0 0 0), (2, .hptr 1 0 0), (8, .hptr 2 0 0), (9, .sl 4 0 p15991.length)], hp := [.var [.int .i64 _append0.I, .int .i64 _append0.Q, .int .i64 _append0.M, aL cApiRung _append0.Rungs], .var [.int .i64 0, .int .i64 0, .int .i64 0, .int .i64 0, .nilsl], .var [.int .i64 _append0.I, .int .i64 _append0.Q, .int .i64 _append0.M, .int .i64 p15989, .sl 3 0 p16006.length], .arr 4 p16006.length (rw (p16006.map cApiIns)), .arr 1 p15991.length (rw (p15991.map (cI .i64)))], base := 0, n := 145, cond := True, gl := G0 }) (fun x => codegen_whole_J2 _append0 p15989 p15991 x = some r) ?_ ?_
  clear h
  rintro p16006 h
  dsimp only [codegen_whole_J2] at h
  try dsimp only
  refine rs0 ?_
  iterate 5 refine vp ?_
  refine gd h F fun F h => ?_
  refine vp ?_
  refine nm (cI .i64) h F fun l16007 F h => ?_
  refine vp ?_
  refine vn ?_
  refine rs0 ?_
  iterate 4 refine vp ?_
  refine gd h F fun F h => ?_
  refine vp ?_
  refine nm cApiIns h F fun l16008 F h => ?_
  iterate 2 refine vp ?_
  refine vn ?_
  refine dw (fun d => Nat.beq d 3000) [0, 2, 5, 6] ?_
  refine du 5 ?_
  refine dt ?_
  refine du 3 ?_
  refine dn ?_
  cases h
  exact Wp.ret en0
  refine rs0 ?_
  refine vp ?_
  refine vm ?_
  refine vn ?_
  refine Wp.block ?_
  refine lp [some 0, some 1, some 7, some 3, some 4, some 5, some 6] (fun x : (List (Int × Str)) × (List ApiIns) => { ch := [(1, .hptr 0 0 0), (2, .hptr 3 0 0), (8, .hptr 4 0 0), (9, .sl 6 0 p15991.length), (10, .mp 1), (114, .hptr 2 0 0)], hp := [.var [.int .i64 _append0.I, .int .i64 _append0.Q, .int .i64 _append0.M, aL cApiRung _append0.Rungs], .map (mAV AV.str (cI .i64) p15987), .miter none (mAV (AV.int .i64) cS x.1), .var [.int .i64 0, .int .i64 0, .int .i64 0, .int .i64 0, .nilsl], .var [.int .i64 _append0.I, .int .i64 _append0.Q, .int .i64 _append0.M, .int .i64 p15989, .sl 5 0 x.2.length], .arr 4 x.2.length (rw (x.2.map cApiIns)), .arr 1 p15991.length (rw (p15991.map (cI .i64)))], base := 0, n := 145, cond := True, gl := G0 }) (fun m x => codegen_whole_L3 _append0 p15987 p15989 p15991 m x.1 x.2 = some r) n (p15988, p15990) h ?_
  rintro rec_n3 ⟨p16013, p16014⟩ h
  dsimp only [codegen_whole_L3] at h
  try dsimp only
  refine rs0 ?_
  refine sB h F (fun F h => ?_) fun F h => ?_
  refine v3 h (fun e16019 m16020 h => ?_)
  refine ⟨_, by (simp [F]; rfl), ?_⟩
  refine vp ?_
  refine vn ?_
  refine Wp.seq ?_
  refine cT ?_
  refine Wp.skip ?_
  refine sh ?_
  refine Wp.block ?_
  refine rs0 ?_
  refine ve ?_
  iterate 4 refine vp ?_
  refine vn ?_
  refine rg0 ?_
  iterate 6 refine vp ?_
  refine eI h F fun x16021 F h => ?_
  iterate 3 refine vp ?_
  refine nm cApiIns h F fun l16022 F h => ?_
  refine vn ?_
  exact nx [some 0, some 1, some 2, some 3, some 4, some 5, some 6] (m16020, l16022) h
  refine v2 ?_
  refine vp ?_
  refine vn ?_
  refine Wp.seq ?_
  refine cF ?_
  refine Wp.exit ?_
  exact nx [some 0, some 3, some 4, some 5, some 6] p16014 h
  refine rs0 ?_
  iterate 4 refine vp ?_
  refine vn ?_
  refine Wp.block ?_
  refine lp [some 0, some 3, some 4, some 1, some 2, none, none] (fun x : (List (Str × Int)) × (List (Int × Str)) × Int × Int × (List ApiIns) × (List Int) => { ch := [(1, .hptr 0 0 0), (2, .hptr 3 0 0), (8, .hptr 4 0 0), (9, .sl 6 0 x.2.2.2.2.2.length), (10, .mp 1), (11, .mp 2), (40, aL cApiRung _append0.Rungs), (41, .int .i64 (_append0.Rungs.length : Int)), (42, .int .i64 x.2.2.1)], hp := [.var [.int .i64 _append0.I, .int .i64 _append0.Q, .int .i64 _append0.M, aL cApiRung _append0.Rungs], .map (mAV AV.str (cI .i64) x.1), .map (mAV (AV.int .i64) cS x.2.1), .var [.int .i64 0, .int .i64 0, .int .i64 0, .int .i64 0, .nilsl], .var [.int .i64 _append0.I, .int .i64 _append0.Q, .int .i64 _append0.M, .int .i64 x.2.2.2.1, .sl 5 0 x.2.2.2.2.1.length], .arr 4 x.2.2.2.2.1.length (rw (x.2.2.2.2.1.map cApiIns)), .arr 1 x.2.2.2.2.2.length (rw (x.2.2.2.2.2.map (cI .i64)))], base := 0, n := 145, cond := True, gl := G0 }) (fun m x => codegen_whole_L4 n _append0 m x.1 x.2.1 x.2.2.1 x.2.2.2.1 x.2.2.2.2.1 x.2.2.2.2.2 = some r) n ([], [], 0, 0, [], []) h ?_
  rintro rec_n4 ⟨p16035, p16036, p16037, p16038, p16039, p16040⟩ h
  dsimp only [codegen_whole_L4] at h
  try dsimp only
  refine rs0 ?_
  refine vp ?_
  refine vn ?_
  refine Wp.seq ?_
  refine sD h F (fun F h => ?_) fun F h => ?_
  refine cF ?_
  refine Wp.exit ?_
  exact nx [some 0, some 1, some 2, some 3, some 4, some 5, some 6] (p16035, p16036, p16038, p16039, p16040) h
  refine cT ?_
  refine Wp.skip ?_
  refine sh ?_
  refine Wp.seq ?_
  refine Wp.block ?_
  refine rs0 ?_
  refine vp ?_
  refine eI h F fun x16054 F h => ?_
  iterate 5 refine vp ?_
  refine vn ?_
  refine rs0 ?_
  iterate 4 refine vp ?_
  obtain ⟨⟨r16056, r16057⟩, hr16055, h⟩ := obind h
  dsimp only at h
  refine vc (con_codegen_contacts hr16055) ?_
  iterate 5 refine vp ?_
  refine vn ?_
  refine Wp.seq ?_
  refine rs0 ?_
  iterate 2 refine vp ?_
  refine vn ?_
  refine sB h F (fun F h => ?_) fun F h => ?_
  refine cF ?_
  refine Wp.skip ?_
  refine sh ?_
  refine rs0 ?_
  refine vp ?_
  obtain ⟨⟨r16059, r16060⟩, hr16058, h⟩ := obind h
  dsimp only at h
  refine vc (con_codegen_Coils hr16058) ?_
  iterate 5 refine vp ?_
  refine vn ?_
  refine Wp.seq ?_
  refine rs0 ?_
  iterate 2 refine vp ?_
  refine vn ?_
  refine sB h F (fun F h => ?_) fun F h => ?_
  refine cF ?_
  refine Wp.skip ?_
  refine sh ?_
  refine rs (fun d => Nat.beq d 75) ?_
  iterate 5 refine vp ?_
  refine gd h F fun F h => ?_
  refine vp ?_
  refine nm (cI .i64) h F fun l16061 F h => ?_
  refine vp ?_
  refine vn ?_
  refine rs0 ?_
  iterate 7 refine vp ?_
  refine vn ?_
  refine dw (fun _ => false) [4, 5, 7] ?_
  refine du 4 ?_
  obtain ⟨r16063, hr16062, h⟩ := obind h
  refine dc (con_rungeval_EdgeCount hr16062) ?_
  refine du 3 ?_
  refine db ?_
  refine dn ?_
  refine rs (fun d => Nat.beq d 93) ?_
  iterate 3 refine vp ?_
  refine gd h F fun F h => ?_
  refine vp ?_
  refine nm cApiIns h F fun l16064 F h => ?_
  refine vp ?_
  refine gd h F fun F h => ?_
  refine vp ?_
  refine nm cApiIns h F fun l16065 F h => ?_
  iterate 2 refine vp ?_
  refine vn ?_
  refine rs0 ?_
  iterate 3 refine vp ?_
  refine vn ?_
  refine sEn h F (fun _ F h => ?_) fun _ F h => ?_
  refine cF ?_
  refine Wp.skip ?_
  refine sh ?_
  refine rg0 ?_
  iterate 2 refine vp ?_
  refine vn ?_
  exact nx [some 0, some 1, some 2, some 3, some 4, some 10, some 8] ((mPut p16035 x16054.Label (p16039.length : Int)), p16036, (IntKind.i64.wrap (p16037 + 1)), (IntKind.i64.wrap (p16038 + r16063)), l16065, l16061) h
  refine cT ?_
  refine rs0 ?_
  iterate 7 refine vp ?_
  refine vn ?_
  refine rg0 ?_
  iterate 4 refine vp ?_
  refine gd h F fun F h => ?_
  refine vp ?_
  refine nm cApiIns h F fun l16066 F h => ?_
  iterate 2 refine vp ?_
  refine vn ?_
  refine sh ?_
  refine rg0 ?_
  iterate 2 refine vp ?_
  refine vn ?_
  exact nx [some 0, some 1, some 2, some 3, some 4, some 11, some 8] ((mPut p16035 x16054.Label (p16039.length : Int)), (mPut p16036 (l16065.length : Int) x16054.Jump), (IntKind.i64.wrap (p16037 + 1)), (IntKind.i64.wrap (p16038 + r16063)), l16066, l16061) h
  refine cT ?_
  refine rs0 ?_
  iterate 7 refine vp ?_
  refine vn ?_
  cases h
  exact Wp.ret en0
  refine cT ?_
  refine rs0 ?_
  iterate 7 refine vp ?_
  refine vn ?_
  cases h
  exact Wp.ret en0
  refine cT ?_
  refine rs0 ?_
  iterate 7 refine vp ?_
  refine vn ?_
  cases h
  exact Wp.ret en0
end Go.Proofs.YtaebdeidbibfkaaDoor
