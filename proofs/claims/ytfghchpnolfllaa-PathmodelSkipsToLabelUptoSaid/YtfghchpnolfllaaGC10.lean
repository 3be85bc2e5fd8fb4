/- Contracts: models of functions are right. No law is proved here. -/
import Derived.Test.YtfghchpnolfllaaGMod
import Derived.Test.YtfghchpnolfllaaTab
import Derived.Test.YtfghchpnolfllaaGC0
import Derived.Test.YtfghchpnolfllaaGC3
import Derived.Test.YtfghchpnolfllaaGC6
import Derived.Test.YtfghchpnolfllaaGC7
import Derived.Test.YtfghchpnolfllaaGC9
namespace Go.Proofs.Ytfghchpnolfllaa
open Go.Av Go.G
attribute [-simp] Int.natCast_tdiv_eq_ediv
attribute [local simp] runf guardA opf St.ev Go.Av.look St.setd constAV constAV0 opBin opLen intBin St.need lookT TT0 tab resA resOne resAll blt_dec ble_dec beq_dec isPure
attribute [local simp] opMakeSlice opCopy opIndexAddr opLoad opStore St.mem St.rows opUn calleeA toArgs toArg toArg0 toArgs0 shift shift0 shift1 splice cellsOf isFree ofCells TS.isAgg isCell strBin opConvert
attribute [local simp] opBuildSlice fillA opAppend eqC eqA cksB ckB St.newBox runI valKind withinB readsHp refsD refs noSl opFieldAddr opBuild placeOf Op.operands Call.operands opIndex opExtract opSlice opField partA
attribute [local simp] loA hiA lenA opMakeMap opLookup opMapUpdate keyOk findA_int findA_str putA_strB putA_strI putA_intB putA_intI mAV_length mAV_nil cA1 cA2 cA3 cA4 opNilCheck opMakeFunc opRange
attribute [local simp] aL cI cB cS cL rw_map fz_rw fz_const dropRow_rw fz_append fz_set fz_copy fz_rows rowLen_rw rowsLen_nil rowsLen_cons rowsLen_append rowsLen_map rowsLen_take rowsLen_drop rowsLen_replicate take_map_len take_map_le drop_map_len take_drop_len chunks isScalar isScalar0
attribute [local simp] putBack putAt objMap mapC mapA mapT map0 bid rid memB passed closedB argsH argH argH0 argsH0 objIds ids0 idsC isLocT isLocA isLocC isLoc0 LocObj
attribute [local congr] bind_congr1 map_congr1 cond_congr1
attribute [local simp] cApiAddr cApiContact cApiCoil cApiRung cApiLadder cApiState cApiSize
set_option maxHeartbeats 4000000
set_option maxRecDepth 20000
set_option linter.unusedSimpArgs false
set_option linter.unusedVariables false

theorem con_pathmodel_Scan {n : Nat} {_append0 : ApiLadder} {a1 : List Bool} {a2 : ApiState} {r : ApiState × (List Bool) × Int} (h : pathmodel_Scan n _append0 a1 a2 = some r) : Con Try.prog 12 [.agg (cApiLadder _append0), aL cB a1, .agg (cApiState a2)] (.tup [.agg (cApiState r.1), aL cB r.2.1, .int .i64 r.2.2]) [] := by
  refine con_of (T := TT0) tt_ok Try.func12 (c := _) (by unfold Try.f12; rfl) Try.ntmps12 (rs := [.cell 6 27, .cell 7 25, .cell 8 32]) (by rw [Try.results12]) (by unfold Try.f12; rfl) (by simp) ?_
  simp only [argsCh]
  have F := True.intro
  dsimp only [pathmodel_Scan] at h
  refine rs0 ?_
  iterate 6 refine vp ?_
  refine vn ?_
  refine Wp.seq ?_
  refine rs0 ?_
  refine vp ?_
  obtain ⟨⟨r901, r902⟩, hr900, h⟩ := obind h
  dsimp only at h
  refine vc (con_printer_Check hr900) ?_
  iterate 5 refine vp ?_
  refine vn ?_
  refine rs0 ?_
  iterate 2 refine vp ?_
  refine vn ?_
  refine sB h F (fun F h => ?_) fun F h => ?_
  refine cF ?_
  refine Wp.skip ?_
  refine sh ?_
  refine rs0 ?_
  refine vp ?_
  obtain ⟨r949, hr948, h⟩ := obind h
  refine vc (con_pathmodel_SlotBases hr948) ?_
  iterate 2 refine vp ?_
  refine vn ?_
  refine Wp.seq ?_
  refine dw (fun _ => false) [0, 1, 2, 6] ?_
  refine du 6 ?_
  refine sB h F (fun F h => ?_) fun F h => ?_
  refine du 1 ?_
  refine du 1 ?_
  refine du 1 ?_
  refine du 1 ?_
  refine du 1 ?_
  refine du 1 ?_
  refine du 1 ?_
  refine du 1 ?_
  refine du 1 ?_
  refine du 1 ?_
  refine eN (m := _append0.Rungs.length) h F fun x968 F h => ?_
  refine du 1 ?_
  refine du 1 ?_
  refine du 1 ?_
  refine du 1 ?_
  obtain ⟨r970, hr969, h⟩ := obind h
  refine dc (con_state_Fits hr969) ?_ (hg := by (simp [F]; done))
  refine du 1 ?_
  refine du 1 ?_
  refine dn ?_
  refine sB h F (fun F h => ?_) fun F h => ?_
  refine cF ?_
  refine Wp.skip ?_
  refine sh ?_
  refine rs0 ?_
  refine vp ?_
  obtain ⟨r980, hr979, h⟩ := obind h
  refine vc (con_state_Clone hr979) ?_
  iterate 2 refine vp ?_
  refine vn ?_
  refine rs0 ?_
  iterate 3 refine vp ?_
  refine gd h F fun F h => ?_
  refine vp ?_
  refine nm cB h F fun l981 F h => ?_
  iterate 2 refine vp ?_
  refine vn ?_
  refine rs0 ?_
  refine vp ?_
  refine vn ?_
  refine rsR (fun _ => false) ?_
  refine vp ?_
  obtain ⟨_, hr982, h⟩ := obind h
  refine vh [10] (con_pathmodel_rungs hr982) ?_
  refine vn ?_
  refine rlR [some 6, some 7, some 9, some 8, some 10, some 1, some 3, some 11, some 12, some 4, some 5] { ch := [(4, .hptr 5 0 0), (6, .hptr 6 0 0), (7, .hptr 9 0 0), (8, .hptr 10 0 0), (11, .hptr 0 0 0), (12, .hptr 1 0 0), (13, .hptr 2 0 0), (14, .hptr 4 0 0), (62, .clos 57 [] [.hptr 7 0 0, .hptr 8 0 0])], hp := [.var [aL (cI .i64) r949], .var [aL cB r980.Q, aL cB r980.M, aL cB r980.E], .var [.sl 3 0 _append0.Rungs.length], .arr 1 l981.length (rw (l981.map cB)), .var [.bool false], .var [aL cB a1], .var [.nilsl, .nilsl, .nilsl], .var [.int .i64 _append0.I, .int .i64 _append0.Q, .int .i64 _append0.M, aL cApiRung _append0.Rungs], .var [.hptr 4 0 0], .var [.nilsl], .var [.int .i64 0]], base := 0, n := 88, cond := True } ?_
  refine rf Try.func57 (c := _) (by unfold Try.f57; rfl) Try.ntmps57 (by rw [Try.results57]) (by unfold Try.f57; rfl) ?_
  intro yl ytm yR yH
  show Wp _ _ _ _ ({ ch := [(0, .yld yl), (1, .hptr 7 0 0), (2, .hptr 8 0 0)], hp := [.var [aL (cI .i64) r949], .var [aL cB r980.Q, aL cB r980.M, aL cB r980.E], .var [.sl 3 0 _append0.Rungs.length], .arr 1 l981.length (rw (l981.map cB)), .var [.bool false], .var [aL cB a1], .var [.nilsl, .nilsl, .nilsl], .var [.int .i64 _append0.I, .int .i64 _append0.Q, .int .i64 _append0.M, aL cApiRung _append0.Rungs], .var [.hptr 4 0 0], .var [.nilsl], .var [.int .i64 0], .raw (.deferred (some [])), .raw (.loop (yR .ready none))], base := 13, n := 34, cond := True })
  refine rs0 ?_
  refine vp ?_
  refine vn ?_
  refine Wp.block ?_
  refine lp [some 0, some 1, some 2, some 3, some 4, some 5, some 6, some 7, some 8, some 9, some 10, some 11, some 12] (fun x : (List Bool) × (List Bool) × (List Bool) × (List Bool) × Bool × Int => { ch := [(0, .yld yl), (1, .hptr 7 0 0), (2, .hptr 8 0 0), (4, .int .i64 x.2.2.2.2.2)], hp := [.var [aL (cI .i64) r949], .var [aL cB x.1, aL cB x.2.1, aL cB x.2.2.1], .var [.sl 3 0 x.2.2.2.1.length], .arr 1 x.2.2.2.1.length (rw (x.2.2.2.1.map cB)), .var [.bool x.2.2.2.2.1], .var [aL cB a1], .var [.nilsl, .nilsl, .nilsl], .var [.int .i64 _append0.I, .int .i64 _append0.Q, .int .i64 _append0.M, aL cApiRung _append0.Rungs], .var [.hptr 4 0 0], .var [.nilsl], .var [.int .i64 0], .raw (.deferred (some [])), .raw (.loop (yR .ready none))], base := 13, n := 34, cond := True }) (fun m x => pathmodel_Scan_L1 n _append0 a1 r949 m x.1 x.2.1 x.2.2.1 x.2.2.2.1 x.2.2.2.2.1 x.2.2.2.2.2 = some r) n (r980.Q, r980.M, r980.E, l981, false, 0) h ?_
  rintro rec_n1 ⟨p1252, p1253, p1254, l1255, false1256, p1257⟩ h
  dsimp only [pathmodel_Scan_L1] at h
  try dsimp only
  refine Wp.seq ?_
  refine rs0 ?_
  iterate 5 refine vp ?_
  refine vn ?_
  refine sD h F (fun F h => ?_) fun F h => ?_
  refine cF ?_
  refine Wp.exit ?_
  refine itn ?_
  intro yk0
  show Wp _ _ _ _ ({ ch := [(4, .hptr 5 0 0), (6, .hptr 6 0 0), (7, .hptr 9 0 0), (8, .hptr 10 0 0), (11, .hptr 0 0 0), (12, .hptr 1 0 0), (13, .hptr 2 0 0), (14, .hptr 4 0 0), (62, .clos 57 [] [.hptr 7 0 0, .hptr 8 0 0])], hp := [.var [aL (cI .i64) r949], .var [aL cB p1252, aL cB p1253, aL cB p1254], .var [.sl 3 0 l1255.length], .arr 1 l1255.length (rw (l1255.map cB)), .var [.bool false1256], .var [aL cB a1], .var [.nilsl, .nilsl, .nilsl], .var [.int .i64 _append0.I, .int .i64 _append0.Q, .int .i64 _append0.M, aL cApiRung _append0.Rungs], .var [.hptr 4 0 0], .var [.nilsl], .var [.int .i64 0], .dead, .dead], base := 13, n := 88, cond := True })
  refine dw (fun d => Nat.beq d 3000) [1, 2, 3] ?_
  refine du 2 ?_
  refine dt ?_
  refine dt ?_
  refine dt ?_
  refine dn ?_
  cases h
  exact rtA en0
  refine cT ?_
  refine Wp.skip ?_
  refine sh ?_
  refine Wp.block ?_
  refine rs0 ?_
  iterate 3 refine vp ?_
  refine eI h F fun x1275 F h => ?_
  iterate 4 refine vp ?_
  refine vn ?_
  refine Wp.seq ?_
  refine rY (fun _ => false) 3 yH ?_
  iterate 3 refine vp ?_
  refine yk ?_
  show Wp _ _ _ _ ({ ch := [(64, .agg [.str x1275.Label, aL cApiContact x1275.Contacts, aL cApiCoil x1275.Coils, .str x1275.Jump]), (63, .int .i64 p1257), (4, .hptr 5 0 0), (6, .hptr 6 0 0), (7, .hptr 9 0 0), (8, .hptr 10 0 0), (11, .hptr 0 0 0), (12, .hptr 1 0 0), (13, .hptr 2 0 0), (14, .hptr 4 0 0), (62, .clos 57 [] [.hptr 7 0 0, .hptr 8 0 0])], hp := [.var [aL (cI .i64) r949], .var [aL cB p1252, aL cB p1253, aL cB p1254], .var [.sl 3 0 l1255.length], .arr 1 l1255.length (rw (l1255.map cB)), .var [.bool false1256], .var [aL cB a1], .var [.nilsl, .nilsl, .nilsl], .var [.int .i64 _append0.I, .int .i64 _append0.Q, .int .i64 _append0.M, aL cApiRung _append0.Rungs], .var [.hptr 4 0 0], .var [.nilsl], .var [.int .i64 0], .raw (.deferred (some [])), .raw (.loop (yR .ready none)), .var [.str x1275.Label, aL cApiContact x1275.Contacts, aL cApiCoil x1275.Coils, .str x1275.Jump]], base := 14, n := 88, cond := True })
  refine rs0 ?_
  refine vp ?_
  refine vn ?_
  refine rg0 ?_
  iterate 2 refine vp ?_
  refine vn ?_
  refine asn ?_
  refine rl [some 0, some 1, some 2, some 3, some 4, some 5, some 6, some 7, some 8, some 9, some 10, some 11, some 12, some 13, some 14] { ch := [(4, .hptr 5 0 0), (6, .hptr 6 0 0), (7, .hptr 9 0 0), (8, .hptr 10 0 0), (11, .hptr 0 0 0), (12, .hptr 1 0 0), (13, .hptr 2 0 0), (14, .hptr 4 0 0), (15, .int .i64 p1257), (16, .hptr 14 0 0), (62, .clos 57 [] [.hptr 7 0 0, .hptr 8 0 0]), (63, .int .i64 p1257), (64, .agg [.str x1275.Label, aL cApiContact x1275.Contacts, aL cApiCoil x1275.Coils, .str x1275.Jump])], hp := [.var [aL (cI .i64) r949], .var [aL cB p1252, aL cB p1253, aL cB p1254], .var [.sl 3 0 l1255.length], .arr 1 l1255.length (rw (l1255.map cB)), .var [.bool false1256], .var [aL cB a1], .var [.nilsl, .nilsl, .nilsl], .var [.int .i64 _append0.I, .int .i64 _append0.Q, .int .i64 _append0.M, aL cApiRung _append0.Rungs], .var [.hptr 4 0 0], .var [.nilsl], .var [.int .i64 0], .raw (.deferred (some [])), .raw (.loop (yR .busy none)), .var [.str x1275.Label, aL cApiContact x1275.Contacts, aL cApiCoil x1275.Coils, .str x1275.Jump], .var [.str x1275.Label, aL cApiContact x1275.Contacts, aL cApiCoil x1275.Coils, .str x1275.Jump]], base := 14, n := 88, cond := True } ?_
  refine Wp.block ?_
  refine rs0 ?_
  iterate 2 refine vp ?_
  refine eI h F fun x1283 F h => ?_
  iterate 2 refine vp ?_
  refine nm cB h F fun l1284 F h => ?_
  refine vn ?_
  refine dw (fun d => Nat.beq d 3000) [0, 1, 5, 14] ?_
  refine du 5 ?_
  refine eI h F fun x1285 F h => ?_
  refine du 2 ?_
  obtain ⟨⟨r1287, r1288, r1289⟩, hr1286, h⟩ := obind h
  dsimp only at h
  refine dc (con_rungeval_Scan hr1286) ?_
  refine du 4 ?_
  refine de ?_
  refine dt ?_
  refine du 2 ?_
  refine dn ?_
  refine Wp.seq ?_
  refine rs0 ?_
  iterate 2 refine vp ?_
  refine vn ?_
  refine sB h F (fun F h => ?_) fun F h => ?_
  refine cF ?_
  refine Wp.skip ?_
  refine sh ?_
  refine rg0 ?_
  iterate 4 refine vp ?_
  refine vn ?_
  refine rnn ?_
  refine vp ?_
  refine vn ?_
  refine cF ?_
  refine Wp.skip ?_
  refine sh ?_
  refine rs0 ?_
  iterate 4 refine vp ?_
  refine sB h F (fun F h => ?_) fun F h => ?_
  refine vs ?_
  refine vs ?_
  refine vs ?_
  refine vp ?_
  refine vn ?_
  refine cF ?_
  refine rg0 ?_
  iterate 3 refine vp ?_
  refine vn ?_
  exact nx [some 0, some 1, some 2, some 3, some 4, some 5, some 6, some 7, some 8, some 9, some 10, some 11, some 12] (r1287.Q, r1287.M, r1287.E, l1284, r1288, (IntKind.i64.wrap (p1257 + 1))) h
  refine vg ?_
  refine vg ?_
  refine vg ?_
  refine vp ?_
  refine vn ?_
  refine sEn h F (fun _ F h => ?_) fun _ F h => ?_
  refine cF ?_
  refine rg0 ?_
  iterate 3 refine vp ?_
  refine vn ?_
  exact nx [some 0, some 1, some 2, some 3, some 4, some 5, some 6, some 7, some 8, some 9, some 10, some 11, some 12] (r1287.Q, r1287.M, r1287.E, l1284, r1288, (IntKind.i64.wrap (p1257 + 1))) h
  refine cT ?_
  refine rg0 ?_
  iterate 2 refine vp ?_
  obtain ⟨r1291, hr1290, h⟩ := obind h
  refine vc (con_pathmodel_behind hr1290) ?_
  refine vp ?_
  refine vn ?_
  exact nx [some 0, some 1, some 2, some 3, some 4, some 5, some 6, some 7, some 8, some 9, some 10, some 11, some 12] (r1287.Q, r1287.M, r1287.E, l1284, r1288, r1291) h
  refine cT ?_
  refine rs0 ?_
  iterate 5 refine vp ?_
  refine vn ?_
  refine Wp.ret ?_
  refine rnr ?_
  refine vp ?_
  refine vn ?_
  refine cT ?_
  refine Wp.ret ?_
  cases h
  exact itr en0
  refine cT ?_
  refine rs0 ?_
  iterate 4 refine vp ?_
  refine vn ?_
  cases h
  exact Wp.ret en0
  refine ds ?_
  refine ds ?_
  refine ds ?_
  refine ds ?_
  refine ds ?_
  refine ds ?_
  refine ds ?_
  refine ds ?_
  refine ds ?_
  refine ds ?_
  refine ds ?_
  refine ds ?_
  refine ds ?_
  refine ds ?_
  refine ds ?_
  refine ds ?_
  refine du 1 ?_
  refine dn ?_
  refine cT ?_
  refine rs0 ?_
  iterate 4 refine vp ?_
  refine vn ?_
  cases h
  exact Wp.ret en0
  refine cT ?_
  refine rs0 ?_
  iterate 5 refine vp ?_
  refine vn ?_
  cases h
  exact Wp.ret en0

end Go.Proofs.Ytfghchpnolfllaa
