/- Contracts: models of functions are right. No law is proved here. -/
import Derived.Test.YtaebdeidbibfkaaGreatDoorUGMod
import Derived.Test.YtaebdeidbibfkaaGreatDoorUTau
import Derived.Test.YtaebdeidbibfkaaGreatDoorUSoz
import Derived.Test.YtaebdeidbibfkaaGreatDoorUShz
import Derived.Test.YtaebdeidbibfkaaGreatDoorUGC10
import Derived.Test.YtaebdeidbibfkaaGreatDoorUGC13
namespace Go.Proofs.YtaebdeidbibfkaaGreatDoor
open Go.Av Go.G
attribute [-simp] Int.natCast_tdiv_eq_ediv
attribute [local simp] runf guardA opf St.ev Go.Av.look St.setd constAV constAV0 opBin opLen intBin St.need lookT TT0 tab resA resOne resAll blt_dec ble_dec beq_dec isPure
attribute [local simp] opMakeSlice opCopy opIndexAddr opLoad opStore St.mem St.rows opUn calleeA toArgs toArg toArg0 toArgs0 shift shift0 shift1 splice cellsOf isFree ofCells TS.isAgg isCell strBin opConvert
attribute [local simp] opSlice3 opClear fz_clear opBuildSlice fillA opAppend eqC eqA cksB ckB St.newBox runI valKind withinB readsHp refsD refs noSl opFieldAddr opBuild opMax opMin placeOf Op.operands Call.operands opIndex opExtract opSlice opField partA
attribute [local simp] loA hiA lenA opMakeMap opLookup opMapUpdate keyOk findA_int findA_str findA_bool putA_strB putA_strI putA_strS putA_intB putA_intI putA_intS putA_boolI putA_boolB byteRow_rwN bytesOf_rwN opBytesStr mAV_length mAV_nil cA1 cA2 cA3 cA4 opNilCheck opMakeFunc opRange
attribute [local simp] aL cI cB cS cL rw_map fz_rw fz_const dropRow_rw fz_append fz_set fz_copy fz_rows rowLen_rw rowsLen_nil rowsLen_cons rowsLen_append rowsLen_map rowsLen_dm rowsLen_tm rowsLen_take rowsLen_drop rowsLen_replicate take_map_len take_map_le drop_map_len take_drop_len chunks isScalar isScalar0
attribute [local simp] putBack putAt objMap mapC mapA mapT map0 bid rid memB passed closedB argsH argH argH0 argsH0 objIds ids0 idsC isLocT isLocA isLocC isLoc0 LocObj
attribute [local congr] bind_congr1 map_congr1 cond_congr1
attribute [local simp] cApiAddr cApiContact cApiCoil cApiRung cReducePair cReduceEdge cRef15Edge cTreeTree_eq TreeTree_Kind_mk TreeTree_N_mk TreeTree_Kids_mk eta_TreeTree cRef14Tree_eq Ref14Tree_Kind_mk Ref14Tree_N_mk Ref14Tree_Kids_mk eta_Ref14Tree
variable [Drawn]
set_option maxHeartbeats 4000000
set_option linter.unusedSectionVars false
set_option maxRecDepth 20000
set_option linter.unusedSimpArgs false
set_option linter.unusedVariables false

theorem con_ref15_Reduce {n : Nat} {_append0 : ApiRung} {r : Ref14Tree × Int} (h : ref15_Reduce n _append0 = some r) : Con Tryz.prog G0 11 [.agg (cApiRung _append0)] (.tup [.agg [.int .i64 r.1.Kind, .int .i64 r.1.N, aL cRef14Tree r.1.Kids], .int .i64 r.2]) [] := by
  refine con_of (T := TT0) tt_ok Tryz.func11 (c := _) (by unfold Tryz.f11; rfl) Tryz.ntmps11 (rs := [.cell 2 36, .tmp 3]) (by rw [Tryz.results11]) (by unfold Tryz.f11; rfl) (by simp) ?_
  simp only [argsCh]
  have F := True.intro
  dsimp only [ref15_Reduce] at h
  refine rs0 ?_
  iterate 3 refine vp ?_
  refine vn ?_
  refine rs0 ?_
  refine vp ?_
  obtain ⟨r8488, hr8487, h⟩ := obind h
  refine vc (con_ref13_Check hr8487) ?_
  refine vp ?_
  refine vn ?_
  refine Wp.seq ?_
  refine rs0 ?_
  iterate 2 refine vp ?_
  refine vn ?_
  refine sB h F (fun F h => ?_) fun F h => ?_
  refine cF ?_
  refine Wp.skip ?_
  refine sh ?_
  refine rs0 ?_
  refine vp ?_
  refine vn ?_
  refine jn (fun p8497 : List Ref15Edge => { ch := [(2, .hptr 0 0 0), (5, .sl 1 0 p8497.length)], hp := [.var [.int .i64 0, .int .i64 0, .nilsl], .arr 5 p8497.length (rw (p8497.map cRef15Edge))], base := 0, n := 70, cond := True, gl := G0 }) (fun x => ref15_Reduce_J1 n x = some r) ?_ ?_
  clear h
  rintro p8497 h
  dsimp only [ref15_Reduce_J1] at h
  try dsimp only
  refine jn (fun p10317 : List Ref15Edge => { ch := [(2, .hptr 0 0 0), (5, aL cRef15Edge p10317)], hp := [.var [.int .i64 0, .int .i64 0, .nilsl]], base := 0, n := 70, cond := True, gl := G0 }) (fun x => ref15_Reduce_J2 x = some r) ?_ ?_
  clear h
  rintro p10317 h
  dsimp only [ref15_Reduce_J2] at h
  try dsimp only
  refine Wp.seq ?_
  refine rs0 ?_
  iterate 4 refine vp ?_
  refine sB h F (fun F h => ?_) fun F h => ?_
  refine vg ?_
  refine eN (m := 0) h F fun x10318 F h => ?_
  refine vg ?_
  refine vg ?_
  refine vg ?_
  refine vg ?_
  iterate 2 refine vp ?_
  refine sEn h F (fun _ F h => ?_) fun _ F h => ?_
  refine vg ?_
  refine vg ?_
  refine vg ?_
  refine vg ?_
  refine vg ?_
  refine vp ?_
  refine vn ?_
  refine sEn h F (fun _ F h => ?_) fun _ F h => ?_
  refine cF ?_
  refine Wp.skip ?_
  refine sh ?_
  refine rs0 ?_
  iterate 6 refine vp ?_
  refine vn ?_
  cases h
  exact Wp.ret en0
  refine cT ?_
  refine rs0 ?_
  iterate 3 refine vp ?_
  refine vn ?_
  cases h
  exact Wp.ret en0
  refine vs ?_
  refine vs ?_
  refine vs ?_
  refine vs ?_
  refine vs ?_
  refine vp ?_
  refine vn ?_
  refine cT ?_
  refine rs0 ?_
  iterate 3 refine vp ?_
  refine vn ?_
  cases h
  exact Wp.ret en0
  refine vs ?_
  refine vs ?_
  refine vs ?_
  refine vs ?_
  refine vs ?_
  iterate 2 refine vp ?_
  refine vs ?_
  refine vs ?_
  refine vs ?_
  refine vs ?_
  refine vs ?_
  refine vp ?_
  refine vn ?_
  refine cT ?_
  refine rs0 ?_
  iterate 3 refine vp ?_
  refine vn ?_
  cases h
  exact Wp.ret en0
  refine Wp.block ?_
  refine rl [some 0, none] { ch := [(2, .hptr 0 0 0), (5, aL cRef15Edge p8497)], hp := [.var [.int .i64 0, .int .i64 0, .nilsl], .dead], base := 0, n := 70, cond := True, gl := G0 } ?_
  refine lp [some 0] (fun p10325 : List Ref15Edge => { ch := [(2, .hptr 0 0 0), (5, aL cRef15Edge p10325)], hp := [.var [.int .i64 0, .int .i64 0, .nilsl]], base := 0, n := 70, cond := True, gl := G0 }) (fun m x => ref15_Reduce_L3 n m x = some r) n p8497 h ?_
  rintro rec_n3 p10325 h
  dsimp only [ref15_Reduce_L3] at h
  try dsimp only
  refine Wp.block ?_
  refine rs0 ?_
  refine vp ?_
  obtain ⟨⟨r10330, r10331⟩, hr10329, h⟩ := obind h
  dsimp only at h
  refine vc (con_ref15_step hr10329) ?_
  iterate 5 refine vp ?_
  refine vn ?_
  refine Wp.seq ?_
  refine rs0 ?_
  iterate 2 refine vp ?_
  refine vn ?_
  refine sB h F (fun F h => ?_) fun F h => ?_
  refine cF ?_
  refine Wp.skip ?_
  refine sh ?_
  refine rg0 ?_
  iterate 2 refine vp ?_
  refine vn ?_
  exact nx [some 0] r10330 h
  refine cT ?_
  refine Wp.exit ?_
  exact nx [some 0] p10325 h
  refine rs0 ?_
  refine vp ?_
  refine vn ?_
  refine Wp.block ?_
  refine lp [some 0, some 1, none] (fun x : (List Ref15Edge) × Int => { ch := [(1, .hptr 0 0 0), (2, .hptr 1 0 0), (5, .sl 2 0 x.1.length), (6, .int .i64 x.2)], hp := [.var [.str _append0.Label, aL cApiContact _append0.Contacts, aL cApiCoil _append0.Coils, .str _append0.Jump], .var [.int .i64 0, .int .i64 0, .nilsl], .arr 5 x.1.length (rw (x.1.map cRef15Edge))], base := 0, n := 70, cond := True, gl := G0 }) (fun m x => ref15_Reduce_L4 n _append0 m x.1 x.2 = some r) n ([], 0) h ?_
  rintro rec_n4 ⟨p10334, p10335⟩ h
  dsimp only [ref15_Reduce_L4] at h
  try dsimp only
  refine Wp.seq ?_
  refine rs0 ?_
  iterate 5 refine vp ?_
  refine vn ?_
  refine sD h F (fun F h => ?_) fun F h => ?_
  refine cF ?_
  refine Wp.exit ?_
  exact nx [some 1, some 2] p10334 h
  refine cT ?_
  refine Wp.skip ?_
  refine sh ?_
  refine Wp.seq ?_
  refine Wp.block ?_
  refine dw1 (fun d => Nat.beq d 39 || Nat.beq d 1039) [0, 2] ?_
  refine du 4 ?_
  refine eI h F fun x10338 F h => ?_
  refine du 10 ?_
  refine dk [.int .i64 0, .int .i64 p10335, aL cRef14Tree ([] : List Ref14Tree)] ?_
  refine du 2 ?_
  refine gd h F fun F h => ?_
  refine db ?_
  refine nm cRef15Edge h F fun l10339 F h => ?_
  refine du 1 ?_
  refine dn ?_
  refine sh ?_
  refine rg0 ?_
  iterate 3 refine vp ?_
  refine vn ?_
  exact nx [some 0, some 1, some 3] (l10339, (IntKind.i64.wrap (p10335 + 1))) h
  refine cT ?_
  refine rs0 ?_
  iterate 4 refine vp ?_
  refine vn ?_
  cases h
  exact Wp.ret en0

theorem con_graph_Reachable {n : Nat} {r_0 : ApiRung} {node1 : Str} {r : (List Str)} (h : graph_Reachable n r_0 node1 = some r) : Con Tryz.prog G0 104 [.agg (cApiRung r_0), .str node1] (aL cS r) [] := by
  refine con_of (T := TT0) tt_ok Tryz.func104 (c := _) (by unfold Tryz.f104; rfl) Tryz.ntmps104 (rs := [.tmp 4]) (by rw [Tryz.results104]) (by unfold Tryz.f104; rfl) (by simp) ?_
  simp only [argsCh]
  have F := True.intro
  dsimp only [graph_Reachable] at h
  refine rs0 ?_
  iterate 2 refine vp ?_
  refine vn ?_
  refine rs0 ?_
  iterate 3 refine vp ?_
  obtain ⟨r3636, hr3635, h⟩ := obind h
  refine vh [0] (con_graph_gather_c136 hr3635) ?_
  refine vp ?_
  refine vn ?_
  cases h
  exact Wp.ret en0

theorem con_graph_Ancestors {n : Nat} {r_0 : ApiRung} {node1 : Str} {r : (List Str)} (h : graph_Ancestors n r_0 node1 = some r) : Con Tryz.prog G0 105 [.agg (cApiRung r_0), .str node1] (aL cS r) [] := by
  refine con_of (T := TT0) tt_ok Tryz.func105 (c := _) (by unfold Tryz.f105; rfl) Tryz.ntmps105 (rs := [.tmp 4]) (by rw [Tryz.results105]) (by unfold Tryz.f105; rfl) (by simp) ?_
  simp only [argsCh]
  have F := True.intro
  dsimp only [graph_Ancestors] at h
  refine rs0 ?_
  iterate 2 refine vp ?_
  refine vn ?_
  refine rs0 ?_
  iterate 3 refine vp ?_
  obtain ⟨r3841, hr3840, h⟩ := obind h
  refine vh [0] (con_graph_gather_c138 hr3840) ?_
  refine vp ?_
  refine vn ?_
  cases h
  exact Wp.ret en0

end Go.Proofs.YtaebdeidbibfkaaGreatDoor
