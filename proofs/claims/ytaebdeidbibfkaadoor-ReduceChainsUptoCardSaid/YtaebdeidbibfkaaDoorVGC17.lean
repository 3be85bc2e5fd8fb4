/- Contracts: models of functions are right. No law is proved here. -/
import Derived.Test.YtaebdeidbibfkaaDoorVGMod
import Derived.Test.YtaebdeidbibfkaaDoorVTav
import Derived.Test.YtaebdeidbibfkaaDoorVSo
import Derived.Test.YtaebdeidbibfkaaDoorVSh
import Derived.Test.YtaebdeidbibfkaaDoorVGC3
import Derived.Test.YtaebdeidbibfkaaDoorVGC4
import Derived.Test.YtaebdeidbibfkaaDoorVGC15
import Derived.Test.YtaebdeidbibfkaaDoorVGC16
namespace Go.Proofs.YtaebdeidbibfkaaDoor
open Go.Av Go.G
attribute [-simp] Int.natCast_tdiv_eq_ediv
attribute [local simp] runf guardA opf St.ev Go.Av.look St.setd constAV constAV0 opBin opLen intBin St.need lookT TT0 tab resA resOne resAll blt_dec ble_dec beq_dec isPure
attribute [local simp] opMakeSlice opCopy opIndexAddr opLoad opStore St.mem St.rows opUn calleeA toArgs toArg toArg0 toArgs0 shift shift0 shift1 splice cellsOf isFree ofCells TS.isAgg isCell strBin opConvert
attribute [local simp] opSlice3 opClear fz_clear opBuildSlice fillA opAppend eqC eqA cksB ckB St.newBox runI valKind withinB readsHp refsD refs noSl opFieldAddr opBuild opMax opMin placeOf Op.operands Call.operands opIndex opExtract opSlice opField partA
attribute [local simp] loA hiA lenA opMakeMap opLookup opMapUpdate keyOk findA_int findA_str findA_bool putA_strB putA_strI putA_strS putA_intB putA_intI putA_intS putA_boolI putA_boolB byteRow_rwN bytesOf_rwN opBytesStr mAV_length mAV_nil cA1 cA2 cA3 cA4 opNilCheck opMakeFunc opRange
attribute [local simp] aL cI cB cS cL rw_map fz_rw fz_const dropRow_rw fz_append fz_set fz_copy fz_rows rowLen_rw rowsLen_nil rowsLen_cons rowsLen_append rowsLen_map rowsLen_dm rowsLen_tm rowsLen_take rowsLen_drop rowsLen_replicate take_map_len take_map_le drop_map_len take_drop_len chunks isScalar isScalar0
attribute [local simp] putBack putAt objMap mapC mapA mapT map0 bid rid memB passed closedB argsH argH argH0 argsH0 objIds ids0 idsC isLocT isLocA isLocC isLoc0 LocObj
attribute [local congr] bind_congr1 map_congr1 cond_congr1
attribute [local simp] cApiAddr cApiContact cApiCoil cApiRung cReducePair cReduceEdge cTreeTree_eq TreeTree_Kind_mk TreeTree_N_mk TreeTree_Kids_mk eta_TreeTree cRef14Tree_eq Ref14Tree_Kind_mk Ref14Tree_N_mk Ref14Tree_Kids_mk eta_Ref14Tree
set_option maxHeartbeats 4000000
set_option linter.unusedSectionVars false
set_option maxRecDepth 20000
set_option linter.unusedSimpArgs false
set_option linter.unusedVariables false

theorem con_law15_ReduceChains {n : Nat} {_append0 : Int} {a1 : Int × Int} {r : Bool} (h : law15_ReduceChains n _append0 a1 = some r) : Con Tryd.prog G0 4 [.int .u8 _append0, .agg (cA2 (cI .u8) a1)] (.bool r) [] := by
  refine con_of (T := TT0) tt_ok Tryd.func4 (c := _) (by unfold Tryd.f4; rfl) Tryd.ntmps4 (rs := [.tmp 4]) (by rw [Tryd.results4]) (by unfold Tryd.f4; rfl) (by simp) ?_
  simp only [argsCh]
  have F := True.intro
  dsimp only [law15_ReduceChains] at h
  refine rs0 ?_
  iterate 2 refine vp ?_
  refine vn ?_
  refine rs0 ?_
  iterate 5 refine vp ?_
  refine vn ?_
  refine rs0 ?_
  iterate 2 refine vp ?_
  refine vn ?_
  refine jn (fun x : (List ApiContact) × (List ApiContact) => { ch := [(3, .hptr 0 0 0), (5, .int .i64 (IntKind.i64.wrap (2 + (IntKind.i64.wrap ((_append0.tmod 30)))))), (6, .hptr 1 0 0), (7, .hptr 2 0 0)], hp := [.var [.int .u8 a1.1, .int .u8 a1.2], .var [.str (⟨#[]⟩ : Str), .sl 3 0 x.1.length, .nilsl, .str (⟨#[]⟩ : Str)], .var [.str (⟨#[]⟩ : Str), .sl 4 0 x.2.length, .nilsl, .str (⟨#[]⟩ : Str)], .arr 5 x.1.length (rw (x.1.map cApiContact)), .arr 5 x.2.length (rw (x.2.map cApiContact))], base := 0, n := 169, cond := True, gl := G0 }) (fun x => law15_ReduceChains_J1 n _append0 a1 x.1 x.2 = some r) ?_ ?_
  clear h
  rintro ⟨p14518, p14519⟩ h
  dsimp only [law15_ReduceChains_J1] at h
  try dsimp only
  refine dw (fun _ => false) [0] ?_
  refine du 4 ?_
  refine gd h F fun F h => ?_
  refine du 5 ?_
  refine gd h F fun F h => ?_
  refine du 3 ?_
  refine dn ?_
  refine dwp (fun d => Nat.beq d 3000) (fun i => if i = 1 then [1] else if i = 4 then [1] else if i = 7 then [1] else if i = 9 then [3] else if i = 10 then [3] else if i = 12 then [1] else if i = 14 then [3] else if i = 15 then [3] else if i = 16 then [3] else if i = 18 then [3] else []) ?_
  refine du 9 ?_
  refine eI h F fun x14520 F h => ?_
  refine du 5 ?_
  refine eI h F fun x14521 F h => ?_
  refine du 3 ?_
  refine dt2 [3, 4, 5, 17] ?_
  refine nm cApiContact h F fun l14522 F h => ?_
  refine eI h F fun x14523 F h => ?_
  refine du 1 ?_
  refine dt2 [19] ?_
  refine nm cApiContact h F fun l14524 F h => ?_
  refine dn ?_
  refine rs0 ?_
  refine vp ?_
  refine vl [some 0, some 1, some 2, none, some 4] { ch := [(3, .hptr 0 0 0), (5, .int .i64 (IntKind.i64.wrap (2 + (IntKind.i64.wrap ((_append0.tmod 30)))))), (6, .hptr 1 0 0), (7, .hptr 2 0 0), (11, .int .i64 ((IntKind.i64.wrap (a1.1)).tmod (IntKind.i64.wrap (2 + (IntKind.i64.wrap ((_append0.tmod 30))))))), (12, .int .i64 ((IntKind.i64.wrap (a1.2)).tmod (IntKind.i64.wrap (2 + (IntKind.i64.wrap ((_append0.tmod 30))))))), (61, .hptr 0 0 0), (62, .int .u8 a1.1), (63, .int .i64 (IntKind.i64.wrap (a1.1))), (64, .int .i64 (IntKind.i64.wrap (2 + (IntKind.i64.wrap ((_append0.tmod 30)))))), (65, .int .i64 ((IntKind.i64.wrap (a1.1)).tmod (IntKind.i64.wrap (2 + (IntKind.i64.wrap ((_append0.tmod 30))))))), (66, .hptr 0 0 1), (67, .int .u8 a1.2), (68, .int .i64 (IntKind.i64.wrap (a1.2))), (69, .int .i64 (IntKind.i64.wrap (2 + (IntKind.i64.wrap ((_append0.tmod 30)))))), (70, .int .i64 ((IntKind.i64.wrap (a1.2)).tmod (IntKind.i64.wrap (2 + (IntKind.i64.wrap ((_append0.tmod 30))))))), (71, .hptr 1 0 1), (72, aL cApiContact l14524), (73, .int .i64 ((IntKind.i64.wrap (a1.1)).tmod (IntKind.i64.wrap (2 + (IntKind.i64.wrap ((_append0.tmod 30))))))), (74, .hptr 1 0 1), (75, aL cApiContact l14524), (76, .int .i64 ((IntKind.i64.wrap (a1.2)).tmod (IntKind.i64.wrap (2 + (IntKind.i64.wrap ((_append0.tmod 30))))))), (77, .hptr 1 0 1), (78, aL cApiContact l14524), (79, .int .i64 ((IntKind.i64.wrap (a1.2)).tmod (IntKind.i64.wrap (2 + (IntKind.i64.wrap ((_append0.tmod 30))))))), (81, .agg [.int .i64 x14520.Kind, .int .i64 x14520.A.Space, .int .i64 x14520.A.N, .str x14520.From, .str x14520.To]), (82, .hptr 1 0 1), (83, aL cApiContact l14524), (84, .int .i64 ((IntKind.i64.wrap (a1.1)).tmod (IntKind.i64.wrap (2 + (IntKind.i64.wrap ((_append0.tmod 30))))))), (86, .agg [.int .i64 x14521.Kind, .int .i64 x14521.A.Space, .int .i64 x14521.A.N, .str x14521.From, .str x14521.To]), (90, .agg [.str (⟨#[]⟩ : Str), aL cApiContact l14524, .nilsl, .str (⟨#[]⟩ : Str)])], hp := [.var [.int .u8 a1.1, .int .u8 a1.2], .var [.str (⟨#[]⟩ : Str), aL cApiContact l14524, .nilsl, .str (⟨#[]⟩ : Str)], .var [.str (⟨#[]⟩ : Str), .sl 4 0 p14519.length, .nilsl, .str (⟨#[]⟩ : Str)], .dead, .arr 5 p14519.length (rw (p14519.map cApiContact))], base := 0, n := 169, cond := True, gl := G0 } ?_
  obtain ⟨⟨r14526, r14527⟩, hr14525, h⟩ := obind h
  dsimp only at h
  refine vc (con_reduce_Reduce hr14525) ?_
  iterate 6 refine vp ?_
  refine vn ?_
  refine rs0 ?_
  refine vp ?_
  refine vl [some 0, some 1, some 2, some 3, none, some 5] { ch := [(3, .hptr 0 0 0), (5, .int .i64 (IntKind.i64.wrap (2 + (IntKind.i64.wrap ((_append0.tmod 30)))))), (6, .hptr 1 0 0), (7, .hptr 2 0 0), (11, .int .i64 ((IntKind.i64.wrap (a1.1)).tmod (IntKind.i64.wrap (2 + (IntKind.i64.wrap ((_append0.tmod 30))))))), (12, .int .i64 ((IntKind.i64.wrap (a1.2)).tmod (IntKind.i64.wrap (2 + (IntKind.i64.wrap ((_append0.tmod 30))))))), (13, .hptr 5 0 0), (14, .int .i64 r14527), (61, .hptr 0 0 0), (62, .int .u8 a1.1), (63, .int .i64 (IntKind.i64.wrap (a1.1))), (64, .int .i64 (IntKind.i64.wrap (2 + (IntKind.i64.wrap ((_append0.tmod 30)))))), (65, .int .i64 ((IntKind.i64.wrap (a1.1)).tmod (IntKind.i64.wrap (2 + (IntKind.i64.wrap ((_append0.tmod 30))))))), (66, .hptr 0 0 1), (67, .int .u8 a1.2), (68, .int .i64 (IntKind.i64.wrap (a1.2))), (69, .int .i64 (IntKind.i64.wrap (2 + (IntKind.i64.wrap ((_append0.tmod 30)))))), (70, .int .i64 ((IntKind.i64.wrap (a1.2)).tmod (IntKind.i64.wrap (2 + (IntKind.i64.wrap ((_append0.tmod 30))))))), (71, .hptr 1 0 1), (72, aL cApiContact l14524), (73, .int .i64 ((IntKind.i64.wrap (a1.1)).tmod (IntKind.i64.wrap (2 + (IntKind.i64.wrap ((_append0.tmod 30))))))), (74, .hptr 1 0 1), (75, aL cApiContact l14524), (76, .int .i64 ((IntKind.i64.wrap (a1.2)).tmod (IntKind.i64.wrap (2 + (IntKind.i64.wrap ((_append0.tmod 30))))))), (77, .hptr 1 0 1), (78, aL cApiContact l14524), (79, .int .i64 ((IntKind.i64.wrap (a1.2)).tmod (IntKind.i64.wrap (2 + (IntKind.i64.wrap ((_append0.tmod 30))))))), (81, .agg [.int .i64 x14520.Kind, .int .i64 x14520.A.Space, .int .i64 x14520.A.N, .str x14520.From, .str x14520.To]), (82, .hptr 1 0 1), (83, aL cApiContact l14524), (84, .int .i64 ((IntKind.i64.wrap (a1.1)).tmod (IntKind.i64.wrap (2 + (IntKind.i64.wrap ((_append0.tmod 30))))))), (86, .agg [.int .i64 x14521.Kind, .int .i64 x14521.A.Space, .int .i64 x14521.A.N, .str x14521.From, .str x14521.To]), (89, .tup [.agg [.int .i64 r14526.Kind, .int .i64 r14526.N, aL cTreeTree r14526.Kids], .int .i64 r14527]), (90, .agg [.str (⟨#[]⟩ : Str), aL cApiContact l14524, .nilsl, .str (⟨#[]⟩ : Str)]), (91, .tup [.agg [.int .i64 r14526.Kind, .int .i64 r14526.N, aL cTreeTree r14526.Kids], .int .i64 r14527]), (92, .agg [.int .i64 r14526.Kind, .int .i64 r14526.N, aL cTreeTree r14526.Kids]), (93, .int .i64 r14527), (95, .agg [.str (⟨#[]⟩ : Str), aL cApiContact p14519, .nilsl, .str (⟨#[]⟩ : Str)])], hp := [.var [.int .u8 a1.1, .int .u8 a1.2], .var [.str (⟨#[]⟩ : Str), aL cApiContact l14524, .nilsl, .str (⟨#[]⟩ : Str)], .var [.str (⟨#[]⟩ : Str), aL cApiContact p14519, .nilsl, .str (⟨#[]⟩ : Str)], .dead, .dead, .var [.int .i64 r14526.Kind, .int .i64 r14526.N, aL cTreeTree r14526.Kids]], base := 0, n := 169, cond := True, gl := G0 } ?_
  obtain ⟨⟨r14529, r14530⟩, hr14528, h⟩ := obind h
  dsimp only at h
  refine vc (con_reduce_Reduce hr14528) ?_
  iterate 6 refine vp ?_
  refine vn ?_
  refine rs0 ?_
  refine vp ?_
  refine gd h F fun F h => ?_
  refine vp ?_
  refine nm (cI .i64) h F fun l14531 F h => ?_
  refine vp ?_
  refine vn ?_
  refine jn (fun l14540 : List Int => { ch := [(5, .int .i64 (IntKind.i64.wrap (2 + (IntKind.i64.wrap ((_append0.tmod 30)))))), (11, .int .i64 ((IntKind.i64.wrap (a1.1)).tmod (IntKind.i64.wrap (2 + (IntKind.i64.wrap ((_append0.tmod 30))))))), (12, .int .i64 ((IntKind.i64.wrap (a1.2)).tmod (IntKind.i64.wrap (2 + (IntKind.i64.wrap ((_append0.tmod 30))))))), (13, .hptr 0 0 0), (14, .int .i64 r14527), (15, .hptr 1 0 0), (16, .int .i64 r14530), (17, .sl 2 0 l14540.length)], hp := [.var [.int .i64 r14526.Kind, .int .i64 r14526.N, aL cTreeTree r14526.Kids], .var [.int .i64 r14529.Kind, .int .i64 r14529.N, aL cTreeTree r14529.Kids], .arr 1 l14540.length (rw (l14540.map (cI .i64)))], base := 0, n := 169, cond := True, gl := G0 }) (fun x => law15_ReduceChains_J2 n _append0 a1 r14526 r14527 r14529 r14530 x = some r) ?_ ?_
  clear h
  rintro l14540 h
  dsimp only [law15_ReduceChains_J2] at h
  try dsimp only
  refine Wp.seq ?_
  refine rs0 ?_
  refine vp ?_
  obtain ⟨r14553, hr14552, h⟩ := obind h
  refine vc (con_tree_Leaves _ hr14552) ?_
  refine vp ?_
  obtain ⟨r14555, hr14554, h⟩ := obind h
  refine vc (con_slices_Equal_int hr14554) ?_
  refine vp ?_
  refine vn ?_
  refine sB h F (fun F h => ?_) fun F h => ?_
  refine cF ?_
  refine Wp.skip ?_
  refine sh ?_
  refine dwp (fun d => Nat.beq d 3000) (fun i => if i = 6 then [2] else if i = 7 then [2] else if i = 10 then [2] else if i = 11 then [2] else if i = 12 then [2] else if i = 14 then [2] else []) ?_
  refine du 6 ?_
  refine eI h F fun x14556 F h => ?_
  refine du 4 ?_
  refine eI h F fun x14557 F h => ?_
  refine du 3 ?_
  refine dt2 [2, 3, 13] ?_
  refine nm (cI .i64) h F fun l14558 F h => ?_
  refine eI h F fun x14559 F h => ?_
  refine du 1 ?_
  refine dt2 [15] ?_
  refine nm (cI .i64) h F fun l14560 F h => ?_
  refine dn ?_
  refine rs0 ?_
  obtain ⟨r14562, hr14561, h⟩ := obind h
  refine vc (con_law15_alive hr14561) ?_
  refine vp ?_
  refine sB h F (fun F h => ?_) fun F h => ?_
  refine vs ?_
  refine vs ?_
  iterate 2 refine vp ?_
  refine vs ?_
  refine vs ?_
  iterate 2 refine vp ?_
  refine vs ?_
  refine vs ?_
  refine vs ?_
  iterate 2 refine vp ?_
  refine vs ?_
  refine vs ?_
  refine vs ?_
  iterate 2 refine vp ?_
  refine vs ?_
  refine vs ?_
  refine vs ?_
  refine vs ?_
  refine vs ?_
  iterate 2 refine vp ?_
  refine vs ?_
  refine vs ?_
  refine vs ?_
  refine vs ?_
  refine vs ?_
  iterate 2 refine vp ?_
  refine vs ?_
  refine vs ?_
  refine vs ?_
  refine vs ?_
  iterate 2 refine vp ?_
  refine vn ?_
  cases h
  exact Wp.ret en0
  refine vg ?_
  refine vg ?_
  iterate 2 refine vp ?_
  refine sB h F (fun F h => ?_) fun F h => ?_
  refine vs ?_
  refine vs ?_
  iterate 2 refine vp ?_
  refine vs ?_
  refine vs ?_
  refine vs ?_
  iterate 2 refine vp ?_
  refine vs ?_
  refine vs ?_
  refine vs ?_
  iterate 2 refine vp ?_
  refine vs ?_
  refine vs ?_
  refine vs ?_
  refine vs ?_
  refine vs ?_
  iterate 2 refine vp ?_
  refine vs ?_
  refine vs ?_
  refine vs ?_
  refine vs ?_
  refine vs ?_
  iterate 2 refine vp ?_
  refine vs ?_
  refine vs ?_
  refine vs ?_
  refine vs ?_
  iterate 2 refine vp ?_
  refine vn ?_
  cases h
  exact Wp.ret en0
  refine vg ?_
  refine vg ?_
  iterate 2 refine vp ?_
  refine sB h F (fun F h => ?_) fun F h => ?_
  refine vs ?_
  refine vs ?_
  refine vs ?_
  iterate 2 refine vp ?_
  refine vs ?_
  refine vs ?_
  refine vs ?_
  iterate 2 refine vp ?_
  refine vs ?_
  refine vs ?_
  refine vs ?_
  refine vs ?_
  refine vs ?_
  iterate 2 refine vp ?_
  refine vs ?_
  refine vs ?_
  refine vs ?_
  refine vs ?_
  refine vs ?_
  iterate 2 refine vp ?_
  refine vs ?_
  refine vs ?_
  refine vs ?_
  refine vs ?_
  iterate 2 refine vp ?_
  refine vn ?_
  cases h
  exact Wp.ret en0
  refine vg ?_
  refine vg ?_
  refine vg ?_
  iterate 2 refine vp ?_
  refine sB h F (fun F h => ?_) fun F h => ?_
  refine vs ?_
  refine vs ?_
  refine vs ?_
  iterate 2 refine vp ?_
  refine vs ?_
  refine vs ?_
  refine vs ?_
  refine vs ?_
  refine vs ?_
  iterate 2 refine vp ?_
  refine vs ?_
  refine vs ?_
  refine vs ?_
  refine vs ?_
  refine vs ?_
  iterate 2 refine vp ?_
  refine vs ?_
  refine vs ?_
  refine vs ?_
  refine vs ?_
  iterate 2 refine vp ?_
  refine vn ?_
  cases h
  exact Wp.ret en0
  refine vg ?_
  refine vg ?_
  refine vg ?_
  iterate 2 refine vp ?_
  refine sB h F (fun F h => ?_) fun F h => ?_
  refine vs ?_
  refine vs ?_
  refine vs ?_
  refine vs ?_
  refine vs ?_
  iterate 2 refine vp ?_
  refine vs ?_
  refine vs ?_
  refine vs ?_
  refine vs ?_
  refine vs ?_
  iterate 2 refine vp ?_
  refine vs ?_
  refine vs ?_
  refine vs ?_
  refine vs ?_
  iterate 2 refine vp ?_
  refine vn ?_
  cases h
  exact Wp.ret en0
  refine vg ?_
  refine vg ?_
  refine vg ?_
  refine vg ?_
  refine vg ?_
  iterate 2 refine vp ?_
  refine sB h F (fun F h => ?_) fun F h => ?_
  refine vs ?_
  refine vs ?_
  refine vs ?_
  refine vs ?_
  refine vs ?_
  iterate 2 refine vp ?_
  refine vs ?_
  refine vs ?_
  refine vs ?_
  refine vs ?_
  iterate 2 refine vp ?_
  refine vn ?_
  cases h
  exact Wp.ret en0
  refine vg ?_
  refine vg ?_
  refine vg ?_
  refine vg ?_
  refine vg ?_
  iterate 2 refine vp ?_
  refine sB h F (fun F h => ?_) fun F h => ?_
  refine vs ?_
  refine vs ?_
  refine vs ?_
  refine vs ?_
  iterate 2 refine vp ?_
  refine vn ?_
  cases h
  exact Wp.ret en0
  refine vg ?_
  obtain ⟨r14564, hr14563, h⟩ := obind h
  refine vc (con_tree_Leaves _ hr14563) ?_ (hg := by (simp [F]; done))
  refine vg ?_
  obtain ⟨r14566, hr14565, h⟩ := obind h
  refine vc (con_slices_Equal_int hr14565) ?_ (hg := by (simp [F]; done))
  iterate 2 refine vp ?_
  refine vn ?_
  cases h
  exact Wp.ret en0
  refine cT ?_
  refine rs0 ?_
  refine vp ?_
  refine vn ?_
  cases h
  exact Wp.ret en0
  refine rs0 ?_
  iterate 3 refine vp ?_
  refine vn ?_
  refine Wp.block ?_
  refine lp [some 5, some 6, some 7] (fun x : Int × (List Int) => { ch := [(5, .int .i64 (IntKind.i64.wrap (2 + (IntKind.i64.wrap ((_append0.tmod 30)))))), (11, .int .i64 ((IntKind.i64.wrap (a1.1)).tmod (IntKind.i64.wrap (2 + (IntKind.i64.wrap ((_append0.tmod 30))))))), (12, .int .i64 ((IntKind.i64.wrap (a1.2)).tmod (IntKind.i64.wrap (2 + (IntKind.i64.wrap ((_append0.tmod 30))))))), (13, .hptr 0 0 0), (14, .int .i64 r14527), (15, .hptr 1 0 0), (16, .int .i64 r14530), (17, .sl 2 0 x.2.length), (102, .int .i64 (((IntKind.i64.wrap (2 + (IntKind.i64.wrap ((_append0.tmod 30))))).toNat : Nat) : Int)), (103, .int .i64 x.1)], hp := [.var [.int .i64 r14526.Kind, .int .i64 r14526.N, aL cTreeTree r14526.Kids], .var [.int .i64 r14529.Kind, .int .i64 r14529.N, aL cTreeTree r14529.Kids], .arr 1 x.2.length (rw (x.2.map (cI .i64)))], base := 0, n := 169, cond := True, gl := G0 }) (fun m x => law15_ReduceChains_L3 n _append0 a1 r14526 r14527 r14529 r14530 m x.1 x.2 = some r) n (0, l14531) h ?_
  rintro rec_n3 ⟨p14569, l14570⟩ h
  dsimp only [law15_ReduceChains_L3] at h
  try dsimp only
  refine rs0 ?_
  refine vp ?_
  refine vn ?_
  refine Wp.seq ?_
  refine sD h F (fun F h => ?_) fun F h => ?_
  refine cF ?_
  refine Wp.exit ?_
  exact nx [some 0, some 1, some 2] l14570 h
  refine cT ?_
  refine Wp.skip ?_
  refine sh ?_
  refine Wp.seq ?_
  refine Wp.block ?_
  refine rs0 ?_
  iterate 2 refine vp ?_
  refine vn ?_
  refine rg0 ?_
  iterate 3 refine vp ?_
  refine eI h F fun x14573 F h => ?_
  iterate 2 refine vp ?_
  refine nm (cI .i64) h F fun l14574 F h => ?_
  refine vn ?_
  refine sh ?_
  refine rg0 ?_
  iterate 2 refine vp ?_
  refine vn ?_
  exact nx [some 0, some 1, some 2] ((IntKind.i64.wrap (p14569 + 1)), l14574) h
  refine rs0 ?_
  iterate 2 refine vp ?_
  refine vn ?_
  refine Wp.block ?_
  refine lp [some 0, some 1, some 2, none, none] (fun x : Int × (List ApiContact) × (List ApiContact) => { ch := [(3, .hptr 0 0 0), (5, .int .i64 (IntKind.i64.wrap (2 + (IntKind.i64.wrap ((_append0.tmod 30)))))), (6, .hptr 1 0 0), (7, .hptr 2 0 0), (23, .int .i64 (IntKind.i64.wrap (2 + (IntKind.i64.wrap ((_append0.tmod 30)))))), (24, .int .i64 x.1)], hp := [.var [.int .u8 a1.1, .int .u8 a1.2], .var [.str (⟨#[]⟩ : Str), .sl 3 0 x.2.1.length, .nilsl, .str (⟨#[]⟩ : Str)], .var [.str (⟨#[]⟩ : Str), .sl 4 0 x.2.2.length, .nilsl, .str (⟨#[]⟩ : Str)], .arr 5 x.2.1.length (rw (x.2.1.map cApiContact)), .arr 5 x.2.2.length (rw (x.2.2.map cApiContact))], base := 0, n := 169, cond := True, gl := G0 }) (fun m x => law15_ReduceChains_L4 n _append0 a1 m x.1 x.2.1 x.2.2 = some r) n (0, [], []) h ?_
  rintro rec_n4 ⟨p14581, p14582, p14583⟩ h
  dsimp only [law15_ReduceChains_L4] at h
  try dsimp only
  refine rs0 ?_
  refine vp ?_
  refine vn ?_
  refine Wp.seq ?_
  refine sD h F (fun F h => ?_) fun F h => ?_
  refine cF ?_
  refine Wp.exit ?_
  exact nx [some 0, some 1, some 2, some 3, some 4] (p14582, p14583) h
  refine cT ?_
  refine Wp.skip ?_
  refine sh ?_
  refine Wp.seq ?_
  refine Wp.block ?_
  refine rs0 ?_
  iterate 2 refine vp ?_
  refine vn ?_
  refine dw (fun _ => false) [] ?_
  refine du 4 ?_
  refine nl (cI .u8) h F fun l14590 m F h => ?_
  try simp only [m]
  clear m
  refine du 1 ?_
  refine gd h F fun F h => ?_
  refine du 6 ?_
  refine nl (cI .u8) h F fun l14591 m F h => ?_
  try simp only [m]
  clear m
  refine du 1 ?_
  refine gd h F fun F h => ?_
  refine du 3 ?_
  refine dn ?_
  refine jn (fun p14592 : Str => { ch := [(3, .hptr 0 0 0), (5, .int .i64 (IntKind.i64.wrap (2 + (IntKind.i64.wrap ((_append0.tmod 30)))))), (6, .hptr 1 0 0), (7, .hptr 3 0 0), (8, .int .i64 p14581), (9, .str p14592), (10, .str ((⟨#[120]⟩ : Str) ++ (bytesS l14591))), (23, .int .i64 (IntKind.i64.wrap (2 + (IntKind.i64.wrap ((_append0.tmod 30)))))), (24, .int .i64 p14581)], hp := [.var [.int .u8 a1.1, .int .u8 a1.2], .var [.str (⟨#[]⟩ : Str), .sl 2 0 p14582.length, .nilsl, .str (⟨#[]⟩ : Str)], .arr 5 p14582.length (rw (p14582.map cApiContact)), .var [.str (⟨#[]⟩ : Str), .sl 4 0 p14583.length, .nilsl, .str (⟨#[]⟩ : Str)], .arr 5 p14583.length (rw (p14583.map cApiContact))], base := 0, n := 169, cond := True, gl := G0 }) (fun x => law15_ReduceChains_J5 _append0 p14581 p14582 p14583 (law15_ReduceChains_L4 n _append0 a1 rec_n4) l14591 x = some r) ?_ ?_
  clear h
  rintro p14592 h
  dsimp only [law15_ReduceChains_J5] at h
  try dsimp only
  refine jn (fun p14593 : Str => { ch := [(3, .hptr 0 0 0), (5, .int .i64 (IntKind.i64.wrap (2 + (IntKind.i64.wrap ((_append0.tmod 30)))))), (6, .hptr 1 0 0), (7, .hptr 3 0 0), (9, .str p14592), (10, .str p14593), (23, .int .i64 (IntKind.i64.wrap (2 + (IntKind.i64.wrap ((_append0.tmod 30)))))), (24, .int .i64 p14581)], hp := [.var [.int .u8 a1.1, .int .u8 a1.2], .var [.str (⟨#[]⟩ : Str), .sl 2 0 p14582.length, .nilsl, .str (⟨#[]⟩ : Str)], .arr 5 p14582.length (rw (p14582.map cApiContact)), .var [.str (⟨#[]⟩ : Str), .sl 4 0 p14583.length, .nilsl, .str (⟨#[]⟩ : Str)], .arr 5 p14583.length (rw (p14583.map cApiContact))], base := 0, n := 169, cond := True, gl := G0 }) (fun x => law15_ReduceChains_J6 p14581 p14582 p14583 (law15_ReduceChains_L4 n _append0 a1 rec_n4) p14592 x = some r) ?_ ?_
  clear h
  rintro p14593 h
  dsimp only [law15_ReduceChains_J6] at h
  try dsimp only
  refine rs (fun d => Nat.beq d 52) ?_
  iterate 6 refine vp ?_
  refine gd h F fun F h => ?_
  refine vp ?_
  refine nm cApiContact h F fun l14594 F h => ?_
  iterate 2 refine vp ?_
  refine vn ?_
  refine rg (fun d => Nat.beq d 58) ?_
  iterate 4 refine vp ?_
  refine gd h F fun F h => ?_
  refine vp ?_
  refine nm cApiContact h F fun l14595 F h => ?_
  iterate 2 refine vp ?_
  refine vn ?_
  refine sh ?_
  refine rg0 ?_
  iterate 2 refine vp ?_
  refine vn ?_
  exact nx [some 0, some 1, some 3, some 5, some 6] ((IntKind.i64.wrap (p14581 + 1)), l14594, l14595) h
  refine rs0 ?_
  iterate 4 refine vp ?_
  refine vn ?_
  refine sB h F (fun F h => ?_) fun F h => ?_
  refine cF ?_
  refine Wp.skip ?_
  exact nx [some 0, some 1, some 2, some 3, some 4] ((⟨#[120]⟩ : Str) ++ (bytesS l14591)) h
  refine cT ?_
  refine rg0 ?_
  refine vp ?_
  refine vn ?_
  exact nx [some 0, some 1, some 2, some 3, some 4] (⟨#[82]⟩ : Str) h
  refine rs0 ?_
  iterate 2 refine vp ?_
  refine vn ?_
  refine sB h F (fun F h => ?_) fun F h => ?_
  refine cF ?_
  refine Wp.skip ?_
  exact nx [some 0, some 1, some 3, some 2, some 4] ((⟨#[120]⟩ : Str) ++ (bytesS l14590)) h
  refine cT ?_
  refine rg0 ?_
  refine vp ?_
  refine vn ?_
  exact nx [some 0, some 1, some 3, some 2, some 4] (⟨#[76]⟩ : Str) h

end Go.Proofs.YtaebdeidbibfkaaDoor
