/- Contracts: models of functions are right. No law is proved here. -/
import Derived.Test.YtaebdeidbibfkaaDoorVGMod
import Derived.Test.YtaebdeidbibfkaaDoorVTav
import Derived.Test.YtaebdeidbibfkaaDoorVSo
import Derived.Test.YtaebdeidbibfkaaDoorVSh
namespace Go.Proofs.YtaebdeidbibfkaaDoor
open Go.Av Go.G
attribute [-simp] Int.natCast_tdiv_eq_ediv
attribute [local simp] runf guardA opf St.ev Go.Av.look St.setd constAV constAV0 opBin opLen intBin St.need lookT TT0 tab resA resOne resAll blt_dec ble_dec beq_dec isPure
attribute [local simp] opMakeSlice opCopy opIndexAddr opLoad opStore St.mem St.rows opUn calleeA toArgs toArg toArg0 toArgs0 shift shift0 shift1 splice cellsOf isFree ofCells TS.isAgg isCell strBin opConvert
attribute [local simp] opSlice3 opClear fz_clear opBuildSlice fillA opAppend eqC eqA cksB ckB St.newBox runI valKind withinB readsHp refsD refs noSl opFieldAddr opBuild opMax opMin placeOf Op.operands Call.operands opIndex opExtract opSlice opField partA
attribute [local simp] loA hiA lenA opMakeMap opLookup opMapUpdate keyOk findA_int findA_str findA_bool putA_strB putA_strI putA_strS putA_intB putA_intI putA_intS putA_boolI putA_boolB byteRow_rwN bytesOf_rwN opBytesStr mAV_length mAV_nil cA1 cA2 cA3 cA4 opNilCheck opMakeFunc opRange
attribute [local simp] aL cI cB cS cL rw_map fz_rw fz_const dropRow_rw fz_append fz_set fz_copy fz_rows rowLen_rw rowsLen_nil rowsLen_cons rowsLen_append rowsLen_map rowsLen_dm rowsLen_tm rowsLen_take rowsLen_drop rowsLen_replicate take_map_len take_map_le drop_map_len take_drop_len chunks isScalar isScalar0
attribute [local simp] putBack putAt objMap mapC mapA mapT map0 bid rid memB passed closedB argsH argH argH0 argsH0 objIds ids0 idsC isLocT isLocA isLocC isLoc0 LocObj
attribute [local congr] bind_congr1 map_congr1 cond_congr1
attribute [local simp] cApiAddr cApiContact cApiCoil cApiRung cReducePair cReduceEdge cTreeTree_eq TreeTree_Kind_mk TreeTree_N_mk TreeTree_Kids_mk eta_TreeTree cRef14Tree_eq Ref14Tree_Kind_mk Ref14Tree_N_mk Ref14Tree_Kids_mk eta_Ref14Tree
variable [Drawn]
set_option maxHeartbeats 4000000
set_option linter.unusedSectionVars false
set_option maxRecDepth 20000
set_option linter.unusedSimpArgs false
set_option linter.unusedVariables false

theorem con_reduce_join {n : Nat} {kind0 : Int} {a1 : TreeTree} {b2 : TreeTree} {r : TreeTree} (h : reduce_join n kind0 a1 b2 = some r) : Con Tryd.prog G0 51 [.int .i64 kind0, .agg [.int .i64 a1.Kind, .int .i64 a1.N, aL cTreeTree a1.Kids], .agg [.int .i64 b2.Kind, .int .i64 b2.N, aL cTreeTree b2.Kids]] (.agg [.int .i64 r.Kind, .int .i64 r.N, aL cTreeTree r.Kids]) [] := by
  refine con_of (T := TT0) tt_ok Tryd.func51 (c := _) (by unfold Tryd.f51; rfl) Tryd.ntmps51 (rs := [.cell 6 31]) (by rw [Tryd.results51]) (by unfold Tryd.f51; rfl) (by simp) ?_
  simp only [argsCh]
  have F := True.intro
  dsimp only [reduce_join] at h
  refine rs0 ?_
  iterate 3 refine vp ?_
  refine vn ?_
  refine rs0 ?_
  iterate 4 refine vp ?_
  refine vn ?_
  refine Wp.seq ?_
  refine rs0 ?_
  iterate 3 refine vp ?_
  refine nl cTreeTree h F fun l13374 m F h => ?_
  try simp only [m]
  clear m
  iterate 2 refine vp ?_
  refine vn ?_
  refine Wp.block ?_
  refine lp [some 2, some 3, none] (fun x : Int × (List TreeTree) => { ch := [(0, .int .i64 kind0), (6, .hptr 0 0 0), (7, .hptr 1 0 0), (14, aL cTreeTree l13374), (15, .int .i64 (l13374.length : Int)), (16, .int .i64 x.1)], hp := [.var [.int .i64 0, .int .i64 0, .nilsl], .var [.int .i64 kind0, .int .i64 0, .sl 2 0 x.2.length], .arr 3 x.2.length (rw (x.2.map cTreeTree))], base := 0, n := 38, cond := True, gl := G0 }) (fun m x => reduce_join_L1 kind0 l13374 m x.1 x.2 = some r) n (0, []) h ?_
  rintro rec_n1 ⟨p13377, p13378⟩ h
  dsimp only [reduce_join_L1] at h
  try dsimp only
  refine rs0 ?_
  refine vp ?_
  refine vn ?_
  refine Wp.seq ?_
  refine sD h F (fun F h => ?_) fun F h => ?_
  refine cF ?_
  refine Wp.exit ?_
  refine sh ?_
  refine rs0 ?_
  iterate 2 refine vp ?_
  refine vn ?_
  cases h
  exact Wp.ret en0
  refine cT ?_
  refine Wp.skip ?_
  refine sh ?_
  refine Wp.seq ?_
  refine Wp.block ?_
  refine rs0 ?_
  refine eI h F fun x13382 F h => ?_
  iterate 4 refine vp ?_
  refine vn ?_
  refine rs0 ?_
  iterate 4 refine vp ?_
  refine vn ?_
  refine sB h F (fun F h => ?_) fun F h => ?_
  refine cF ?_
  refine rg (fun d => Nat.beq d 34) ?_
  iterate 4 refine vp ?_
  refine gd h F fun F h => ?_
  refine vp ?_
  refine nm cTreeTree h F fun l13384 F h => ?_
  iterate 2 refine vp ?_
  refine vn ?_
  refine sh ?_
  refine rg0 ?_
  iterate 2 refine vp ?_
  refine vn ?_
  exact nx [some 0, some 1, some 4] ((IntKind.i64.wrap (p13377 + 1)), l13384) h
  refine cT ?_
  refine rg (fun d => Nat.beq d 28) ?_
  iterate 4 refine vp ?_
  refine gd h F fun F h => ?_
  refine vp ?_
  refine nm cTreeTree h F fun l13383 F h => ?_
  iterate 2 refine vp ?_
  refine vn ?_
  refine sh ?_
  refine rg0 ?_
  iterate 2 refine vp ?_
  refine vn ?_
  exact nx [some 0, some 1, some 4] ((IntKind.i64.wrap (p13377 + 1)), l13383) h

theorem con_slices_Equal_int {n : Nat} {s10 : List Int} {s21 : List Int} {r : Bool} (h : slices_Equal_int n s10 s21 = some r) : Con Tryd.prog G0 17 [aL (cI .i64) s10, aL (cI .i64) s21] (.bool r) [] := by
  refine con_of (T := TT0) tt_ok Tryd.func17 (c := _) (by unfold Tryd.f17; rfl) Tryd.ntmps17 (rs := [.tmp 4]) (by rw [Tryd.results17]) (by unfold Tryd.f17; rfl) (by simp) ?_
  simp only [argsCh]
  have F := True.intro
  dsimp only [slices_Equal_int] at h
  refine rs0 ?_
  refine vp ?_
  refine vn ?_
  refine Wp.seq ?_
  refine rs0 ?_
  iterate 5 refine vp ?_
  refine vn ?_
  refine sB h F (fun F h => ?_) fun F h => ?_
  refine cF ?_
  refine Wp.skip ?_
  refine sh ?_
  refine Wp.seq ?_
  refine rs0 ?_
  iterate 3 refine vp ?_
  refine vn ?_
  refine Wp.block ?_
  refine lp [] (fun p14545 : Int => { ch := [(0, aL (cI .i64) s10), (1, aL (cI .i64) s21), (12, .int .i64 (s10.length : Int)), (13, .int .i64 p14545)], hp := [], base := 0, n := 26, cond := True, gl := G0 }) (fun m x => slices_Equal_int_L1 s10 s21 m x = some r) n 0 h ?_
  rintro rec_n1 p14545 h
  dsimp only [slices_Equal_int_L1] at h
  try dsimp only
  refine rs0 ?_
  refine vp ?_
  refine vn ?_
  refine Wp.seq ?_
  refine sD h F (fun F h => ?_) fun F h => ?_
  refine cF ?_
  refine Wp.exit ?_
  refine sh ?_
  refine rs0 ?_
  refine vp ?_
  refine vn ?_
  cases h
  exact Wp.ret en0
  refine cT ?_
  refine Wp.skip ?_
  refine sh ?_
  refine Wp.seq ?_
  refine Wp.block ?_
  refine rs0 ?_
  iterate 2 refine vp ?_
  refine vn ?_
  refine dw (fun _ => false) [] ?_
  refine du 2 ?_
  refine eI h F fun x14548 F h => ?_
  refine du 4 ?_
  refine eI h F fun x14549 F h => ?_
  refine du 3 ?_
  refine dn ?_
  refine sB h F (fun F h => ?_) fun F h => ?_
  refine cF ?_
  refine Wp.skip ?_
  refine sh ?_
  refine rg0 ?_
  iterate 2 refine vp ?_
  refine vn ?_
  exact nx [] (IntKind.i64.wrap (p14545 + 1)) h
  refine cT ?_
  refine rs0 ?_
  refine vp ?_
  refine vn ?_
  cases h
  exact Wp.ret en0
  refine cT ?_
  refine rs0 ?_
  refine vp ?_
  refine vn ?_
  cases h
  exact Wp.ret en0

theorem con_slices_Index_string {n : Nat} {s0 : List Str} {v1 : Str} {r : Int} (h : slices_Index_string n s0 v1 = some r) : Con Tryd.prog G0 104 [aL cS s0, .str v1] (.int .i64 r) [] := by
  refine con_of (T := TT0) tt_ok Tryd.func104 (c := _) (by unfold Tryd.f104; rfl) Tryd.ntmps104 (rs := [.tmp 4]) (by rw [Tryd.results104]) (by unfold Tryd.f104; rfl) (by simp) ?_
  simp only [argsCh]
  have F := True.intro
  dsimp only [slices_Index_string] at h
  refine rs0 ?_
  refine vp ?_
  refine vn ?_
  refine Wp.seq ?_
  refine rs0 ?_
  iterate 3 refine vp ?_
  refine vn ?_
  refine Wp.block ?_
  refine lp [] (fun p12766 : Int => { ch := [(0, aL cS s0), (1, .str v1), (7, .int .i64 (s0.length : Int)), (8, .int .i64 p12766)], hp := [], base := 0, n := 19, cond := True, gl := G0 }) (fun m x => slices_Index_string_L1 s0 v1 m x = some r) n 0 h ?_
  rintro rec_n1 p12766 h
  dsimp only [slices_Index_string_L1] at h
  try dsimp only
  refine rs0 ?_
  refine vp ?_
  refine vn ?_
  refine Wp.seq ?_
  refine sD h F (fun F h => ?_) fun F h => ?_
  refine cF ?_
  refine Wp.exit ?_
  refine sh ?_
  refine rs0 ?_
  refine vp ?_
  refine vn ?_
  cases h
  exact Wp.ret en0
  refine cT ?_
  refine Wp.skip ?_
  refine sh ?_
  refine Wp.seq ?_
  refine Wp.block ?_
  refine rs0 ?_
  iterate 2 refine vp ?_
  refine vn ?_
  refine rs0 ?_
  iterate 3 refine vp ?_
  refine eI h F fun x12768 F h => ?_
  iterate 3 refine vp ?_
  refine vn ?_
  refine sE h F (fun _ F h => ?_) fun _ F h => ?_
  refine cF ?_
  refine Wp.skip ?_
  refine sh ?_
  refine rg0 ?_
  iterate 2 refine vp ?_
  refine vn ?_
  exact nx [] (IntKind.i64.wrap (p12766 + 1)) h
  refine cT ?_
  refine rs0 ?_
  iterate 2 refine vp ?_
  refine vn ?_
  cases h
  exact Wp.ret en0

theorem con_graph_Outgoing_1 {n : Nat} {c0 : ApiContact} {b0 : Str} {r : Bool} (h : graph_Outgoing_1 n c0 b0 = some r) : ConH Tryd.prog G0 129 [.agg (cApiContact c0), .hptr 0 0 0] [.var [.str b0]] (.bool r) [.var [.str b0]] := by
  refine conH_of (T := TT0) tt_ok Tryd.func129 (c := _) (by unfold Tryd.f129; rfl) Tryd.ntmps129 (rs := [.tmp 3]) (by rw [Tryd.results129]) (by unfold Tryd.f129; rfl) (by simp) (k := 1) rfl rfl ?_
  try simp only [argsCh]
  have F := True.intro
  dsimp only [graph_Outgoing_1] at h
  refine rs0 ?_
  iterate 2 refine vp ?_
  refine vn ?_
  refine rs0 ?_
  iterate 5 refine vp ?_
  refine vn ?_
  cases h
  exact Wp.ret (enH [some 0])

end Go.Proofs.YtaebdeidbibfkaaDoor
