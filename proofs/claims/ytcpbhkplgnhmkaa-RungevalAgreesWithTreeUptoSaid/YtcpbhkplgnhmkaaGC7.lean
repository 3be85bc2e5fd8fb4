/- Contracts: models of functions are right. No law is proved here. -/
import Derived.Test.YtcpbhkplgnhmkaaGMod
import Derived.Test.YtcpbhkplgnhmkaaTak
import Derived.Test.YtcpbhkplgnhmkaaLawM11
import Derived.Test.YtcpbhkplgnhmkaaGC1
import Derived.Test.YtcpbhkplgnhmkaaGC3
import Derived.Test.YtcpbhkplgnhmkaaGC5
namespace Go.Proofs.Ytcpbhkplgnhmkaa
open Go.Av Go.G
attribute [-simp] Int.natCast_tdiv_eq_ediv
attribute [local simp] runf guardA opf St.ev Go.Av.look St.setd constAV constAV0 opBin opLen intBin St.need lookT TT0 tab resA resOne resAll blt_dec ble_dec beq_dec isPure
attribute [local simp] opMakeSlice opCopy opIndexAddr opLoad opStore St.mem St.rows opUn calleeA toArgs toArg toArg0 toArgs0 shift shift0 shift1 splice cellsOf isFree ofCells TS.isAgg isCell strBin opConvert
attribute [local simp] opSlice3 opClear fz_clear opBuildSlice fillA opAppend eqC eqA cksB ckB St.newBox runI valKind withinB readsHp refsD refs noSl opFieldAddr opBuild opMax opMin placeOf Op.operands Call.operands opIndex opExtract opSlice opField partA
attribute [local simp] loA hiA lenA opMakeMap opLookup opMapUpdate keyOk findA_int findA_str findA_bool putA_strB putA_strI putA_strS putA_intB putA_intI putA_intS putA_boolI putA_boolB byteRow_rw bytesOf_rw opBytesStr mAV_length mAV_nil cA1 cA2 cA3 cA4 opNilCheck opMakeFunc opRange
attribute [local simp] aL cI cB cS cL rw_map fz_rw fz_const dropRow_rw fz_append fz_set fz_copy fz_rows rowLen_rw rowsLen_nil rowsLen_cons rowsLen_append rowsLen_map rowsLen_dm rowsLen_tm rowsLen_take rowsLen_drop rowsLen_replicate take_map_len take_map_le drop_map_len take_drop_len chunks isScalar isScalar0
attribute [local simp] putBack putAt objMap mapC mapA mapT map0 bid rid memB passed closedB argsH argH argH0 argsH0 objIds ids0 idsC isLocT isLocA isLocC isLoc0 LocObj
attribute [local congr] bind_congr1 map_congr1 cond_congr1
attribute [local simp] cApiAddr cApiContact cApiCoil cApiRung cApiState cReducePair cReduceEdge cTreeTree_eq TreeTree_Kind_mk TreeTree_N_mk TreeTree_Kids_mk eta_TreeTree
variable [Drawn]
set_option maxHeartbeats 4000000
set_option linter.unusedSectionVars false
set_option maxRecDepth 20000
set_option linter.unusedSimpArgs false
set_option linter.unusedVariables false

theorem con_ref12_spread {n : Nat} {_append0 : ApiRung} {a1 : Str} {a2 : Bool} {r : (List Str)} (h : ref12_spread n _append0 a1 a2 = some r) : Con Try.prog G0 13 [.agg (cApiRung _append0), .str a1, .bool a2] (aL cS r) [] := by
  refine con_of (T := TT0) tt_ok Try.func13 (c := _) (by unfold Try.f13; rfl) Try.ntmps13 (rs := [.tmp 6]) (by rw [Try.results13]) (by unfold Try.f13; rfl) (by simp) ?_
  simp only [argsCh]
  have F := True.intro
  dsimp only [ref12_spread] at h
  refine rs0 ?_
  iterate 2 refine vp ?_
  refine vn ?_
  refine rs0 ?_
  refine vp ?_
  obtain ⟨r876, hr875, h⟩ := obind h
  refine vc (con_ref12_Nodes hr875) ?_
  refine vp ?_
  refine vn ?_
  refine Wp.seq ?_
  refine rs0 ?_
  iterate 2 refine vp ?_
  obtain ⟨r880, hr879, h⟩ := obind h
  refine vc (con_ref12_has hr879) ?_
  refine vp ?_
  refine vn ?_
  refine sB h F (fun F h => ?_) fun F h => ?_
  refine cF ?_
  refine Wp.skip ?_
  refine sh ?_
  refine rs (fun d => Nat.beq d 22) ?_
  iterate 2 refine vp ?_
  refine nl cS h F fun l881 m F h => ?_
  try simp only [m]
  clear m
  refine vp ?_
  refine vn ?_
  refine jn (fun l962 : List Str => { ch := [(7, aL cS r876), (8, .sl 0 0 l962.length)], hp := [.arr 1 l962.length (rw (l962.map cS))], base := 0, n := 94, cond := True, gl := G0 }) (fun x => ref12_spread_J1 n r876 x = some r) ?_ ?_
  clear h
  rintro l962 h
  dsimp only [ref12_spread_J1] at h
  try dsimp only
  refine rs0 ?_
  refine vp ?_
  refine vn ?_
  refine Wp.seq ?_
  refine rs0 ?_
  refine vp ?_
  refine vn ?_
  refine Wp.block ?_
  refine lp [some 0, none] (fun x : (List Str) × Int => { ch := [(7, aL cS r876), (8, .sl 0 0 l962.length), (13, .sl 1 0 x.1.length), (14, .int .i64 x.2)], hp := [.arr 1 l962.length (rw (l962.map cS)), .arr 1 x.1.length (rw (x.1.map cS))], base := 0, n := 94, cond := True, gl := G0 }) (fun m x => ref12_spread_L2 n r876 l962 m x.1 x.2 = some r) n ([], 0) h ?_
  rintro rec_n2 ⟨p967, p968⟩ h
  dsimp only [ref12_spread_L2] at h
  try dsimp only
  refine Wp.seq ?_
  refine rs0 ?_
  iterate 4 refine vp ?_
  refine vn ?_
  refine sD h F (fun F h => ?_) fun F h => ?_
  refine cF ?_
  refine Wp.exit ?_
  refine sh ?_
  refine rs0 ?_
  iterate 2 refine vp ?_
  refine vn ?_
  cases h
  exact Wp.ret en0
  refine cT ?_
  refine Wp.skip ?_
  refine sh ?_
  refine Wp.seq ?_
  refine Wp.block ?_
  refine rs0 ?_
  iterate 3 refine vp ?_
  refine eI h F fun x973 F h => ?_
  iterate 2 refine vp ?_
  obtain ⟨r975, hr974, h⟩ := obind h
  refine vc (con_ref12_has hr974) ?_
  refine vn ?_
  refine sB h F (fun F h => ?_) fun F h => ?_
  refine cF ?_
  refine Wp.skip ?_
  refine sh ?_
  refine rg0 ?_
  iterate 3 refine vp ?_
  refine vn ?_
  exact nx [some 0, some 1] (p967, (IntKind.i64.wrap (p968 + 1))) h
  refine cT ?_
  refine rg (fun d => Nat.beq d 92) ?_
  iterate 6 refine vp ?_
  refine gd h F fun F h => ?_
  refine vp ?_
  refine nm cS h F fun l976 F h => ?_
  refine vp ?_
  refine vn ?_
  refine sh ?_
  refine rg0 ?_
  iterate 3 refine vp ?_
  refine vn ?_
  exact nx [some 0, some 2] (l976, (IntKind.i64.wrap (p968 + 1))) h
  refine rs0 ?_
  refine vp ?_
  refine vn ?_
  refine Wp.block ?_
  refine lp [some 0, some 1] (fun x : Int × (List Str) => { ch := [(2, .bool a2), (3, .hptr 0 0 0), (7, aL cS r876), (8, .sl 1 0 x.2.length), (9, .int .i64 x.1)], hp := [.var [.str _append0.Label, aL cApiContact _append0.Contacts, aL cApiCoil _append0.Coils, .str _append0.Jump], .arr 1 x.2.length (rw (x.2.map cS))], base := 0, n := 94, cond := True, gl := G0 }) (fun m x => ref12_spread_L3 n _append0 a2 r876 m x.1 x.2 = some r) n (0, l881) h ?_
  rintro rec_n3 ⟨p1003, l1004⟩ h
  dsimp only [ref12_spread_L3] at h
  try dsimp only
  refine Wp.seq ?_
  refine rs0 ?_
  iterate 4 refine vp ?_
  refine vn ?_
  refine sD h F (fun F h => ?_) fun F h => ?_
  refine cF ?_
  refine Wp.exit ?_
  exact nx [some 1] l1004 h
  refine cT ?_
  refine Wp.skip ?_
  refine sh ?_
  refine Wp.seq ?_
  refine Wp.block ?_
  refine rs0 ?_
  refine vp ?_
  refine vn ?_
  refine Wp.block ?_
  refine lp [some 0, some 1] (fun x : Int × (List Str) => { ch := [(2, .bool a2), (3, .hptr 0 0 0), (7, aL cS r876), (8, .sl 1 0 x.2.length), (9, .int .i64 p1003), (10, .int .i64 x.1)], hp := [.var [.str _append0.Label, aL cApiContact _append0.Contacts, aL cApiCoil _append0.Coils, .str _append0.Jump], .arr 1 x.2.length (rw (x.2.map cS))], base := 0, n := 94, cond := True, gl := G0 }) (fun m x => ref12_spread_L4 n _append0 a2 p1003 (ref12_spread_L3 n _append0 a2 r876 rec_n3) m x.1 x.2 = some r) n (0, l1004) h ?_
  rintro rec_n4 ⟨p1039, l1040⟩ h
  dsimp only [ref12_spread_L4] at h
  try dsimp only
  refine Wp.seq ?_
  refine rs0 ?_
  iterate 5 refine vp ?_
  refine vn ?_
  refine sD h F (fun F h => ?_) fun F h => ?_
  refine cF ?_
  refine Wp.exit ?_
  refine sh ?_
  refine rg0 ?_
  iterate 3 refine vp ?_
  refine vn ?_
  exact nx [some 0, some 1] ((IntKind.i64.wrap (p1003 + 1)), l1040) h
  refine cT ?_
  refine Wp.skip ?_
  refine sh ?_
  refine Wp.seq ?_
  refine Wp.block ?_
  refine rs0 ?_
  iterate 3 refine vp ?_
  refine eI h F fun x1049 F h => ?_
  iterate 4 refine vp ?_
  refine vn ?_
  refine rs0 ?_
  iterate 7 refine vp ?_
  refine vn ?_
  refine jn (fun x : Str × Str => { ch := [(2, .bool a2), (3, .hptr 0 0 0), (7, aL cS r876), (8, .sl 1 0 l1040.length), (9, .int .i64 p1003), (10, .int .i64 p1039), (11, .str x.1), (12, .str x.2)], hp := [.var [.str _append0.Label, aL cApiContact _append0.Contacts, aL cApiCoil _append0.Coils, .str _append0.Jump], .arr 1 l1040.length (rw (l1040.map cS))], base := 0, n := 94, cond := True, gl := G0 }) (fun x => ref12_spread_J5 n p1039 l1040 (ref12_spread_L4 n _append0 a2 p1003 (ref12_spread_L3 n _append0 a2 r876 rec_n3) rec_n4) x.1 x.2 = some r) ?_ ?_
  clear h
  rintro ⟨p1050, p1051⟩ h
  dsimp only [ref12_spread_J5] at h
  try dsimp only
  refine rs0 ?_
  iterate 2 refine vp ?_
  obtain ⟨r1053, hr1052, h⟩ := obind h
  refine vc (con_ref12_has hr1052) ?_
  refine vp ?_
  refine sB h F (fun F h => ?_) fun F h => ?_
  refine vs ?_
  refine vs ?_
  refine vs ?_
  refine vs ?_
  refine vp ?_
  refine vn ?_
  refine cF ?_
  refine Wp.skip ?_
  refine sh ?_
  refine rg0 ?_
  iterate 3 refine vp ?_
  refine vn ?_
  exact nx [some 0, some 1] ((IntKind.i64.wrap (p1039 + 1)), l1040) h
  refine vg ?_
  refine vg ?_
  obtain ⟨r1055, hr1054, h⟩ := obind h
  refine vc (con_ref12_has hr1054) ?_ (hg := by (simp [F]; done))
  refine vg ?_
  refine vp ?_
  refine vn ?_
  refine sB h F (fun F h => ?_) fun F h => ?_
  refine cF ?_
  refine Wp.skip ?_
  refine sh ?_
  refine rg0 ?_
  iterate 3 refine vp ?_
  refine vn ?_
  exact nx [some 0, some 1] ((IntKind.i64.wrap (p1039 + 1)), l1040) h
  refine cT ?_
  refine rg0 ?_
  iterate 3 refine vp ?_
  refine gd h F fun F h => ?_
  refine vp ?_
  refine nm cS h F fun l1056 F h => ?_
  refine vp ?_
  refine vn ?_
  refine sh ?_
  refine rg0 ?_
  iterate 3 refine vp ?_
  refine vn ?_
  exact nx [some 0, some 2] ((IntKind.i64.wrap (p1039 + 1)), l1056) h
  refine rs0 ?_
  refine vp ?_
  refine vn ?_
  refine sB h F (fun F h => ?_) fun F h => ?_
  refine cF ?_
  refine Wp.skip ?_
  exact nx [some 0, some 1] (x1049.From, x1049.To) h
  refine cT ?_
  refine rs0 ?_
  iterate 7 refine vp ?_
  refine vn ?_
  refine rg0 ?_
  iterate 7 refine vp ?_
  refine vn ?_
  exact nx [some 0, some 1] (x1049.To, x1049.From) h
  refine cT ?_
  refine rs0 ?_
  refine vp ?_
  refine vn ?_
  cases h
  exact Wp.ret en0

theorem con_reduce_sorted_1 {n : Nat} {a0 : TreeTree} {b1 : TreeTree} {r : Int} (h : reduce_sorted_1 n a0 b1 = some r) : Con Try.prog G0 31 [.agg [.int .i64 a0.Kind, .int .i64 a0.N, aL cTreeTree a0.Kids], .agg [.int .i64 b1.Kind, .int .i64 b1.N, aL cTreeTree b1.Kids]] (.int .i64 r) [] := by
  refine con_of (T := TT0) tt_ok Try.func31 (c := _) (by unfold Try.f31; rfl) Try.ntmps31 (rs := [.tmp 4]) (by rw [Try.results31]) (by unfold Try.f31; rfl) (by simp) ?_
  simp only [argsCh]
  have F := True.intro
  dsimp only [reduce_sorted_1] at h
  refine rs0 ?_
  iterate 3 refine vp ?_
  refine vn ?_
  refine dw (fun _ => false) [0, 1] ?_
  refine du 1 ?_
  obtain ⟨r5412, hr5411, h⟩ := obind h
  refine dc (con_tree_Leaves _ hr5411) ?_
  obtain ⟨r5420, hr5419, h⟩ := obind h
  refine dc (con_slices_Min_int hr5419) ?_
  refine du 1 ?_
  obtain ⟨r5422, hr5421, h⟩ := obind h
  refine dc (con_tree_Leaves _ hr5421) ?_
  obtain ⟨r5424, hr5423, h⟩ := obind h
  refine dc (con_slices_Min_int hr5423) ?_
  obtain ⟨r5430, hr5429, h⟩ := obind h
  refine dc (con_cmp_Compare_int hr5429) ?_
  refine du 1 ?_
  refine dn ?_
  cases h
  exact Wp.ret en0

theorem con_graph_Incoming {n : Nat} {r_0 : ApiRung} {node1 : Str} {r : (List Int)} (h : graph_Incoming n r_0 node1 = some r) : Con Try.prog G0 49 [.agg (cApiRung r_0), .str node1] (aL (cI .i64) r) [] := by
  refine con_of (T := TT0) tt_ok Try.func49 (c := _) (by unfold Try.f49; rfl) Try.ntmps49 (rs := [.tmp 4]) (by rw [Try.results49]) (by unfold Try.f49; rfl) (by simp) ?_
  simp only [argsCh]
  have F := True.intro
  dsimp only [graph_Incoming] at h
  refine rs0 ?_
  iterate 3 refine vp ?_
  refine vn ?_
  refine rs0 ?_
  iterate 2 refine vp ?_
  obtain ⟨r3414, hr3413, h⟩ := obind h
  refine vh [1] (con_graph_numbers_c66 hr3413) ?_
  refine vp ?_
  refine vn ?_
  cases h
  exact Wp.ret en0

end Go.Proofs.Ytcpbhkplgnhmkaa
