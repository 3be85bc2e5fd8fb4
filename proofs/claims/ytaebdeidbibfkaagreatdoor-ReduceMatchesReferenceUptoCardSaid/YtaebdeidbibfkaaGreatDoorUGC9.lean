/- Contracts: models of functions are right. No law is proved here. -/
import Derived.Test.YtaebdeidbibfkaaGreatDoorUGMod
import Derived.Test.YtaebdeidbibfkaaGreatDoorUTau
import Derived.Test.YtaebdeidbibfkaaGreatDoorUSoz
import Derived.Test.YtaebdeidbibfkaaGreatDoorUShz
import Derived.Test.YtaebdeidbibfkaaGreatDoorUGC2
import Derived.Test.YtaebdeidbibfkaaGreatDoorUGC4
import Derived.Test.YtaebdeidbibfkaaGreatDoorUGC6
import Derived.Test.YtaebdeidbibfkaaGreatDoorUGC7
namespace Go.Proofs.YtaebdeidbibfkaaGreatDoor
open Go.Av Go.G
attribute [-simp] Int.natCast_tdiv_eq_ediv
attribute [local simp] runf guardA opf St.ev Go.Av.look St.setd constAV constAV0 opBin opLen intBin St.need lookT TT0 tab resA resOne resAll blt_dec ble_dec beq_dec isPure
attribute [local simp] opMakeSlice opCopy opIndexAddr opLoad opStore St.mem St.rows opUn calleeA toArgs toArg toArg0 toArgs0 shift shift0 shift1 splice cellsOf isFree ofCells TS.isAgg isCell strBin opConvert
attribute [local simp] opSlice3 opClear fz_clear opBuildSlice fillA opAppend eqC eqA cksB ckB St.newBox runI valKind withinB readsHp refsD refs noSl opFieldAddr opBuild opMax opMin placeOf Op.operands Call.operands opIndex opExtract opSlice opField partA
attribute [local simp] loA hiA lenA opMakeMap opLookup opMapUpdate keyOk findA_int findA_str findA_bool putA_strB putA_strI putA_strS putA_intB putA_intI putA_intS putA_boolI putA_boolB byteRow_rwN bytesOf_rwN opBytesStr mAV_length mAV_nil cA1 cA2 cA3 cA4 opNilCheck opMakeFunc opRange
attribute [local simp] aL cI cB cS cL rw_map fz_rw fz_const dropRow_rw fz_append fz_set fz_copy fz_rows rowLen_rw rowsLen_nil rowsLen_cons rowsLen_append rowsLen_map rowsLen_dm rowsLen_tm rowsLen_take rowsLen_drop rowsLen_replicate take_map_len take_map_le drop_map_len take_drop_len chunks isScalar isScalar0
attribute [local simp] putBack putAt objMap mapC mapA mapT map0 bid rid memB passed closedB argsH argH argH0 argsH0 objIds ids0 idsC isLocT isLocA isLocC isLoc0 LocObj
attribute [local congr] bind_congr1 map_congr1 cond_congr1
attribute [local simp] cApiAddr cApiContact cApiCoil cApiRung cReducePair cReduceEdge cRef15Edge cTreeTree_eq TreeTree_Kind_mk TreeTree_N_mk TreeTree_Kids_mk eta_TreeTree cRef14Tree_eq Ref14Tree_Kind_mk Ref14Tree_N_mk Ref14Tree_Kids_mk eta_Ref14Tree
variable [Drawn]
set_option maxHeartbeats 4000000
set_option linter.unusedSectionVars false
set_option maxRecDepth 20000
set_option linter.unusedSimpArgs false
set_option linter.unusedVariables false

theorem con_ref15_join {n : Nat} {_append0 : Int} {a1 : Ref14Tree} {a2 : Ref14Tree} {r : Ref14Tree} (h : ref15_join n _append0 a1 a2 = some r) : Con Tryz.prog G0 60 [.int .i64 _append0, .agg [.int .i64 a1.Kind, .int .i64 a1.N, aL cRef14Tree a1.Kids], .agg [.int .i64 a2.Kind, .int .i64 a2.N, aL cRef14Tree a2.Kids]] (.agg [.int .i64 r.Kind, .int .i64 r.N, aL cRef14Tree r.Kids]) [] := by
  refine con_of (T := TT0) tt_ok Tryz.func60 (c := _) (by unfold Tryz.f60; rfl) Tryz.ntmps60 (rs := [.cell 6 36]) (by rw [Tryz.results60]) (by unfold Tryz.f60; rfl) (by simp) ?_
  simp only [argsCh]
  have F := True.intro
  dsimp only [ref15_join] at h
  refine rs0 ?_
  iterate 3 refine vp ?_
  refine vn ?_
  refine rs0 ?_
  refine vp ?_
  refine vn ?_
  refine rs0 ?_
  iterate 3 refine vp ?_
  refine nl cRef14Tree h F fun l9497 m F h => ?_
  try simp only [m]
  clear m
  refine vp ?_
  refine vn ?_
  refine jn (fun p9508 : List Ref14Tree => { ch := [(0, .int .i64 _append0), (6, .hptr 0 0 0), (7, .sl 1 0 p9508.length)], hp := [.var [.int .i64 0, .int .i64 0, .nilsl], .arr 3 p9508.length (rw (p9508.map cRef14Tree))], base := 0, n := 90, cond := True, gl := G0 }) (fun x => ref15_join_J1 n _append0 x = some r) ?_ ?_
  clear h
  rintro p9508 h
  dsimp only [ref15_join_J1] at h
  try dsimp only
  refine Wp.seq ?_
  refine rs0 ?_
  iterate 2 refine vp ?_
  refine vn ?_
  refine sB h F (fun F h => ?_) fun F h => ?_
  refine cF ?_
  refine Wp.skip ?_
  refine sh ?_
  refine rs0 ?_
  refine vp ?_
  refine vn ?_
  refine Wp.seq ?_
  refine rs0 ?_
  refine vp ?_
  refine vn ?_
  refine Wp.block ?_
  refine lp [some 0, some 1, none] (fun x : (List Ref14Tree) × Int => { ch := [(6, .hptr 0 0 0), (7, .sl 1 0 p9508.length), (10, .sl 2 0 x.1.length), (11, .int .i64 x.2)], hp := [.var [.int .i64 0, .int .i64 0, .nilsl], .arr 3 p9508.length (rw (p9508.map cRef14Tree)), .arr 3 x.1.length (rw (x.1.map cRef14Tree))], base := 0, n := 90, cond := True, gl := G0 }) (fun m x => ref15_join_L2 n p9508 m x.1 x.2 = some r) n ([], 0) h ?_
  rintro rec_n2 ⟨p9513, p9514⟩ h
  dsimp only [ref15_join_L2] at h
  try dsimp only
  refine Wp.seq ?_
  refine rs0 ?_
  iterate 4 refine vp ?_
  refine vn ?_
  refine sD h F (fun F h => ?_) fun F h => ?_
  refine cF ?_
  refine Wp.exit ?_
  refine sh ?_
  refine rs0 ?_
  iterate 3 refine vp ?_
  refine vn ?_
  cases h
  exact Wp.ret en0
  refine cT ?_
  refine Wp.skip ?_
  refine sh ?_
  refine Wp.seq ?_
  refine Wp.block ?_
  refine rs0 ?_
  refine vp ?_
  refine vn ?_
  refine jn (fun p9628 : Int => { ch := [(6, .hptr 1 0 0), (7, .sl 2 0 p9508.length), (10, .sl 0 0 p9513.length), (11, .int .i64 p9514), (12, .int .i64 p9628)], hp := [.arr 3 p9513.length (rw (p9513.map cRef14Tree)), .var [.int .i64 0, .int .i64 0, .nilsl], .arr 3 p9508.length (rw (p9508.map cRef14Tree))], base := 0, n := 90, cond := True, gl := G0 }) (fun x => ref15_join_J3 p9508 p9513 p9514 (ref15_join_L2 n p9508 rec_n2) x = some r) ?_ ?_
  clear h
  rintro p9628 h
  dsimp only [ref15_join_J3] at h
  try dsimp only
  refine rs (fun d => Nat.beq d 75) ?_
  iterate 3 refine vp ?_
  refine gd h F fun F h => ?_
  refine vp ?_
  refine gd h F fun F h => ?_
  refine vp ?_
  refine nm cRef14Tree h F fun l9629 F h => ?_
  refine vp ?_
  refine vn ?_
  refine rs0 ?_
  iterate 3 refine vp ?_
  refine eI h F fun x9630 F h => ?_
  iterate 3 refine vp ?_
  refine gd h F fun F h => ?_
  refine vp ?_
  refine nm cRef14Tree h F fun l9631 F h => ?_
  refine vp ?_
  refine vn ?_
  refine rg0 ?_
  iterate 3 refine vp ?_
  refine gd h F fun F h => ?_
  refine vp ?_
  refine gd h F fun F h => ?_
  refine vp ?_
  refine nm cRef14Tree h F fun l9632 F h => ?_
  refine vp ?_
  refine vn ?_
  refine sh ?_
  refine rg0 ?_
  iterate 3 refine vp ?_
  refine vn ?_
  exact nx [some 1, some 2, some 5] (l9632, (IntKind.i64.wrap (p9514 + 1))) h
  refine Wp.block ?_
  refine lp [some 2, some 0, some 1] (fun p9639 : Int => { ch := [(6, .hptr 1 0 0), (7, .sl 2 0 p9508.length), (10, .sl 0 0 p9513.length), (11, .int .i64 p9514), (12, .int .i64 p9639)], hp := [.arr 3 p9513.length (rw (p9513.map cRef14Tree)), .var [.int .i64 0, .int .i64 0, .nilsl], .arr 3 p9508.length (rw (p9508.map cRef14Tree))], base := 0, n := 90, cond := True, gl := G0 }) (fun m x => ref15_join_L4 n p9508 p9513 p9514 (ref15_join_L2 n p9508 rec_n2) m x = some r) n 0 h ?_
  rintro rec_n4 p9639 h
  dsimp only [ref15_join_L4] at h
  try dsimp only
  refine Wp.seq ?_
  refine dw (fun _ => false) [0, 2] ?_
  refine du 5 ?_
  refine sD h F (fun F h => ?_) fun F h => ?_
  refine ds ?_
  refine ds ?_
  refine ds ?_
  refine ds ?_
  refine ds ?_
  refine ds ?_
  refine ds ?_
  refine ds ?_
  refine ds ?_
  refine ds ?_
  refine ds ?_
  refine du 1 ?_
  refine dn ?_
  refine cF ?_
  refine Wp.exit ?_
  exact nx [some 0, some 1, some 2] p9639 h
  refine du 1 ?_
  refine du 1 ?_
  refine eI h F fun x9646 F h => ?_
  refine du 1 ?_
  refine du 1 ?_
  obtain ⟨r9648, hr9647, h⟩ := obind h
  refine dc (con_ref15_least hr9647) ?_ (hg := by (simp [F]; done))
  refine du 1 ?_
  refine du 1 ?_
  refine eI h F fun x9649 F h => ?_
  refine du 1 ?_
  refine du 1 ?_
  obtain ⟨r9651, hr9650, h⟩ := obind h
  refine dc (con_ref15_least hr9650) ?_ (hg := by (simp [F]; done))
  refine du 1 ?_
  refine du 1 ?_
  refine dn ?_
  refine sD h F (fun F h => ?_) fun F h => ?_
  refine cF ?_
  refine Wp.exit ?_
  exact nx [some 0, some 1, some 2] p9639 h
  refine cT ?_
  refine Wp.skip ?_
  refine sh ?_
  refine Wp.block ?_
  refine rg0 ?_
  iterate 3 refine vp ?_
  refine vn ?_
  exact nx [some 0, some 1, some 2] (IntKind.i64.wrap (p9639 + 1)) h
  refine cT ?_
  refine rs0 ?_
  iterate 3 refine vp ?_
  refine vn ?_
  cases h
  exact Wp.ret en0
  refine rs0 ?_
  refine vp ?_
  refine vn ?_
  refine Wp.block ?_
  refine lp [some 2, none] (fun x : (List Ref14Tree) × Int => { ch := [(0, .int .i64 _append0), (6, .hptr 0 0 0), (7, .sl 1 0 x.1.length), (8, aL cRef14Tree l9497), (9, .int .i64 x.2)], hp := [.var [.int .i64 0, .int .i64 0, .nilsl], .arr 3 x.1.length (rw (x.1.map cRef14Tree))], base := 0, n := 90, cond := True, gl := G0 }) (fun m x => ref15_join_L5 n _append0 l9497 m x.1 x.2 = some r) n ([], 0) h ?_
  rintro rec_n5 ⟨p9654, p9655⟩ h
  dsimp only [ref15_join_L5] at h
  try dsimp only
  refine Wp.seq ?_
  refine rs0 ?_
  iterate 2 refine vp ?_
  refine vn ?_
  refine sD h F (fun F h => ?_) fun F h => ?_
  refine cF ?_
  refine Wp.exit ?_
  exact nx [some 0, some 1] p9654 h
  refine cT ?_
  refine Wp.skip ?_
  refine sh ?_
  refine Wp.seq ?_
  refine Wp.block ?_
  refine rs0 ?_
  iterate 2 refine vp ?_
  refine eI h F fun x9659 F h => ?_
  iterate 5 refine vp ?_
  refine vn ?_
  refine sB h F (fun F h => ?_) fun F h => ?_
  refine cF ?_
  refine rg (fun d => Nat.beq d 41) ?_
  iterate 6 refine vp ?_
  refine gd h F fun F h => ?_
  refine vp ?_
  refine nm cRef14Tree h F fun l9661 F h => ?_
  refine vp ?_
  refine vn ?_
  refine sh ?_
  refine rg0 ?_
  iterate 3 refine vp ?_
  refine vn ?_
  exact nx [some 0, some 2] (l9661, (IntKind.i64.wrap (p9655 + 1))) h
  refine cT ?_
  refine rg (fun d => Nat.beq d 34) ?_
  iterate 6 refine vp ?_
  refine gd h F fun F h => ?_
  refine vp ?_
  refine nm cRef14Tree h F fun l9660 F h => ?_
  refine vp ?_
  refine vn ?_
  refine sh ?_
  refine rg0 ?_
  iterate 3 refine vp ?_
  refine vn ?_
  exact nx [some 0, some 2] (l9660, (IntKind.i64.wrap (p9655 + 1))) h

theorem con_ref12_TopoSort {n : Nat} {_append0 : ApiRung} {r : (List Str) × Int} (h : ref12_TopoSort n _append0 = some r) : Con Tryz.prog G0 74 [.agg (cApiRung _append0)] (.tup [aL cS r.1, .int .i64 r.2]) [] := by
  refine con_of (T := TT0) tt_ok Tryz.func74 (c := _) (by unfold Tryz.f74; rfl) Tryz.ntmps74 (rs := [.tmp 2, .tmp 3]) (by rw [Tryz.results74]) (by unfold Tryz.f74; rfl) (by simp) ?_
  simp only [argsCh]
  have F := True.intro
  dsimp only [ref12_TopoSort] at h
  refine rs0 ?_
  iterate 3 refine vp ?_
  refine vn ?_
  refine rs0 ?_
  refine vp ?_
  obtain ⟨r7488, hr7487, h⟩ := obind h
  refine vc (con_ref12_Nodes hr7487) ?_
  refine vp ?_
  refine vn ?_
  refine rs0 ?_
  refine vp ?_
  refine vn ?_
  refine Wp.seq ?_
  refine Wp.block ?_
  refine lp [some 0, none] (fun p7606 : List Str => { ch := [(1, .hptr 0 0 0), (4, aL cS r7488), (5, .sl 1 0 p7606.length)], hp := [.var [.str _append0.Label, aL cApiContact _append0.Contacts, aL cApiCoil _append0.Coils, .str _append0.Jump], .arr 1 p7606.length (rw (p7606.map cS))], base := 0, n := 74, cond := True, gl := G0 }) (fun m x => ref12_TopoSort_L1 n _append0 r7488 m x = some r) n [] h ?_
  rintro rec_n1 p7606 h
  dsimp only [ref12_TopoSort_L1] at h
  try dsimp only
  refine Wp.seq ?_
  refine rs0 ?_
  iterate 5 refine vp ?_
  refine vn ?_
  refine sD h F (fun F h => ?_) fun F h => ?_
  refine cF ?_
  refine Wp.exit ?_
  refine sh ?_
  refine rs0 ?_
  iterate 3 refine vp ?_
  refine vn ?_
  cases h
  exact Wp.ret en0
  refine cT ?_
  refine Wp.skip ?_
  refine sh ?_
  refine Wp.block ?_
  refine rs0 ?_
  refine vp ?_
  refine vn ?_
  refine jn (fun p7778 : Int => { ch := [(1, .hptr 0 0 0), (4, aL cS r7488), (5, .sl 1 0 p7606.length), (6, .int .i64 p7778)], hp := [.var [.str _append0.Label, aL cApiContact _append0.Contacts, aL cApiCoil _append0.Coils, .str _append0.Jump], .arr 1 p7606.length (rw (p7606.map cS))], base := 0, n := 74, cond := True, gl := G0 }) (fun x => ref12_TopoSort_J2 r7488 p7606 (ref12_TopoSort_L1 n _append0 r7488 rec_n1) x = some r) ?_ ?_
  clear h
  rintro p7778 h
  dsimp only [ref12_TopoSort_J2] at h
  try dsimp only
  refine Wp.seq ?_
  refine rs0 ?_
  iterate 2 refine vp ?_
  refine vn ?_
  refine sD h F (fun F h => ?_) fun F h => ?_
  refine cF ?_
  refine Wp.skip ?_
  refine sh ?_
  refine rg (fun d => Nat.beq d 72) ?_
  iterate 3 refine vp ?_
  refine eI h F fun x7779 F h => ?_
  iterate 3 refine vp ?_
  refine gd h F fun F h => ?_
  refine vp ?_
  refine nm cS h F fun l7780 F h => ?_
  refine vp ?_
  refine vn ?_
  exact nx [some 0, some 2] l7780 h
  refine cT ?_
  refine rs0 ?_
  iterate 2 refine vp ?_
  refine vn ?_
  cases h
  exact Wp.ret en0
  refine rs0 ?_
  refine vp ?_
  refine vn ?_
  refine Wp.block ?_
  refine lp [some 0, some 1] (fun x : Int × Int => { ch := [(1, .hptr 0 0 0), (4, aL cS r7488), (5, .sl 1 0 p7606.length), (6, .int .i64 x.2), (7, .int .i64 x.1)], hp := [.var [.str _append0.Label, aL cApiContact _append0.Contacts, aL cApiCoil _append0.Coils, .str _append0.Jump], .arr 1 p7606.length (rw (p7606.map cS))], base := 0, n := 74, cond := True, gl := G0 }) (fun m x => ref12_TopoSort_L3 n _append0 r7488 p7606 (ref12_TopoSort_L1 n _append0 r7488 rec_n1) m x.1 x.2 = some r) n (0, (-1)) h ?_
  rintro rec_n3 ⟨p7799, p7800⟩ h
  dsimp only [ref12_TopoSort_L3] at h
  try dsimp only
  refine Wp.seq ?_
  refine rs0 ?_
  iterate 5 refine vp ?_
  refine sD h F (fun F h => ?_) fun F h => ?_
  refine vs ?_
  refine vs ?_
  refine vp ?_
  refine vn ?_
  refine cF ?_
  refine Wp.exit ?_
  exact nx [some 0, some 1] p7800 h
  refine vg ?_
  refine vg ?_
  refine vp ?_
  refine vn ?_
  refine sD h F (fun F h => ?_) fun F h => ?_
  refine cF ?_
  refine Wp.exit ?_
  exact nx [some 0, some 1] p7800 h
  refine cT ?_
  refine Wp.skip ?_
  refine sh ?_
  refine Wp.seq ?_
  refine Wp.block ?_
  refine Wp.seq ?_
  refine rs0 ?_
  iterate 3 refine vp ?_
  refine eI h F fun x7822 F h => ?_
  iterate 2 refine vp ?_
  obtain ⟨r7824, hr7823, h⟩ := obind h
  refine vc (con_ref12_has hr7823) ?_
  refine vn ?_
  refine sB h F (fun F h => ?_) fun F h => ?_
  refine cF ?_
  refine Wp.skip ?_
  refine sh ?_
  refine rs0 ?_
  refine vp ?_
  refine vn ?_
  refine Wp.seq ?_
  refine rs0 ?_
  refine vp ?_
  refine vn ?_
  refine Wp.block ?_
  refine lp [some 0, some 1] (fun x : Bool × Int => { ch := [(1, .hptr 0 0 0), (4, aL cS r7488), (5, .sl 1 0 p7606.length), (6, .int .i64 p7800), (7, .int .i64 p7799), (8, .bool x.1), (9, .int .i64 x.2), (22, .int .i64 p7800), (23, .bool (decide (p7800 < 0)))], hp := [.var [.str _append0.Label, aL cApiContact _append0.Contacts, aL cApiCoil _append0.Coils, .str _append0.Jump], .arr 1 p7606.length (rw (p7606.map cS))], base := 0, n := 74, cond := True, gl := G0 }) (fun m x => ref12_TopoSort_L4 n _append0 r7488 p7606 p7799 p7800 (ref12_TopoSort_L3 n _append0 r7488 p7606 (ref12_TopoSort_L1 n _append0 r7488 rec_n1) rec_n3) m x.1 x.2 = some r) n (true, 0) h ?_
  rintro rec_n4 ⟨true7828, p7829⟩ h
  dsimp only [ref12_TopoSort_L4] at h
  try dsimp only
  refine Wp.seq ?_
  refine rs0 ?_
  iterate 5 refine vp ?_
  refine vn ?_
  refine sD h F (fun F h => ?_) fun F h => ?_
  refine cF ?_
  refine Wp.exit ?_
  refine sh ?_
  refine rs0 ?_
  refine vp ?_
  refine vn ?_
  refine sB h F (fun F h => ?_) fun F h => ?_
  refine cF ?_
  refine Wp.skip ?_
  refine sh ?_
  refine rg0 ?_
  iterate 3 refine vp ?_
  refine vn ?_
  exact nx [some 0, some 1] ((IntKind.i64.wrap (p7799 + 1)), p7800) h
  refine cT ?_
  refine rg0 ?_
  iterate 2 refine vp ?_
  refine vn ?_
  refine sh ?_
  refine rg0 ?_
  iterate 3 refine vp ?_
  refine vn ?_
  exact nx [some 0, some 1] ((IntKind.i64.wrap (p7799 + 1)), p7799) h
  refine cT ?_
  refine Wp.skip ?_
  refine sh ?_
  refine Wp.seq ?_
  refine Wp.block ?_
  refine dw (fun _ => false) [0, 1] ?_
  refine du 3 ?_
  refine eI h F fun x7833 F h => ?_
  refine du 5 ?_
  refine eI h F fun x7834 F h => ?_
  refine du 4 ?_
  refine sE h F (fun _ F h => ?_) fun _ F h => ?_
  refine ds ?_
  refine ds ?_
  refine ds ?_
  refine ds ?_
  refine ds ?_
  refine ds ?_
  refine ds ?_
  refine ds ?_
  refine ds ?_
  refine du 1 ?_
  refine dn ?_
  refine cF ?_
  refine Wp.skip ?_
  refine sh ?_
  refine rg0 ?_
  iterate 3 refine vp ?_
  refine vn ?_
  exact nx [some 0, some 1] (true7828, (IntKind.i64.wrap (p7829 + 1))) h
  refine du 1 ?_
  refine du 1 ?_
  refine du 1 ?_
  refine du 1 ?_
  refine du 1 ?_
  refine du 1 ?_
  refine du 1 ?_
  obtain ⟨r7836, hr7835, h⟩ := obind h
  refine dc (con_ref12_has hr7835) ?_ (hg := by (simp [F]; done))
  refine du 1 ?_
  refine du 1 ?_
  refine dn ?_
  refine sB h F (fun F h => ?_) fun F h => ?_
  refine cF ?_
  refine Wp.skip ?_
  refine sh ?_
  refine rg0 ?_
  iterate 3 refine vp ?_
  refine vn ?_
  exact nx [some 0, some 1] (true7828, (IntKind.i64.wrap (p7829 + 1))) h
  refine cT ?_
  refine rg0 ?_
  refine vp ?_
  refine vn ?_
  refine sh ?_
  refine rg0 ?_
  iterate 3 refine vp ?_
  refine vn ?_
  exact nx [some 0, some 1] (false, (IntKind.i64.wrap (p7829 + 1))) h
  refine cT ?_
  refine Wp.exit ?_
  refine sh ?_
  refine rg0 ?_
  iterate 3 refine vp ?_
  refine vn ?_
  exact nx [some 0, some 1] ((IntKind.i64.wrap (p7799 + 1)), p7800) h

theorem con_reduce_sorted_1 {n : Nat} {a0 : TreeTree} {b1 : TreeTree} {r : Int} (h : reduce_sorted_1 n a0 b1 = some r) : Con Tryz.prog G0 70 [.agg [.int .i64 a0.Kind, .int .i64 a0.N, aL cTreeTree a0.Kids], .agg [.int .i64 b1.Kind, .int .i64 b1.N, aL cTreeTree b1.Kids]] (.int .i64 r) [] := by
  refine con_of (T := TT0) tt_ok Tryz.func70 (c := _) (by unfold Tryz.f70; rfl) Tryz.ntmps70 (rs := [.tmp 4]) (by rw [Tryz.results70]) (by unfold Tryz.f70; rfl) (by simp) ?_
  simp only [argsCh]
  have F := True.intro
  dsimp only [reduce_sorted_1] at h
  refine rs0 ?_
  iterate 3 refine vp ?_
  refine vn ?_
  refine dw (fun _ => false) [0, 1] ?_
  refine du 1 ?_
  obtain ⟨r4425, hr4424, h⟩ := obind h
  refine dc (con_tree_Leaves _ hr4424) ?_
  obtain ⟨r4433, hr4432, h⟩ := obind h
  refine dc (con_slices_Min_int hr4432) ?_
  refine du 1 ?_
  obtain ⟨r4435, hr4434, h⟩ := obind h
  refine dc (con_tree_Leaves _ hr4434) ?_
  obtain ⟨r4437, hr4436, h⟩ := obind h
  refine dc (con_slices_Min_int hr4436) ?_
  obtain ⟨r4443, hr4442, h⟩ := obind h
  refine dc (con_cmp_Compare_int hr4442) ?_
  refine du 1 ?_
  refine dn ?_
  cases h
  exact Wp.ret en0

theorem con_graph_Incoming {n : Nat} {r_0 : ApiRung} {node1 : Str} {r : (List Int)} (h : graph_Incoming n r_0 node1 = some r) : Con Tryz.prog G0 101 [.agg (cApiRung r_0), .str node1] (aL (cI .i64) r) [] := by
  refine con_of (T := TT0) tt_ok Tryz.func101 (c := _) (by unfold Tryz.f101; rfl) Tryz.ntmps101 (rs := [.tmp 4]) (by rw [Tryz.results101]) (by unfold Tryz.f101; rfl) (by simp) ?_
  simp only [argsCh]
  have F := True.intro
  dsimp only [graph_Incoming] at h
  refine rs0 ?_
  iterate 3 refine vp ?_
  refine vn ?_
  refine rs0 ?_
  iterate 2 refine vp ?_
  obtain ⟨r2403, hr2402, h⟩ := obind h
  refine vh [1] (con_graph_numbers_c134 hr2402) ?_
  refine vp ?_
  refine vn ?_
  cases h
  exact Wp.ret en0

end Go.Proofs.YtaebdeidbibfkaaGreatDoor
