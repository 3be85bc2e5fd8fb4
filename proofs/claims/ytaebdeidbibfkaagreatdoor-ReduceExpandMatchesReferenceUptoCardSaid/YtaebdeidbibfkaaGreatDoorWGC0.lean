/- Contracts: models of functions are right. No law is proved here. -/
import Derived.Test.YtaebdeidbibfkaaGreatDoorWGMod
import Derived.Test.YtaebdeidbibfkaaGreatDoorWTaw
import Derived.Test.YtaebdeidbibfkaaGreatDoorWSoz
import Derived.Test.YtaebdeidbibfkaaGreatDoorWShw
namespace Go.Proofs.YtaebdeidbibfkaaGreatDoor
open Go.Av Go.G
attribute [-simp] Int.natCast_tdiv_eq_ediv
attribute [local simp] runf guardA opf St.ev Go.Av.look St.setd constAV constAV0 opBin opLen intBin St.need lookT TT0 tab resA resOne resAll blt_dec ble_dec beq_dec isPure
attribute [local simp] opMakeSlice opCopy opIndexAddr opLoad opStore St.mem St.rows opUn calleeA toArgs toArg toArg0 toArgs0 shift shift0 shift1 splice cellsOf isFree ofCells TS.isAgg isCell strBin opConvert
attribute [local simp] opSlice3 opClear fz_clear opBuildSlice fillA opAppend eqC eqA cksB ckB St.newBox runI valKind withinB readsHp refsD refs noSl opFieldAddr opBuild opMax opMin placeOf Op.operands Call.operands opIndex opExtract opSlice opField partA
attribute [local simp] loA hiA lenA opMakeMap opLookup opMapUpdate keyOk findA_int findA_str findA_bool putA_strB putA_strI putA_strS putA_intB putA_intI putA_intS putA_boolI putA_boolB byteRow_rwN bytesOf_rwN opBytesStr mAV_length mAV_nil cA1 cA2 cA3 cA4 opNilCheck opMakeFunc opRange
attribute [local simp] aL cI cB cS cL rw_map fz_rw fz_const dropRow_rw fz_append fz_set fz_copy fz_rows rowLen_rw rowsLen_nil rowsLen_cons rowsLen_append rowsLen_map rowsLen_dm rowsLen_tm rowsLen_take rowsLen_drop rowsLen_replicate take_map_len take_map_le drop_map_len take_drop_len chunks isScalar isScalar0
attribute [local simp] putBack putAt objMap mapC mapA mapT map0 bid rid memB passed closedB argsH argH argH0 argsH0 objIds ids0 idsC isLocT isLocA isLocC isLoc0 LocObj
attribute [local congr] bind_congr1 map_congr1 cond_congr1
attribute [local simp] cApiAddr cApiContact cApiCoil cApiRung cReducePair cReduceEdge cTreeTree_eq TreeTree_Kind_mk TreeTree_N_mk TreeTree_Kids_mk eta_TreeTree cRef14Tree_eq Ref14Tree_Kind_mk Ref14Tree_N_mk Ref14Tree_Kids_mk eta_Ref14Tree
attribute [-simp] Int.natCast_add Int.ofNat_toNat
variable [Drawn]
set_option maxHeartbeats 4000000
set_option linter.unusedSectionVars false
set_option maxRecDepth 20000
set_option linter.unusedSimpArgs false
set_option linter.unusedVariables false

theorem con_slices_Delete_reduce_edge_v1 {n : Nat} {i_1 : Int} {j2 : Int} {l0 : List ReduceEdge} {r : (List ReduceEdge)} (h : slices_Delete_reduce_edge_v1 n i_1 j2 l0 = some r) : ConH Tryz.prog G0 68 [.sl 0 0 l0.length, .int .i64 i_1, .int .i64 j2] [.arr 5 l0.length (rw (l0.map cReduceEdge))] (.sl 0 0 r.length) [.arr 5 r.length (rw (r.map cReduceEdge))] := by
  refine conH_of (T := TT0) tt_ok Tryz.func68 (c := _) (by unfold Tryz.f68; rfl) Tryz.ntmps68 (rs := [.tmp 6]) (by rw [Tryz.results68]) (by unfold Tryz.f68; rfl) (by simp) (k := 1) rfl rfl ?_
  try simp only [argsCh]
  have F := True.intro
  dsimp only [slices_Delete_reduce_edge_v1] at h
  refine rs0 ?_
  refine vp ?_
  refine vn ?_
  refine rs0 ?_
  iterate 5 refine vp ?_
  refine gd h F fun F h => ?_
  refine vp ?_
  refine vn ?_
  refine Wp.seq ?_
  refine rs0 ?_
  iterate 3 refine vp ?_
  refine vn ?_
  refine sB h F (fun F h => ?_) fun F h => ?_
  refine cF ?_
  refine Wp.skip ?_
  refine sh ?_
  refine rs0 ?_
  iterate 3 refine vp ?_
  refine vn ?_
  refine dw (fun d => Nat.beq d 26 || Nat.beq d 1026 || Nat.beq d 4026) [0] ?_
  refine du 2 ?_
  refine gd h F fun F h => ?_
  refine du 3 ?_
  refine gd h F fun F h => ?_
  refine du 1 ?_
  refine gd h F fun F h => ?_
  refine db ?_
  refine nmL cReduceEdge l0.length h F fun l4084 F h => ?_
  refine du 1 ?_
  refine dn ?_
  refine rs0 ?_
  iterate 4 refine vp ?_
  refine gd h F fun F h => ?_
  refine vp ?_
  refine gd h F fun F h => ?_
  refine vp ?_
  refine vn ?_
  refine rl [some 0] { ch := [(0, .sl 0 0 (i_1.toNat + (l0.length - j2.toNat))), (1, .int .i64 i_1), (2, .int .i64 j2), (6, .nilsl), (7, .int .i64 (l0.length : Int)), (8, .sl 0 0 l0.length), (9, .int .i64 i_1), (10, .int .i64 j2), (11, .sl 0 0 l0.length), (12, .int .i64 (l0.length : Int)), (14, .int .i64 i_1), (15, .int .i64 j2), (16, .bool (i_1 == j2)), (18, .sl 0 0 l0.length), (19, .int .i64 (l0.length : Int)), (20, .sl 0 0 l0.length), (21, .int .i64 i_1), (22, .sl 0 0 i_1.toNat), (23, .sl 0 0 l0.length), (24, .int .i64 j2), (25, .sl 0 j2.toNat (l0.length - j2.toNat)), (26, .sl 0 0 (i_1.toNat + (l0.length - j2.toNat))), (27, .sl 0 0 (i_1.toNat + (l0.length - j2.toNat))), (28, .sl 0 0 (i_1.toNat + (l0.length - j2.toNat))), (29, .int .i64 (((i_1.toNat + (l0.length - j2.toNat)) : Nat) : Int)), (30, .int .i64 (l0.length : Int)), (31, .sl 0 (i_1.toNat + (l0.length - j2.toNat)) (l0.length - (i_1.toNat + (l0.length - j2.toNat))))], hp := [.arr 5 (l4084.take (i_1.toNat + (l0.length - j2.toNat))).length (rw ((l4084.take (i_1.toNat + (l0.length - j2.toNat))).map cReduceEdge))], base := 1, n := 33, cond := True, gl := G0 } ?_
  refine rs0 ?_
  iterate 2 refine vp ?_
  refine vn ?_
  cases h
  exact Wp.ret (enH [some 0])
  refine cT ?_
  refine rs0 ?_
  iterate 2 refine vp ?_
  refine vn ?_
  cases h
  exact Wp.ret (enH [some 0])

theorem con_slices_Delete_string_v1 {n : Nat} {i_1 : Int} {j2 : Int} {l0 : List Str} {r : (List Str)} (h : slices_Delete_string_v1 n i_1 j2 l0 = some r) : ConH Tryz.prog G0 103 [.sl 0 0 l0.length, .int .i64 i_1, .int .i64 j2] [.arr 1 l0.length (rw (l0.map cS))] (.sl 0 0 r.length) [.arr 1 r.length (rw (r.map cS))] := by
  refine conH_of (T := TT0) tt_ok Tryz.func103 (c := _) (by unfold Tryz.f103; rfl) Tryz.ntmps103 (rs := [.tmp 6]) (by rw [Tryz.results103]) (by unfold Tryz.f103; rfl) (by simp) (k := 1) rfl rfl ?_
  try simp only [argsCh]
  have F := True.intro
  dsimp only [slices_Delete_string_v1] at h
  refine rs0 ?_
  refine vp ?_
  refine vn ?_
  refine rs0 ?_
  iterate 5 refine vp ?_
  refine gd h F fun F h => ?_
  refine vp ?_
  refine vn ?_
  refine Wp.seq ?_
  refine rs0 ?_
  iterate 3 refine vp ?_
  refine vn ?_
  refine sB h F (fun F h => ?_) fun F h => ?_
  refine cF ?_
  refine Wp.skip ?_
  refine sh ?_
  refine rs0 ?_
  iterate 3 refine vp ?_
  refine vn ?_
  refine dw (fun d => Nat.beq d 26 || Nat.beq d 1026 || Nat.beq d 4026) [0] ?_
  refine du 2 ?_
  refine gd h F fun F h => ?_
  refine du 3 ?_
  refine gd h F fun F h => ?_
  refine du 1 ?_
  refine gd h F fun F h => ?_
  refine db ?_
  refine nmL cS l0.length h F fun l2465 F h => ?_
  refine du 1 ?_
  refine dn ?_
  refine rs0 ?_
  iterate 4 refine vp ?_
  refine gd h F fun F h => ?_
  refine vp ?_
  refine gd h F fun F h => ?_
  refine vp ?_
  refine vn ?_
  refine rl [some 0] { ch := [(0, .sl 0 0 (i_1.toNat + (l0.length - j2.toNat))), (1, .int .i64 i_1), (2, .int .i64 j2), (6, .nilsl), (7, .int .i64 (l0.length : Int)), (8, .sl 0 0 l0.length), (9, .int .i64 i_1), (10, .int .i64 j2), (11, .sl 0 0 l0.length), (12, .int .i64 (l0.length : Int)), (14, .int .i64 i_1), (15, .int .i64 j2), (16, .bool (i_1 == j2)), (18, .sl 0 0 l0.length), (19, .int .i64 (l0.length : Int)), (20, .sl 0 0 l0.length), (21, .int .i64 i_1), (22, .sl 0 0 i_1.toNat), (23, .sl 0 0 l0.length), (24, .int .i64 j2), (25, .sl 0 j2.toNat (l0.length - j2.toNat)), (26, .sl 0 0 (i_1.toNat + (l0.length - j2.toNat))), (27, .sl 0 0 (i_1.toNat + (l0.length - j2.toNat))), (28, .sl 0 0 (i_1.toNat + (l0.length - j2.toNat))), (29, .int .i64 (((i_1.toNat + (l0.length - j2.toNat)) : Nat) : Int)), (30, .int .i64 (l0.length : Int)), (31, .sl 0 (i_1.toNat + (l0.length - j2.toNat)) (l0.length - (i_1.toNat + (l0.length - j2.toNat))))], hp := [.arr 1 (l2465.take (i_1.toNat + (l0.length - j2.toNat))).length (rw ((l2465.take (i_1.toNat + (l0.length - j2.toNat))).map cS))], base := 1, n := 33, cond := True, gl := G0 } ?_
  refine rs0 ?_
  iterate 2 refine vp ?_
  refine vn ?_
  cases h
  exact Wp.ret (enH [some 0])
  refine cT ?_
  refine rs0 ?_
  iterate 2 refine vp ?_
  refine vn ?_
  cases h
  exact Wp.ret (enH [some 0])

end Go.Proofs.YtaebdeidbibfkaaGreatDoor
