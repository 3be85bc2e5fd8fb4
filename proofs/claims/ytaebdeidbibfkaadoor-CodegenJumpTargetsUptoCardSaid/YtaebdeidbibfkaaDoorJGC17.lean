/- Contracts: models of functions are right. No law is proved here. -/
import Derived.Test.YtaebdeidbibfkaaDoorJGMod
import Derived.Test.YtaebdeidbibfkaaDoorJTaj
import Derived.Test.YtaebdeidbibfkaaDoorJSo
import Derived.Test.YtaebdeidbibfkaaDoorJGC1
import Derived.Test.YtaebdeidbibfkaaDoorJGC12
import Derived.Test.YtaebdeidbibfkaaDoorJGC16
namespace Go.Proofs.YtaebdeidbibfkaaDoor
open Go.Av Go.G
attribute [-simp] Int.natCast_tdiv_eq_ediv
attribute [local simp] runf guardA opf St.ev Go.Av.look St.setd constAV constAV0 opBin opLen intBin St.need lookT TT0 tab resA resOne resAll blt_dec ble_dec beq_dec isPure
attribute [local simp] opMakeSlice opCopy opIndexAddr opLoad opStore St.mem St.rows opUn calleeA toArgs toArg toArg0 toArgs0 shift shift0 shift1 splice cellsOf isFree ofCells TS.isAgg isCell strBin opConvert
attribute [local simp] opSlice3 opClear fz_clear opBuildSlice fillA opAppend eqC eqA cksB ckB St.newBox runI valKind withinB readsHp refsD refs noSl opFieldAddr opBuild opMax opMin placeOf Op.operands Call.operands opIndex opExtract opSlice opField partA
attribute [local simp] loA hiA lenA opMakeMap opLookup opMapUpdate keyOk findA_int findA_str findA_bool putA_strB putA_strI putA_strS putA_intB putA_intI putA_intS putA_boolI putA_boolB byteRow_rwN bytesOf_rwN opBytesStr mAV_length mAV_nil cA1 cA2 cA3 cA4 opNilCheck opMakeFunc opRange
attribute [local simp] aL cI cB cS cL rw_map fz_rw fz_const dropRow_rw fz_append fz_set fz_copy fz_rows rowLen_rw rowsLen_nil rowsLen_cons rowsLen_append rowsLen_map rowsLen_dm rowsLen_tm rowsLen_take rowsLen_drop rowsLen_replicate take_map_len take_map_le drop_map_len take_drop_len chunks isScalar isScalar0
attribute [local simp] putBack putAt objMap mapC mapA mapT map0 bid rid memB passed closedB argsH argH argH0 argsH0 objIds ids0 idsC isLocT isLocA isLocC isLoc0 LocObj
attribute [local congr] bind_congr1 map_congr1 cond_congr1
attribute [local simp] cApiAddr cApiContact cApiCoil cApiRung cApiIns cApiLadder cApiSize cApiProgram cReducePair cReduceEdge cTreeTree_eq TreeTree_Kind_mk TreeTree_N_mk TreeTree_Kids_mk eta_TreeTree
variable [Drawn]
set_option maxHeartbeats 4000000
set_option linter.unusedSectionVars false
set_option maxRecDepth 20000
set_option linter.unusedSimpArgs false
set_option linter.unusedVariables false
theorem con_codegen_contacts {n : Nat} {r_0 : ApiRung} {slot1 : Int} {r : (List ApiIns) × Int} (h : codegen_contacts n r_0 slot1 = some r) : Con Tryd.prog G0 61 [.agg (cApiRung r_0), .int .i64 slot1] (.tup [aL cApiIns r.1, .int .i64 r.2]) [] := by
  refine con_of (T := TT0) tt_ok Tryd.func61 (c := _) (by unfold Tryd.f61; rfl) Tryd.ntmps61 (rs := [.tmp 4, .tmp 5]) (by rw [Tryd.results61]) (by unfold Tryd.f61; rfl) (by simp) ?_
  simp only [argsCh]
  have F := True.intro
  dsimp only [codegen_contacts] at h
  refine rs0 ?_
  iterate 3 refine vp ?_
  refine vn ?_
  refine rs0 ?_
  refine vp ?_
  obtain ⟨⟨r15207, r15208⟩, hr15206, h⟩ := obind h
  dsimp only at h
  refine vc (con_reduce_Reduce hr15206) ?_
  iterate 6 refine vp ?_
  refine vn ?_
  refine Wp.seq ?_
  refine rs0 ?_
  iterate 2 refine vp ?_
  refine vn ?_
  refine sB h F (fun F h => ?_) fun F h => ?_
  refine cF ?_
  refine Wp.skip ?_
  refine sh ?_
  refine rs0 ?_
  iterate 3 refine vp ?_
  refine gd h F fun F h => ?_
  refine vp ?_
  refine nm cB h F fun l15209 F h => ?_
  refine vp ?_
  refine vn ?_
  refine jn (fun l15227 : List Bool => { ch := [(1, .int .i64 slot1), (2, .hptr 0 0 0), (6, .hptr 1 0 0), (8, .sl 2 0 l15227.length)], hp := [.var [.str r_0.Label, aL cApiContact r_0.Contacts, aL cApiCoil r_0.Coils, .str r_0.Jump], .var [.int .i64 r15207.Kind, .int .i64 r15207.N, aL cTreeTree r15207.Kids], .arr 1 l15227.length (rw (l15227.map cB))], base := 0, n := 57, cond := True, gl := G0 }) (fun x => codegen_contacts_J1 n r_0 slot1 r15207 x = some r) ?_ ?_
  clear h
  rintro l15227 h
  dsimp only [codegen_contacts_J1] at h
  try dsimp only
  refine rs0 ?_
  iterate 2 refine vp ?_
  obtain ⟨⟨r15342, r15343⟩, hr15341, h⟩ := obind h
  dsimp only at h
  refine vc (con_tree_StackDepth hr15341) ?_
  iterate 5 refine vp ?_
  refine vn ?_
  refine Wp.seq ?_
  refine Wp.block ?_
  refine rs0 ?_
  iterate 3 refine vp ?_
  refine vn ?_
  refine sB h F (fun F h => ?_) fun F h => ?_
  refine cF ?_
  refine rs0 ?_
  iterate 3 refine vp ?_
  refine vn ?_
  refine sD h F (fun F h => ?_) fun F h => ?_
  refine cF ?_
  refine Wp.skip ?_
  refine sh ?_
  refine rs0 ?_
  iterate 3 refine vp ?_
  obtain ⟨⟨r15893, r15894⟩, hr15892, h⟩ := obind h
  dsimp only at h
  refine vc (con_codegen_Tree hr15892) ?_
  iterate 4 refine vp ?_
  refine vn ?_
  cases h
  exact Wp.ret en0
  refine cT ?_
  refine rs0 ?_
  iterate 2 refine vp ?_
  refine vn ?_
  cases h
  exact Wp.ret en0
  refine cT ?_
  refine rs0 ?_
  iterate 3 refine vp ?_
  refine vn ?_
  cases h
  exact Wp.ret en0
  refine rs0 ?_
  iterate 4 refine vp ?_
  refine vn ?_
  refine Wp.block ?_
  refine lp [some 0, some 1, some 2] (fun x : Int × (List Bool) => { ch := [(1, .int .i64 slot1), (2, .hptr 0 0 0), (6, .hptr 1 0 0), (8, .sl 2 0 x.2.length), (25, aL cApiContact r_0.Contacts), (26, .int .i64 (r_0.Contacts.length : Int)), (27, .int .i64 x.1)], hp := [.var [.str r_0.Label, aL cApiContact r_0.Contacts, aL cApiCoil r_0.Coils, .str r_0.Jump], .var [.int .i64 r15207.Kind, .int .i64 r15207.N, aL cTreeTree r15207.Kids], .arr 1 x.2.length (rw (x.2.map cB))], base := 0, n := 57, cond := True, gl := G0 }) (fun m x => codegen_contacts_L2 n r_0 slot1 r15207 m x.1 x.2 = some r) n (0, l15209) h ?_
  rintro rec_n2 ⟨p15900, l15901⟩ h
  dsimp only [codegen_contacts_L2] at h
  try dsimp only
  refine rs0 ?_
  refine vp ?_
  refine vn ?_
  refine Wp.seq ?_
  refine sD h F (fun F h => ?_) fun F h => ?_
  refine cF ?_
  refine Wp.exit ?_
  exact nx [some 0, some 1, some 2] l15901 h
  refine cT ?_
  refine Wp.skip ?_
  refine sh ?_
  refine Wp.seq ?_
  refine Wp.block ?_
  refine rs0 ?_
  refine vp ?_
  refine eI h F fun x15907 F h => ?_
  iterate 5 refine vp ?_
  refine vn ?_
  refine rg0 ?_
  iterate 3 refine vp ?_
  obtain ⟨r15909, hr15908, h⟩ := obind h
  refine vc (con_codegen_sees hr15908) ?_
  refine eI h F fun x15910 F h => ?_
  iterate 2 refine vp ?_
  refine nm cB h F fun l15911 F h => ?_
  refine vn ?_
  refine sh ?_
  refine rg0 ?_
  iterate 2 refine vp ?_
  refine vn ?_
  exact nx [some 0, some 1, some 2] ((IntKind.i64.wrap (p15900 + 1)), l15911) h
  refine cT ?_
  refine rs0 ?_
  iterate 3 refine vp ?_
  refine vn ?_
  cases h
  exact Wp.ret en0
end Go.Proofs.YtaebdeidbibfkaaDoor
