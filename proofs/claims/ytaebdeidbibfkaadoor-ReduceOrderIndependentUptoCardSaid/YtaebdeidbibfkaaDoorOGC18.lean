/- Contracts: models of functions are right. No law is proved here. -/
import Derived.Test.YtaebdeidbibfkaaDoorOGMod
import Derived.Test.YtaebdeidbibfkaaDoorOTav
import Derived.Test.YtaebdeidbibfkaaDoorOSo
import Derived.Test.YtaebdeidbibfkaaDoorOSh
import Derived.Test.YtaebdeidbibfkaaDoorOGC2
import Derived.Test.YtaebdeidbibfkaaDoorOGC3
import Derived.Test.YtaebdeidbibfkaaDoorOGC4
import Derived.Test.YtaebdeidbibfkaaDoorOGC10
import Derived.Test.YtaebdeidbibfkaaDoorOGC16
import Derived.Test.YtaebdeidbibfkaaDoorOGC17
namespace Go.Proofs.YtaebdeidbibfkaaDoor
open Go.Av Go.G
attribute [-simp] Int.natCast_tdiv_eq_ediv
attribute [local simp] runf guardA opf St.ev Go.Av.look St.setd constAV constAV0 opBin opLen intBin St.need lookT TT0 tab resA resOne resAll blt_dec ble_dec beq_dec isPure
attribute [local simp] opMakeSlice opCopy opIndexAddr opLoad opStore St.mem St.rows opUn calleeA toArgs toArg toArg0 toArgs0 shift shift0 shift1 splice cellsOf isFree ofCells TS.isAgg isCell strBin opConvert
attribute [local simp] opSlice3 opClear fz_clear opBuildSlice fillA opAppend eqC eqA cksB ckB St.newBox runI valKind withinB readsHp refsD refs noSl opFieldAddr opBuild opMax opMin placeOf Op.operands Call.operands opIndex opExtract opSlice opField partA
attribute [local simp] loA hiA lenA opMakeMap opLookup opMapUpdate keyOk findA_int findA_str findA_bool putA_strB putA_strI putA_strS putA_intB putA_intI putA_intS putA_boolI putA_boolB byteRow_rwN bytesOf_rwN opBytesStr mAV_length mAV_nil cA1 cA2 cA3 cA4 opNilCheck opMakeFunc opRange
attribute [local simp] aL cI cB cS cL rw_map fz_rw fz_const dropRow_rw fz_append fz_set fz_copy fz_rows rowLen_rw rowsLen_nil rowsLen_cons rowsLen_append rowsLen_map rowsLen_dm rowsLen_tm rowsLen_take rowsLen_drop rowsLen_replicate take_map_len take_map_le drop_map_len take_drop_len chunks isScalar isScalar0
attribute [local simp] putBack putAt objMap mapC mapA mapT map0 bid rid memB passed closedB argsH argH argH0 argsH0 objIds ids0 idsC isLocT isLocA isLocC isLoc0 LocObj
attribute [local congr] bind_congr1 map_congr1 cond_congr1
attribute [local simp] cApiAddr cApiContact cApiCoil cApiRung cReducePair cReduceEdge cTreeTree_eq TreeTree_Kind_mk TreeTree_N_mk TreeTree_Kids_mk eta_TreeTree cRef14Tree_eq Ref14Tree_Kind_mk Ref14Tree_N_mk Ref14Tree_Kids_mk eta_Ref14Tree
set_option maxHeartbeats 4000000
set_option linter.unusedSectionVars false
set_option maxRecDepth 20000
set_option linter.unusedSimpArgs false
set_option linter.unusedVariables false

theorem con_law15_ReduceOrderIndependent {n : Nat} {_append0 : ApiRung} {a1 : List Int} {r : Bool} (h : law15_ReduceOrderIndependent n _append0 a1 = some r) : Con Tryd.prog G0 3 [.agg (cApiRung _append0), aL (cI .u16) a1] (.bool r) [] := by
  refine con_of (T := TT0) tt_ok Tryd.func3 (c := _) (by unfold Tryd.f3; rfl) Tryd.ntmps3 (rs := [.tmp 4]) (by rw [Tryd.results3]) (by unfold Tryd.f3; rfl) (by simp) ?_
  simp only [argsCh]
  have F := True.intro
  dsimp only [law15_ReduceOrderIndependent] at h
  refine rs0 ?_
  iterate 2 refine vp ?_
  refine vn ?_
  refine Wp.seq ?_
  refine rs0 ?_
  refine vp ?_
  obtain ⟨r13909, hr13908, h⟩ := obind h
  refine vc (con_law12_TooLarge hr13908) ?_
  iterate 2 refine vp ?_
  refine sD h F (fun F h => ?_) fun F h => ?_
  refine vg ?_
  refine vg ?_
  refine vg ?_
  refine vg ?_
  iterate 2 refine vp ?_
  refine sD h F (fun F h => ?_) fun F h => ?_
  refine vg ?_
  refine vg ?_
  refine vg ?_
  iterate 2 refine vp ?_
  refine sD h F (fun F h => ?_) fun F h => ?_
  refine vg ?_
  refine vg ?_
  refine vg ?_
  refine vg ?_
  refine vp ?_
  refine vn ?_
  refine sB h F (fun F h => ?_) fun F h => ?_
  refine cF ?_
  refine Wp.skip ?_
  refine sh ?_
  refine rs0 ?_
  refine vp ?_
  obtain ⟨⟨r13919, r13920⟩, hr13918, h⟩ := obind h
  dsimp only at h
  refine vc (con_reduce_Reduce hr13918) ?_
  iterate 6 refine vp ?_
  refine vn ?_
  refine rs (fun d => Nat.beq d 53) ?_
  iterate 3 refine vp ?_
  refine gd h F fun F h => ?_
  iterate 4 refine vp ?_
  refine vn ?_
  refine rs0 ?_
  iterate 3 refine vp ?_
  refine gd h F fun F h => ?_
  refine vp ?_
  refine nm (cI .i64) h F fun l13921 F h => ?_
  refine vp ?_
  refine vn ?_
  refine jn (fun l13930 : List Int => { ch := [(1, aL (cI .u16) a1), (2, .hptr 0 0 0), (5, .hptr 1 0 0), (6, .int .i64 r13920), (7, .hptr 2 0 0), (8, .sl 4 0 l13930.length)], hp := [.var [.str _append0.Label, aL cApiContact _append0.Contacts, aL cApiCoil _append0.Coils, .str _append0.Jump], .var [.int .i64 r13919.Kind, .int .i64 r13919.N, aL cTreeTree r13919.Kids], .var [.str (⟨#[]⟩ : Str), .sl 3 0 _append0.Contacts.length, .nilsl, .str (⟨#[]⟩ : Str)], .arr 5 _append0.Contacts.length (rw (_append0.Contacts.map cApiContact)), .arr 1 l13930.length (rw (l13930.map (cI .i64)))], base := 0, n := 183, cond := True, gl := G0 }) (fun x => law15_ReduceOrderIndependent_J1 n _append0 a1 r13919 r13920 x = some r) ?_ ?_
  clear h
  rintro l13930 h
  dsimp only [law15_ReduceOrderIndependent_J1] at h
  try dsimp only
  refine jn (fun x : (List ApiContact) × (List Int) => { ch := [(2, .hptr 0 0 0), (5, .hptr 1 0 0), (6, .int .i64 r13920), (7, .hptr 2 0 0), (8, .sl 4 0 x.2.length)], hp := [.var [.str _append0.Label, aL cApiContact _append0.Contacts, aL cApiCoil _append0.Coils, .str _append0.Jump], .var [.int .i64 r13919.Kind, .int .i64 r13919.N, aL cTreeTree r13919.Kids], .var [.str (⟨#[]⟩ : Str), .sl 3 0 x.1.length, .nilsl, .str (⟨#[]⟩ : Str)], .arr 5 x.1.length (rw (x.1.map cApiContact)), .arr 1 x.2.length (rw (x.2.map (cI .i64)))], base := 0, n := 183, cond := True, gl := G0 }) (fun x => law15_ReduceOrderIndependent_J2 n _append0 r13919 r13920 x.1 x.2 = some r) ?_ ?_
  clear h
  rintro ⟨p13967, l13968⟩ h
  dsimp only [law15_ReduceOrderIndependent_J2] at h
  try dsimp only
  refine rs0 ?_
  refine vp ?_
  refine vl [some 0, some 1, some 2, none, some 4] { ch := [(2, .hptr 0 0 0), (5, .hptr 1 0 0), (6, .int .i64 r13920), (7, .hptr 2 0 0), (8, .sl 4 0 l13968.length), (119, .agg [.str (⟨#[]⟩ : Str), aL cApiContact p13967, .nilsl, .str (⟨#[]⟩ : Str)])], hp := [.var [.str _append0.Label, aL cApiContact _append0.Contacts, aL cApiCoil _append0.Coils, .str _append0.Jump], .var [.int .i64 r13919.Kind, .int .i64 r13919.N, aL cTreeTree r13919.Kids], .var [.str (⟨#[]⟩ : Str), aL cApiContact p13967, .nilsl, .str (⟨#[]⟩ : Str)], .dead, .arr 1 l13968.length (rw (l13968.map (cI .i64)))], base := 0, n := 183, cond := True, gl := G0 } ?_
  obtain ⟨⟨r13970, r13971⟩, hr13969, h⟩ := obind h
  dsimp only at h
  refine vc (con_reduce_Reduce hr13969) ?_
  iterate 6 refine vp ?_
  refine vn ?_
  refine Wp.seq ?_
  refine rs0 ?_
  iterate 3 refine vp ?_
  refine vn ?_
  refine sB h F (fun F h => ?_) fun F h => ?_
  refine cF ?_
  refine Wp.skip ?_
  refine sh ?_
  refine Wp.seq ?_
  refine rs0 ?_
  iterate 2 refine vp ?_
  refine vn ?_
  refine sB h F (fun F h => ?_) fun F h => ?_
  refine cF ?_
  refine Wp.skip ?_
  refine sh ?_
  refine rs0 ?_
  refine vp ?_
  obtain ⟨r13999, hr13998, h⟩ := obind h
  refine vc (con_law14_Of _ hr13998) ?_
  refine vp ?_
  refine vl [some 0, some 1, some 2, some 3, none, some 5] { ch := [(2, .hptr 0 0 0), (5, .hptr 1 0 0), (6, .int .i64 r13920), (7, .hptr 2 0 0), (8, aL (cI .i64) l13968), (14, .hptr 5 0 0), (15, .int .i64 r13971), (118, .tup [.agg [.int .i64 r13970.Kind, .int .i64 r13970.N, aL cTreeTree r13970.Kids], .int .i64 r13971]), (119, .agg [.str (⟨#[]⟩ : Str), aL cApiContact p13967, .nilsl, .str (⟨#[]⟩ : Str)]), (120, .tup [.agg [.int .i64 r13970.Kind, .int .i64 r13970.N, aL cTreeTree r13970.Kids], .int .i64 r13971]), (121, .agg [.int .i64 r13970.Kind, .int .i64 r13970.N, aL cTreeTree r13970.Kids]), (122, .int .i64 r13971), (123, .int .i64 r13920), (124, .int .i64 r13971), (125, .bool (r13920 != r13971)), (126, .int .i64 r13920), (127, .bool (r13920 != 0)), (129, .agg [.int .i64 r13970.Kind, .int .i64 r13970.N, aL cTreeTree r13970.Kids]), (130, .agg [.int .i64 r13999.Kind, .int .i64 r13999.N, aL cRef14Tree r13999.Kids]), (131, aL (cI .i64) l13968)], hp := [.var [.str _append0.Label, aL cApiContact _append0.Contacts, aL cApiCoil _append0.Coils, .str _append0.Jump], .var [.int .i64 r13919.Kind, .int .i64 r13919.N, aL cTreeTree r13919.Kids], .var [.str (⟨#[]⟩ : Str), aL cApiContact p13967, .nilsl, .str (⟨#[]⟩ : Str)], .dead, .dead, .var [.int .i64 r13970.Kind, .int .i64 r13970.N, aL cTreeTree r13970.Kids]], base := 0, n := 183, cond := True, gl := G0 } ?_
  obtain ⟨r14028, hr14027, h⟩ := obind h
  refine vc (con_law15_named _ hr14027) ?_
  iterate 2 refine vp ?_
  refine vn ?_
  refine Wp.seq ?_
  refine dw (fun _ => false) [1, 6] ?_
  refine du 1 ?_
  obtain ⟨r14290, hr14289, h⟩ := obind h
  refine dc (con_ref15_Sorted _ hr14289) ?_
  refine du 1 ?_
  obtain ⟨r14292, hr14291, h⟩ := obind h
  refine dc (con_law14_Of _ hr14291) ?_
  obtain ⟨r14294, hr14293, h⟩ := obind h
  refine dc (con_ref14_Equal _ hr14293) ?_
  refine du 1 ?_
  refine dn ?_
  refine sB h F (fun F h => ?_) fun F h => ?_
  refine cF ?_
  refine Wp.skip ?_
  refine sh ?_
  refine rs (fun d => Nat.beq d 140) ?_
  refine vp ?_
  refine nl cS h F fun l14295 m F h => ?_
  try simp only [m]
  clear m
  obtain ⟨r14312, hr14311, h⟩ := obind h
  refine vc (con_law15_rung_o1 hr14311) ?_
  iterate 2 refine vp ?_
  refine vn ?_
  refine rs0 ?_
  iterate 4 refine vp ?_
  refine gd h F fun F h => ?_
  refine vp ?_
  refine nm cApiContact h F fun l14313 F h => ?_
  iterate 2 refine vp ?_
  refine vn ?_
  refine jn (fun _ : Unit => { ch := [(17, .hptr 0 0 0)], hp := [.var [.str r14312.Label, .sl 1 0 l14313.length, aL cApiCoil r14312.Coils, .str r14312.Jump], .arr 5 l14313.length (rw (l14313.map cApiContact))], base := 0, n := 183, cond := True, gl := G0 }) (fun x => law15_ReduceOrderIndependent_J3 n r14312 l14313 = some r) ?_ ?_
  clear h
  rintro _ h
  dsimp only [law15_ReduceOrderIndependent_J3] at h
  try dsimp only
  refine rs0 ?_
  refine vp ?_
  refine vl [some 0, none] { ch := [(17, .hptr 0 0 0), (174, .agg [.str r14312.Label, aL cApiContact l14313, aL cApiCoil r14312.Coils, .str r14312.Jump])], hp := [.var [.str r14312.Label, aL cApiContact l14313, aL cApiCoil r14312.Coils, .str r14312.Jump], .dead], base := 0, n := 183, cond := True, gl := G0 } ?_
  obtain ⟨⟨r14370, r14371⟩, hr14369, h⟩ := obind h
  dsimp only at h
  refine vc (con_reduce_Reduce hr14369) ?_
  iterate 6 refine vp ?_
  refine vn ?_
  refine rs0 ?_
  obtain ⟨r14373, hr14372, h⟩ := obind h
  refine vc (con_law15_alive hr14372) ?_
  refine vp ?_
  refine sB h F (fun F h => ?_) fun F h => ?_
  refine vs ?_
  refine vs ?_
  iterate 2 refine vp ?_
  refine vn ?_
  cases h
  exact Wp.ret en0
  refine vg ?_
  refine vg ?_
  iterate 2 refine vp ?_
  refine vn ?_
  cases h
  exact Wp.ret en0
  refine rs0 ?_
  iterate 4 refine vp ?_
  refine vn ?_
  refine Wp.block ?_
  refine lp [some 8, some 9] (fun p14392 : Int => { ch := [(17, .hptr 0 0 0), (148, aL cApiContact _append0.Contacts), (149, .int .i64 (_append0.Contacts.length : Int)), (150, .int .i64 p14392)], hp := [.var [.str r14312.Label, .sl 1 0 l14313.length, aL cApiCoil r14312.Coils, .str r14312.Jump], .arr 5 l14313.length (rw (l14313.map cApiContact))], base := 0, n := 183, cond := True, gl := G0 }) (fun m x => law15_ReduceOrderIndependent_L4 n _append0 r14312 l14313 m x = some r) n 0 h ?_
  rintro rec_n4 p14392 h
  dsimp only [law15_ReduceOrderIndependent_L4] at h
  try dsimp only
  refine rs0 ?_
  refine vp ?_
  refine vn ?_
  refine Wp.seq ?_
  refine sD h F (fun F h => ?_) fun F h => ?_
  refine cF ?_
  refine Wp.exit ?_
  exact nx [some 0, some 1] () h
  refine cT ?_
  refine Wp.skip ?_
  refine sh ?_
  refine Wp.seq ?_
  refine Wp.block ?_
  refine rs0 ?_
  refine eI h F fun x14411 F h => ?_
  iterate 4 refine vp ?_
  refine vn ?_
  refine rs0 ?_
  iterate 5 refine vp ?_
  refine nl cS h F fun l14412 m F h => ?_
  try simp only [m]
  clear m
  iterate 2 refine vp ?_
  refine vn ?_
  refine Wp.block ?_
  refine lp [some 0, some 1] (fun p14418 : Int => { ch := [(17, .hptr 0 0 0), (148, aL cApiContact _append0.Contacts), (149, .int .i64 (_append0.Contacts.length : Int)), (150, .int .i64 p14392), (158, aL cS l14412), (159, .int .i64 (l14412.length : Int)), (160, .int .i64 p14418)], hp := [.var [.str r14312.Label, .sl 1 0 l14313.length, aL cApiCoil r14312.Coils, .str r14312.Jump], .arr 5 l14313.length (rw (l14313.map cApiContact))], base := 0, n := 183, cond := True, gl := G0 }) (fun m x => law15_ReduceOrderIndependent_L5 n p14392 (law15_ReduceOrderIndependent_L4 n _append0 r14312 l14313 rec_n4) l14412 m x = some r) n 0 h ?_
  rintro rec_n5 p14418 h
  dsimp only [law15_ReduceOrderIndependent_L5] at h
  try dsimp only
  refine rs0 ?_
  refine vp ?_
  refine vn ?_
  refine Wp.seq ?_
  refine sD h F (fun F h => ?_) fun F h => ?_
  refine cF ?_
  refine Wp.exit ?_
  refine sh ?_
  refine rg0 ?_
  iterate 2 refine vp ?_
  refine vn ?_
  exact nx [some 0, some 1] (IntKind.i64.wrap (p14392 + 1)) h
  refine cT ?_
  refine Wp.skip ?_
  refine sh ?_
  refine Wp.seq ?_
  refine Wp.block ?_
  refine rs0 ?_
  refine eI h F fun x14424 F h => ?_
  iterate 3 refine vp ?_
  refine vn ?_
  refine rs0 ?_
  iterate 3 refine vp ?_
  refine sE h F (fun _ F h => ?_) fun _ F h => ?_
  refine vg ?_
  refine vg ?_
  refine vp ?_
  refine vn ?_
  refine sE h F (fun _ F h => ?_) fun _ F h => ?_
  refine cF ?_
  refine Wp.skip ?_
  refine sh ?_
  refine rg0 ?_
  iterate 2 refine vp ?_
  refine vn ?_
  exact nx [some 0, some 1] (IntKind.i64.wrap (p14418 + 1)) h
  refine cT ?_
  refine rs0 ?_
  obtain ⟨r14428, hr14427, h⟩ := obind h
  refine vc (con_law15_alive hr14427) ?_
  refine vp ?_
  refine vn ?_
  cases h
  exact Wp.ret en0
  refine vs ?_
  refine vs ?_
  refine vp ?_
  refine vn ?_
  refine cT ?_
  refine rs0 ?_
  obtain ⟨r14426, hr14425, h⟩ := obind h
  refine vc (con_law15_alive hr14425) ?_
  refine vp ?_
  refine vn ?_
  cases h
  exact Wp.ret en0
  refine cT ?_
  refine rs0 ?_
  refine vp ?_
  refine vn ?_
  cases h
  exact Wp.ret en0
  refine cT ?_
  refine rs0 ?_
  obtain ⟨r13975, hr13974, h⟩ := obind h
  refine vc (con_law15_alive hr13974) ?_
  refine vp ?_
  refine vn ?_
  cases h
  exact Wp.ret en0
  refine cT ?_
  refine rs0 ?_
  refine vp ?_
  refine vn ?_
  cases h
  exact Wp.ret en0
  refine rs0 ?_
  iterate 3 refine vp ?_
  refine vn ?_
  refine Wp.block ?_
  refine lp [some 0, some 1, some 2, some 3, some 4] (fun x : (List ApiContact) × Int × (List Int) => { ch := [(2, .hptr 0 0 0), (5, .hptr 1 0 0), (6, .int .i64 r13920), (7, .hptr 2 0 0), (8, .sl 4 0 x.2.2.length), (69, aL (cI .u16) a1), (70, .int .i64 (a1.length : Int)), (71, .int .i64 x.2.1)], hp := [.var [.str _append0.Label, aL cApiContact _append0.Contacts, aL cApiCoil _append0.Coils, .str _append0.Jump], .var [.int .i64 r13919.Kind, .int .i64 r13919.N, aL cTreeTree r13919.Kids], .var [.str (⟨#[]⟩ : Str), .sl 3 0 x.1.length, .nilsl, .str (⟨#[]⟩ : Str)], .arr 5 x.1.length (rw (x.1.map cApiContact)), .arr 1 x.2.2.length (rw (x.2.2.map (cI .i64)))], base := 0, n := 183, cond := True, gl := G0 }) (fun m x => law15_ReduceOrderIndependent_L6 n _append0 a1 r13919 r13920 m x.1 x.2.1 x.2.2 = some r) n (_append0.Contacts, 0, l13930) h ?_
  rintro rec_n6 ⟨p14440, p14441, l14442⟩ h
  dsimp only [law15_ReduceOrderIndependent_L6] at h
  try dsimp only
  refine rs0 ?_
  refine vp ?_
  refine vn ?_
  refine Wp.seq ?_
  refine sD h F (fun F h => ?_) fun F h => ?_
  refine cF ?_
  refine Wp.exit ?_
  exact nx [some 0, some 1, some 2, some 3, some 4] (p14440, l14442) h
  refine cT ?_
  refine Wp.skip ?_
  refine sh ?_
  refine Wp.seq ?_
  refine Wp.block ?_
  refine rs0 ?_
  refine vp ?_
  refine eI h F fun x14454 F h => ?_
  iterate 4 refine vp ?_
  refine vn ?_
  refine dw (fun _ => false) [4] ?_
  refine du 3 ?_
  refine gd h F fun F h => ?_
  refine du 5 ?_
  refine gd h F fun F h => ?_
  refine du 3 ?_
  refine dn ?_
  refine dwp (fun d => Nat.beq d 3000) (fun i => if i = 1 then [2] else if i = 4 then [2] else if i = 7 then [2] else if i = 9 then [3] else if i = 10 then [3] else if i = 12 then [2] else if i = 14 then [3] else if i = 15 then [3] else if i = 16 then [3] else if i = 18 then [3] else []) ?_
  refine du 9 ?_
  refine eI h F fun x14455 F h => ?_
  refine du 5 ?_
  refine eI h F fun x14456 F h => ?_
  refine du 3 ?_
  refine dt2 [3, 4, 5, 17] ?_
  refine nm cApiContact h F fun l14457 F h => ?_
  refine eI h F fun x14458 F h => ?_
  refine du 1 ?_
  refine dt2 [19] ?_
  refine nm cApiContact h F fun l14459 F h => ?_
  refine dn ?_
  refine dwp1 (fun d => Nat.beq d 3000) (fun i => if i = 6 then [4] else if i = 7 then [4] else if i = 10 then [4] else if i = 11 then [4] else if i = 12 then [4] else if i = 14 then [4] else []) ?_
  refine du 6 ?_
  refine eI h F fun x14460 F h => ?_
  refine du 4 ?_
  refine eI h F fun x14461 F h => ?_
  refine du 3 ?_
  refine dt2 [2, 3, 13] ?_
  refine nm (cI .i64) h F fun l14462 F h => ?_
  refine eI h F fun x14463 F h => ?_
  refine du 1 ?_
  refine dt2 [15] ?_
  refine nm (cI .i64) h F fun l14464 F h => ?_
  refine dn ?_
  refine sh ?_
  refine rg0 ?_
  iterate 2 refine vp ?_
  refine vn ?_
  exact nx [some 0, some 1, some 2, some 3, some 4] (l14459, (IntKind.i64.wrap (p14441 + 1)), l14464) h
  refine rs0 ?_
  iterate 3 refine vp ?_
  refine vn ?_
  refine Wp.block ?_
  refine lp [some 0, some 1, some 3, some 2, some 4] (fun x : Int × (List Int) => { ch := [(1, aL (cI .u16) a1), (2, .hptr 0 0 0), (5, .hptr 1 0 0), (6, .int .i64 r13920), (7, .hptr 2 0 0), (8, .sl 4 0 x.2.length), (60, .int .i64 (_append0.Contacts.length : Int)), (61, .int .i64 x.1)], hp := [.var [.str _append0.Label, aL cApiContact _append0.Contacts, aL cApiCoil _append0.Coils, .str _append0.Jump], .var [.int .i64 r13919.Kind, .int .i64 r13919.N, aL cTreeTree r13919.Kids], .var [.str (⟨#[]⟩ : Str), .sl 3 0 _append0.Contacts.length, .nilsl, .str (⟨#[]⟩ : Str)], .arr 5 _append0.Contacts.length (rw (_append0.Contacts.map cApiContact)), .arr 1 x.2.length (rw (x.2.map (cI .i64)))], base := 0, n := 183, cond := True, gl := G0 }) (fun m x => law15_ReduceOrderIndependent_L7 n _append0 a1 r13919 r13920 m x.1 x.2 = some r) n (0, l13921) h ?_
  rintro rec_n7 ⟨p14467, l14468⟩ h
  dsimp only [law15_ReduceOrderIndependent_L7] at h
  try dsimp only
  refine rs0 ?_
  refine vp ?_
  refine vn ?_
  refine Wp.seq ?_
  refine sD h F (fun F h => ?_) fun F h => ?_
  refine cF ?_
  refine Wp.exit ?_
  exact nx [some 0, some 1, some 2, some 3, some 4] l14468 h
  refine cT ?_
  refine Wp.skip ?_
  refine sh ?_
  refine Wp.seq ?_
  refine Wp.block ?_
  refine rs0 ?_
  iterate 2 refine vp ?_
  refine vn ?_
  refine rg0 ?_
  iterate 3 refine vp ?_
  refine eI h F fun x14471 F h => ?_
  iterate 2 refine vp ?_
  refine nm (cI .i64) h F fun l14472 F h => ?_
  refine vn ?_
  refine sh ?_
  refine rg0 ?_
  iterate 2 refine vp ?_
  refine vn ?_
  exact nx [some 0, some 1, some 2, some 3, some 4] ((IntKind.i64.wrap (p14467 + 1)), l14472) h
  refine cT ?_
  refine rs0 ?_
  obtain ⟨r13917, hr13916, h⟩ := obind h
  refine vc (con_law15_alive hr13916) ?_
  refine vp ?_
  refine vn ?_
  cases h
  exact Wp.ret en0
  refine vs ?_
  refine vs ?_
  refine vs ?_
  refine vs ?_
  refine vp ?_
  refine vn ?_
  refine cT ?_
  refine rs0 ?_
  obtain ⟨r13915, hr13914, h⟩ := obind h
  refine vc (con_law15_alive hr13914) ?_
  refine vp ?_
  refine vn ?_
  cases h
  exact Wp.ret en0
  refine vs ?_
  refine vs ?_
  refine vs ?_
  iterate 2 refine vp ?_
  refine vs ?_
  refine vs ?_
  refine vs ?_
  refine vs ?_
  refine vp ?_
  refine vn ?_
  refine cT ?_
  refine rs0 ?_
  obtain ⟨r13913, hr13912, h⟩ := obind h
  refine vc (con_law15_alive hr13912) ?_
  refine vp ?_
  refine vn ?_
  cases h
  exact Wp.ret en0
  refine vs ?_
  refine vs ?_
  refine vs ?_
  refine vs ?_
  iterate 2 refine vp ?_
  refine vs ?_
  refine vs ?_
  refine vs ?_
  iterate 2 refine vp ?_
  refine vs ?_
  refine vs ?_
  refine vs ?_
  refine vs ?_
  refine vp ?_
  refine vn ?_
  refine cT ?_
  refine rs0 ?_
  obtain ⟨r13911, hr13910, h⟩ := obind h
  refine vc (con_law15_alive hr13910) ?_
  refine vp ?_
  refine vn ?_
  cases h
  exact Wp.ret en0

end Go.Proofs.YtaebdeidbibfkaaDoor
