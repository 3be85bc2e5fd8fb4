/- Contracts: models of functions are right. No law is proved here. -/
import Derived.Test.YtaebdeidbibfkaaGreatDoorWGMod
import Derived.Test.YtaebdeidbibfkaaGreatDoorWTaw
import Derived.Test.YtaebdeidbibfkaaGreatDoorWSoz
import Derived.Test.YtaebdeidbibfkaaGreatDoorWShw
import Derived.Test.YtaebdeidbibfkaaGreatDoorWGC1
import Derived.Test.YtaebdeidbibfkaaGreatDoorWGC4
namespace Go.Proofs.YtaebdeidbibfkaaGreatDoor
open Go.Av Go.G
attribute [-simp] Int.natCast_tdiv_eq_ediv
attribute [local simp] runf guardA opf St.ev Go.Av.look St.setd constAV constAV0 opBin opLen intBin St.need lookT TT0 tab resA resOne resAll blt_dec ble_dec beq_dec isPure
attribute [local simp] opMakeSlice opCopy opIndexAddr opLoad opStore St.mem St.rows opUn calleeA toArgs toArg toArg0 toArgs0 shift shift0 shift1 splice cellsOf isFree ofCells TS.isAgg isCell strBin opConvert
attribute [local simp] opSlice3 opClear fz_clear opBuildSlice fillA opAppend eqC eqA cksB ckB St.newBox runI valKind withinB readsHp refsD refs noSl opFieldAddr opBuild opMax opMin placeOf Op.operands Call.operands opIndex opExtract opSlice opField partA
attribute [local simp] loA hiA lenA opMakeMap opLookup opMapUpdate keyOk findA_int findA_str findA_bool putA_strB putA_strI putA_strS putA_intB putA_intI putA_intS putA_boolI putA_boolB byteRow_rwN bytesOf_rwN opBytesStr mAV_length mAV_nil cA1 cA2 cA3 cA4 opNilCheck opMakeFunc opRange
attribute [local simp] aL cI cB cS cL rw_map fz_rw fz_const dropRow_rw fz_append fz_set fz_copy fz_rows rowLen_rw rowsLen_nil rowsLen_cons rowsLen_append rowsLen_map rowsLen_dm rowsLen_tm rowsLen_take rowsLen_drop rowsLen_replicate take_map_len take_map_le drop_map_len take_drop_len chunks isScalar isScalar0
attribute [local simp] putBack putAt objMap mapC mapA mapT map0 bid rid memB passed closedB argsH argH argH0 argsH0 objIds ids0 idsC isLocT isLocA isLocC isLoc0 LocObj
attribute [local congr] bind_congr1 map_congr1 cond_congr1
attribute [local simp] cApiAddr cApiContact cApiCoil cApiRung cReducePair cReduceEdge cTreeTree_eq TreeTree_Kind_mk TreeTree_N_mk TreeTree_Kids_mk eta_TreeTree cRef14Tree_eq Ref14Tree_Kind_mk Ref14Tree_N_mk Ref14Tree_Kids_mk eta_Ref14Tree
set_option maxHeartbeats 4000000
set_option linter.unusedSectionVars false
set_option maxRecDepth 20000
set_option linter.unusedSimpArgs false
set_option linter.unusedVariables false

theorem con_tree_Format (n : Nat) : ∀ {t0 : TreeTree} {r : Str}, tree_Format n t0 = some r → Con Tryz.prog G0 37 [.agg [.int .i64 t0.Kind, .int .i64 t0.N, aL cTreeTree t0.Kids]] (.str r) [] := by
  induction n with
  | zero => intro t0 r h; simp [tree_Format] at h
  | succ n Hslf_tree_Format =>
   intro t0 r h
   refine con_of (T := TT0) tt_ok Tryz.func37 (c := _) (by unfold Tryz.f37; rfl) Tryz.ntmps37 (rs := [.tmp 2]) (by rw [Tryz.results37]) (by unfold Tryz.f37; rfl) (by simp) ?_
   simp only [argsCh]
   have F := True.intro
   dsimp only [tree_Format] at h
   refine rs0 ?_
   iterate 2 refine vp ?_
   refine vn ?_
   refine Wp.seq ?_
   refine rs0 ?_
   iterate 3 refine vp ?_
   refine vn ?_
   refine sB h F (fun F h => ?_) fun F h => ?_
   refine cF ?_
   refine Wp.skip ?_
   refine sh ?_
   refine jn (fun _ : Unit => { ch := [(1, .hptr 0 0 0)], hp := [.var [.int .i64 t0.Kind, .int .i64 t0.N, aL cTreeTree t0.Kids]], base := 0, n := 48, cond := True, gl := G0 }) (fun x => tree_Format_J1 n t0 (tree_Format n) = some r) ?_ ?_
   clear h
   rintro _ h
   dsimp only [tree_Format_J1] at h
   try dsimp only
   refine rs0 ?_
   iterate 2 refine vp ?_
   refine sP h F (fun F h => ?_) fun F h => ?_
   iterate 4 refine vp ?_
   refine vn ?_
   refine rs0 ?_
   refine vp ?_
   refine vn ?_
   refine jn (fun p4531 : List Str => { ch := [(3, .hptr 0 0 0), (4, .sl 1 0 p4531.length)], hp := [.var [.int .u8 0, .int .u8 0], .arr 1 p4531.length (rw (p4531.map cS))], base := 0, n := 48, cond := True, gl := G0 }) (fun x => tree_Format_J2 n x = some r) ?_ ?_
   clear h
   rintro p4531 h
   dsimp only [tree_Format_J2] at h
   try dsimp only
   refine dw (fun _ => false) [0, 1] ?_
   refine du 4 ?_
   obtain ⟨r4533, hr4532, h⟩ := obind h
   refine dc (con_strings_Join hr4532) ?_
   refine gd h F fun F h => ?_
   refine du 4 ?_
   refine gd h F fun F h => ?_
   refine du 2 ?_
   refine dn ?_
   cases h
   exact Wp.ret en0
   refine rs0 ?_
   iterate 4 refine vp ?_
   refine vn ?_
   refine Wp.block ?_
   refine lp [some 1, none] (fun x : Int × (List Str) => { ch := [(3, .hptr 0 0 0), (4, .sl 1 0 x.2.length), (26, aL cTreeTree t0.Kids), (27, .int .i64 (t0.Kids.length : Int)), (28, .int .i64 x.1)], hp := [.var [.int .u8 0, .int .u8 0], .arr 1 x.2.length (rw (x.2.map cS))], base := 0, n := 48, cond := True, gl := G0 }) (fun m x => tree_Format_L3 n t0 (tree_Format n) m x.1 x.2 = some r) n (0, []) h ?_
   rintro rec_n3 ⟨p4538, p4539⟩ h
   dsimp only [tree_Format_L3] at h
   try dsimp only
   refine rs0 ?_
   refine vp ?_
   refine vn ?_
   refine Wp.seq ?_
   refine sD h F (fun F h => ?_) fun F h => ?_
   refine cF ?_
   refine Wp.exit ?_
   exact nx [some 0, some 1] p4539 h
   refine cT ?_
   refine Wp.skip ?_
   refine sh ?_
   refine Wp.seq ?_
   refine Wp.block ?_
   refine rs0 ?_
   refine eI h F fun x4544 F h => ?_
   iterate 4 refine vp ?_
   refine vn ?_
   refine rg (fun d => Nat.beq d 36) ?_
   iterate 2 refine vp ?_
   obtain ⟨r4546, hr4545, h⟩ := obind h
   refine vc (Hslf_tree_Format hr4545) ?_
   refine vp ?_
   refine gd h F fun F h => ?_
   refine vp ?_
   refine nm cS h F fun l4547 F h => ?_
   refine vp ?_
   refine vn ?_
   refine sh ?_
   refine rg0 ?_
   iterate 2 refine vp ?_
   refine vn ?_
   exact nx [some 0, some 3] ((IntKind.i64.wrap (p4538 + 1)), l4547) h
   refine sP h F (fun F h => ?_) fun F h => ?_
   iterate 4 refine vp ?_
   refine vn ?_
   refine rs0 ?_
   refine vp ?_
   refine vn ?_
   refine jn (fun p4562 : List Str => { ch := [(3, .hptr 0 0 0), (4, .sl 1 0 p4562.length)], hp := [.var [.int .u8 91, .int .u8 93], .arr 1 p4562.length (rw (p4562.map cS))], base := 0, n := 48, cond := True, gl := G0 }) (fun x => tree_Format_J4 n x = some r) ?_ ?_
   clear h
   rintro p4562 h
   dsimp only [tree_Format_J4] at h
   try dsimp only
   refine dw (fun _ => false) [0, 1] ?_
   refine du 4 ?_
   obtain ⟨r4564, hr4563, h⟩ := obind h
   refine dc (con_strings_Join hr4563) ?_
   refine gd h F fun F h => ?_
   refine du 4 ?_
   refine gd h F fun F h => ?_
   refine du 2 ?_
   refine dn ?_
   cases h
   exact Wp.ret en0
   refine rs0 ?_
   iterate 4 refine vp ?_
   refine vn ?_
   refine Wp.block ?_
   refine lp [some 1, none] (fun x : Int × (List Str) => { ch := [(3, .hptr 0 0 0), (4, .sl 1 0 x.2.length), (26, aL cTreeTree t0.Kids), (27, .int .i64 (t0.Kids.length : Int)), (28, .int .i64 x.1)], hp := [.var [.int .u8 91, .int .u8 93], .arr 1 x.2.length (rw (x.2.map cS))], base := 0, n := 48, cond := True, gl := G0 }) (fun m x => tree_Format_L5 n t0 (tree_Format n) m x.1 x.2 = some r) n (0, []) h ?_
   rintro rec_n5 ⟨p4569, p4570⟩ h
   dsimp only [tree_Format_L5] at h
   try dsimp only
   refine rs0 ?_
   refine vp ?_
   refine vn ?_
   refine Wp.seq ?_
   refine sD h F (fun F h => ?_) fun F h => ?_
   refine cF ?_
   refine Wp.exit ?_
   exact nx [some 0, some 1] p4570 h
   refine cT ?_
   refine Wp.skip ?_
   refine sh ?_
   refine Wp.seq ?_
   refine Wp.block ?_
   refine rs0 ?_
   refine eI h F fun x4575 F h => ?_
   iterate 4 refine vp ?_
   refine vn ?_
   refine rg (fun d => Nat.beq d 36) ?_
   iterate 2 refine vp ?_
   obtain ⟨r4577, hr4576, h⟩ := obind h
   refine vc (Hslf_tree_Format hr4576) ?_
   refine vp ?_
   refine gd h F fun F h => ?_
   refine vp ?_
   refine nm cS h F fun l4578 F h => ?_
   refine vp ?_
   refine vn ?_
   refine sh ?_
   refine rg0 ?_
   iterate 2 refine vp ?_
   refine vn ?_
   exact nx [some 0, some 3] ((IntKind.i64.wrap (p4569 + 1)), l4578) h
   refine sP h F (fun F h => ?_) fun F h => ?_
   iterate 4 refine vp ?_
   refine vn ?_
   refine rs0 ?_
   refine vp ?_
   refine vn ?_
   refine jn (fun p4593 : List Str => { ch := [(3, .hptr 0 0 0), (4, .sl 1 0 p4593.length)], hp := [.var [.int .u8 123, .int .u8 125], .arr 1 p4593.length (rw (p4593.map cS))], base := 0, n := 48, cond := True, gl := G0 }) (fun x => tree_Format_J6 n x = some r) ?_ ?_
   clear h
   rintro p4593 h
   dsimp only [tree_Format_J6] at h
   try dsimp only
   refine dw (fun _ => false) [0, 1] ?_
   refine du 4 ?_
   obtain ⟨r4595, hr4594, h⟩ := obind h
   refine dc (con_strings_Join hr4594) ?_
   refine gd h F fun F h => ?_
   refine du 4 ?_
   refine gd h F fun F h => ?_
   refine du 2 ?_
   refine dn ?_
   cases h
   exact Wp.ret en0
   refine rs0 ?_
   iterate 4 refine vp ?_
   refine vn ?_
   refine Wp.block ?_
   refine lp [some 1, none] (fun x : Int × (List Str) => { ch := [(3, .hptr 0 0 0), (4, .sl 1 0 x.2.length), (26, aL cTreeTree t0.Kids), (27, .int .i64 (t0.Kids.length : Int)), (28, .int .i64 x.1)], hp := [.var [.int .u8 123, .int .u8 125], .arr 1 x.2.length (rw (x.2.map cS))], base := 0, n := 48, cond := True, gl := G0 }) (fun m x => tree_Format_L7 n t0 (tree_Format n) m x.1 x.2 = some r) n (0, []) h ?_
   rintro rec_n7 ⟨p4600, p4601⟩ h
   dsimp only [tree_Format_L7] at h
   try dsimp only
   refine rs0 ?_
   refine vp ?_
   refine vn ?_
   refine Wp.seq ?_
   refine sD h F (fun F h => ?_) fun F h => ?_
   refine cF ?_
   refine Wp.exit ?_
   exact nx [some 0, some 1] p4601 h
   refine cT ?_
   refine Wp.skip ?_
   refine sh ?_
   refine Wp.seq ?_
   refine Wp.block ?_
   refine rs0 ?_
   refine eI h F fun x4606 F h => ?_
   iterate 4 refine vp ?_
   refine vn ?_
   refine rg (fun d => Nat.beq d 36) ?_
   iterate 2 refine vp ?_
   obtain ⟨r4608, hr4607, h⟩ := obind h
   refine vc (Hslf_tree_Format hr4607) ?_
   refine vp ?_
   refine gd h F fun F h => ?_
   refine vp ?_
   refine nm cS h F fun l4609 F h => ?_
   refine vp ?_
   refine vn ?_
   refine sh ?_
   refine rg0 ?_
   iterate 2 refine vp ?_
   refine vn ?_
   exact nx [some 0, some 3] ((IntKind.i64.wrap (p4600 + 1)), l4609) h
   cases h
   refine rs0 ?_
   iterate 4 refine vp ?_
   refine sB h F (fun F h => ?_) fun F h => ?_
   refine vs ?_
   refine vs ?_
   refine vs ?_
   refine vp ?_
   refine vn ?_
   refine cF ?_
   refine Wp.skip ?_
   exact nx [some 0] () h
   refine vg ?_
   refine vg ?_
   refine vg ?_
   refine vp ?_
   refine vn ?_
   refine sB h F (fun F h => ?_) fun F h => ?_
   refine cF ?_
   refine Wp.skip ?_
   exact nx [some 0] () h
   refine cT ?_
   refine rs0 ?_
   refine vp ?_
   refine vn ?_
   cases h
   exact Wp.ret en0
   refine cT ?_
   refine rs0 ?_
   iterate 2 refine vp ?_
   obtain ⟨r4516, hr4515, h⟩ := obind h
   refine vc (con_strconv_Itoa hr4515) ?_
   refine vp ?_
   refine vn ?_
   cases h
   exact Wp.ret en0

end Go.Proofs.YtaebdeidbibfkaaGreatDoor
