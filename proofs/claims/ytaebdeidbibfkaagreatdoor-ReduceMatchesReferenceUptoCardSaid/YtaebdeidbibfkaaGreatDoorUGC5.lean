/- Contracts: models of functions are right. No law is proved here. -/
import Derived.Test.YtaebdeidbibfkaaGreatDoorUGMod
import Derived.Test.YtaebdeidbibfkaaGreatDoorUTau
import Derived.Test.YtaebdeidbibfkaaGreatDoorUSoz
import Derived.Test.YtaebdeidbibfkaaGreatDoorUShz
import Derived.Test.YtaebdeidbibfkaaGreatDoorUGC1
import Derived.Test.YtaebdeidbibfkaaGreatDoorUGC2
namespace Go.Proofs.YtaebdeidbibfkaaGreatDoor
open Go.Av Go.G
attribute [-simp] Int.natCast_tdiv_eq_ediv
attribute [local simp] runf guardA opf St.ev Go.Av.look St.setd constAV constAV0 opBin opLen intBin St.need lookT TT0 tab resA resOne resAll blt_dec ble_dec beq_dec isPure
attribute [local simp] opMakeSlice opCopy opIndexAddr opLoad opStore St.mem St.rows opUn calleeA toArgs toArg toArg0 toArgs0 shift shift0 shift1 splice cellsOf isFree ofCells TS.isAgg isCell strBin opConvert
attribute [local simp] opSlice3 opClear fz_clear opBuildSlice fillA opAppend eqC eqA cksB ckB St.newBox runI valKind withinB readsHp refsD refs noSl opFieldAddr opBuild opMax opMin placeOf Op.operands Call.operands opIndex opExtract opSlice opField partA
attribute [local simp] loA hiA lenA opMakeMap opLookup opMapUpdate keyOk findA_int findA_str findA_bool putA_strB putA_strI putA_strS putA_intB putA_intI putA_intS putA_boolI putA_boolB byteRow_rwN bytesOf_rwN opBytesStr mAV_length mAV_nil cA1 cA2 cA3 cA4 opNilCheck opMakeFunc opRange
attribute [local simp] aL cI cB cS cL rw_map fz_rw fz_const dropRow_rw fz_append fz_set fz_copy fz_rows rowLen_rw rowsLen_nil rowsLen_cons rowsLen_append rowsLen_map rowsLen_dm rowsLen_tm rowsLen_take rowsLen_drop rowsLen_replicate take_map_len take_map_le drop_map_len take_drop_len chunks isScalar isScalar0
attribute [local simp] putBack putAt objMap mapC mapA mapT map0 bid rid memB passed closedB argsH argH argH0 argsH0 objIds ids0 idsC isLocT isLocA isLocC isLoc0 LocObj
attribute [local congr] bind_congr1 map_congr1 cond_congr1
attribute [local simp] cApiAddr cApiContact cApiCoil cApiRung cReducePair cReduceEdge cRef15Edge cTreeTree_eq TreeTree_Kind_mk TreeTree_N_mk TreeTree_Kids_mk eta_TreeTree cRef14Tree_eq Ref14Tree_Kind_mk Ref14Tree_N_mk Ref14Tree_Kids_mk eta_Ref14Tree
set_option maxHeartbeats 4000000
set_option linter.unusedSectionVars false
set_option maxRecDepth 20000
set_option linter.unusedSimpArgs false
set_option linter.unusedVariables false

theorem con_tree_Format (n : Nat) : ∀ {t0 : TreeTree} {r : Str}, tree_Format n t0 = some r → Con Tryz.prog G0 37 [.agg [.int .i64 t0.Kind, .int .i64 t0.N, aL cTreeTree t0.Kids]] (.str r) [] := by
  induction n with
  | zero => intro t0 r h; simp [tree_Format] at h
  | succ n Hslf_tree_Format =>
   intro t0 r h
   refine con_of (T := TT0) tt_ok Tryz.func37 (c := _) (by unfold Tryz.f37; rfl) Tryz.ntmps37 (rs := [.tmp 2]) (by rw [Tryz.results37]) (by unfold Tryz.f37; rfl) (by simp) ?_
   simp only [argsCh]
   have F := True.intro
   dsimp only [tree_Format] at h
   refine rs0 ?_
   iterate 2 refine vp ?_
   refine vn ?_
   refine Wp.seq ?_
   refine rs0 ?_
   iterate 3 refine vp ?_
   refine vn ?_
   refine sB h F (fun F h => ?_) fun F h => ?_
   refine cF ?_
   refine Wp.skip ?_
   refine sh ?_
   refine jn (fun _ : Unit => { ch := [(1, .hptr 0 0 0)], hp := [.var [.int .i64 t0.Kind, .int .i64 t0.N, aL cTreeTree t0.Kids]], base := 0, n := 48, cond := True, gl := G0 }) (fun x => tree_Format_J1 n t0 (tree_Format n) = some r) ?_ ?_
   clear h
   rintro _ h
   dsimp only [tree_Format_J1] at h
   try dsimp only
   refine rs0 ?_
   iterate 2 refine vp ?_
   refine sP h F (fun F h => ?_) fun F h => ?_
   iterate 4 refine vp ?_
   refine vn ?_
   refine rs0 ?_
   refine vp ?_
   refine vn ?_
   refine jn (fun p4529 : List Str => { ch := [(3, .hptr 0 0 0), (4, .sl 1 0 p4529.length)], hp := [.var [.int .u8 0, .int .u8 0], .arr 1 p4529.length (rw (p4529.map cS))], base := 0, n := 48, cond := True, gl := G0 }) (fun x => tree_Format_J2 n x = some r) ?_ ?_
   clear h
   rintro p4529 h
   dsimp only [tree_Format_J2] at h
   try dsimp only
   refine dw (fun _ => false) [0, 1] ?_
   refine du 4 ?_
   obtain ⟨r4531, hr4530, h⟩ := obind h
   refine dc (con_strings_Join hr4530) ?_
   refine gd h F fun F h => ?_
   refine du 4 ?_
   refine gd h F fun F h => ?_
   refine du 2 ?_
   refine dn ?_
   cases h
   exact Wp.ret en0
   refine rs0 ?_
   iterate 4 refine vp ?_
   refine vn ?_
   refine Wp.block ?_
   refine lp [some 1, none] (fun x : Int × (List Str) => { ch := [(3, .hptr 0 0 0), (4, .sl 1 0 x.2.length), (26, aL cTreeTree t0.Kids), (27, .int .i64 (t0.Kids.length : Int)), (28, .int .i64 x.1)], hp := [.var [.int .u8 0, .int .u8 0], .arr 1 x.2.length (rw (x.2.map cS))], base := 0, n := 48, cond := True, gl := G0 }) (fun m x => tree_Format_L3 n t0 (tree_Format n) m x.1 x.2 = some r) n (0, []) h ?_
   rintro rec_n3 ⟨p4536, p4537⟩ h
   dsimp only [tree_Format_L3] at h
   try dsimp only
   refine rs0 ?_
   refine vp ?_
   refine vn ?_
   refine Wp.seq ?_
   refine sD h F (fun F h => ?_) fun F h => ?_
   refine cF ?_
   refine Wp.exit ?_
   exact nx [some 0, some 1] p4537 h
   refine cT ?_
   refine Wp.skip ?_
   refine sh ?_
   refine Wp.seq ?_
   refine Wp.block ?_
   refine rs0 ?_
   refine eI h F fun x4542 F h => ?_
   iterate 4 refine vp ?_
   refine vn ?_
   refine rg (fun d => Nat.beq d 36) ?_
   iterate 2 refine vp ?_
   obtain ⟨r4544, hr4543, h⟩ := obind h
   refine vc (Hslf_tree_Format hr4543) ?_
   refine vp ?_
   refine gd h F fun F h => ?_
   refine vp ?_
   refine nm cS h F fun l4545 F h => ?_
   refine vp ?_
   refine vn ?_
   refine sh ?_
   refine rg0 ?_
   iterate 2 refine vp ?_
   refine vn ?_
   exact nx [some 0, some 3] ((IntKind.i64.wrap (p4536 + 1)), l4545) h
   refine sP h F (fun F h => ?_) fun F h => ?_
   iterate 4 refine vp ?_
   refine vn ?_
   refine rs0 ?_
   refine vp ?_
   refine vn ?_
   refine jn (fun p4560 : List Str => { ch := [(3, .hptr 0 0 0), (4, .sl 1 0 p4560.length)], hp := [.var [.int .u8 91, .int .u8 93], .arr 1 p4560.length (rw (p4560.map cS))], base := 0, n := 48, cond := True, gl := G0 }) (fun x => tree_Format_J4 n x = some r) ?_ ?_
   clear h
   rintro p4560 h
   dsimp only [tree_Format_J4] at h
   try dsimp only
   refine dw (fun _ => false) [0, 1] ?_
   refine du 4 ?_
   obtain ⟨r4562, hr4561, h⟩ := obind h
   refine dc (con_strings_Join hr4561) ?_
   refine gd h F fun F h => ?_
   refine du 4 ?_
   refine gd h F fun F h => ?_
   refine du 2 ?_
   refine dn ?_
   cases h
   exact Wp.ret en0
   refine rs0 ?_
   iterate 4 refine vp ?_
   refine vn ?_
   refine Wp.block ?_
   refine lp [some 1, none] (fun x : Int × (List Str) => { ch := [(3, .hptr 0 0 0), (4, .sl 1 0 x.2.length), (26, aL cTreeTree t0.Kids), (27, .int .i64 (t0.Kids.length : Int)), (28, .int .i64 x.1)], hp := [.var [.int .u8 91, .int .u8 93], .arr 1 x.2.length (rw (x.2.map cS))], base := 0, n := 48, cond := True, gl := G0 }) (fun m x => tree_Format_L5 n t0 (tree_Format n) m x.1 x.2 = some r) n (0, []) h ?_
   rintro rec_n5 ⟨p4567, p4568⟩ h
   dsimp only [tree_Format_L5] at h
   try dsimp only
   refine rs0 ?_
   refine vp ?_
   refine vn ?_
   refine Wp.seq ?_
   refine sD h F (fun F h => ?_) fun F h => ?_
   refine cF ?_
   refine Wp.exit ?_
   exact nx [some 0, some 1] p4568 h
   refine cT ?_
   refine Wp.skip ?_
   refine sh ?_
   refine Wp.seq ?_
   refine Wp.block ?_
   refine rs0 ?_
   refine eI h F fun x4573 F h => ?_
   iterate 4 refine vp ?_
   refine vn ?_
   refine rg (fun d => Nat.beq d 36) ?_
   iterate 2 refine vp ?_
   obtain ⟨r4575, hr4574, h⟩ := obind h
   refine vc (Hslf_tree_Format hr4574) ?_
   refine vp ?_
   refine gd h F fun F h => ?_
   refine vp ?_
   refine nm cS h F fun l4576 F h => ?_
   refine vp ?_
   refine vn ?_
   refine sh ?_
   refine rg0 ?_
   iterate 2 refine vp ?_
   refine vn ?_
   exact nx [some 0, some 3] ((IntKind.i64.wrap (p4567 + 1)), l4576) h
   refine sP h F (fun F h => ?_) fun F h => ?_
   iterate 4 refine vp ?_
   refine vn ?_
   refine rs0 ?_
   refine vp ?_
   refine vn ?_
   refine jn (fun p4591 : List Str => { ch := [(3, .hptr 0 0 0), (4, .sl 1 0 p4591.length)], hp := [.var [.int .u8 123, .int .u8 125], .arr 1 p4591.length (rw (p4591.map cS))], base := 0, n := 48, cond := True, gl := G0 }) (fun x => tree_Format_J6 n x = some r) ?_ ?_
   clear h
   rintro p4591 h
   dsimp only [tree_Format_J6] at h
   try dsimp only
   refine dw (fun _ => false) [0, 1] ?_
   refine du 4 ?_
   obtain ⟨r4593, hr4592, h⟩ := obind h
   refine dc (con_strings_Join hr4592) ?_
   refine gd h F fun F h => ?_
   refine du 4 ?_
   refine gd h F fun F h => ?_
   refine du 2 ?_
   refine dn ?_
   cases h
   exact Wp.ret en0
   refine rs0 ?_
   iterate 4 refine vp ?_
   refine vn ?_
   refine Wp.block ?_
   refine lp [some 1, none] (fun x : Int × (List Str) => { ch := [(3, .hptr 0 0 0), (4, .sl 1 0 x.2.length), (26, aL cTreeTree t0.Kids), (27, .int .i64 (t0.Kids.length : Int)), (28, .int .i64 x.1)], hp := [.var [.int .u8 123, .int .u8 125], .arr 1 x.2.length (rw (x.2.map cS))], base := 0, n := 48, cond := True, gl := G0 }) (fun m x => tree_Format_L7 n t0 (tree_Format n) m x.1 x.2 = some r) n (0, []) h ?_
   rintro rec_n7 ⟨p4598, p4599⟩ h
   dsimp only [tree_Format_L7] at h
   try dsimp only
   refine rs0 ?_
   refine vp ?_
   refine vn ?_
   refine Wp.seq ?_
   refine sD h F (fun F h => ?_) fun F h => ?_
   refine cF ?_
   refine Wp.exit ?_
   exact nx [some 0, some 1] p4599 h
   refine cT ?_
   refine Wp.skip ?_
   refine sh ?_
   refine Wp.seq ?_
   refine Wp.block ?_
   refine rs0 ?_
   refine eI h F fun x4604 F h => ?_
   iterate 4 refine vp ?_
   refine vn ?_
   refine rg (fun d => Nat.beq d 36) ?_
   iterate 2 refine vp ?_
   obtain ⟨r4606, hr4605, h⟩ := obind h
   refine vc (Hslf_tree_Format hr4605) ?_
   refine vp ?_
   refine gd h F fun F h => ?_
   refine vp ?_
   refine nm cS h F fun l4607 F h => ?_
   refine vp ?_
   refine vn ?_
   refine sh ?_
   refine rg0 ?_
   iterate 2 refine vp ?_
   refine vn ?_
   exact nx [some 0, some 3] ((IntKind.i64.wrap (p4598 + 1)), l4607) h
   cases h
   refine rs0 ?_
   iterate 4 refine vp ?_
   refine sB h F (fun F h => ?_) fun F h => ?_
   refine vs ?_
   refine vs ?_
   refine vs ?_
   refine vp ?_
   refine vn ?_
   refine cF ?_
   refine Wp.skip ?_
   exact nx [some 0] () h
   refine vg ?_
   refine vg ?_
   refine vg ?_
   refine vp ?_
   refine vn ?_
   refine sB h F (fun F h => ?_) fun F h => ?_
   refine cF ?_
   refine Wp.skip ?_
   exact nx [some 0] () h
   refine cT ?_
   refine rs0 ?_
   refine vp ?_
   refine vn ?_
   cases h
   exact Wp.ret en0
   refine cT ?_
   refine rs0 ?_
   iterate 2 refine vp ?_
   obtain ⟨r4514, hr4513, h⟩ := obind h
   refine vc (con_strconv_Itoa hr4513) ?_
   refine vp ?_
   refine vn ?_
   cases h
   exact Wp.ret en0

end Go.Proofs.YtaebdeidbibfkaaGreatDoor
