/- Contracts: models of functions are right. No law is proved here. -/
import Derived.Test.YtaebdeidbibfkaaGreatDoorWGMod
import Derived.Test.YtaebdeidbibfkaaGreatDoorWTaw
import Derived.Test.YtaebdeidbibfkaaGreatDoorWSoz
import Derived.Test.YtaebdeidbibfkaaGreatDoorWShw
import Derived.Test.YtaebdeidbibfkaaGreatDoorWGC2
import Derived.Test.YtaebdeidbibfkaaGreatDoorWGC3
import Derived.Test.YtaebdeidbibfkaaGreatDoorWGC4
namespace Go.Proofs.YtaebdeidbibfkaaGreatDoor
open Go.Av Go.G
attribute [-simp] Int.natCast_tdiv_eq_ediv
attribute [local simp] runf guardA opf St.ev Go.Av.look St.setd constAV constAV0 opBin opLen intBin St.need lookT TT0 tab resA resOne resAll blt_dec ble_dec beq_dec isPure
attribute [local simp] opMakeSlice opCopy opIndexAddr opLoad opStore St.mem St.rows opUn calleeA toArgs toArg toArg0 toArgs0 shift shift0 shift1 splice cellsOf isFree ofCells TS.isAgg isCell strBin opConvert
attribute [local simp] opSlice3 opClear fz_clear opBuildSlice fillA opAppend eqC eqA cksB ckB St.newBox runI valKind withinB readsHp refsD refs noSl opFieldAddr opBuild opMax opMin placeOf Op.operands Call.operands opIndex opExtract opSlice opField partA
attribute [local simp] loA hiA lenA opMakeMap opLookup opMapUpdate keyOk findA_int findA_str findA_bool putA_strB putA_strI putA_strS putA_intB putA_intI putA_intS putA_boolI putA_boolB byteRow_rwN bytesOf_rwN opBytesStr mAV_length mAV_nil cA1 cA2 cA3 cA4 opNilCheck opMakeFunc opRange
attribute [local simp] aL cI cB cS cL rw_map fz_rw fz_const dropRow_rw fz_append fz_set fz_copy fz_rows rowLen_rw rowsLen_nil rowsLen_cons rowsLen_append rowsLen_map rowsLen_dm rowsLen_tm rowsLen_take rowsLen_drop rowsLen_replicate take_map_len take_map_le drop_map_len take_drop_len chunks isScalar isScalar0
attribute [local simp] putBack putAt objMap mapC mapA mapT map0 bid rid memB passed closedB argsH argH argH0 argsH0 objIds ids0 idsC isLocT isLocA isLocC isLoc0 LocObj
attribute [local congr] bind_congr1 map_congr1 cond_congr1
attribute [local simp] cApiAddr cApiContact cApiCoil cApiRung cReducePair cReduceEdge cTreeTree_eq TreeTree_Kind_mk TreeTree_N_mk TreeTree_Kids_mk eta_TreeTree cRef14Tree_eq Ref14Tree_Kind_mk Ref14Tree_N_mk Ref14Tree_Kids_mk eta_Ref14Tree
variable [Drawn]
set_option maxHeartbeats 4000000
set_option linter.unusedSectionVars false
set_option maxRecDepth 20000
set_option linter.unusedSimpArgs false
set_option linter.unusedVariables false

theorem con_reduce_Expand_1_c56_v1 (n : Nat) : ∀ {_append0 : TreeTree} {a1 : ReducePair} {l1 : List ApiContact} {b3 : Int} {r : (List ApiContact) × Int}, reduce_Expand_1_c56_v1 n _append0 a1 l1 b3 = some r → ConH Tryz.prog G0 56 [.agg [.int .i64 _append0.Kind, .int .i64 _append0.N, aL cTreeTree _append0.Kids], .agg (cReducePair a1), .hptr 0 0 0, .hptr 2 0 0, .hptr 3 0 0] [.var [.sl 1 0 l1.length], .arr 5 l1.length (rw (l1.map cApiContact)), .var [.clos 56 [] [.hptr 0 0 0, .hptr 2 0 0, .hptr 3 0 0]], .var [.int .i64 b3]] (.tup []) [.var [.sl 1 0 r.1.length], .arr 5 r.1.length (rw (r.1.map cApiContact)), .var [.clos 56 [] [.hptr 0 0 0, .hptr 2 0 0, .hptr 3 0 0]], .var [.int .i64 r.2]] := by
  induction n with
  | zero => intro _append0 a1 l1 b3 r h; simp [reduce_Expand_1_c56_v1] at h
  | succ n Hslf_reduce_Expand_1_c56_v1 =>
   intro _append0 a1 l1 b3 r h
   refine conH_of (T := TT0) tt_ok Tryz.func56 (c := _) (by unfold Tryz.f56; rfl) Tryz.ntmps56 (rs := []) (by rw [Tryz.results56]) (by unfold Tryz.f56; rfl) (by simp) (k := 4) rfl rfl ?_
   try simp only [argsCh]
   have F := True.intro
   dsimp only [reduce_Expand_1_c56_v1] at h
   refine rs0 ?_
   iterate 2 refine vp ?_
   refine vn ?_
   refine rs0 ?_
   iterate 2 refine vp ?_
   refine vn ?_
   refine Wp.block ?_
   refine rs0 ?_
   iterate 2 refine vp ?_
   refine vn ?_
   refine sB h F (fun F h => ?_) fun F h => ?_
   refine cF ?_
   refine rs0 ?_
   iterate 2 refine vp ?_
   refine vn ?_
   refine sB h F (fun F h => ?_) fun F h => ?_
   refine cF ?_
   refine rs0 ?_
   iterate 5 refine vp ?_
   refine vn ?_
   refine jn (fun x : (List ApiContact) × Int × Str => { ch := [(3, .hptr 2 0 0), (5, .hptr 4 0 0), (6, .hptr 5 0 0), (9, .int .i64 (IntKind.i64.wrap ((_append0.Kids.length : Int) - 1)))], hp := [.var [.sl 1 0 x.1.length], .arr 5 x.1.length (rw (x.1.map cApiContact)), .var [.clos 56 [] [.hptr 0 0 0, .hptr 2 0 0, .hptr 3 0 0]], .var [.int .i64 x.2.1], .var [.int .i64 _append0.Kind, .int .i64 _append0.N, aL cTreeTree _append0.Kids], .var [.str x.2.2, .str a1.to_]], base := 4, n := 81, cond := True, gl := G0 }) (fun x => reduce_Expand_1_c56_v1_J2 _append0 a1 (reduce_Expand_1_c56_v1 n) x.1 x.2.1 x.2.2 = some r) ?_ ?_
   clear h
   rintro ⟨l5071, b5072, p5073⟩ h
   dsimp only [reduce_Expand_1_c56_v1_J2] at h
   try dsimp only
   refine dw1 (fun d => Nat.beq d 50 || Nat.beq d 1050) [0, 1, 2, 3, 4, 5] ?_
   refine du 4 ?_
   refine eI h F fun x5074 F h => ?_
   refine du 3 ?_
   obtain ⟨⟨q5076, q5077⟩, hr5075, h⟩ := obind h
   dsimp only at h
   refine dh [0, 1, 2, 3] (Hslf_reduce_Expand_1_c56_v1 hr5075) ?_
   refine dn ?_
   cases h
   exact n2r (enH [some 0, some 1, some 2, some 3])
   refine rs0 ?_
   iterate 3 refine vp ?_
   refine gd h F fun F h => ?_
   refine vp ?_
   refine nm cTreeTree h F fun l5078 F h => ?_
   iterate 2 refine vp ?_
   refine vn ?_
   refine Wp.block ?_
   refine lp [some 0, some 1, some 2, some 3, some 4, some 5] (fun x : (List ApiContact) × Int × Int × Str => { ch := [(3, .hptr 2 0 0), (4, .hptr 3 0 0), (5, .hptr 4 0 0), (6, .hptr 5 0 0), (9, .int .i64 (IntKind.i64.wrap ((_append0.Kids.length : Int) - 1))), (22, aL cTreeTree l5078), (23, .int .i64 (l5078.length : Int)), (24, .int .i64 x.2.2.1)], hp := [.var [.sl 1 0 x.1.length], .arr 5 x.1.length (rw (x.1.map cApiContact)), .var [.clos 56 [] [.hptr 0 0 0, .hptr 2 0 0, .hptr 3 0 0]], .var [.int .i64 x.2.1], .var [.int .i64 _append0.Kind, .int .i64 _append0.N, aL cTreeTree _append0.Kids], .var [.str x.2.2.2, .str a1.to_]], base := 4, n := 81, cond := True, gl := G0 }) (fun m x => reduce_Expand_1_c56_v1_L3 n _append0 a1 (reduce_Expand_1_c56_v1 n) l5078 m x.1 x.2.1 x.2.2.1 x.2.2.2 = some r) n (l1, b3, 0, a1.from_) h ?_
   rintro rec_n3 ⟨l5085, b5086, p5087, p5088⟩ h
   dsimp only [reduce_Expand_1_c56_v1_L3] at h
   try dsimp only
   refine rs0 ?_
   refine vp ?_
   refine vn ?_
   refine Wp.seq ?_
   refine sD h F (fun F h => ?_) fun F h => ?_
   refine cF ?_
   refine Wp.exit ?_
   exact nx [some 0, some 1, some 2, some 3, some 4, some 5] (l5085, b5086, p5088) h
   refine cT ?_
   refine Wp.skip ?_
   refine sh ?_
   refine Wp.seq ?_
   refine Wp.block ?_
   refine rs0 ?_
   refine eI h F fun x5095 F h => ?_
   iterate 4 refine vp ?_
   refine vn ?_
   refine rs0 ?_
   iterate 3 refine vp ?_
   refine vn ?_
   refine rs0 ?_
   refine vp ?_
   obtain ⟨r5097, hr5096, h⟩ := obind h
   refine vc (con_strconv_Itoa hr5096) ?_
   refine gd h F fun F h => ?_
   iterate 2 refine vp ?_
   refine vn ?_
   refine rs0 ?_
   iterate 6 refine vp ?_
   obtain ⟨⟨q5099, q5100⟩, hr5098, h⟩ := obind h
   dsimp only at h
   refine vh [0, 1, 2, 3] (Hslf_reduce_Expand_1_c56_v1 hr5098) ?_
   refine vn ?_
   refine rg0 ?_
   iterate 3 refine vp ?_
   refine vn ?_
   refine sh ?_
   refine rg0 ?_
   iterate 2 refine vp ?_
   refine vn ?_
   exact nx [some 0, some 1, some 2, some 3, some 4, some 5] (q5099, q5100, (IntKind.i64.wrap (p5087 + 1)), ((⟨#[110]⟩ : Str) ++ r5097)) h
   refine cT ?_
   refine rs0 ?_
   iterate 4 refine vp ?_
   refine vn ?_
   refine Wp.block ?_
   refine lp [some 0, some 1, some 2, some 3, some 5] (fun x : (List ApiContact) × Int × Int => { ch := [(3, .hptr 2 0 0), (6, .hptr 4 0 0), (70, aL cTreeTree _append0.Kids), (71, .int .i64 (_append0.Kids.length : Int)), (72, .int .i64 x.2.2)], hp := [.var [.sl 1 0 x.1.length], .arr 5 x.1.length (rw (x.1.map cApiContact)), .var [.clos 56 [] [.hptr 0 0 0, .hptr 2 0 0, .hptr 3 0 0]], .var [.int .i64 x.2.1], .var [.str a1.from_, .str a1.to_]], base := 4, n := 81, cond := True, gl := G0 }) (fun m x => reduce_Expand_1_c56_v1_L1 _append0 a1 (reduce_Expand_1_c56_v1 n) m x.1 x.2.1 x.2.2 = some r) n (l1, b3, 0) h ?_
   rintro rec_n1 ⟨l5037, b5038, p5039⟩ h
   dsimp only [reduce_Expand_1_c56_v1_L1] at h
   try dsimp only
   refine rs0 ?_
   refine vp ?_
   refine vn ?_
   refine Wp.seq ?_
   refine sD h F (fun F h => ?_) fun F h => ?_
   refine cF ?_
   refine Wp.exit ?_
   cases h
   exact n2r (enH [some 0, some 1, some 2, some 3])
   refine cT ?_
   refine Wp.skip ?_
   refine sh ?_
   refine Wp.seq ?_
   refine Wp.block ?_
   refine rs0 ?_
   refine eI h F fun x5044 F h => ?_
   iterate 4 refine vp ?_
   refine vn ?_
   refine rg0 ?_
   iterate 3 refine vp ?_
   obtain ⟨⟨q5046, q5047⟩, hr5045, h⟩ := obind h
   dsimp only at h
   refine vh [0, 1, 2, 3] (Hslf_reduce_Expand_1_c56_v1 hr5045) ?_
   refine vn ?_
   refine sh ?_
   refine rg0 ?_
   iterate 2 refine vp ?_
   refine vn ?_
   exact nx [some 0, some 1, some 2, some 3, some 4] (q5046, q5047, (IntKind.i64.wrap (p5039 + 1))) h
   refine cT ?_
   refine dwp1 (fun d => Nat.beq d 3000) (fun i => if i = 0 then [0] else if i = 2 then [4] else if i = 3 then [0] else if i = 5 then [4] else if i = 7 then [5] else if i = 9 then [5] else if i = 10 then [1] else if i = 13 then [1] else []) ?_
   refine du 10 ?_
   refine eI h F fun x5029 F h => ?_
   refine du 2 ?_
   refine dt2 [3, 4, 5, 8, 9, 12] ?_
   refine nm cApiContact h F fun l5030 F h => ?_
   refine eI h F fun x5031 F h => ?_
   refine du 2 ?_
   refine dt2 [15] ?_
   refine nm cApiContact h F fun l5032 F h => ?_
   refine dn ?_
   cases h
   exact n2r (enH [some 0, some 1, some 2, some 3])

theorem con_slices_IndexFunc_reduce_edge_c66_v1 {n : Nat} {s0 : Nat} {l0 : List ReduceEdge} {b1 : ReduceEdge} {r : Int} (h : slices_IndexFunc_reduce_edge_c66_v1 n s0 l0 b1 = some r) : ConH Tryz.prog G0 65 [.sl 0 s0 (l0.length - s0), .clos 66 [] [.hptr 1 0 0]] [.arr 5 l0.length (rw (l0.map cReduceEdge)), .var [.str b1.pair.from_, .str b1.pair.to_, .int .i64 b1.t_.Kind, .int .i64 b1.t_.N, aL cTreeTree b1.t_.Kids]] (.int .i64 r) [.arr 5 l0.length (rw (l0.map cReduceEdge)), .var [.str b1.pair.from_, .str b1.pair.to_, .int .i64 b1.t_.Kind, .int .i64 b1.t_.N, aL cTreeTree b1.t_.Kids]] := by
  refine conH_of (T := TT0) tt_ok Tryz.func65 (c := _) (by unfold Tryz.f65; rfl) Tryz.ntmps65 (rs := [.tmp 4]) (by rw [Tryz.results65]) (by unfold Tryz.f65; rfl) (by simp) (k := 2) rfl rfl ?_
  try simp only [argsCh]
  have F := True.intro
  dsimp only [slices_IndexFunc_reduce_edge_c66_v1] at h
  refine rs0 ?_
  refine vp ?_
  refine vn ?_
  refine Wp.seq ?_
  refine rs0 ?_
  iterate 3 refine vp ?_
  refine vn ?_
  refine Wp.block ?_
  refine lp [some 0, some 1] (fun p4045 : Int => { ch := [(0, .sl 0 s0 (l0.length - s0)), (1, .clos 66 [] [.hptr 1 0 0]), (7, .int .i64 (((l0.length - s0) : Nat) : Int)), (8, .int .i64 p4045)], hp := [.arr 5 l0.length (rw (l0.map cReduceEdge)), .var [.str b1.pair.from_, .str b1.pair.to_, .int .i64 b1.t_.Kind, .int .i64 b1.t_.N, aL cTreeTree b1.t_.Kids]], base := 2, n := 19, cond := True, gl := G0 }) (fun m x => slices_IndexFunc_reduce_edge_c66_v1_L1 n s0 l0 b1 m x = some r) n 0 h ?_
  rintro rec_n1 p4045 h
  dsimp only [slices_IndexFunc_reduce_edge_c66_v1_L1] at h
  try dsimp only
  refine rs0 ?_
  refine vp ?_
  refine vn ?_
  refine Wp.seq ?_
  refine sD h F (fun F h => ?_) fun F h => ?_
  refine cF ?_
  refine Wp.exit ?_
  refine sh ?_
  refine rs0 ?_
  refine vp ?_
  refine vn ?_
  cases h
  exact Wp.ret (enH [some 0, some 1])
  refine cT ?_
  refine Wp.skip ?_
  refine sh ?_
  refine Wp.seq ?_
  refine Wp.block ?_
  refine rs0 ?_
  iterate 2 refine vp ?_
  refine vn ?_
  refine rs0 ?_
  iterate 3 refine vp ?_
  refine eI h F fun x4049 F h => ?_
  simp only [List.getElem?_drop, Nat.add_zero] at F
  iterate 2 refine vp ?_
  obtain ⟨r4051, hr4050, h⟩ := obind h
  refine vh [1] (con_reduce_parallel_1 hr4050) ?_
  refine vn ?_
  refine sB h F (fun F h => ?_) fun F h => ?_
  refine cF ?_
  refine Wp.skip ?_
  refine sh ?_
  refine rg0 ?_
  iterate 2 refine vp ?_
  refine vn ?_
  exact nx [some 0, some 1] (IntKind.i64.wrap (p4045 + 1)) h
  refine cT ?_
  refine rs0 ?_
  iterate 2 refine vp ?_
  refine vn ?_
  cases h
  exact Wp.ret (enH [some 0, some 1])

theorem con_graph_numbers_c168 {n : Nat} {r_0 : ApiRung} {b0 : Str} {r : (List Int)} (h : graph_numbers_c168 n r_0 b0 = some r) : ConH Tryz.prog G0 133 [.agg (cApiRung r_0), .clos 168 [] [.hptr 0 0 0]] [.var [.str b0]] (aL (cI .i64) r) [.var [.str b0]] := by
  refine conH_of (T := TT0) tt_ok Tryz.func133 (c := _) (by unfold Tryz.f133; rfl) Tryz.ntmps133 (rs := [.tmp 4]) (by rw [Tryz.results133]) (by unfold Tryz.f133; rfl) (by simp) (k := 1) rfl rfl ?_
  try simp only [argsCh]
  have F := True.intro
  dsimp only [graph_numbers_c168] at h
  refine rs0 ?_
  iterate 2 refine vp ?_
  refine vn ?_
  refine rs0 ?_
  refine vp ?_
  refine vn ?_
  refine Wp.seq ?_
  refine rs0 ?_
  iterate 4 refine vp ?_
  refine vn ?_
  refine Wp.block ?_
  refine lp [some 0, none] (fun x : Int × (List Int) => { ch := [(1, .clos 168 [] [.hptr 0 0 0]), (5, .sl 1 0 x.2.length), (9, aL cApiContact r_0.Contacts), (10, .int .i64 (r_0.Contacts.length : Int)), (11, .int .i64 x.1)], hp := [.var [.str b0], .arr 1 x.2.length (rw (x.2.map (cI .i64)))], base := 1, n := 25, cond := True, gl := G0 }) (fun m x => graph_numbers_c168_L1 n r_0 b0 m x.1 x.2 = some r) n (0, []) h ?_
  rintro rec_n1 ⟨p3470, p3471⟩ h
  dsimp only [graph_numbers_c168_L1] at h
  try dsimp only
  refine rs0 ?_
  refine vp ?_
  refine vn ?_
  refine Wp.seq ?_
  refine sD h F (fun F h => ?_) fun F h => ?_
  refine cF ?_
  refine Wp.exit ?_
  refine sh ?_
  refine rs0 ?_
  iterate 2 refine vp ?_
  refine vn ?_
  cases h
  exact Wp.ret (enH [some 0])
  refine cT ?_
  refine Wp.skip ?_
  refine sh ?_
  refine Wp.seq ?_
  refine Wp.block ?_
  refine rs0 ?_
  refine vp ?_
  refine eI h F fun x3476 F h => ?_
  iterate 5 refine vp ?_
  refine vn ?_
  refine rs0 ?_
  iterate 2 refine vp ?_
  obtain ⟨r3478, hr3477, h⟩ := obind h
  refine vh [0] (con_graph_Outgoing_1 hr3477) ?_
  refine vn ?_
  refine sB h F (fun F h => ?_) fun F h => ?_
  refine cF ?_
  refine Wp.skip ?_
  refine sh ?_
  refine rg0 ?_
  iterate 2 refine vp ?_
  refine vn ?_
  exact nx [some 0, some 1] ((IntKind.i64.wrap (p3470 + 1)), p3471) h
  refine cT ?_
  refine rg (fun d => Nat.beq d 22) ?_
  iterate 3 refine vp ?_
  refine gd h F fun F h => ?_
  refine vp ?_
  refine nm (cI .i64) h F fun l3479 F h => ?_
  refine vp ?_
  refine vn ?_
  refine sh ?_
  refine rg0 ?_
  iterate 2 refine vp ?_
  refine vn ?_
  exact nx [some 0, some 3] ((IntKind.i64.wrap (p3470 + 1)), l3479) h

theorem con_cmp_Compare_int {n : Nat} {x_0 : Int} {y1 : Int} {r : Int} (h : cmp_Compare_int n x_0 y1 = some r) : Con Tryz.prog G0 71 [.int .i64 x_0, .int .i64 y1] (.int .i64 r) [] := by
  refine con_of (T := TT0) tt_ok Tryz.func71 (c := _) (by unfold Tryz.f71; rfl) Tryz.ntmps71 (rs := [.tmp 4]) (by rw [Tryz.results71]) (by unfold Tryz.f71; rfl) (by simp) ?_
  simp only [argsCh]
  have F := True.intro
  dsimp only [cmp_Compare_int] at h
  refine rs0 ?_
  refine vp ?_
  refine vn ?_
  refine rs0 ?_
  refine vp ?_
  obtain ⟨r4441, hr4440, h⟩ := obind h
  refine vc (con_cmp_isNaN_int hr4440) ?_
  refine vp ?_
  refine vn ?_
  refine rs0 ?_
  refine vp ?_
  obtain ⟨r4443, hr4442, h⟩ := obind h
  refine vc (con_cmp_isNaN_int hr4442) ?_
  refine vp ?_
  refine vn ?_
  refine Wp.seq ?_
  refine rs0 ?_
  refine vp ?_
  refine vn ?_
  refine sB h F (fun F h => ?_) fun F h => ?_
  refine cF ?_
  refine Wp.skip ?_
  refine sh ?_
  refine Wp.seq ?_
  refine rs0 ?_
  refine vp ?_
  refine vn ?_
  refine sB h F (fun F h => ?_) fun F h => ?_
  refine cF ?_
  refine Wp.skip ?_
  refine sh ?_
  refine Wp.seq ?_
  refine rs0 ?_
  iterate 3 refine vp ?_
  refine vn ?_
  refine sD h F (fun F h => ?_) fun F h => ?_
  refine cF ?_
  refine Wp.skip ?_
  refine sh ?_
  refine Wp.seq ?_
  refine rs0 ?_
  iterate 3 refine vp ?_
  refine vn ?_
  refine sD h F (fun F h => ?_) fun F h => ?_
  refine cF ?_
  refine Wp.skip ?_
  refine sh ?_
  refine rs0 ?_
  refine vp ?_
  refine vn ?_
  cases h
  exact Wp.ret en0
  refine cT ?_
  refine rs0 ?_
  refine vp ?_
  refine vn ?_
  cases h
  exact Wp.ret en0
  refine cT ?_
  refine rs0 ?_
  refine vp ?_
  refine vn ?_
  cases h
  exact Wp.ret en0
  refine cT ?_
  refine rs0 ?_
  refine vp ?_
  refine vn ?_
  cases h
  exact Wp.ret en0
  refine cT ?_
  refine Wp.seq ?_
  refine rs0 ?_
  refine vp ?_
  refine vn ?_
  refine sB h F (fun F h => ?_) fun F h => ?_
  refine cF ?_
  refine Wp.skip ?_
  refine sh ?_
  refine rs0 ?_
  refine vp ?_
  refine vn ?_
  cases h
  exact Wp.ret en0
  refine cT ?_
  refine rs0 ?_
  refine vp ?_
  refine vn ?_
  cases h
  exact Wp.ret en0

end Go.Proofs.YtaebdeidbibfkaaGreatDoor
