/- Contracts: models of functions are right. No law is proved here. -/
import Derived.Test.YtaebdeidbibfkaaGreatDoorWGMod
import Derived.Test.YtaebdeidbibfkaaGreatDoorWTaw
import Derived.Test.YtaebdeidbibfkaaGreatDoorWSoz
import Derived.Test.YtaebdeidbibfkaaGreatDoorWShw
import Derived.Test.YtaebdeidbibfkaaGreatDoorWGC4
import Derived.Test.YtaebdeidbibfkaaGreatDoorWGC6
import Derived.Test.YtaebdeidbibfkaaGreatDoorWGC7
namespace Go.Proofs.YtaebdeidbibfkaaGreatDoor
open Go.Av Go.G
attribute [-simp] Int.natCast_tdiv_eq_ediv
attribute [local simp] runf guardA opf St.ev Go.Av.look St.setd constAV constAV0 opBin opLen intBin St.need lookT TT0 tab resA resOne resAll blt_dec ble_dec beq_dec isPure
attribute [local simp] opMakeSlice opCopy opIndexAddr opLoad opStore St.mem St.rows opUn calleeA toArgs toArg toArg0 toArgs0 shift shift0 shift1 splice cellsOf isFree ofCells TS.isAgg isCell strBin opConvert
attribute [local simp] opSlice3 opClear fz_clear opBuildSlice fillA opAppend eqC eqA cksB ckB St.newBox runI valKind withinB readsHp refsD refs noSl opFieldAddr opBuild opMax opMin placeOf Op.operands Call.operands opIndex opExtract opSlice opField partA
attribute [local simp] loA hiA lenA opMakeMap opLookup opMapUpdate keyOk findA_int findA_str findA_bool putA_strB putA_strI putA_strS putA_intB putA_intI putA_intS putA_boolI putA_boolB byteRow_rwN bytesOf_rwN opBytesStr mAV_length mAV_nil cA1 cA2 cA3 cA4 opNilCheck opMakeFunc opRange
attribute [local simp] aL cI cB cS cL rw_map fz_rw fz_const dropRow_rw fz_append fz_set fz_copy fz_rows rowLen_rw rowsLen_nil rowsLen_cons rowsLen_append rowsLen_map rowsLen_dm rowsLen_tm rowsLen_take rowsLen_drop rowsLen_replicate take_map_len take_map_le drop_map_len take_drop_len chunks isScalar isScalar0
attribute [local simp] putBack putAt objMap mapC mapA mapT map0 bid rid memB passed closedB argsH argH argH0 argsH0 objIds ids0 idsC isLocT isLocA isLocC isLoc0 LocObj
attribute [local congr] bind_congr1 map_congr1 cond_congr1
attribute [local simp] cApiAddr cApiContact cApiCoil cApiRung cReducePair cReduceEdge cTreeTree_eq TreeTree_Kind_mk TreeTree_N_mk TreeTree_Kids_mk eta_TreeTree cRef14Tree_eq Ref14Tree_Kind_mk Ref14Tree_N_mk Ref14Tree_Kids_mk eta_Ref14Tree
variable [Drawn]
set_option maxHeartbeats 4000000
set_option linter.unusedSectionVars false
set_option maxRecDepth 20000
set_option linter.unusedSimpArgs false
set_option linter.unusedVariables false

theorem con_ref15_lay_v1 (n : Nat) : ∀ {_append0 : Ref14Tree} {a2 : Str} {a3 : Str} {a4 : Int} {l0 : List ApiContact} {r : Int × (List ApiContact)}, ref15_lay_v1 n _append0 a2 a3 a4 l0 = some r → ConH Tryz.prog G0 58 [.agg [.int .i64 _append0.Kind, .int .i64 _append0.N, aL cRef14Tree _append0.Kids], .sl 0 0 l0.length, .str a2, .str a3, .int .i64 a4] [.arr 5 l0.length (rw (l0.map cApiContact))] (.int .i64 r.1) [.arr 5 r.2.length (rw (r.2.map cApiContact))] := by
  induction n with
  | zero => intro _append0 a2 a3 a4 l0 r h; simp [ref15_lay_v1] at h
  | succ n Hslf_ref15_lay_v1 =>
   intro _append0 a2 a3 a4 l0 r h
   refine conH_of (T := TT0) tt_ok Tryz.func58 (c := _) (by unfold Tryz.f58; rfl) Tryz.ntmps58 (rs := [.tmp 10]) (by rw [Tryz.results58]) (by unfold Tryz.f58; rfl) (by simp) (k := 1) rfl rfl ?_
   try simp only [argsCh]
   have F := True.intro
   dsimp only [ref15_lay_v1] at h
   refine rs0 ?_
   iterate 2 refine vp ?_
   refine vn ?_
   refine Wp.seq ?_
   refine rs0 ?_
   iterate 3 refine vp ?_
   refine vn ?_
   refine sB h F (fun F h => ?_) fun F h => ?_
   refine cF ?_
   refine Wp.skip ?_
   refine sh ?_
   refine rs0 ?_
   iterate 2 refine vp ?_
   refine vn ?_
   refine Wp.seq ?_
   refine rs0 ?_
   refine vp ?_
   refine vn ?_
   refine Wp.block ?_
   refine lp [some 0, some 1] (fun x : (List ApiContact) × Int × Int × Str => { ch := [(1, .sl 0 0 x.1.length), (2, .str a2), (3, .str a3), (4, .int .i64 x.2.2.1), (5, .hptr 1 0 0), (11, .str x.2.2.2), (12, .int .i64 x.2.1)], hp := [.arr 5 x.1.length (rw (x.1.map cApiContact)), .var [.int .i64 _append0.Kind, .int .i64 _append0.N, aL cRef14Tree _append0.Kids]], base := 1, n := 75, cond := True, gl := G0 }) (fun m x => ref15_lay_v1_L1 n _append0 a2 a3 (ref15_lay_v1 n) m x.1 x.2.1 x.2.2.1 x.2.2.2 = some r) n (l0, 0, a4, a2) h ?_
   rintro rec_n1 ⟨l5863, p5864, a5865, a5866⟩ h
   dsimp only [ref15_lay_v1_L1] at h
   try dsimp only
   refine Wp.seq ?_
   refine rs0 ?_
   iterate 5 refine vp ?_
   refine vn ?_
   refine sD h F (fun F h => ?_) fun F h => ?_
   refine cF ?_
   refine Wp.exit ?_
   refine sh ?_
   refine rs0 ?_
   iterate 2 refine vp ?_
   refine vn ?_
   cases h
   exact Wp.ret (enH [some 0])
   refine cT ?_
   refine Wp.skip ?_
   refine sh ?_
   refine Wp.seq ?_
   refine Wp.block ?_
   refine Wp.seq ?_
   refine rs0 ?_
   iterate 3 refine vp ?_
   refine vn ?_
   refine sB h F (fun F h => ?_) fun F h => ?_
   refine cF ?_
   refine Wp.skip ?_
   refine sh ?_
   refine rs0 ?_
   iterate 2 refine vp ?_
   refine vn ?_
   refine jn (fun x : Str × Int => { ch := [(1, .sl 0 0 l5863.length), (2, .str a2), (3, .str a3), (4, .int .i64 x.2), (5, .hptr 1 0 0), (11, .str a5866), (12, .int .i64 p5864), (13, .str x.1)], hp := [.arr 5 l5863.length (rw (l5863.map cApiContact)), .var [.int .i64 _append0.Kind, .int .i64 _append0.N, aL cRef14Tree _append0.Kids]], base := 1, n := 75, cond := True, gl := G0 }) (fun x => ref15_lay_v1_J2 _append0 l5863 p5864 a5866 (ref15_lay_v1_L1 n _append0 a2 a3 (ref15_lay_v1 n) rec_n1) (ref15_lay_v1 n) x.1 x.2 = some r) ?_ ?_
   clear h
   rintro ⟨p5895, p5896⟩ h
   dsimp only [ref15_lay_v1_J2] at h
   try dsimp only
   refine rs0 ?_
   iterate 3 refine vp ?_
   refine eI h F fun x5897 F h => ?_
   iterate 6 refine vp ?_
   obtain ⟨⟨r5899, q5900⟩, hr5898, h⟩ := obind h
   dsimp only at h
   refine vh [0] (Hslf_ref15_lay_v1 hr5898) ?_
   refine gd h F fun F h => ?_
   refine vp ?_
   refine vn ?_
   refine rg0 ?_
   iterate 2 refine vp ?_
   refine vn ?_
   refine sh ?_
   refine rg0 ?_
   iterate 3 refine vp ?_
   refine vn ?_
   exact nx [some 0, some 1] (q5900, (IntKind.i64.wrap (p5864 + 1)), r5899, p5895) h
   refine rs0 ?_
   iterate 6 refine vp ?_
   refine vn ?_
   refine sD h F (fun F h => ?_) fun F h => ?_
   refine cF ?_
   refine Wp.skip ?_
   exact nx [some 0, some 1] (a3, a5865) h
   refine cT ?_
   refine rs0 ?_
   iterate 3 refine vp ?_
   refine vn ?_
   refine rg0 ?_
   refine vp ?_
   obtain ⟨r5902, hr5901, h⟩ := obind h
   refine vc (con_ref14_Decimal hr5901) ?_
   refine gd h F fun F h => ?_
   iterate 2 refine vp ?_
   refine vn ?_
   exact nx [some 0, some 1] (((⟨#[110]⟩ : Str) ++ r5902), (IntKind.i64.wrap (a5865 + 1))) h
   refine cT ?_
   refine rs0 ?_
   iterate 3 refine vp ?_
   refine eI h F fun x5889 F h => ?_
   iterate 6 refine vp ?_
   obtain ⟨⟨r5891, q5892⟩, hr5890, h⟩ := obind h
   dsimp only at h
   refine vh [0] (Hslf_ref15_lay_v1 hr5890) ?_
   refine gd h F fun F h => ?_
   refine vp ?_
   refine vn ?_
   refine Wp.exit ?_
   refine sh ?_
   refine rg0 ?_
   iterate 3 refine vp ?_
   refine vn ?_
   exact nx [some 0, some 1] (q5892, (IntKind.i64.wrap (p5864 + 1)), r5891, a5866) h
   refine cT ?_
   refine rs0 ?_
   iterate 4 refine vp ?_
   refine eI h F fun x5841 F h => ?_
   iterate 3 refine vp ?_
   refine nm cApiContact h F fun l5842 F h => ?_
   refine vn ?_
   refine rs0 ?_
   iterate 4 refine vp ?_
   refine eI h F fun x5843 F h => ?_
   iterate 3 refine vp ?_
   refine nm cApiContact h F fun l5844 F h => ?_
   refine vn ?_
   refine rs0 ?_
   iterate 2 refine vp ?_
   refine vn ?_
   cases h
   exact Wp.ret (enH [some 0])

theorem con_slices_DeleteFunc_string_c167_v1 {n : Nat} {l0 : List Str} {m2 : List (Str × Bool)} {r : (List Str)} (h : slices_DeleteFunc_string_c167_v1 n l0 m2 = some r) : ConH Tryz.prog G0 106 [.sl 0 0 l0.length, .clos 167 [] [.hptr 1 0 0]] [.arr 1 l0.length (rw (l0.map cS)), .var [.mp 2], .map (mAV AV.str cB m2)] (.sl 0 0 r.length) [.arr 1 r.length (rw (r.map cS)), .var [.mp 2], .map (mAV AV.str cB m2)] := by
  refine conH_of (T := TT0) tt_ok Tryz.func106 (c := _) (by unfold Tryz.f106; rfl) Tryz.ntmps106 (rs := [.tmp 4]) (by rw [Tryz.results106]) (by unfold Tryz.f106; rfl) (by simp) (k := 3) rfl rfl ?_
  try simp only [argsCh]
  have F := True.intro
  dsimp only [slices_DeleteFunc_string_c167_v1] at h
  refine rs0 ?_
  refine vp ?_
  refine vn ?_
  refine rs0 ?_
  iterate 2 refine vp ?_
  obtain ⟨r3606, hr3605, h⟩ := obind h
  refine vh [0, 1, 2] (con_slices_IndexFunc_string_c167_v1 hr3605) ?_
  refine vp ?_
  refine vn ?_
  refine Wp.seq ?_
  refine rs0 ?_
  iterate 2 refine vp ?_
  refine vn ?_
  refine sB h F (fun F h => ?_) fun F h => ?_
  refine cF ?_
  refine Wp.skip ?_
  refine sh ?_
  refine Wp.seq ?_
  refine rs0 ?_
  iterate 3 refine vp ?_
  refine vn ?_
  refine Wp.block ?_
  refine lp [some 0, some 1, some 2] (fun x : (List Str) × Int × Int => { ch := [(0, .sl 0 0 x.1.length), (1, .clos 167 [] [.hptr 1 0 0]), (5, .int .i64 x.2.1), (6, .int .i64 x.2.2)], hp := [.arr 1 x.1.length (rw (x.1.map cS)), .var [.mp 2], .map (mAV AV.str cB m2)], base := 3, n := 42, cond := True, gl := G0 }) (fun m x => slices_DeleteFunc_string_c167_v1_L1 n m2 m x.1 x.2.1 x.2.2 = some r) n (l0, r3606, (IntKind.i64.wrap (r3606 + 1))) h ?_
  rintro rec_n1 ⟨l3612, r3613, p3614⟩ h
  dsimp only [slices_DeleteFunc_string_c167_v1_L1] at h
  try dsimp only
  refine Wp.seq ?_
  refine rs0 ?_
  iterate 4 refine vp ?_
  refine vn ?_
  refine sD h F (fun F h => ?_) fun F h => ?_
  refine cF ?_
  refine Wp.exit ?_
  refine sh ?_
  refine rs0 ?_
  iterate 2 refine vp ?_
  refine gd h F fun F h => ?_
  refine vp ?_
  refine gd h F fun F h => ?_
  refine vp ?_
  refine vn ?_
  refine rl [some 0, some 1, some 2] { ch := [(0, .sl 0 0 l3612.length), (1, .clos 167 [] [.hptr 1 0 0]), (5, .int .i64 r3613), (6, .int .i64 p3614), (16, .int .i64 p3614), (17, .sl 0 0 l3612.length), (18, .int .i64 (l3612.length : Int)), (19, .bool (decide (p3614 < (l3612.length : Int)))), (36, .sl 0 0 l3612.length), (37, .int .i64 r3613), (38, .sl 0 r3613.toNat (l3612.length - r3613.toNat))], hp := [.arr 1 (l3612.take r3613.toNat).length (rw ((l3612.take r3613.toNat).map cS)), .var [.mp 2], .map (mAV AV.str cB m2)], base := 3, n := 42, cond := True, gl := G0 } ?_
  refine rs0 ?_
  iterate 2 refine vp ?_
  refine gd h F fun F h => ?_
  iterate 2 refine vp ?_
  refine vn ?_
  cases h
  exact Wp.ret (enH [some 0, some 1, some 2])
  refine cT ?_
  refine Wp.skip ?_
  refine sh ?_
  refine Wp.seq ?_
  refine Wp.block ?_
  refine rs0 ?_
  iterate 2 refine vp ?_
  refine eI h F fun x3620 F h => ?_
  iterate 3 refine vp ?_
  refine vn ?_
  refine rs0 ?_
  iterate 2 refine vp ?_
  obtain ⟨r3622, hr3621, h⟩ := obind h
  refine vh [1, 2] (con_graph_gather_2 hr3621) ?_
  refine vp ?_
  refine vn ?_
  refine sB h F (fun F h => ?_) fun F h => ?_
  refine cF ?_
  refine Wp.skip ?_
  refine sh ?_
  refine rg0 ?_
  iterate 3 refine vp ?_
  refine vn ?_
  exact nx [some 0, some 1, some 2] (l3612, r3613, (IntKind.i64.wrap (p3614 + 1))) h
  refine cT ?_
  refine rs0 ?_
  iterate 3 refine vp ?_
  refine eI h F fun x3623 F h => ?_
  iterate 2 refine vp ?_
  refine nm cS h F fun l3624 F h => ?_
  refine vn ?_
  refine rg0 ?_
  iterate 3 refine vp ?_
  refine vn ?_
  refine sh ?_
  refine rg0 ?_
  iterate 3 refine vp ?_
  refine vn ?_
  exact nx [some 0, some 1, some 2] (l3624, (IntKind.i64.wrap (r3613 + 1)), (IntKind.i64.wrap (p3614 + 1))) h
  refine cT ?_
  refine rs0 ?_
  iterate 2 refine vp ?_
  refine vn ?_
  cases h
  exact Wp.ret (enH [some 0, some 1, some 2])

theorem con_flow_DeadNodes_1 {n : Nat} {n_0 : Str} {b0 : List Str} {b1 : List Str} {r : Bool} (h : flow_DeadNodes_1 n n_0 b0 b1 = some r) : ConH Tryz.prog G0 107 [.str n_0, .hptr 0 0 0, .hptr 1 0 0] [.var [aL cS b0], .var [aL cS b1]] (.bool r) [.var [aL cS b0], .var [aL cS b1]] := by
  refine conH_of (T := TT0) tt_ok Tryz.func107 (c := _) (by unfold Tryz.f107; rfl) Tryz.ntmps107 (rs := [.tmp 4]) (by rw [Tryz.results107]) (by unfold Tryz.f107; rfl) (by simp) (k := 2) rfl rfl ?_
  try simp only [argsCh]
  have F := True.intro
  dsimp only [flow_DeadNodes_1] at h
  refine rs0 ?_
  refine vp ?_
  refine vn ?_
  refine rs0 ?_
  iterate 2 refine vp ?_
  obtain ⟨r3884, hr3883, h⟩ := obind h
  refine vc (con_slices_Contains_string hr3883) ?_
  refine vp ?_
  refine sB h F (fun F h => ?_) fun F h => ?_
  refine vs ?_
  refine vs ?_
  refine vs ?_
  iterate 2 refine vp ?_
  refine vn ?_
  cases h
  exact Wp.ret (enH [some 0, some 1])
  refine vg ?_
  refine vg ?_
  obtain ⟨r3886, hr3885, h⟩ := obind h
  refine vc (con_slices_Contains_string hr3885) ?_ (hg := by (simp [F]; done))
  iterate 2 refine vp ?_
  refine vn ?_
  cases h
  exact Wp.ret (enH [some 0, some 1])

theorem con_slices_ContainsFunc_int_c102 {n : Nat} {s0 : List Int} {m1 : List (Str × Bool)} {b2 : ApiRung} {r : Bool} (h : slices_ContainsFunc_int_c102 n s0 m1 b2 = some r) : ConH Tryz.prog G0 100 [aL (cI .i64) s0, .clos 102 [] [.hptr 0 0 0, .hptr 2 0 0]] [.var [.mp 1], .map (mAV AV.str cB m1), .var [.str b2.Label, aL cApiContact b2.Contacts, aL cApiCoil b2.Coils, .str b2.Jump]] (.bool r) [.var [.mp 1], .map (mAV AV.str cB m1), .var [.str b2.Label, aL cApiContact b2.Contacts, aL cApiCoil b2.Coils, .str b2.Jump]] := by
  refine conH_of (T := TT0) tt_ok Tryz.func100 (c := _) (by unfold Tryz.f100; rfl) Tryz.ntmps100 (rs := [.tmp 4]) (by rw [Tryz.results100]) (by unfold Tryz.f100; rfl) (by simp) (k := 3) rfl rfl ?_
  try simp only [argsCh]
  have F := True.intro
  dsimp only [slices_ContainsFunc_int_c102] at h
  refine rs0 ?_
  refine vp ?_
  refine vn ?_
  refine rs0 ?_
  iterate 2 refine vp ?_
  obtain ⟨r2433, hr2432, h⟩ := obind h
  refine vh [0, 1, 2] (con_slices_IndexFunc_int_c102 hr2432) ?_
  iterate 2 refine vp ?_
  refine vn ?_
  cases h
  exact Wp.ret (enH [some 0, some 1, some 2])

theorem con_graph_Incoming {n : Nat} {r_0 : ApiRung} {node1 : Str} {r : (List Int)} (h : graph_Incoming n r_0 node1 = some r) : Con Tryz.prog G0 101 [.agg (cApiRung r_0), .str node1] (aL (cI .i64) r) [] := by
  refine con_of (T := TT0) tt_ok Tryz.func101 (c := _) (by unfold Tryz.f101; rfl) Tryz.ntmps101 (rs := [.tmp 4]) (by rw [Tryz.results101]) (by unfold Tryz.f101; rfl) (by simp) ?_
  simp only [argsCh]
  have F := True.intro
  dsimp only [graph_Incoming] at h
  refine rs0 ?_
  iterate 3 refine vp ?_
  refine vn ?_
  refine rs0 ?_
  iterate 2 refine vp ?_
  obtain ⟨r2405, hr2404, h⟩ := obind h
  refine vh [1] (con_graph_numbers_c134 hr2404) ?_
  refine vp ?_
  refine vn ?_
  cases h
  exact Wp.ret en0

end Go.Proofs.YtaebdeidbibfkaaGreatDoor
