/- Contracts: models of functions are right. No law is proved here. -/
import Derived.Test.YtaebdeidbibfkaaGreatDoorGMod
import Derived.Test.YtaebdeidbibfkaaGreatDoorTaz
import Derived.Test.YtaebdeidbibfkaaGreatDoorGC4
import Derived.Test.YtaebdeidbibfkaaGreatDoorGC5
namespace Go.Proofs.YtaebdeidbibfkaaGreatDoor
open Go.Av Go.G
attribute [-simp] Int.natCast_tdiv_eq_ediv
attribute [local simp] runf guardA opf St.ev Go.Av.look St.setd constAV constAV0 opBin opLen intBin St.need lookT TT0 tab resA resOne resAll blt_dec ble_dec beq_dec isPure
attribute [local simp] opMakeSlice opCopy opIndexAddr opLoad opStore St.mem St.rows opUn calleeA toArgs toArg toArg0 toArgs0 shift shift0 shift1 splice cellsOf isFree ofCells TS.isAgg isCell strBin opConvert
attribute [local simp] opSlice3 opClear fz_clear opBuildSlice fillA opAppend eqC eqA cksB ckB St.newBox runI valKind withinB readsHp refsD refs noSl opFieldAddr opBuild opMax opMin placeOf Op.operands Call.operands opIndex opExtract opSlice opField partA
attribute [local simp] loA hiA lenA opMakeMap opLookup opMapUpdate keyOk findA_int findA_str findA_bool putA_strB putA_strI putA_strS putA_intB putA_intI putA_intS putA_boolI putA_boolB mAV_length mAV_nil cA1 cA2 cA3 cA4 opNilCheck opMakeFunc opRange
attribute [local simp] aL cI cB cS cL rw_map fz_rw fz_const dropRow_rw fz_append fz_set fz_copy fz_rows rowLen_rw rowsLen_nil rowsLen_cons rowsLen_append rowsLen_map rowsLen_dm rowsLen_tm rowsLen_take rowsLen_drop rowsLen_replicate take_map_len take_map_le drop_map_len take_drop_len chunks isScalar isScalar0
attribute [local simp] putBack putAt objMap mapC mapA mapT map0 bid rid memB passed closedB argsH argH argH0 argsH0 objIds ids0 idsC isLocT isLocA isLocC isLoc0 LocObj
attribute [local congr] bind_congr1 map_congr1 cond_congr1
attribute [local simp] cApiAddr cApiContact cApiCoil cApiRung cApiIns cApiLadder cApiSize cApiProgram cReducePair cReduceEdge cTreeTree_eq TreeTree_Kind_mk TreeTree_N_mk TreeTree_Kids_mk eta_TreeTree cRef14Tree_eq Ref14Tree_Kind_mk Ref14Tree_N_mk Ref14Tree_Kids_mk eta_Ref14Tree
set_option maxHeartbeats 4000000
set_option maxRecDepth 20000
set_option linter.unusedSimpArgs false
set_option linter.unusedVariables false

theorem con_ref14_check_v1 (n : Nat) : ∀ {_append0 : Ref14Tree} {a1 : Int} {r : Int × (List Int)}, ref14_check_v1 n _append0 a1 = some r → Con Tryz.prog G0 80 [.agg [.int .i64 _append0.Kind, .int .i64 _append0.N, aL cRef14Tree _append0.Kids], .int .i64 a1, .nilsl] (.tup [.int .i64 r.1, aL (cI .i64) r.2]) [] := by
  induction n with
  | zero => intro _append0 a1 r h; simp [ref14_check_v1] at h
  | succ n Hslf_ref14_check_v1 =>
   intro _append0 a1 r h
   refine con_of (T := TT0) tt_ok Tryz.func80 (c := _) (by unfold Tryz.f80; rfl) Tryz.ntmps80 (rs := [.tmp 6, .tmp 7]) (by rw [Tryz.results80]) (by unfold Tryz.f80; rfl) (by simp) ?_
   simp only [argsCh]
   have F := True.intro
   dsimp only [ref14_check_v1] at h
   refine rs0 ?_
   iterate 3 refine vp ?_
   refine vn ?_
   refine Wp.seq ?_
   refine rs0 ?_
   iterate 4 refine vp ?_
   refine sD h F (fun F h => ?_) fun F h => ?_
   refine vg ?_
   refine vg ?_
   refine vg ?_
   refine vp ?_
   refine vn ?_
   refine sD h F (fun F h => ?_) fun F h => ?_
   refine cF ?_
   refine Wp.skip ?_
   refine sh ?_
   refine Wp.seq ?_
   refine rs0 ?_
   iterate 3 refine vp ?_
   refine vn ?_
   refine sB h F (fun F h => ?_) fun F h => ?_
   refine cF ?_
   refine Wp.skip ?_
   refine sh ?_
   refine Wp.seq ?_
   refine rs0 ?_
   iterate 3 refine vp ?_
   refine vn ?_
   refine sB h F (fun F h => ?_) fun F h => ?_
   refine cF ?_
   refine Wp.skip ?_
   refine sh ?_
   refine Wp.seq ?_
   refine rs0 ?_
   iterate 4 refine vp ?_
   refine vn ?_
   refine sD h F (fun F h => ?_) fun F h => ?_
   refine cF ?_
   refine Wp.skip ?_
   refine sh ?_
   refine jn (fun _ : Unit => { ch := [(1, .int .i64 a1), (2, .nilsl), (3, .hptr 0 0 0)], hp := [.var [.int .i64 _append0.Kind, .int .i64 _append0.N, aL cRef14Tree _append0.Kids]], base := 0, n := 109, cond := True, gl := G0 }) (fun x => ref14_check_v1_J2 n _append0 a1 = some r) ?_ ?_
   clear h
   rintro _ h
   dsimp only [ref14_check_v1_J2] at h
   try dsimp only
   refine Wp.seq ?_
   refine rs0 ?_
   refine vp ?_
   refine vn ?_
   refine Wp.block ?_
   refine lp [some 0, none] (fun x : Int × (List Int) => { ch := [(1, .int .i64 a1), (2, .sl 1 0 x.2.length), (3, .hptr 0 0 0), (10, .int .i64 x.1)], hp := [.var [.int .i64 _append0.Kind, .int .i64 _append0.N, aL cRef14Tree _append0.Kids], .arr 1 x.2.length (rw (x.2.map (cI .i64)))], base := 0, n := 109, cond := True, gl := G0 }) (fun m x => ref14_check_v1_L3 n _append0 a1 m x.1 x.2 = some r) n (0, []) h ?_
   rintro rec_n3 ⟨p16214, p16215⟩ h
   dsimp only [ref14_check_v1_L3] at h
   try dsimp only
   refine Wp.seq ?_
   refine rs0 ?_
   iterate 5 refine vp ?_
   refine vn ?_
   refine sD h F (fun F h => ?_) fun F h => ?_
   refine cF ?_
   refine Wp.exit ?_
   refine sh ?_
   refine rs0 ?_
   iterate 3 refine vp ?_
   refine vn ?_
   cases h
   exact Wp.ret en0
   refine cT ?_
   refine Wp.skip ?_
   refine sh ?_
   refine Wp.seq ?_
   refine Wp.block ?_
   refine rs (fun d => Nat.beq d 100) ?_
   iterate 3 refine vp ?_
   refine eI h F fun x16220 F h => ?_
   iterate 4 refine vp ?_
   obtain ⟨⟨r16222, q16223⟩, hr16221, h⟩ := obind h
   dsimp only at h
   refine vh [1] (con_ref14_check_o1_v1 hr16221) ?_
   iterate 5 refine vp ?_
   refine vn ?_
   refine Wp.seq ?_
   refine rs0 ?_
   iterate 2 refine vp ?_
   refine vn ?_
   refine sB h F (fun F h => ?_) fun F h => ?_
   refine cF ?_
   refine Wp.skip ?_
   refine sh ?_
   refine rg0 ?_
   iterate 2 refine vp ?_
   refine vn ?_
   refine sh ?_
   refine rg0 ?_
   iterate 3 refine vp ?_
   refine vn ?_
   exact nx [some 0, some 2] ((IntKind.i64.wrap (p16214 + 1)), q16223) h
   refine cT ?_
   refine rs0 ?_
   iterate 4 refine vp ?_
   refine vn ?_
   cases h
   exact Wp.ret en0
   refine rs0 ?_
   refine vp ?_
   refine vn ?_
   refine Wp.block ?_
   refine lp [some 0] (fun p16225 : Int => { ch := [(1, .int .i64 a1), (2, .nilsl), (3, .hptr 0 0 0), (9, .int .i64 p16225)], hp := [.var [.int .i64 _append0.Kind, .int .i64 _append0.N, aL cRef14Tree _append0.Kids]], base := 0, n := 109, cond := True, gl := G0 }) (fun m x => ref14_check_v1_L4 n _append0 a1 m x = some r) n 0 h ?_
   rintro rec_n4 p16225 h
   dsimp only [ref14_check_v1_L4] at h
   try dsimp only
   refine Wp.seq ?_
   refine rs0 ?_
   iterate 5 refine vp ?_
   refine vn ?_
   refine sD h F (fun F h => ?_) fun F h => ?_
   refine cF ?_
   refine Wp.exit ?_
   exact nx [some 0] () h
   refine cT ?_
   refine Wp.skip ?_
   refine sh ?_
   refine Wp.seq ?_
   refine Wp.block ?_
   refine dw (fun _ => false) [0] ?_
   refine du 3 ?_
   refine eI h F fun x16227 F h => ?_
   refine du 6 ?_
   refine dn ?_
   refine sB h F (fun F h => ?_) fun F h => ?_
   refine cF ?_
   refine Wp.skip ?_
   refine sh ?_
   refine rg0 ?_
   iterate 3 refine vp ?_
   refine vn ?_
   exact nx [some 0] (IntKind.i64.wrap (p16225 + 1)) h
   refine cT ?_
   refine rs0 ?_
   iterate 3 refine vp ?_
   refine vn ?_
   cases h
   exact Wp.ret en0
   refine cT ?_
   refine rs0 ?_
   iterate 3 refine vp ?_
   refine vn ?_
   cases h
   exact Wp.ret en0
   refine cT ?_
   refine rs0 ?_
   iterate 3 refine vp ?_
   refine vn ?_
   cases h
   exact Wp.ret en0
   refine cT ?_
   refine Wp.seq ?_
   refine rs0 ?_
   iterate 4 refine vp ?_
   refine vn ?_
   refine sD h F (fun F h => ?_) fun F h => ?_
   refine cF ?_
   refine Wp.skip ?_
   refine sh ?_
   refine Wp.seq ?_
   refine rs0 ?_
   iterate 4 refine vp ?_
   refine sD h F (fun F h => ?_) fun F h => ?_
   refine vg ?_
   refine vg ?_
   refine vg ?_
   refine vg ?_
   refine vp ?_
   refine vn ?_
   refine sD h F (fun F h => ?_) fun F h => ?_
   refine cF ?_
   refine Wp.skip ?_
   refine sh ?_
   refine Wp.seq ?_
   refine rs0 ?_
   refine vp ?_
   refine vn ?_
   refine Wp.block ?_
   refine lp [some 0] (fun _ : Unit => { ch := [(2, .nilsl), (3, .hptr 0 0 0), (8, .int .i64 0)], hp := [.var [.int .i64 _append0.Kind, .int .i64 _append0.N, aL cRef14Tree _append0.Kids]], base := 0, n := 109, cond := True, gl := G0 }) (fun m x => ref14_check_v1_L1 _append0 m  = some r) n () h ?_
   rintro rec_n1 _ h
   dsimp only [ref14_check_v1_L1] at h
   try dsimp only
   refine Wp.seq ?_
   refine rs0 ?_
   iterate 4 refine vp ?_
   refine vn ?_
   refine sD h F (fun F h => ?_) fun F h => ?_
   refine cF ?_
   refine Wp.exit ?_
   refine sh ?_
   refine rs0 ?_
   iterate 4 refine vp ?_
   refine gd h F fun F h => ?_
   iterate 3 refine vp ?_
   refine vn ?_
   cases h
   exact Wp.ret en0
   refine cT ?_
   refine Wp.skip ?_
   refine sh ?_
   refine Wp.seq ?_
   refine Wp.block ?_
   refine dw (fun _ => false) [0] ?_
   refine du 2 ?_
   cases h
   refine cT ?_
   refine rs0 ?_
   iterate 3 refine vp ?_
   refine vn ?_
   cases h
   exact Wp.ret en0
   refine vs ?_
   refine vs ?_
   refine vs ?_
   refine vs ?_
   refine vp ?_
   refine vn ?_
   refine cT ?_
   refine rs0 ?_
   iterate 3 refine vp ?_
   refine vn ?_
   cases h
   exact Wp.ret en0
   refine cT ?_
   refine rs0 ?_
   iterate 3 refine vp ?_
   refine vn ?_
   cases h
   exact Wp.ret en0
   refine cT ?_
   refine rs0 ?_
   iterate 3 refine vp ?_
   refine vn ?_
   cases h
   exact Wp.ret en0
   refine vs ?_
   refine vs ?_
   refine vs ?_
   refine vp ?_
   refine vn ?_
   refine cT ?_
   refine rs0 ?_
   iterate 3 refine vp ?_
   refine vn ?_
   cases h
   exact Wp.ret en0

theorem con_slices_ContainsFunc_api_Rung_c153 {n : Nat} {s0 : List ApiRung} {b0 : ApiRung} {r : Bool} (h : slices_ContainsFunc_api_Rung_c153 n s0 b0 = some r) : ConH Tryz.prog G0 121 [aL cApiRung s0, .clos 153 [] [.hptr 0 0 0]] [.var [.str b0.Label, aL cApiContact b0.Contacts, aL cApiCoil b0.Coils, .str b0.Jump]] (.bool r) [.var [.str b0.Label, aL cApiContact b0.Contacts, aL cApiCoil b0.Coils, .str b0.Jump]] := by
  refine conH_of (T := TT0) tt_ok Tryz.func121 (c := _) (by unfold Tryz.f121; rfl) Tryz.ntmps121 (rs := [.tmp 4]) (by rw [Tryz.results121]) (by unfold Tryz.f121; rfl) (by simp) (k := 1) rfl rfl ?_
  try simp only [argsCh]
  have F := True.intro
  dsimp only [slices_ContainsFunc_api_Rung_c153] at h
  refine rs0 ?_
  refine vp ?_
  refine vn ?_
  refine rs0 ?_
  iterate 2 refine vp ?_
  obtain ⟨r10632, hr10631, h⟩ := obind h
  refine vh [0] (con_slices_IndexFunc_api_Rung_c153 hr10631) ?_
  iterate 2 refine vp ?_
  refine vn ?_
  cases h
  exact Wp.ret (enH [some 0])

theorem con_slices_ContainsFunc_api_Contact_c47 {n : Nat} {s0 : List ApiContact} {r : Bool} (h : slices_ContainsFunc_api_Contact_c47 n s0 = some r) : Con Tryz.prog G0 46 [aL cApiContact s0, .clos 47 [] []] (.bool r) [] := by
  refine con_of (T := TT0) tt_ok Tryz.func46 (c := _) (by unfold Tryz.f46; rfl) Tryz.ntmps46 (rs := [.tmp 4]) (by rw [Tryz.results46]) (by unfold Tryz.f46; rfl) (by simp) ?_
  simp only [argsCh]
  have F := True.intro
  dsimp only [slices_ContainsFunc_api_Contact_c47] at h
  refine rs0 ?_
  refine vp ?_
  refine vn ?_
  refine rs0 ?_
  iterate 2 refine vp ?_
  obtain ⟨r15175, hr15174, h⟩ := obind h
  refine vc (con_slices_IndexFunc_api_Contact_c47 hr15174) ?_
  iterate 2 refine vp ?_
  refine vn ?_
  cases h
  exact Wp.ret en0

end Go.Proofs.YtaebdeidbibfkaaGreatDoor
