/- Contracts: models of functions are right. No law is proved here. -/
import Derived.Test.YtfghchpnolfllaaGMod
import Derived.Test.YtfghchpnolfllaaTab
import Derived.Test.YtfghchpnolfllaaGC0
import Derived.Test.YtfghchpnolfllaaGC3
import Derived.Test.YtfghchpnolfllaaGC4
import Derived.Test.YtfghchpnolfllaaGC5
namespace Go.Proofs.Ytfghchpnolfllaa
open Go.Av Go.G
attribute [-simp] Int.natCast_tdiv_eq_ediv
attribute [local simp] runf guardA opf St.ev Go.Av.look St.setd constAV constAV0 opBin opLen intBin St.need lookT TT0 tab resA resOne resAll blt_dec ble_dec beq_dec isPure
attribute [local simp] opMakeSlice opCopy opIndexAddr opLoad opStore St.mem St.rows opUn calleeA toArgs toArg toArg0 toArgs0 shift shift0 shift1 splice cellsOf isFree ofCells TS.isAgg isCell strBin opConvert
attribute [local simp] opBuildSlice fillA opAppend eqC eqA cksB ckB St.newBox runI valKind withinB readsHp refsD refs noSl opFieldAddr opBuild placeOf Op.operands Call.operands opIndex opExtract opSlice opField partA
attribute [local simp] loA hiA lenA opMakeMap opLookup opMapUpdate keyOk findA_int findA_str putA_strB putA_strI putA_intB putA_intI mAV_length mAV_nil cA1 cA2 cA3 cA4 opNilCheck opMakeFunc opRange
attribute [local simp] aL cI cB cS cL rw_map fz_rw fz_const dropRow_rw fz_append fz_set fz_copy fz_rows rowLen_rw rowsLen_nil rowsLen_cons rowsLen_append rowsLen_map rowsLen_take rowsLen_drop rowsLen_replicate take_map_len take_map_le drop_map_len take_drop_len chunks isScalar isScalar0
attribute [local simp] putBack putAt objMap mapC mapA mapT map0 bid rid memB passed closedB argsH argH argH0 argsH0 objIds ids0 idsC isLocT isLocA isLocC isLoc0 LocObj
attribute [local congr] bind_congr1 map_congr1 cond_congr1
attribute [local simp] cApiAddr cApiContact cApiCoil cApiRung cApiLadder cApiState cApiSize
set_option maxHeartbeats 4000000
set_option maxRecDepth 20000
set_option linter.unusedSimpArgs false
set_option linter.unusedVariables false

theorem con_state_Fits {n : Nat} {s0 : ApiSize} {st1 : ApiState} {r : Bool} (h : state_Fits n s0 st1 = some r) : Con Try.prog 32 [.agg (cApiSize s0), .agg (cApiState st1)] (.bool r) [] := by
  refine con_of (T := TT0) tt_ok Try.func32 (c := _) (by unfold Try.f32; rfl) Try.ntmps32 (rs := [.tmp 4]) (by rw [Try.results32]) (by unfold Try.f32; rfl) (by simp) ?_
  simp only [argsCh]
  have F := True.intro
  dsimp only [state_Fits] at h
  refine rs0 ?_
  iterate 3 refine vp ?_
  refine vn ?_
  refine rs0 ?_
  refine vp ?_
  obtain ⟨r952, hr951, h⟩ := obind h
  refine vc (con_state_images hr951) ?_
  iterate 2 refine vp ?_
  refine vn ?_
  refine Wp.seq ?_
  refine rs0 ?_
  iterate 8 refine vp ?_
  refine vn ?_
  refine Wp.block ?_
  refine lp [some 0, some 2] (fun p957 : Int => { ch := [(2, .hptr 0 0 0), (5, .hptr 1 0 0), (16, .agg [.int .i64 s0.Q, .int .i64 s0.M, .int .i64 s0.E]), (17, .int .i64 p957)], hp := [.var [.int .i64 s0.I, .int .i64 s0.Q, .int .i64 s0.M, .int .i64 s0.E], .var [aL cB r952.1, aL cB r952.2.1, aL cB r952.2.2]], base := 0, n := 31, cond := True }) (fun m x => state_Fits_L1 n s0 r952 m x = some r) n 0 h ?_
  rintro rec_n1 p957 h
  dsimp only [state_Fits_L1] at h
  try dsimp only
  refine rs0 ?_
  refine vp ?_
  refine vn ?_
  refine Wp.seq ?_
  refine sD h F (fun F h => ?_) fun F h => ?_
  refine cF ?_
  refine Wp.exit ?_
  refine sh ?_
  refine rs0 ?_
  refine vp ?_
  obtain ⟨r965, hr964, h⟩ := obind h
  refine vc (con_addr_CheckSize hr964) ?_
  iterate 2 refine vp ?_
  refine vn ?_
  cases h
  exact Wp.ret en0
  refine cT ?_
  refine Wp.skip ?_
  refine sh ?_
  refine Wp.seq ?_
  refine Wp.block ?_
  refine rs0 ?_
  refine vp ?_
  refine sP h F (fun F h => ?_) fun F h => ?_
  iterate 3 refine vp ?_
  refine vn ?_
  refine rs0 ?_
  iterate 6 refine vp ?_
  refine vn ?_
  refine sB h F (fun F h => ?_) fun F h => ?_
  refine cF ?_
  refine Wp.skip ?_
  refine sh ?_
  refine rg0 ?_
  iterate 2 refine vp ?_
  refine vn ?_
  exact nx [some 0, some 1] (IntKind.i64.wrap (p957 + 1)) h
  refine cT ?_
  refine rs0 ?_
  refine vp ?_
  refine vn ?_
  cases h
  exact Wp.ret en0
  refine sP h F (fun F h => ?_) fun F h => ?_
  iterate 3 refine vp ?_
  refine vn ?_
  refine rs0 ?_
  iterate 6 refine vp ?_
  refine vn ?_
  refine sB h F (fun F h => ?_) fun F h => ?_
  refine cF ?_
  refine Wp.skip ?_
  refine sh ?_
  refine rg0 ?_
  iterate 2 refine vp ?_
  refine vn ?_
  exact nx [some 0, some 1] (IntKind.i64.wrap (p957 + 1)) h
  refine cT ?_
  refine rs0 ?_
  refine vp ?_
  refine vn ?_
  cases h
  exact Wp.ret en0
  refine sP h F (fun F h => ?_) fun F h => ?_
  iterate 3 refine vp ?_
  refine vn ?_
  refine rs0 ?_
  iterate 6 refine vp ?_
  refine vn ?_
  refine sB h F (fun F h => ?_) fun F h => ?_
  refine cF ?_
  refine Wp.skip ?_
  refine sh ?_
  refine rg0 ?_
  iterate 2 refine vp ?_
  refine vn ?_
  exact nx [some 0, some 1] (IntKind.i64.wrap (p957 + 1)) h
  refine cT ?_
  refine rs0 ?_
  refine vp ?_
  refine vn ?_
  cases h
  exact Wp.ret en0
  cases h

theorem con_state_Write {n : Nat} {st0 : ApiState} {a1 : ApiAddr} {v2 : Bool} {r : ApiState × Int} (h : state_Write n st0 a1 v2 = some r) : Con Try.prog 93 [.agg (cApiState st0), .agg (cApiAddr a1), .bool v2] (.tup [.agg (cApiState r.1), .int .i64 r.2]) [] := by
  refine con_of (T := TT0) tt_ok Try.func93 (c := _) (by unfold Try.f93; rfl) Try.ntmps93 (rs := [.cell 6 27, .tmp 7]) (by rw [Try.results93]) (by unfold Try.f93; rfl) (by simp) ?_
  simp only [argsCh]
  have F := True.intro
  dsimp only [state_Write] at h
  refine rs0 ?_
  iterate 4 refine vp ?_
  refine vn ?_
  refine rs0 ?_
  refine vp ?_
  obtain ⟨r1166, hr1165, h⟩ := obind h
  refine vc (con_state_Clone hr1165) ?_
  iterate 2 refine vp ?_
  refine vn ?_
  refine rs0 ?_
  refine vp ?_
  refine vn ?_
  refine jn (fun x : (List Bool) × Int × (List Bool) => { ch := [(6, .hptr 0 0 0), (8, .hptr 1 0 0), (9, .int .i64 x.2.1)], hp := [.var [.nilsl, .nilsl, .nilsl], .var [aL cB x.1, aL cB x.2.2, aL cB r1166.E]], base := 0, n := 43, cond := True }) (fun x => state_Write_J1 r1166 x.1 x.2.1 x.2.2 = some r) ?_ ?_
  clear h
  rintro ⟨r1181, r1182, p1183⟩ h
  dsimp only [state_Write_J1] at h
  try dsimp only
  refine Wp.seq ?_
  refine rs0 ?_
  iterate 2 refine vp ?_
  refine vn ?_
  refine sB h F (fun F h => ?_) fun F h => ?_
  refine cF ?_
  refine Wp.skip ?_
  refine sh ?_
  refine rs0 ?_
  iterate 3 refine vp ?_
  refine vn ?_
  cases h
  exact Wp.ret en0
  refine cT ?_
  refine rs0 ?_
  iterate 4 refine vp ?_
  refine vn ?_
  cases h
  exact Wp.ret en0
  refine rs0 ?_
  iterate 2 refine vp ?_
  refine vn ?_
  refine Wp.block ?_
  refine rs0 ?_
  iterate 2 refine vp ?_
  refine vn ?_
  refine sB h F (fun F h => ?_) fun F h => ?_
  refine cF ?_
  refine rs0 ?_
  iterate 2 refine vp ?_
  refine vn ?_
  refine sB h F (fun F h => ?_) fun F h => ?_
  refine cF ?_
  refine rg0 ?_
  refine vp ?_
  refine vn ?_
  exact nx [some 2, some 3] (r1166.Q, 8, r1166.M) h
  refine cT ?_
  refine rg0 ?_
  iterate 5 refine vp ?_
  obtain ⟨⟨r1188, r1189⟩, hr1187, h⟩ := obind h
  dsimp only at h
  refine vc (con_image_Set hr1187) ?_
  iterate 6 refine vp ?_
  refine vn ?_
  exact nx [some 2, some 3] (r1166.Q, r1189, r1188) h
  refine cT ?_
  refine rg0 ?_
  iterate 5 refine vp ?_
  obtain ⟨⟨r1185, r1186⟩, hr1184, h⟩ := obind h
  dsimp only at h
  refine vc (con_image_Set hr1184) ?_
  iterate 6 refine vp ?_
  refine vn ?_
  exact nx [some 2, some 3] (r1185, r1186, r1166.M) h

theorem con_printer_part {n : Nat} {s0 : ApiSize} {kind1 : Int} {a2 : ApiAddr} {r : Int} (h : printer_part n s0 kind1 a2 = some r) : Con Try.prog 87 [.agg (cApiSize s0), .int .i64 kind1, .agg (cApiAddr a2)] (.int .i64 r) [] := by
  refine con_of (T := TT0) tt_ok Try.func87 (c := _) (by unfold Try.f87; rfl) Try.ntmps87 (rs := [.tmp 6]) (by rw [Try.results87]) (by unfold Try.f87; rfl) (by simp) ?_
  simp only [argsCh]
  have F := True.intro
  dsimp only [printer_part] at h
  refine rs0 ?_
  iterate 3 refine vp ?_
  refine vn ?_
  refine Wp.seq ?_
  refine rs0 ?_
  iterate 3 refine vp ?_
  refine sD h F (fun F h => ?_) fun F h => ?_
  refine vg ?_
  refine vg ?_
  refine vp ?_
  refine vn ?_
  refine sD h F (fun F h => ?_) fun F h => ?_
  refine cF ?_
  refine Wp.skip ?_
  refine sh ?_
  refine rs0 ?_
  iterate 2 refine vp ?_
  obtain ⟨r754, hr753, h⟩ := obind h
  refine vc (con_addr_CheckAddr hr753) ?_
  refine vp ?_
  refine vn ?_
  cases h
  exact Wp.ret en0
  refine cT ?_
  refine rs0 ?_
  refine vp ?_
  refine vn ?_
  cases h
  exact Wp.ret en0
  refine vs ?_
  refine vs ?_
  refine vp ?_
  refine vn ?_
  refine cT ?_
  refine rs0 ?_
  refine vp ?_
  refine vn ?_
  cases h
  exact Wp.ret en0

theorem con_slices_ContainsFunc_api_Rung_c86 {n : Nat} {s0 : List ApiRung} {b0 : ApiRung} {r : Bool} (h : slices_ContainsFunc_api_Rung_c86 n s0 b0 = some r) : ConH Try.prog 53 [aL cApiRung s0, .clos 86 [] [.hptr 0 0 0]] [.var [.str b0.Label, aL cApiContact b0.Contacts, aL cApiCoil b0.Coils, .str b0.Jump]] (.bool r) [.var [.str b0.Label, aL cApiContact b0.Contacts, aL cApiCoil b0.Coils, .str b0.Jump]] := by
  refine conH_of (T := TT0) tt_ok Try.func53 (c := _) (by unfold Try.f53; rfl) Try.ntmps53 (rs := [.tmp 4]) (by rw [Try.results53]) (by unfold Try.f53; rfl) (by simp) (k := 1) rfl rfl ?_
  have F := True.intro
  dsimp only [slices_ContainsFunc_api_Rung_c86] at h
  refine rs0 ?_
  refine vp ?_
  refine vn ?_
  refine rs0 ?_
  iterate 2 refine vp ?_
  obtain ⟨r743, hr742, h⟩ := obind h
  refine vh [0] (con_slices_IndexFunc_api_Rung_c86 hr742) ?_
  iterate 2 refine vp ?_
  refine vn ?_
  cases h
  exact Wp.ret (enH [some 0])

theorem con_pathmodel_behind {n : Nat} {l0 : ApiLadder} {at1 : Int} {r : Int} (h : pathmodel_behind n l0 at1 = some r) : Con Try.prog 58 [.agg (cApiLadder l0), .int .i64 at1] (.int .i64 r) [] := by
  refine con_of (T := TT0) tt_ok Try.func58 (c := _) (by unfold Try.f58; rfl) Try.ntmps58 (rs := [.tmp 4]) (by rw [Try.results58]) (by unfold Try.f58; rfl) (by simp) ?_
  simp only [argsCh]
  have F := True.intro
  dsimp only [pathmodel_behind] at h
  refine rs0 ?_
  iterate 3 refine vp ?_
  refine vn ?_
  refine rs0 ?_
  iterate 4 refine vp ?_
  refine gd h F fun F h => ?_
  refine vp ?_
  refine nm cApiRung h F fun l1225 F h => ?_
  refine vp ?_
  refine vn ?_
  refine dw (fun _ => false) [0, 1] ?_
  refine du 4 ?_
  obtain ⟨r1249, hr1248, h⟩ := obind h
  refine dr [0, 1] (con_slices_IndexFunc_api_Rung_c89 hr1248) ?_
  refine du 2 ?_
  refine dn ?_
  cases h
  exact Wp.ret en0

end Go.Proofs.Ytfghchpnolfllaa
