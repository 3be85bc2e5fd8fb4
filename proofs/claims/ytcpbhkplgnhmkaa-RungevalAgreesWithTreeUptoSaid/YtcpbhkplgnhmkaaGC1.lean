/- Contracts: models of functions are right. No law is proved here. -/
import Derived.Test.YtcpbhkplgnhmkaaGMod
import Derived.Test.YtcpbhkplgnhmkaaTak
import Derived.Test.YtcpbhkplgnhmkaaLawM11
namespace Go.Proofs.Ytcpbhkplgnhmkaa
open Go.Av Go.G
attribute [-simp] Int.natCast_tdiv_eq_ediv
attribute [local simp] runf guardA opf St.ev Go.Av.look St.setd constAV constAV0 opBin opLen intBin St.need lookT TT0 tab resA resOne resAll blt_dec ble_dec beq_dec isPure
attribute [local simp] opMakeSlice opCopy opIndexAddr opLoad opStore St.mem St.rows opUn calleeA toArgs toArg toArg0 toArgs0 shift shift0 shift1 splice cellsOf isFree ofCells TS.isAgg isCell strBin opConvert
attribute [local simp] opSlice3 opClear fz_clear opBuildSlice fillA opAppend eqC eqA cksB ckB St.newBox runI valKind withinB readsHp refsD refs noSl opFieldAddr opBuild opMax opMin placeOf Op.operands Call.operands opIndex opExtract opSlice opField partA
attribute [local simp] loA hiA lenA opMakeMap opLookup opMapUpdate keyOk findA_int findA_str findA_bool putA_strB putA_strI putA_strS putA_intB putA_intI putA_intS putA_boolI putA_boolB byteRow_rw bytesOf_rw opBytesStr mAV_length mAV_nil cA1 cA2 cA3 cA4 opNilCheck opMakeFunc opRange
attribute [local simp] aL cI cB cS cL rw_map fz_rw fz_const dropRow_rw fz_append fz_set fz_copy fz_rows rowLen_rw rowsLen_nil rowsLen_cons rowsLen_append rowsLen_map rowsLen_dm rowsLen_tm rowsLen_take rowsLen_drop rowsLen_replicate take_map_len take_map_le drop_map_len take_drop_len chunks isScalar isScalar0
attribute [local simp] putBack putAt objMap mapC mapA mapT map0 bid rid memB passed closedB argsH argH argH0 argsH0 objIds ids0 idsC isLocT isLocA isLocC isLoc0 LocObj
attribute [local congr] bind_congr1 map_congr1 cond_congr1
attribute [local simp] cApiAddr cApiContact cApiCoil cApiRung cApiState cReducePair cReduceEdge cTreeTree_eq TreeTree_Kind_mk TreeTree_N_mk TreeTree_Kids_mk eta_TreeTree
variable [Drawn]
set_option maxHeartbeats 4000000
set_option linter.unusedSectionVars false
set_option maxRecDepth 20000
set_option linter.unusedSimpArgs false
set_option linter.unusedVariables false

theorem con_rungeval_Conducts {n : Nat} {r_0 : ApiRung} {on1 : List Bool} {r : Bool × Int} (h : rungeval_Conducts n r_0 on1 = some r) : Con Try.prog G0 6 [.agg (cApiRung r_0), aL cB on1] (.tup [.bool r.1, .int .i64 r.2]) [] := by
  refine con_of (T := TT0) tt_ok Try.func6 (c := _) (by unfold Try.f6; rfl) Try.ntmps6 (rs := [.tmp 4, .tmp 5]) (by rw [Try.results6]) (by unfold Try.f6; rfl) (by simp) ?_
  simp only [argsCh]
  have F := True.intro
  dsimp only [rungeval_Conducts] at h
  refine rs0 ?_
  iterate 3 refine vp ?_
  refine vn ?_
  refine Wp.seq ?_
  refine rs0 ?_
  iterate 6 refine vp ?_
  refine vn ?_
  refine sB h F (fun F h => ?_) fun F h => ?_
  refine cF ?_
  refine Wp.skip ?_
  refine sh ?_
  refine rs0 ?_
  iterate 4 refine vp ?_
  refine vn ?_
  refine rs (fun d => Nat.beq d 19) ?_
  refine vp ?_
  refine nl cS h F fun l447 m F h => ?_
  try simp only [m]
  clear m
  refine vp ?_
  refine vn ?_
  refine Wp.seq ?_
  refine Wp.block ?_
  refine lp [some 0, some 1, some 2] (fun x : Nat × (List (Str × Bool)) × (List Str) => { ch := [(1, aL cB on1), (2, .hptr 0 0 0), (6, .mp 1), (7, .sl 2 x.1 (x.2.2.length - x.1))], hp := [.var [.str r_0.Label, aL cApiContact r_0.Contacts, aL cApiCoil r_0.Coils, .str r_0.Jump], .map (mAV AV.str cB x.2.1), .arr 1 x.2.2.length (rw (x.2.2.map cS))], base := 0, n := 64, cond := True, gl := G0 }) (fun m x => rungeval_Conducts_L1 n r_0 on1 m x.1 x.2.1 x.2.2 = some r) n (0, (mPut ([]) (⟨#[76]⟩ : Str) true), l447) h ?_
  rintro rec_n1 ⟨p462, p463, l464⟩ h
  dsimp only [rungeval_Conducts_L1] at h
  try dsimp only
  refine Wp.seq ?_
  refine rs0 ?_
  iterate 3 refine vp ?_
  refine vn ?_
  refine sD h F (fun F h => ?_) fun F h => ?_
  refine cF ?_
  refine Wp.exit ?_
  refine sh ?_
  refine rs0 ?_
  iterate 4 refine vp ?_
  refine vn ?_
  cases h
  exact Wp.ret en0
  refine cT ?_
  refine Wp.skip ?_
  refine sh ?_
  refine Wp.block ?_
  refine rs0 ?_
  refine vp ?_
  refine eN (m := 0) h F fun x479 F h => ?_
  simp only [List.getElem?_drop, Nat.add_zero] at F
  iterate 3 refine vp ?_
  refine vn ?_
  refine rs0 ?_
  refine vp ?_
  refine gd h F fun F h => ?_
  iterate 2 refine vp ?_
  refine vn ?_
  refine rs0 ?_
  iterate 4 refine vp ?_
  refine vn ?_
  refine Wp.block ?_
  refine lp [some 0, some 1, some 2] (fun x : Int × (List (Str × Bool)) × (List Str) × Nat => { ch := [(1, aL cB on1), (2, .hptr 0 0 0), (6, .mp 1), (7, .sl 2 x.2.2.2 (x.2.2.1.length - x.2.2.2)), (8, .str x479), (29, aL cApiContact r_0.Contacts), (30, .int .i64 (r_0.Contacts.length : Int)), (31, .int .i64 x.1)], hp := [.var [.str r_0.Label, aL cApiContact r_0.Contacts, aL cApiCoil r_0.Coils, .str r_0.Jump], .map (mAV AV.str cB x.2.1), .arr 1 x.2.2.1.length (rw (x.2.2.1.map cS))], base := 0, n := 64, cond := True, gl := G0 }) (fun m x => rungeval_Conducts_L2 r_0 on1 (rungeval_Conducts_L1 n r_0 on1 rec_n1) x479 m x.1 x.2.1 x.2.2.1 x.2.2.2 = some r) n (0, p463, l464, (p462 + 1)) h ?_
  rintro rec_n2 ⟨p483, p484, l485, p486⟩ h
  dsimp only [rungeval_Conducts_L2] at h
  try dsimp only
  refine rs0 ?_
  refine vp ?_
  refine vn ?_
  refine Wp.seq ?_
  refine sD h F (fun F h => ?_) fun F h => ?_
  refine cF ?_
  refine Wp.exit ?_
  exact nx [some 0, some 1, some 2] (p486, p484, l485) h
  refine cT ?_
  refine Wp.skip ?_
  refine sh ?_
  refine Wp.seq ?_
  refine Wp.block ?_
  refine rs0 ?_
  refine vp ?_
  refine eI h F fun x490 F h => ?_
  iterate 5 refine vp ?_
  refine vn ?_
  refine rs0 ?_
  iterate 2 refine vp ?_
  refine eI h F fun x491 F h => ?_
  iterate 3 refine vp ?_
  refine sB h F (fun F h => ?_) fun F h => ?_
  refine vs ?_
  refine vs ?_
  refine vs ?_
  refine vs ?_
  iterate 2 refine vp ?_
  refine vs ?_
  refine vs ?_
  refine vs ?_
  refine vs ?_
  refine vs ?_
  refine vp ?_
  refine vn ?_
  refine cF ?_
  refine Wp.skip ?_
  refine sh ?_
  refine rg0 ?_
  iterate 2 refine vp ?_
  refine vn ?_
  exact nx [some 0, some 1, some 2] ((IntKind.i64.wrap (p483 + 1)), p484, l485, p486) h
  refine vg ?_
  refine vg ?_
  refine vg ?_
  refine vg ?_
  iterate 2 refine vp ?_
  refine sE h F (fun _ F h => ?_) fun _ F h => ?_
  refine vs ?_
  refine vs ?_
  refine vs ?_
  refine vs ?_
  refine vs ?_
  refine vp ?_
  refine vn ?_
  refine cF ?_
  refine Wp.skip ?_
  refine sh ?_
  refine rg0 ?_
  iterate 2 refine vp ?_
  refine vn ?_
  exact nx [some 0, some 1, some 2] ((IntKind.i64.wrap (p483 + 1)), p484, l485, p486) h
  refine vg ?_
  refine vg ?_
  refine vg ?_
  refine vg ?_
  refine vg ?_
  refine vp ?_
  refine vn ?_
  refine sB h F (fun F h => ?_) fun F h => ?_
  refine cF ?_
  refine Wp.skip ?_
  refine sh ?_
  refine rg0 ?_
  iterate 2 refine vp ?_
  refine vn ?_
  exact nx [some 0, some 1, some 2] ((IntKind.i64.wrap (p483 + 1)), p484, l485, p486) h
  refine cT ?_
  refine rs0 ?_
  iterate 4 refine vp ?_
  refine vn ?_
  refine rg0 ?_
  iterate 4 refine vp ?_
  refine gd h F fun F h => ?_
  refine vp ?_
  refine nm cS h F fun l492 F h => ?_
  refine vp ?_
  refine vn ?_
  refine sh ?_
  refine rg0 ?_
  iterate 2 refine vp ?_
  refine vn ?_
  exact nx [some 0, some 1, some 4] ((IntKind.i64.wrap (p483 + 1)), (mPut p484 x490.To true), l492, 0) h
  refine cT ?_
  refine rs0 ?_
  iterate 2 refine vp ?_
  refine vn ?_
  cases h
  exact Wp.ret en0

theorem con_slices_Min_int {n : Nat} {x_0 : List Int} {r : Int} (h : slices_Min_int n x_0 = some r) : Con Try.prog G0 33 [aL (cI .i64) x_0] (.int .i64 r) [] := by
  refine con_of (T := TT0) tt_ok Try.func33 (c := _) (by unfold Try.f33; rfl) Try.ntmps33 (rs := [.tmp 2]) (by rw [Try.results33]) (by unfold Try.f33; rfl) (by simp) ?_
  simp only [argsCh]
  have F := True.intro
  dsimp only [slices_Min_int] at h
  refine rs0 ?_
  refine vp ?_
  refine vn ?_
  refine Wp.seq ?_
  refine rs0 ?_
  iterate 3 refine vp ?_
  refine vn ?_
  refine sD h F (fun F h => ?_) fun F h => ?_
  refine cF ?_
  refine Wp.skip ?_
  refine sh ?_
  refine rs0 ?_
  refine vp ?_
  refine eN (m := 0) h F fun x5413 F h => ?_
  iterate 3 refine vp ?_
  refine vn ?_
  refine Wp.seq ?_
  refine rs0 ?_
  refine vp ?_
  refine vn ?_
  refine Wp.block ?_
  refine lp [] (fun x : Int × Int => { ch := [(0, aL (cI .i64) x_0), (3, .int .i64 x.1), (4, .int .i64 x.2)], hp := [], base := 0, n := 25, cond := True, gl := G0 }) (fun m x => slices_Min_int_L1 x_0 m x.1 x.2 = some r) n (x5413, 1) h ?_
  rintro rec_n1 ⟨x5415, p5416⟩ h
  dsimp only [slices_Min_int_L1] at h
  try dsimp only
  refine Wp.seq ?_
  refine rs0 ?_
  iterate 4 refine vp ?_
  refine vn ?_
  refine sD h F (fun F h => ?_) fun F h => ?_
  refine cF ?_
  refine Wp.exit ?_
  refine sh ?_
  refine rs0 ?_
  iterate 2 refine vp ?_
  refine vn ?_
  cases h
  exact Wp.ret en0
  refine cT ?_
  refine Wp.skip ?_
  refine sh ?_
  refine Wp.seq ?_
  refine Wp.block ?_
  refine rg0 ?_
  iterate 3 refine vp ?_
  refine eI h F fun x5418 F h => ?_
  iterate 4 refine vp ?_
  refine vn ?_
  refine sh ?_
  refine rg0 ?_
  iterate 3 refine vp ?_
  refine vn ?_
  exact nx [] ((imin x5415 x5418), (IntKind.i64.wrap (p5416 + 1))) h
  refine cT ?_
  refine rg0 ?_
  cases h

theorem con_ref12_has {n : Nat} {l0 : List Str} {s1 : Str} {r : Bool} (h : ref12_has n l0 s1 = some r) : Con Try.prog G0 23 [aL cS l0, .str s1] (.bool r) [] := by
  refine con_of (T := TT0) tt_ok Try.func23 (c := _) (by unfold Try.f23; rfl) Try.ntmps23 (rs := [.tmp 4]) (by rw [Try.results23]) (by unfold Try.f23; rfl) (by simp) ?_
  simp only [argsCh]
  have F := True.intro
  dsimp only [ref12_has] at h
  refine rs0 ?_
  refine vp ?_
  refine vn ?_
  refine Wp.seq ?_
  refine rs0 ?_
  refine vp ?_
  refine vn ?_
  refine Wp.block ?_
  refine lp [] (fun p832 : Int => { ch := [(0, aL cS l0), (1, .str s1), (5, .int .i64 p832)], hp := [], base := 0, n := 18, cond := True, gl := G0 }) (fun m x => ref12_has_L1 l0 s1 m x = some r) n 0 h ?_
  rintro rec_n1 p832 h
  dsimp only [ref12_has_L1] at h
  try dsimp only
  refine Wp.seq ?_
  refine rs0 ?_
  iterate 4 refine vp ?_
  refine vn ?_
  refine sD h F (fun F h => ?_) fun F h => ?_
  refine cF ?_
  refine Wp.exit ?_
  refine sh ?_
  refine rs0 ?_
  refine vp ?_
  refine vn ?_
  cases h
  exact Wp.ret en0
  refine cT ?_
  refine Wp.skip ?_
  refine sh ?_
  refine Wp.seq ?_
  refine Wp.block ?_
  refine rs0 ?_
  iterate 2 refine vp ?_
  refine eI h F fun x834 F h => ?_
  iterate 4 refine vp ?_
  refine vn ?_
  refine sE h F (fun _ F h => ?_) fun _ F h => ?_
  refine cF ?_
  refine Wp.skip ?_
  refine sh ?_
  refine rg0 ?_
  iterate 3 refine vp ?_
  refine vn ?_
  exact nx [] (IntKind.i64.wrap (p832 + 1)) h
  refine cT ?_
  refine rs0 ?_
  refine vp ?_
  refine vn ?_
  cases h
  exact Wp.ret en0

theorem con_slices_Clone_bool {n : Nat} {s0 : List Bool} {r : (List Bool)} (h : slices_Clone_bool n s0 = some r) : Con Try.prog G0 61 [aL cB s0] (aL cB r) [] := by
  refine con_of (T := TT0) tt_ok Try.func61 (c := _) (by unfold Try.f61; rfl) Try.ntmps61 (rs := [.tmp 2]) (by rw [Try.results61]) (by unfold Try.f61; rfl) (by simp) ?_
  simp only [argsCh]
  have F := True.intro
  dsimp only [slices_Clone_bool] at h
  refine rs0 ?_
  refine vp ?_
  refine vn ?_
  refine Wp.seq ?_
  refine rs0 ?_
  refine vp ?_
  refine regv_isnil rfl (.inl rfl) rfl rfl rfl rfl rfl fun hb350 hl351 => ?_
  refine ⟨_, rfl, ?_⟩
  cases hb350
  replace h := isnil_f h
  clear hl351
  simp only [reduceCtorEq, if_true, if_false, Bool.not_true, Bool.not_false]
  refine vn ?_
  refine cF ?_
  refine Wp.skip ?_
  refine sh ?_
  refine rs0 ?_
  iterate 2 refine vp ?_
  refine gd h F fun F h => ?_
  iterate 2 refine vp ?_
  refine vn ?_
  cases h
  exact Wp.ret en0
  replace h := isnil_t (hl351 rfl) h
  simp only [reduceCtorEq, if_true, if_false, Bool.not_true, Bool.not_false]
  refine vn ?_
  refine cT ?_
  refine rs0 ?_
  refine vp ?_
  refine vn ?_
  cases h
  exact Wp.ret en0

theorem con_reduce_parallel_1 {n : Nat} {y0 : ReduceEdge} {b0 : ReduceEdge} {r : Bool} (h : reduce_parallel_1 n y0 b0 = some r) : ConH Try.prog G0 27 [.agg (cReduceEdge y0), .hptr 0 0 0] [.var [.str b0.pair.from_, .str b0.pair.to_, .int .i64 b0.t_.Kind, .int .i64 b0.t_.N, aL cTreeTree b0.t_.Kids]] (.bool r) [.var [.str b0.pair.from_, .str b0.pair.to_, .int .i64 b0.t_.Kind, .int .i64 b0.t_.N, aL cTreeTree b0.t_.Kids]] := by
  refine conH_of (T := TT0) tt_ok Try.func27 (c := _) (by unfold Try.f27; rfl) Try.ntmps27 (rs := [.tmp 3]) (by rw [Try.results27]) (by unfold Try.f27; rfl) (by simp) (k := 1) rfl rfl ?_
  try simp only [argsCh]
  have F := True.intro
  dsimp only [reduce_parallel_1] at h
  refine rs0 ?_
  iterate 2 refine vp ?_
  refine vn ?_
  refine rs0 ?_
  iterate 6 refine vp ?_
  refine vn ?_
  cases h
  exact Wp.ret (enH [some 0])

theorem con_rungeval_sees {n : Nat} {c0 : ApiContact} {r : Bool} (h : rungeval_sees n c0 = some r) : Con Try.prog G0 41 [.agg (cApiContact c0)] (.bool r) [] := by
  refine con_of (T := TT0) tt_ok Try.func41 (c := _) (by unfold Try.f41; rfl) Try.ntmps41 (rs := [.tmp 2]) (by rw [Try.results41]) (by unfold Try.f41; rfl) (by simp) ?_
  simp only [argsCh]
  have F := True.intro
  dsimp only [rungeval_sees] at h
  refine rs0 ?_
  iterate 2 refine vp ?_
  refine vn ?_
  refine rs0 ?_
  iterate 4 refine vp ?_
  refine sB h F (fun F h => ?_) fun F h => ?_
  refine vg ?_
  refine vg ?_
  refine vg ?_
  iterate 2 refine vp ?_
  refine vn ?_
  cases h
  exact Wp.ret en0
  refine vs ?_
  refine vs ?_
  refine vs ?_
  iterate 2 refine vp ?_
  refine vn ?_
  cases h
  exact Wp.ret en0

theorem con_graph_Outgoing_1 {n : Nat} {c0 : ApiContact} {b0 : Str} {r : Bool} (h : graph_Outgoing_1 n c0 b0 = some r) : ConH Try.prog G0 84 [.agg (cApiContact c0), .hptr 0 0 0] [.var [.str b0]] (.bool r) [.var [.str b0]] := by
  refine conH_of (T := TT0) tt_ok Try.func84 (c := _) (by unfold Try.f84; rfl) Try.ntmps84 (rs := [.tmp 3]) (by rw [Try.results84]) (by unfold Try.f84; rfl) (by simp) (k := 1) rfl rfl ?_
  try simp only [argsCh]
  have F := True.intro
  dsimp only [graph_Outgoing_1] at h
  refine rs0 ?_
  iterate 2 refine vp ?_
  refine vn ?_
  refine rs0 ?_
  iterate 5 refine vp ?_
  refine vn ?_
  cases h
  exact Wp.ret (enH [some 0])

end Go.Proofs.Ytcpbhkplgnhmkaa
