/- Contracts: models of functions are right. No law is proved here. -/
import Derived.Test.YtfghchpnolfllaaGMod
import Derived.Test.YtfghchpnolfllaaTab
import Derived.Test.YtfghchpnolfllaaGC2
import Derived.Test.YtfghchpnolfllaaGC4
import Derived.Test.YtfghchpnolfllaaGC5
namespace Go.Proofs.Ytfghchpnolfllaa
open Go.Av Go.G
attribute [-simp] Int.natCast_tdiv_eq_ediv
attribute [local simp] runf guardA opf St.ev Go.Av.look St.setd constAV constAV0 opBin opLen intBin St.need lookT TT0 tab resA resOne resAll blt_dec ble_dec beq_dec isPure
attribute [local simp] opMakeSlice opCopy opIndexAddr opLoad opStore St.mem St.rows opUn calleeA toArgs toArg toArg0 toArgs0 shift shift0 shift1 splice cellsOf isFree ofCells TS.isAgg isCell strBin opConvert
attribute [local simp] opBuildSlice fillA opAppend eqC eqA cksB ckB St.newBox runI valKind withinB readsHp refsD refs noSl opFieldAddr opBuild placeOf Op.operands Call.operands opIndex opExtract opSlice opField partA
attribute [local simp] loA hiA lenA opMakeMap opLookup opMapUpdate keyOk findA_int findA_str putA_strB putA_strI putA_intB putA_intI mAV_length mAV_nil cA1 cA2 cA3 cA4 opNilCheck opMakeFunc opRange
attribute [local simp] aL cI cB cS cL rw_map fz_rw fz_const dropRow_rw fz_append fz_set fz_copy fz_rows rowLen_rw rowsLen_nil rowsLen_cons rowsLen_append rowsLen_map rowsLen_take rowsLen_drop rowsLen_replicate take_map_len take_map_le drop_map_len take_drop_len chunks isScalar isScalar0
attribute [local simp] putBack putAt objMap mapC mapA mapT map0 bid rid memB passed closedB argsH argH argH0 argsH0 objIds ids0 idsC isLocT isLocA isLocC isLoc0 LocObj
attribute [local congr] bind_congr1 map_congr1 cond_congr1
attribute [local simp] cApiAddr cApiContact cApiCoil cApiRung cApiLadder cApiState cApiSize
set_option maxHeartbeats 4000000
set_option maxRecDepth 20000
set_option linter.unusedSimpArgs false
set_option linter.unusedVariables false

theorem con_law20_TooLarge {n : Nat} {l0 : ApiLadder} {st1 : ApiState} {ins2 : List (List Bool)} {r : Int} (h : law20_TooLarge n l0 st1 ins2 = some r) : Con Try.prog 9 [.agg (cApiLadder l0), .agg (cApiState st1), aL (cL cB) ins2] (.int .i64 r) [] := by
  refine con_of (T := TT0) tt_ok Try.func9 (c := _) (by unfold Try.f9; rfl) Try.ntmps9 (rs := [.tmp 6]) (by rw [Try.results9]) (by unfold Try.f9; rfl) (by simp) ?_
  simp only [argsCh]
  have F := True.intro
  dsimp only [law20_TooLarge] at h
  refine rs0 ?_
  iterate 3 refine vp ?_
  refine vn ?_
  refine jn (fun _ : Unit => { ch := [(2, aL (cL cB) ins2), (3, .hptr 0 0 0), (4, .hptr 1 0 0)], hp := [.var [.int .i64 l0.I, .int .i64 l0.Q, .int .i64 l0.M, aL cApiRung l0.Rungs], .var [aL cB st1.Q, aL cB st1.M, aL cB st1.E]], base := 0, n := 30, cond := True }) (fun x => law20_TooLarge_J1 n l0 st1 ins2 = some r) ?_ ?_
  clear h
  rintro _ h
  dsimp only [law20_TooLarge_J1] at h
  try dsimp only
  refine Wp.seq ?_
  refine rs0 ?_
  iterate 4 refine vp ?_
  refine sD h F (fun F h => ?_) fun F h => ?_
  refine vg ?_
  refine vg ?_
  refine nl cApiState h F fun l5 m F h => ?_
  try simp only [m]
  clear m
  obtain ⟨r11, hr10, h⟩ := obind h
  refine vc (con_law03_TooLarge hr10) ?_ (hg := by (simp [F]; done))
  refine vg ?_
  refine vp ?_
  refine vn ?_
  refine sD h F (fun F h => ?_) fun F h => ?_
  refine cF ?_
  refine Wp.skip ?_
  refine sh ?_
  refine rs0 ?_
  refine vp ?_
  obtain ⟨r67, hr66, h⟩ := obind h
  refine vc (con_law17_TooLarge hr66) ?_
  refine vp ?_
  refine vn ?_
  cases h
  exact Wp.ret en0
  refine cT ?_
  refine rs0 ?_
  refine vp ?_
  refine vn ?_
  cases h
  exact Wp.ret en0
  refine vs ?_
  refine vs ?_
  refine vs ?_
  refine vs ?_
  refine vp ?_
  refine vn ?_
  refine cT ?_
  refine rs0 ?_
  refine vp ?_
  refine vn ?_
  cases h
  exact Wp.ret en0
  refine rs0 ?_
  iterate 3 refine vp ?_
  refine vn ?_
  refine Wp.block ?_
  refine lp [some 0, some 1] (fun p69 : Int => { ch := [(2, aL (cL cB) ins2), (3, .hptr 0 0 0), (4, .hptr 1 0 0), (9, aL (cL cB) ins2), (10, .int .i64 (ins2.length : Int)), (11, .int .i64 p69)], hp := [.var [.int .i64 l0.I, .int .i64 l0.Q, .int .i64 l0.M, aL cApiRung l0.Rungs], .var [aL cB st1.Q, aL cB st1.M, aL cB st1.E]], base := 0, n := 30, cond := True }) (fun m x => law20_TooLarge_L2 n l0 st1 ins2 m x = some r) n 0 h ?_
  rintro rec_n2 p69 h
  dsimp only [law20_TooLarge_L2] at h
  try dsimp only
  refine rs0 ?_
  refine vp ?_
  refine vn ?_
  refine Wp.seq ?_
  refine sD h F (fun F h => ?_) fun F h => ?_
  refine cF ?_
  refine Wp.exit ?_
  exact nx [some 0, some 1] () h
  refine cT ?_
  refine Wp.skip ?_
  refine sh ?_
  refine Wp.seq ?_
  refine Wp.block ?_
  refine rs0 ?_
  refine eI h F fun x71 F h => ?_
  iterate 3 refine vp ?_
  refine vn ?_
  refine rs0 ?_
  iterate 3 refine vp ?_
  refine vn ?_
  refine sD h F (fun F h => ?_) fun F h => ?_
  refine cF ?_
  refine Wp.skip ?_
  refine sh ?_
  refine rg0 ?_
  iterate 2 refine vp ?_
  refine vn ?_
  exact nx [some 0, some 1] (IntKind.i64.wrap (p69 + 1)) h
  refine cT ?_
  refine rs0 ?_
  refine vp ?_
  refine vn ?_
  cases h
  exact Wp.ret en0

theorem con_pathmodel_SlotBases {n : Nat} {l0 : ApiLadder} {r : (List Int)} (h : pathmodel_SlotBases n l0 = some r) : Con Try.prog 17 [.agg (cApiLadder l0)] (aL (cI .i64) r) [] := by
  refine con_of (T := TT0) tt_ok Try.func17 (c := _) (by unfold Try.f17; rfl) Try.ntmps17 (rs := [.tmp 2]) (by rw [Try.results17]) (by unfold Try.f17; rfl) (by simp) ?_
  simp only [argsCh]
  have F := True.intro
  dsimp only [pathmodel_SlotBases] at h
  refine rs0 ?_
  iterate 2 refine vp ?_
  refine vn ?_
  refine rs0 ?_
  iterate 4 refine vp ?_
  refine gd h F fun F h => ?_
  refine vp ?_
  refine nl (cI .i64) h F fun l919 m F h => ?_
  try simp only [m]
  clear m
  refine vp ?_
  refine vn ?_
  refine Wp.seq ?_
  refine rs0 ?_
  iterate 4 refine vp ?_
  refine vn ?_
  refine Wp.block ?_
  refine lp [some 1] (fun x : Int × (List Int) => { ch := [(3, .sl 0 0 x.2.length), (12, aL cApiRung l0.Rungs), (13, .int .i64 (l0.Rungs.length : Int)), (14, .int .i64 x.1)], hp := [.arr 1 x.2.length (rw (x.2.map (cI .i64)))], base := 0, n := 31, cond := True }) (fun m x => pathmodel_SlotBases_L1 n l0 m x.1 x.2 = some r) n (0, l919) h ?_
  rintro rec_n1 ⟨p936, l937⟩ h
  dsimp only [pathmodel_SlotBases_L1] at h
  try dsimp only
  refine rs0 ?_
  refine vp ?_
  refine vn ?_
  refine Wp.seq ?_
  refine sD h F (fun F h => ?_) fun F h => ?_
  refine cF ?_
  refine Wp.exit ?_
  refine sh ?_
  refine rs0 ?_
  iterate 2 refine vp ?_
  refine vn ?_
  cases h
  exact Wp.ret en0
  refine cT ?_
  refine Wp.skip ?_
  refine sh ?_
  refine Wp.seq ?_
  refine Wp.block ?_
  refine rs0 ?_
  refine vp ?_
  refine eI h F fun x943 F h => ?_
  iterate 5 refine vp ?_
  refine vn ?_
  refine dw1 (fun d => Nat.beq d 28 || Nat.beq d 1028) [0, 1] ?_
  refine du 3 ?_
  refine eI h F fun x944 F h => ?_
  refine du 3 ?_
  obtain ⟨r946, hr945, h⟩ := obind h
  refine dc (con_rungeval_EdgeCount hr945) ?_
  refine du 2 ?_
  refine gd h F fun F h => ?_
  refine db ?_
  refine nm (cI .i64) h F fun l947 F h => ?_
  refine du 1 ?_
  refine dn ?_
  refine sh ?_
  refine rg0 ?_
  iterate 2 refine vp ?_
  refine vn ?_
  exact nx [some 2] ((IntKind.i64.wrap (p936 + 1)), l947) h

theorem con_state_Read {n : Nat} {in0 : List Bool} {st1 : ApiState} {a2 : ApiAddr} {r : Bool × Int} (h : state_Read n in0 st1 a2 = some r) : Con Try.prog 90 [aL cB in0, .agg (cApiState st1), .agg (cApiAddr a2)] (.tup [.bool r.1, .int .i64 r.2]) [] := by
  refine con_of (T := TT0) tt_ok Try.func90 (c := _) (by unfold Try.f90; rfl) Try.ntmps90 (rs := [.tmp 6, .tmp 7]) (by rw [Try.results90]) (by unfold Try.f90; rfl) (by simp) ?_
  simp only [argsCh]
  have F := True.intro
  dsimp only [state_Read] at h
  refine rs0 ?_
  iterate 4 refine vp ?_
  refine vn ?_
  refine rs0 ?_
  iterate 8 refine vp ?_
  refine vn ?_
  refine Wp.seq ?_
  refine rs0 ?_
  iterate 4 refine vp ?_
  refine sD h F (fun F h => ?_) fun F h => ?_
  refine vg ?_
  refine vg ?_
  refine vg ?_
  refine vp ?_
  refine vn ?_
  refine sD h F (fun F h => ?_) fun F h => ?_
  refine cF ?_
  refine Wp.skip ?_
  refine sh ?_
  refine dw (fun _ => false) [1, 2] ?_
  refine du 2 ?_
  refine sP h F (fun F h => ?_) fun F h => ?_
  refine du 4 ?_
  obtain ⟨⟨r1033, r1034⟩, hr1032, h⟩ := obind h
  dsimp only at h
  refine dc (con_image_Get hr1032) ?_
  refine du 4 ?_
  refine dn ?_
  cases h
  exact Wp.ret en0
  refine sP h F (fun F h => ?_) fun F h => ?_
  refine du 4 ?_
  obtain ⟨⟨r1036, r1037⟩, hr1035, h⟩ := obind h
  dsimp only at h
  refine dc (con_image_Get hr1035) ?_
  refine du 4 ?_
  refine dn ?_
  cases h
  exact Wp.ret en0
  refine sP h F (fun F h => ?_) fun F h => ?_
  refine du 4 ?_
  obtain ⟨⟨r1039, r1040⟩, hr1038, h⟩ := obind h
  dsimp only at h
  refine dc (con_image_Get hr1038) ?_
  refine du 4 ?_
  refine dn ?_
  cases h
  exact Wp.ret en0
  cases h
  refine cT ?_
  refine rs0 ?_
  iterate 2 refine vp ?_
  refine vn ?_
  cases h
  exact Wp.ret en0
  refine vs ?_
  refine vs ?_
  refine vs ?_
  refine vp ?_
  refine vn ?_
  refine cT ?_
  refine rs0 ?_
  iterate 2 refine vp ?_
  refine vn ?_
  cases h
  exact Wp.ret en0

theorem con_slices_ContainsFunc_api_Rung_c54 {n : Nat} {s0 : List ApiRung} {b0 : ApiRung} {r : Bool} (h : slices_ContainsFunc_api_Rung_c54 n s0 b0 = some r) : ConH Try.prog 53 [aL cApiRung s0, .clos 54 [] [.hptr 0 0 0]] [.var [.str b0.Label, aL cApiContact b0.Contacts, aL cApiCoil b0.Coils, .str b0.Jump]] (.bool r) [.var [.str b0.Label, aL cApiContact b0.Contacts, aL cApiCoil b0.Coils, .str b0.Jump]] := by
  refine conH_of (T := TT0) tt_ok Try.func53 (c := _) (by unfold Try.f53; rfl) Try.ntmps53 (rs := [.tmp 4]) (by rw [Try.results53]) (by unfold Try.f53; rfl) (by simp) (k := 1) rfl rfl ?_
  have F := True.intro
  dsimp only [slices_ContainsFunc_api_Rung_c54] at h
  refine rs0 ?_
  refine vp ?_
  refine vn ?_
  refine rs0 ?_
  iterate 2 refine vp ?_
  obtain ⟨r872, hr871, h⟩ := obind h
  refine vh [0] (con_slices_IndexFunc_api_Rung_c54 hr871) ?_
  iterate 2 refine vp ?_
  refine vn ?_
  cases h
  exact Wp.ret (enH [some 0])

end Go.Proofs.Ytfghchpnolfllaa
