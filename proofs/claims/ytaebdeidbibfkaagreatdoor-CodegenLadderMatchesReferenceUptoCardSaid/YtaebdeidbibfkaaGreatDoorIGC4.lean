/- Contracts: models of functions are right. No law is proved here. -/
import Derived.Test.YtaebdeidbibfkaaGreatDoorIGH
import Derived.Test.YtaebdeidbibfkaaGreatDoorIGC1
import Derived.Test.YtaebdeidbibfkaaGreatDoorIGC2
import Derived.Test.YtaebdeidbibfkaaGreatDoorIGC3
namespace Go.Proofs.YtaebdeidbibfkaaGreatDoor
open Go.Av Go.G
attribute [-simp] Int.natCast_tdiv_eq_ediv
attribute [local congr] Zx ZE Zy
variable [Drawn]
set_option maxHeartbeats 4000000
set_option linter.unusedSectionVars false
set_option maxRecDepth 20000
set_option linter.unusedSimpArgs false
set_option linter.unusedVariables false
theorem Z8s (n:Nat):∀ {a1:TreeTree} {b0:Str} {b0_1:List ApiContact} {b0_2:List ApiCoil} {b0_3:Str} {l1:List Int} {l2:List ApiIns} {r:(List ApiIns)},ZC n a1 b0 b0_1 b0_2 b0_3 l1 l2 = some r -> ConH Tryz.prog G0 49 [.hptr 0 0 0,.agg [.int .i64 a1.Kind,.int .i64 a1.N,aL Z6 a1.Kids]] [.var [.str b0,aL Z0 b0_1,aL Z4 b0_2,.str b0_3,.sl 1 0 l1.length,.sl 2 0 l2.length],.arr 1 l1.length (rw (l1.map (cI .i64))),.arr 4 l2.length (rw (l2.map Zb))] (.tup []) [.var [.str b0,aL Z0 b0_1,aL Z4 b0_2,.str b0_3,.sl 1 0 l1.length,.sl 3 0 r.length],.arr 1 l1.length (rw (l1.map (cI .i64))),.dead,.arr 4 r.length (rw (r.map Zb))]:=by
 induction n with
 | zero=>intro a1 b0 b0_1 b0_2 b0_3 l1 l2 r h; simp [ZC] at h
 | succ n Hslf_codegen_maker_lay_v1 =>
  intro a1 b0 b0_1 b0_2 b0_3 l1 l2 r h
  refine ZA (T:=TT0) tt_ok Tryz.func49 (c:=_) (by unfold Tryz.f49; rfl) Tryz.ntmps49 (rs:=[]) (by rw [Tryz.results49]) (by unfold Tryz.f49; rfl) (by simp) (k:=3) rfl rfl ?_
  try simp only [Z3]
  have F:=True.intro
  dsimp only [ZC] at h
  refine rs0 ?_
  refine vp ?_
  refine vn ?_
  refine Wp.seq ?_
  refine rs0 ?_
  iterate 3 refine vp ?_
  refine vn ?_
  refine sB h F (fun F h=>?_) fun F h=>?_
  refine cF ?_
  refine Wp.skip ?_
  refine sh ?_
  refine rs0 ?_
  iterate 3 refine vp ?_
  refine eN (m:=0) h F fun xb F h=>?_
  iterate 2 refine vp ?_
  obtain ⟨qc,hr15708,h⟩:=obind h
  refine vh [0,1,2] (Hslf_codegen_maker_lay_v1 hr15708) ?_
  refine vn ?_
  refine rs0 ?_
  iterate 2 refine vp ?_
  refine gd h F fun F h=>?_
  refine vp ?_
  refine nm Z6 h F fun ld F h=>?_
  iterate 2 refine vp ?_
  refine vn ?_
  refine Wp.block ?_
  refine lp [some 0,some 1,some 2,some 4,some 3] (fun x:(List ApiIns) × Int=>{ ch:=[(0,.hptr 0 0 0),(3,.hptr 4 0 0),(45,aL Z6 ld),(46,.int .i64 (ld.length:Int)),(47,.int .i64 x.2)],hp:=[.var [.str b0,aL Z0 b0_1,aL Z4 b0_2,.str b0_3,.sl 1 0 l1.length,.sl 3 0 x.1.length],.arr 1 l1.length (rw (l1.map (cI .i64))),.dead,.arr 4 x.1.length (rw (x.1.map Zb)),.var [.int .i64 a1.Kind,.int .i64 a1.N,aL Z6 a1.Kids]],base:=3,n:=102,cond:=True,gl:=G0 }) (fun m x=>Zh n a1 b0 b0_1 b0_2 b0_3 l1 ld (ZC n) m x.1 x.2 = some r) n (qc,0) h ?_
  rintro re ⟨qf,pg⟩ h
  dsimp only [Zh] at h
  try dsimp only
  refine rs0 ?_
  refine vp ?_
  refine vn ?_
  refine Wp.seq ?_
  refine sD h F (fun F h=>?_) fun F h=>?_
  refine cF ?_
  refine Wp.exit ?_
  cases h
  exact n2r (enH [some 0,some 1,some 2,some 3])
  refine cT ?_
  refine Wp.skip ?_
  refine sh ?_
  refine Wp.seq ?_
  refine Wp.block ?_
  refine rs0 ?_
  refine eI h F fun xh F h=>?_
  iterate 4 refine vp ?_
  refine vn ?_
  refine jn (fun _:Unit=>{ ch:=[(0,.hptr 0 0 0),(3,.hptr 4 0 0),(6,.hptr 5 0 0),(45,aL Z6 ld),(46,.int .i64 (ld.length:Int)),(47,.int .i64 pg)],hp:=[.var [.str b0,aL Z0 b0_1,aL Z4 b0_2,.str b0_3,.sl 1 0 l1.length,.sl 3 0 qf.length],.arr 1 l1.length (rw (l1.map (cI .i64))),.dead,.arr 4 qf.length (rw (qf.map Zb)),.var [.int .i64 a1.Kind,.int .i64 a1.N,aL Z6 a1.Kids],.var [.int .i64 xh.Kind,.int .i64 xh.N,aL Z6 xh.Kids]],base:=3,n:=102,cond:=True,gl:=G0 }) (fun x=>Z1G n a1 b0 b0_1 b0_2 b0_3 l1 qf pg (Zh n a1 b0 b0_1 b0_2 b0_3 l1 ld (ZC n) re) xh (ZC n) = some r) ?_ ?_
  clear h
  rintro _ h
  dsimp only [Z1G] at h
  try dsimp only
  refine rs0 ?_
  iterate 2 refine vp ?_
  obtain ⟨qi,hr15847,h⟩:=obind h
  refine vh [0,1,3] (Zj hr15847) ?_
  refine vn ?_
  refine rs0 ?_
  iterate 2 refine vp ?_
  obtain ⟨qj,hr15849,h⟩:=obind h
  refine vh [0,1,6] (Hslf_codegen_maker_lay_v1 hr15849) ?_
  refine vn ?_
  refine rg0 ?_
  iterate 3 refine vp ?_
  refine sP h F (fun F h=>?_) fun F h=>?_
  iterate 3 refine vp ?_
  obtain ⟨qk,hr15851,h⟩:=obind h
  refine vh [0,1,7] (Zj hr15851) ?_
  refine vn ?_
  refine sh ?_
  refine rg0 ?_
  iterate 2 refine vp ?_
  refine vn ?_
  exact nx [some 0,some 1,some 2,some 8,some 4] (qk,(IntKind.i64.wrap (pg + 1))) h
  refine sP h F (fun F h=>?_) fun F h=>?_
  iterate 3 refine vp ?_
  obtain ⟨ql,hr15853,h⟩:=obind h
  refine vh [0,1,7] (Zj hr15853) ?_
  refine vn ?_
  refine sh ?_
  refine rg0 ?_
  iterate 2 refine vp ?_
  refine vn ?_
  exact nx [some 0,some 1,some 2,some 8,some 4] (ql,(IntKind.i64.wrap (pg + 1))) h
  refine sP h F (fun F h=>?_) fun F h=>?_
  iterate 3 refine vp ?_
  obtain ⟨qm,hr15855,h⟩:=obind h
  refine vh [0,1,7] (Zj hr15855) ?_
  refine vn ?_
  refine sh ?_
  refine rg0 ?_
  iterate 2 refine vp ?_
  refine vn ?_
  exact nx [some 0,some 1,some 2,some 8,some 4] (qm,(IntKind.i64.wrap (pg + 1))) h
  cases h
  refine dw (fun _=>false) [0,1,3,5] ?_
  refine du 4 ?_
  refine sB h F (fun F h=>?_) fun F h=>?_
  refine ds ?_
  refine ds ?_
  refine ds ?_
  refine ds ?_
  refine ds ?_
  refine ds ?_
  refine ds ?_
  refine ds ?_
  refine ds ?_
  refine ds ?_
  refine ds ?_
  refine du 1 ?_
  refine dn ?_
  refine cF ?_
  refine Wp.skip ?_
  exact nx [some 0,some 1,some 2,some 3,some 4,some 5] () h
  refine du 1 ?_
  refine du 1 ?_
  refine du 1 ?_
  refine du 1 ?_
  refine du 1 ?_
  refine du 1 ?_
  refine du 1 ?_
  refine eI h F fun xn F h=>?_
  refine du 1 ?_
  refine du 1 ?_
  obtain ⟨rp,hr15858,h⟩:=obind h
  refine dc (Z6K hr15858) ?_ (hg:=by (simp [F]; done))
  refine du 1 ?_
  refine du 1 ?_
  refine dn ?_
  refine sB h F (fun F h=>?_) fun F h=>?_
  refine cF ?_
  refine Wp.skip ?_
  exact nx [some 0,some 1,some 2,some 3,some 4,some 5] () h
  refine cT ?_
  refine dw (fun _=>false) [0,1,3,5] ?_
  refine du 9 ?_
  refine de ?_
  refine db ?_
  refine dn ?_
  refine dw (fun d=>Nat.beq d 87 || Nat.beq d 1087) [0,1,3,4,6] ?_
  refine du 5 ?_
  refine sP h F (fun F h=>?_) fun F h=>?_
  refine du 1 ?_
  refine sP h F (fun F h=>?_) fun F h=>?_
  refine du 5 ?_
  obtain ⟨qq,hr15860,h⟩:=obind h
  refine dh [0,1,3] (Zj hr15860) ?_
  refine dn ?_
  refine Wp.exit ?_
  refine sh ?_
  refine rg0 ?_
  iterate 2 refine vp ?_
  refine vn ?_
  exact nx [some 0,some 1,some 2,some 7,some 4] (qq,(IntKind.i64.wrap (pg + 1))) h
  refine sP h F (fun F h=>?_) fun F h=>?_
  refine du 5 ?_
  obtain ⟨qr,hr15862,h⟩:=obind h
  refine dh [0,1,3] (Zj hr15862) ?_
  refine dn ?_
  refine Wp.exit ?_
  refine sh ?_
  refine rg0 ?_
  iterate 2 refine vp ?_
  refine vn ?_
  exact nx [some 0,some 1,some 2,some 7,some 4] (qr,(IntKind.i64.wrap (pg + 1))) h
  cases h
  refine sP h F (fun F h=>?_) fun F h=>?_
  refine du 1 ?_
  refine sP h F (fun F h=>?_) fun F h=>?_
  refine du 5 ?_
  obtain ⟨qs,hr15864,h⟩:=obind h
  refine dh [0,1,3] (Zj hr15864) ?_
  refine dn ?_
  refine Wp.exit ?_
  refine sh ?_
  refine rg0 ?_
  iterate 2 refine vp ?_
  refine vn ?_
  exact nx [some 0,some 1,some 2,some 7,some 4] (qs,(IntKind.i64.wrap (pg + 1))) h
  refine sP h F (fun F h=>?_) fun F h=>?_
  refine du 5 ?_
  obtain ⟨qt,hr15866,h⟩:=obind h
  refine dh [0,1,3] (Zj hr15866) ?_
  refine dn ?_
  refine Wp.exit ?_
  refine sh ?_
  refine rg0 ?_
  iterate 2 refine vp ?_
  refine vn ?_
  exact nx [some 0,some 1,some 2,some 7,some 4] (qt,(IntKind.i64.wrap (pg + 1))) h
  cases h
  refine sP h F (fun F h=>?_) fun F h=>?_
  refine du 1 ?_
  refine sP h F (fun F h=>?_) fun F h=>?_
  refine du 5 ?_
  obtain ⟨qu,hr15868,h⟩:=obind h
  refine dh [0,1,3] (Zj hr15868) ?_
  refine dn ?_
  refine Wp.exit ?_
  refine sh ?_
  refine rg0 ?_
  iterate 2 refine vp ?_
  refine vn ?_
  exact nx [some 0,some 1,some 2,some 7,some 4] (qu,(IntKind.i64.wrap (pg + 1))) h
  refine sP h F (fun F h=>?_) fun F h=>?_
  refine du 5 ?_
  obtain ⟨qv,hr15870,h⟩:=obind h
  refine dh [0,1,3] (Zj hr15870) ?_
  refine dn ?_
  refine Wp.exit ?_
  refine sh ?_
  refine rg0 ?_
  iterate 2 refine vp ?_
  refine vn ?_
  exact nx [some 0,some 1,some 2,some 7,some 4] (qv,(IntKind.i64.wrap (pg + 1))) h
  cases h
  cases h
  refine cT ?_
  refine dw (fun _=>false) [0,1,2,3] ?_
  refine du 7 ?_
  refine eI h F fun xw F h=>?_
  refine du 2 ?_
  refine de ?_
  refine db ?_
  refine dn ?_
  refine dw (fun d=>Nat.beq d 36 || Nat.beq d 1036) [0,1,2,3,4] ?_
  refine du 3 ?_
  refine sP h F (fun F h=>?_) fun F h=>?_
  refine du 10 ?_
  refine eI h F fun xx F h=>?_
  refine du 3 ?_
  obtain ⟨qy,hr15696,h⟩:=obind h
  refine dh [0,1,2] (Zj hr15696) ?_
  refine dn ?_
  cases h
  exact Wp.ret (enH [some 0,some 1,some 2,some 5])
  refine sP h F (fun F h=>?_) fun F h=>?_
  refine du 10 ?_
  refine eI h F fun xz F h=>?_
  refine du 3 ?_
  obtain ⟨qA,hr15699,h⟩:=obind h
  refine dh [0,1,2] (Zj hr15699) ?_
  refine dn ?_
  cases h
  exact Wp.ret (enH [some 0,some 1,some 2,some 5])
  refine sP h F (fun F h=>?_) fun F h=>?_
  refine du 10 ?_
  refine eI h F fun xB F h=>?_
  refine du 3 ?_
  obtain ⟨qC,hr15702,h⟩:=obind h
  refine dh [0,1,2] (Zj hr15702) ?_
  refine dn ?_
  cases h
  exact Wp.ret (enH [some 0,some 1,some 2,some 5])
  refine sP h F (fun F h=>?_) fun F h=>?_
  refine du 10 ?_
  refine eI h F fun xD F h=>?_
  refine du 3 ?_
  obtain ⟨qE,hr15705,h⟩:=obind h
  refine dh [0,1,2] (Zj hr15705) ?_
  refine dn ?_
  cases h
  exact Wp.ret (enH [some 0,some 1,some 2,some 5])
  cases h
theorem Z7n {n:Nat} {s0:List Int} {m1:List (Str × Bool)} {b2:ApiRung} {r:Int} (h:Z21 n s0 m1 b2 = some r):ConH Tryz.prog G0 132 [aL (cI .i64) s0,.clos 102 [] [.hptr 0 0 0,.hptr 2 0 0]] [.var [.mp 1],.map (mAV AV.str cB m1),.var [.str b2.Label,aL Z0 b2.Contacts,aL Z4 b2.Coils,.str b2.Jump]] (.int .i64 r) [.var [.mp 1],.map (mAV AV.str cB m1),.var [.str b2.Label,aL Z0 b2.Contacts,aL Z4 b2.Coils,.str b2.Jump]]:=by
 refine ZA (T:=TT0) tt_ok Tryz.func132 (c:=_) (by unfold Tryz.f132; rfl) Tryz.ntmps132 (rs:=[.tmp 4]) (by rw [Tryz.results132]) (by unfold Tryz.f132; rfl) (by simp) (k:=3) rfl rfl ?_
 try simp only [Z3]
 have F:=True.intro
 dsimp only [Z21] at h
 refine rs0 ?_
 refine vp ?_
 refine vn ?_
 refine Wp.seq ?_
 refine rs0 ?_
 iterate 3 refine vp ?_
 refine vn ?_
 refine Wp.block ?_
 refine lp [some 0,some 1,some 2] (fun pF:Int=>{ ch:=[(0,aL (cI .i64) s0),(1,.clos 102 [] [.hptr 0 0 0,.hptr 2 0 0]),(7,.int .i64 (s0.length:Int)),(8,.int .i64 pF)],hp:=[.var [.mp 1],.map (mAV AV.str cB m1),.var [.str b2.Label,aL Z0 b2.Contacts,aL Z4 b2.Coils,.str b2.Jump]],base:=3,n:=19,cond:=True,gl:=G0 }) (fun m x=>Zz n s0 m1 b2 m x = some r) n 0 h ?_
 rintro re pF h
 dsimp only [Zz] at h
 try dsimp only
 refine rs0 ?_
 refine vp ?_
 refine vn ?_
 refine Wp.seq ?_
 refine sD h F (fun F h=>?_) fun F h=>?_
 refine cF ?_
 refine Wp.exit ?_
 refine sh ?_
 refine rs0 ?_
 refine vp ?_
 refine vn ?_
 cases h
 exact Wp.ret (enH [some 0,some 1,some 2])
 refine cT ?_
 refine Wp.skip ?_
 refine sh ?_
 refine Wp.seq ?_
 refine Wp.block ?_
 refine rs0 ?_
 iterate 2 refine vp ?_
 refine vn ?_
 refine rs0 ?_
 iterate 3 refine vp ?_
 refine eI h F fun xG F h=>?_
 iterate 2 refine vp ?_
 obtain ⟨rH,hr13231,h⟩:=obind h
 refine vh [0,1,2] (Z97 hr13231) ?_
 refine vn ?_
 refine sB h F (fun F h=>?_) fun F h=>?_
 refine cF ?_
 refine Wp.skip ?_
 refine sh ?_
 refine rg0 ?_
 iterate 2 refine vp ?_
 refine vn ?_
 exact nx [some 0,some 1,some 2] (IntKind.i64.wrap (pF + 1)) h
 refine cT ?_
 refine rs0 ?_
 iterate 2 refine vp ?_
 refine vn ?_
 cases h
 exact Wp.ret (enH [some 0,some 1,some 2])
theorem Z9d {n:Nat} {r_0:ApiRung} {b0:Str} {r:(List Int)} (h:Z3x n r_0 b0 = some r):ConH Tryz.prog G0 133 [.agg (Z7 r_0),.clos 168 [] [.hptr 0 0 0]] [.var [.str b0]] (aL (cI .i64) r) [.var [.str b0]]:=by
 refine ZA (T:=TT0) tt_ok Tryz.func133 (c:=_) (by unfold Tryz.f133; rfl) Tryz.ntmps133 (rs:=[.tmp 4]) (by rw [Tryz.results133]) (by unfold Tryz.f133; rfl) (by simp) (k:=1) rfl rfl ?_
 try simp only [Z3]
 have F:=True.intro
 dsimp only [Z3x] at h
 refine rs0 ?_
 iterate 2 refine vp ?_
 refine vn ?_
 refine rs0 ?_
 refine vp ?_
 refine vn ?_
 refine Wp.seq ?_
 refine rs0 ?_
 iterate 4 refine vp ?_
 refine vn ?_
 refine Wp.block ?_
 refine lp [some 0,none] (fun x:Int × (List Int)=>{ ch:=[(1,.clos 168 [] [.hptr 0 0 0]),(5,.sl 1 0 x.2.length),(9,aL Z0 r_0.Contacts),(10,.int .i64 (r_0.Contacts.length:Int)),(11,.int .i64 x.1)],hp:=[.var [.str b0],.arr 1 x.2.length (rw (x.2.map (cI .i64)))],base:=1,n:=25,cond:=True,gl:=G0 }) (fun m x=>ZN n r_0 b0 m x.1 x.2 = some r) n (0,[]) h ?_
 rintro re ⟨pI,pJ⟩ h
 dsimp only [ZN] at h
 try dsimp only
 refine rs0 ?_
 refine vp ?_
 refine vn ?_
 refine Wp.seq ?_
 refine sD h F (fun F h=>?_) fun F h=>?_
 refine cF ?_
 refine Wp.exit ?_
 refine sh ?_
 refine rs0 ?_
 iterate 2 refine vp ?_
 refine vn ?_
 cases h
 exact Wp.ret (enH [some 0])
 refine cT ?_
 refine Wp.skip ?_
 refine sh ?_
 refine Wp.seq ?_
 refine Wp.block ?_
 refine rs0 ?_
 refine vp ?_
 refine eI h F fun xK F h=>?_
 iterate 5 refine vp ?_
 refine vn ?_
 refine rs0 ?_
 iterate 2 refine vp ?_
 obtain ⟨rL,hr14280,h⟩:=obind h
 refine vh [0] (Z9T hr14280) ?_
 refine vn ?_
 refine sB h F (fun F h=>?_) fun F h=>?_
 refine cF ?_
 refine Wp.skip ?_
 refine sh ?_
 refine rg0 ?_
 iterate 2 refine vp ?_
 refine vn ?_
 exact nx [some 0,some 1] ((IntKind.i64.wrap (pI + 1)),pJ) h
 refine cT ?_
 refine rg (fun d=>Nat.beq d 22) ?_
 iterate 3 refine vp ?_
 refine gd h F fun F h=>?_
 refine vp ?_
 refine nm (cI .i64) h F fun lM F h=>?_
 refine vp ?_
 refine vn ?_
 refine sh ?_
 refine rg0 ?_
 iterate 2 refine vp ?_
 refine vn ?_
 exact nx [some 0,some 3] ((IntKind.i64.wrap (pI + 1)),lM) h
theorem Z6i {n:Nat} {s0:List ApiRung} {b0:ApiRung} {r:Int} (h:Z22 n s0 b0 = some r):ConH Tryz.prog G0 155 [aL Z7 s0,.clos 122 [] [.hptr 0 0 0]] [.var [.str b0.Label,aL Z0 b0.Contacts,aL Z4 b0.Coils,.str b0.Jump]] (.int .i64 r) [.var [.str b0.Label,aL Z0 b0.Contacts,aL Z4 b0.Coils,.str b0.Jump]]:=by
 refine ZA (T:=TT0) tt_ok Tryz.func155 (c:=_) (by unfold Tryz.f155; rfl) Tryz.ntmps155 (rs:=[.tmp 4]) (by rw [Tryz.results155]) (by unfold Tryz.f155; rfl) (by simp) (k:=1) rfl rfl ?_
 try simp only [Z3]
 have F:=True.intro
 dsimp only [Z22] at h
 refine rs0 ?_
 refine vp ?_
 refine vn ?_
 refine Wp.seq ?_
 refine rs0 ?_
 iterate 3 refine vp ?_
 refine vn ?_
 refine Wp.block ?_
 refine lp [some 0] (fun pN:Int=>{ ch:=[(0,aL Z7 s0),(1,.clos 122 [] [.hptr 0 0 0]),(7,.int .i64 (s0.length:Int)),(8,.int .i64 pN)],hp:=[.var [.str b0.Label,aL Z0 b0.Contacts,aL Z4 b0.Coils,.str b0.Jump]],base:=1,n:=19,cond:=True,gl:=G0 }) (fun m x=>ZP n s0 b0 m x = some r) n 0 h ?_
 rintro re pN h
 dsimp only [ZP] at h
 try dsimp only
 refine rs0 ?_
 refine vp ?_
 refine vn ?_
 refine Wp.seq ?_
 refine sD h F (fun F h=>?_) fun F h=>?_
 refine cF ?_
 refine Wp.exit ?_
 refine sh ?_
 refine rs0 ?_
 refine vp ?_
 refine vn ?_
 cases h
 exact Wp.ret (enH [some 0])
 refine cT ?_
 refine Wp.skip ?_
 refine sh ?_
 refine Wp.seq ?_
 refine Wp.block ?_
 refine rs0 ?_
 iterate 2 refine vp ?_
 refine vn ?_
 refine rs0 ?_
 iterate 3 refine vp ?_
 refine eI h F fun xO F h=>?_
 iterate 2 refine vp ?_
 obtain ⟨rP,hr10893,h⟩:=obind h
 refine vh [0] (ZaG hr10893) ?_
 refine vn ?_
 refine sB h F (fun F h=>?_) fun F h=>?_
 refine cF ?_
 refine Wp.skip ?_
 refine sh ?_
 refine rg0 ?_
 iterate 2 refine vp ?_
 refine vn ?_
 exact nx [some 0] (IntKind.i64.wrap (pN + 1)) h
 refine cT ?_
 refine rs0 ?_
 iterate 2 refine vp ?_
 refine vn ?_
 cases h
 exact Wp.ret (enH [some 0])
theorem ZaC {n:Nat} {x_0:Int} {y1:Int} {r:Int} (h:Z4D n x_0 y1 = some r):Con Tryz.prog G0 71 [.int .i64 x_0,.int .i64 y1] (.int .i64 r) []:=by
 refine Za (T:=TT0) tt_ok Tryz.func71 (c:=_) (by unfold Tryz.f71; rfl) Tryz.ntmps71 (rs:=[.tmp 4]) (by rw [Tryz.results71]) (by unfold Tryz.f71; rfl) (by simp) ?_
 simp only [Z3]
 have F:=True.intro
 dsimp only [Z4D] at h
 refine rs0 ?_
 refine vp ?_
 refine vn ?_
 refine rs0 ?_
 refine vp ?_
 obtain ⟨rQ,hr15154,h⟩:=obind h
 refine vc (Z86 hr15154) ?_
 refine vp ?_
 refine vn ?_
 refine rs0 ?_
 refine vp ?_
 obtain ⟨rR,hr15156,h⟩:=obind h
 refine vc (Z86 hr15156) ?_
 refine vp ?_
 refine vn ?_
 refine Wp.seq ?_
 refine rs0 ?_
 refine vp ?_
 refine vn ?_
 refine sB h F (fun F h=>?_) fun F h=>?_
 refine cF ?_
 refine Wp.skip ?_
 refine sh ?_
 refine Wp.seq ?_
 refine rs0 ?_
 refine vp ?_
 refine vn ?_
 refine sB h F (fun F h=>?_) fun F h=>?_
 refine cF ?_
 refine Wp.skip ?_
 refine sh ?_
 refine Wp.seq ?_
 refine rs0 ?_
 iterate 3 refine vp ?_
 refine vn ?_
 refine sD h F (fun F h=>?_) fun F h=>?_
 refine cF ?_
 refine Wp.skip ?_
 refine sh ?_
 refine Wp.seq ?_
 refine rs0 ?_
 iterate 3 refine vp ?_
 refine vn ?_
 refine sD h F (fun F h=>?_) fun F h=>?_
 refine cF ?_
 refine Wp.skip ?_
 refine sh ?_
 refine rs0 ?_
 refine vp ?_
 refine vn ?_
 cases h
 exact Wp.ret en0
 refine cT ?_
 refine rs0 ?_
 refine vp ?_
 refine vn ?_
 cases h
 exact Wp.ret en0
 refine cT ?_
 refine rs0 ?_
 refine vp ?_
 refine vn ?_
 cases h
 exact Wp.ret en0
 refine cT ?_
 refine rs0 ?_
 refine vp ?_
 refine vn ?_
 cases h
 exact Wp.ret en0
 refine cT ?_
 refine Wp.seq ?_
 refine rs0 ?_
 refine vp ?_
 refine vn ?_
 refine sB h F (fun F h=>?_) fun F h=>?_
 refine cF ?_
 refine Wp.skip ?_
 refine sh ?_
 refine rs0 ?_
 refine vp ?_
 refine vn ?_
 cases h
 exact Wp.ret en0
 refine cT ?_
 refine rs0 ?_
 refine vp ?_
 refine vn ?_
 cases h
 exact Wp.ret en0
theorem Z5Q {n:Nat} {s0:List ApiContact} {r:Int} (h:Z1J n s0 = some r):Con Tryz.prog G0 78 [aL Z0 s0,.clos 47 [] []] (.int .i64 r) []:=by
 refine Za (T:=TT0) tt_ok Tryz.func78 (c:=_) (by unfold Tryz.f78; rfl) Tryz.ntmps78 (rs:=[.tmp 4]) (by rw [Tryz.results78]) (by unfold Tryz.f78; rfl) (by simp) ?_
 simp only [Z3]
 have F:=True.intro
 dsimp only [Z1J] at h
 refine rs0 ?_
 refine vp ?_
 refine vn ?_
 refine Wp.seq ?_
 refine rs0 ?_
 iterate 3 refine vp ?_
 refine vn ?_
 refine Wp.block ?_
 refine lp [] (fun pT:Int=>{ ch:=[(0,aL Z0 s0),(1,.clos 47 [] []),(7,.int .i64 (s0.length:Int)),(8,.int .i64 pT)],hp:=[],base:=0,n:=19,cond:=True,gl:=G0 }) (fun m x=>ZG n s0 m x = some r) n 0 h ?_
 rintro re pT h
 dsimp only [ZG] at h
 try dsimp only
 refine rs0 ?_
 refine vp ?_
 refine vn ?_
 refine Wp.seq ?_
 refine sD h F (fun F h=>?_) fun F h=>?_
 refine cF ?_
 refine Wp.exit ?_
 refine sh ?_
 refine rs0 ?_
 refine vp ?_
 refine vn ?_
 cases h
 exact Wp.ret en0
 refine cT ?_
 refine Wp.skip ?_
 refine sh ?_
 refine Wp.seq ?_
 refine Wp.block ?_
 refine rs0 ?_
 iterate 2 refine vp ?_
 refine vn ?_
 refine rs0 ?_
 iterate 3 refine vp ?_
 refine eI h F fun xU F h=>?_
 iterate 2 refine vp ?_
 obtain ⟨rV,hr15356,h⟩:=obind h
 refine vc (Zbw hr15356) ?_
 refine vn ?_
 refine sB h F (fun F h=>?_) fun F h=>?_
 refine cF ?_
 refine Wp.skip ?_
 refine sh ?_
 refine rg0 ?_
 iterate 2 refine vp ?_
 refine vn ?_
 exact nx [] (IntKind.i64.wrap (pT + 1)) h
 refine cT ?_
 refine rs0 ?_
 iterate 2 refine vp ?_
 refine vn ?_
 cases h
 exact Wp.ret en0
end Go.Proofs.YtaebdeidbibfkaaGreatDoor
