/- Contracts: models of functions are right. No law is proved here. -/
import Derived.Test.YtaebdeidbibfkaaGreatDoorIGH
import Derived.Test.YtaebdeidbibfkaaGreatDoorIGC1
import Derived.Test.YtaebdeidbibfkaaGreatDoorIGC10
import Derived.Test.YtaebdeidbibfkaaGreatDoorIGC11
namespace Go.Proofs.YtaebdeidbibfkaaGreatDoor
open Go.Av Go.G
attribute [-simp] Int.natCast_tdiv_eq_ediv
attribute [local congr] Zx ZE Zy
variable [Drawn]
set_option maxHeartbeats 4000000
set_option linter.unusedSectionVars false
set_option maxRecDepth 20000
set_option linter.unusedSimpArgs false
set_option linter.unusedVariables false
theorem Zdd {n:Nat} {ab:ApiLadder} {r:Int × Int} (h:Z6v n ab = some r):Con Tryz.prog G0 85 [.agg (Z1r ab)] (.tup [.int .i64 r.1,.int .i64 r.2]) []:=by
 refine Za (T:=TT0) tt_ok Tryz.func85 (c:=_) (by unfold Tryz.f85; rfl) Tryz.ntmps85 (rs:=[.tmp 2,.tmp 3]) (by rw [Tryz.results85]) (by unfold Tryz.f85; rfl) (by simp) ?_
 simp only [Z3]
 have F:=True.intro
 dsimp only [Z6v] at h
 refine rs0 ?_
 iterate 3 refine vp ?_
 refine vn ?_
 refine Wp.seq ?_
 refine rs0 ?_
 iterate 4 refine vp ?_
 refine sD h F (fun F h=>?_) fun F h=>?_
 refine vg ?_
 refine vg ?_
 refine vg ?_
 iterate 2 refine vp ?_
 refine sD h F (fun F h=>?_) fun F h=>?_
 refine vg ?_
 refine vg ?_
 refine vg ?_
 iterate 2 refine vp ?_
 refine sD h F (fun F h=>?_) fun F h=>?_
 refine vg ?_
 refine vg ?_
 refine vg ?_
 iterate 2 refine vp ?_
 refine sD h F (fun F h=>?_) fun F h=>?_
 refine vg ?_
 refine vg ?_
 refine vg ?_
 iterate 2 refine vp ?_
 refine sD h F (fun F h=>?_) fun F h=>?_
 refine vg ?_
 refine vg ?_
 refine vg ?_
 refine vp ?_
 refine vn ?_
 refine sD h F (fun F h=>?_) fun F h=>?_
 refine cF ?_
 refine Wp.skip ?_
 refine sh ?_
 refine Wp.seq ?_
 refine rs0 ?_
 iterate 4 refine vp ?_
 refine vn ?_
 refine sD h F (fun F h=>?_) fun F h=>?_
 refine cF ?_
 refine Wp.skip ?_
 refine sh ?_
 refine jn (fun _:Unit=>{ ch:=[(1,.hptr 0 0 0)],hp:=[.var [.int .i64 ab.I,.int .i64 ab.Q,.int .i64 ab.M,aL Z7 ab.Rungs]],base:=0,n:=83,cond:=True,gl:=G0 }) (fun x=>Z6d n ab = some r) ?_ ?_
 clear h
 rintro _ h
 dsimp only [Z6d] at h
 try dsimp only
 refine Wp.seq ?_
 refine rs0 ?_
 refine vp ?_
 refine vn ?_
 refine Wp.block ?_
 refine lp [some 0] (fun pd:Int=>{ ch:=[(1,.hptr 0 0 0),(6,.int .i64 pd)],hp:=[.var [.int .i64 ab.I,.int .i64 ab.Q,.int .i64 ab.M,aL Z7 ab.Rungs]],base:=0,n:=83,cond:=True,gl:=G0 }) (fun m x=>Z3d n ab m x = some r) n 0 h ?_
 rintro re pd h
 dsimp only [Z3d] at h
 try dsimp only
 refine Wp.seq ?_
 refine rs0 ?_
 iterate 5 refine vp ?_
 refine vn ?_
 refine sD h F (fun F h=>?_) fun F h=>?_
 refine cF ?_
 refine Wp.exit ?_
 refine sh ?_
 refine rs0 ?_
 iterate 5 refine vp ?_
 refine vn ?_
 cases h
 exact Wp.ret en0
 refine cT ?_
 refine Wp.skip ?_
 refine sh ?_
 refine Wp.seq ?_
 refine Wp.block ?_
 refine dw (fun _=>false) [0] ?_
 refine du 3 ?_
 refine eI h F fun xf F h=>?_
 refine du 5 ?_
 refine sEn h F (fun _ F h=>?_) fun _ F h=>?_
 refine ds ?_
 refine ds ?_
 refine ds ?_
 refine ds ?_
 refine ds ?_
 refine ds ?_
 refine ds ?_
 refine ds ?_
 refine ds ?_
 refine ds ?_
 refine du 1 ?_
 refine dn ?_
 refine cF ?_
 refine Wp.skip ?_
 refine sh ?_
 refine rg0 ?_
 iterate 3 refine vp ?_
 refine vn ?_
 exact nx [some 0] (IntKind.i64.wrap (pd + 1)) h
 refine du 1 ?_
 refine du 1 ?_
 refine du 1 ?_
 refine du 1 ?_
 refine du 1 ?_
 refine du 1 ?_
 refine du 1 ?_
 refine du 1 ?_
 obtain ⟨rh,hr34971,h⟩:=obind h
 refine dc (ZcH hr34971) ?_ (hg:=by (simp [F]; done))
 refine du 1 ?_
 refine du 1 ?_
 refine dn ?_
 refine sB h F (fun F h=>?_) fun F h=>?_
 refine cF ?_
 refine Wp.skip ?_
 refine sh ?_
 refine rg0 ?_
 iterate 3 refine vp ?_
 refine vn ?_
 exact nx [some 0] (IntKind.i64.wrap (pd + 1)) h
 refine cT ?_
 refine rs0 ?_
 iterate 3 refine vp ?_
 refine vn ?_
 cases h
 exact Wp.ret en0
 refine rs0 ?_
 refine vp ?_
 refine vn ?_
 refine Wp.block ?_
 refine lp [some 0] (fun pi:Int=>{ ch:=[(1,.hptr 0 0 0),(4,.int .i64 pi)],hp:=[.var [.int .i64 ab.I,.int .i64 ab.Q,.int .i64 ab.M,aL Z7 ab.Rungs]],base:=0,n:=83,cond:=True,gl:=G0 }) (fun m x=>Z41 n ab m x = some r) n 0 h ?_
 rintro rj pi h
 dsimp only [Z41] at h
 try dsimp only
 refine Wp.seq ?_
 refine rs0 ?_
 iterate 5 refine vp ?_
 refine vn ?_
 refine sD h F (fun F h=>?_) fun F h=>?_
 refine cF ?_
 refine Wp.exit ?_
 exact nx [some 0] () h
 refine cT ?_
 refine Wp.skip ?_
 refine sh ?_
 refine Wp.seq ?_
 refine Wp.block ?_
 refine rs0 ?_
 iterate 2 refine vp ?_
 obtain ⟨rm,hr34978,h⟩:=obind h
 refine vc (Zeu hr34978) ?_
 refine vp ?_
 refine vn ?_
 refine rs0 ?_
 iterate 2 refine vp ?_
 refine vn ?_
 refine sB h F (fun F h=>?_) fun F h=>?_
 refine cF ?_
 refine Wp.skip ?_
 refine sh ?_
 refine rg0 ?_
 iterate 3 refine vp ?_
 refine vn ?_
 exact nx [some 0] (IntKind.i64.wrap (pi + 1)) h
 refine cT ?_
 refine rs0 ?_
 iterate 4 refine vp ?_
 refine vn ?_
 cases h
 exact Wp.ret en0
 refine cT ?_
 refine rs0 ?_
 iterate 2 refine vp ?_
 refine vn ?_
 cases h
 exact Wp.ret en0
 refine cT ?_
 refine rs0 ?_
 iterate 2 refine vp ?_
 refine vn ?_
 cases h
 exact Wp.ret en0
 refine vs ?_
 refine vs ?_
 refine vs ?_
 refine vp ?_
 refine vn ?_
 refine cT ?_
 refine rs0 ?_
 iterate 2 refine vp ?_
 refine vn ?_
 cases h
 exact Wp.ret en0
 refine vs ?_
 refine vs ?_
 refine vs ?_
 iterate 2 refine vp ?_
 refine vs ?_
 refine vs ?_
 refine vs ?_
 refine vp ?_
 refine vn ?_
 refine cT ?_
 refine rs0 ?_
 iterate 2 refine vp ?_
 refine vn ?_
 cases h
 exact Wp.ret en0
 refine vs ?_
 refine vs ?_
 refine vs ?_
 iterate 2 refine vp ?_
 refine vs ?_
 refine vs ?_
 refine vs ?_
 iterate 2 refine vp ?_
 refine vs ?_
 refine vs ?_
 refine vs ?_
 refine vp ?_
 refine vn ?_
 refine cT ?_
 refine rs0 ?_
 iterate 2 refine vp ?_
 refine vn ?_
 cases h
 exact Wp.ret en0
 refine vs ?_
 refine vs ?_
 refine vs ?_
 iterate 2 refine vp ?_
 refine vs ?_
 refine vs ?_
 refine vs ?_
 iterate 2 refine vp ?_
 refine vs ?_
 refine vs ?_
 refine vs ?_
 iterate 2 refine vp ?_
 refine vs ?_
 refine vs ?_
 refine vs ?_
 refine vp ?_
 refine vn ?_
 refine cT ?_
 refine rs0 ?_
 iterate 2 refine vp ?_
 refine vn ?_
 cases h
 exact Wp.ret en0
 refine vs ?_
 refine vs ?_
 refine vs ?_
 iterate 2 refine vp ?_
 refine vs ?_
 refine vs ?_
 refine vs ?_
 iterate 2 refine vp ?_
 refine vs ?_
 refine vs ?_
 refine vs ?_
 iterate 2 refine vp ?_
 refine vs ?_
 refine vs ?_
 refine vs ?_
 iterate 2 refine vp ?_
 refine vs ?_
 refine vs ?_
 refine vs ?_
 refine vp ?_
 refine vn ?_
 refine cT ?_
 refine rs0 ?_
 iterate 2 refine vp ?_
 refine vn ?_
 cases h
 exact Wp.ret en0
theorem Zc6 (n:Nat):∀ {t0:TreeTree} {r:TreeTree},Z2Y n t0 = some r -> Con Tryz.prog G0 41 [.agg [.int .i64 t0.Kind,.int .i64 t0.N,aL Z6 t0.Kids]] (.agg [.int .i64 r.Kind,.int .i64 r.N,aL Z6 r.Kids]) []:=by
 induction n with
 | zero=>intro t0 r h; simp [Z2Y] at h
 | succ n Hslf_reduce_sorted =>
  intro t0 r h
  refine Za (T:=TT0) tt_ok Tryz.func41 (c:=_) (by unfold Tryz.f41; rfl) Tryz.ntmps41 (rs:=[.cell 2 30]) (by rw [Tryz.results41]) (by unfold Tryz.f41; rfl) (by simp) ?_
  simp only [Z3]
  have F:=True.intro
  dsimp only [Z2Y] at h
  refine rs0 ?_
  iterate 2 refine vp ?_
  refine vn ?_
  refine rs0 ?_
  iterate 7 refine vp ?_
  refine vn ?_
  refine jn (fun pn:List TreeTree=>{ ch:=[(2,.hptr 0 0 0),(3,.hptr 1 0 0)],hp:=[.var [.int .i64 0,.int .i64 0,.nilsl],.var [.int .i64 t0.Kind,.int .i64 t0.N,.sl 2 0 pn.length],.arr 3 pn.length (rw (pn.map Z6))],base:=0,n:=33,cond:=True,gl:=G0 }) (fun x=>Z3c n t0 x = some r) ?_ ?_
  clear h
  rintro pn h
  dsimp only [Z3c] at h
  try dsimp only
  refine Wp.seq ?_
  refine rs0 ?_
  iterate 3 refine vp ?_
  refine vn ?_
  refine sB h F (fun F h=>?_) fun F h=>?_
  refine cF ?_
  refine Wp.skip ?_
  refine sh ?_
  refine rs0 ?_
  iterate 2 refine vp ?_
  refine vn ?_
  cases h
  exact Wp.ret en0
  refine cT ?_
  refine rg0 ?_
  iterate 2 refine vp ?_
  obtain ⟨qo,hr15160,h⟩:=obind h
  refine vh [2] (Z6o hr15160) ?_
  have F:=And.intro (Z6n hr15160) F
  refine vn ?_
  refine sh ?_
  refine rs0 ?_
  iterate 2 refine vp ?_
  refine vn ?_
  cases h
  exact Wp.ret en0
  refine rs0 ?_
  iterate 4 refine vp ?_
  refine vn ?_
  refine Wp.block ?_
  refine lp [some 1,some 2,none] (fun x:Int × (List TreeTree)=>{ ch:=[(2,.hptr 0 0 0),(3,.hptr 1 0 0),(12,aL Z6 t0.Kids),(13,.int .i64 (t0.Kids.length:Int)),(14,.int .i64 x.1)],hp:=[.var [.int .i64 0,.int .i64 0,.nilsl],.var [.int .i64 t0.Kind,.int .i64 t0.N,.sl 2 0 x.2.length],.arr 3 x.2.length (rw (x.2.map Z6))],base:=0,n:=33,cond:=True,gl:=G0 }) (fun m x=>Z3f n t0 (Z2Y n) m x.1 x.2 = some r) n (0,[]) h ?_
  rintro re ⟨pp,pq⟩ h
  dsimp only [Z3f] at h
  try dsimp only
  refine rs0 ?_
  refine vp ?_
  refine vn ?_
  refine Wp.seq ?_
  refine sD h F (fun F h=>?_) fun F h=>?_
  refine cF ?_
  refine Wp.exit ?_
  exact nx [some 0,some 1,some 2] pq h
  refine cT ?_
  refine Wp.skip ?_
  refine sh ?_
  refine Wp.seq ?_
  refine Wp.block ?_
  refine rs0 ?_
  refine eI h F fun xr F h=>?_
  iterate 4 refine vp ?_
  refine vn ?_
  refine dw1 (fun d=>Nat.beq d 23 || Nat.beq d 1023) [1,2,3] ?_
  refine du 3 ?_
  obtain ⟨rt,hr15173,h⟩:=obind h
  refine dc (Hslf_reduce_sorted hr15173) ?_
  refine du 1 ?_
  refine gd h F fun F h=>?_
  refine db ?_
  refine nm Z6 h F fun lu F h=>?_
  refine du 1 ?_
  refine db ?_
  refine dn ?_
  refine sh ?_
  refine rg0 ?_
  iterate 2 refine vp ?_
  refine vn ?_
  exact nx [some 0,some 1,some 4] ((IntKind.i64.wrap (pp + 1)),lu) h
theorem Z7P (n:Nat):∀ {n_0:Str} {m1:List (Str × Bool)} {b3:ApiRung} {r:(List (Str × Bool))},Zs n n_0 m1 b3 = some r -> ConH Tryz.prog G0 166 [.str n_0,.hptr 0 0 0,.hptr 2 0 0,.hptr 4 0 0] [.var [.mp 1],.map (mAV AV.str cB m1),.var [.clos 136 [] [.hptr 3 0 0]],.var [.str b3.Label,aL Z0 b3.Contacts,aL Z4 b3.Coils,.str b3.Jump],.var [.clos 166 [] [.hptr 0 0 0,.hptr 2 0 0,.hptr 4 0 0]]] (.tup []) [.var [.mp 1],.map (mAV AV.str cB r),.var [.clos 136 [] [.hptr 3 0 0]],.var [.str b3.Label,aL Z0 b3.Contacts,aL Z4 b3.Coils,.str b3.Jump],.var [.clos 166 [] [.hptr 0 0 0,.hptr 2 0 0,.hptr 4 0 0]]]:=by
 induction n with
 | zero=>intro n_0 m1 b3 r h; simp [Zs] at h
 | succ n Hslf_graph_gather_1_c136_166 =>
  intro n_0 m1 b3 r h
  refine ZA (T:=TT0) tt_ok Tryz.func166 (c:=_) (by unfold Tryz.f166; rfl) Tryz.ntmps166 (rs:=[]) (by rw [Tryz.results166]) (by unfold Tryz.f166; rfl) (by simp) (k:=5) rfl rfl ?_
  try simp only [Z3]
  have F:=True.intro
  dsimp only [Zs] at h
  refine Wp.seq ?_
  refine rs0 ?_
  iterate 3 refine vp ?_
  refine vn ?_
  refine sB h F (fun F h=>?_) fun F h=>?_
  refine cF ?_
  refine Wp.skip ?_
  refine sh ?_
  refine rs0 ?_
  iterate 3 refine vp ?_
  refine vn ?_
  refine rs0 ?_
  iterate 2 refine vp ?_
  obtain ⟨rv,hr14330,h⟩:=obind h
  refine vh [3] (Z9C hr14330) ?_
  iterate 2 refine vp ?_
  refine vn ?_
  refine Wp.block ?_
  refine lp [some 0,some 1,some 2,some 3,some 4] (fun x:(List (Str × Bool)) × Int=>{ ch:=[(3,.hptr 4 0 0),(14,aL cS rv),(15,.int .i64 (rv.length:Int)),(16,.int .i64 x.2)],hp:=[.var [.mp 1],.map (mAV AV.str cB x.1),.var [.clos 136 [] [.hptr 3 0 0]],.var [.str b3.Label,aL Z0 b3.Contacts,aL Z4 b3.Coils,.str b3.Jump],.var [.clos 166 [] [.hptr 0 0 0,.hptr 2 0 0,.hptr 4 0 0]]],base:=5,n:=24,cond:=True,gl:=G0 }) (fun m x=>ZD b3 rv (Zs n) m x.1 x.2 = some r) n ((mPut m1 n_0 true),0) h ?_
  rintro rz ⟨pA,pB⟩ h
  dsimp only [ZD] at h
  try dsimp only
  refine rs0 ?_
  refine vp ?_
  refine vn ?_
  refine Wp.seq ?_
  refine sD h F (fun F h=>?_) fun F h=>?_
  refine cF ?_
  refine Wp.exit ?_
  cases h
  exact n2r (enH [some 0,some 1,some 2,some 3,some 4])
  refine cT ?_
  refine Wp.skip ?_
  refine sh ?_
  refine Wp.seq ?_
  refine Wp.block ?_
  refine rs0 ?_
  refine eI h F fun xC F h=>?_
  iterate 3 refine vp ?_
  refine vn ?_
  refine rg0 ?_
  iterate 2 refine vp ?_
  obtain ⟨qD,hr14341,h⟩:=obind h
  refine vh [0,1,2,3,4] (Hslf_graph_gather_1_c136_166 hr14341) ?_
  refine vn ?_
  refine sh ?_
  refine rg0 ?_
  iterate 2 refine vp ?_
  refine vn ?_
  exact nx [some 0,some 1,some 2,some 3,some 4] (qD,(IntKind.i64.wrap (pB + 1))) h
  refine cT ?_
  cases h
  exact Wp.ret (enH [some 0,some 1,some 2,some 3,some 4])
theorem Z6f {n:Nat} {l0:List Str} {b1:ApiRung} {m3:List (Str × Bool)} {r:Int} (h:Z1n n l0 b1 m3 = some r):ConH Tryz.prog G0 98 [.sl 0 0 l0.length,.clos 99 [] [.hptr 1 0 0,.hptr 2 0 0]] [.arr 1 l0.length (rw (l0.map cS)),.var [.str b1.Label,aL Z0 b1.Contacts,aL Z4 b1.Coils,.str b1.Jump],.var [.mp 3],.map (mAV AV.str cB m3)] (.int .i64 r) [.arr 1 l0.length (rw (l0.map cS)),.var [.str b1.Label,aL Z0 b1.Contacts,aL Z4 b1.Coils,.str b1.Jump],.var [.mp 3],.map (mAV AV.str cB m3)]:=by
 refine ZA (T:=TT0) tt_ok Tryz.func98 (c:=_) (by unfold Tryz.f98; rfl) Tryz.ntmps98 (rs:=[.tmp 4]) (by rw [Tryz.results98]) (by unfold Tryz.f98; rfl) (by simp) (k:=4) rfl rfl ?_
 try simp only [Z3]
 have F:=True.intro
 dsimp only [Z1n] at h
 refine rs0 ?_
 refine vp ?_
 refine vn ?_
 refine Wp.seq ?_
 refine rs0 ?_
 iterate 3 refine vp ?_
 refine vn ?_
 refine Wp.block ?_
 refine lp [some 0,some 1,some 2,some 3] (fun pE:Int=>{ ch:=[(0,.sl 0 0 l0.length),(1,.clos 99 [] [.hptr 1 0 0,.hptr 2 0 0]),(7,.int .i64 (l0.length:Int)),(8,.int .i64 pE)],hp:=[.arr 1 l0.length (rw (l0.map cS)),.var [.str b1.Label,aL Z0 b1.Contacts,aL Z4 b1.Coils,.str b1.Jump],.var [.mp 3],.map (mAV AV.str cB m3)],base:=4,n:=19,cond:=True,gl:=G0 }) (fun m x=>Zo n l0 b1 m3 m x = some r) n 0 h ?_
 rintro rz pE h
 dsimp only [Zo] at h
 try dsimp only
 refine rs0 ?_
 refine vp ?_
 refine vn ?_
 refine Wp.seq ?_
 refine sD h F (fun F h=>?_) fun F h=>?_
 refine cF ?_
 refine Wp.exit ?_
 refine sh ?_
 refine rs0 ?_
 refine vp ?_
 refine vn ?_
 cases h
 exact Wp.ret (enH [some 0,some 1,some 2,some 3])
 refine cT ?_
 refine Wp.skip ?_
 refine sh ?_
 refine Wp.seq ?_
 refine Wp.block ?_
 refine rs0 ?_
 iterate 2 refine vp ?_
 refine vn ?_
 refine rs0 ?_
 iterate 3 refine vp ?_
 refine eI h F fun xF F h=>?_
 iterate 2 refine vp ?_
 obtain ⟨rG,hr13260,h⟩:=obind h
 refine vh [1,2,3] (Z9I hr13260) ?_
 refine vn ?_
 refine sB h F (fun F h=>?_) fun F h=>?_
 refine cF ?_
 refine Wp.skip ?_
 refine sh ?_
 refine rg0 ?_
 iterate 2 refine vp ?_
 refine vn ?_
 exact nx [some 0,some 1,some 2,some 3] (IntKind.i64.wrap (pE + 1)) h
 refine cT ?_
 refine rs0 ?_
 iterate 2 refine vp ?_
 refine vn ?_
 cases h
 exact Wp.ret (enH [some 0,some 1,some 2,some 3])
theorem Z9B {n:Nat} {t0:TreeTree} {many1:Int} {r:Int} (h:Z68 n t0 many1 = some r):Con Tryz.prog G0 33 [.agg [.int .i64 t0.Kind,.int .i64 t0.N,aL Z6 t0.Kids],.int .i64 many1] (.int .i64 r) []:=by
 refine Za (T:=TT0) tt_ok Tryz.func33 (c:=_) (by unfold Tryz.f33; rfl) Tryz.ntmps33 (rs:=[.tmp 4]) (by rw [Tryz.results33]) (by unfold Tryz.f33; rfl) (by simp) ?_
 simp only [Z3]
 have F:=True.intro
 dsimp only [Z68] at h
 refine rs0 ?_
 iterate 2 refine vp ?_
 refine vn ?_
 refine rs0 ?_
 iterate 2 refine vp ?_
 refine vn ?_
 refine rs0 ?_
 iterate 3 refine vp ?_
 obtain ⟨⟨rH,qI⟩,hr15308,h⟩:=obind h
 dsimp only at h
 refine vh [1] (ZaB _ hr15308) ?_
 refine vp ?_
 refine vn ?_
 refine Wp.seq ?_
 refine rs0 ?_
 iterate 3 refine vp ?_
 refine sB h F (fun F h=>?_) fun F h=>?_
 refine vs ?_
 refine vs ?_
 refine vs ?_
 refine vs ?_
 refine vs ?_
 refine vp ?_
 refine vn ?_
 refine cF ?_
 refine Wp.skip ?_
 refine sh ?_
 refine rs0 ?_
 iterate 2 refine vp ?_
 refine vn ?_
 cases h
 exact Wp.ret en0
 refine vg ?_
 refine vg ?_
 refine vg ?_
 refine vg ?_
 refine vg ?_
 refine vp ?_
 refine vn ?_
 refine sB h F (fun F h=>?_) fun F h=>?_
 refine cF ?_
 refine Wp.skip ?_
 refine sh ?_
 refine rs0 ?_
 iterate 2 refine vp ?_
 refine vn ?_
 cases h
 exact Wp.ret en0
 refine cT ?_
 refine rg0 ?_
 refine vp ?_
 refine vn ?_
 refine sh ?_
 refine rs0 ?_
 iterate 2 refine vp ?_
 refine vn ?_
 cases h
 exact Wp.ret en0
end Go.Proofs.YtaebdeidbibfkaaGreatDoor
