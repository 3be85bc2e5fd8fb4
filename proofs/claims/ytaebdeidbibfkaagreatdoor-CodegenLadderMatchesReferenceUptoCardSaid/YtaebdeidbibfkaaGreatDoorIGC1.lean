/- Contracts: models of functions are right. No law is proved here. -/
import Derived.Test.YtaebdeidbibfkaaGreatDoorIGH
namespace Go.Proofs.YtaebdeidbibfkaaGreatDoor
open Go.Av Go.G
attribute [-simp] Int.natCast_tdiv_eq_ediv
attribute [local congr] Zx ZE Zy
variable [Drawn]
set_option maxHeartbeats 4000000
set_option linter.unusedSectionVars false
set_option maxRecDepth 20000
set_option linter.unusedSimpArgs false
set_option linter.unusedVariables false
theorem Zag (n:Nat):∀ {t0:Ref14Tree} {edge1:List Bool} {r:Int},ZS n t0 edge1 = some r -> Con Tryz.prog G0 86 [.agg [.int .i64 t0.Kind,.int .i64 t0.N,aL Zc t0.Kids],aL cB edge1] (.int .i64 r) []:=by
 induction n with
 | zero=>intro t0 edge1 r h; simp [ZS] at h
 | succ n Hslf_ref14_StackDepth =>
  intro t0 edge1 r h
  refine Za (T:=TT0) tt_ok Tryz.func86 (c:=_) (by unfold Tryz.f86; rfl) Tryz.ntmps86 (rs:=[.tmp 4]) (by rw [Tryz.results86]) (by unfold Tryz.f86; rfl) (by simp) ?_
  simp only [Z3]
  have F:=True.intro
  dsimp only [ZS] at h
  refine rs0 ?_
  iterate 2 refine vp ?_
  refine vn ?_
  refine Wp.seq ?_
  refine rs0 ?_
  iterate 3 refine vp ?_
  refine vn ?_
  refine sB h F (fun F h=>?_) fun F h=>?_
  refine cF ?_
  refine Wp.skip ?_
  refine sh ?_
  refine rs0 ?_
  iterate 2 refine vp ?_
  refine eN (m:=0) h F fun xb F h=>?_
  iterate 3 refine vp ?_
  obtain ⟨rc,hr40719,h⟩:=obind h
  refine vc (Hslf_ref14_StackDepth hr40719) ?_
  refine vp ?_
  refine vn ?_
  refine Wp.seq ?_
  refine rs0 ?_
  refine vp ?_
  refine vn ?_
  refine Wp.block ?_
  refine lp [some 0] (fun x:Int × Int=>{ ch:=[(1,aL cB edge1),(2,.hptr 0 0 0),(5,.int .i64 x.2),(6,.int .i64 x.1)],hp:=[.var [.int .i64 t0.Kind,.int .i64 t0.N,aL Zc t0.Kids]],base:=0,n:=50,cond:=True,gl:=G0 }) (fun m x=>Z13 t0 edge1 (ZS n) m x.1 x.2 = some r) n (1,rc) h ?_
  rintro rd ⟨pe,rf⟩ h
  dsimp only [Z13] at h
  try dsimp only
  refine Wp.seq ?_
  refine rs0 ?_
  iterate 5 refine vp ?_
  refine vn ?_
  refine sD h F (fun F h=>?_) fun F h=>?_
  refine cF ?_
  refine Wp.exit ?_
  refine sh ?_
  refine rs0 ?_
  iterate 2 refine vp ?_
  refine vn ?_
  cases h
  exact Wp.ret en0
  refine cT ?_
  refine Wp.skip ?_
  refine sh ?_
  refine Wp.seq ?_
  refine Wp.block ?_
  refine rs0 ?_
  iterate 3 refine vp ?_
  refine eI h F fun xg F h=>?_
  iterate 4 refine vp ?_
  refine vn ?_
  refine jn (fun _:Unit=>{ ch:=[(1,aL cB edge1),(2,.hptr 0 0 0),(5,.int .i64 rf),(6,.int .i64 pe),(7,.hptr 1 0 0)],hp:=[.var [.int .i64 t0.Kind,.int .i64 t0.N,aL Zc t0.Kids],.var [.int .i64 xg.Kind,.int .i64 xg.N,aL Zc xg.Kids]],base:=0,n:=50,cond:=True,gl:=G0 }) (fun x=>Z2o edge1 pe rf (Z13 t0 edge1 (ZS n) rd) xg (ZS n) = some r) ?_ ?_
  clear h
  rintro _ h
  dsimp only [Z2o] at h
  try dsimp only
  refine rs0 ?_
  iterate 2 refine vp ?_
  obtain ⟨rh,hr40744,h⟩:=obind h
  refine vc (Hslf_ref14_StackDepth hr40744) ?_
  iterate 2 refine vp ?_
  refine vn ?_
  refine rs0 ?_
  iterate 3 refine vp ?_
  refine vn ?_
  refine sD h F (fun F h=>?_) fun F h=>?_
  refine cF ?_
  refine Wp.skip ?_
  refine sh ?_
  refine rg0 ?_
  iterate 3 refine vp ?_
  refine vn ?_
  exact nx [some 0] ((IntKind.i64.wrap (pe + 1)),rf) h
  refine cT ?_
  refine rg0 ?_
  iterate 2 refine vp ?_
  refine vn ?_
  refine sh ?_
  refine rg0 ?_
  iterate 3 refine vp ?_
  refine vn ?_
  exact nx [some 0] ((IntKind.i64.wrap (pe + 1)),(IntKind.i64.wrap (1 + rh))) h
  refine rs0 ?_
  iterate 4 refine vp ?_
  refine sB h F (fun F h=>?_) fun F h=>?_
  refine vs ?_
  refine vs ?_
  refine vs ?_
  refine vs ?_
  refine vs ?_
  refine vs ?_
  refine vp ?_
  refine vn ?_
  refine cF ?_
  refine Wp.skip ?_
  exact nx [some 0,some 1] () h
  refine vg ?_
  refine vg ?_
  refine vg ?_
  refine eI h F fun xi F h=>?_
  refine vg ?_
  refine vg ?_
  refine vg ?_
  refine vp ?_
  refine vn ?_
  refine sB h F (fun F h=>?_) fun F h=>?_
  refine cF ?_
  refine Wp.skip ?_
  exact nx [some 0,some 1] () h
  refine cT ?_
  refine Wp.exit ?_
  refine sh ?_
  refine rg0 ?_
  iterate 3 refine vp ?_
  refine vn ?_
  exact nx [some 0] ((IntKind.i64.wrap (pe + 1)),rf) h
  refine cT ?_
  refine rs0 ?_
  refine vp ?_
  refine vn ?_
  cases h
  exact Wp.ret en0
theorem Zcd {n:Nat} {r_0:ApiRung} {r:(List ApiIns) × Int} (h:Z6A n r_0 = some r):Con Tryz.prog G0 19 [.agg (Z7 r_0)] (.tup [aL Zb r.1,.int .i64 r.2]) []:=by
 refine Za (T:=TT0) tt_ok Tryz.func19 (c:=_) (by unfold Tryz.f19; rfl) Tryz.ntmps19 (rs:=[.tmp 2,.tmp 3]) (by rw [Tryz.results19]) (by unfold Tryz.f19; rfl) (by simp) ?_
 simp only [Z3]
 have F:=True.intro
 dsimp only [Z6A] at h
 refine rs0 ?_
 iterate 3 refine vp ?_
 refine vn ?_
 refine rs0 ?_
 refine vp ?_
 refine vn ?_
 refine Wp.seq ?_
 refine rs0 ?_
 iterate 4 refine vp ?_
 refine vn ?_
 refine Wp.block ?_
 refine lp [none] (fun x:Int × (List ApiIns)=>{ ch:=[(4,.sl 0 0 x.2.length),(8,aL Z4 r_0.Coils),(9,.int .i64 (r_0.Coils.length:Int)),(10,.int .i64 x.1)],hp:=[.arr 4 x.2.length (rw (x.2.map Zb))],base:=0,n:=34,cond:=True,gl:=G0 }) (fun m x=>Z1H r_0 m x.1 x.2 = some r) n (0,[]) h ?_
 rintro rd ⟨pj,pk⟩ h
 dsimp only [Z1H] at h
 try dsimp only
 refine rs0 ?_
 refine vp ?_
 refine vn ?_
 refine Wp.seq ?_
 refine sD h F (fun F h=>?_) fun F h=>?_
 refine cF ?_
 refine Wp.exit ?_
 refine sh ?_
 refine rs0 ?_
 iterate 3 refine vp ?_
 refine vn ?_
 cases h
 exact Wp.ret en0
 refine cT ?_
 refine Wp.skip ?_
 refine sh ?_
 refine Wp.seq ?_
 refine Wp.block ?_
 refine rs0 ?_
 refine eI h F fun xl F h=>?_
 iterate 4 refine vp ?_
 refine vn ?_
 refine Wp.seq ?_
 refine rs0 ?_
 iterate 4 refine vp ?_
 refine sD h F (fun F h=>?_) fun F h=>?_
 refine vg ?_
 refine vg ?_
 refine vg ?_
 refine vp ?_
 refine vn ?_
 refine sD h F (fun F h=>?_) fun F h=>?_
 refine cF ?_
 refine Wp.skip ?_
 refine sh ?_
 refine dw1 (fun d=>Nat.beq d 31 || Nat.beq d 1031) [0,1] ?_
 refine du 3 ?_
 refine sP h F (fun F h=>?_) fun F h=>?_
 refine du 6 ?_
 refine gd h F fun F h=>?_
 refine db ?_
 refine nm Zb h F fun lm F h=>?_
 refine du 1 ?_
 refine dn ?_
 refine sh ?_
 refine rg0 ?_
 iterate 2 refine vp ?_
 refine vn ?_
 exact nx [some 2] ((IntKind.i64.wrap (pj + 1)),lm) h
 refine sP h F (fun F h=>?_) fun F h=>?_
 refine du 6 ?_
 refine gd h F fun F h=>?_
 refine db ?_
 refine nm Zb h F fun ln F h=>?_
 refine du 1 ?_
 refine dn ?_
 refine sh ?_
 refine rg0 ?_
 iterate 2 refine vp ?_
 refine vn ?_
 exact nx [some 2] ((IntKind.i64.wrap (pj + 1)),ln) h
 refine sP h F (fun F h=>?_) fun F h=>?_
 refine du 6 ?_
 refine gd h F fun F h=>?_
 refine db ?_
 refine nm Zb h F fun lq F h=>?_
 refine du 1 ?_
 refine dn ?_
 refine sh ?_
 refine rg0 ?_
 iterate 2 refine vp ?_
 refine vn ?_
 exact nx [some 2] ((IntKind.i64.wrap (pj + 1)),lq) h
 refine sP h F (fun F h=>?_) fun F h=>?_
 refine du 6 ?_
 refine gd h F fun F h=>?_
 refine db ?_
 refine nm Zb h F fun lr F h=>?_
 refine du 1 ?_
 refine dn ?_
 refine sh ?_
 refine rg0 ?_
 iterate 2 refine vp ?_
 refine vn ?_
 exact nx [some 2] ((IntKind.i64.wrap (pj + 1)),lr) h
 cases h
 refine cT ?_
 refine rs0 ?_
 iterate 2 refine vp ?_
 refine vn ?_
 cases h
 exact Wp.ret en0
 refine vs ?_
 refine vs ?_
 refine vs ?_
 refine vp ?_
 refine vn ?_
 refine cT ?_
 refine rs0 ?_
 iterate 2 refine vp ?_
 refine vn ?_
 cases h
 exact Wp.ret en0
theorem Z8L {n:Nat} {kind0:Int} {a1:TreeTree} {b2:TreeTree} {r:TreeTree} (h:Z5B n kind0 a1 b2 = some r):Con Tryz.prog G0 67 [.int .i64 kind0,.agg [.int .i64 a1.Kind,.int .i64 a1.N,aL Z6 a1.Kids],.agg [.int .i64 b2.Kind,.int .i64 b2.N,aL Z6 b2.Kids]] (.agg [.int .i64 r.Kind,.int .i64 r.N,aL Z6 r.Kids]) []:=by
 refine Za (T:=TT0) tt_ok Tryz.func67 (c:=_) (by unfold Tryz.f67; rfl) Tryz.ntmps67 (rs:=[.cell 6 30]) (by rw [Tryz.results67]) (by unfold Tryz.f67; rfl) (by simp) ?_
 simp only [Z3]
 have F:=True.intro
 dsimp only [Z5B] at h
 refine rs0 ?_
 iterate 3 refine vp ?_
 refine vn ?_
 refine rs0 ?_
 iterate 4 refine vp ?_
 refine vn ?_
 refine Wp.seq ?_
 refine rs0 ?_
 iterate 3 refine vp ?_
 refine nl Z6 h F fun ls m F h=>?_
 try simp only [m]
 clear m
 iterate 2 refine vp ?_
 refine vn ?_
 refine Wp.block ?_
 refine lp [some 2,some 3,none] (fun x:Int × (List TreeTree)=>{ ch:=[(0,.int .i64 kind0),(6,.hptr 0 0 0),(7,.hptr 1 0 0),(14,aL Z6 ls),(15,.int .i64 (ls.length:Int)),(16,.int .i64 x.1)],hp:=[.var [.int .i64 0,.int .i64 0,.nilsl],.var [.int .i64 kind0,.int .i64 0,.sl 2 0 x.2.length],.arr 3 x.2.length (rw (x.2.map Z6))],base:=0,n:=38,cond:=True,gl:=G0 }) (fun m x=>Z3k kind0 ls m x.1 x.2 = some r) n (0,[]) h ?_
 rintro rd ⟨pt,pu⟩ h
 dsimp only [Z3k] at h
 try dsimp only
 refine rs0 ?_
 refine vp ?_
 refine vn ?_
 refine Wp.seq ?_
 refine sD h F (fun F h=>?_) fun F h=>?_
 refine cF ?_
 refine Wp.exit ?_
 refine sh ?_
 refine rs0 ?_
 iterate 2 refine vp ?_
 refine vn ?_
 cases h
 exact Wp.ret en0
 refine cT ?_
 refine Wp.skip ?_
 refine sh ?_
 refine Wp.seq ?_
 refine Wp.block ?_
 refine rs0 ?_
 refine eI h F fun xv F h=>?_
 iterate 4 refine vp ?_
 refine vn ?_
 refine rs0 ?_
 iterate 4 refine vp ?_
 refine vn ?_
 refine sB h F (fun F h=>?_) fun F h=>?_
 refine cF ?_
 refine rg (fun d=>Nat.beq d 34) ?_
 iterate 4 refine vp ?_
 refine gd h F fun F h=>?_
 refine vp ?_
 refine nm Z6 h F fun lA F h=>?_
 iterate 2 refine vp ?_
 refine vn ?_
 refine sh ?_
 refine rg0 ?_
 iterate 2 refine vp ?_
 refine vn ?_
 exact nx [some 0,some 1,some 4] ((IntKind.i64.wrap (pt + 1)),lA) h
 refine cT ?_
 refine rg (fun d=>Nat.beq d 28) ?_
 iterate 4 refine vp ?_
 refine gd h F fun F h=>?_
 refine vp ?_
 refine nm Z6 h F fun lB F h=>?_
 iterate 2 refine vp ?_
 refine vn ?_
 refine sh ?_
 refine rg0 ?_
 iterate 2 refine vp ?_
 refine vn ?_
 exact nx [some 0,some 1,some 4] ((IntKind.i64.wrap (pt + 1)),lB) h
theorem ZeH {n:Nat} {l0:List Ref15Edge} {node1:Str} {r:Int × Int} (h:Z6R n l0 node1 = some r):Con Tryz.prog G0 77 [aL ZR l0,.str node1] (.tup [.int .i64 r.1,.int .i64 r.2]) []:=by
 refine Za (T:=TT0) tt_ok Tryz.func77 (c:=_) (by unfold Tryz.f77; rfl) Tryz.ntmps77 (rs:=[.tmp 4,.tmp 5]) (by rw [Tryz.results77]) (by unfold Tryz.f77; rfl) (by simp) ?_
 simp only [Z3]
 have F:=True.intro
 dsimp only [Z6R] at h
 refine rs0 ?_
 iterate 2 refine vp ?_
 refine vn ?_
 refine rs0 ?_
 refine vp ?_
 refine vn ?_
 refine rs0 ?_
 refine vp ?_
 refine vn ?_
 refine Wp.seq ?_
 refine rs0 ?_
 refine vp ?_
 refine vn ?_
 refine Wp.block ?_
 refine lp [] (fun x:Int × Int × Int=>{ ch:=[(0,aL ZR l0),(1,.str node1),(6,.int .i64 x.1),(7,.int .i64 x.2.1),(8,.int .i64 x.2.2)],hp:=[],base:=0,n:=35,cond:=True,gl:=G0 }) (fun m x=>Z2v l0 node1 m x.1 x.2.1 x.2.2 = some r) n (0,0,0) h ?_
 rintro rd ⟨pC,pD,pE⟩ h
 dsimp only [Z2v] at h
 try dsimp only
 refine Wp.seq ?_
 refine rs0 ?_
 iterate 4 refine vp ?_
 refine vn ?_
 refine sD h F (fun F h=>?_) fun F h=>?_
 refine cF ?_
 refine Wp.exit ?_
 refine sh ?_
 refine rs0 ?_
 iterate 4 refine vp ?_
 refine vn ?_
 cases h
 exact Wp.ret en0
 refine cT ?_
 refine Wp.skip ?_
 refine sh ?_
 refine Wp.seq ?_
 refine Wp.block ?_
 refine jn (fun pF:Int=>{ ch:=[(0,aL ZR l0),(1,.str node1),(6,.int .i64 pF),(7,.int .i64 pD),(8,.int .i64 pE)],hp:=[],base:=0,n:=35,cond:=True,gl:=G0 }) (fun x=>Z4q l0 node1 pD pE (Z2v l0 node1 rd) x = some r) ?_ ?_
 clear h
 rintro pF h
 dsimp only [Z4q] at h
 try dsimp only
 refine rs0 ?_
 iterate 2 refine vp ?_
 refine eI h F fun xG F h=>?_
 iterate 5 refine vp ?_
 refine vn ?_
 refine sE h F (fun _ F h=>?_) fun _ F h=>?_
 refine cF ?_
 refine Wp.skip ?_
 refine sh ?_
 refine rg0 ?_
 iterate 3 refine vp ?_
 refine vn ?_
 exact nx [] (pF,pD,(IntKind.i64.wrap (pE + 1))) h
 refine cT ?_
 refine rg0 ?_
 iterate 3 refine vp ?_
 refine vn ?_
 refine sh ?_
 refine rg0 ?_
 iterate 3 refine vp ?_
 refine vn ?_
 exact nx [] (pF,(IntKind.i64.wrap (pD + 1)),(IntKind.i64.wrap (pE + 1))) h
 refine rs0 ?_
 iterate 2 refine vp ?_
 refine eI h F fun xH F h=>?_
 iterate 5 refine vp ?_
 refine vn ?_
 refine sE h F (fun _ F h=>?_) fun _ F h=>?_
 refine cF ?_
 refine Wp.skip ?_
 exact nx [] pC h
 refine cT ?_
 refine rg0 ?_
 iterate 3 refine vp ?_
 refine vn ?_
 exact nx [] (IntKind.i64.wrap (pC + 1)) h
theorem ZaF {n:Nat} {r_0:ApiRung} {r:Int} (h:Z4F n r_0 = some r):Con Tryz.prog G0 88 [.agg (Z7 r_0)] (.int .i64 r) []:=by
 refine Za (T:=TT0) tt_ok Tryz.func88 (c:=_) (by unfold Tryz.f88; rfl) Tryz.ntmps88 (rs:=[.tmp 2]) (by rw [Tryz.results88]) (by unfold Tryz.f88; rfl) (by simp) ?_
 simp only [Z3]
 have F:=True.intro
 dsimp only [Z4F] at h
 refine rs0 ?_
 iterate 2 refine vp ?_
 refine vn ?_
 refine rs0 ?_
 refine vp ?_
 refine vn ?_
 refine Wp.seq ?_
 refine rs0 ?_
 refine vp ?_
 refine vn ?_
 refine Wp.block ?_
 refine lp [some 0] (fun x:Int × Int=>{ ch:=[(1,.hptr 0 0 0),(3,.int .i64 x.1),(4,.int .i64 x.2)],hp:=[.var [.str r_0.Label,aL Z0 r_0.Contacts,aL Z4 r_0.Coils,.str r_0.Jump]],base:=0,n:=31,cond:=True,gl:=G0 }) (fun m x=>Z1F r_0 m x.1 x.2 = some r) n (0,0) h ?_
 rintro rd ⟨pI,pJ⟩ h
 dsimp only [Z1F] at h
 try dsimp only
 refine Wp.seq ?_
 refine rs0 ?_
 iterate 5 refine vp ?_
 refine vn ?_
 refine sD h F (fun F h=>?_) fun F h=>?_
 refine cF ?_
 refine Wp.exit ?_
 refine sh ?_
 refine rs0 ?_
 iterate 2 refine vp ?_
 refine vn ?_
 cases h
 exact Wp.ret en0
 refine cT ?_
 refine Wp.skip ?_
 refine sh ?_
 refine Wp.seq ?_
 refine Wp.block ?_
 refine rs0 ?_
 iterate 3 refine vp ?_
 refine eI h F fun xK F h=>?_
 iterate 5 refine vp ?_
 refine sB h F (fun F h=>?_) fun F h=>?_
 refine vg ?_
 refine vg ?_
 refine vg ?_
 refine vg ?_
 refine vg ?_
 refine vg ?_
 refine vg ?_
 refine vp ?_
 refine vn ?_
 refine sB h F (fun F h=>?_) fun F h=>?_
 refine cF ?_
 refine Wp.skip ?_
 refine sh ?_
 refine rg0 ?_
 iterate 3 refine vp ?_
 refine vn ?_
 exact nx [some 0] (pI,(IntKind.i64.wrap (pJ + 1))) h
 refine cT ?_
 refine rg0 ?_
 iterate 3 refine vp ?_
 refine vn ?_
 refine sh ?_
 refine rg0 ?_
 iterate 3 refine vp ?_
 refine vn ?_
 exact nx [some 0] ((IntKind.i64.wrap (pI + 1)),(IntKind.i64.wrap (pJ + 1))) h
 refine vs ?_
 refine vs ?_
 refine vs ?_
 refine vs ?_
 refine vs ?_
 refine vs ?_
 refine vs ?_
 refine vp ?_
 refine vn ?_
 refine cT ?_
 refine rg0 ?_
 iterate 3 refine vp ?_
 refine vn ?_
 refine sh ?_
 refine rg0 ?_
 iterate 3 refine vp ?_
 refine vn ?_
 exact nx [some 0] ((IntKind.i64.wrap (pI + 1)),(IntKind.i64.wrap (pJ + 1))) h
theorem ZcH {n:Nat} {l0:ApiLadder} {at1:Int} {label2:Str} {r:Bool} (h:Z6Z n l0 at1 label2 = some r):Con Tryz.prog G0 126 [.agg (Z1r l0),.int .i64 at1,.str label2] (.bool r) []:=by
 refine Za (T:=TT0) tt_ok Tryz.func126 (c:=_) (by unfold Tryz.f126; rfl) Tryz.ntmps126 (rs:=[.tmp 6]) (by rw [Tryz.results126]) (by unfold Tryz.f126; rfl) (by simp) ?_
 simp only [Z3]
 have F:=True.intro
 dsimp only [Z6Z] at h
 refine rs0 ?_
 iterate 2 refine vp ?_
 refine vn ?_
 refine Wp.seq ?_
 refine rs0 ?_
 iterate 3 refine vp ?_
 refine vn ?_
 refine Wp.block ?_
 refine lp [some 0] (fun pL:Int=>{ ch:=[(2,.str label2),(3,.hptr 0 0 0),(7,.int .i64 pL)],hp:=[.var [.int .i64 l0.I,.int .i64 l0.Q,.int .i64 l0.M,aL Z7 l0.Rungs]],base:=0,n:=25,cond:=True,gl:=G0 }) (fun m x=>Z3K l0 label2 m x = some r) n (IntKind.i64.wrap (at1 + 1)) h ?_
 rintro rd pL h
 dsimp only [Z3K] at h
 try dsimp only
 refine Wp.seq ?_
 refine rs0 ?_
 iterate 5 refine vp ?_
 refine vn ?_
 refine sD h F (fun F h=>?_) fun F h=>?_
 refine cF ?_
 refine Wp.exit ?_
 refine sh ?_
 refine rs0 ?_
 refine vp ?_
 refine vn ?_
 cases h
 exact Wp.ret en0
 refine cT ?_
 refine Wp.skip ?_
 refine sh ?_
 refine Wp.seq ?_
 refine Wp.block ?_
 refine rs0 ?_
 iterate 3 refine vp ?_
 refine eI h F fun xM F h=>?_
 iterate 5 refine vp ?_
 refine vn ?_
 refine sE h F (fun _ F h=>?_) fun _ F h=>?_
 refine cF ?_
 refine Wp.skip ?_
 refine sh ?_
 refine rg0 ?_
 iterate 3 refine vp ?_
 refine vn ?_
 exact nx [some 0] (IntKind.i64.wrap (pL + 1)) h
 refine cT ?_
 refine rs0 ?_
 refine vp ?_
 refine vn ?_
 cases h
 exact Wp.ret en0
theorem Z30 {n:Nat} {l0:List Str} {s1:Str} {r:Bool} (h:Z2Z n l0 s1 = some r):Con Tryz.prog G0 113 [aL cS l0,.str s1] (.bool r) []:=by
 refine Za (T:=TT0) tt_ok Tryz.func113 (c:=_) (by unfold Tryz.f113; rfl) Tryz.ntmps113 (rs:=[.tmp 4]) (by rw [Tryz.results113]) (by unfold Tryz.f113; rfl) (by simp) ?_
 simp only [Z3]
 have F:=True.intro
 dsimp only [Z2Z] at h
 refine rs0 ?_
 refine vp ?_
 refine vn ?_
 refine Wp.seq ?_
 refine rs0 ?_
 refine vp ?_
 refine vn ?_
 refine Wp.block ?_
 refine lp [] (fun pN:Int=>{ ch:=[(0,aL cS l0),(1,.str s1),(5,.int .i64 pN)],hp:=[],base:=0,n:=18,cond:=True,gl:=G0 }) (fun m x=>Z4V l0 s1 m x = some r) n 0 h ?_
 rintro rd pN h
 dsimp only [Z4V] at h
 try dsimp only
 refine Wp.seq ?_
 refine rs0 ?_
 iterate 4 refine vp ?_
 refine vn ?_
 refine sD h F (fun F h=>?_) fun F h=>?_
 refine cF ?_
 refine Wp.exit ?_
 refine sh ?_
 refine rs0 ?_
 refine vp ?_
 refine vn ?_
 cases h
 exact Wp.ret en0
 refine cT ?_
 refine Wp.skip ?_
 refine sh ?_
 refine Wp.seq ?_
 refine Wp.block ?_
 refine rs0 ?_
 iterate 2 refine vp ?_
 refine eI h F fun xO F h=>?_
 iterate 4 refine vp ?_
 refine vn ?_
 refine sE h F (fun _ F h=>?_) fun _ F h=>?_
 refine cF ?_
 refine Wp.skip ?_
 refine sh ?_
 refine rg0 ?_
 iterate 3 refine vp ?_
 refine vn ?_
 exact nx [] (IntKind.i64.wrap (pN + 1)) h
 refine cT ?_
 refine rs0 ?_
 refine vp ?_
 refine vn ?_
 cases h
 exact Wp.ret en0
theorem Zan {n:Nat} {l0:List Str} {s1:Str} {r:Bool} (h:Z6Q n l0 s1 = some r):Con Tryz.prog G0 116 [aL cS l0,.str s1] (.bool r) []:=by
 refine Za (T:=TT0) tt_ok Tryz.func116 (c:=_) (by unfold Tryz.f116; rfl) Tryz.ntmps116 (rs:=[.tmp 4]) (by rw [Tryz.results116]) (by unfold Tryz.f116; rfl) (by simp) ?_
 simp only [Z3]
 have F:=True.intro
 dsimp only [Z6Q] at h
 refine rs0 ?_
 refine vp ?_
 refine vn ?_
 refine Wp.seq ?_
 refine rs0 ?_
 refine vp ?_
 refine vn ?_
 refine Wp.block ?_
 refine lp [] (fun pP:Int=>{ ch:=[(0,aL cS l0),(1,.str s1),(5,.int .i64 pP)],hp:=[],base:=0,n:=18,cond:=True,gl:=G0 }) (fun m x=>Z4R l0 s1 m x = some r) n 0 h ?_
 rintro rd pP h
 dsimp only [Z4R] at h
 try dsimp only
 refine Wp.seq ?_
 refine rs0 ?_
 iterate 4 refine vp ?_
 refine vn ?_
 refine sD h F (fun F h=>?_) fun F h=>?_
 refine cF ?_
 refine Wp.exit ?_
 refine sh ?_
 refine rs0 ?_
 refine vp ?_
 refine vn ?_
 cases h
 exact Wp.ret en0
 refine cT ?_
 refine Wp.skip ?_
 refine sh ?_
 refine Wp.seq ?_
 refine Wp.block ?_
 refine rs0 ?_
 iterate 2 refine vp ?_
 refine eI h F fun xQ F h=>?_
 iterate 4 refine vp ?_
 refine vn ?_
 refine sE h F (fun _ F h=>?_) fun _ F h=>?_
 refine cF ?_
 refine Wp.skip ?_
 refine sh ?_
 refine rg0 ?_
 iterate 3 refine vp ?_
 refine vn ?_
 exact nx [] (IntKind.i64.wrap (pP + 1)) h
 refine cT ?_
 refine rs0 ?_
 refine vp ?_
 refine vn ?_
 cases h
 exact Wp.ret en0
theorem Zel {n:Nat} {s0:ApiSize} {space1:Int} {r:Int} (h:Z7l n s0 space1 = some r):Con Tryz.prog G0 183 [.agg (Z4l s0),.int .i64 space1] (.int .i64 r) []:=by
 refine Za (T:=TT0) tt_ok Tryz.func183 (c:=_) (by unfold Tryz.f183; rfl) Tryz.ntmps183 (rs:=[.tmp 4]) (by rw [Tryz.results183]) (by unfold Tryz.f183; rfl) (by simp) ?_
 simp only [Z3]
 have F:=True.intro
 dsimp only [Z7l] at h
 refine rs0 ?_
 iterate 2 refine vp ?_
 refine vn ?_
 refine Wp.seq ?_
 refine rs0 ?_
 refine vp ?_
 refine vn ?_
 refine Wp.block ?_
 refine rs0 ?_
 iterate 2 refine vp ?_
 refine vn ?_
 refine sB h F (fun F h=>?_) fun F h=>?_
 refine cF ?_
 refine rs0 ?_
 iterate 2 refine vp ?_
 refine vn ?_
 refine sB h F (fun F h=>?_) fun F h=>?_
 refine cF ?_
 refine rs0 ?_
 iterate 2 refine vp ?_
 refine vn ?_
 refine sB h F (fun F h=>?_) fun F h=>?_
 refine cF ?_
 refine Wp.skip ?_
 refine sh ?_
 refine rs0 ?_
 refine vp ?_
 refine vn ?_
 cases h
 exact Wp.ret en0
 refine cT ?_
 refine rs0 ?_
 iterate 3 refine vp ?_
 refine vn ?_
 cases h
 exact Wp.ret en0
 refine cT ?_
 refine rs0 ?_
 iterate 3 refine vp ?_
 refine vn ?_
 cases h
 exact Wp.ret en0
 refine cT ?_
 refine rs0 ?_
 iterate 3 refine vp ?_
 refine vn ?_
 cases h
 exact Wp.ret en0
theorem ZaG {n:Nat} {x_0:ApiRung} {b0:ApiRung} {r:Bool} (h:Z5H n x_0 b0 = some r):ConH Tryz.prog G0 122 [.agg (Z7 x_0),.hptr 0 0 0] [.var [.str b0.Label,aL Z0 b0.Contacts,aL Z4 b0.Coils,.str b0.Jump]] (.bool r) [.var [.str b0.Label,aL Z0 b0.Contacts,aL Z4 b0.Coils,.str b0.Jump]]:=by
 refine ZA (T:=TT0) tt_ok Tryz.func122 (c:=_) (by unfold Tryz.f122; rfl) Tryz.ntmps122 (rs:=[.tmp 3]) (by rw [Tryz.results122]) (by unfold Tryz.f122; rfl) (by simp) (k:=1) rfl rfl ?_
 try simp only [Z3]
 have F:=True.intro
 dsimp only [Z5H] at h
 refine rs0 ?_
 iterate 2 refine vp ?_
 refine vn ?_
 refine rs0 ?_
 iterate 6 refine vp ?_
 refine vn ?_
 cases h
 exact Wp.ret (enH [some 0])
theorem Z3M {n:Nat} {n_0:Int} {most1:Int} {r:Bool} (h:Z2G n n_0 most1 = some r):Con Tryz.prog G0 151 [.int .i64 n_0,.int .i64 most1] (.bool r) []:=by
 refine Za (T:=TT0) tt_ok Tryz.func151 (c:=_) (by unfold Tryz.f151; rfl) Tryz.ntmps151 (rs:=[.tmp 4]) (by rw [Tryz.results151]) (by unfold Tryz.f151; rfl) (by simp) ?_
 simp only [Z3]
 have F:=True.intro
 dsimp only [Z2G] at h
 refine rs0 ?_
 refine vp ?_
 refine vn ?_
 refine rs0 ?_
 iterate 3 refine vp ?_
 refine sD h F (fun F h=>?_) fun F h=>?_
 refine vs ?_
 refine vs ?_
 refine vs ?_
 iterate 2 refine vp ?_
 refine vn ?_
 cases h
 exact Wp.ret en0
 refine vg ?_
 refine vg ?_
 refine vg ?_
 iterate 2 refine vp ?_
 refine vn ?_
 cases h
 exact Wp.ret en0
theorem Zce {n:Nat} {c0:ApiContact} {r:Bool} (h:Z5j n c0 = some r):Con Tryz.prog G0 124 [.agg (Z0 c0)] (.bool r) []:=by
 refine Za (T:=TT0) tt_ok Tryz.func124 (c:=_) (by unfold Tryz.f124; rfl) Tryz.ntmps124 (rs:=[.tmp 2]) (by rw [Tryz.results124]) (by unfold Tryz.f124; rfl) (by simp) ?_
 simp only [Z3]
 have F:=True.intro
 dsimp only [Z5j] at h
 refine rs0 ?_
 iterate 2 refine vp ?_
 refine vn ?_
 refine rs0 ?_
 iterate 4 refine vp ?_
 refine sB h F (fun F h=>?_) fun F h=>?_
 refine vg ?_
 refine vg ?_
 refine vg ?_
 iterate 2 refine vp ?_
 refine vn ?_
 cases h
 exact Wp.ret en0
 refine vs ?_
 refine vs ?_
 refine vs ?_
 iterate 2 refine vp ?_
 refine vn ?_
 cases h
 exact Wp.ret en0
theorem Zc9 {n:Nat} {r:ApiRung} (h:Z84 n  = some r):Con Tryz.prog G0 45 [] (.agg (Z7 r)) []:=by
 refine Za (T:=TT0) tt_ok Tryz.func45 (c:=_) (by unfold Tryz.f45; rfl) Tryz.ntmps45 (rs:=[.cell 0 25]) (by rw [Tryz.results45]) (by unfold Tryz.f45; rfl) (by simp) ?_
 simp only [Z3]
 have F:=True.intro
 dsimp only [Z84] at h
 refine rs0 ?_
 refine vp ?_
 refine vn ?_
 refine rs0 ?_
 iterate 4 refine vp ?_
 refine nl Z0 h F fun l57 m F h=>?_
 try simp only [m]
 clear m
 iterate 3 refine vp ?_
 refine nl Z4 h F fun l58 m F h=>?_
 try simp only [m]
 clear m
 iterate 2 refine vp ?_
 refine vn ?_
 cases h
 exact Wp.ret en0
theorem Z9T {n:Nat} {c0:ApiContact} {b0:Str} {r:Bool} (h:Z4m n c0 b0 = some r):ConH Tryz.prog G0 168 [.agg (Z0 c0),.hptr 0 0 0] [.var [.str b0]] (.bool r) [.var [.str b0]]:=by
 refine ZA (T:=TT0) tt_ok Tryz.func168 (c:=_) (by unfold Tryz.f168; rfl) Tryz.ntmps168 (rs:=[.tmp 3]) (by rw [Tryz.results168]) (by unfold Tryz.f168; rfl) (by simp) (k:=1) rfl rfl ?_
 try simp only [Z3]
 have F:=True.intro
 dsimp only [Z4m] at h
 refine rs0 ?_
 iterate 2 refine vp ?_
 refine vn ?_
 refine rs0 ?_
 iterate 5 refine vp ?_
 refine vn ?_
 cases h
 exact Wp.ret (enH [some 0])
end Go.Proofs.YtaebdeidbibfkaaGreatDoor
