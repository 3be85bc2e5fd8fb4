/- Contracts: models of functions are right. No law is proved here. -/
import Derived.Test.YtaebdeidbibfkaaGreatDoorIGH
import Derived.Test.YtaebdeidbibfkaaGreatDoorIGC1
import Derived.Test.YtaebdeidbibfkaaGreatDoorIGC2
import Derived.Test.YtaebdeidbibfkaaGreatDoorIGC3
import Derived.Test.YtaebdeidbibfkaaGreatDoorIGC4
import Derived.Test.YtaebdeidbibfkaaGreatDoorIGC6
namespace Go.Proofs.YtaebdeidbibfkaaGreatDoor
open Go.Av Go.G
attribute [-simp] Int.natCast_tdiv_eq_ediv
attribute [local congr] Zx ZE Zy
variable [Drawn]
set_option maxHeartbeats 4000000
set_option linter.unusedSectionVars false
set_option maxRecDepth 20000
set_option linter.unusedSimpArgs false
set_option linter.unusedVariables false
theorem ZbN {n:Nat} {ab:ApiRung} {r:(List Str) × Int} (h:Z67 n ab = some r):Con Tryz.prog G0 74 [.agg (Z7 ab)] (.tup [aL cS r.1,.int .i64 r.2]) []:=by
 refine Za (T:=TT0) tt_ok Tryz.func74 (c:=_) (by unfold Tryz.f74; rfl) Tryz.ntmps74 (rs:=[.tmp 2,.tmp 3]) (by rw [Tryz.results74]) (by unfold Tryz.f74; rfl) (by simp) ?_
 simp only [Z3]
 have F:=True.intro
 dsimp only [Z67] at h
 refine rs0 ?_
 iterate 3 refine vp ?_
 refine vn ?_
 refine rs0 ?_
 refine vp ?_
 obtain ⟨rc,hr37848,h⟩:=obind h
 refine vc (Z72 hr37848) ?_
 refine vp ?_
 refine vn ?_
 refine rs0 ?_
 refine vp ?_
 refine vn ?_
 refine Wp.seq ?_
 refine Wp.block ?_
 refine lp [some 0,none] (fun pd:List Str=>{ ch:=[(1,.hptr 0 0 0),(4,aL cS rc),(5,.sl 1 0 pd.length)],hp:=[.var [.str ab.Label,aL Z0 ab.Contacts,aL Z4 ab.Coils,.str ab.Jump],.arr 1 pd.length (rw (pd.map cS))],base:=0,n:=74,cond:=True,gl:=G0 }) (fun m x=>Z1f n ab rc m x = some r) n [] h ?_
 rintro re pd h
 dsimp only [Z1f] at h
 try dsimp only
 refine Wp.seq ?_
 refine rs0 ?_
 iterate 5 refine vp ?_
 refine vn ?_
 refine sD h F (fun F h=>?_) fun F h=>?_
 refine cF ?_
 refine Wp.exit ?_
 refine sh ?_
 refine rs0 ?_
 iterate 3 refine vp ?_
 refine vn ?_
 cases h
 exact Wp.ret en0
 refine cT ?_
 refine Wp.skip ?_
 refine sh ?_
 refine Wp.block ?_
 refine rs0 ?_
 refine vp ?_
 refine vn ?_
 refine jn (fun pf:Int=>{ ch:=[(1,.hptr 0 0 0),(4,aL cS rc),(5,.sl 1 0 pd.length),(6,.int .i64 pf)],hp:=[.var [.str ab.Label,aL Z0 ab.Contacts,aL Z4 ab.Coils,.str ab.Jump],.arr 1 pd.length (rw (pd.map cS))],base:=0,n:=74,cond:=True,gl:=G0 }) (fun x=>Z1i rc pd (Z1f n ab rc re) x = some r) ?_ ?_
 clear h
 rintro pf h
 dsimp only [Z1i] at h
 try dsimp only
 refine Wp.seq ?_
 refine rs0 ?_
 iterate 2 refine vp ?_
 refine vn ?_
 refine sD h F (fun F h=>?_) fun F h=>?_
 refine cF ?_
 refine Wp.skip ?_
 refine sh ?_
 refine rg (fun d=>Nat.beq d 72) ?_
 iterate 3 refine vp ?_
 refine eI h F fun xg F h=>?_
 iterate 3 refine vp ?_
 refine gd h F fun F h=>?_
 refine vp ?_
 refine nm cS h F fun lh F h=>?_
 refine vp ?_
 refine vn ?_
 exact nx [some 0,some 2] lh h
 refine cT ?_
 refine rs0 ?_
 iterate 2 refine vp ?_
 refine vn ?_
 cases h
 exact Wp.ret en0
 refine rs0 ?_
 refine vp ?_
 refine vn ?_
 refine Wp.block ?_
 refine lp [some 0,some 1] (fun x:Int × Int=>{ ch:=[(1,.hptr 0 0 0),(4,aL cS rc),(5,.sl 1 0 pd.length),(6,.int .i64 x.2),(7,.int .i64 x.1)],hp:=[.var [.str ab.Label,aL Z0 ab.Contacts,aL Z4 ab.Coils,.str ab.Jump],.arr 1 pd.length (rw (pd.map cS))],base:=0,n:=74,cond:=True,gl:=G0 }) (fun m x=>ZI n ab rc pd (Z1f n ab rc re) m x.1 x.2 = some r) n (0,(-1)) h ?_
 rintro ri ⟨pj,pk⟩ h
 dsimp only [ZI] at h
 try dsimp only
 refine Wp.seq ?_
 refine rs0 ?_
 iterate 5 refine vp ?_
 refine sD h F (fun F h=>?_) fun F h=>?_
 refine vs ?_
 refine vs ?_
 refine vp ?_
 refine vn ?_
 refine cF ?_
 refine Wp.exit ?_
 exact nx [some 0,some 1] pk h
 refine vg ?_
 refine vg ?_
 refine vp ?_
 refine vn ?_
 refine sD h F (fun F h=>?_) fun F h=>?_
 refine cF ?_
 refine Wp.exit ?_
 exact nx [some 0,some 1] pk h
 refine cT ?_
 refine Wp.skip ?_
 refine sh ?_
 refine Wp.seq ?_
 refine Wp.block ?_
 refine Wp.seq ?_
 refine rs0 ?_
 iterate 3 refine vp ?_
 refine eI h F fun xl F h=>?_
 iterate 2 refine vp ?_
 obtain ⟨rm,hr38184,h⟩:=obind h
 refine vc (Z30 hr38184) ?_
 refine vn ?_
 refine sB h F (fun F h=>?_) fun F h=>?_
 refine cF ?_
 refine Wp.skip ?_
 refine sh ?_
 refine rs0 ?_
 refine vp ?_
 refine vn ?_
 refine Wp.seq ?_
 refine rs0 ?_
 refine vp ?_
 refine vn ?_
 refine Wp.block ?_
 refine lp [some 0,some 1] (fun x:Bool × Int=>{ ch:=[(1,.hptr 0 0 0),(4,aL cS rc),(5,.sl 1 0 pd.length),(6,.int .i64 pk),(7,.int .i64 pj),(8,.bool x.1),(9,.int .i64 x.2),(22,.int .i64 pk),(23,.bool (decide (pk < 0)))],hp:=[.var [.str ab.Label,aL Z0 ab.Contacts,aL Z4 ab.Coils,.str ab.Jump],.arr 1 pd.length (rw (pd.map cS))],base:=0,n:=74,cond:=True,gl:=G0 }) (fun m x=>Z1U n ab rc pd pj pk (ZI n ab rc pd (Z1f n ab rc re) ri) m x.1 x.2 = some r) n (true,0) h ?_
 rintro rn ⟨true38189,po⟩ h
 dsimp only [Z1U] at h
 try dsimp only
 refine Wp.seq ?_
 refine rs0 ?_
 iterate 5 refine vp ?_
 refine vn ?_
 refine sD h F (fun F h=>?_) fun F h=>?_
 refine cF ?_
 refine Wp.exit ?_
 refine sh ?_
 refine rs0 ?_
 refine vp ?_
 refine vn ?_
 refine sB h F (fun F h=>?_) fun F h=>?_
 refine cF ?_
 refine Wp.skip ?_
 refine sh ?_
 refine rg0 ?_
 iterate 3 refine vp ?_
 refine vn ?_
 exact nx [some 0,some 1] ((IntKind.i64.wrap (pj + 1)),pk) h
 refine cT ?_
 refine rg0 ?_
 iterate 2 refine vp ?_
 refine vn ?_
 refine sh ?_
 refine rg0 ?_
 iterate 3 refine vp ?_
 refine vn ?_
 exact nx [some 0,some 1] ((IntKind.i64.wrap (pj + 1)),pj) h
 refine cT ?_
 refine Wp.skip ?_
 refine sh ?_
 refine Wp.seq ?_
 refine Wp.block ?_
 refine dw (fun _=>false) [0,1] ?_
 refine du 3 ?_
 refine eI h F fun xp F h=>?_
 refine du 5 ?_
 refine eI h F fun xq F h=>?_
 refine du 4 ?_
 refine sE h F (fun _ F h=>?_) fun _ F h=>?_
 refine ds ?_
 refine ds ?_
 refine ds ?_
 refine ds ?_
 refine ds ?_
 refine ds ?_
 refine ds ?_
 refine ds ?_
 refine ds ?_
 refine du 1 ?_
 refine dn ?_
 refine cF ?_
 refine Wp.skip ?_
 refine sh ?_
 refine rg0 ?_
 iterate 3 refine vp ?_
 refine vn ?_
 exact nx [some 0,some 1] (true38189,(IntKind.i64.wrap (po + 1))) h
 refine du 1 ?_
 refine du 1 ?_
 refine du 1 ?_
 refine du 1 ?_
 refine du 1 ?_
 refine du 1 ?_
 refine du 1 ?_
 obtain ⟨rt,hr38196,h⟩:=obind h
 refine dc (Z30 hr38196) ?_ (hg:=by (simp [F]; done))
 refine du 1 ?_
 refine du 1 ?_
 refine dn ?_
 refine sB h F (fun F h=>?_) fun F h=>?_
 refine cF ?_
 refine Wp.skip ?_
 refine sh ?_
 refine rg0 ?_
 iterate 3 refine vp ?_
 refine vn ?_
 exact nx [some 0,some 1] (true38189,(IntKind.i64.wrap (po + 1))) h
 refine cT ?_
 refine rg0 ?_
 refine vp ?_
 refine vn ?_
 refine sh ?_
 refine rg0 ?_
 iterate 3 refine vp ?_
 refine vn ?_
 exact nx [some 0,some 1] (false,(IntKind.i64.wrap (po + 1))) h
 refine cT ?_
 refine Wp.exit ?_
 refine sh ?_
 refine rg0 ?_
 iterate 3 refine vp ?_
 refine vn ?_
 exact nx [some 0,some 1] ((IntKind.i64.wrap (pj + 1)),pk) h
theorem Zd4 {su:ApiRung -> Ref14Tree -> Int -> Option ((List ApiIns))} (Hslf_ref17_lay:∀ {ab:ApiRung} {a1:Ref14Tree} {a2:Int} {r:(List ApiIns)},su ab a1 a2 = some r -> Con Tryz.prog G0 51 [.agg (Z7 ab),.agg [.int .i64 a1.Kind,.int .i64 a1.N,aL Zc a1.Kids],.int .i64 a2] (aL Zb r) []) (n:Nat):∀ {ab:ApiRung} {a1:Ref14Tree} {a2:Int} {r:(List ApiIns)},Z4h su n ab a1 a2 = some r -> Con Tryz.prog G0 51 [.agg (Z7 ab),.agg [.int .i64 a1.Kind,.int .i64 a1.N,aL Zc a1.Kids],.int .i64 a2] (.sl 0 0 r.length) [.arr 4 r.length (rw (r.map Zb))]:=by
 induction n with
 | zero=>intro ab a1 a2 r h; simp [Z4h] at h
 | succ n Hslf_ref17_lay_o0 =>
  intro ab a1 a2 r h
  refine Za (T:=TT0) tt_ok Tryz.func51 (c:=_) (by unfold Tryz.f51; rfl) Tryz.ntmps51 (rs:=[.tmp 6]) (by rw [Tryz.results51]) (by unfold Tryz.f51; rfl) (by simp) ?_
  simp only [Z3]
  have F:=True.intro
  dsimp only [Z4h] at h
  refine rs0 ?_
  iterate 3 refine vp ?_
  refine vn ?_
  refine Wp.seq ?_
  refine rs0 ?_
  iterate 3 refine vp ?_
  refine vn ?_
  refine sB h F (fun F h=>?_) fun F h=>?_
  refine cF ?_
  refine Wp.skip ?_
  refine sh ?_
  refine dw (fun d=>Nat.beq d 25) [0,1] ?_
  refine du 3 ?_
  refine eN (m:=0) h F fun xv F h=>?_
  refine du 3 ?_
  obtain ⟨rz,hr40937,h⟩:=obind h
  refine dx (Hslf_ref17_lay_o0 hr40937) ?_
  refine du 1 ?_
  refine dn ?_
  refine Wp.seq ?_
  refine rs0 ?_
  refine vp ?_
  refine vn ?_
  refine Wp.block ?_
  refine lp [some 0,some 1,some 2] (fun x:(List ApiIns) × Int=>{ ch:=[(2,.int .i64 a2),(3,.hptr 0 0 0),(4,.hptr 1 0 0),(7,.sl 2 0 x.1.length),(8,.int .i64 x.2)],hp:=[.var [.str ab.Label,aL Z0 ab.Contacts,aL Z4 ab.Coils,.str ab.Jump],.var [.int .i64 a1.Kind,.int .i64 a1.N,aL Zc a1.Kids],.arr 4 x.1.length (rw (x.1.map Zb))],base:=0,n:=91,cond:=True,gl:=G0 }) (fun m x=>Z1B ab a1 a2 su m x.1 x.2 = some r) n (rz,1) h ?_
  rintro re ⟨rA,pB⟩ h
  dsimp only [Z1B] at h
  try dsimp only
  refine Wp.seq ?_
  refine rs0 ?_
  iterate 5 refine vp ?_
  refine vn ?_
  refine sD h F (fun F h=>?_) fun F h=>?_
  refine cF ?_
  refine Wp.exit ?_
  refine sh ?_
  refine rs0 ?_
  iterate 2 refine vp ?_
  refine vn ?_
  cases h
  exact Wp.ret (enH [some 2])
  refine cT ?_
  refine Wp.skip ?_
  refine sh ?_
  refine Wp.seq ?_
  refine Wp.block ?_
  refine rs0 ?_
  iterate 3 refine vp ?_
  refine eI h F fun xC F h=>?_
  iterate 4 refine vp ?_
  refine vn ?_
  refine jn (fun _:Unit=>{ ch:=[(2,.int .i64 a2),(3,.hptr 0 0 0),(4,.hptr 1 0 0),(7,.sl 3 0 rA.length),(8,.int .i64 pB),(9,.hptr 2 0 0)],hp:=[.var [.str ab.Label,aL Z0 ab.Contacts,aL Z4 ab.Coils,.str ab.Jump],.var [.int .i64 a1.Kind,.int .i64 a1.N,aL Zc a1.Kids],.var [.int .i64 xC.Kind,.int .i64 xC.N,aL Zc xC.Kids],.arr 4 rA.length (rw (rA.map Zb))],base:=0,n:=91,cond:=True,gl:=G0 }) (fun x=>Z3H ab a1 a2 rA pB (Z1B ab a1 a2 su re) xC su = some r) ?_ ?_
  clear h
  rintro _ h
  dsimp only [Z3H] at h
  try dsimp only
  refine rs0 ?_
  iterate 3 refine vp ?_
  refine gd h F fun F h=>?_
  refine vp ?_
  refine nm Zb h F fun lD F h=>?_
  refine vp ?_
  refine vn ?_
  refine rs0 ?_
  iterate 4 refine vp ?_
  obtain ⟨rE,hr41001,h⟩:=obind h
  refine vc (Hslf_ref17_lay hr41001) ?_
  refine gd h F fun F h=>?_
  refine vp ?_
  refine nm Zb h F fun lF F h=>?_
  refine vp ?_
  refine vn ?_
  refine rg0 ?_
  iterate 6 refine vp ?_
  refine gd h F fun F h=>?_
  refine vp ?_
  refine nm Zb h F fun lG F h=>?_
  refine vp ?_
  refine vn ?_
  refine sh ?_
  refine rg0 ?_
  iterate 3 refine vp ?_
  refine vn ?_
  exact nx [some 0,some 1,some 6] (lG,(IntKind.i64.wrap (pB + 1))) h
  refine rs0 ?_
  iterate 4 refine vp ?_
  refine sB h F (fun F h=>?_) fun F h=>?_
  refine vs ?_
  refine vs ?_
  refine vs ?_
  refine vs ?_
  refine vs ?_
  refine vs ?_
  refine vs ?_
  refine vs ?_
  refine vp ?_
  refine vn ?_
  refine cF ?_
  refine Wp.skip ?_
  exact nx [some 0,some 1,some 3,some 2] () h
  refine vg ?_
  refine vg ?_
  refine vg ?_
  refine vg ?_
  refine eI h F fun xH F h=>?_
  refine vg ?_
  refine vg ?_
  refine vg ?_
  refine vg ?_
  refine vp ?_
  refine vn ?_
  refine sD h F (fun F h=>?_) fun F h=>?_
  refine cF ?_
  refine Wp.skip ?_
  exact nx [some 0,some 1,some 3,some 2] () h
  refine cT ?_
  refine dw (fun d=>Nat.beq d 72 || Nat.beq d 1072) [0,1,2,3] ?_
  refine du 8 ?_
  refine du 8 ?_
  refine du 5 ?_
  refine gd h F fun F h=>?_
  refine db ?_
  refine nm Zb h F fun lI F h=>?_
  refine du 1 ?_
  refine dn ?_
  refine Wp.exit ?_
  refine sh ?_
  refine rg0 ?_
  iterate 3 refine vp ?_
  refine vn ?_
  exact nx [some 0,some 1,some 4] (lI,(IntKind.i64.wrap (pB + 1))) h
  refine cT ?_
  refine rs (fun d=>Nat.beq d 18) ?_
  iterate 4 refine vp ?_
  obtain ⟨rJ,hr40933,h⟩:=obind h
  refine vc (Z9u hr40933) ?_
  refine vp ?_
  refine nl Zb h F fun lK m F h=>?_
  try simp only [m]
  clear m
  refine vp ?_
  refine vn ?_
  cases h
  exact Wp.ret (enH [some 2])
theorem Z8z {n:Nat} {s0:ApiSize} {kind1:Int} {a2:ApiAddr} {r:Int} (h:Z4T n s0 kind1 a2 = some r):Con Tryz.prog G0 154 [.agg (Z4l s0),.int .i64 kind1,.agg (Z8p a2)] (.int .i64 r) []:=by
 refine Za (T:=TT0) tt_ok Tryz.func154 (c:=_) (by unfold Tryz.f154; rfl) Tryz.ntmps154 (rs:=[.tmp 6]) (by rw [Tryz.results154]) (by unfold Tryz.f154; rfl) (by simp) ?_
 simp only [Z3]
 have F:=True.intro
 dsimp only [Z4T] at h
 refine rs0 ?_
 iterate 3 refine vp ?_
 refine vn ?_
 refine Wp.seq ?_
 refine rs0 ?_
 iterate 3 refine vp ?_
 refine sD h F (fun F h=>?_) fun F h=>?_
 refine vg ?_
 refine vg ?_
 refine vp ?_
 refine vn ?_
 refine sD h F (fun F h=>?_) fun F h=>?_
 refine cF ?_
 refine Wp.skip ?_
 refine sh ?_
 refine rs0 ?_
 iterate 2 refine vp ?_
 obtain ⟨rL,hr10779,h⟩:=obind h
 refine vc (ZbB hr10779) ?_
 refine vp ?_
 refine vn ?_
 cases h
 exact Wp.ret en0
 refine cT ?_
 refine rs0 ?_
 refine vp ?_
 refine vn ?_
 cases h
 exact Wp.ret en0
 refine vs ?_
 refine vs ?_
 refine vp ?_
 refine vn ?_
 refine cT ?_
 refine rs0 ?_
 refine vp ?_
 refine vn ?_
 cases h
 exact Wp.ret en0
theorem ZaA {n:Nat} {a0:TreeTree} {b1:TreeTree} {r:Int} (h:Z2P n a0 b1 = some r):Con Tryz.prog G0 70 [.agg [.int .i64 a0.Kind,.int .i64 a0.N,aL Z6 a0.Kids],.agg [.int .i64 b1.Kind,.int .i64 b1.N,aL Z6 b1.Kids]] (.int .i64 r) []:=by
 refine Za (T:=TT0) tt_ok Tryz.func70 (c:=_) (by unfold Tryz.f70; rfl) Tryz.ntmps70 (rs:=[.tmp 4]) (by rw [Tryz.results70]) (by unfold Tryz.f70; rfl) (by simp) ?_
 simp only [Z3]
 have F:=True.intro
 dsimp only [Z2P] at h
 refine rs0 ?_
 iterate 3 refine vp ?_
 refine vn ?_
 refine dw (fun _=>false) [0,1] ?_
 refine du 1 ?_
 obtain ⟨rM,hr15140,h⟩:=obind h
 refine dc (Z8Z _ hr15140) ?_
 obtain ⟨rN,hr15148,h⟩:=obind h
 refine dc (Z7R hr15148) ?_
 refine du 1 ?_
 obtain ⟨rO,hr15150,h⟩:=obind h
 refine dc (Z8Z _ hr15150) ?_
 obtain ⟨rP,hr15152,h⟩:=obind h
 refine dc (Z7R hr15152) ?_
 obtain ⟨rQ,hr15158,h⟩:=obind h
 refine dc (ZaC hr15158) ?_
 refine du 1 ?_
 refine dn ?_
 cases h
 exact Wp.ret en0
theorem Z3l {n:Nat} {s0:List TreeTree} {b0:TreeTree} {r:Bool} (h:ZM n s0 b0 = some r):ConH Tryz.prog G0 91 [aL Z6 s0,.clos 92 [] [.hptr 0 0 0]] [.var [.int .i64 b0.Kind,.int .i64 b0.N,aL Z6 b0.Kids]] (.bool r) [.var [.int .i64 b0.Kind,.int .i64 b0.N,aL Z6 b0.Kids]]:=by
 refine ZA (T:=TT0) tt_ok Tryz.func91 (c:=_) (by unfold Tryz.f91; rfl) Tryz.ntmps91 (rs:=[.tmp 4]) (by rw [Tryz.results91]) (by unfold Tryz.f91; rfl) (by simp) (k:=1) rfl rfl ?_
 try simp only [Z3]
 have F:=True.intro
 dsimp only [ZM] at h
 refine rs0 ?_
 refine vp ?_
 refine vn ?_
 refine rs0 ?_
 iterate 2 refine vp ?_
 obtain ⟨rR,hr15250,h⟩:=obind h
 refine vh [0] (Z6g hr15250) ?_
 iterate 2 refine vp ?_
 refine vn ?_
 cases h
 exact Wp.ret (enH [some 0])
theorem Z7M {n:Nat} {r_0:ApiRung} {node1:Str} {r:(List Int)} (h:Z2a n r_0 node1 = some r):Con Tryz.prog G0 101 [.agg (Z7 r_0),.str node1] (aL (cI .i64) r) []:=by
 refine Za (T:=TT0) tt_ok Tryz.func101 (c:=_) (by unfold Tryz.f101; rfl) Tryz.ntmps101 (rs:=[.tmp 4]) (by rw [Tryz.results101]) (by unfold Tryz.f101; rfl) (by simp) ?_
 simp only [Z3]
 have F:=True.intro
 dsimp only [Z2a] at h
 refine rs0 ?_
 iterate 3 refine vp ?_
 refine vn ?_
 refine rs0 ?_
 iterate 2 refine vp ?_
 obtain ⟨rS,hr13207,h⟩:=obind h
 refine vh [1] (Z9b hr13207) ?_
 refine vp ?_
 refine vn ?_
 cases h
 exact Wp.ret en0
end Go.Proofs.YtaebdeidbibfkaaGreatDoor
