/- Contracts: models of functions are right. No law is proved here. -/
import Derived.Test.YtaebdeidbibfkaaGreatDoorIGH
import Derived.Test.YtaebdeidbibfkaaGreatDoorIGC1
import Derived.Test.YtaebdeidbibfkaaGreatDoorIGC3
import Derived.Test.YtaebdeidbibfkaaGreatDoorIGC5
import Derived.Test.YtaebdeidbibfkaaGreatDoorIGC6
import Derived.Test.YtaebdeidbibfkaaGreatDoorIGC7
import Derived.Test.YtaebdeidbibfkaaGreatDoorIGC8
import Derived.Test.YtaebdeidbibfkaaGreatDoorIGC10
import Derived.Test.YtaebdeidbibfkaaGreatDoorIGC11
import Derived.Test.YtaebdeidbibfkaaGreatDoorIGC12
namespace Go.Proofs.YtaebdeidbibfkaaGreatDoor
open Go.Av Go.G
attribute [-simp] Int.natCast_tdiv_eq_ediv
attribute [local congr] Zx ZE Zy
variable [Drawn]
set_option maxHeartbeats 4000000
set_option linter.unusedSectionVars false
set_option maxRecDepth 20000
set_option linter.unusedSimpArgs false
set_option linter.unusedVariables false
theorem Zc5 {n:Nat} {ab:ApiLadder} {r:Int × Int} (h:Z5o n ab = some r):Con Tryz.prog G0 82 [.agg (Z1r ab)] (.tup [.int .i64 r.1,.int .i64 r.2]) []:=by
 refine Za (T:=TT0) tt_ok Tryz.func82 (c:=_) (by unfold Tryz.f82; rfl) Tryz.ntmps82 (rs:=[.tmp 2,.tmp 3]) (by rw [Tryz.results82]) (by unfold Tryz.f82; rfl) (by simp) ?_
 simp only [Z3]
 have F:=True.intro
 dsimp only [Z5o] at h
 refine rs0 ?_
 iterate 3 refine vp ?_
 refine vn ?_
 refine rs0 ?_
 refine vp ?_
 obtain ⟨rc,hr10721,h⟩:=obind h
 refine vc (Zc3 hr10721) ?_
 iterate 2 refine vp ?_
 refine vn ?_
 refine Wp.seq ?_
 refine Wp.block ?_
 refine rs0 ?_
 refine vp ?_
 obtain ⟨rd,hr10733,h⟩:=obind h
 refine vc (ZaX hr10733) ?_
 iterate 2 refine vp ?_
 refine vn ?_
 refine sB h F (fun F h=>?_) fun F h=>?_
 refine cF ?_
 refine rs0 ?_
 iterate 5 refine vp ?_
 refine vn ?_
 refine sD h F (fun F h=>?_) fun F h=>?_
 refine cF ?_
 refine Wp.skip ?_
 refine sh ?_
 refine jn (fun _:Unit=>{ ch:=[(1,.hptr 0 0 0)],hp:=[.var [.int .i64 ab.I,.int .i64 ab.Q,.int .i64 ab.M,aL Z7 ab.Rungs]],base:=0,n:=67,cond:=True,gl:=G0 }) (fun x=>Z5c n ab = some r) ?_ ?_
 clear h
 rintro _ h
 dsimp only [Z5c] at h
 try dsimp only
 refine Wp.seq ?_
 refine rs0 ?_
 iterate 4 refine vp ?_
 refine vn ?_
 refine Wp.block ?_
 refine lp [some 0] (fun pe:Int=>{ ch:=[(1,.hptr 0 0 0),(42,aL Z7 ab.Rungs),(43,.int .i64 (ab.Rungs.length:Int)),(44,.int .i64 pe)],hp:=[.var [.int .i64 ab.I,.int .i64 ab.Q,.int .i64 ab.M,aL Z7 ab.Rungs]],base:=0,n:=67,cond:=True,gl:=G0 }) (fun m x=>Z2x n ab m x = some r) n 0 h ?_
 rintro rf pe h
 dsimp only [Z2x] at h
 try dsimp only
 refine rs0 ?_
 refine vp ?_
 refine vn ?_
 refine Wp.seq ?_
 refine sD h F (fun F h=>?_) fun F h=>?_
 refine cF ?_
 refine Wp.exit ?_
 refine sh ?_
 refine rs0 ?_
 iterate 5 refine vp ?_
 refine vn ?_
 cases h
 exact Wp.ret en0
 refine cT ?_
 refine Wp.skip ?_
 refine sh ?_
 refine Wp.seq ?_
 refine Wp.block ?_
 refine rs0 ?_
 refine vp ?_
 refine eI h F fun xg F h=>?_
 iterate 5 refine vp ?_
 refine vn ?_
 refine rs0 ?_
 iterate 4 refine vp ?_
 refine sEn h F (fun _ F h=>?_) fun _ F h=>?_
 refine vs ?_
 refine vs ?_
 refine vs ?_
 refine vs ?_
 refine vs ?_
 refine vs ?_
 refine vs ?_
 refine vs ?_
 refine vp ?_
 refine vn ?_
 refine cF ?_
 refine Wp.skip ?_
 refine sh ?_
 refine rg0 ?_
 iterate 2 refine vp ?_
 refine vn ?_
 exact nx [some 0] (IntKind.i64.wrap (pe + 1)) h
 refine vg ?_
 refine vg ?_
 refine vg ?_
 refine vg ?_
 refine gd h F fun F h=>?_
 refine vg ?_
 refine nm Z7 h F fun lh F h=>?_
 refine vg ?_
 obtain ⟨ri,hr10908,h⟩:=obind h
 refine vh [1] (Z5K hr10908) ?_ (hg:=by (simp [F]; done))
 refine vg ?_
 refine vp ?_
 refine vn ?_
 refine sB h F (fun F h=>?_) fun F h=>?_
 refine cF ?_
 refine Wp.skip ?_
 refine sh ?_
 refine rg0 ?_
 iterate 2 refine vp ?_
 refine vn ?_
 exact nx [some 0] (IntKind.i64.wrap (pe + 1)) h
 refine cT ?_
 refine rs0 ?_
 iterate 3 refine vp ?_
 refine vn ?_
 cases h
 exact Wp.ret en0
 refine rs0 ?_
 iterate 4 refine vp ?_
 refine vn ?_
 refine Wp.block ?_
 refine lp [some 0,some 1] (fun pj:Int=>{ ch:=[(1,.hptr 0 0 0),(4,.hptr 1 0 0),(22,aL Z7 ab.Rungs),(23,.int .i64 (ab.Rungs.length:Int)),(24,.int .i64 pj)],hp:=[.var [.int .i64 ab.I,.int .i64 ab.Q,.int .i64 ab.M,aL Z7 ab.Rungs],.var [.int .i64 rc.I,.int .i64 rc.Q,.int .i64 rc.M,.int .i64 rc.E]],base:=0,n:=67,cond:=True,gl:=G0 }) (fun m x=>Z37 n ab rc m x = some r) n 0 h ?_
 rintro rm pj h
 dsimp only [Z37] at h
 try dsimp only
 refine rs0 ?_
 refine vp ?_
 refine vn ?_
 refine Wp.seq ?_
 refine sD h F (fun F h=>?_) fun F h=>?_
 refine cF ?_
 refine Wp.exit ?_
 exact nx [some 0] () h
 refine cT ?_
 refine Wp.skip ?_
 refine sh ?_
 refine Wp.seq ?_
 refine Wp.block ?_
 refine rs0 ?_
 refine vp ?_
 refine eI h F fun xn F h=>?_
 iterate 5 refine vp ?_
 refine vn ?_
 refine dw (fun _=>false) [0,1,2] ?_
 refine du 4 ?_
 refine gd h F fun F h=>?_
 refine du 1 ?_
 refine nm Z7 h F fun lq F h=>?_
 refine du 1 ?_
 obtain ⟨rt,hr10921,h⟩:=obind h
 refine dc (ZcY hr10921) ?_
 refine du 1 ?_
 refine dn ?_
 refine rs0 ?_
 iterate 2 refine vp ?_
 refine vn ?_
 refine sB h F (fun F h=>?_) fun F h=>?_
 refine cF ?_
 refine Wp.skip ?_
 refine sh ?_
 refine rg0 ?_
 iterate 2 refine vp ?_
 refine vn ?_
 exact nx [some 0,some 1] (IntKind.i64.wrap (pj + 1)) h
 refine cT ?_
 refine rs0 ?_
 iterate 4 refine vp ?_
 refine vn ?_
 cases h
 exact Wp.ret en0
 refine cT ?_
 refine rs0 ?_
 iterate 2 refine vp ?_
 refine vn ?_
 cases h
 exact Wp.ret en0
 refine cT ?_
 refine rs0 ?_
 iterate 2 refine vp ?_
 refine vn ?_
 cases h
 exact Wp.ret en0
theorem Z6s {n:Nat} {l0:List Str} {b1:List Str} {b2:List Str} {r:(List Str)} (h:ZK n l0 b1 b2 = some r):ConH Tryz.prog G0 106 [.sl 0 0 l0.length,.clos 107 [] [.hptr 1 0 0,.hptr 2 0 0]] [.arr 1 l0.length (rw (l0.map cS)),.var [aL cS b1],.var [aL cS b2]] (.sl 0 0 r.length) [.arr 1 r.length (rw (r.map cS)),.var [aL cS b1],.var [aL cS b2]]:=by
 refine ZA (T:=TT0) tt_ok Tryz.func106 (c:=_) (by unfold Tryz.f106; rfl) Tryz.ntmps106 (rs:=[.tmp 4]) (by rw [Tryz.results106]) (by unfold Tryz.f106; rfl) (by simp) (k:=3) rfl rfl ?_
 try simp only [Z3]
 have F:=True.intro
 dsimp only [ZK] at h
 refine rs0 ?_
 refine vp ?_
 refine vn ?_
 refine rs0 ?_
 iterate 2 refine vp ?_
 obtain ⟨ru,hr14730,h⟩:=obind h
 refine vh [0,1,2] (Z6c hr14730) ?_
 refine vp ?_
 refine vn ?_
 refine Wp.seq ?_
 refine rs0 ?_
 iterate 2 refine vp ?_
 refine vn ?_
 refine sB h F (fun F h=>?_) fun F h=>?_
 refine cF ?_
 refine Wp.skip ?_
 refine sh ?_
 refine Wp.seq ?_
 refine rs0 ?_
 iterate 3 refine vp ?_
 refine vn ?_
 refine Wp.block ?_
 refine lp [some 0,some 1,some 2] (fun x:(List Str) × Int × Int=>{ ch:=[(0,.sl 0 0 x.1.length),(1,.clos 107 [] [.hptr 1 0 0,.hptr 2 0 0]),(5,.int .i64 x.2.1),(6,.int .i64 x.2.2)],hp:=[.arr 1 x.1.length (rw (x.1.map cS)),.var [aL cS b1],.var [aL cS b2]],base:=3,n:=42,cond:=True,gl:=G0 }) (fun m x=>Zk n b1 b2 m x.1 x.2.1 x.2.2 = some r) n (l0,ru,(IntKind.i64.wrap (ru + 1))) h ?_
 rintro rv ⟨lA,rB,pC⟩ h
 dsimp only [Zk] at h
 try dsimp only
 refine Wp.seq ?_
 refine rs0 ?_
 iterate 4 refine vp ?_
 refine vn ?_
 refine sD h F (fun F h=>?_) fun F h=>?_
 refine cF ?_
 refine Wp.exit ?_
 refine sh ?_
 refine rs0 ?_
 iterate 2 refine vp ?_
 refine gd h F fun F h=>?_
 refine vp ?_
 refine gd h F fun F h=>?_
 refine vp ?_
 refine vn ?_
 refine rl [some 0,some 1,some 2] { ch:=[(0,.sl 0 0 lA.length),(1,.clos 107 [] [.hptr 1 0 0,.hptr 2 0 0]),(5,.int .i64 rB),(6,.int .i64 pC),(16,.int .i64 pC),(17,.sl 0 0 lA.length),(18,.int .i64 (lA.length:Int)),(19,.bool (decide (pC < (lA.length:Int)))),(36,.sl 0 0 lA.length),(37,.int .i64 rB),(38,.sl 0 rB.toNat (lA.length - rB.toNat))],hp:=[.arr 1 (lA.take rB.toNat).length (rw ((lA.take rB.toNat).map cS)),.var [aL cS b1],.var [aL cS b2]],base:=3,n:=42,cond:=True,gl:=G0 } ?_
 refine rs0 ?_
 iterate 2 refine vp ?_
 refine gd h F fun F h=>?_
 iterate 2 refine vp ?_
 refine vn ?_
 cases h
 exact Wp.ret (enH [some 0,some 1,some 2])
 refine cT ?_
 refine Wp.skip ?_
 refine sh ?_
 refine Wp.seq ?_
 refine Wp.block ?_
 refine rs0 ?_
 iterate 2 refine vp ?_
 refine eI h F fun xD F h=>?_
 iterate 3 refine vp ?_
 refine vn ?_
 refine rs0 ?_
 iterate 2 refine vp ?_
 obtain ⟨rE,hr14746,h⟩:=obind h
 refine vh [1,2] (Z7e hr14746) ?_
 refine vp ?_
 refine vn ?_
 refine sB h F (fun F h=>?_) fun F h=>?_
 refine cF ?_
 refine Wp.skip ?_
 refine sh ?_
 refine rg0 ?_
 iterate 3 refine vp ?_
 refine vn ?_
 exact nx [some 0,some 1,some 2] (lA,rB,(IntKind.i64.wrap (pC + 1))) h
 refine cT ?_
 refine rs0 ?_
 iterate 3 refine vp ?_
 refine eI h F fun xF F h=>?_
 iterate 2 refine vp ?_
 refine nm cS h F fun lG F h=>?_
 refine vn ?_
 refine rg0 ?_
 iterate 3 refine vp ?_
 refine vn ?_
 refine sh ?_
 refine rg0 ?_
 iterate 3 refine vp ?_
 refine vn ?_
 exact nx [some 0,some 1,some 2] (lG,(IntKind.i64.wrap (rB + 1)),(IntKind.i64.wrap (pC + 1))) h
 refine cT ?_
 refine rs0 ?_
 iterate 2 refine vp ?_
 refine vn ?_
 cases h
 exact Wp.ret (enH [some 0,some 1,some 2])
theorem ZaH {n:Nat} {r_0:ApiRung} {r:(List Str)} (h:Z5E n r_0 = some r):Con Tryz.prog G0 75 [.agg (Z7 r_0)] (aL cS r) []:=by
 refine Za (T:=TT0) tt_ok Tryz.func75 (c:=_) (by unfold Tryz.f75; rfl) Tryz.ntmps75 (rs:=[.tmp 2]) (by rw [Tryz.results75]) (by unfold Tryz.f75; rfl) (by simp) ?_
 simp only [Z3]
 have F:=True.intro
 dsimp only [Z5E] at h
 refine rs0 ?_
 iterate 2 refine vp ?_
 refine vn ?_
 refine rs0 ?_
 refine vp ?_
 obtain ⟨rH,hr38517,h⟩:=obind h
 refine vc (Z72 hr38517) ?_
 refine vp ?_
 refine vn ?_
 refine rs0 ?_
 refine vp ?_
 obtain ⟨rI,hr38813,h⟩:=obind h
 refine vc (ZaJ hr38813) ?_
 refine vp ?_
 refine vn ?_
 refine rs0 ?_
 refine vp ?_
 obtain ⟨rJ,hr38817,h⟩:=obind h
 refine vc (ZaE hr38817) ?_
 refine vp ?_
 refine vn ?_
 refine rs0 ?_
 refine vp ?_
 refine vn ?_
 refine Wp.seq ?_
 refine rs0 ?_
 refine vp ?_
 refine vn ?_
 refine Wp.block ?_
 refine lp [none] (fun x:(List Str) × Int=>{ ch:=[(3,aL cS rH),(4,aL cS rI),(5,aL cS rJ),(6,.sl 0 0 x.1.length),(7,.int .i64 x.2)],hp:=[.arr 1 x.1.length (rw (x.1.map cS))],base:=0,n:=44,cond:=True,gl:=G0 }) (fun m x=>Z1o n rH rI rJ m x.1 x.2 = some r) n ([],0) h ?_
 rintro rv ⟨pK,pL⟩ h
 dsimp only [Z1o] at h
 try dsimp only
 refine Wp.seq ?_
 refine rs0 ?_
 iterate 4 refine vp ?_
 refine vn ?_
 refine sD h F (fun F h=>?_) fun F h=>?_
 refine cF ?_
 refine Wp.exit ?_
 refine sh ?_
 refine rs0 ?_
 iterate 2 refine vp ?_
 refine vn ?_
 cases h
 exact Wp.ret en0
 refine cT ?_
 refine Wp.skip ?_
 refine sh ?_
 refine Wp.seq ?_
 refine Wp.block ?_
 refine rs0 ?_
 iterate 3 refine vp ?_
 refine eI h F fun xM F h=>?_
 iterate 2 refine vp ?_
 obtain ⟨rN,hr38840,h⟩:=obind h
 refine vc (Zan hr38840) ?_
 iterate 2 refine vp ?_
 refine sB h F (fun F h=>?_) fun F h=>?_
 refine vg ?_
 refine vg ?_
 refine vg ?_
 refine vg ?_
 refine vg ?_
 obtain ⟨rO,hr38843,h⟩:=obind h
 refine vc (Zan hr38843) ?_ (hg:=by (simp [F]; done))
 refine vg ?_
 refine vp ?_
 refine vn ?_
 refine sB h F (fun F h=>?_) fun F h=>?_
 refine cF ?_
 refine Wp.skip ?_
 refine sh ?_
 refine rg0 ?_
 iterate 3 refine vp ?_
 refine vn ?_
 exact nx [some 0] (pK,(IntKind.i64.wrap (pL + 1))) h
 refine cT ?_
 refine rg (fun d=>Nat.beq d 42) ?_
 iterate 6 refine vp ?_
 refine gd h F fun F h=>?_
 refine vp ?_
 refine nm cS h F fun lP F h=>?_
 refine vp ?_
 refine vn ?_
 refine sh ?_
 refine rg0 ?_
 iterate 3 refine vp ?_
 refine vn ?_
 exact nx [some 1] (lP,(IntKind.i64.wrap (pL + 1))) h
 refine vs ?_
 refine vs ?_
 refine vs ?_
 refine vs ?_
 refine vs ?_
 refine vs ?_
 refine vs ?_
 refine vp ?_
 refine vn ?_
 refine cT ?_
 refine rg (fun d=>Nat.beq d 42) ?_
 iterate 6 refine vp ?_
 refine gd h F fun F h=>?_
 refine vp ?_
 refine nm cS h F fun lQ F h=>?_
 refine vp ?_
 refine vn ?_
 refine sh ?_
 refine rg0 ?_
 iterate 3 refine vp ?_
 refine vn ?_
 exact nx [some 1] (lQ,(IntKind.i64.wrap (pL + 1))) h
theorem Z7V (n:Nat):∀ {n_0:Str} {m1:List (Str × Bool)} {b3:ApiRung} {r:(List (Str × Bool))},Zr n n_0 m1 b3 = some r -> ConH Tryz.prog G0 166 [.str n_0,.hptr 0 0 0,.hptr 2 0 0,.hptr 4 0 0] [.var [.mp 1],.map (mAV AV.str cB m1),.var [.clos 138 [] [.hptr 3 0 0]],.var [.str b3.Label,aL Z0 b3.Contacts,aL Z4 b3.Coils,.str b3.Jump],.var [.clos 166 [] [.hptr 0 0 0,.hptr 2 0 0,.hptr 4 0 0]]] (.tup []) [.var [.mp 1],.map (mAV AV.str cB r),.var [.clos 138 [] [.hptr 3 0 0]],.var [.str b3.Label,aL Z0 b3.Contacts,aL Z4 b3.Coils,.str b3.Jump],.var [.clos 166 [] [.hptr 0 0 0,.hptr 2 0 0,.hptr 4 0 0]]]:=by
 induction n with
 | zero=>intro n_0 m1 b3 r h; simp [Zr] at h
 | succ n Hslf_graph_gather_1_c138_166 =>
  intro n_0 m1 b3 r h
  refine ZA (T:=TT0) tt_ok Tryz.func166 (c:=_) (by unfold Tryz.f166; rfl) Tryz.ntmps166 (rs:=[]) (by rw [Tryz.results166]) (by unfold Tryz.f166; rfl) (by simp) (k:=5) rfl rfl ?_
  try simp only [Z3]
  have F:=True.intro
  dsimp only [Zr] at h
  refine Wp.seq ?_
  refine rs0 ?_
  iterate 3 refine vp ?_
  refine vn ?_
  refine sB h F (fun F h=>?_) fun F h=>?_
  refine cF ?_
  refine Wp.skip ?_
  refine sh ?_
  refine rs0 ?_
  iterate 3 refine vp ?_
  refine vn ?_
  refine rs0 ?_
  iterate 2 refine vp ?_
  obtain ⟨rR,hr14618,h⟩:=obind h
  refine vh [3] (Z9v hr14618) ?_
  iterate 2 refine vp ?_
  refine vn ?_
  refine Wp.block ?_
  refine lp [some 0,some 1,some 2,some 3,some 4] (fun x:(List (Str × Bool)) × Int=>{ ch:=[(3,.hptr 4 0 0),(14,aL cS rR),(15,.int .i64 (rR.length:Int)),(16,.int .i64 x.2)],hp:=[.var [.mp 1],.map (mAV AV.str cB x.1),.var [.clos 138 [] [.hptr 3 0 0]],.var [.str b3.Label,aL Z0 b3.Contacts,aL Z4 b3.Coils,.str b3.Jump],.var [.clos 166 [] [.hptr 0 0 0,.hptr 2 0 0,.hptr 4 0 0]]],base:=5,n:=24,cond:=True,gl:=G0 }) (fun m x=>ZF b3 rR (Zr n) m x.1 x.2 = some r) n ((mPut m1 n_0 true),0) h ?_
  rintro rv ⟨pT,pU⟩ h
  dsimp only [ZF] at h
  try dsimp only
  refine rs0 ?_
  refine vp ?_
  refine vn ?_
  refine Wp.seq ?_
  refine sD h F (fun F h=>?_) fun F h=>?_
  refine cF ?_
  refine Wp.exit ?_
  cases h
  exact n2r (enH [some 0,some 1,some 2,some 3,some 4])
  refine cT ?_
  refine Wp.skip ?_
  refine sh ?_
  refine Wp.seq ?_
  refine Wp.block ?_
  refine rs0 ?_
  refine eI h F fun xV F h=>?_
  iterate 3 refine vp ?_
  refine vn ?_
  refine rg0 ?_
  iterate 2 refine vp ?_
  obtain ⟨qW,hr14629,h⟩:=obind h
  refine vh [0,1,2,3,4] (Hslf_graph_gather_1_c138_166 hr14629) ?_
  refine vn ?_
  refine sh ?_
  refine rg0 ?_
  iterate 2 refine vp ?_
  refine vn ?_
  exact nx [some 0,some 1,some 2,some 3,some 4] (qW,(IntKind.i64.wrap (pU + 1))) h
  refine cT ?_
  cases h
  exact Wp.ret (enH [some 0,some 1,some 2,some 3,some 4])
end Go.Proofs.YtaebdeidbibfkaaGreatDoor
