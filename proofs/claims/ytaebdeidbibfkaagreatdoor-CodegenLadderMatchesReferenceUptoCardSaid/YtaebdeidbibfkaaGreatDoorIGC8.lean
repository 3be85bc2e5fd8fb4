/- Contracts: models of functions are right. No law is proved here. -/
import Derived.Test.YtaebdeidbibfkaaGreatDoorIGH
import Derived.Test.YtaebdeidbibfkaaGreatDoorIGC0
import Derived.Test.YtaebdeidbibfkaaGreatDoorIGC1
import Derived.Test.YtaebdeidbibfkaaGreatDoorIGC3
import Derived.Test.YtaebdeidbibfkaaGreatDoorIGC4
import Derived.Test.YtaebdeidbibfkaaGreatDoorIGC5
import Derived.Test.YtaebdeidbibfkaaGreatDoorIGC6
namespace Go.Proofs.YtaebdeidbibfkaaGreatDoor
open Go.Av Go.G
attribute [-simp] Int.natCast_tdiv_eq_ediv
attribute [local congr] Zx ZE Zy
variable [Drawn]
set_option maxHeartbeats 4000000
set_option linter.unusedSectionVars false
set_option maxRecDepth 20000
set_option linter.unusedSimpArgs false
set_option linter.unusedVariables false
theorem Z9g {n:Nat} {ab:Int} {a1:Ref14Tree} {a2:Ref14Tree} {r:Ref14Tree} (h:Z3n n ab a1 a2 = some r):Con Tryz.prog G0 60 [.int .i64 ab,.agg [.int .i64 a1.Kind,.int .i64 a1.N,aL Zc a1.Kids],.agg [.int .i64 a2.Kind,.int .i64 a2.N,aL Zc a2.Kids]] (.agg [.int .i64 r.Kind,.int .i64 r.N,aL Zc r.Kids]) []:=by
 refine Za (T:=TT0) tt_ok Tryz.func60 (c:=_) (by unfold Tryz.f60; rfl) Tryz.ntmps60 (rs:=[.cell 6 36]) (by rw [Tryz.results60]) (by unfold Tryz.f60; rfl) (by simp) ?_
 simp only [Z3]
 have F:=True.intro
 dsimp only [Z3n] at h
 refine rs0 ?_
 iterate 3 refine vp ?_
 refine vn ?_
 refine rs0 ?_
 refine vp ?_
 refine vn ?_
 refine rs0 ?_
 iterate 3 refine vp ?_
 refine nl Zc h F fun lc m F h=>?_
 try simp only [m]
 clear m
 refine vp ?_
 refine vn ?_
 refine jn (fun pd:List Ref14Tree=>{ ch:=[(0,.int .i64 ab),(6,.hptr 0 0 0),(7,.sl 1 0 pd.length)],hp:=[.var [.int .i64 0,.int .i64 0,.nilsl],.arr 3 pd.length (rw (pd.map Zc))],base:=0,n:=90,cond:=True,gl:=G0 }) (fun x=>Z4t n ab x = some r) ?_ ?_
 clear h
 rintro pd h
 dsimp only [Z4t] at h
 try dsimp only
 refine Wp.seq ?_
 refine rs0 ?_
 iterate 2 refine vp ?_
 refine vn ?_
 refine sB h F (fun F h=>?_) fun F h=>?_
 refine cF ?_
 refine Wp.skip ?_
 refine sh ?_
 refine rs0 ?_
 refine vp ?_
 refine vn ?_
 refine Wp.seq ?_
 refine rs0 ?_
 refine vp ?_
 refine vn ?_
 refine Wp.block ?_
 refine lp [some 0,some 1,none] (fun x:(List Ref14Tree) × Int=>{ ch:=[(6,.hptr 0 0 0),(7,.sl 1 0 pd.length),(10,.sl 2 0 x.1.length),(11,.int .i64 x.2)],hp:=[.var [.int .i64 0,.int .i64 0,.nilsl],.arr 3 pd.length (rw (pd.map Zc)),.arr 3 x.1.length (rw (x.1.map Zc))],base:=0,n:=90,cond:=True,gl:=G0 }) (fun m x=>Z31 n pd m x.1 x.2 = some r) n ([],0) h ?_
 rintro re ⟨pf,pg⟩ h
 dsimp only [Z31] at h
 try dsimp only
 refine Wp.seq ?_
 refine rs0 ?_
 iterate 4 refine vp ?_
 refine vn ?_
 refine sD h F (fun F h=>?_) fun F h=>?_
 refine cF ?_
 refine Wp.exit ?_
 refine sh ?_
 refine rs0 ?_
 iterate 3 refine vp ?_
 refine vn ?_
 cases h
 exact Wp.ret en0
 refine cT ?_
 refine Wp.skip ?_
 refine sh ?_
 refine Wp.seq ?_
 refine Wp.block ?_
 refine rs0 ?_
 refine vp ?_
 refine vn ?_
 refine jn (fun ph:Int=>{ ch:=[(6,.hptr 1 0 0),(7,.sl 2 0 pd.length),(10,.sl 0 0 pf.length),(11,.int .i64 pg),(12,.int .i64 ph)],hp:=[.arr 3 pf.length (rw (pf.map Zc)),.var [.int .i64 0,.int .i64 0,.nilsl],.arr 3 pd.length (rw (pd.map Zc))],base:=0,n:=90,cond:=True,gl:=G0 }) (fun x=>Z4p pd pf pg (Z31 n pd re) x = some r) ?_ ?_
 clear h
 rintro ph h
 dsimp only [Z4p] at h
 try dsimp only
 refine rs (fun d=>Nat.beq d 75) ?_
 iterate 3 refine vp ?_
 refine gd h F fun F h=>?_
 refine vp ?_
 refine gd h F fun F h=>?_
 refine vp ?_
 refine nm Zc h F fun lm F h=>?_
 refine vp ?_
 refine vn ?_
 refine rs0 ?_
 iterate 3 refine vp ?_
 refine eI h F fun xn F h=>?_
 iterate 3 refine vp ?_
 refine gd h F fun F h=>?_
 refine vp ?_
 refine nm Zc h F fun lq F h=>?_
 refine vp ?_
 refine vn ?_
 refine rg0 ?_
 iterate 3 refine vp ?_
 refine gd h F fun F h=>?_
 refine vp ?_
 refine gd h F fun F h=>?_
 refine vp ?_
 refine nm Zc h F fun lr F h=>?_
 refine vp ?_
 refine vn ?_
 refine sh ?_
 refine rg0 ?_
 iterate 3 refine vp ?_
 refine vn ?_
 exact nx [some 1,some 2,some 5] (lr,(IntKind.i64.wrap (pg + 1))) h
 refine Wp.block ?_
 refine lp [some 2,some 0,some 1] (fun pt:Int=>{ ch:=[(6,.hptr 1 0 0),(7,.sl 2 0 pd.length),(10,.sl 0 0 pf.length),(11,.int .i64 pg),(12,.int .i64 pt)],hp:=[.arr 3 pf.length (rw (pf.map Zc)),.var [.int .i64 0,.int .i64 0,.nilsl],.arr 3 pd.length (rw (pd.map Zc))],base:=0,n:=90,cond:=True,gl:=G0 }) (fun m x=>Z4r n pd pf pg (Z31 n pd re) m x = some r) n 0 h ?_
 rintro ru pt h
 dsimp only [Z4r] at h
 try dsimp only
 refine Wp.seq ?_
 refine dw (fun _=>false) [0,2] ?_
 refine du 5 ?_
 refine sD h F (fun F h=>?_) fun F h=>?_
 refine ds ?_
 refine ds ?_
 refine ds ?_
 refine ds ?_
 refine ds ?_
 refine ds ?_
 refine ds ?_
 refine ds ?_
 refine ds ?_
 refine ds ?_
 refine ds ?_
 refine du 1 ?_
 refine dn ?_
 refine cF ?_
 refine Wp.exit ?_
 exact nx [some 0,some 1,some 2] pt h
 refine du 1 ?_
 refine du 1 ?_
 refine eI h F fun xv F h=>?_
 refine du 1 ?_
 refine du 1 ?_
 obtain ⟨rz,hr40008,h⟩:=obind h
 refine dc (Z8T hr40008) ?_ (hg:=by (simp [F]; done))
 refine du 1 ?_
 refine du 1 ?_
 refine eI h F fun xA F h=>?_
 refine du 1 ?_
 refine du 1 ?_
 obtain ⟨rB,hr40011,h⟩:=obind h
 refine dc (Z8T hr40011) ?_ (hg:=by (simp [F]; done))
 refine du 1 ?_
 refine du 1 ?_
 refine dn ?_
 refine sD h F (fun F h=>?_) fun F h=>?_
 refine cF ?_
 refine Wp.exit ?_
 exact nx [some 0,some 1,some 2] pt h
 refine cT ?_
 refine Wp.skip ?_
 refine sh ?_
 refine Wp.block ?_
 refine rg0 ?_
 iterate 3 refine vp ?_
 refine vn ?_
 exact nx [some 0,some 1,some 2] (IntKind.i64.wrap (pt + 1)) h
 refine cT ?_
 refine rs0 ?_
 iterate 3 refine vp ?_
 refine vn ?_
 cases h
 exact Wp.ret en0
 refine rs0 ?_
 refine vp ?_
 refine vn ?_
 refine Wp.block ?_
 refine lp [some 2,none] (fun x:(List Ref14Tree) × Int=>{ ch:=[(0,.int .i64 ab),(6,.hptr 0 0 0),(7,.sl 1 0 x.1.length),(8,aL Zc lc),(9,.int .i64 x.2)],hp:=[.var [.int .i64 0,.int .i64 0,.nilsl],.arr 3 x.1.length (rw (x.1.map Zc))],base:=0,n:=90,cond:=True,gl:=G0 }) (fun m x=>Z3S n ab lc m x.1 x.2 = some r) n ([],0) h ?_
 rintro rC ⟨pD,pE⟩ h
 dsimp only [Z3S] at h
 try dsimp only
 refine Wp.seq ?_
 refine rs0 ?_
 iterate 2 refine vp ?_
 refine vn ?_
 refine sD h F (fun F h=>?_) fun F h=>?_
 refine cF ?_
 refine Wp.exit ?_
 exact nx [some 0,some 1] pD h
 refine cT ?_
 refine Wp.skip ?_
 refine sh ?_
 refine Wp.seq ?_
 refine Wp.block ?_
 refine rs0 ?_
 iterate 2 refine vp ?_
 refine eI h F fun xF F h=>?_
 iterate 5 refine vp ?_
 refine vn ?_
 refine sB h F (fun F h=>?_) fun F h=>?_
 refine cF ?_
 refine rg (fun d=>Nat.beq d 41) ?_
 iterate 6 refine vp ?_
 refine gd h F fun F h=>?_
 refine vp ?_
 refine nm Zc h F fun lG F h=>?_
 refine vp ?_
 refine vn ?_
 refine sh ?_
 refine rg0 ?_
 iterate 3 refine vp ?_
 refine vn ?_
 exact nx [some 0,some 2] (lG,(IntKind.i64.wrap (pE + 1))) h
 refine cT ?_
 refine rg (fun d=>Nat.beq d 34) ?_
 iterate 6 refine vp ?_
 refine gd h F fun F h=>?_
 refine vp ?_
 refine nm Zc h F fun lH F h=>?_
 refine vp ?_
 refine vn ?_
 refine sh ?_
 refine rg0 ?_
 iterate 3 refine vp ?_
 refine vn ?_
 exact nx [some 0,some 2] (lH,(IntKind.i64.wrap (pE + 1))) h
theorem Z3q {n:Nat} {l0:List Str} {m2:List (Str × Bool)} {r:(List Str)} (h:Zw n l0 m2 = some r):ConH Tryz.prog G0 106 [.sl 0 0 l0.length,.clos 167 [] [.hptr 1 0 0]] [.arr 1 l0.length (rw (l0.map cS)),.var [.mp 2],.map (mAV AV.str cB m2)] (.sl 0 0 r.length) [.arr 1 r.length (rw (r.map cS)),.var [.mp 2],.map (mAV AV.str cB m2)]:=by
 refine ZA (T:=TT0) tt_ok Tryz.func106 (c:=_) (by unfold Tryz.f106; rfl) Tryz.ntmps106 (rs:=[.tmp 4]) (by rw [Tryz.results106]) (by unfold Tryz.f106; rfl) (by simp) (k:=3) rfl rfl ?_
 try simp only [Z3]
 have F:=True.intro
 dsimp only [Zw] at h
 refine rs0 ?_
 refine vp ?_
 refine vn ?_
 refine rs0 ?_
 iterate 2 refine vp ?_
 obtain ⟨rI,hr14408,h⟩:=obind h
 refine vh [0,1,2] (Z62 hr14408) ?_
 refine vp ?_
 refine vn ?_
 refine Wp.seq ?_
 refine rs0 ?_
 iterate 2 refine vp ?_
 refine vn ?_
 refine sB h F (fun F h=>?_) fun F h=>?_
 refine cF ?_
 refine Wp.skip ?_
 refine sh ?_
 refine Wp.seq ?_
 refine rs0 ?_
 iterate 3 refine vp ?_
 refine vn ?_
 refine Wp.block ?_
 refine lp [some 0,some 1,some 2] (fun x:(List Str) × Int × Int=>{ ch:=[(0,.sl 0 0 x.1.length),(1,.clos 167 [] [.hptr 1 0 0]),(5,.int .i64 x.2.1),(6,.int .i64 x.2.2)],hp:=[.arr 1 x.1.length (rw (x.1.map cS)),.var [.mp 2],.map (mAV AV.str cB m2)],base:=3,n:=42,cond:=True,gl:=G0 }) (fun m x=>Ze n m2 m x.1 x.2.1 x.2.2 = some r) n (l0,rI,(IntKind.i64.wrap (rI + 1))) h ?_
 rintro rJ ⟨lK,rL,pM⟩ h
 dsimp only [Ze] at h
 try dsimp only
 refine Wp.seq ?_
 refine rs0 ?_
 iterate 4 refine vp ?_
 refine vn ?_
 refine sD h F (fun F h=>?_) fun F h=>?_
 refine cF ?_
 refine Wp.exit ?_
 refine sh ?_
 refine rs0 ?_
 iterate 2 refine vp ?_
 refine gd h F fun F h=>?_
 refine vp ?_
 refine gd h F fun F h=>?_
 refine vp ?_
 refine vn ?_
 refine rl [some 0,some 1,some 2] { ch:=[(0,.sl 0 0 lK.length),(1,.clos 167 [] [.hptr 1 0 0]),(5,.int .i64 rL),(6,.int .i64 pM),(16,.int .i64 pM),(17,.sl 0 0 lK.length),(18,.int .i64 (lK.length:Int)),(19,.bool (decide (pM < (lK.length:Int)))),(36,.sl 0 0 lK.length),(37,.int .i64 rL),(38,.sl 0 rL.toNat (lK.length - rL.toNat))],hp:=[.arr 1 (lK.take rL.toNat).length (rw ((lK.take rL.toNat).map cS)),.var [.mp 2],.map (mAV AV.str cB m2)],base:=3,n:=42,cond:=True,gl:=G0 } ?_
 refine rs0 ?_
 iterate 2 refine vp ?_
 refine gd h F fun F h=>?_
 iterate 2 refine vp ?_
 refine vn ?_
 cases h
 exact Wp.ret (enH [some 0,some 1,some 2])
 refine cT ?_
 refine Wp.skip ?_
 refine sh ?_
 refine Wp.seq ?_
 refine Wp.block ?_
 refine rs0 ?_
 iterate 2 refine vp ?_
 refine eI h F fun xN F h=>?_
 iterate 3 refine vp ?_
 refine vn ?_
 refine rs0 ?_
 iterate 2 refine vp ?_
 obtain ⟨rO,hr14424,h⟩:=obind h
 refine vh [1,2] (Z7X hr14424) ?_
 refine vp ?_
 refine vn ?_
 refine sB h F (fun F h=>?_) fun F h=>?_
 refine cF ?_
 refine Wp.skip ?_
 refine sh ?_
 refine rg0 ?_
 iterate 3 refine vp ?_
 refine vn ?_
 exact nx [some 0,some 1,some 2] (lK,rL,(IntKind.i64.wrap (pM + 1))) h
 refine cT ?_
 refine rs0 ?_
 iterate 3 refine vp ?_
 refine eI h F fun xP F h=>?_
 iterate 2 refine vp ?_
 refine nm cS h F fun lQ F h=>?_
 refine vn ?_
 refine rg0 ?_
 iterate 3 refine vp ?_
 refine vn ?_
 refine sh ?_
 refine rg0 ?_
 iterate 3 refine vp ?_
 refine vn ?_
 exact nx [some 0,some 1,some 2] (lQ,(IntKind.i64.wrap (rL + 1)),(IntKind.i64.wrap (pM + 1))) h
 refine cT ?_
 refine rs0 ?_
 iterate 2 refine vp ?_
 refine vn ?_
 cases h
 exact Wp.ret (enH [some 0,some 1,some 2])
theorem Z92 {n:Nat} {l0:List ReduceEdge} {r:Bool × (List ReduceEdge)} (h:Z3w n l0 = some r):ConH Tryz.prog G0 39 [.sl 0 0 l0.length] [.arr 5 l0.length (rw (l0.map Zv))] (.tup [.sl 0 0 r.2.length,.bool r.1]) [.arr 5 r.2.length (rw (r.2.map Zv))]:=by
 refine ZA (T:=TT0) tt_ok Tryz.func39 (c:=_) (by unfold Tryz.f39; rfl) Tryz.ntmps39 (rs:=[.tmp 2,.tmp 3]) (by rw [Tryz.results39]) (by unfold Tryz.f39; rfl) (by simp) (k:=1) rfl rfl ?_
 try simp only [Z3]
 have F:=True.intro
 dsimp only [Z3w] at h
 refine rs0 ?_
 iterate 2 refine vp ?_
 refine vn ?_
 refine Wp.seq ?_
 refine rs0 ?_
 iterate 3 refine vp ?_
 refine vn ?_
 refine Wp.block ?_
 refine lp [some 0] (fun pR:Int=>{ ch:=[(0,.sl 0 0 l0.length),(7,.sl 0 0 l0.length),(8,.int .i64 (l0.length:Int)),(9,.int .i64 pR)],hp:=[.arr 5 l0.length (rw (l0.map Zv))],base:=1,n:=49,cond:=True,gl:=G0 }) (fun m x=>Z1e n l0 m x = some r) n 0 h ?_
 rintro rJ pR h
 dsimp only [Z1e] at h
 try dsimp only
 refine rs0 ?_
 refine vp ?_
 refine vn ?_
 refine Wp.seq ?_
 refine sD h F (fun F h=>?_) fun F h=>?_
 refine cF ?_
 refine Wp.exit ?_
 refine sh ?_
 refine rs0 ?_
 iterate 3 refine vp ?_
 refine vn ?_
 cases h
 exact Wp.ret (enH [some 0])
 refine cT ?_
 refine Wp.skip ?_
 refine sh ?_
 refine Wp.seq ?_
 refine Wp.block ?_
 refine rs0 ?_
 refine vp ?_
 refine eI h F fun xS F h=>?_
 iterate 5 refine vp ?_
 refine vn ?_
 refine rs0 ?_
 iterate 3 refine vp ?_
 refine gd h F fun F h=>?_
 iterate 2 refine vp ?_
 obtain ⟨rT,hr14859,h⟩:=obind h
 refine vh [0,1] (Z5k hr14859) ?_
 refine vp ?_
 refine vn ?_
 refine rs0 ?_
 iterate 2 refine vp ?_
 refine vn ?_
 refine sD h F (fun F h=>?_) fun F h=>?_
 refine cF ?_
 refine Wp.skip ?_
 refine sh ?_
 refine rg0 ?_
 iterate 2 refine vp ?_
 refine vn ?_
 exact nx [some 0] (IntKind.i64.wrap (pR + 1)) h
 refine cT ?_
 refine dw (fun _=>false) [0,1] ?_
 refine du 9 ?_
 refine eI h F fun xU F h=>?_
 refine du 3 ?_
 obtain ⟨rV,hr14862,h⟩:=obind h
 refine dc (Z8L hr14862) ?_
 refine du 2 ?_
 refine db ?_
 refine nm Zv h F fun lW F h=>?_
 refine dn ?_
 refine rs0 ?_
 iterate 9 refine vp ?_
 obtain ⟨qX,hr14865,h⟩:=obind h
 refine vh [0] (Z4e hr14865) ?_
 iterate 2 refine vp ?_
 refine vn ?_
 cases h
 exact Wp.ret (enH [some 0])
theorem Z7e {n:Nat} {n_0:Str} {b0:List Str} {b1:List Str} {r:Bool} (h:Z15 n n_0 b0 b1 = some r):ConH Tryz.prog G0 107 [.str n_0,.hptr 0 0 0,.hptr 1 0 0] [.var [aL cS b0],.var [aL cS b1]] (.bool r) [.var [aL cS b0],.var [aL cS b1]]:=by
 refine ZA (T:=TT0) tt_ok Tryz.func107 (c:=_) (by unfold Tryz.f107; rfl) Tryz.ntmps107 (rs:=[.tmp 4]) (by rw [Tryz.results107]) (by unfold Tryz.f107; rfl) (by simp) (k:=2) rfl rfl ?_
 try simp only [Z3]
 have F:=True.intro
 dsimp only [Z15] at h
 refine rs0 ?_
 refine vp ?_
 refine vn ?_
 refine rs0 ?_
 iterate 2 refine vp ?_
 obtain ⟨rY,hr14686,h⟩:=obind h
 refine vc (Z2t hr14686) ?_
 refine vp ?_
 refine sB h F (fun F h=>?_) fun F h=>?_
 refine vs ?_
 refine vs ?_
 refine vs ?_
 iterate 2 refine vp ?_
 refine vn ?_
 cases h
 exact Wp.ret (enH [some 0,some 1])
 refine vg ?_
 refine vg ?_
 obtain ⟨rZ,hr14688,h⟩:=obind h
 refine vc (Z2t hr14688) ?_ (hg:=by (simp [F]; done))
 iterate 2 refine vp ?_
 refine vn ?_
 cases h
 exact Wp.ret (enH [some 0,some 1])
theorem Z5L {n:Nat} {s0:List ApiRung} {b0:ApiRung} {r:Bool} (h:Z1a n s0 b0 = some r):ConH Tryz.prog G0 121 [aL Z7 s0,.clos 153 [] [.hptr 0 0 0]] [.var [.str b0.Label,aL Z0 b0.Contacts,aL Z4 b0.Coils,.str b0.Jump]] (.bool r) [.var [.str b0.Label,aL Z0 b0.Contacts,aL Z4 b0.Coils,.str b0.Jump]]:=by
 refine ZA (T:=TT0) tt_ok Tryz.func121 (c:=_) (by unfold Tryz.f121; rfl) Tryz.ntmps121 (rs:=[.tmp 4]) (by rw [Tryz.results121]) (by unfold Tryz.f121; rfl) (by simp) (k:=1) rfl rfl ?_
 try simp only [Z3]
 have F:=True.intro
 dsimp only [Z1a] at h
 refine rs0 ?_
 refine vp ?_
 refine vn ?_
 refine rs0 ?_
 iterate 2 refine vp ?_
 obtain ⟨r10,hr10768,h⟩:=obind h
 refine vh [0] (Z6h hr10768) ?_
 iterate 2 refine vp ?_
 refine vn ?_
 cases h
 exact Wp.ret (enH [some 0])
theorem Z5r {n:Nat} {s0:List ApiContact} {r:Bool} (h:ZZ n s0 = some r):Con Tryz.prog G0 46 [aL Z0 s0,.clos 47 [] []] (.bool r) []:=by
 refine Za (T:=TT0) tt_ok Tryz.func46 (c:=_) (by unfold Tryz.f46; rfl) Tryz.ntmps46 (rs:=[.tmp 4]) (by rw [Tryz.results46]) (by unfold Tryz.f46; rfl) (by simp) ?_
 simp only [Z3]
 have F:=True.intro
 dsimp only [ZZ] at h
 refine rs0 ?_
 refine vp ?_
 refine vn ?_
 refine rs0 ?_
 iterate 2 refine vp ?_
 obtain ⟨r11,hr15358,h⟩:=obind h
 refine vc (Z5Q hr15358) ?_
 iterate 2 refine vp ?_
 refine vn ?_
 cases h
 exact Wp.ret en0
end Go.Proofs.YtaebdeidbibfkaaGreatDoor
