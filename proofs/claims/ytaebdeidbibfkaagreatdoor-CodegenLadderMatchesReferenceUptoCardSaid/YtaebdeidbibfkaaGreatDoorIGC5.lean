/- Contracts: models of functions are right. No law is proved here. -/
import Derived.Test.YtaebdeidbibfkaaGreatDoorIGH
import Derived.Test.YtaebdeidbibfkaaGreatDoorIGC0
import Derived.Test.YtaebdeidbibfkaaGreatDoorIGC1
import Derived.Test.YtaebdeidbibfkaaGreatDoorIGC2
import Derived.Test.YtaebdeidbibfkaaGreatDoorIGC3
namespace Go.Proofs.YtaebdeidbibfkaaGreatDoor
open Go.Av Go.G
attribute [-simp] Int.natCast_tdiv_eq_ediv
attribute [local congr] Zx ZE Zy
variable [Drawn]
set_option maxHeartbeats 4000000
set_option linter.unusedSectionVars false
set_option maxRecDepth 20000
set_option linter.unusedSimpArgs false
set_option linter.unusedVariables false
theorem Z9L {n:Nat} {l0:List ReduceEdge} {r:Bool × (List ReduceEdge)} (h:Z4n n l0 = some r):ConH Tryz.prog G0 40 [.sl 0 0 l0.length] [.arr 5 l0.length (rw (l0.map Zv))] (.tup [.sl 0 0 r.2.length,.bool r.1]) [.arr 5 r.2.length (rw (r.2.map Zv))]:=by
 refine ZA (T:=TT0) tt_ok Tryz.func40 (c:=_) (by unfold Tryz.f40; rfl) Tryz.ntmps40 (rs:=[.tmp 2,.tmp 3]) (by rw [Tryz.results40]) (by unfold Tryz.f40; rfl) (by simp) (k:=1) rfl rfl ?_
 try simp only [Z3]
 have F:=True.intro
 dsimp only [Z4n] at h
 refine rs0 ?_
 iterate 2 refine vp ?_
 refine vn ?_
 refine Wp.seq ?_
 refine rs0 ?_
 iterate 3 refine vp ?_
 refine vn ?_
 refine Wp.block ?_
 refine lp [some 0] (fun pd:Int=>{ ch:=[(0,.sl 0 0 l0.length),(11,.sl 0 0 l0.length),(12,.int .i64 (l0.length:Int)),(13,.int .i64 pd)],hp:=[.arr 5 l0.length (rw (l0.map Zv))],base:=1,n:=90,cond:=True,gl:=G0 }) (fun m x=>Zq n l0 m x = some r) n 0 h ?_
 rintro re pd h
 dsimp only [Zq] at h
 try dsimp only
 refine rs0 ?_
 refine vp ?_
 refine vn ?_
 refine Wp.seq ?_
 refine sD h F (fun F h=>?_) fun F h=>?_
 refine cF ?_
 refine Wp.exit ?_
 refine sh ?_
 refine rs0 ?_
 iterate 3 refine vp ?_
 refine vn ?_
 cases h
 exact Wp.ret (enH [some 0])
 refine cT ?_
 refine Wp.skip ?_
 refine sh ?_
 refine Wp.seq ?_
 refine Wp.block ?_
 refine rs0 ?_
 refine vp ?_
 refine eI h F fun xf F h=>?_
 iterate 5 refine vp ?_
 refine vn ?_
 refine Wp.seq ?_
 refine rs0 ?_
 iterate 5 refine vp ?_
 refine sE h F (fun _ F h=>?_) fun _ F h=>?_
 refine vg ?_
 refine vg ?_
 refine vg ?_
 refine vg ?_
 refine vp ?_
 refine vn ?_
 refine sE h F (fun _ F h=>?_) fun _ F h=>?_
 refine cF ?_
 refine Wp.skip ?_
 refine sh ?_
 refine rs0 ?_
 iterate 3 refine vp ?_
 refine vn ?_
 refine jn (fun x:Int × Int × Int=>{ ch:=[(0,.sl 0 0 l0.length),(4,.int .i64 pd),(5,.hptr 1 0 0),(6,.int .i64 x.2.2),(7,.int .i64 x.1),(8,.int .i64 x.2.1),(11,.sl 0 0 l0.length),(12,.int .i64 (l0.length:Int)),(13,.int .i64 pd),(23,.hptr 1 0 0),(24,.hptr 1 0 1),(25,.str xf.pair.to_),(26,.bool (decide (xf.pair.to_ = (⟨#[82]⟩:Str))))],hp:=[.arr 5 l0.length (rw (l0.map Zv)),.var [.str xf.pair.from_,.str xf.pair.to_,.int .i64 xf.t_.Kind,.int .i64 xf.t_.N,aL Z6 xf.t_.Kids]],base:=1,n:=90,cond:=True,gl:=G0 }) (fun x=>Z1W n l0 pd (Zq n l0 re) xf x.1 x.2.1 x.2.2 = some r) ?_ ?_
 clear h
 rintro ⟨pg,ph,pi⟩ h
 dsimp only [Z1W] at h
 try dsimp only
 refine rs0 ?_
 iterate 3 refine vp ?_
 refine sB h F (fun F h=>?_) fun F h=>?_
 refine vs ?_
 refine vs ?_
 refine vp ?_
 refine vn ?_
 refine cF ?_
 refine Wp.skip ?_
 refine sh ?_
 refine rg0 ?_
 iterate 2 refine vp ?_
 refine vn ?_
 exact nx [some 0] (IntKind.i64.wrap (pd + 1)) h
 refine vg ?_
 refine vg ?_
 refine vp ?_
 refine vn ?_
 refine sB h F (fun F h=>?_) fun F h=>?_
 refine cF ?_
 refine Wp.skip ?_
 refine sh ?_
 refine rg0 ?_
 iterate 2 refine vp ?_
 refine vn ?_
 exact nx [some 0] (IntKind.i64.wrap (pd + 1)) h
 refine cT ?_
 refine dw (fun _=>false) [0,1] ?_
 refine du 7 ?_
 refine eI h F fun xj F h=>?_
 refine du 8 ?_
 refine du 4 ?_
 obtain ⟨rm,hr15056,h⟩:=obind h
 refine dc (Z8L hr15056) ?_
 refine du 2 ?_
 refine db ?_
 refine nm Zv h F fun ln F h=>?_
 refine dn ?_
 refine rs0 ?_
 iterate 4 refine vp ?_
 obtain ⟨qo,hr15059,h⟩:=obind h
 refine vh [0] (Z4e hr15059) ?_
 iterate 2 refine vp ?_
 refine vn ?_
 cases h
 exact Wp.ret (enH [some 0])
 refine rs0 ?_
 iterate 3 refine vp ?_
 refine vn ?_
 refine Wp.block ?_
 refine lp [some 0,some 1] (fun x:Int × Int × Int × Int=>{ ch:=[(0,.sl 0 0 l0.length),(4,.int .i64 pd),(5,.hptr 1 0 0),(6,.int .i64 x.2.2.2),(7,.int .i64 x.2.1),(8,.int .i64 x.2.2.1),(11,.sl 0 0 l0.length),(12,.int .i64 (l0.length:Int)),(13,.int .i64 pd),(23,.hptr 1 0 0),(24,.hptr 1 0 1),(25,.str xf.pair.to_),(26,.bool (decide (xf.pair.to_ = (⟨#[82]⟩:Str)))),(28,.sl 0 0 l0.length),(29,.int .i64 (l0.length:Int)),(30,.int .i64 x.1)],hp:=[.arr 5 l0.length (rw (l0.map Zv)),.var [.str xf.pair.from_,.str xf.pair.to_,.int .i64 xf.t_.Kind,.int .i64 xf.t_.N,aL Z6 xf.t_.Kids]],base:=1,n:=90,cond:=True,gl:=G0 }) (fun m x=>Z1d n l0 pd (Zq n l0 re) xf m x.1 x.2.1 x.2.2.1 x.2.2.2 = some r) n (0,0,0,0) h ?_
 rintro rp ⟨pq,pt,pu,pw⟩ h
 dsimp only [Z1d] at h
 try dsimp only
 refine rs0 ?_
 refine vp ?_
 refine vn ?_
 refine Wp.seq ?_
 refine sD h F (fun F h=>?_) fun F h=>?_
 refine cF ?_
 refine Wp.exit ?_
 exact nx [some 0,some 1] (pt,pu,pw) h
 refine cT ?_
 refine Wp.skip ?_
 refine sh ?_
 refine Wp.seq ?_
 refine Wp.block ?_
 refine rs0 ?_
 refine vp ?_
 refine eI h F fun xx F h=>?_
 iterate 5 refine vp ?_
 refine vn ?_
 refine jn (fun py:Int=>{ ch:=[(0,.sl 0 0 l0.length),(4,.int .i64 pd),(5,.hptr 2 0 0),(6,.int .i64 pw),(7,.int .i64 py),(8,.int .i64 pu),(9,.int .i64 pq),(10,.hptr 1 0 0),(11,.sl 0 0 l0.length),(12,.int .i64 (l0.length:Int)),(13,.int .i64 pd),(23,.hptr 2 0 0),(24,.hptr 2 0 1),(25,.str xf.pair.to_),(26,.bool (decide (xf.pair.to_ = (⟨#[82]⟩:Str)))),(28,.sl 0 0 l0.length),(29,.int .i64 (l0.length:Int)),(30,.int .i64 pq)],hp:=[.arr 5 l0.length (rw (l0.map Zv)),.var [.str xx.pair.from_,.str xx.pair.to_,.int .i64 xx.t_.Kind,.int .i64 xx.t_.N,aL Z6 xx.t_.Kids],.var [.str xf.pair.from_,.str xf.pair.to_,.int .i64 xf.t_.Kind,.int .i64 xf.t_.N,aL Z6 xf.t_.Kids]],base:=1,n:=90,cond:=True,gl:=G0 }) (fun x=>Z2l xf pq pu pw (Z1d n l0 pd (Zq n l0 re) xf rp) xx x = some r) ?_ ?_
 clear h
 rintro py h
 dsimp only [Z2l] at h
 try dsimp only
 refine rs0 ?_
 iterate 7 refine vp ?_
 refine vn ?_
 refine sE h F (fun _ F h=>?_) fun _ F h=>?_
 refine cF ?_
 refine Wp.skip ?_
 refine sh ?_
 refine rg0 ?_
 iterate 2 refine vp ?_
 refine vn ?_
 exact nx [some 0,some 2] ((IntKind.i64.wrap (pq + 1)),py,pu,pw) h
 refine cT ?_
 refine rs0 ?_
 iterate 3 refine vp ?_
 refine vn ?_
 refine rg0 ?_
 iterate 2 refine vp ?_
 refine vn ?_
 refine sh ?_
 refine rg0 ?_
 iterate 2 refine vp ?_
 refine vn ?_
 exact nx [some 0,some 2] ((IntKind.i64.wrap (pq + 1)),py,(IntKind.i64.wrap (pu + 1)),pq) h
 refine rs0 ?_
 iterate 7 refine vp ?_
 refine vn ?_
 refine sE h F (fun _ F h=>?_) fun _ F h=>?_
 refine cF ?_
 refine Wp.skip ?_
 exact nx [some 0,some 2,some 1] pt h
 refine cT ?_
 refine rg0 ?_
 iterate 3 refine vp ?_
 refine vn ?_
 exact nx [some 0,some 2,some 1] (IntKind.i64.wrap (pt + 1)) h
 refine cT ?_
 refine Wp.exit ?_
 refine sh ?_
 refine rg0 ?_
 iterate 2 refine vp ?_
 refine vn ?_
 exact nx [some 0] (IntKind.i64.wrap (pd + 1)) h
 refine vs ?_
 refine vs ?_
 refine vs ?_
 refine vs ?_
 refine vp ?_
 refine vn ?_
 refine cT ?_
 refine Wp.exit ?_
 refine sh ?_
 refine rg0 ?_
 iterate 2 refine vp ?_
 refine vn ?_
 exact nx [some 0] (IntKind.i64.wrap (pd + 1)) h
theorem ZbD {n:Nat} {l0:ApiLadder} {r:Int} (h:Z6e n l0 = some r):Con Tryz.prog G0 22 [.agg (Z1r l0)] (.int .i64 r) []:=by
 refine Za (T:=TT0) tt_ok Tryz.func22 (c:=_) (by unfold Tryz.f22; rfl) Tryz.ntmps22 (rs:=[.tmp 2]) (by rw [Tryz.results22]) (by unfold Tryz.f22; rfl) (by simp) ?_
 simp only [Z3]
 have F:=True.intro
 dsimp only [Z6e] at h
 refine rs0 ?_
 iterate 2 refine vp ?_
 refine vn ?_
 refine rs0 ?_
 refine vp ?_
 refine vn ?_
 refine jn (fun p6:Int=>{ ch:=[(1,.hptr 0 0 0),(3,.int .i64 p6)],hp:=[.var [.int .i64 l0.I,.int .i64 l0.Q,.int .i64 l0.M,aL Z7 l0.Rungs]],base:=0,n:=27,cond:=True,gl:=G0 }) (fun x=>Z4O n l0 x = some r) ?_ ?_
 clear h
 rintro p6 h
 dsimp only [Z4O] at h
 try dsimp only
 refine Wp.seq ?_
 refine rs0 ?_
 iterate 2 refine vp ?_
 refine vn ?_
 refine sD h F (fun F h=>?_) fun F h=>?_
 refine cF ?_
 refine Wp.skip ?_
 refine sh ?_
 refine rs0 ?_
 refine vp ?_
 obtain ⟨r49,hr48,h⟩:=obind h
 refine vc (Zb3 hr48) ?_
 refine vp ?_
 refine vn ?_
 cases h
 exact Wp.ret en0
 refine cT ?_
 refine rs0 ?_
 refine vp ?_
 refine vn ?_
 cases h
 exact Wp.ret en0
 refine rs0 ?_
 iterate 4 refine vp ?_
 refine vn ?_
 refine Wp.block ?_
 refine lp [some 0] (fun x:Int × Int=>{ ch:=[(1,.hptr 0 0 0),(3,.int .i64 x.1),(7,aL Z7 l0.Rungs),(8,.int .i64 (l0.Rungs.length:Int)),(9,.int .i64 x.2)],hp:=[.var [.int .i64 l0.I,.int .i64 l0.Q,.int .i64 l0.M,aL Z7 l0.Rungs]],base:=0,n:=27,cond:=True,gl:=G0 }) (fun m x=>Z2V n l0 m x.1 x.2 = some r) n (0,0) h ?_
 rintro rz ⟨p51,p52⟩ h
 dsimp only [Z2V] at h
 try dsimp only
 refine rs0 ?_
 refine vp ?_
 refine vn ?_
 refine Wp.seq ?_
 refine sD h F (fun F h=>?_) fun F h=>?_
 refine cF ?_
 refine Wp.exit ?_
 exact nx [some 0] p51 h
 refine cT ?_
 refine Wp.skip ?_
 refine sh ?_
 refine Wp.seq ?_
 refine Wp.block ?_
 refine rs0 ?_
 refine eI h F fun x54 F h=>?_
 iterate 4 refine vp ?_
 refine vn ?_
 refine rs0 ?_
 iterate 6 refine vp ?_
 refine vn ?_
 refine rs0 ?_
 iterate 4 refine vp ?_
 refine vn ?_
 refine sD h F (fun F h=>?_) fun F h=>?_
 refine cF ?_
 refine Wp.skip ?_
 refine sh ?_
 refine rg0 ?_
 iterate 2 refine vp ?_
 refine vn ?_
 exact nx [some 0] ((IntKind.i64.wrap (p51 + (x54.Contacts.length:Int))),(IntKind.i64.wrap (p52 + 1))) h
 refine cT ?_
 refine rs0 ?_
 refine vp ?_
 refine vn ?_
 cases h
 exact Wp.ret en0
theorem Z5k {n:Nat} {s0:Nat} {l0:List ReduceEdge} {b1:ReduceEdge} {r:Int} (h:Z12 n s0 l0 b1 = some r):ConH Tryz.prog G0 65 [.sl 0 s0 (l0.length - s0),.clos 66 [] [.hptr 1 0 0]] [.arr 5 l0.length (rw (l0.map Zv)),.var [.str b1.pair.from_,.str b1.pair.to_,.int .i64 b1.t_.Kind,.int .i64 b1.t_.N,aL Z6 b1.t_.Kids]] (.int .i64 r) [.arr 5 l0.length (rw (l0.map Zv)),.var [.str b1.pair.from_,.str b1.pair.to_,.int .i64 b1.t_.Kind,.int .i64 b1.t_.N,aL Z6 b1.t_.Kids]]:=by
 refine ZA (T:=TT0) tt_ok Tryz.func65 (c:=_) (by unfold Tryz.f65; rfl) Tryz.ntmps65 (rs:=[.tmp 4]) (by rw [Tryz.results65]) (by unfold Tryz.f65; rfl) (by simp) (k:=2) rfl rfl ?_
 try simp only [Z3]
 have F:=True.intro
 dsimp only [Z12] at h
 refine rs0 ?_
 refine vp ?_
 refine vn ?_
 refine Wp.seq ?_
 refine rs0 ?_
 iterate 3 refine vp ?_
 refine vn ?_
 refine Wp.block ?_
 refine lp [some 0,some 1] (fun pA:Int=>{ ch:=[(0,.sl 0 s0 (l0.length - s0)),(1,.clos 66 [] [.hptr 1 0 0]),(7,.int .i64 (((l0.length - s0):Nat):Int)),(8,.int .i64 pA)],hp:=[.arr 5 l0.length (rw (l0.map Zv)),.var [.str b1.pair.from_,.str b1.pair.to_,.int .i64 b1.t_.Kind,.int .i64 b1.t_.N,aL Z6 b1.t_.Kids]],base:=2,n:=19,cond:=True,gl:=G0 }) (fun m x=>Zl n s0 l0 b1 m x = some r) n 0 h ?_
 rintro re pA h
 dsimp only [Zl] at h
 try dsimp only
 refine rs0 ?_
 refine vp ?_
 refine vn ?_
 refine Wp.seq ?_
 refine sD h F (fun F h=>?_) fun F h=>?_
 refine cF ?_
 refine Wp.exit ?_
 refine sh ?_
 refine rs0 ?_
 refine vp ?_
 refine vn ?_
 cases h
 exact Wp.ret (enH [some 0,some 1])
 refine cT ?_
 refine Wp.skip ?_
 refine sh ?_
 refine Wp.seq ?_
 refine Wp.block ?_
 refine rs0 ?_
 iterate 2 refine vp ?_
 refine vn ?_
 refine rs0 ?_
 iterate 3 refine vp ?_
 refine eI h F fun xB F h=>?_
 simp only [List.getElem?_drop,Nat.add_zero] at F
 iterate 2 refine vp ?_
 obtain ⟨rC,hr14786,h⟩:=obind h
 refine vh [1] (Z9E hr14786) ?_
 refine vn ?_
 refine sB h F (fun F h=>?_) fun F h=>?_
 refine cF ?_
 refine Wp.skip ?_
 refine sh ?_
 refine rg0 ?_
 iterate 2 refine vp ?_
 refine vn ?_
 exact nx [some 0,some 1] (IntKind.i64.wrap (pA + 1)) h
 refine cT ?_
 refine rs0 ?_
 iterate 2 refine vp ?_
 refine vn ?_
 cases h
 exact Wp.ret (enH [some 0,some 1])
theorem ZaX {n:Nat} {s0:ApiSize} {r:Int} (h:Z4Y n s0 = some r):Con Tryz.prog G0 119 [.agg (Z4l s0)] (.int .i64 r) []:=by
 refine Za (T:=TT0) tt_ok Tryz.func119 (c:=_) (by unfold Tryz.f119; rfl) Tryz.ntmps119 (rs:=[.tmp 2]) (by rw [Tryz.results119]) (by unfold Tryz.f119; rfl) (by simp) ?_
 simp only [Z3]
 have F:=True.intro
 dsimp only [Z4Y] at h
 refine rs0 ?_
 iterate 2 refine vp ?_
 refine vn ?_
 refine Wp.seq ?_
 refine rs0 ?_
 iterate 2 refine vp ?_
 obtain ⟨rD,hr10723,h⟩:=obind h
 refine vc (Z3M hr10723) ?_
 iterate 2 refine vp ?_
 refine sB h F (fun F h=>?_) fun F h=>?_
 refine vg ?_
 refine vg ?_
 obtain ⟨rE,hr10725,h⟩:=obind h
 refine vc (Z3M hr10725) ?_ (hg:=by (simp [F]; done))
 refine vg ?_
 iterate 2 refine vp ?_
 refine sB h F (fun F h=>?_) fun F h=>?_
 refine vg ?_
 refine vg ?_
 obtain ⟨rF,hr10727,h⟩:=obind h
 refine vc (Z3M hr10727) ?_ (hg:=by (simp [F]; done))
 refine vg ?_
 iterate 2 refine vp ?_
 refine sB h F (fun F h=>?_) fun F h=>?_
 refine vg ?_
 refine vg ?_
 obtain ⟨rG,hr10729,h⟩:=obind h
 refine vc (Z3M hr10729) ?_ (hg:=by (simp [F]; done))
 refine vg ?_
 refine vp ?_
 refine vn ?_
 refine sB h F (fun F h=>?_) fun F h=>?_
 refine cF ?_
 refine Wp.skip ?_
 refine sh ?_
 refine rs0 ?_
 refine vp ?_
 refine vn ?_
 cases h
 exact Wp.ret en0
 refine cT ?_
 refine rs0 ?_
 refine vp ?_
 refine vn ?_
 cases h
 exact Wp.ret en0
 refine vs ?_
 refine vs ?_
 refine vs ?_
 refine vs ?_
 refine vp ?_
 refine vn ?_
 refine cT ?_
 refine rs0 ?_
 refine vp ?_
 refine vn ?_
 cases h
 exact Wp.ret en0
 refine vs ?_
 refine vs ?_
 refine vs ?_
 refine vs ?_
 iterate 2 refine vp ?_
 refine vs ?_
 refine vs ?_
 refine vs ?_
 refine vs ?_
 refine vp ?_
 refine vn ?_
 refine cT ?_
 refine rs0 ?_
 refine vp ?_
 refine vn ?_
 cases h
 exact Wp.ret en0
 refine vs ?_
 refine vs ?_
 refine vs ?_
 refine vs ?_
 iterate 2 refine vp ?_
 refine vs ?_
 refine vs ?_
 refine vs ?_
 refine vs ?_
 iterate 2 refine vp ?_
 refine vs ?_
 refine vs ?_
 refine vs ?_
 refine vs ?_
 refine vp ?_
 refine vn ?_
 refine cT ?_
 refine rs0 ?_
 refine vp ?_
 refine vn ?_
 cases h
 exact Wp.ret en0
theorem Z6h {n:Nat} {s0:List ApiRung} {b0:ApiRung} {r:Int} (h:Z23 n s0 b0 = some r):ConH Tryz.prog G0 155 [aL Z7 s0,.clos 153 [] [.hptr 0 0 0]] [.var [.str b0.Label,aL Z0 b0.Contacts,aL Z4 b0.Coils,.str b0.Jump]] (.int .i64 r) [.var [.str b0.Label,aL Z0 b0.Contacts,aL Z4 b0.Coils,.str b0.Jump]]:=by
 refine ZA (T:=TT0) tt_ok Tryz.func155 (c:=_) (by unfold Tryz.f155; rfl) Tryz.ntmps155 (rs:=[.tmp 4]) (by rw [Tryz.results155]) (by unfold Tryz.f155; rfl) (by simp) (k:=1) rfl rfl ?_
 try simp only [Z3]
 have F:=True.intro
 dsimp only [Z23] at h
 refine rs0 ?_
 refine vp ?_
 refine vn ?_
 refine Wp.seq ?_
 refine rs0 ?_
 iterate 3 refine vp ?_
 refine vn ?_
 refine Wp.block ?_
 refine lp [some 0] (fun pH:Int=>{ ch:=[(0,aL Z7 s0),(1,.clos 153 [] [.hptr 0 0 0]),(7,.int .i64 (s0.length:Int)),(8,.int .i64 pH)],hp:=[.var [.str b0.Label,aL Z0 b0.Contacts,aL Z4 b0.Coils,.str b0.Jump]],base:=1,n:=19,cond:=True,gl:=G0 }) (fun m x=>ZO n s0 b0 m x = some r) n 0 h ?_
 rintro re pH h
 dsimp only [ZO] at h
 try dsimp only
 refine rs0 ?_
 refine vp ?_
 refine vn ?_
 refine Wp.seq ?_
 refine sD h F (fun F h=>?_) fun F h=>?_
 refine cF ?_
 refine Wp.exit ?_
 refine sh ?_
 refine rs0 ?_
 refine vp ?_
 refine vn ?_
 cases h
 exact Wp.ret (enH [some 0])
 refine cT ?_
 refine Wp.skip ?_
 refine sh ?_
 refine Wp.seq ?_
 refine Wp.block ?_
 refine rs0 ?_
 iterate 2 refine vp ?_
 refine vn ?_
 refine rs0 ?_
 iterate 3 refine vp ?_
 refine eI h F fun xI F h=>?_
 iterate 2 refine vp ?_
 obtain ⟨rJ,hr10764,h⟩:=obind h
 refine vh [0] (ZaK hr10764) ?_
 refine vn ?_
 refine sB h F (fun F h=>?_) fun F h=>?_
 refine cF ?_
 refine Wp.skip ?_
 refine sh ?_
 refine rg0 ?_
 iterate 2 refine vp ?_
 refine vn ?_
 exact nx [some 0] (IntKind.i64.wrap (pH + 1)) h
 refine cT ?_
 refine rs0 ?_
 iterate 2 refine vp ?_
 refine vn ?_
 cases h
 exact Wp.ret (enH [some 0])
theorem Z8T {n:Nat} {t0:Ref14Tree} {r:Int} (h:Z5y n t0 = some r):Con Tryz.prog G0 93 [.agg [.int .i64 t0.Kind,.int .i64 t0.N,aL Zc t0.Kids]] (.int .i64 r) []:=by
 refine Za (T:=TT0) tt_ok Tryz.func93 (c:=_) (by unfold Tryz.f93; rfl) Tryz.ntmps93 (rs:=[.tmp 2]) (by rw [Tryz.results93]) (by unfold Tryz.f93; rfl) (by simp) ?_
 simp only [Z3]
 have F:=True.intro
 dsimp only [Z5y] at h
 refine rs0 ?_
 iterate 2 refine vp ?_
 refine vn ?_
 refine rs0 ?_
 refine vp ?_
 obtain ⟨rK,hr39902,h⟩:=obind h
 refine vc (ZcU _ hr39902) ?_
 refine vp ?_
 refine vn ?_
 refine rs0 ?_
 refine vp ?_
 refine eN (m:=0) h F fun xL F h=>?_
 iterate 3 refine vp ?_
 refine vn ?_
 refine Wp.seq ?_
 refine rs0 ?_
 refine vp ?_
 refine vn ?_
 refine Wp.block ?_
 refine lp [] (fun x:Int × Int=>{ ch:=[(3,aL (cI .i64) rK),(4,.int .i64 x.2),(5,.int .i64 x.1)],hp:=[],base:=0,n:=28,cond:=True,gl:=G0 }) (fun m x=>Z3b rK m x.1 x.2 = some r) n (0,xL) h ?_
 rintro re ⟨pM,xN⟩ h
 dsimp only [Z3b] at h
 try dsimp only
 refine Wp.seq ?_
 refine rs0 ?_
 iterate 4 refine vp ?_
 refine vn ?_
 refine sD h F (fun F h=>?_) fun F h=>?_
 refine cF ?_
 refine Wp.exit ?_
 refine sh ?_
 refine rs0 ?_
 iterate 2 refine vp ?_
 refine vn ?_
 cases h
 exact Wp.ret en0
 refine cT ?_
 refine Wp.skip ?_
 refine sh ?_
 refine Wp.seq ?_
 refine Wp.block ?_
 refine rs0 ?_
 iterate 2 refine vp ?_
 refine eI h F fun xO F h=>?_
 iterate 4 refine vp ?_
 refine vn ?_
 refine sD h F (fun F h=>?_) fun F h=>?_
 refine cF ?_
 refine Wp.skip ?_
 refine sh ?_
 refine rg0 ?_
 iterate 3 refine vp ?_
 refine vn ?_
 exact nx [] ((IntKind.i64.wrap (pM + 1)),xN) h
 refine cT ?_
 refine rg0 ?_
 iterate 5 refine vp ?_
 refine vn ?_
 refine sh ?_
 refine rg0 ?_
 iterate 3 refine vp ?_
 refine vn ?_
 exact nx [] ((IntKind.i64.wrap (pM + 1)),xO) h
theorem Z7o {n:Nat} {s0:ApiSize} {a1:ApiAddr} {r:Int} (h:Z3I n s0 a1 = some r):Con Tryz.prog G0 177 [.agg (Z4l s0),.agg (Z8p a1)] (.int .i64 r) []:=by
 refine Za (T:=TT0) tt_ok Tryz.func177 (c:=_) (by unfold Tryz.f177; rfl) Tryz.ntmps177 (rs:=[.tmp 4]) (by rw [Tryz.results177]) (by unfold Tryz.f177; rfl) (by simp) ?_
 simp only [Z3]
 have F:=True.intro
 dsimp only [Z3I] at h
 refine rs0 ?_
 iterate 3 refine vp ?_
 refine vn ?_
 refine Wp.seq ?_
 refine rs0 ?_
 iterate 4 refine vp ?_
 refine sD h F (fun F h=>?_) fun F h=>?_
 refine vg ?_
 refine vg ?_
 refine vg ?_
 refine vp ?_
 refine vn ?_
 refine sD h F (fun F h=>?_) fun F h=>?_
 refine cF ?_
 refine Wp.skip ?_
 refine sh ?_
 refine Wp.seq ?_
 refine dw (fun _=>false) [0,1] ?_
 refine du 4 ?_
 refine sD h F (fun F h=>?_) fun F h=>?_
 refine du 1 ?_
 refine du 1 ?_
 refine du 1 ?_
 refine du 1 ?_
 refine du 1 ?_
 obtain ⟨rP,hr34902,h⟩:=obind h
 refine dc (Zdz hr34902) ?_ (hg:=by (simp [F]; done))
 refine du 1 ?_
 refine du 1 ?_
 refine dn ?_
 refine sD h F (fun F h=>?_) fun F h=>?_
 refine cF ?_
 refine Wp.skip ?_
 refine sh ?_
 refine rs0 ?_
 refine vp ?_
 refine vn ?_
 cases h
 exact Wp.ret en0
 refine cT ?_
 refine rs0 ?_
 refine vp ?_
 refine vn ?_
 cases h
 exact Wp.ret en0
 refine ds ?_
 refine ds ?_
 refine ds ?_
 refine ds ?_
 refine ds ?_
 refine ds ?_
 refine ds ?_
 refine du 1 ?_
 refine dn ?_
 refine cT ?_
 refine rs0 ?_
 refine vp ?_
 refine vn ?_
 cases h
 exact Wp.ret en0
 refine cT ?_
 refine rs0 ?_
 refine vp ?_
 refine vn ?_
 cases h
 exact Wp.ret en0
 refine vs ?_
 refine vs ?_
 refine vs ?_
 refine vp ?_
 refine vn ?_
 refine cT ?_
 refine rs0 ?_
 refine vp ?_
 refine vn ?_
 cases h
 exact Wp.ret en0
theorem Z2t {n:Nat} {s0:List Str} {v1:Str} {r:Bool} (h:Z16 n s0 v1 = some r):Con Tryz.prog G0 108 [aL cS s0,.str v1] (.bool r) []:=by
 refine Za (T:=TT0) tt_ok Tryz.func108 (c:=_) (by unfold Tryz.f108; rfl) Tryz.ntmps108 (rs:=[.tmp 4]) (by rw [Tryz.results108]) (by unfold Tryz.f108; rfl) (by simp) ?_
 simp only [Z3]
 have F:=True.intro
 dsimp only [Z16] at h
 refine rs0 ?_
 refine vp ?_
 refine vn ?_
 refine rs0 ?_
 iterate 2 refine vp ?_
 obtain ⟨rQ,hr14195,h⟩:=obind h
 refine vc (Z8F hr14195) ?_
 iterate 2 refine vp ?_
 refine vn ?_
 cases h
 exact Wp.ret en0
end Go.Proofs.YtaebdeidbibfkaaGreatDoor
