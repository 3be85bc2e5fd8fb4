/- Contracts: models of functions are right. No law is proved here. -/
import Derived.Test.YtaebdeidbibfkaaGreatDoorIGH
import Derived.Test.YtaebdeidbibfkaaGreatDoorIGC5
import Derived.Test.YtaebdeidbibfkaaGreatDoorIGC8
import Derived.Test.YtaebdeidbibfkaaGreatDoorIGC13
import Derived.Test.YtaebdeidbibfkaaGreatDoorIGC18
namespace Go.Proofs.YtaebdeidbibfkaaGreatDoor
open Go.Av Go.G
attribute [-simp] Int.natCast_tdiv_eq_ediv
attribute [local congr] Zx ZE Zy
variable [Drawn]
set_option maxHeartbeats 4000000
set_option linter.unusedSectionVars false
set_option maxRecDepth 20000
set_option linter.unusedSimpArgs false
set_option linter.unusedVariables false
theorem Zcb {n:Nat} {ab:ApiRung} {r:TreeTree × Int} (h:Z14 n ab = some r):Con Tryz.prog G0 10 [.agg (Z7 ab)] (.tup [.agg [.int .i64 r.1.Kind,.int .i64 r.1.N,aL Z6 r.1.Kids],.int .i64 r.2]) []:=by
 refine Za (T:=TT0) tt_ok Tryz.func10 (c:=_) (by unfold Tryz.f10; rfl) Tryz.ntmps10 (rs:=[.cell 2 30,.tmp 3]) (by rw [Tryz.results10]) (by unfold Tryz.f10; rfl) (by simp) ?_
 simp only [Z3]
 have F:=True.intro
 dsimp only [Z14] at h
 refine rs0 ?_
 iterate 3 refine vp ?_
 refine vn ?_
 refine Wp.seq ?_
 refine rs0 ?_
 refine vp ?_
 obtain ⟨rc,hr14756,h⟩:=obind h
 refine vc (ZeI hr14756) ?_
 refine vp ?_
 refine vn ?_
 refine rs0 ?_
 iterate 2 refine vp ?_
 refine vn ?_
 refine sB h F (fun F h=>?_) fun F h=>?_
 refine cF ?_
 refine Wp.skip ?_
 refine sh ?_
 refine rs0 ?_
 refine vp ?_
 refine vn ?_
 refine jn (fun pd:List ReduceEdge=>{ ch:=[(2,.hptr 0 0 0),(5,.sl 1 0 pd.length)],hp:=[.var [.int .i64 0,.int .i64 0,.nilsl],.arr 5 pd.length (rw (pd.map Zv))],base:=0,n:=69,cond:=True,gl:=G0 }) (fun x=>Z3a n x = some r) ?_ ?_
 clear h
 rintro pd h
 dsimp only [Z3a] at h
 try dsimp only
 refine jn (fun pe:List ReduceEdge=>{ ch:=[(2,.hptr 0 0 0),(5,.sl 1 0 pe.length)],hp:=[.var [.int .i64 0,.int .i64 0,.nilsl],.arr 5 pe.length (rw (pe.map Zv))],base:=0,n:=69,cond:=True,gl:=G0 }) (fun x=>Z2y n x = some r) ?_ ?_
 clear h
 rintro pe h
 dsimp only [Z2y] at h
 try dsimp only
 refine Wp.seq ?_
 refine rs0 ?_
 iterate 4 refine vp ?_
 refine sB h F (fun F h=>?_) fun F h=>?_
 refine vg ?_
 refine eN (m:=0) h F fun xf F h=>?_
 refine vg ?_
 refine vg ?_
 refine vg ?_
 refine vg ?_
 refine vg ?_
 refine vp ?_
 refine vn ?_
 refine sB h F (fun F h=>?_) fun F h=>?_
 refine cF ?_
 refine Wp.skip ?_
 refine sh ?_
 refine rs0 ?_
 iterate 4 refine vp ?_
 obtain ⟨rh,hr15176,h⟩:=obind h
 refine vc (Zc6 _ hr15176) ?_
 iterate 2 refine vp ?_
 refine vn ?_
 cases h
 exact Wp.ret en0
 refine cT ?_
 refine rs0 ?_
 iterate 3 refine vp ?_
 refine vn ?_
 cases h
 exact Wp.ret en0
 refine vs ?_
 refine vs ?_
 refine vs ?_
 refine vs ?_
 refine vs ?_
 refine vs ?_
 refine vp ?_
 refine vn ?_
 refine cT ?_
 refine rs0 ?_
 iterate 3 refine vp ?_
 refine vn ?_
 cases h
 exact Wp.ret en0
 refine rs0 ?_
 refine vp ?_
 refine vn ?_
 refine Wp.block ?_
 refine lp [some 0,some 1] (fun x:(List ReduceEdge) × Bool=>{ ch:=[(2,.hptr 0 0 0),(5,.sl 1 0 x.1.length),(8,.bool x.2)],hp:=[.var [.int .i64 0,.int .i64 0,.nilsl],.arr 5 x.1.length (rw (x.1.map Zv))],base:=0,n:=69,cond:=True,gl:=G0 }) (fun m x=>Z1c n m x.1 x.2 = some r) n (pd,true) h ?_
 rintro ri ⟨pj,true15185⟩ h
 dsimp only [Z1c] at h
 try dsimp only
 refine Wp.seq ?_
 refine rs0 ?_
 refine vp ?_
 refine vn ?_
 refine sB h F (fun F h=>?_) fun F h=>?_
 refine cF ?_
 refine Wp.exit ?_
 exact nx [some 0,some 1] pj h
 refine cT ?_
 refine Wp.skip ?_
 refine sh ?_
 refine Wp.block ?_
 refine rs0 ?_
 iterate 2 refine vp ?_
 refine vn ?_
 refine rs0 ?_
 refine vp ?_
 obtain ⟨⟨rm,qn⟩,hr15192,h⟩:=obind h
 dsimp only at h
 refine vh [1] (Z92 hr15192) ?_
 iterate 5 refine vp ?_
 refine vn ?_
 refine rs0 ?_
 refine vp ?_
 obtain ⟨⟨rp,qq⟩,hr15195,h⟩:=obind h
 dsimp only at h
 refine vh [1] (Z9L hr15195) ?_
 iterate 5 refine vp ?_
 refine vn ?_
 refine rg0 ?_
 iterate 2 refine vp ?_
 refine sB h F (fun F h=>?_) fun F h=>?_
 refine vg ?_
 iterate 2 refine vp ?_
 refine vn ?_
 exact nx [some 0,some 1] (qq,rp) h
 refine vs ?_
 iterate 2 refine vp ?_
 refine vn ?_
 exact nx [some 0,some 1] (qq,true) h
 refine rs0 ?_
 iterate 4 refine vp ?_
 refine vn ?_
 refine Wp.block ?_
 refine lp [some 1,none] (fun x:Int × (List ReduceEdge)=>{ ch:=[(2,.hptr 0 0 0),(5,.sl 1 0 x.2.length),(18,aL Z0 ab.Contacts),(19,.int .i64 (ab.Contacts.length:Int)),(20,.int .i64 x.1)],hp:=[.var [.int .i64 0,.int .i64 0,.nilsl],.arr 5 x.2.length (rw (x.2.map Zv))],base:=0,n:=69,cond:=True,gl:=G0 }) (fun m x=>Z39 n ab m x.1 x.2 = some r) n (0,[]) h ?_
 rintro rt ⟨pu,pw⟩ h
 dsimp only [Z39] at h
 try dsimp only
 refine rs0 ?_
 refine vp ?_
 refine vn ?_
 refine Wp.seq ?_
 refine sD h F (fun F h=>?_) fun F h=>?_
 refine cF ?_
 refine Wp.exit ?_
 exact nx [some 0,some 1] pw h
 refine cT ?_
 refine Wp.skip ?_
 refine sh ?_
 refine Wp.seq ?_
 refine Wp.block ?_
 refine rs0 ?_
 refine vp ?_
 refine eI h F fun xx F h=>?_
 iterate 5 refine vp ?_
 refine vn ?_
 refine rg (fun d=>Nat.beq d 35) ?_
 iterate 9 refine vp ?_
 refine vl [some 0,some 1,some 2] { ch:=[(2,.hptr 0 0 0),(5,.sl 1 0 pw.length),(6,.int .i64 pu),(7,.hptr 2 0 0),(18,aL Z0 ab.Contacts),(19,.int .i64 (ab.Contacts.length:Int)),(20,.int .i64 pu),(21,.bool (decide (pu < (ab.Contacts.length:Int)))),(22,.int .i64 pu),(23,.fptr [.int .i64 xx.Kind,.int .i64 xx.A.Space,.int .i64 xx.A.N,.str xx.From,.str xx.To]),(24,.agg [.int .i64 xx.Kind,.int .i64 xx.A.Space,.int .i64 xx.A.N,.str xx.From,.str xx.To]),(25,.sl 1 0 pw.length),(26,.hptr 2 0 3),(27,.str xx.From),(28,.hptr 2 0 4),(29,.str xx.To),(30,.agg [.str xx.From,.str xx.To]),(31,.int .i64 pu),(32,.agg [.int .i64 0,.int .i64 pu,aL Z6 ([]:List TreeTree)]),(33,.agg [.str xx.From,.str xx.To,.int .i64 0,.int .i64 pu,aL Z6 ([]:List TreeTree)])],hp:=[.var [.int .i64 0,.int .i64 0,.nilsl],.arr 5 pw.length (rw (pw.map Zv)),.var [.int .i64 xx.Kind,.int .i64 xx.A.Space,.int .i64 xx.A.N,.str xx.From,.str xx.To]],base:=0,n:=69,cond:=True,gl:=G0 } ?_
 refine vp ?_
 refine gd h F fun F h=>?_
 refine vp ?_
 refine nm Zv h F fun lA F h=>?_
 refine vp ?_
 refine vn ?_
 refine sh ?_
 refine rg0 ?_
 iterate 2 refine vp ?_
 refine vn ?_
 exact nx [some 0,some 3] ((IntKind.i64.wrap (pu + 1)),lA) h
 refine cT ?_
 refine rs0 ?_
 iterate 4 refine vp ?_
 refine vn ?_
 cases h
 exact Wp.ret en0
end Go.Proofs.YtaebdeidbibfkaaGreatDoor
