/- Contracts: models of functions are right. No law is proved here. -/
import Derived.Test.YtaebdeidbibfkaaGreatDoorIGH
import Derived.Test.YtaebdeidbibfkaaGreatDoorIGC12
import Derived.Test.YtaebdeidbibfkaaGreatDoorIGC15
namespace Go.Proofs.YtaebdeidbibfkaaGreatDoor
open Go.Av Go.G
attribute [-simp] Int.natCast_tdiv_eq_ediv
attribute [local congr] Zx ZE Zy
variable [Drawn]
set_option maxHeartbeats 4000000
set_option linter.unusedSectionVars false
set_option maxRecDepth 20000
set_option linter.unusedSimpArgs false
set_option linter.unusedVariables false
theorem ZcF {n:Nat} {ab:ApiRung} {r:Ref14Tree × Int} (h:Z3v n ab = some r):Con Tryz.prog G0 11 [.agg (Z7 ab)] (.tup [.agg [.int .i64 r.1.Kind,.int .i64 r.1.N,aL Zc r.1.Kids],.int .i64 r.2]) []:=by
 refine Za (T:=TT0) tt_ok Tryz.func11 (c:=_) (by unfold Tryz.f11; rfl) Tryz.ntmps11 (rs:=[.cell 2 36,.tmp 3]) (by rw [Tryz.results11]) (by unfold Tryz.f11; rfl) (by simp) ?_
 simp only [Z3]
 have F:=True.intro
 dsimp only [Z3v] at h
 refine rs0 ?_
 iterate 3 refine vp ?_
 refine vn ?_
 refine rs0 ?_
 refine vp ?_
 obtain ⟨rc,hr38848,h⟩:=obind h
 refine vc (ZdY hr38848) ?_
 refine vp ?_
 refine vn ?_
 refine Wp.seq ?_
 refine rs0 ?_
 iterate 2 refine vp ?_
 refine vn ?_
 refine sB h F (fun F h=>?_) fun F h=>?_
 refine cF ?_
 refine Wp.skip ?_
 refine sh ?_
 refine rs0 ?_
 refine vp ?_
 refine vn ?_
 refine jn (fun pd:List Ref15Edge=>{ ch:=[(2,.hptr 0 0 0),(5,.sl 1 0 pd.length)],hp:=[.var [.int .i64 0,.int .i64 0,.nilsl],.arr 5 pd.length (rw (pd.map ZR))],base:=0,n:=70,cond:=True,gl:=G0 }) (fun x=>Z5I n x = some r) ?_ ?_
 clear h
 rintro pd h
 dsimp only [Z5I] at h
 try dsimp only
 refine jn (fun pe:List Ref15Edge=>{ ch:=[(2,.hptr 0 0 0),(5,aL ZR pe)],hp:=[.var [.int .i64 0,.int .i64 0,.nilsl]],base:=0,n:=70,cond:=True,gl:=G0 }) (fun x=>Z2L x = some r) ?_ ?_
 clear h
 rintro pe h
 dsimp only [Z2L] at h
 try dsimp only
 refine Wp.seq ?_
 refine rs0 ?_
 iterate 4 refine vp ?_
 refine sB h F (fun F h=>?_) fun F h=>?_
 refine vg ?_
 refine eN (m:=0) h F fun xf F h=>?_
 refine vg ?_
 refine vg ?_
 refine vg ?_
 refine vg ?_
 iterate 2 refine vp ?_
 refine sEn h F (fun _ F h=>?_) fun _ F h=>?_
 refine vg ?_
 refine vg ?_
 refine vg ?_
 refine vg ?_
 refine vg ?_
 refine vp ?_
 refine vn ?_
 refine sEn h F (fun _ F h=>?_) fun _ F h=>?_
 refine cF ?_
 refine Wp.skip ?_
 refine sh ?_
 refine rs0 ?_
 iterate 6 refine vp ?_
 refine vn ?_
 cases h
 exact Wp.ret en0
 refine cT ?_
 refine rs0 ?_
 iterate 3 refine vp ?_
 refine vn ?_
 cases h
 exact Wp.ret en0
 refine vs ?_
 refine vs ?_
 refine vs ?_
 refine vs ?_
 refine vs ?_
 refine vp ?_
 refine vn ?_
 refine cT ?_
 refine rs0 ?_
 iterate 3 refine vp ?_
 refine vn ?_
 cases h
 exact Wp.ret en0
 refine vs ?_
 refine vs ?_
 refine vs ?_
 refine vs ?_
 refine vs ?_
 iterate 2 refine vp ?_
 refine vs ?_
 refine vs ?_
 refine vs ?_
 refine vs ?_
 refine vs ?_
 refine vp ?_
 refine vn ?_
 refine cT ?_
 refine rs0 ?_
 iterate 3 refine vp ?_
 refine vn ?_
 cases h
 exact Wp.ret en0
 refine Wp.block ?_
 refine rl [some 0,none] { ch:=[(2,.hptr 0 0 0),(5,aL ZR pd)],hp:=[.var [.int .i64 0,.int .i64 0,.nilsl],.dead],base:=0,n:=70,cond:=True,gl:=G0 } ?_
 refine lp [some 0] (fun pg:List Ref15Edge=>{ ch:=[(2,.hptr 0 0 0),(5,aL ZR pg)],hp:=[.var [.int .i64 0,.int .i64 0,.nilsl]],base:=0,n:=70,cond:=True,gl:=G0 }) (fun m x=>Z2R n m x = some r) n pd h ?_
 rintro rh pg h
 dsimp only [Z2R] at h
 try dsimp only
 refine Wp.block ?_
 refine rs0 ?_
 refine vp ?_
 obtain ⟨⟨ri,rj⟩,hr40690,h⟩:=obind h
 dsimp only at h
 refine vc (Zes hr40690) ?_
 iterate 5 refine vp ?_
 refine vn ?_
 refine Wp.seq ?_
 refine rs0 ?_
 iterate 2 refine vp ?_
 refine vn ?_
 refine sB h F (fun F h=>?_) fun F h=>?_
 refine cF ?_
 refine Wp.skip ?_
 refine sh ?_
 refine rg0 ?_
 iterate 2 refine vp ?_
 refine vn ?_
 exact nx [some 0] ri h
 refine cT ?_
 refine Wp.exit ?_
 exact nx [some 0] pg h
 refine rs0 ?_
 refine vp ?_
 refine vn ?_
 refine Wp.block ?_
 refine lp [some 0,some 1,none] (fun x:(List Ref15Edge) × Int=>{ ch:=[(1,.hptr 0 0 0),(2,.hptr 1 0 0),(5,.sl 2 0 x.1.length),(6,.int .i64 x.2)],hp:=[.var [.str ab.Label,aL Z0 ab.Contacts,aL Z4 ab.Coils,.str ab.Jump],.var [.int .i64 0,.int .i64 0,.nilsl],.arr 5 x.1.length (rw (x.1.map ZR))],base:=0,n:=70,cond:=True,gl:=G0 }) (fun m x=>Z3G n ab m x.1 x.2 = some r) n ([],0) h ?_
 rintro rm ⟨pn,po⟩ h
 dsimp only [Z3G] at h
 try dsimp only
 refine Wp.seq ?_
 refine rs0 ?_
 iterate 5 refine vp ?_
 refine vn ?_
 refine sD h F (fun F h=>?_) fun F h=>?_
 refine cF ?_
 refine Wp.exit ?_
 exact nx [some 1,some 2] pn h
 refine cT ?_
 refine Wp.skip ?_
 refine sh ?_
 refine Wp.seq ?_
 refine Wp.block ?_
 refine dw1 (fun d=>Nat.beq d 39 || Nat.beq d 1039) [0,2] ?_
 refine du 4 ?_
 refine eI h F fun xp F h=>?_
 refine du 10 ?_
 refine dk [.int .i64 0,.int .i64 po,aL Zc ([]:List Ref14Tree)] ?_
 refine du 2 ?_
 refine gd h F fun F h=>?_
 refine db ?_
 refine nm ZR h F fun lq F h=>?_
 refine du 1 ?_
 refine dn ?_
 refine sh ?_
 refine rg0 ?_
 iterate 3 refine vp ?_
 refine vn ?_
 exact nx [some 0,some 1,some 3] (lq,(IntKind.i64.wrap (po + 1))) h
 refine cT ?_
 refine rs0 ?_
 iterate 4 refine vp ?_
 refine vn ?_
 cases h
 exact Wp.ret en0
theorem ZaI {n:Nat} {r_0:ApiRung} {node1:Str} {r:(List Str)} (h:Z2N n r_0 node1 = some r):Con Tryz.prog G0 104 [.agg (Z7 r_0),.str node1] (aL cS r) []:=by
 refine Za (T:=TT0) tt_ok Tryz.func104 (c:=_) (by unfold Tryz.f104; rfl) Tryz.ntmps104 (rs:=[.tmp 4]) (by rw [Tryz.results104]) (by unfold Tryz.f104; rfl) (by simp) ?_
 simp only [Z3]
 have F:=True.intro
 dsimp only [Z2N] at h
 refine rs0 ?_
 iterate 2 refine vp ?_
 refine vn ?_
 refine rs0 ?_
 iterate 3 refine vp ?_
 obtain ⟨rt,hr14440,h⟩:=obind h
 refine vh [0] (Z9n hr14440) ?_
 refine vp ?_
 refine vn ?_
 cases h
 exact Wp.ret en0
theorem Zay {n:Nat} {r_0:ApiRung} {node1:Str} {r:(List Str)} (h:Z2K n r_0 node1 = some r):Con Tryz.prog G0 105 [.agg (Z7 r_0),.str node1] (aL cS r) []:=by
 refine Za (T:=TT0) tt_ok Tryz.func105 (c:=_) (by unfold Tryz.f105; rfl) Tryz.ntmps105 (rs:=[.tmp 4]) (by rw [Tryz.results105]) (by unfold Tryz.f105; rfl) (by simp) ?_
 simp only [Z3]
 have F:=True.intro
 dsimp only [Z2K] at h
 refine rs0 ?_
 iterate 2 refine vp ?_
 refine vn ?_
 refine rs0 ?_
 iterate 3 refine vp ?_
 obtain ⟨ru,hr14645,h⟩:=obind h
 refine vh [0] (Z9F hr14645) ?_
 refine vp ?_
 refine vn ?_
 cases h
 exact Wp.ret en0
end Go.Proofs.YtaebdeidbibfkaaGreatDoor
