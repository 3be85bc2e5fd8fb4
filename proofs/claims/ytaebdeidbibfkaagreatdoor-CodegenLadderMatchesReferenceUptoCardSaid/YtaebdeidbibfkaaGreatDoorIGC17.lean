/- Contracts: models of functions are right. No law is proved here. -/
import Derived.Test.YtaebdeidbibfkaaGreatDoorIGH
import Derived.Test.YtaebdeidbibfkaaGreatDoorIGC1
import Derived.Test.YtaebdeidbibfkaaGreatDoorIGC2
import Derived.Test.YtaebdeidbibfkaaGreatDoorIGC3
import Derived.Test.YtaebdeidbibfkaaGreatDoorIGC12
import Derived.Test.YtaebdeidbibfkaaGreatDoorIGC13
import Derived.Test.YtaebdeidbibfkaaGreatDoorIGC14
import Derived.Test.YtaebdeidbibfkaaGreatDoorIGC16
namespace Go.Proofs.YtaebdeidbibfkaaGreatDoor
open Go.Av Go.G
attribute [-simp] Int.natCast_tdiv_eq_ediv
attribute [local congr] Zx ZE Zy
variable [Drawn]
set_option maxHeartbeats 4000000
set_option linter.unusedSectionVars false
set_option maxRecDepth 20000
set_option linter.unusedSimpArgs false
set_option linter.unusedVariables false
theorem Zap {n:Nat} {ab:ApiLadder} {r:ApiProgram × (List Int) × Int × Int} (h:Z55 n ab = some r):Con Tryz.prog G0 54 [.agg (Z1r ab)] (.tup [.agg (Z4H r.1),aL (cI .i64) r.2.1,.int .i64 r.2.2.1,.int .i64 r.2.2.2]) []:=by
 refine Za (T:=TT0) tt_ok Tryz.func54 (c:=_) (by unfold Tryz.f54; rfl) Tryz.ntmps54 (rs:=[.cell 2 63,.tmp 3,.tmp 4,.tmp 5]) (by rw [Tryz.results54]) (by unfold Tryz.f54; rfl) (by simp) ?_
 simp only [Z3]
 have F:=True.intro
 dsimp only [Z55] at h
 refine rs0 ?_
 iterate 5 refine vp ?_
 refine vn ?_
 refine rs0 ?_
 refine vp ?_
 obtain ⟨⟨rc,rd⟩,hr34980,h⟩:=obind h
 dsimp only at h
 refine vc (Zdd hr34980) ?_
 iterate 5 refine vp ?_
 refine vn ?_
 refine Wp.seq ?_
 refine rs0 ?_
 iterate 2 refine vp ?_
 refine vn ?_
 refine sB h F (fun F h=>?_) fun F h=>?_
 refine cF ?_
 refine Wp.skip ?_
 refine sh ?_
 refine rs0 ?_
 iterate 10 refine vp ?_
 refine vn ?_
 refine rs0 ?_
 iterate 2 refine vp ?_
 refine vn ?_
 refine jn (fun x:(List Int) × Int × (List ApiIns) × (List Int)=>{ ch:=[(1,.hptr 0 0 0),(2,.hptr 1 0 0),(8,.hptr 2 0 0),(9,.sl 5 0 x.2.2.2.length),(10,.sl 3 0 x.1.length)],hp:=[.var [.int .i64 ab.I,.int .i64 ab.Q,.int .i64 ab.M,aL Z7 ab.Rungs],.var [.int .i64 0,.int .i64 0,.int .i64 0,.int .i64 0,.nilsl],.var [.int .i64 ab.I,.int .i64 ab.Q,.int .i64 ab.M,.int .i64 x.2.1,.sl 4 0 x.2.2.1.length],.arr 1 x.1.length (rw (x.1.map (cI .i64))),.arr 4 x.2.2.1.length (rw (x.2.2.1.map Zb)),.arr 1 x.2.2.2.length (rw (x.2.2.2.map (cI .i64)))],base:=0,n:=182,cond:=True,gl:=G0 }) (fun x=>Z5N n ab x.1 x.2.1 x.2.2.1 x.2.2.2 = some r) ?_ ?_
 clear h
 rintro ⟨pe,pf,pg,ph⟩ h
 dsimp only [Z5N] at h
 try dsimp only
 refine rs0 ?_
 iterate 5 refine vp ?_
 refine gd h F fun F h=>?_
 refine vp ?_
 refine nm (cI .i64) h F fun lm F h=>?_
 refine vp ?_
 refine vn ?_
 refine rs0 ?_
 iterate 4 refine vp ?_
 refine gd h F fun F h=>?_
 refine vp ?_
 refine nm Zb h F fun ln F h=>?_
 iterate 2 refine vp ?_
 refine vn ?_
 refine Wp.seq ?_
 refine rs0 ?_
 refine vp ?_
 refine vn ?_
 refine Wp.block ?_
 refine lp [some 0,some 3,some 1,some 2,some 7,some 6] (fun x:Int × (List ApiIns)=>{ ch:=[(1,.hptr 0 0 0),(2,.hptr 2 0 0),(8,.hptr 3 0 0),(9,.sl 5 0 lm.length),(10,.sl 1 0 pe.length),(17,.int .i64 x.1)],hp:=[.var [.int .i64 ab.I,.int .i64 ab.Q,.int .i64 ab.M,aL Z7 ab.Rungs],.arr 1 pe.length (rw (pe.map (cI .i64))),.var [.int .i64 0,.int .i64 0,.int .i64 0,.int .i64 0,.nilsl],.var [.int .i64 ab.I,.int .i64 ab.Q,.int .i64 ab.M,.int .i64 pf,.sl 4 0 x.2.length],.arr 4 x.2.length (rw (x.2.map Zb)),.arr 1 lm.length (rw (lm.map (cI .i64)))],base:=0,n:=182,cond:=True,gl:=G0 }) (fun m x=>Z4k n ab pe pf lm m x.1 x.2 = some r) n (0,ln) h ?_
 rintro rp ⟨pq,lr⟩ h
 dsimp only [Z4k] at h
 try dsimp only
 refine Wp.seq ?_
 refine rs0 ?_
 iterate 5 refine vp ?_
 refine vn ?_
 refine sD h F (fun F h=>?_) fun F h=>?_
 refine cF ?_
 refine Wp.exit ?_
 refine sh ?_
 refine dw (fun d=>Nat.beq d 3000) [0,3,4,5] ?_
 refine du 5 ?_
 refine dt ?_
 refine du 3 ?_
 refine dn ?_
 cases h
 exact Wp.ret en0
 refine cT ?_
 refine Wp.skip ?_
 refine sh ?_
 refine Wp.seq ?_
 refine Wp.block ?_
 refine rs0 ?_
 refine vp ?_
 refine vn ?_
 refine Wp.block ?_
 refine lp [some 0,some 1,some 2,some 3,some 4,some 5] (fun x:Int × (List ApiIns)=>{ ch:=[(1,.hptr 0 0 0),(2,.hptr 2 0 0),(8,.hptr 3 0 0),(9,.sl 5 0 lm.length),(10,.sl 1 0 pe.length),(17,.int .i64 pq),(18,.int .i64 x.1)],hp:=[.var [.int .i64 ab.I,.int .i64 ab.Q,.int .i64 ab.M,aL Z7 ab.Rungs],.arr 1 pe.length (rw (pe.map (cI .i64))),.var [.int .i64 0,.int .i64 0,.int .i64 0,.int .i64 0,.nilsl],.var [.int .i64 ab.I,.int .i64 ab.Q,.int .i64 ab.M,.int .i64 pf,.sl 4 0 x.2.length],.arr 4 x.2.length (rw (x.2.map Zb)),.arr 1 lm.length (rw (lm.map (cI .i64)))],base:=0,n:=182,cond:=True,gl:=G0 }) (fun m x=>Z3t ab pe lm pq (Z4k n ab pe pf lm rp) m x.1 x.2 = some r) n (0,lr) h ?_
 rintro rt ⟨pu,lA⟩ h
 dsimp only [Z3t] at h
 try dsimp only
 refine Wp.seq ?_
 refine rs0 ?_
 iterate 5 refine vp ?_
 refine vn ?_
 refine sD h F (fun F h=>?_) fun F h=>?_
 refine cF ?_
 refine Wp.exit ?_
 refine sh ?_
 refine rg0 ?_
 iterate 3 refine vp ?_
 refine vn ?_
 exact nx [some 0,some 1,some 2,some 3,some 4,some 5] ((IntKind.i64.wrap (pq + 1)),lA) h
 refine cT ?_
 refine Wp.skip ?_
 refine sh ?_
 refine Wp.seq ?_
 refine Wp.block ?_
 refine dw (fun _=>false) [0] ?_
 refine du 3 ?_
 refine eI h F fun xB F h=>?_
 refine du 5 ?_
 refine sEn h F (fun _ F h=>?_) fun _ F h=>?_
 refine ds ?_
 refine ds ?_
 refine ds ?_
 refine ds ?_
 refine ds ?_
 refine ds ?_
 refine ds ?_
 refine ds ?_
 refine ds ?_
 refine ds ?_
 refine ds ?_
 refine ds ?_
 refine ds ?_
 refine du 1 ?_
 refine dn ?_
 refine cF ?_
 refine Wp.skip ?_
 refine sh ?_
 refine rg0 ?_
 iterate 3 refine vp ?_
 refine vn ?_
 exact nx [some 0,some 1,some 2,some 3,some 4,some 5] ((IntKind.i64.wrap (pu + 1)),lA) h
 refine du 1 ?_
 refine du 1 ?_
 refine du 1 ?_
 refine eI h F fun xC F h=>?_
 refine du 1 ?_
 refine du 1 ?_
 refine du 1 ?_
 refine du 1 ?_
 refine du 1 ?_
 refine du 1 ?_
 refine du 1 ?_
 refine du 1 ?_
 refine du 1 ?_
 refine du 1 ?_
 refine du 1 ?_
 refine dn ?_
 refine sE h F (fun _ F h=>?_) fun _ F h=>?_
 refine cF ?_
 refine Wp.skip ?_
 refine sh ?_
 refine rg0 ?_
 iterate 3 refine vp ?_
 refine vn ?_
 exact nx [some 0,some 1,some 2,some 3,some 4,some 5] ((IntKind.i64.wrap (pu + 1)),lA) h
 refine cT ?_
 refine dw1 (fun _=>false) [1,3,4,5] ?_
 refine du 4 ?_
 refine eI h F fun xD F h=>?_
 refine du 4 ?_
 refine eI h F fun xE F h=>?_
 refine du 2 ?_
 refine eI h F fun xF F h=>?_
 refine du 2 ?_
 refine db ?_
 refine nm Zb h F fun lG F h=>?_
 refine dn ?_
 refine sh ?_
 refine rg0 ?_
 iterate 3 refine vp ?_
 refine vn ?_
 exact nx [some 0,some 1,some 2,some 3,some 4,some 5] ((IntKind.i64.wrap (pu + 1)),lG) h
 refine rs0 ?_
 refine vp ?_
 refine vn ?_
 refine Wp.block ?_
 refine lp [some 0,some 1,some 2,none,none,none] (fun x:(List Int) × Int × Int × (List ApiIns) × (List Int)=>{ ch:=[(1,.hptr 0 0 0),(2,.hptr 1 0 0),(8,.hptr 2 0 0),(9,.sl 5 0 x.2.2.2.2.length),(10,.sl 3 0 x.1.length),(11,.int .i64 x.2.1)],hp:=[.var [.int .i64 ab.I,.int .i64 ab.Q,.int .i64 ab.M,aL Z7 ab.Rungs],.var [.int .i64 0,.int .i64 0,.int .i64 0,.int .i64 0,.nilsl],.var [.int .i64 ab.I,.int .i64 ab.Q,.int .i64 ab.M,.int .i64 x.2.2.1,.sl 4 0 x.2.2.2.1.length],.arr 1 x.1.length (rw (x.1.map (cI .i64))),.arr 4 x.2.2.2.1.length (rw (x.2.2.2.1.map Zb)),.arr 1 x.2.2.2.2.length (rw (x.2.2.2.2.map (cI .i64)))],base:=0,n:=182,cond:=True,gl:=G0 }) (fun m x=>Z1q n ab m x.1 x.2.1 x.2.2.1 x.2.2.2.1 x.2.2.2.2 = some r) n ([],0,0,[],[]) h ?_
 rintro rH ⟨pI,pJ,pK,pL,pM⟩ h
 dsimp only [Z1q] at h
 try dsimp only
 refine Wp.seq ?_
 refine rs0 ?_
 iterate 5 refine vp ?_
 refine vn ?_
 refine sD h F (fun F h=>?_) fun F h=>?_
 refine cF ?_
 refine Wp.exit ?_
 exact nx [some 0,some 1,some 2,some 3,some 4,some 5] (pI,pK,pL,pM) h
 refine cT ?_
 refine Wp.skip ?_
 refine sh ?_
 refine Wp.seq ?_
 refine Wp.block ?_
 refine rs0 ?_
 iterate 3 refine vp ?_
 refine eI h F fun xN F h=>?_
 iterate 4 refine vp ?_
 refine vn ?_
 refine rs0 ?_
 refine vp ?_
 obtain ⟨⟨rO,rP⟩,hr41302,h⟩:=obind h
 dsimp only at h
 refine vc (ZcF hr41302) ?_
 iterate 6 refine vp ?_
 refine vn ?_
 refine jn (fun pQ:Int=>{ ch:=[(1,.hptr 0 0 0),(2,.hptr 4 0 0),(8,.hptr 5 0 0),(9,.sl 7 0 pM.length),(10,.sl 1 0 pI.length),(11,.int .i64 pJ),(12,.hptr 2 0 0),(13,.hptr 3 0 0),(14,.int .i64 pQ)],hp:=[.var [.int .i64 ab.I,.int .i64 ab.Q,.int .i64 ab.M,aL Z7 ab.Rungs],.arr 1 pI.length (rw (pI.map (cI .i64))),.var [.str xN.Label,aL Z0 xN.Contacts,aL Z4 xN.Coils,.str xN.Jump],.var [.int .i64 rO.Kind,.int .i64 rO.N,aL Zc rO.Kids],.var [.int .i64 0,.int .i64 0,.int .i64 0,.int .i64 0,.nilsl],.var [.int .i64 ab.I,.int .i64 ab.Q,.int .i64 ab.M,.int .i64 pK,.sl 6 0 pL.length],.arr 4 pL.length (rw (pL.map Zb)),.arr 1 pM.length (rw (pM.map (cI .i64)))],base:=0,n:=182,cond:=True,gl:=G0 }) (fun x=>Z2I n pI pJ pK pL pM (Z1q n ab rH) xN rO x = some r) ?_ ?_
 clear h
 rintro pQ h
 dsimp only [Z2I] at h
 try dsimp only
 refine Wp.seq ?_
 refine rs0 ?_
 iterate 2 refine vp ?_
 refine vn ?_
 refine sB h F (fun F h=>?_) fun F h=>?_
 refine cF ?_
 refine Wp.skip ?_
 refine sh ?_
 refine rs (fun d=>Nat.beq d 73) ?_
 iterate 5 refine vp ?_
 refine gd h F fun F h=>?_
 refine vp ?_
 refine nm (cI .i64) h F fun lR F h=>?_
 refine vp ?_
 refine vn ?_
 refine dw (fun d=>Nat.beq d 82 || Nat.beq d 1082) [2,3,5,6] ?_
 refine du 7 ?_
 obtain ⟨rS,hr41314,h⟩:=obind h
 refine dc (Zfo _ hr41314) ?_
 refine gd h F fun F h=>?_
 refine db ?_
 refine nm Zb h F fun lT F h=>?_
 refine du 1 ?_
 refine db ?_
 refine dn ?_
 refine dw (fun _=>false) [2,5,9] ?_
 refine du 4 ?_
 obtain ⟨rU,hr41317,h⟩:=obind h
 refine dc (ZaF hr41317) ?_
 refine du 3 ?_
 refine db ?_
 refine dn ?_
 refine rs0 ?_
 refine vp ?_
 obtain ⟨⟨rV,rW⟩,hr41319,h⟩:=obind h
 dsimp only at h
 refine vc (ZdJ hr41319) ?_
 iterate 5 refine vp ?_
 refine vn ?_
 refine rs0 ?_
 iterate 3 refine vp ?_
 refine gd h F fun F h=>?_
 refine vp ?_
 refine nm Zb h F fun lX F h=>?_
 iterate 2 refine vp ?_
 refine vn ?_
 refine rs (fun d=>Nat.beq d 107) ?_
 iterate 5 refine vp ?_
 refine gd h F fun F h=>?_
 refine vp ?_
 refine nm (cI .i64) h F fun lY F h=>?_
 refine vp ?_
 refine vn ?_
 refine rs0 ?_
 iterate 3 refine vp ?_
 refine vn ?_
 refine sEn h F (fun _ F h=>?_) fun _ F h=>?_
 refine cF ?_
 refine Wp.skip ?_
 refine sh ?_
 refine rg0 ?_
 iterate 3 refine vp ?_
 refine vn ?_
 exact nx [some 0,some 4,some 5,some 11,some 10,some 8] (lY,(IntKind.i64.wrap (pJ + 1)),(IntKind.i64.wrap (pK + rU)),lX,lR) h
 refine cT ?_
 refine rg0 ?_
 iterate 4 refine vp ?_
 refine gd h F fun F h=>?_
 refine vp ?_
 refine nm Zb h F fun lZ F h=>?_
 iterate 2 refine vp ?_
 refine vn ?_
 refine sh ?_
 refine rg0 ?_
 iterate 3 refine vp ?_
 refine vn ?_
 exact nx [some 0,some 4,some 5,some 11,some 12,some 8] (lY,(IntKind.i64.wrap (pJ + 1)),(IntKind.i64.wrap (pK + rU)),lZ,lR) h
 refine cT ?_
 refine rs0 ?_
 iterate 7 refine vp ?_
 refine vn ?_
 cases h
 exact Wp.ret en0
 refine dw (fun _=>false) [6,7] ?_
 refine du 3 ?_
 refine sB h F (fun F h=>?_) fun F h=>?_
 refine ds ?_
 refine ds ?_
 refine ds ?_
 refine ds ?_
 refine ds ?_
 refine du 1 ?_
 refine dn ?_
 refine cF ?_
 refine Wp.skip ?_
 exact nx [some 0,some 3,some 6,some 7,some 1,some 2,some 4,some 5] rP h
 refine du 1 ?_
 refine du 1 ?_
 obtain ⟨r10,hr41325,h⟩:=obind h
 refine dc (Zdl hr41325) ?_ (hg:=by (simp [F]; done))
 obtain ⟨r11,hr41327,h⟩:=obind h
 refine dc (Zag _ hr41327) ?_ (hg:=by (simp [F]; done))
 refine du 1 ?_
 refine du 1 ?_
 refine dn ?_
 refine sD h F (fun F h=>?_) fun F h=>?_
 refine cF ?_
 refine Wp.skip ?_
 exact nx [some 0,some 3,some 6,some 7,some 1,some 2,some 4,some 5] rP h
 refine cT ?_
 refine rg0 ?_
 refine vp ?_
 refine vn ?_
 exact nx [some 0,some 3,some 6,some 7,some 1,some 2,some 4,some 5] 16 h
 refine cT ?_
 refine rs0 ?_
 iterate 7 refine vp ?_
 refine vn ?_
 cases h
 exact Wp.ret en0
theorem Zbe {n:Nat} {r_0:ApiRung} {r:(List Str)} (h:Z6a n r_0 = some r):Con Tryz.prog G0 64 [.agg (Z7 r_0)] (aL cS r) []:=by
 refine Za (T:=TT0) tt_ok Tryz.func64 (c:=_) (by unfold Tryz.f64; rfl) Tryz.ntmps64 (rs:=[.tmp 2]) (by rw [Tryz.results64]) (by unfold Tryz.f64; rfl) (by simp) ?_
 simp only [Z3]
 have F:=True.intro
 dsimp only [Z6a] at h
 refine rs0 ?_
 iterate 2 refine vp ?_
 refine vn ?_
 refine rl [some 0,none,none] { ch:=[(1,.hptr 0 0 0),(2,.nilsl)],hp:=[.var [.str r_0.Label,aL Z0 r_0.Contacts,aL Z4 r_0.Coils,.str r_0.Jump],.slot,.slot],base:=0,n:=13,cond:=True,gl:=G0 } ?_
 refine dz [1,2] (fun d=>Nat.beq d 3 || Nat.beq d 4) [0] ?_
 refine du 1 ?_
 obtain ⟨r12,hr14442,h⟩:=obind h
 refine dc (ZaI hr14442) ?_
 refine du 1 ?_
 obtain ⟨r13,hr14647,h⟩:=obind h
 refine dc (Zay hr14647) ?_
 refine dl 1 ?_
 refine dl 2 ?_
 refine db ?_
 refine db ?_
 refine dn ?_
 refine rs (fun d=>Nat.beq d 10) ?_
 refine vp ?_
 obtain ⟨r14,hr14649,h⟩:=obind h
 refine vc (Z4w hr14649) ?_
 refine vp ?_
 obtain ⟨q15,hr14750,h⟩:=obind h
 refine vh [3,1,2] (Z6s hr14750) ?_
 refine vp ?_
 refine vn ?_
 cases h
 exact Wp.ret en0
end Go.Proofs.YtaebdeidbibfkaaGreatDoor
