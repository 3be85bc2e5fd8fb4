/- Contracts: models of functions are right. No law is proved here. -/
import Derived.Test.YtaebdeidbibfkaaGreatDoorIGH
import Derived.Test.YtaebdeidbibfkaaGreatDoorIGC1
import Derived.Test.YtaebdeidbibfkaaGreatDoorIGC6
import Derived.Test.YtaebdeidbibfkaaGreatDoorIGC14
import Derived.Test.YtaebdeidbibfkaaGreatDoorIGC20
namespace Go.Proofs.YtaebdeidbibfkaaGreatDoor
open Go.Av Go.G
attribute [-simp] Int.natCast_tdiv_eq_ediv
attribute [local congr] Zx ZE Zy
variable [Drawn]
set_option maxHeartbeats 4000000
set_option linter.unusedSectionVars false
set_option maxRecDepth 20000
set_option linter.unusedSimpArgs false
set_option linter.unusedVariables false
theorem Z85 {n:Nat} {ab:ApiLadder} {r:ApiProgram × (List Int) × Int × Int} (h:Z2u n ab = some r):Con Tryz.prog G0 53 [.agg (Z1r ab)] (.tup [.agg (Z4H r.1),aL (cI .i64) r.2.1,.int .i64 r.2.2.1,.int .i64 r.2.2.2]) []:=by
 refine Za (T:=TT0) tt_ok Tryz.func53 (c:=_) (by unfold Tryz.f53; rfl) Tryz.ntmps53 (rs:=[.cell 2 63,.tmp 3,.tmp 4,.tmp 5]) (by rw [Tryz.results53]) (by unfold Tryz.f53; rfl) (by simp) ?_
 simp only [Z3]
 have F:=True.intro
 dsimp only [Z2u] at h
 refine rs0 ?_
 iterate 5 refine vp ?_
 refine vn ?_
 refine Wp.seq ?_
 refine rs0 ?_
 refine vp ?_
 obtain ⟨⟨rc,rd⟩,hr10926,h⟩:=obind h
 dsimp only at h
 refine vc (Zc5 hr10926) ?_
 iterate 5 refine vp ?_
 refine vn ?_
 refine rs0 ?_
 iterate 2 refine vp ?_
 refine vn ?_
 refine sB h F (fun F h=>?_) fun F h=>?_
 refine cF ?_
 refine Wp.skip ?_
 refine sh ?_
 refine rs0 ?_
 iterate 10 refine vp ?_
 refine vn ?_
 refine rs0 ?_
 refine vp ?_
 refine vn ?_
 refine rs0 ?_
 iterate 2 refine vp ?_
 refine vn ?_
 refine rs0 ?_
 iterate 2 refine vp ?_
 refine vn ?_
 refine jn (fun x:(List (Str × Int)) × (List (Int × Str)) × Int × (List ApiIns) × (List Int)=>{ ch:=[(1,.hptr 0 0 0),(2,.hptr 3 0 0),(8,.hptr 4 0 0),(9,.sl 6 0 x.2.2.2.2.length),(10,.mp 1),(11,.mp 2)],hp:=[.var [.int .i64 ab.I,.int .i64 ab.Q,.int .i64 ab.M,aL Z7 ab.Rungs],.map (mAV AV.str (cI .i64) x.1),.map (mAV (AV.int .i64) cS x.2.1),.var [.int .i64 0,.int .i64 0,.int .i64 0,.int .i64 0,.nilsl],.var [.int .i64 ab.I,.int .i64 ab.Q,.int .i64 ab.M,.int .i64 x.2.2.1,.sl 5 0 x.2.2.2.1.length],.arr 4 x.2.2.2.1.length (rw (x.2.2.2.1.map Zb)),.arr 1 x.2.2.2.2.length (rw (x.2.2.2.2.map (cI .i64)))],base:=0,n:=145,cond:=True,gl:=G0 }) (fun x=>Z49 n ab x.1 x.2.1 x.2.2.1 x.2.2.2.1 x.2.2.2.2 = some r) ?_ ?_
 clear h
 rintro ⟨pe,pf,pg,ph,pi⟩ h
 dsimp only [Z49] at h
 try dsimp only
 refine jn (fun pj:List ApiIns=>{ ch:=[(1,.hptr 0 0 0),(2,.hptr 1 0 0),(8,.hptr 2 0 0),(9,.sl 4 0 pi.length)],hp:=[.var [.int .i64 ab.I,.int .i64 ab.Q,.int .i64 ab.M,aL Z7 ab.Rungs],.var [.int .i64 0,.int .i64 0,.int .i64 0,.int .i64 0,.nilsl],.var [.int .i64 ab.I,.int .i64 ab.Q,.int .i64 ab.M,.int .i64 pg,.sl 3 0 pj.length],.arr 4 pj.length (rw (pj.map Zb)),.arr 1 pi.length (rw (pi.map (cI .i64)))],base:=0,n:=145,cond:=True,gl:=G0 }) (fun x=>Z5e ab pg pi x = some r) ?_ ?_
 clear h
 rintro pj h
 dsimp only [Z5e] at h
 try dsimp only
 refine rs0 ?_
 iterate 5 refine vp ?_
 refine gd h F fun F h=>?_
 refine vp ?_
 refine nm (cI .i64) h F fun lm F h=>?_
 refine vp ?_
 refine vn ?_
 refine rs0 ?_
 iterate 4 refine vp ?_
 refine gd h F fun F h=>?_
 refine vp ?_
 refine nm Zb h F fun ln F h=>?_
 iterate 2 refine vp ?_
 refine vn ?_
 refine dw (fun d=>Nat.beq d 3000) [0,2,5,6] ?_
 refine du 5 ?_
 refine dt ?_
 refine du 3 ?_
 refine dn ?_
 cases h
 exact Wp.ret en0
 refine rs0 ?_
 refine vp ?_
 refine vm ?_
 refine vn ?_
 refine Wp.block ?_
 refine lp [some 0,some 1,some 7,some 3,some 4,some 5,some 6] (fun x:(List (Int × Str)) × (List ApiIns)=>{ ch:=[(1,.hptr 0 0 0),(2,.hptr 3 0 0),(8,.hptr 4 0 0),(9,.sl 6 0 pi.length),(10,.mp 1),(114,.hptr 2 0 0)],hp:=[.var [.int .i64 ab.I,.int .i64 ab.Q,.int .i64 ab.M,aL Z7 ab.Rungs],.map (mAV AV.str (cI .i64) pe),.miter none (mAV (AV.int .i64) cS x.1),.var [.int .i64 0,.int .i64 0,.int .i64 0,.int .i64 0,.nilsl],.var [.int .i64 ab.I,.int .i64 ab.Q,.int .i64 ab.M,.int .i64 pg,.sl 5 0 x.2.length],.arr 4 x.2.length (rw (x.2.map Zb)),.arr 1 pi.length (rw (pi.map (cI .i64)))],base:=0,n:=145,cond:=True,gl:=G0 }) (fun m x=>Z2z ab pe pg pi m x.1 x.2 = some r) n (pf,ph) h ?_
 rintro rp ⟨pq,pt⟩ h
 dsimp only [Z2z] at h
 try dsimp only
 refine rs0 ?_
 refine sB h F (fun F h=>?_) fun F h=>?_
 refine v3 h (fun eu mA h=>?_)
 refine ⟨_,by (simp [F]; rfl),?_⟩
 refine vp ?_
 refine vn ?_
 refine Wp.seq ?_
 refine cT ?_
 refine Wp.skip ?_
 refine sh ?_
 refine Wp.block ?_
 refine rs0 ?_
 refine ve ?_
 iterate 4 refine vp ?_
 refine vn ?_
 refine rg0 ?_
 iterate 6 refine vp ?_
 refine eI h F fun xB F h=>?_
 iterate 3 refine vp ?_
 refine nm Zb h F fun lC F h=>?_
 refine vn ?_
 exact nx [some 0,some 1,some 2,some 3,some 4,some 5,some 6] (mA,lC) h
 refine v2 ?_
 refine vp ?_
 refine vn ?_
 refine Wp.seq ?_
 refine cF ?_
 refine Wp.exit ?_
 exact nx [some 0,some 3,some 4,some 5,some 6] pt h
 refine rs0 ?_
 iterate 4 refine vp ?_
 refine vn ?_
 refine Wp.block ?_
 refine lp [some 0,some 3,some 4,some 1,some 2,none,none] (fun x:(List (Str × Int)) × (List (Int × Str)) × Int × Int × (List ApiIns) × (List Int)=>{ ch:=[(1,.hptr 0 0 0),(2,.hptr 3 0 0),(8,.hptr 4 0 0),(9,.sl 6 0 x.2.2.2.2.2.length),(10,.mp 1),(11,.mp 2),(40,aL Z7 ab.Rungs),(41,.int .i64 (ab.Rungs.length:Int)),(42,.int .i64 x.2.2.1)],hp:=[.var [.int .i64 ab.I,.int .i64 ab.Q,.int .i64 ab.M,aL Z7 ab.Rungs],.map (mAV AV.str (cI .i64) x.1),.map (mAV (AV.int .i64) cS x.2.1),.var [.int .i64 0,.int .i64 0,.int .i64 0,.int .i64 0,.nilsl],.var [.int .i64 ab.I,.int .i64 ab.Q,.int .i64 ab.M,.int .i64 x.2.2.2.1,.sl 5 0 x.2.2.2.2.1.length],.arr 4 x.2.2.2.2.1.length (rw (x.2.2.2.2.1.map Zb)),.arr 1 x.2.2.2.2.2.length (rw (x.2.2.2.2.2.map (cI .i64)))],base:=0,n:=145,cond:=True,gl:=G0 }) (fun m x=>Z1s n ab m x.1 x.2.1 x.2.2.1 x.2.2.2.1 x.2.2.2.2.1 x.2.2.2.2.2 = some r) n ([],[],0,0,[],[]) h ?_
 rintro rD ⟨pE,pF,pG,pH,pI,pJ⟩ h
 dsimp only [Z1s] at h
 try dsimp only
 refine rs0 ?_
 refine vp ?_
 refine vn ?_
 refine Wp.seq ?_
 refine sD h F (fun F h=>?_) fun F h=>?_
 refine cF ?_
 refine Wp.exit ?_
 exact nx [some 0,some 1,some 2,some 3,some 4,some 5,some 6] (pE,pF,pH,pI,pJ) h
 refine cT ?_
 refine Wp.skip ?_
 refine sh ?_
 refine Wp.seq ?_
 refine Wp.block ?_
 refine rs0 ?_
 refine vp ?_
 refine eI h F fun xK F h=>?_
 iterate 5 refine vp ?_
 refine vn ?_
 refine rs0 ?_
 iterate 4 refine vp ?_
 obtain ⟨⟨rL,rM⟩,hr16055,h⟩:=obind h
 dsimp only at h
 refine vc (Za5 hr16055) ?_
 iterate 5 refine vp ?_
 refine vn ?_
 refine Wp.seq ?_
 refine rs0 ?_
 iterate 2 refine vp ?_
 refine vn ?_
 refine sB h F (fun F h=>?_) fun F h=>?_
 refine cF ?_
 refine Wp.skip ?_
 refine sh ?_
 refine rs0 ?_
 refine vp ?_
 obtain ⟨⟨rN,rO⟩,hr16058,h⟩:=obind h
 dsimp only at h
 refine vc (Zcd hr16058) ?_
 iterate 5 refine vp ?_
 refine vn ?_
 refine Wp.seq ?_
 refine rs0 ?_
 iterate 2 refine vp ?_
 refine vn ?_
 refine sB h F (fun F h=>?_) fun F h=>?_
 refine cF ?_
 refine Wp.skip ?_
 refine sh ?_
 refine rs (fun d=>Nat.beq d 75) ?_
 iterate 5 refine vp ?_
 refine gd h F fun F h=>?_
 refine vp ?_
 refine nm (cI .i64) h F fun lP F h=>?_
 refine vp ?_
 refine vn ?_
 refine rs0 ?_
 iterate 7 refine vp ?_
 refine vn ?_
 refine dw (fun _=>false) [4,5,7] ?_
 refine du 4 ?_
 obtain ⟨rQ,hr16062,h⟩:=obind h
 refine dc (Z95 hr16062) ?_
 refine du 3 ?_
 refine db ?_
 refine dn ?_
 refine rs (fun d=>Nat.beq d 93) ?_
 iterate 3 refine vp ?_
 refine gd h F fun F h=>?_
 refine vp ?_
 refine nm Zb h F fun lR F h=>?_
 refine vp ?_
 refine gd h F fun F h=>?_
 refine vp ?_
 refine nm Zb h F fun lS F h=>?_
 iterate 2 refine vp ?_
 refine vn ?_
 refine rs0 ?_
 iterate 3 refine vp ?_
 refine vn ?_
 refine sEn h F (fun _ F h=>?_) fun _ F h=>?_
 refine cF ?_
 refine Wp.skip ?_
 refine sh ?_
 refine rg0 ?_
 iterate 2 refine vp ?_
 refine vn ?_
 exact nx [some 0,some 1,some 2,some 3,some 4,some 10,some 8] ((mPut pE xK.Label (pI.length:Int)),pF,(IntKind.i64.wrap (pG + 1)),(IntKind.i64.wrap (pH + rQ)),lS,lP) h
 refine cT ?_
 refine rs0 ?_
 iterate 7 refine vp ?_
 refine vn ?_
 refine rg0 ?_
 iterate 4 refine vp ?_
 refine gd h F fun F h=>?_
 refine vp ?_
 refine nm Zb h F fun lT F h=>?_
 iterate 2 refine vp ?_
 refine vn ?_
 refine sh ?_
 refine rg0 ?_
 iterate 2 refine vp ?_
 refine vn ?_
 exact nx [some 0,some 1,some 2,some 3,some 4,some 11,some 8] ((mPut pE xK.Label (pI.length:Int)),(mPut pF (lS.length:Int) xK.Jump),(IntKind.i64.wrap (pG + 1)),(IntKind.i64.wrap (pH + rQ)),lT,lP) h
 refine cT ?_
 refine rs0 ?_
 iterate 7 refine vp ?_
 refine vn ?_
 cases h
 exact Wp.ret en0
 refine cT ?_
 refine rs0 ?_
 iterate 7 refine vp ?_
 refine vn ?_
 cases h
 exact Wp.ret en0
 refine cT ?_
 refine rs0 ?_
 iterate 7 refine vp ?_
 refine vn ?_
 cases h
 exact Wp.ret en0
end Go.Proofs.YtaebdeidbibfkaaGreatDoor
