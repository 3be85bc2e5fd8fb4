/- Contracts: models of functions are right. No law is proved here. -/
import Derived.Test.YtaebdeidbibfkaaGreatDoorIGH
import Derived.Test.YtaebdeidbibfkaaGreatDoorIGC1
import Derived.Test.YtaebdeidbibfkaaGreatDoorIGC4
import Derived.Test.YtaebdeidbibfkaaGreatDoorIGC5
import Derived.Test.YtaebdeidbibfkaaGreatDoorIGC6
namespace Go.Proofs.YtaebdeidbibfkaaGreatDoor
open Go.Av Go.G
attribute [-simp] Int.natCast_tdiv_eq_ediv
attribute [local congr] Zx ZE Zy
variable [Drawn]
set_option maxHeartbeats 4000000
set_option linter.unusedSectionVars false
set_option maxRecDepth 20000
set_option linter.unusedSimpArgs false
set_option linter.unusedVariables false
theorem Z8w {n:Nat} {ab:ApiRung} {a1:Str} {a2:Bool} {r:(List Str)} (h:Z2q n ab a1 a2 = some r):Con Tryz.prog G0 150 [.agg (Z7 ab),.str a1,.bool a2] (aL cS r) []:=by
 refine Za (T:=TT0) tt_ok Tryz.func150 (c:=_) (by unfold Tryz.f150; rfl) Tryz.ntmps150 (rs:=[.tmp 6]) (by rw [Tryz.results150]) (by unfold Tryz.f150; rfl) (by simp) ?_
 simp only [Z3]
 have F:=True.intro
 dsimp only [Z2q] at h
 refine rs0 ?_
 iterate 2 refine vp ?_
 refine vn ?_
 refine rs0 ?_
 refine vp ?_
 obtain ⟨rc,hr38629,h⟩:=obind h
 refine vc (Z72 hr38629) ?_
 refine vp ?_
 refine vn ?_
 refine Wp.seq ?_
 refine rs0 ?_
 iterate 2 refine vp ?_
 obtain ⟨rd,hr38633,h⟩:=obind h
 refine vc (Z30 hr38633) ?_
 refine vp ?_
 refine vn ?_
 refine sB h F (fun F h=>?_) fun F h=>?_
 refine cF ?_
 refine Wp.skip ?_
 refine sh ?_
 refine rs (fun d=>Nat.beq d 22) ?_
 iterate 2 refine vp ?_
 refine nl cS h F fun lf m F h=>?_
 try simp only [m]
 clear m
 refine vp ?_
 refine vn ?_
 refine jn (fun lg:List Str=>{ ch:=[(7,aL cS rc),(8,.sl 0 0 lg.length)],hp:=[.arr 1 lg.length (rw (lg.map cS))],base:=0,n:=94,cond:=True,gl:=G0 }) (fun x=>Z5F n rc x = some r) ?_ ?_
 clear h
 rintro lg h
 dsimp only [Z5F] at h
 try dsimp only
 refine rs0 ?_
 refine vp ?_
 refine vn ?_
 refine Wp.seq ?_
 refine rs0 ?_
 refine vp ?_
 refine vn ?_
 refine Wp.block ?_
 refine lp [some 0,none] (fun x:(List Str) × Int=>{ ch:=[(7,aL cS rc),(8,.sl 0 0 lg.length),(13,.sl 1 0 x.1.length),(14,.int .i64 x.2)],hp:=[.arr 1 lg.length (rw (lg.map cS)),.arr 1 x.1.length (rw (x.1.map cS))],base:=0,n:=94,cond:=True,gl:=G0 }) (fun m x=>Z2O n rc lg m x.1 x.2 = some r) n ([],0) h ?_
 rintro rh ⟨pi,pj⟩ h
 dsimp only [Z2O] at h
 try dsimp only
 refine Wp.seq ?_
 refine rs0 ?_
 iterate 4 refine vp ?_
 refine vn ?_
 refine sD h F (fun F h=>?_) fun F h=>?_
 refine cF ?_
 refine Wp.exit ?_
 refine sh ?_
 refine rs0 ?_
 iterate 2 refine vp ?_
 refine vn ?_
 cases h
 exact Wp.ret en0
 refine cT ?_
 refine Wp.skip ?_
 refine sh ?_
 refine Wp.seq ?_
 refine Wp.block ?_
 refine rs0 ?_
 iterate 3 refine vp ?_
 refine eI h F fun xk F h=>?_
 iterate 2 refine vp ?_
 obtain ⟨rm,hr38728,h⟩:=obind h
 refine vc (Z30 hr38728) ?_
 refine vn ?_
 refine sB h F (fun F h=>?_) fun F h=>?_
 refine cF ?_
 refine Wp.skip ?_
 refine sh ?_
 refine rg0 ?_
 iterate 3 refine vp ?_
 refine vn ?_
 exact nx [some 0,some 1] (pi,(IntKind.i64.wrap (pj + 1))) h
 refine cT ?_
 refine rg (fun d=>Nat.beq d 92) ?_
 iterate 6 refine vp ?_
 refine gd h F fun F h=>?_
 refine vp ?_
 refine nm cS h F fun ln F h=>?_
 refine vp ?_
 refine vn ?_
 refine sh ?_
 refine rg0 ?_
 iterate 3 refine vp ?_
 refine vn ?_
 exact nx [some 0,some 2] (ln,(IntKind.i64.wrap (pj + 1))) h
 refine rs0 ?_
 refine vp ?_
 refine vn ?_
 refine Wp.block ?_
 refine lp [some 0,some 1] (fun x:Int × (List Str)=>{ ch:=[(2,.bool a2),(3,.hptr 0 0 0),(7,aL cS rc),(8,.sl 1 0 x.2.length),(9,.int .i64 x.1)],hp:=[.var [.str ab.Label,aL Z0 ab.Contacts,aL Z4 ab.Coils,.str ab.Jump],.arr 1 x.2.length (rw (x.2.map cS))],base:=0,n:=94,cond:=True,gl:=G0 }) (fun m x=>Z1Z n ab a2 rc m x.1 x.2 = some r) n (0,lf) h ?_
 rintro rp ⟨pq,lr⟩ h
 dsimp only [Z1Z] at h
 try dsimp only
 refine Wp.seq ?_
 refine rs0 ?_
 iterate 4 refine vp ?_
 refine vn ?_
 refine sD h F (fun F h=>?_) fun F h=>?_
 refine cF ?_
 refine Wp.exit ?_
 exact nx [some 1] lr h
 refine cT ?_
 refine Wp.skip ?_
 refine sh ?_
 refine Wp.seq ?_
 refine Wp.block ?_
 refine rs0 ?_
 refine vp ?_
 refine vn ?_
 refine Wp.block ?_
 refine lp [some 0,some 1] (fun x:Int × (List Str)=>{ ch:=[(2,.bool a2),(3,.hptr 0 0 0),(7,aL cS rc),(8,.sl 1 0 x.2.length),(9,.int .i64 pq),(10,.int .i64 x.1)],hp:=[.var [.str ab.Label,aL Z0 ab.Contacts,aL Z4 ab.Coils,.str ab.Jump],.arr 1 x.2.length (rw (x.2.map cS))],base:=0,n:=94,cond:=True,gl:=G0 }) (fun m x=>Z1C n ab a2 pq (Z1Z n ab a2 rc rp) m x.1 x.2 = some r) n (0,lr) h ?_
 rintro rt ⟨pu,lA⟩ h
 dsimp only [Z1C] at h
 try dsimp only
 refine Wp.seq ?_
 refine rs0 ?_
 iterate 5 refine vp ?_
 refine vn ?_
 refine sD h F (fun F h=>?_) fun F h=>?_
 refine cF ?_
 refine Wp.exit ?_
 refine sh ?_
 refine rg0 ?_
 iterate 3 refine vp ?_
 refine vn ?_
 exact nx [some 0,some 1] ((IntKind.i64.wrap (pq + 1)),lA) h
 refine cT ?_
 refine Wp.skip ?_
 refine sh ?_
 refine Wp.seq ?_
 refine Wp.block ?_
 refine rs0 ?_
 iterate 3 refine vp ?_
 refine eI h F fun xB F h=>?_
 iterate 4 refine vp ?_
 refine vn ?_
 refine rs0 ?_
 iterate 7 refine vp ?_
 refine vn ?_
 refine jn (fun x:Str × Str=>{ ch:=[(2,.bool a2),(3,.hptr 0 0 0),(7,aL cS rc),(8,.sl 1 0 lA.length),(9,.int .i64 pq),(10,.int .i64 pu),(11,.str x.1),(12,.str x.2)],hp:=[.var [.str ab.Label,aL Z0 ab.Contacts,aL Z4 ab.Coils,.str ab.Jump],.arr 1 lA.length (rw (lA.map cS))],base:=0,n:=94,cond:=True,gl:=G0 }) (fun x=>Z3F n pu lA (Z1C n ab a2 pq (Z1Z n ab a2 rc rp) rt) x.1 x.2 = some r) ?_ ?_
 clear h
 rintro ⟨pC,pD⟩ h
 dsimp only [Z3F] at h
 try dsimp only
 refine rs0 ?_
 iterate 2 refine vp ?_
 obtain ⟨rE,hr38806,h⟩:=obind h
 refine vc (Z30 hr38806) ?_
 refine vp ?_
 refine sB h F (fun F h=>?_) fun F h=>?_
 refine vs ?_
 refine vs ?_
 refine vs ?_
 refine vs ?_
 refine vp ?_
 refine vn ?_
 refine cF ?_
 refine Wp.skip ?_
 refine sh ?_
 refine rg0 ?_
 iterate 3 refine vp ?_
 refine vn ?_
 exact nx [some 0,some 1] ((IntKind.i64.wrap (pu + 1)),lA) h
 refine vg ?_
 refine vg ?_
 obtain ⟨rF,hr38808,h⟩:=obind h
 refine vc (Z30 hr38808) ?_ (hg:=by (simp [F]; done))
 refine vg ?_
 refine vp ?_
 refine vn ?_
 refine sB h F (fun F h=>?_) fun F h=>?_
 refine cF ?_
 refine Wp.skip ?_
 refine sh ?_
 refine rg0 ?_
 iterate 3 refine vp ?_
 refine vn ?_
 exact nx [some 0,some 1] ((IntKind.i64.wrap (pu + 1)),lA) h
 refine cT ?_
 refine rg0 ?_
 iterate 3 refine vp ?_
 refine gd h F fun F h=>?_
 refine vp ?_
 refine nm cS h F fun lG F h=>?_
 refine vp ?_
 refine vn ?_
 refine sh ?_
 refine rg0 ?_
 iterate 3 refine vp ?_
 refine vn ?_
 exact nx [some 0,some 2] ((IntKind.i64.wrap (pu + 1)),lG) h
 refine rs0 ?_
 refine vp ?_
 refine vn ?_
 refine sB h F (fun F h=>?_) fun F h=>?_
 refine cF ?_
 refine Wp.skip ?_
 exact nx [some 0,some 1] (xB.From,xB.To) h
 refine cT ?_
 refine rs0 ?_
 iterate 7 refine vp ?_
 refine vn ?_
 refine rg0 ?_
 iterate 7 refine vp ?_
 refine vn ?_
 exact nx [some 0,some 1] (xB.To,xB.From) h
 refine cT ?_
 refine rs0 ?_
 refine vp ?_
 refine vn ?_
 cases h
 exact Wp.ret en0
theorem ZaO {n:Nat} {s0:ApiSize} {r_1:ApiRung} {r:Int} (h:Z50 n s0 r_1 = some r):Con Tryz.prog G0 158 [.agg (Z4l s0),.agg (Z7 r_1)] (.int .i64 r) []:=by
 refine Za (T:=TT0) tt_ok Tryz.func158 (c:=_) (by unfold Tryz.f158; rfl) Tryz.ntmps158 (rs:=[.tmp 4]) (by rw [Tryz.results158]) (by unfold Tryz.f158; rfl) (by simp) ?_
 simp only [Z3]
 have F:=True.intro
 dsimp only [Z50] at h
 refine rs0 ?_
 iterate 3 refine vp ?_
 refine vn ?_
 refine Wp.seq ?_
 refine rs0 ?_
 iterate 4 refine vp ?_
 refine vn ?_
 refine sD h F (fun F h=>?_) fun F h=>?_
 refine cF ?_
 refine Wp.skip ?_
 refine sh ?_
 refine Wp.seq ?_
 refine rs0 ?_
 refine vp ?_
 refine vn ?_
 refine Wp.block ?_
 refine lp [some 0,some 1] (fun pH:Int=>{ ch:=[(2,.hptr 0 0 0),(3,.hptr 1 0 0),(5,.int .i64 pH)],hp:=[.var [.int .i64 s0.I,.int .i64 s0.Q,.int .i64 s0.M,.int .i64 s0.E],.var [.str r_1.Label,aL Z0 r_1.Contacts,aL Z4 r_1.Coils,.str r_1.Jump]],base:=0,n:=49,cond:=True,gl:=G0 }) (fun m x=>Z2X n s0 r_1 m x = some r) n 0 h ?_
 rintro rI pH h
 dsimp only [Z2X] at h
 try dsimp only
 refine Wp.seq ?_
 refine rs0 ?_
 iterate 5 refine vp ?_
 refine vn ?_
 refine sD h F (fun F h=>?_) fun F h=>?_
 refine cF ?_
 refine Wp.exit ?_
 refine sh ?_
 refine rs0 ?_
 refine vp ?_
 refine vn ?_
 cases h
 exact Wp.ret en0
 refine cT ?_
 refine Wp.skip ?_
 refine sh ?_
 refine Wp.seq ?_
 refine Wp.block ?_
 refine rs0 ?_
 iterate 3 refine vp ?_
 refine eI h F fun xJ F h=>?_
 iterate 4 refine vp ?_
 refine vn ?_
 refine Wp.seq ?_
 refine rs0 ?_
 iterate 4 refine vp ?_
 refine sD h F (fun F h=>?_) fun F h=>?_
 refine vg ?_
 refine vg ?_
 refine vg ?_
 refine vp ?_
 refine vn ?_
 refine sD h F (fun F h=>?_) fun F h=>?_
 refine cF ?_
 refine Wp.skip ?_
 refine sh ?_
 refine rs0 ?_
 iterate 3 refine vp ?_
 obtain ⟨rK,hr34919,h⟩:=obind h
 refine vc (Z7o hr34919) ?_
 refine vp ?_
 refine vn ?_
 refine Wp.seq ?_
 refine rs0 ?_
 iterate 2 refine vp ?_
 refine vn ?_
 refine sB h F (fun F h=>?_) fun F h=>?_
 refine cF ?_
 refine Wp.skip ?_
 refine sh ?_
 refine rs0 ?_
 iterate 2 refine vp ?_
 obtain ⟨rL,hr34921,h⟩:=obind h
 refine vc (Z56 hr34921) ?_
 iterate 2 refine vp ?_
 refine sB h F (fun F h=>?_) fun F h=>?_
 refine vg ?_
 refine vg ?_
 obtain ⟨rM,hr34923,h⟩:=obind h
 refine vc (Z56 hr34923) ?_ (hg:=by (simp [F]; done))
 refine vg ?_
 refine vp ?_
 refine vn ?_
 refine sB h F (fun F h=>?_) fun F h=>?_
 refine cF ?_
 refine Wp.skip ?_
 refine sh ?_
 refine rg0 ?_
 iterate 3 refine vp ?_
 refine vn ?_
 exact nx [some 0,some 1] (IntKind.i64.wrap (pH + 1)) h
 refine cT ?_
 refine rs0 ?_
 refine vp ?_
 refine vn ?_
 cases h
 exact Wp.ret en0
 refine vs ?_
 refine vs ?_
 refine vs ?_
 refine vs ?_
 refine vp ?_
 refine vn ?_
 refine cT ?_
 refine rs0 ?_
 refine vp ?_
 refine vn ?_
 cases h
 exact Wp.ret en0
 refine cT ?_
 refine rs0 ?_
 iterate 2 refine vp ?_
 refine vn ?_
 cases h
 exact Wp.ret en0
 refine cT ?_
 refine rs0 ?_
 refine vp ?_
 refine vn ?_
 cases h
 exact Wp.ret en0
 refine vs ?_
 refine vs ?_
 refine vs ?_
 refine vp ?_
 refine vn ?_
 refine cT ?_
 refine rs0 ?_
 refine vp ?_
 refine vn ?_
 cases h
 exact Wp.ret en0
 refine cT ?_
 refine rs0 ?_
 refine vp ?_
 refine vn ?_
 cases h
 exact Wp.ret en0
theorem Ze7 {n:Nat} {s0:ApiSize} {r_1:ApiRung} {r:Int} (h:Z6r n s0 r_1 = some r):Con Tryz.prog G0 159 [.agg (Z4l s0),.agg (Z7 r_1)] (.int .i64 r) []:=by
 refine Za (T:=TT0) tt_ok Tryz.func159 (c:=_) (by unfold Tryz.f159; rfl) Tryz.ntmps159 (rs:=[.tmp 4]) (by rw [Tryz.results159]) (by unfold Tryz.f159; rfl) (by simp) ?_
 simp only [Z3]
 have F:=True.intro
 dsimp only [Z6r] at h
 refine rs0 ?_
 iterate 3 refine vp ?_
 refine vn ?_
 refine Wp.seq ?_
 refine rs0 ?_
 iterate 4 refine vp ?_
 refine vn ?_
 refine sD h F (fun F h=>?_) fun F h=>?_
 refine cF ?_
 refine Wp.skip ?_
 refine sh ?_
 refine Wp.seq ?_
 refine rs0 ?_
 refine vp ?_
 refine vn ?_
 refine Wp.block ?_
 refine lp [some 0,some 1] (fun pN:Int=>{ ch:=[(2,.hptr 0 0 0),(3,.hptr 1 0 0),(5,.int .i64 pN)],hp:=[.var [.int .i64 s0.I,.int .i64 s0.Q,.int .i64 s0.M,.int .i64 s0.E],.var [.str r_1.Label,aL Z0 r_1.Contacts,aL Z4 r_1.Coils,.str r_1.Jump]],base:=0,n:=43,cond:=True,gl:=G0 }) (fun m x=>Z47 n s0 r_1 m x = some r) n 0 h ?_
 rintro rI pN h
 dsimp only [Z47] at h
 try dsimp only
 refine Wp.seq ?_
 refine rs0 ?_
 iterate 5 refine vp ?_
 refine vn ?_
 refine sD h F (fun F h=>?_) fun F h=>?_
 refine cF ?_
 refine Wp.exit ?_
 refine sh ?_
 refine rs0 ?_
 refine vp ?_
 refine vn ?_
 cases h
 exact Wp.ret en0
 refine cT ?_
 refine Wp.skip ?_
 refine sh ?_
 refine Wp.seq ?_
 refine Wp.block ?_
 refine rs0 ?_
 iterate 3 refine vp ?_
 refine eI h F fun xO F h=>?_
 iterate 4 refine vp ?_
 refine vn ?_
 refine Wp.seq ?_
 refine rs0 ?_
 iterate 4 refine vp ?_
 refine sD h F (fun F h=>?_) fun F h=>?_
 refine vg ?_
 refine vg ?_
 refine vg ?_
 refine vp ?_
 refine vn ?_
 refine sD h F (fun F h=>?_) fun F h=>?_
 refine cF ?_
 refine Wp.skip ?_
 refine sh ?_
 refine rs0 ?_
 iterate 3 refine vp ?_
 obtain ⟨rP,hr34935,h⟩:=obind h
 refine vc (Z7o hr34935) ?_
 refine vp ?_
 refine vn ?_
 refine Wp.seq ?_
 refine rs0 ?_
 iterate 2 refine vp ?_
 refine vn ?_
 refine sB h F (fun F h=>?_) fun F h=>?_
 refine cF ?_
 refine Wp.skip ?_
 refine sh ?_
 refine rs0 ?_
 iterate 4 refine vp ?_
 refine vn ?_
 refine sB h F (fun F h=>?_) fun F h=>?_
 refine cF ?_
 refine Wp.skip ?_
 refine sh ?_
 refine rg0 ?_
 iterate 3 refine vp ?_
 refine vn ?_
 exact nx [some 0,some 1] (IntKind.i64.wrap (pN + 1)) h
 refine cT ?_
 refine rs0 ?_
 refine vp ?_
 refine vn ?_
 cases h
 exact Wp.ret en0
 refine cT ?_
 refine rs0 ?_
 iterate 2 refine vp ?_
 refine vn ?_
 cases h
 exact Wp.ret en0
 refine cT ?_
 refine rs0 ?_
 refine vp ?_
 refine vn ?_
 cases h
 exact Wp.ret en0
 refine vs ?_
 refine vs ?_
 refine vs ?_
 refine vp ?_
 refine vn ?_
 refine cT ?_
 refine rs0 ?_
 refine vp ?_
 refine vn ?_
 cases h
 exact Wp.ret en0
 refine cT ?_
 refine rs0 ?_
 refine vp ?_
 refine vn ?_
 cases h
 exact Wp.ret en0
theorem Z6E {n:Nat} {s0:List Int} {m1:List (Str × Bool)} {b2:ApiRung} {r:Bool} (h:Z1y n s0 m1 b2 = some r):ConH Tryz.prog G0 100 [aL (cI .i64) s0,.clos 102 [] [.hptr 0 0 0,.hptr 2 0 0]] [.var [.mp 1],.map (mAV AV.str cB m1),.var [.str b2.Label,aL Z0 b2.Contacts,aL Z4 b2.Coils,.str b2.Jump]] (.bool r) [.var [.mp 1],.map (mAV AV.str cB m1),.var [.str b2.Label,aL Z0 b2.Contacts,aL Z4 b2.Coils,.str b2.Jump]]:=by
 refine ZA (T:=TT0) tt_ok Tryz.func100 (c:=_) (by unfold Tryz.f100; rfl) Tryz.ntmps100 (rs:=[.tmp 4]) (by rw [Tryz.results100]) (by unfold Tryz.f100; rfl) (by simp) (k:=3) rfl rfl ?_
 try simp only [Z3]
 have F:=True.intro
 dsimp only [Z1y] at h
 refine rs0 ?_
 refine vp ?_
 refine vn ?_
 refine rs0 ?_
 iterate 2 refine vp ?_
 obtain ⟨rQ,hr13235,h⟩:=obind h
 refine vh [0,1,2] (Z7n hr13235) ?_
 iterate 2 refine vp ?_
 refine vn ?_
 cases h
 exact Wp.ret (enH [some 0,some 1,some 2])
theorem Z5K {n:Nat} {s0:List ApiRung} {b0:ApiRung} {r:Bool} (h:Z18 n s0 b0 = some r):ConH Tryz.prog G0 121 [aL Z7 s0,.clos 122 [] [.hptr 0 0 0]] [.var [.str b0.Label,aL Z0 b0.Contacts,aL Z4 b0.Coils,.str b0.Jump]] (.bool r) [.var [.str b0.Label,aL Z0 b0.Contacts,aL Z4 b0.Coils,.str b0.Jump]]:=by
 refine ZA (T:=TT0) tt_ok Tryz.func121 (c:=_) (by unfold Tryz.f121; rfl) Tryz.ntmps121 (rs:=[.tmp 4]) (by rw [Tryz.results121]) (by unfold Tryz.f121; rfl) (by simp) (k:=1) rfl rfl ?_
 try simp only [Z3]
 have F:=True.intro
 dsimp only [Z18] at h
 refine rs0 ?_
 refine vp ?_
 refine vn ?_
 refine rs0 ?_
 iterate 2 refine vp ?_
 obtain ⟨rR,hr10897,h⟩:=obind h
 refine vh [0] (Z6i hr10897) ?_
 iterate 2 refine vp ?_
 refine vn ?_
 cases h
 exact Wp.ret (enH [some 0])
theorem Zbf {n:Nat} {r_0:ApiRung} {node1:Str} {r:(List Int)} (h:Z2A n r_0 node1 = some r):Con Tryz.prog G0 137 [.agg (Z7 r_0),.str node1] (aL (cI .i64) r) []:=by
 refine Za (T:=TT0) tt_ok Tryz.func137 (c:=_) (by unfold Tryz.f137; rfl) Tryz.ntmps137 (rs:=[.tmp 4]) (by rw [Tryz.results137]) (by unfold Tryz.f137; rfl) (by simp) ?_
 simp only [Z3]
 have F:=True.intro
 dsimp only [Z2A] at h
 refine rs0 ?_
 iterate 3 refine vp ?_
 refine vn ?_
 refine rs0 ?_
 iterate 2 refine vp ?_
 obtain ⟨rS,hr14283,h⟩:=obind h
 refine vh [1] (Z9d hr14283) ?_
 refine vp ?_
 refine vn ?_
 cases h
 exact Wp.ret en0
end Go.Proofs.YtaebdeidbibfkaaGreatDoor
