/- Contracts: models of functions are right. No law is proved here. -/
import Derived.Test.YtaebdeidbibfkaaGreatDoorIGH
import Derived.Test.YtaebdeidbibfkaaGreatDoorIGC1
import Derived.Test.YtaebdeidbibfkaaGreatDoorIGC2
import Derived.Test.YtaebdeidbibfkaaGreatDoorIGC3
namespace Go.Proofs.YtaebdeidbibfkaaGreatDoor
open Go.Av Go.G
attribute [-simp] Int.natCast_tdiv_eq_ediv
attribute [local congr] Zx ZE Zy
variable [Drawn]
set_option maxHeartbeats 4000000
set_option linter.unusedSectionVars false
set_option maxRecDepth 20000
set_option linter.unusedSimpArgs false
set_option linter.unusedVariables false
theorem Z56 {n:Nat} {w_0:Str} {r:Bool} (h:Z3y n w_0 = some r):Con Tryz.prog G0 157 [.str w_0] (.bool r) []:=by
 refine Za (T:=TT0) tt_ok Tryz.func157 (c:=_) (by unfold Tryz.f157; rfl) Tryz.ntmps157 (rs:=[.tmp 2]) (by rw [Tryz.results157]) (by unfold Tryz.f157; rfl) (by simp) ?_
 simp only [Z3]
 have F:=True.intro
 dsimp only [Z3y] at h
 refine rs0 ?_
 refine vp ?_
 refine vn ?_
 refine Wp.seq ?_
 refine rs0 ?_
 iterate 3 refine vp ?_
 refine sE h F (fun _ F h=>?_) fun _ F h=>?_
 refine vg ?_
 refine vg ?_
 refine vg ?_
 iterate 2 refine vp ?_
 refine sD h F (fun F h=>?_) fun F h=>?_
 refine vg ?_
 refine eTN (m:=0) h F fun ba F h=>?_
 refine vg ?_
 obtain ⟨rb,hr34872,h⟩:=obind h
 refine vc (Z8r hr34872) ?_ (hg:=by (simp [F]; done))
 refine vg ?_
 refine vp ?_
 refine vn ?_
 refine sB h F (fun F h=>?_) fun F h=>?_
 refine cF ?_
 refine Wp.skip ?_
 refine sh ?_
 refine Wp.seq ?_
 refine rs0 ?_
 refine vp ?_
 refine vn ?_
 refine Wp.block ?_
 refine lp [] (fun pd:Int=>{ ch:=[(0,.str w_0),(3,.int .i64 pd)],hp:=[],base:=0,n:=46,cond:=True,gl:=G0 }) (fun m x=>Z2j n w_0 m x = some r) n 0 h ?_
 rintro re pd h
 dsimp only [Z2j] at h
 try dsimp only
 refine Wp.seq ?_
 refine rs0 ?_
 iterate 4 refine vp ?_
 refine vn ?_
 refine sD h F (fun F h=>?_) fun F h=>?_
 refine cF ?_
 refine Wp.exit ?_
 refine sh ?_
 refine rs0 ?_
 refine vp ?_
 refine vn ?_
 cases h
 exact Wp.ret en0
 refine cT ?_
 refine Wp.skip ?_
 refine sh ?_
 refine Wp.seq ?_
 refine Wp.block ?_
 refine rs0 ?_
 iterate 2 refine vp ?_
 refine eT h F fun bf F h=>?_
 refine vp ?_
 obtain ⟨rh,hr34888,h⟩:=obind h
 refine vc (Z8r hr34888) ?_
 iterate 2 refine vp ?_
 refine sB h F (fun F h=>?_) fun F h=>?_
 refine vs ?_
 refine vs ?_
 refine vs ?_
 refine vs ?_
 iterate 2 refine vp ?_
 refine vs ?_
 refine vs ?_
 refine vs ?_
 refine vs ?_
 refine vs ?_
 refine vs ?_
 refine vs ?_
 refine vs ?_
 refine vs ?_
 refine vs ?_
 refine vp ?_
 refine vn ?_
 refine cF ?_
 refine Wp.skip ?_
 refine sh ?_
 refine rg0 ?_
 iterate 3 refine vp ?_
 refine vn ?_
 exact nx [] (IntKind.i64.wrap (pd + 1)) h
 refine vg ?_
 refine vg ?_
 refine eT h F fun bi F h=>?_
 refine vg ?_
 refine vg ?_
 iterate 2 refine vp ?_
 refine sB h F (fun F h=>?_) fun F h=>?_
 refine vs ?_
 refine vs ?_
 refine vs ?_
 refine vs ?_
 refine vs ?_
 refine vs ?_
 refine vs ?_
 refine vs ?_
 refine vs ?_
 refine vs ?_
 refine vp ?_
 refine vn ?_
 refine cF ?_
 refine Wp.skip ?_
 refine sh ?_
 refine rg0 ?_
 iterate 3 refine vp ?_
 refine vn ?_
 exact nx [] (IntKind.i64.wrap (pd + 1)) h
 refine vg ?_
 refine vg ?_
 refine eT h F fun bj F h=>?_
 refine vg ?_
 refine vg ?_
 refine vg ?_
 refine sD h F (fun F h=>?_) fun F h=>?_
 refine vg ?_
 refine vg ?_
 refine eT h F fun bk F h=>?_
 refine vg ?_
 refine vg ?_
 refine vg ?_
 refine vp ?_
 refine vn ?_
 refine sD h F (fun F h=>?_) fun F h=>?_
 refine cF ?_
 refine Wp.skip ?_
 refine sh ?_
 refine rg0 ?_
 iterate 3 refine vp ?_
 refine vn ?_
 exact nx [] (IntKind.i64.wrap (pd + 1)) h
 refine cT ?_
 refine rs0 ?_
 refine vp ?_
 refine vn ?_
 cases h
 exact Wp.ret en0
 refine vs ?_
 refine vs ?_
 refine vs ?_
 refine vs ?_
 refine vg ?_
 refine vp ?_
 refine vn ?_
 refine cT ?_
 refine rs0 ?_
 refine vp ?_
 refine vn ?_
 cases h
 exact Wp.ret en0
 refine cT ?_
 refine rs0 ?_
 refine vp ?_
 refine vn ?_
 cases h
 exact Wp.ret en0
 refine vs ?_
 refine vs ?_
 refine vs ?_
 refine vs ?_
 refine vp ?_
 refine vn ?_
 refine cT ?_
 refine rs0 ?_
 refine vp ?_
 refine vn ?_
 cases h
 exact Wp.ret en0
 refine vs ?_
 refine vs ?_
 refine vs ?_
 iterate 2 refine vp ?_
 refine vs ?_
 refine vs ?_
 refine vs ?_
 refine vs ?_
 refine vp ?_
 refine vn ?_
 refine cT ?_
 refine rs0 ?_
 refine vp ?_
 refine vn ?_
 cases h
 exact Wp.ret en0
theorem Z66 {n:Nat} {word0:Str} {r:Bool} (h:Z4B n word0 = some r):Con Tryz.prog G0 152 [.str word0] (.bool r) []:=by
 refine Za (T:=TT0) tt_ok Tryz.func152 (c:=_) (by unfold Tryz.f152; rfl) Tryz.ntmps152 (rs:=[.tmp 2]) (by rw [Tryz.results152]) (by unfold Tryz.f152; rfl) (by simp) ?_
 simp only [Z3]
 have F:=True.intro
 dsimp only [Z4B] at h
 refine rs0 ?_
 refine vp ?_
 refine vn ?_
 refine Wp.seq ?_
 refine rs0 ?_
 iterate 3 refine vp ?_
 refine sE h F (fun _ F h=>?_) fun _ F h=>?_
 refine vg ?_
 refine vg ?_
 refine vg ?_
 refine vp ?_
 refine vn ?_
 refine sD h F (fun F h=>?_) fun F h=>?_
 refine cF ?_
 refine Wp.skip ?_
 refine sh ?_
 refine Wp.seq ?_
 refine rs0 ?_
 iterate 2 refine vp ?_
 refine vn ?_
 refine Wp.block ?_
 refine lp [some 0] (fun pm:Nat=>{ ch:=[(13,.hptr 0 0 0)],hp:=[.siter word0 pm],base:=0,n:=37,cond:=True,gl:=G0 }) (fun m x=>Z1L n word0 m x = some r) n 0 h ?_
 rintro re pm h
 dsimp only [Z1L] at h
 try dsimp only
 refine rs0 ?_
 refine sD h F (fun F h=>?_) fun F h=>?_
 refine v0 ?_
 refine vp ?_
 refine vn ?_
 refine Wp.seq ?_
 refine cF ?_
 refine Wp.exit ?_
 refine sh ?_
 refine rs0 ?_
 refine vp ?_
 refine vn ?_
 cases h
 exact Wp.ret en0
 refine v1 ?_
 refine vp ?_
 refine vn ?_
 refine Wp.seq ?_
 refine cT ?_
 refine Wp.skip ?_
 refine sh ?_
 refine Wp.block ?_
 refine rs0 ?_
 iterate 4 refine vp ?_
 refine vn ?_
 refine rs0 ?_
 refine vp ?_
 obtain ⟨rn,hr10742,h⟩:=obind h
 refine vc (Zek hr10742) ?_
 iterate 2 refine vp ?_
 refine sB h F (fun F h=>?_) fun F h=>?_
 refine vs ?_
 refine vs ?_
 refine vs ?_
 refine vs ?_
 refine vs ?_
 refine vs ?_
 refine vs ?_
 refine vs ?_
 refine vs ?_
 refine vs ?_
 refine vs ?_
 refine vs ?_
 refine vs ?_
 refine vs ?_
 refine vp ?_
 refine vn ?_
 refine cF ?_
 refine Wp.skip ?_
 exact nx [some 0] (pm + (Utf8.decode word0 pm).2) h
 refine vg ?_
 refine vg ?_
 refine vg ?_
 refine sB h F (fun F h=>?_) fun F h=>?_
 refine vg ?_
 refine vg ?_
 refine vg ?_
 refine sB h F (fun F h=>?_) fun F h=>?_
 refine vs ?_
 refine vs ?_
 refine vs ?_
 refine vs ?_
 refine vs ?_
 refine vs ?_
 refine vg ?_
 refine vg ?_
 refine vp ?_
 refine vn ?_
 refine cF ?_
 refine Wp.skip ?_
 exact nx [some 0] (pm + (Utf8.decode word0 pm).2) h
 refine vg ?_
 refine vg ?_
 refine vg ?_
 refine sD h F (fun F h=>?_) fun F h=>?_
 refine vg ?_
 refine vg ?_
 refine vg ?_
 refine vg ?_
 refine vg ?_
 refine vp ?_
 refine vn ?_
 refine sD h F (fun F h=>?_) fun F h=>?_
 refine cF ?_
 refine Wp.skip ?_
 exact nx [some 0] (pm + (Utf8.decode word0 pm).2) h
 refine cT ?_
 refine rs0 ?_
 refine vp ?_
 refine vn ?_
 cases h
 exact Wp.ret en0
 refine vs ?_
 refine vs ?_
 refine vg ?_
 refine vg ?_
 refine vg ?_
 refine vp ?_
 refine vn ?_
 refine cT ?_
 refine rs0 ?_
 refine vp ?_
 refine vn ?_
 cases h
 exact Wp.ret en0
 refine vs ?_
 refine vs ?_
 refine vs ?_
 refine vs ?_
 refine vs ?_
 refine vs ?_
 refine vs ?_
 refine vs ?_
 refine vs ?_
 refine vs ?_
 refine vg ?_
 refine vp ?_
 refine vn ?_
 refine cT ?_
 refine rs0 ?_
 refine vp ?_
 refine vn ?_
 cases h
 exact Wp.ret en0
 refine cT ?_
 refine rs0 ?_
 refine vp ?_
 refine vn ?_
 cases h
 exact Wp.ret en0
 refine vs ?_
 refine vs ?_
 refine vs ?_
 refine vp ?_
 refine vn ?_
 refine cT ?_
 refine rs0 ?_
 refine vp ?_
 refine vn ?_
 cases h
 exact Wp.ret en0
theorem Z72 {n:Nat} {r_0:ApiRung} {r:(List Str)} (h:Z4J n r_0 = some r):Con Tryz.prog G0 112 [.agg (Z7 r_0)] (aL cS r) []:=by
 refine Za (T:=TT0) tt_ok Tryz.func112 (c:=_) (by unfold Tryz.f112; rfl) Tryz.ntmps112 (rs:=[.tmp 2]) (by rw [Tryz.results112]) (by unfold Tryz.f112; rfl) (by simp) ?_
 simp only [Z3]
 have F:=True.intro
 dsimp only [Z4J] at h
 refine rs0 ?_
 iterate 2 refine vp ?_
 refine vn ?_
 refine rs (fun d=>Nat.beq d 5) ?_
 refine vp ?_
 refine nl cS h F fun lq m F h=>?_
 try simp only [m]
 clear m
 refine vp ?_
 refine vn ?_
 refine Wp.seq ?_
 refine rs0 ?_
 refine vp ?_
 refine vn ?_
 refine Wp.block ?_
 refine lp [some 0,some 1] (fun x:(List Str) × Int=>{ ch:=[(1,.hptr 0 0 0),(3,.sl 1 0 x.1.length),(4,.int .i64 x.2)],hp:=[.var [.str r_0.Label,aL Z0 r_0.Contacts,aL Z4 r_0.Coils,.str r_0.Jump],.arr 1 x.1.length (rw (x.1.map cS))],base:=0,n:=50,cond:=True,gl:=G0 }) (fun m x=>Z1O n r_0 m x.1 x.2 = some r) n (lq,0) h ?_
 rintro re ⟨lr,pt⟩ h
 dsimp only [Z1O] at h
 try dsimp only
 refine Wp.seq ?_
 refine rs0 ?_
 iterate 5 refine vp ?_
 refine vn ?_
 refine sD h F (fun F h=>?_) fun F h=>?_
 refine cF ?_
 refine Wp.exit ?_
 refine sh ?_
 refine rs0 ?_
 iterate 2 refine vp ?_
 refine vn ?_
 cases h
 exact Wp.ret en0
 refine cT ?_
 refine Wp.skip ?_
 refine sh ?_
 refine Wp.seq ?_
 refine Wp.block ?_
 refine jn (fun lu:List Str=>{ ch:=[(1,.hptr 0 0 0),(3,.sl 1 0 lu.length),(4,.int .i64 pt)],hp:=[.var [.str r_0.Label,aL Z0 r_0.Contacts,aL Z4 r_0.Coils,.str r_0.Jump],.arr 1 lu.length (rw (lu.map cS))],base:=0,n:=50,cond:=True,gl:=G0 }) (fun x=>Z45 n r_0 pt (Z1O n r_0 re) x = some r) ?_ ?_
 clear h
 rintro lu h
 dsimp only [Z45] at h
 try dsimp only
 refine rs0 ?_
 iterate 4 refine vp ?_
 refine eI h F fun xv F h=>?_
 iterate 3 refine vp ?_
 obtain ⟨rz,hr37841,h⟩:=obind h
 refine vc (Z30 hr37841) ?_
 refine vp ?_
 refine vn ?_
 refine sB h F (fun F h=>?_) fun F h=>?_
 refine cF ?_
 refine Wp.skip ?_
 refine sh ?_
 refine rg0 ?_
 iterate 3 refine vp ?_
 refine vn ?_
 exact nx [some 0,some 1] (lu,(IntKind.i64.wrap (pt + 1))) h
 refine cT ?_
 refine rg0 ?_
 iterate 8 refine vp ?_
 refine gd h F fun F h=>?_
 refine vp ?_
 refine nm cS h F fun lA F h=>?_
 refine vp ?_
 refine vn ?_
 refine sh ?_
 refine rg0 ?_
 iterate 3 refine vp ?_
 refine vn ?_
 exact nx [some 0,some 2] (lA,(IntKind.i64.wrap (pt + 1))) h
 refine rs0 ?_
 iterate 4 refine vp ?_
 refine eI h F fun xB F h=>?_
 iterate 3 refine vp ?_
 obtain ⟨rC,hr37845,h⟩:=obind h
 refine vc (Z30 hr37845) ?_
 refine vp ?_
 refine vn ?_
 refine sB h F (fun F h=>?_) fun F h=>?_
 refine cF ?_
 refine Wp.skip ?_
 exact nx [some 0,some 1] lr h
 refine cT ?_
 refine rg0 ?_
 iterate 8 refine vp ?_
 refine gd h F fun F h=>?_
 refine vp ?_
 refine nm cS h F fun lD F h=>?_
 refine vp ?_
 refine vn ?_
 exact nx [some 0,some 2] lD h
theorem Z9b {n:Nat} {r_0:ApiRung} {b0:Str} {r:(List Int)} (h:Z3r n r_0 b0 = some r):ConH Tryz.prog G0 133 [.agg (Z7 r_0),.clos 134 [] [.hptr 0 0 0]] [.var [.str b0]] (aL (cI .i64) r) [.var [.str b0]]:=by
 refine ZA (T:=TT0) tt_ok Tryz.func133 (c:=_) (by unfold Tryz.f133; rfl) Tryz.ntmps133 (rs:=[.tmp 4]) (by rw [Tryz.results133]) (by unfold Tryz.f133; rfl) (by simp) (k:=1) rfl rfl ?_
 try simp only [Z3]
 have F:=True.intro
 dsimp only [Z3r] at h
 refine rs0 ?_
 iterate 2 refine vp ?_
 refine vn ?_
 refine rs0 ?_
 refine vp ?_
 refine vn ?_
 refine Wp.seq ?_
 refine rs0 ?_
 iterate 4 refine vp ?_
 refine vn ?_
 refine Wp.block ?_
 refine lp [some 0,none] (fun x:Int × (List Int)=>{ ch:=[(1,.clos 134 [] [.hptr 0 0 0]),(5,.sl 1 0 x.2.length),(9,aL Z0 r_0.Contacts),(10,.int .i64 (r_0.Contacts.length:Int)),(11,.int .i64 x.1)],hp:=[.var [.str b0],.arr 1 x.2.length (rw (x.2.map (cI .i64)))],base:=1,n:=25,cond:=True,gl:=G0 }) (fun m x=>ZL n r_0 b0 m x.1 x.2 = some r) n (0,[]) h ?_
 rintro re ⟨pE,pF⟩ h
 dsimp only [ZL] at h
 try dsimp only
 refine rs0 ?_
 refine vp ?_
 refine vn ?_
 refine Wp.seq ?_
 refine sD h F (fun F h=>?_) fun F h=>?_
 refine cF ?_
 refine Wp.exit ?_
 refine sh ?_
 refine rs0 ?_
 iterate 2 refine vp ?_
 refine vn ?_
 cases h
 exact Wp.ret (enH [some 0])
 refine cT ?_
 refine Wp.skip ?_
 refine sh ?_
 refine Wp.seq ?_
 refine Wp.block ?_
 refine rs0 ?_
 refine vp ?_
 refine eI h F fun xG F h=>?_
 iterate 5 refine vp ?_
 refine vn ?_
 refine rs0 ?_
 iterate 2 refine vp ?_
 obtain ⟨rH,hr13204,h⟩:=obind h
 refine vh [0] (Za0 hr13204) ?_
 refine vn ?_
 refine sB h F (fun F h=>?_) fun F h=>?_
 refine cF ?_
 refine Wp.skip ?_
 refine sh ?_
 refine rg0 ?_
 iterate 2 refine vp ?_
 refine vn ?_
 exact nx [some 0,some 1] ((IntKind.i64.wrap (pE + 1)),pF) h
 refine cT ?_
 refine rg (fun d=>Nat.beq d 22) ?_
 iterate 3 refine vp ?_
 refine gd h F fun F h=>?_
 refine vp ?_
 refine nm (cI .i64) h F fun lI F h=>?_
 refine vp ?_
 refine vn ?_
 refine sh ?_
 refine rg0 ?_
 iterate 2 refine vp ?_
 refine vn ?_
 exact nx [some 0,some 3] ((IntKind.i64.wrap (pE + 1)),lI) h
theorem Z62 {n:Nat} {l0:List Str} {m2:List (Str × Bool)} {r:Int} (h:Z1l n l0 m2 = some r):ConH Tryz.prog G0 98 [.sl 0 0 l0.length,.clos 167 [] [.hptr 1 0 0]] [.arr 1 l0.length (rw (l0.map cS)),.var [.mp 2],.map (mAV AV.str cB m2)] (.int .i64 r) [.arr 1 l0.length (rw (l0.map cS)),.var [.mp 2],.map (mAV AV.str cB m2)]:=by
 refine ZA (T:=TT0) tt_ok Tryz.func98 (c:=_) (by unfold Tryz.f98; rfl) Tryz.ntmps98 (rs:=[.tmp 4]) (by rw [Tryz.results98]) (by unfold Tryz.f98; rfl) (by simp) (k:=3) rfl rfl ?_
 try simp only [Z3]
 have F:=True.intro
 dsimp only [Z1l] at h
 refine rs0 ?_
 refine vp ?_
 refine vn ?_
 refine Wp.seq ?_
 refine rs0 ?_
 iterate 3 refine vp ?_
 refine vn ?_
 refine Wp.block ?_
 refine lp [some 0,some 1,some 2] (fun pJ:Int=>{ ch:=[(0,.sl 0 0 l0.length),(1,.clos 167 [] [.hptr 1 0 0]),(7,.int .i64 (l0.length:Int)),(8,.int .i64 pJ)],hp:=[.arr 1 l0.length (rw (l0.map cS)),.var [.mp 2],.map (mAV AV.str cB m2)],base:=3,n:=19,cond:=True,gl:=G0 }) (fun m x=>Zm n l0 m2 m x = some r) n 0 h ?_
 rintro re pJ h
 dsimp only [Zm] at h
 try dsimp only
 refine rs0 ?_
 refine vp ?_
 refine vn ?_
 refine Wp.seq ?_
 refine sD h F (fun F h=>?_) fun F h=>?_
 refine cF ?_
 refine Wp.exit ?_
 refine sh ?_
 refine rs0 ?_
 refine vp ?_
 refine vn ?_
 cases h
 exact Wp.ret (enH [some 0,some 1,some 2])
 refine cT ?_
 refine Wp.skip ?_
 refine sh ?_
 refine Wp.seq ?_
 refine Wp.block ?_
 refine rs0 ?_
 iterate 2 refine vp ?_
 refine vn ?_
 refine rs0 ?_
 iterate 3 refine vp ?_
 refine eI h F fun xK F h=>?_
 iterate 2 refine vp ?_
 obtain ⟨rL,hr14385,h⟩:=obind h
 refine vh [1,2] (Z7X hr14385) ?_
 refine vn ?_
 refine sB h F (fun F h=>?_) fun F h=>?_
 refine cF ?_
 refine Wp.skip ?_
 refine sh ?_
 refine rg0 ?_
 iterate 2 refine vp ?_
 refine vn ?_
 exact nx [some 0,some 1,some 2] (IntKind.i64.wrap (pJ + 1)) h
 refine cT ?_
 refine rs0 ?_
 iterate 2 refine vp ?_
 refine vn ?_
 cases h
 exact Wp.ret (enH [some 0,some 1,some 2])
theorem Z6g {n:Nat} {s0:List TreeTree} {b0:TreeTree} {r:Int} (h:Z1Y n s0 b0 = some r):ConH Tryz.prog G0 129 [aL Z6 s0,.clos 92 [] [.hptr 0 0 0]] [.var [.int .i64 b0.Kind,.int .i64 b0.N,aL Z6 b0.Kids]] (.int .i64 r) [.var [.int .i64 b0.Kind,.int .i64 b0.N,aL Z6 b0.Kids]]:=by
 refine ZA (T:=TT0) tt_ok Tryz.func129 (c:=_) (by unfold Tryz.f129; rfl) Tryz.ntmps129 (rs:=[.tmp 4]) (by rw [Tryz.results129]) (by unfold Tryz.f129; rfl) (by simp) (k:=1) rfl rfl ?_
 try simp only [Z3]
 have F:=True.intro
 dsimp only [Z1Y] at h
 refine rs0 ?_
 refine vp ?_
 refine vn ?_
 refine Wp.seq ?_
 refine rs0 ?_
 iterate 3 refine vp ?_
 refine vn ?_
 refine Wp.block ?_
 refine lp [some 0] (fun pM:Int=>{ ch:=[(0,aL Z6 s0),(1,.clos 92 [] [.hptr 0 0 0]),(7,.int .i64 (s0.length:Int)),(8,.int .i64 pM)],hp:=[.var [.int .i64 b0.Kind,.int .i64 b0.N,aL Z6 b0.Kids]],base:=1,n:=19,cond:=True,gl:=G0 }) (fun m x=>ZQ n s0 b0 m x = some r) n 0 h ?_
 rintro re pM h
 dsimp only [ZQ] at h
 try dsimp only
 refine rs0 ?_
 refine vp ?_
 refine vn ?_
 refine Wp.seq ?_
 refine sD h F (fun F h=>?_) fun F h=>?_
 refine cF ?_
 refine Wp.exit ?_
 refine sh ?_
 refine rs0 ?_
 refine vp ?_
 refine vn ?_
 cases h
 exact Wp.ret (enH [some 0])
 refine cT ?_
 refine Wp.skip ?_
 refine sh ?_
 refine Wp.seq ?_
 refine Wp.block ?_
 refine rs0 ?_
 iterate 2 refine vp ?_
 refine vn ?_
 refine rs0 ?_
 iterate 3 refine vp ?_
 refine eI h F fun xN F h=>?_
 iterate 2 refine vp ?_
 obtain ⟨rO,hr15246,h⟩:=obind h
 refine vh [0] (Z9h hr15246) ?_
 refine vn ?_
 refine sB h F (fun F h=>?_) fun F h=>?_
 refine cF ?_
 refine Wp.skip ?_
 refine sh ?_
 refine rg0 ?_
 iterate 2 refine vp ?_
 refine vn ?_
 exact nx [some 0] (IntKind.i64.wrap (pM + 1)) h
 refine cT ?_
 refine rs0 ?_
 iterate 2 refine vp ?_
 refine vn ?_
 cases h
 exact Wp.ret (enH [some 0])
theorem Z95 {n:Nat} {r_0:ApiRung} {r:Int} (h:Z3z n r_0 = some r):Con Tryz.prog G0 84 [.agg (Z7 r_0)] (.int .i64 r) []:=by
 refine Za (T:=TT0) tt_ok Tryz.func84 (c:=_) (by unfold Tryz.f84; rfl) Tryz.ntmps84 (rs:=[.tmp 2]) (by rw [Tryz.results84]) (by unfold Tryz.f84; rfl) (by simp) ?_
 simp only [Z3]
 have F:=True.intro
 dsimp only [Z3z] at h
 refine rs0 ?_
 iterate 2 refine vp ?_
 refine vn ?_
 refine rs0 ?_
 refine vp ?_
 refine vn ?_
 refine Wp.seq ?_
 refine rs0 ?_
 iterate 4 refine vp ?_
 refine vn ?_
 refine Wp.block ?_
 refine lp [] (fun x:Int × Int=>{ ch:=[(3,.int .i64 x.1),(7,aL Z0 r_0.Contacts),(8,.int .i64 (r_0.Contacts.length:Int)),(9,.int .i64 x.2)],hp:=[],base:=0,n:=19,cond:=True,gl:=G0 }) (fun m x=>Z1w n r_0 m x.1 x.2 = some r) n (0,0) h ?_
 rintro re ⟨pP,pQ⟩ h
 dsimp only [Z1w] at h
 try dsimp only
 refine rs0 ?_
 refine vp ?_
 refine vn ?_
 refine Wp.seq ?_
 refine sD h F (fun F h=>?_) fun F h=>?_
 refine cF ?_
 refine Wp.exit ?_
 refine sh ?_
 refine rs0 ?_
 iterate 2 refine vp ?_
 refine vn ?_
 cases h
 exact Wp.ret en0
 refine cT ?_
 refine Wp.skip ?_
 refine sh ?_
 refine Wp.seq ?_
 refine Wp.block ?_
 refine rs0 ?_
 refine eI h F fun xR F h=>?_
 iterate 4 refine vp ?_
 refine vn ?_
 refine rs0 ?_
 refine vp ?_
 obtain ⟨rS,hr15949,h⟩:=obind h
 refine vc (Zce hr15949) ?_
 refine vn ?_
 refine sB h F (fun F h=>?_) fun F h=>?_
 refine cF ?_
 refine Wp.skip ?_
 refine sh ?_
 refine rg0 ?_
 iterate 2 refine vp ?_
 refine vn ?_
 exact nx [] (pP,(IntKind.i64.wrap (pQ + 1))) h
 refine cT ?_
 refine rg0 ?_
 iterate 3 refine vp ?_
 refine vn ?_
 refine sh ?_
 refine rg0 ?_
 iterate 2 refine vp ?_
 refine vn ?_
 exact nx [] ((IntKind.i64.wrap (pP + 1)),(IntKind.i64.wrap (pQ + 1))) h
theorem ZbB {n:Nat} {s0:ApiSize} {a1:ApiAddr} {r:Int} (h:Z4X n s0 a1 = some r):Con Tryz.prog G0 175 [.agg (Z4l s0),.agg (Z8p a1)] (.int .i64 r) []:=by
 refine Za (T:=TT0) tt_ok Tryz.func175 (c:=_) (by unfold Tryz.f175; rfl) Tryz.ntmps175 (rs:=[.tmp 4]) (by rw [Tryz.results175]) (by unfold Tryz.f175; rfl) (by simp) ?_
 simp only [Z3]
 have F:=True.intro
 dsimp only [Z4X] at h
 refine rs0 ?_
 iterate 3 refine vp ?_
 refine vn ?_
 refine Wp.seq ?_
 refine Wp.block ?_
 refine rs0 ?_
 iterate 2 refine vp ?_
 obtain ⟨rT,hr10773,h⟩:=obind h
 refine vc (Z3M hr10773) ?_
 iterate 2 refine vp ?_
 refine vn ?_
 refine sB h F (fun F h=>?_) fun F h=>?_
 refine cF ?_
 refine dw (fun _=>false) [0,1] ?_
 refine du 5 ?_
 obtain ⟨rU,hr10775,h⟩:=obind h
 refine dc (Zel hr10775) ?_
 refine du 1 ?_
 obtain ⟨rV,hr10777,h⟩:=obind h
 refine dc (Z3M hr10777) ?_
 refine du 2 ?_
 refine dn ?_
 refine sB h F (fun F h=>?_) fun F h=>?_
 refine cF ?_
 refine Wp.skip ?_
 refine sh ?_
 refine rs0 ?_
 refine vp ?_
 refine vn ?_
 cases h
 exact Wp.ret en0
 refine cT ?_
 refine rs0 ?_
 refine vp ?_
 refine vn ?_
 cases h
 exact Wp.ret en0
 refine cT ?_
 refine rs0 ?_
 refine vp ?_
 refine vn ?_
 cases h
 exact Wp.ret en0
theorem Z9u {n:Nat} {r_0:ApiRung} {i_1:Int} {slot2:Int} {r:ApiIns} (h:Z61 n r_0 i_1 slot2 = some r):Con Tryz.prog G0 81 [.agg (Z7 r_0),.int .i64 i_1,.int .i64 slot2] (.agg (Zb r)) []:=by
 refine Za (T:=TT0) tt_ok Tryz.func81 (c:=_) (by unfold Tryz.f81; rfl) Tryz.ntmps81 (rs:=[.cell 6 54]) (by rw [Tryz.results81]) (by unfold Tryz.f81; rfl) (by simp) ?_
 simp only [Z3]
 have F:=True.intro
 dsimp only [Z61] at h
 refine rs0 ?_
 iterate 2 refine vp ?_
 refine vn ?_
 refine rs0 ?_
 iterate 3 refine vp ?_
 refine eI h F fun xW F h=>?_
 iterate 4 refine vp ?_
 refine vn ?_
 refine Wp.seq ?_
 refine rs0 ?_
 iterate 3 refine vp ?_
 refine vn ?_
 refine sD h F (fun F h=>?_) fun F h=>?_
 refine cF ?_
 refine Wp.skip ?_
 refine sh ?_
 refine dw (fun _=>false) [0,2] ?_
 refine du 8 ?_
 obtain ⟨rX,hr40898,h⟩:=obind h
 refine dc (Zd6 hr40898) ?_
 refine du 1 ?_
 refine db ?_
 refine dn ?_
 cases h
 exact Wp.ret en0
 refine cT ?_
 refine rs0 ?_
 iterate 6 refine vp ?_
 refine vn ?_
 cases h
 exact Wp.ret en0
end Go.Proofs.YtaebdeidbibfkaaGreatDoor
