/- Contracts: models of functions are right. No law is proved here. -/
import Derived.Test.YtaebdeidbibfkaaGreatDoorIGH
import Derived.Test.YtaebdeidbibfkaaGreatDoorIGC6
import Derived.Test.YtaebdeidbibfkaaGreatDoorIGC7
import Derived.Test.YtaebdeidbibfkaaGreatDoorIGC8
import Derived.Test.YtaebdeidbibfkaaGreatDoorIGC9
namespace Go.Proofs.YtaebdeidbibfkaaGreatDoor
open Go.Av Go.G
attribute [-simp] Int.natCast_tdiv_eq_ediv
attribute [local congr] Zx ZE Zy
variable [Drawn]
set_option maxHeartbeats 4000000
set_option linter.unusedSectionVars false
set_option maxRecDepth 20000
set_option linter.unusedSimpArgs false
set_option linter.unusedVariables false
theorem ZcY {n:Nat} {ab:ApiSize} {a1:List ApiRung} {a2:ApiRung} {r:Int} (h:Z5O n ab a1 a2 = some r):Con Tryz.prog G0 120 [.agg (Z4l ab),aL Z7 a1,.agg (Z7 a2)] (.int .i64 r) []:=by
 refine Za (T:=TT0) tt_ok Tryz.func120 (c:=_) (by unfold Tryz.f120; rfl) Tryz.ntmps120 (rs:=[.tmp 6]) (by rw [Tryz.results120]) (by unfold Tryz.f120; rfl) (by simp) ?_
 simp only [Z3]
 have F:=True.intro
 dsimp only [Z5O] at h
 refine rs0 ?_
 iterate 3 refine vp ?_
 refine vn ?_
 refine jn (fun _:Unit=>{ ch:=[(3,.hptr 0 0 0),(5,.hptr 1 0 0)],hp:=[.var [.int .i64 ab.I,.int .i64 ab.Q,.int .i64 ab.M,.int .i64 ab.E],.var [.str a2.Label,aL Z0 a2.Contacts,aL Z4 a2.Coils,.str a2.Jump]],base:=0,n:=90,cond:=True,gl:=G0 }) (fun x=>Z3B n ab a2 = some r) ?_ ?_
 clear h
 rintro _ h
 dsimp only [Z3B] at h
 try dsimp only
 refine Wp.seq ?_
 refine rs0 ?_
 iterate 4 refine vp ?_
 refine vn ?_
 refine sD h F (fun F h=>?_) fun F h=>?_
 refine cF ?_
 refine Wp.skip ?_
 refine sh ?_
 refine jn (fun _:Unit=>{ ch:=[(3,.hptr 0 0 0),(5,.hptr 1 0 0)],hp:=[.var [.int .i64 ab.I,.int .i64 ab.Q,.int .i64 ab.M,.int .i64 ab.E],.var [.str a2.Label,aL Z0 a2.Contacts,aL Z4 a2.Coils,.str a2.Jump]],base:=0,n:=90,cond:=True,gl:=G0 }) (fun x=>Z5D n ab a2 = some r) ?_ ?_
 clear h
 rintro _ h
 dsimp only [Z5D] at h
 try dsimp only
 refine Wp.seq ?_
 refine rs0 ?_
 iterate 4 refine vp ?_
 refine vn ?_
 refine sD h F (fun F h=>?_) fun F h=>?_
 refine cF ?_
 refine Wp.skip ?_
 refine sh ?_
 refine jn (fun _:Unit=>{ ch:=[(5,.hptr 0 0 0)],hp:=[.var [.str a2.Label,aL Z0 a2.Contacts,aL Z4 a2.Coils,.str a2.Jump]],base:=0,n:=90,cond:=True,gl:=G0 }) (fun x=>Z4A n a2 = some r) ?_ ?_
 clear h
 rintro _ h
 dsimp only [Z4A] at h
 try dsimp only
 refine Wp.seq ?_
 refine rs0 ?_
 iterate 4 refine vp ?_
 refine sEn h F (fun _ F h=>?_) fun _ F h=>?_
 refine vs ?_
 refine vs ?_
 refine vs ?_
 refine vs ?_
 refine vp ?_
 refine vn ?_
 refine cF ?_
 refine Wp.skip ?_
 refine sh ?_
 refine rs0 ?_
 refine vp ?_
 refine vn ?_
 cases h
 exact Wp.ret en0
 refine vg ?_
 refine vg ?_
 obtain ⟨rc,hr10818,h⟩:=obind h
 refine vc (Z66 hr10818) ?_ (hg:=by (simp [F]; done))
 refine vg ?_
 refine vp ?_
 refine vn ?_
 refine sB h F (fun F h=>?_) fun F h=>?_
 refine cF ?_
 refine Wp.skip ?_
 refine sh ?_
 refine rs0 ?_
 refine vp ?_
 refine vn ?_
 cases h
 exact Wp.ret en0
 refine cT ?_
 refine rs0 ?_
 refine vp ?_
 refine vn ?_
 cases h
 exact Wp.ret en0
 refine rs0 ?_
 iterate 4 refine vp ?_
 refine vn ?_
 refine Wp.block ?_
 refine lp [some 0,some 1] (fun pd:Int=>{ ch:=[(3,.hptr 0 0 0),(5,.hptr 1 0 0),(61,aL Z4 a2.Coils),(62,.int .i64 (a2.Coils.length:Int)),(63,.int .i64 pd)],hp:=[.var [.int .i64 ab.I,.int .i64 ab.Q,.int .i64 ab.M,.int .i64 ab.E],.var [.str a2.Label,aL Z0 a2.Contacts,aL Z4 a2.Coils,.str a2.Jump]],base:=0,n:=90,cond:=True,gl:=G0 }) (fun m x=>Z3E n ab a2 m x = some r) n 0 h ?_
 rintro re pd h
 dsimp only [Z3E] at h
 try dsimp only
 refine rs0 ?_
 refine vp ?_
 refine vn ?_
 refine Wp.seq ?_
 refine sD h F (fun F h=>?_) fun F h=>?_
 refine cF ?_
 refine Wp.exit ?_
 exact nx [some 1] () h
 refine cT ?_
 refine Wp.skip ?_
 refine sh ?_
 refine Wp.seq ?_
 refine Wp.block ?_
 refine rs0 ?_
 refine eI h F fun xf F h=>?_
 iterate 4 refine vp ?_
 refine vn ?_
 refine Wp.seq ?_
 refine rs0 ?_
 iterate 5 refine vp ?_
 obtain ⟨rh,hr10828,h⟩:=obind h
 refine vc (Z8z hr10828) ?_
 refine vp ?_
 refine vn ?_
 refine rs0 ?_
 iterate 2 refine vp ?_
 refine vn ?_
 refine sB h F (fun F h=>?_) fun F h=>?_
 refine cF ?_
 refine Wp.skip ?_
 refine sh ?_
 refine rs0 ?_
 iterate 4 refine vp ?_
 refine vn ?_
 refine sB h F (fun F h=>?_) fun F h=>?_
 refine cF ?_
 refine Wp.skip ?_
 refine sh ?_
 refine rg0 ?_
 iterate 2 refine vp ?_
 refine vn ?_
 exact nx [some 0,some 1] (IntKind.i64.wrap (pd + 1)) h
 refine cT ?_
 refine rs0 ?_
 refine vp ?_
 refine vn ?_
 cases h
 exact Wp.ret en0
 refine cT ?_
 refine rs0 ?_
 iterate 2 refine vp ?_
 refine vn ?_
 cases h
 exact Wp.ret en0
 refine cT ?_
 refine rs0 ?_
 refine vp ?_
 refine vn ?_
 cases h
 exact Wp.ret en0
 refine rs0 ?_
 iterate 4 refine vp ?_
 refine vn ?_
 refine Wp.block ?_
 refine lp [some 0,some 1] (fun pi:Int=>{ ch:=[(3,.hptr 0 0 0),(5,.hptr 1 0 0),(30,aL Z0 a2.Contacts),(31,.int .i64 (a2.Contacts.length:Int)),(32,.int .i64 pi)],hp:=[.var [.int .i64 ab.I,.int .i64 ab.Q,.int .i64 ab.M,.int .i64 ab.E],.var [.str a2.Label,aL Z0 a2.Contacts,aL Z4 a2.Coils,.str a2.Jump]],base:=0,n:=90,cond:=True,gl:=G0 }) (fun m x=>Z3C n ab a2 m x = some r) n 0 h ?_
 rintro rj pi h
 dsimp only [Z3C] at h
 try dsimp only
 refine rs0 ?_
 refine vp ?_
 refine vn ?_
 refine Wp.seq ?_
 refine sD h F (fun F h=>?_) fun F h=>?_
 refine cF ?_
 refine Wp.exit ?_
 exact nx [some 0,some 1] () h
 refine cT ?_
 refine Wp.skip ?_
 refine sh ?_
 refine Wp.seq ?_
 refine Wp.block ?_
 refine rs0 ?_
 refine eI h F fun xk F h=>?_
 iterate 4 refine vp ?_
 refine vn ?_
 refine Wp.seq ?_
 refine rs0 ?_
 iterate 5 refine vp ?_
 obtain ⟨rm,hr10852,h⟩:=obind h
 refine vc (Z8z hr10852) ?_
 refine vp ?_
 refine vn ?_
 refine rs0 ?_
 iterate 2 refine vp ?_
 refine vn ?_
 refine sB h F (fun F h=>?_) fun F h=>?_
 refine cF ?_
 refine Wp.skip ?_
 refine sh ?_
 refine rs0 ?_
 iterate 2 refine vp ?_
 obtain ⟨rn,hr10854,h⟩:=obind h
 refine vc (Z66 hr10854) ?_
 iterate 2 refine vp ?_
 refine sB h F (fun F h=>?_) fun F h=>?_
 refine vg ?_
 refine vg ?_
 obtain ⟨rp,hr10856,h⟩:=obind h
 refine vc (Z66 hr10856) ?_ (hg:=by (simp [F]; done))
 refine vg ?_
 refine vp ?_
 refine vn ?_
 refine sB h F (fun F h=>?_) fun F h=>?_
 refine cF ?_
 refine Wp.skip ?_
 refine sh ?_
 refine rg0 ?_
 iterate 2 refine vp ?_
 refine vn ?_
 exact nx [some 0,some 1] (IntKind.i64.wrap (pi + 1)) h
 refine cT ?_
 refine rs0 ?_
 refine vp ?_
 refine vn ?_
 cases h
 exact Wp.ret en0
 refine vs ?_
 refine vs ?_
 refine vs ?_
 refine vs ?_
 refine vp ?_
 refine vn ?_
 refine cT ?_
 refine rs0 ?_
 refine vp ?_
 refine vn ?_
 cases h
 exact Wp.ret en0
 refine cT ?_
 refine rs0 ?_
 iterate 2 refine vp ?_
 refine vn ?_
 cases h
 exact Wp.ret en0
 refine cT ?_
 refine rs0 ?_
 refine vp ?_
 refine vn ?_
 cases h
 exact Wp.ret en0
 refine rs0 ?_
 iterate 3 refine vp ?_
 refine vn ?_
 refine sEn h F (fun _ F h=>?_) fun _ F h=>?_
 refine cF ?_
 refine Wp.skip ?_
 exact nx [some 0,some 1] () h
 refine cT ?_
 refine Wp.block ?_
 refine rs0 ?_
 iterate 2 refine vp ?_
 obtain ⟨rq,hr10858,h⟩:=obind h
 refine vc (Z66 hr10858) ?_
 iterate 2 refine vp ?_
 refine vn ?_
 refine sB h F (fun F h=>?_) fun F h=>?_
 refine cF ?_
 refine rs0 ?_
 iterate 2 refine vp ?_
 obtain ⟨rt,hr10860,h⟩:=obind h
 refine vh [1] (Z5L hr10860) ?_
 refine vp ?_
 refine vn ?_
 refine sB h F (fun F h=>?_) fun F h=>?_
 refine cF ?_
 refine Wp.skip ?_
 exact nx [some 0,some 1] () h
 refine cT ?_
 refine rs0 ?_
 refine vp ?_
 refine vn ?_
 cases h
 exact Wp.ret en0
 refine cT ?_
 refine rs0 ?_
 refine vp ?_
 refine vn ?_
 cases h
 exact Wp.ret en0
theorem Zeu {n:Nat} {l0:ApiLadder} {i_1:Int} {r:Int} (h:Z70 n l0 i_1 = some r):Con Tryz.prog G0 125 [.agg (Z1r l0),.int .i64 i_1] (.int .i64 r) []:=by
 refine Za (T:=TT0) tt_ok Tryz.func125 (c:=_) (by unfold Tryz.f125; rfl) Tryz.ntmps125 (rs:=[.tmp 4]) (by rw [Tryz.results125]) (by unfold Tryz.f125; rfl) (by simp) ?_
 simp only [Z3]
 have F:=True.intro
 dsimp only [Z70] at h
 refine rs0 ?_
 iterate 2 refine vp ?_
 refine vn ?_
 refine rs0 ?_
 iterate 9 refine vp ?_
 refine vn ?_
 refine rs0 ?_
 iterate 3 refine vp ?_
 refine eI h F fun xu F h=>?_
 iterate 4 refine vp ?_
 refine vn ?_
 refine jn (fun _:Unit=>{ ch:=[(5,.hptr 0 0 0),(6,.hptr 1 0 0)],hp:=[.var [.int .i64 l0.I,.int .i64 l0.Q,.int .i64 l0.M,.int .i64 0],.var [.str xu.Label,aL Z0 xu.Contacts,aL Z4 xu.Coils,.str xu.Jump]],base:=0,n:=64,cond:=True,gl:=G0 }) (fun x=>Z3R n l0 xu = some r) ?_ ?_
 clear h
 rintro _ h
 dsimp only [Z3R] at h
 try dsimp only
 refine rs0 ?_
 iterate 2 refine vp ?_
 obtain ⟨rv,hr34925,h⟩:=obind h
 refine vc (ZaO hr34925) ?_
 refine vp ?_
 refine vn ?_
 refine jn (fun rz:Int=>{ ch:=[(6,.hptr 0 0 0),(8,.int .i64 rz)],hp:=[.var [.str xu.Label,aL Z0 xu.Contacts,aL Z4 xu.Coils,.str xu.Jump]],base:=0,n:=64,cond:=True,gl:=G0 }) (fun x=>Z4u n xu x = some r) ?_ ?_
 clear h
 rintro rz h
 dsimp only [Z4u] at h
 try dsimp only
 refine Wp.seq ?_
 refine rs0 ?_
 iterate 3 refine vp ?_
 refine sB h F (fun F h=>?_) fun F h=>?_
 refine vs ?_
 refine vs ?_
 refine vs ?_
 iterate 2 refine vp ?_
 refine vs ?_
 refine vs ?_
 refine vs ?_
 refine vs ?_
 refine vp ?_
 refine vn ?_
 refine cF ?_
 refine Wp.skip ?_
 refine sh ?_
 refine rs0 ?_
 iterate 2 refine vp ?_
 refine vn ?_
 cases h
 exact Wp.ret en0
 refine vg ?_
 refine vg ?_
 refine vg ?_
 iterate 2 refine vp ?_
 refine sEn h F (fun _ F h=>?_) fun _ F h=>?_
 refine vs ?_
 refine vs ?_
 refine vs ?_
 refine vs ?_
 refine vp ?_
 refine vn ?_
 refine cF ?_
 refine Wp.skip ?_
 refine sh ?_
 refine rs0 ?_
 iterate 2 refine vp ?_
 refine vn ?_
 cases h
 exact Wp.ret en0
 refine vg ?_
 refine vg ?_
 obtain ⟨rA,hr34940,h⟩:=obind h
 refine vc (Z56 hr34940) ?_ (hg:=by (simp [F]; done))
 refine vg ?_
 refine vp ?_
 refine vn ?_
 refine sB h F (fun F h=>?_) fun F h=>?_
 refine cF ?_
 refine Wp.skip ?_
 refine sh ?_
 refine rs0 ?_
 iterate 2 refine vp ?_
 refine vn ?_
 cases h
 exact Wp.ret en0
 refine cT ?_
 refine rs0 ?_
 refine vp ?_
 refine vn ?_
 cases h
 exact Wp.ret en0
 refine rs0 ?_
 iterate 2 refine vp ?_
 refine vn ?_
 refine sB h F (fun F h=>?_) fun F h=>?_
 refine cF ?_
 refine Wp.skip ?_
 exact nx [some 1] rv h
 refine cT ?_
 refine rg0 ?_
 iterate 2 refine vp ?_
 obtain ⟨rB,hr34942,h⟩:=obind h
 refine vc (Ze7 hr34942) ?_
 refine vp ?_
 refine vn ?_
 exact nx [some 1] rB h
 refine rs0 ?_
 iterate 3 refine vp ?_
 refine vn ?_
 refine sEn h F (fun _ F h=>?_) fun _ F h=>?_
 refine cF ?_
 refine Wp.skip ?_
 exact nx [some 1,some 2] () h
 refine cT ?_
 refine Wp.seq ?_
 refine rs0 ?_
 iterate 2 refine vp ?_
 obtain ⟨rC,hr34946,h⟩:=obind h
 refine vc (Z56 hr34946) ?_
 refine vp ?_
 refine vn ?_
 refine sB h F (fun F h=>?_) fun F h=>?_
 refine cF ?_
 refine Wp.skip ?_
 refine sh ?_
 refine rs0 ?_
 refine vp ?_
 refine vn ?_
 refine Wp.block ?_
 refine lp [some 0,some 1,some 2] (fun pD:Int=>{ ch:=[(1,.int .i64 i_1),(2,.hptr 0 0 0),(5,.hptr 1 0 0),(6,.hptr 2 0 0),(7,.int .i64 pD)],hp:=[.var [.int .i64 l0.I,.int .i64 l0.Q,.int .i64 l0.M,aL Z7 l0.Rungs],.var [.int .i64 l0.I,.int .i64 l0.Q,.int .i64 l0.M,.int .i64 0],.var [.str xu.Label,aL Z0 xu.Contacts,aL Z4 xu.Coils,.str xu.Jump]],base:=0,n:=64,cond:=True,gl:=G0 }) (fun m x=>Z4v n l0 i_1 xu m x = some r) n 0 h ?_
 rintro rE pD h
 dsimp only [Z4v] at h
 try dsimp only
 refine Wp.seq ?_
 refine rs0 ?_
 iterate 3 refine vp ?_
 refine vn ?_
 refine sD h F (fun F h=>?_) fun F h=>?_
 refine cF ?_
 refine Wp.exit ?_
 exact nx [some 1,some 2] () h
 refine cT ?_
 refine Wp.skip ?_
 refine sh ?_
 refine Wp.seq ?_
 refine Wp.block ?_
 refine dw (fun _=>false) [0,2] ?_
 refine du 3 ?_
 refine eI h F fun xF F h=>?_
 refine du 6 ?_
 refine dn ?_
 refine sE h F (fun _ F h=>?_) fun _ F h=>?_
 refine cF ?_
 refine Wp.skip ?_
 refine sh ?_
 refine rg0 ?_
 iterate 3 refine vp ?_
 refine vn ?_
 exact nx [some 0,some 1,some 2] (IntKind.i64.wrap (pD + 1)) h
 refine cT ?_
 refine rs0 ?_
 refine vp ?_
 refine vn ?_
 cases h
 exact Wp.ret en0
 refine cT ?_
 refine rs0 ?_
 refine vp ?_
 refine vn ?_
 cases h
 exact Wp.ret en0
theorem Z9I {n:Nat} {n_0:Str} {b0:ApiRung} {m2:List (Str × Bool)} {r:Bool} (h:Z2w n n_0 b0 m2 = some r):ConH Tryz.prog G0 99 [.str n_0,.hptr 0 0 0,.hptr 1 0 0] [.var [.str b0.Label,aL Z0 b0.Contacts,aL Z4 b0.Coils,.str b0.Jump],.var [.mp 2],.map (mAV AV.str cB m2)] (.bool r) [.var [.str b0.Label,aL Z0 b0.Contacts,aL Z4 b0.Coils,.str b0.Jump],.var [.mp 2],.map (mAV AV.str cB m2)]:=by
 refine ZA (T:=TT0) tt_ok Tryz.func99 (c:=_) (by unfold Tryz.f99; rfl) Tryz.ntmps99 (rs:=[.tmp 4]) (by rw [Tryz.results99]) (by unfold Tryz.f99; rfl) (by simp) (k:=3) rfl rfl ?_
 try simp only [Z3]
 have F:=True.intro
 dsimp only [Z2w] at h
 refine rs0 ?_
 refine vp ?_
 refine vn ?_
 refine rs0 ?_
 iterate 2 refine vp ?_
 obtain ⟨rG,hr13239,h⟩:=obind h
 refine vc (Z7M hr13239) ?_
 refine vp ?_
 obtain ⟨rH,hr13241,h⟩:=obind h
 refine vh [1,2,0] (Z6E hr13241) ?_
 iterate 2 refine vp ?_
 refine vn ?_
 cases h
 exact Wp.ret (enH [some 0,some 1,some 2])
theorem Z6n {n:Nat} {l0:List TreeTree} {r:List TreeTree} (h:Z1t n l0 = some r):r.length = l0.length:=Zb2 h
theorem Z6o {n:Nat} {l0:List TreeTree} {r:List TreeTree} (h:Z1t n l0 = some r):ConH Tryz.prog G0 69 [.sl 0 0 l0.length,.clos 70 [] []] [.arr 3 l0.length (rw (l0.map Z6))] (.tup []) [.arr 3 r.length (rw (r.map Z6))]:=by
 have hl:r.length = l0.length:=Zb2 h
 rw [hl]
 exact Zjn Tryz.sort_lays (tt_ok 30 _ rfl) rfl Z6 (fun x=>by simp [Z8v]) ⟨_,Tryz.func69,rfl,by decide⟩ 70 (fun a b=>Z2P n a b) (fun a b r hr=>by have:=@ZaA ⟨True⟩ _ _ _ _ hr; simpa only [Z8v] using this) l0 r h
end Go.Proofs.YtaebdeidbibfkaaGreatDoor
