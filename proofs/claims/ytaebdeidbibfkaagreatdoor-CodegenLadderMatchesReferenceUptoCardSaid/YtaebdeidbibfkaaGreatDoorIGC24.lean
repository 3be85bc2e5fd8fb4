/- Contracts: models of functions are right. No law is proved here. -/
import Derived.Test.YtaebdeidbibfkaaGreatDoorIGH
import Derived.Test.YtaebdeidbibfkaaGreatDoorIGC3
import Derived.Test.YtaebdeidbibfkaaGreatDoorIGC5
import Derived.Test.YtaebdeidbibfkaaGreatDoorIGC18
import Derived.Test.YtaebdeidbibfkaaGreatDoorIGC22
import Derived.Test.YtaebdeidbibfkaaGreatDoorIGC23
namespace Go.Proofs.YtaebdeidbibfkaaGreatDoor
open Go.Av Go.G
attribute [-simp] Int.natCast_tdiv_eq_ediv
attribute [local congr] Zx ZE Zy
variable [Drawn]
set_option maxHeartbeats 4000000
set_option linter.unusedSectionVars false
set_option maxRecDepth 20000
set_option linter.unusedSimpArgs false
set_option linter.unusedVariables false
theorem Z5q {n:Nat} {ab:ApiLadder} {r:Bool} (h:Z10 n ab = some r):Con Tryz.prog G0 5 [.agg (Z1r ab)] (.bool r) []:=by
 refine Za (T:=TT0) tt_ok Tryz.func5 (c:=_) (by unfold Tryz.f5; rfl) Tryz.ntmps5 (rs:=[.tmp 2]) (by rw [Tryz.results5]) (by unfold Tryz.f5; rfl) (by simp) ?_
 simp only [Z3]
 have F:=True.intro
 dsimp only [Z10] at h
 refine rs0 ?_
 iterate 2 refine vp ?_
 refine vn ?_
 refine Wp.seq ?_
 refine rs0 ?_
 refine vp ?_
 obtain ⟨rc,hr16088,h⟩:=obind h
 refine vc (ZbD hr16088) ?_
 refine vp ?_
 refine vn ?_
 refine sD h F (fun F h=>?_) fun F h=>?_
 refine cF ?_
 refine Wp.skip ?_
 refine sh ?_
 refine rs0 ?_
 refine vp ?_
 obtain ⟨⟨rd,re,rf⟩,hr16092,h⟩:=obind h
 dsimp only at h
 refine vc (Z7T hr16092) ?_
 iterate 8 refine vp ?_
 refine vn ?_
 refine rs0 ?_
 refine vp ?_
 obtain ⟨⟨rh,ri,rj⟩,hr41334,h⟩:=obind h
 dsimp only at h
 refine vc (ZcE hr41334) ?_
 iterate 8 refine vp ?_
 refine vn ?_
 refine rs0 ?_
 refine vp ?_
 obtain ⟨⟨rm,rn⟩,hr41343,h⟩:=obind h
 dsimp only at h
 refine vc (ZbJ hr41343) ?_
 iterate 5 refine vp ?_
 refine vn ?_
 refine rs0 ?_
 refine vp ?_
 obtain ⟨⟨rp,rq⟩,hr41351,h⟩:=obind h
 dsimp only at h
 refine vc (ZcP hr41351) ?_
 iterate 5 refine vp ?_
 refine vn ?_
 refine rs0 ?_
 obtain ⟨rt,hr41354,h⟩:=obind h
 refine vc (Z8I hr41354) ?_
 refine vp ?_
 refine sB h F (fun F h=>?_) fun F h=>?_
 refine vs ?_
 refine vs ?_
 refine vs ?_
 iterate 2 refine vp ?_
 refine vs ?_
 refine vs ?_
 refine vs ?_
 iterate 2 refine vp ?_
 refine vs ?_
 refine vs ?_
 refine vs ?_
 iterate 2 refine vp ?_
 refine vs ?_
 refine vs ?_
 refine vs ?_
 iterate 2 refine vp ?_
 refine vs ?_
 refine vs ?_
 refine vs ?_
 iterate 2 refine vp ?_
 refine vn ?_
 cases h
 exact Wp.ret en0
 refine vg ?_
 refine vg ?_
 obtain ⟨ru,hr41363,h⟩:=obind h
 refine vc (ZdH hr41363) ?_ (hg:=by (simp [F]; done))
 iterate 2 refine vp ?_
 refine sB h F (fun F h=>?_) fun F h=>?_
 refine vs ?_
 refine vs ?_
 refine vs ?_
 iterate 2 refine vp ?_
 refine vs ?_
 refine vs ?_
 refine vs ?_
 iterate 2 refine vp ?_
 refine vs ?_
 refine vs ?_
 refine vs ?_
 iterate 2 refine vp ?_
 refine vs ?_
 refine vs ?_
 refine vs ?_
 iterate 2 refine vp ?_
 refine vn ?_
 cases h
 exact Wp.ret en0
 refine vg ?_
 refine vg ?_
 refine vg ?_
 iterate 2 refine vp ?_
 refine sB h F (fun F h=>?_) fun F h=>?_
 refine vs ?_
 refine vs ?_
 refine vs ?_
 iterate 2 refine vp ?_
 refine vs ?_
 refine vs ?_
 refine vs ?_
 iterate 2 refine vp ?_
 refine vs ?_
 refine vs ?_
 refine vs ?_
 iterate 2 refine vp ?_
 refine vn ?_
 cases h
 exact Wp.ret en0
 refine vg ?_
 refine vg ?_
 refine vg ?_
 iterate 2 refine vp ?_
 refine sB h F (fun F h=>?_) fun F h=>?_
 refine vs ?_
 refine vs ?_
 refine vs ?_
 iterate 2 refine vp ?_
 refine vs ?_
 refine vs ?_
 refine vs ?_
 iterate 2 refine vp ?_
 refine vn ?_
 cases h
 exact Wp.ret en0
 refine vg ?_
 refine vg ?_
 obtain ⟨rv,hr41372,h⟩:=obind h
 refine vc (Za2 hr41372) ?_ (hg:=by (simp [F]; done))
 iterate 2 refine vp ?_
 refine sB h F (fun F h=>?_) fun F h=>?_
 refine vs ?_
 refine vs ?_
 refine vs ?_
 iterate 2 refine vp ?_
 refine vn ?_
 cases h
 exact Wp.ret en0
 refine vg ?_
 refine vg ?_
 refine vg ?_
 iterate 2 refine vp ?_
 refine vn ?_
 cases h
 exact Wp.ret en0
 refine cT ?_
 refine rs0 ?_
 obtain ⟨rz,hr16090,h⟩:=obind h
 refine vc (Z8I hr16090) ?_
 refine vp ?_
 refine vn ?_
 cases h
 exact Wp.ret en0
end Go.Proofs.YtaebdeidbibfkaaGreatDoor
