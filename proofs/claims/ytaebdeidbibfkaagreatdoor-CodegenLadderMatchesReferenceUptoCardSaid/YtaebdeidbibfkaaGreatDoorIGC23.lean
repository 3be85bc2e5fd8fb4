/- Contracts: models of functions are right. No law is proved here. -/
import Derived.Test.YtaebdeidbibfkaaGreatDoorIGH
import Derived.Test.YtaebdeidbibfkaaGreatDoorIGC1
import Derived.Test.YtaebdeidbibfkaaGreatDoorIGC2
import Derived.Test.YtaebdeidbibfkaaGreatDoorIGC22
namespace Go.Proofs.YtaebdeidbibfkaaGreatDoor
open Go.Av Go.G
attribute [-simp] Int.natCast_tdiv_eq_ediv
attribute [local congr] Zx ZE Zy
variable [Drawn]
set_option maxHeartbeats 4000000
set_option linter.unusedSectionVars false
set_option maxRecDepth 20000
set_option linter.unusedSimpArgs false
set_option linter.unusedVariables false
theorem Z8I {n:Nat} {r:Bool} (h:Z5v n  = some r):Con Tryz.prog G0 16 [] (.bool r) []:=by
 refine Za (T:=TT0) tt_ok Tryz.func16 (c:=_) (by unfold Tryz.f16; rfl) Tryz.ntmps16 (rs:=[.tmp 0]) (by rw [Tryz.results16]) (by unfold Tryz.f16; rfl) (by simp) ?_
 simp only [Z3]
 have F:=True.intro
 dsimp only [Z5v] at h
 refine rs0 ?_
 refine vp ?_
 refine vn ?_
 refine rs0 ?_
 obtain ⟨r60,hr59,h⟩:=obind h
 refine vc (Zc9 hr59) ?_
 refine vp ?_
 refine nl Z7 h F fun l61 m F h=>?_
 try simp only [m]
 clear m
 refine vp ?_
 obtain ⟨⟨ra,rb,rc⟩,hr16072,h⟩:=obind h
 dsimp only at h
 refine vc (Z7T hr16072) ?_
 iterate 8 refine vp ?_
 refine vn ?_
 refine rs0 ?_
 iterate 3 refine vp ?_
 refine sB h F (fun F h=>?_) fun F h=>?_
 refine vs ?_
 refine vs ?_
 iterate 2 refine vp ?_
 refine vs ?_
 refine vs ?_
 refine vs ?_
 refine vs ?_
 refine vs ?_
 refine vs ?_
 refine vs ?_
 refine vs ?_
 refine vs ?_
 refine vs ?_
 iterate 2 refine vp ?_
 refine vn ?_
 cases h
 exact Wp.ret en0
 refine vg ?_
 refine vg ?_
 iterate 2 refine vp ?_
 refine sB h F (fun F h=>?_) fun F h=>?_
 refine vs ?_
 refine vs ?_
 refine vs ?_
 refine vs ?_
 refine vs ?_
 refine vs ?_
 refine vs ?_
 refine vs ?_
 refine vs ?_
 refine vs ?_
 iterate 2 refine vp ?_
 refine vn ?_
 cases h
 exact Wp.ret en0
 refine vg ?_
 refine vg ?_
 refine vg ?_
 refine vg ?_
 refine vg ?_
 refine vg ?_
 refine vg ?_
 refine vg ?_
 refine vg ?_
 refine nl Zb h F fun ld m F h=>?_
 try simp only [m]
 clear m
 obtain ⟨re,hr16084,h⟩:=obind h
 refine vc (Z8y hr16084) ?_ (hg:=by (simp [F]; done))
 iterate 2 refine vp ?_
 refine vn ?_
 cases h
 exact Wp.ret en0
end Go.Proofs.YtaebdeidbibfkaaGreatDoor
