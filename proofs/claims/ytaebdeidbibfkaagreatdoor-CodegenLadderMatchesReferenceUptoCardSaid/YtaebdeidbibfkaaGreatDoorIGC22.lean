/- Contracts: models of functions are right. No law is proved here. -/
import Derived.Test.YtaebdeidbibfkaaGreatDoorIGH
import Derived.Test.YtaebdeidbibfkaaGreatDoorIGC21
namespace Go.Proofs.YtaebdeidbibfkaaGreatDoor
open Go.Av Go.G
attribute [-simp] Int.natCast_tdiv_eq_ediv
attribute [local congr] Zx ZE Zy
variable [Drawn]
set_option maxHeartbeats 4000000
set_option linter.unusedSectionVars false
set_option maxRecDepth 20000
set_option linter.unusedSimpArgs false
set_option linter.unusedVariables false
theorem Z7T {n:Nat} {l0:ApiLadder} {r:ApiProgram × Int × Int} (h:Z51 n l0 = some r):Con Tryz.prog G0 23 [.agg (Z1r l0)] (.tup [.agg (Z4H r.1),.int .i64 r.2.1,.int .i64 r.2.2]) []:=by
 refine Za (T:=TT0) tt_ok Tryz.func23 (c:=_) (by unfold Tryz.f23; rfl) Tryz.ntmps23 (rs:=[.cell 2 63,.tmp 3,.tmp 4]) (by rw [Tryz.results23]) (by unfold Tryz.f23; rfl) (by simp) ?_
 simp only [Z3]
 have F:=True.intro
 dsimp only [Z51] at h
 refine rs0 ?_
 iterate 4 refine vp ?_
 refine vn ?_
 refine rs0 ?_
 refine vp ?_
 obtain ⟨⟨ra,rb,rc,rd⟩,hr16067,h⟩:=obind h
 dsimp only at h
 refine vc (Z85 hr16067) ?_
 iterate 10 refine vp ?_
 refine vn ?_
 refine rs0 ?_
 iterate 6 refine vp ?_
 refine vn ?_
 cases h
 exact Wp.ret en0
theorem ZbJ {n:Nat} {l0:ApiLadder} {r:(List Int) × Int} (h:Z65 n l0 = some r):Con Tryz.prog G0 25 [.agg (Z1r l0)] (.tup [aL (cI .i64) r.1,.int .i64 r.2]) []:=by
 refine Za (T:=TT0) tt_ok Tryz.func25 (c:=_) (by unfold Tryz.f25; rfl) Tryz.ntmps25 (rs:=[.tmp 2,.tmp 3]) (by rw [Tryz.results25]) (by unfold Tryz.f25; rfl) (by simp) ?_
 simp only [Z3]
 have F:=True.intro
 dsimp only [Z65] at h
 refine rs0 ?_
 iterate 3 refine vp ?_
 refine vn ?_
 refine rs0 ?_
 refine vp ?_
 obtain ⟨⟨re,rf,rh,ri⟩,hr41338,h⟩:=obind h
 dsimp only at h
 refine vc (Z85 hr41338) ?_
 iterate 10 refine vp ?_
 refine vn ?_
 refine rs0 ?_
 iterate 4 refine vp ?_
 refine vn ?_
 cases h
 exact Wp.ret en0
end Go.Proofs.YtaebdeidbibfkaaGreatDoor
