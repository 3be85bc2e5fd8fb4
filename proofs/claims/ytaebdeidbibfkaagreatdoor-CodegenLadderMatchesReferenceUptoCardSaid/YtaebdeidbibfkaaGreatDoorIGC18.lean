/- Contracts: models of functions are right. No law is proved here. -/
import Derived.Test.YtaebdeidbibfkaaGreatDoorIGH
import Derived.Test.YtaebdeidbibfkaaGreatDoorIGC15
import Derived.Test.YtaebdeidbibfkaaGreatDoorIGC17
namespace Go.Proofs.YtaebdeidbibfkaaGreatDoor
open Go.Av Go.G
attribute [-simp] Int.natCast_tdiv_eq_ediv
attribute [local congr] Zx ZE Zy
variable [Drawn]
set_option maxHeartbeats 4000000
set_option linter.unusedSectionVars false
set_option maxRecDepth 20000
set_option linter.unusedSimpArgs false
set_option linter.unusedVariables false
theorem ZeI {n:Nat} {r_0:ApiRung} {r:Int} (h:Z58 n r_0 = some r):Con Tryz.prog G0 38 [.agg (Z7 r_0)] (.int .i64 r) []:=by
 refine Za (T:=TT0) tt_ok Tryz.func38 (c:=_) (by unfold Tryz.f38; rfl) Tryz.ntmps38 (rs:=[.tmp 2]) (by rw [Tryz.results38]) (by unfold Tryz.f38; rfl) (by simp) ?_
 simp only [Z3]
 have F:=True.intro
 dsimp only [Z58] at h
 refine rs0 ?_
 iterate 2 refine vp ?_
 refine vn ?_
 refine Wp.seq ?_
 refine rs0 ?_
 iterate 4 refine vp ?_
 refine vn ?_
 refine sB h F (fun F h=>?_) fun F h=>?_
 refine cF ?_
 refine Wp.skip ?_
 refine sh ?_
 refine Wp.seq ?_
 refine rs0 ?_
 refine vp ?_
 obtain ⟨⟨ra,rb⟩,hr13289,h⟩:=obind h
 dsimp only at h
 refine vc (Zbd hr13289) ?_
 iterate 5 refine vp ?_
 refine vn ?_
 refine rs0 ?_
 iterate 2 refine vp ?_
 refine vn ?_
 refine sB h F (fun F h=>?_) fun F h=>?_
 refine cF ?_
 refine Wp.skip ?_
 refine sh ?_
 refine Wp.seq ?_
 refine rs0 ?_
 refine vp ?_
 obtain ⟨rc,hr14752,h⟩:=obind h
 refine vc (Zbe hr14752) ?_
 iterate 2 refine vp ?_
 refine vn ?_
 refine sD h F (fun F h=>?_) fun F h=>?_
 refine cF ?_
 refine Wp.skip ?_
 refine sh ?_
 refine rs0 ?_
 refine vp ?_
 refine vn ?_
 cases h
 exact Wp.ret en0
 refine cT ?_
 refine rs0 ?_
 refine vp ?_
 refine vn ?_
 cases h
 exact Wp.ret en0
 refine cT ?_
 refine rs0 ?_
 iterate 2 refine vp ?_
 refine vn ?_
 cases h
 exact Wp.ret en0
 refine cT ?_
 refine rs0 ?_
 refine vp ?_
 refine vn ?_
 cases h
 exact Wp.ret en0
theorem ZcE {n:Nat} {l0:ApiLadder} {r:ApiProgram × Int × Int} (h:Z6V n l0 = some r):Con Tryz.prog G0 24 [.agg (Z1r l0)] (.tup [.agg (Z4H r.1),.int .i64 r.2.1,.int .i64 r.2.2]) []:=by
 refine Za (T:=TT0) tt_ok Tryz.func24 (c:=_) (by unfold Tryz.f24; rfl) Tryz.ntmps24 (rs:=[.cell 2 63,.tmp 3,.tmp 4]) (by rw [Tryz.results24]) (by unfold Tryz.f24; rfl) (by simp) ?_
 simp only [Z3]
 have F:=True.intro
 dsimp only [Z6V] at h
 refine rs0 ?_
 iterate 4 refine vp ?_
 refine vn ?_
 refine rs0 ?_
 refine vp ?_
 obtain ⟨⟨rd,re,rf,rh⟩,hr41329,h⟩:=obind h
 dsimp only at h
 refine vc (Zap hr41329) ?_
 iterate 10 refine vp ?_
 refine vn ?_
 refine rs0 ?_
 iterate 6 refine vp ?_
 refine vn ?_
 cases h
 exact Wp.ret en0
theorem ZcP {n:Nat} {l0:ApiLadder} {r:(List Int) × Int} (h:Z7k n l0 = some r):Con Tryz.prog G0 26 [.agg (Z1r l0)] (.tup [aL (cI .i64) r.1,.int .i64 r.2]) []:=by
 refine Za (T:=TT0) tt_ok Tryz.func26 (c:=_) (by unfold Tryz.f26; rfl) Tryz.ntmps26 (rs:=[.tmp 2,.tmp 3]) (by rw [Tryz.results26]) (by unfold Tryz.f26; rfl) (by simp) ?_
 simp only [Z3]
 have F:=True.intro
 dsimp only [Z7k] at h
 refine rs0 ?_
 iterate 3 refine vp ?_
 refine vn ?_
 refine rs0 ?_
 refine vp ?_
 obtain ⟨⟨ri,rj,rm,rn⟩,hr41346,h⟩:=obind h
 dsimp only at h
 refine vc (Zap hr41346) ?_
 iterate 10 refine vp ?_
 refine vn ?_
 refine rs0 ?_
 iterate 4 refine vp ?_
 refine vn ?_
 cases h
 exact Wp.ret en0
end Go.Proofs.YtaebdeidbibfkaaGreatDoor
