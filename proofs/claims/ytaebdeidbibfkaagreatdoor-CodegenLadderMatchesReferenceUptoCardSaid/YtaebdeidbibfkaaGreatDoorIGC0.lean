/- Contracts: models of functions are right. No law is proved here. -/
import Derived.Test.YtaebdeidbibfkaaGreatDoorIGH
namespace Go.Proofs.YtaebdeidbibfkaaGreatDoor
open Go.Av Go.G
attribute [-simp] Int.natCast_tdiv_eq_ediv
attribute [local congr] Zx ZE Zy
attribute [-simp] Int.natCast_add Int.ofNat_toNat
variable [Drawn]
set_option maxHeartbeats 4000000
set_option linter.unusedSectionVars false
set_option maxRecDepth 20000
set_option linter.unusedSimpArgs false
set_option linter.unusedVariables false
theorem Z4e {n:Nat} {i_1:Int} {j2:Int} {l0:List ReduceEdge} {r:(List ReduceEdge)} (h:Z1b n i_1 j2 l0 = some r):ConH Tryz.prog G0 68 [.sl 0 0 l0.length,.int .i64 i_1,.int .i64 j2] [.arr 5 l0.length (rw (l0.map Zv))] (.sl 0 0 r.length) [.arr 5 r.length (rw (r.map Zv))]:=by
 refine ZA (T:=TT0) tt_ok Tryz.func68 (c:=_) (by unfold Tryz.f68; rfl) Tryz.ntmps68 (rs:=[.tmp 6]) (by rw [Tryz.results68]) (by unfold Tryz.f68; rfl) (by simp) (k:=1) rfl rfl ?_
 try simp only [Z3]
 have F:=True.intro
 dsimp only [Z1b] at h
 refine rs0 ?_
 refine vp ?_
 refine vn ?_
 refine rs0 ?_
 iterate 5 refine vp ?_
 refine gd h F fun F h=>?_
 refine vp ?_
 refine vn ?_
 refine Wp.seq ?_
 refine rs0 ?_
 iterate 3 refine vp ?_
 refine vn ?_
 refine sB h F (fun F h=>?_) fun F h=>?_
 refine cF ?_
 refine Wp.skip ?_
 refine sh ?_
 refine rs0 ?_
 iterate 3 refine vp ?_
 refine vn ?_
 refine dw (fun d=>Nat.beq d 26 || Nat.beq d 1026 || Nat.beq d 4026) [0] ?_
 refine du 2 ?_
 refine gd h F fun F h=>?_
 refine du 3 ?_
 refine gd h F fun F h=>?_
 refine du 1 ?_
 refine gd h F fun F h=>?_
 refine db ?_
 refine nmL Zv l0.length h F fun lc F h=>?_
 refine du 1 ?_
 refine dn ?_
 refine rs0 ?_
 iterate 4 refine vp ?_
 refine gd h F fun F h=>?_
 refine vp ?_
 refine gd h F fun F h=>?_
 refine vp ?_
 refine vn ?_
 refine rl [some 0] { ch:=[(0,.sl 0 0 (i_1.toNat + (l0.length - j2.toNat))),(1,.int .i64 i_1),(2,.int .i64 j2),(6,.nilsl),(7,.int .i64 (l0.length:Int)),(8,.sl 0 0 l0.length),(9,.int .i64 i_1),(10,.int .i64 j2),(11,.sl 0 0 l0.length),(12,.int .i64 (l0.length:Int)),(14,.int .i64 i_1),(15,.int .i64 j2),(16,.bool (i_1 == j2)),(18,.sl 0 0 l0.length),(19,.int .i64 (l0.length:Int)),(20,.sl 0 0 l0.length),(21,.int .i64 i_1),(22,.sl 0 0 i_1.toNat),(23,.sl 0 0 l0.length),(24,.int .i64 j2),(25,.sl 0 j2.toNat (l0.length - j2.toNat)),(26,.sl 0 0 (i_1.toNat + (l0.length - j2.toNat))),(27,.sl 0 0 (i_1.toNat + (l0.length - j2.toNat))),(28,.sl 0 0 (i_1.toNat + (l0.length - j2.toNat))),(29,.int .i64 (((i_1.toNat + (l0.length - j2.toNat)):Nat):Int)),(30,.int .i64 (l0.length:Int)),(31,.sl 0 (i_1.toNat + (l0.length - j2.toNat)) (l0.length - (i_1.toNat + (l0.length - j2.toNat))))],hp:=[.arr 5 (lc.take (i_1.toNat + (l0.length - j2.toNat))).length (rw ((lc.take (i_1.toNat + (l0.length - j2.toNat))).map Zv))],base:=1,n:=33,cond:=True,gl:=G0 } ?_
 refine rs0 ?_
 iterate 2 refine vp ?_
 refine vn ?_
 cases h
 exact Wp.ret (enH [some 0])
 refine cT ?_
 refine rs0 ?_
 iterate 2 refine vp ?_
 refine vn ?_
 cases h
 exact Wp.ret (enH [some 0])
theorem Z7W {n:Nat} {i_1:Int} {j2:Int} {l0:List Str} {r:(List Str)} (h:Z2f n i_1 j2 l0 = some r):ConH Tryz.prog G0 103 [.sl 0 0 l0.length,.int .i64 i_1,.int .i64 j2] [.arr 1 l0.length (rw (l0.map cS))] (.sl 0 0 r.length) [.arr 1 r.length (rw (r.map cS))]:=by
 refine ZA (T:=TT0) tt_ok Tryz.func103 (c:=_) (by unfold Tryz.f103; rfl) Tryz.ntmps103 (rs:=[.tmp 6]) (by rw [Tryz.results103]) (by unfold Tryz.f103; rfl) (by simp) (k:=1) rfl rfl ?_
 try simp only [Z3]
 have F:=True.intro
 dsimp only [Z2f] at h
 refine rs0 ?_
 refine vp ?_
 refine vn ?_
 refine rs0 ?_
 iterate 5 refine vp ?_
 refine gd h F fun F h=>?_
 refine vp ?_
 refine vn ?_
 refine Wp.seq ?_
 refine rs0 ?_
 iterate 3 refine vp ?_
 refine vn ?_
 refine sB h F (fun F h=>?_) fun F h=>?_
 refine cF ?_
 refine Wp.skip ?_
 refine sh ?_
 refine rs0 ?_
 iterate 3 refine vp ?_
 refine vn ?_
 refine dw (fun d=>Nat.beq d 26 || Nat.beq d 1026 || Nat.beq d 4026) [0] ?_
 refine du 2 ?_
 refine gd h F fun F h=>?_
 refine du 3 ?_
 refine gd h F fun F h=>?_
 refine du 1 ?_
 refine gd h F fun F h=>?_
 refine db ?_
 refine nmL cS l0.length h F fun ld F h=>?_
 refine du 1 ?_
 refine dn ?_
 refine rs0 ?_
 iterate 4 refine vp ?_
 refine gd h F fun F h=>?_
 refine vp ?_
 refine gd h F fun F h=>?_
 refine vp ?_
 refine vn ?_
 refine rl [some 0] { ch:=[(0,.sl 0 0 (i_1.toNat + (l0.length - j2.toNat))),(1,.int .i64 i_1),(2,.int .i64 j2),(6,.nilsl),(7,.int .i64 (l0.length:Int)),(8,.sl 0 0 l0.length),(9,.int .i64 i_1),(10,.int .i64 j2),(11,.sl 0 0 l0.length),(12,.int .i64 (l0.length:Int)),(14,.int .i64 i_1),(15,.int .i64 j2),(16,.bool (i_1 == j2)),(18,.sl 0 0 l0.length),(19,.int .i64 (l0.length:Int)),(20,.sl 0 0 l0.length),(21,.int .i64 i_1),(22,.sl 0 0 i_1.toNat),(23,.sl 0 0 l0.length),(24,.int .i64 j2),(25,.sl 0 j2.toNat (l0.length - j2.toNat)),(26,.sl 0 0 (i_1.toNat + (l0.length - j2.toNat))),(27,.sl 0 0 (i_1.toNat + (l0.length - j2.toNat))),(28,.sl 0 0 (i_1.toNat + (l0.length - j2.toNat))),(29,.int .i64 (((i_1.toNat + (l0.length - j2.toNat)):Nat):Int)),(30,.int .i64 (l0.length:Int)),(31,.sl 0 (i_1.toNat + (l0.length - j2.toNat)) (l0.length - (i_1.toNat + (l0.length - j2.toNat))))],hp:=[.arr 1 (ld.take (i_1.toNat + (l0.length - j2.toNat))).length (rw ((ld.take (i_1.toNat + (l0.length - j2.toNat))).map cS))],base:=1,n:=33,cond:=True,gl:=G0 } ?_
 refine rs0 ?_
 iterate 2 refine vp ?_
 refine vn ?_
 cases h
 exact Wp.ret (enH [some 0])
 refine cT ?_
 refine rs0 ?_
 iterate 2 refine vp ?_
 refine vn ?_
 cases h
 exact Wp.ret (enH [some 0])
end Go.Proofs.YtaebdeidbibfkaaGreatDoor
