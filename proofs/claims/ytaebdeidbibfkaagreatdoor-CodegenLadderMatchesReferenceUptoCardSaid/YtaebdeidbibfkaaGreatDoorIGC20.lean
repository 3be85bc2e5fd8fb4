/- Contracts: models of functions are right. No law is proved here. -/
import Derived.Test.YtaebdeidbibfkaaGreatDoorIGH
import Derived.Test.YtaebdeidbibfkaaGreatDoorIGC2
import Derived.Test.YtaebdeidbibfkaaGreatDoorIGC15
import Derived.Test.YtaebdeidbibfkaaGreatDoorIGC19
namespace Go.Proofs.YtaebdeidbibfkaaGreatDoor
open Go.Av Go.G
attribute [-simp] Int.natCast_tdiv_eq_ediv
attribute [local congr] Zx ZE Zy
variable [Drawn]
set_option maxHeartbeats 4000000
set_option linter.unusedSectionVars false
set_option maxRecDepth 20000
set_option linter.unusedSimpArgs false
set_option linter.unusedVariables false
theorem Za5 {n:Nat} {r_0:ApiRung} {slot1:Int} {r:(List ApiIns) × Int} (h:Z3e n r_0 slot1 = some r):Con Tryz.prog G0 83 [.agg (Z7 r_0),.int .i64 slot1] (.tup [aL Zb r.1,.int .i64 r.2]) []:=by
 refine Za (T:=TT0) tt_ok Tryz.func83 (c:=_) (by unfold Tryz.f83; rfl) Tryz.ntmps83 (rs:=[.tmp 4,.tmp 5]) (by rw [Tryz.results83]) (by unfold Tryz.f83; rfl) (by simp) ?_
 simp only [Z3]
 have F:=True.intro
 dsimp only [Z3e] at h
 refine rs0 ?_
 iterate 3 refine vp ?_
 refine vn ?_
 refine rs0 ?_
 refine vp ?_
 obtain ⟨⟨ra,rb⟩,hr15206,h⟩:=obind h
 dsimp only at h
 refine vc (Zcb hr15206) ?_
 iterate 6 refine vp ?_
 refine vn ?_
 refine Wp.seq ?_
 refine rs0 ?_
 iterate 2 refine vp ?_
 refine vn ?_
 refine sB h F (fun F h=>?_) fun F h=>?_
 refine cF ?_
 refine Wp.skip ?_
 refine sh ?_
 refine rs0 ?_
 iterate 3 refine vp ?_
 refine gd h F fun F h=>?_
 refine vp ?_
 refine nm cB h F fun lc F h=>?_
 refine vp ?_
 refine vn ?_
 refine jn (fun ld:List Bool=>{ ch:=[(1,.int .i64 slot1),(2,.hptr 0 0 0),(6,.hptr 1 0 0),(8,.sl 2 0 ld.length)],hp:=[.var [.str r_0.Label,aL Z0 r_0.Contacts,aL Z4 r_0.Coils,.str r_0.Jump],.var [.int .i64 ra.Kind,.int .i64 ra.N,aL Z6 ra.Kids],.arr 1 ld.length (rw (ld.map cB))],base:=0,n:=57,cond:=True,gl:=G0 }) (fun x=>Z34 n r_0 slot1 ra x = some r) ?_ ?_
 clear h
 rintro ld h
 dsimp only [Z34] at h
 try dsimp only
 refine rs0 ?_
 iterate 2 refine vp ?_
 obtain ⟨⟨re,rf⟩,hr15341,h⟩:=obind h
 dsimp only at h
 refine vc (ZaD hr15341) ?_
 iterate 5 refine vp ?_
 refine vn ?_
 refine Wp.seq ?_
 refine Wp.block ?_
 refine rs0 ?_
 iterate 3 refine vp ?_
 refine vn ?_
 refine sB h F (fun F h=>?_) fun F h=>?_
 refine cF ?_
 refine rs0 ?_
 iterate 3 refine vp ?_
 refine vn ?_
 refine sD h F (fun F h=>?_) fun F h=>?_
 refine cF ?_
 refine Wp.skip ?_
 refine sh ?_
 refine rs0 ?_
 iterate 3 refine vp ?_
 obtain ⟨⟨rh,ri⟩,hr15892,h⟩:=obind h
 dsimp only at h
 refine vc (ZcJ hr15892) ?_
 iterate 4 refine vp ?_
 refine vn ?_
 cases h
 exact Wp.ret en0
 refine cT ?_
 refine rs0 ?_
 iterate 2 refine vp ?_
 refine vn ?_
 cases h
 exact Wp.ret en0
 refine cT ?_
 refine rs0 ?_
 iterate 3 refine vp ?_
 refine vn ?_
 cases h
 exact Wp.ret en0
 refine rs0 ?_
 iterate 4 refine vp ?_
 refine vn ?_
 refine Wp.block ?_
 refine lp [some 0,some 1,some 2] (fun x:Int × (List Bool)=>{ ch:=[(1,.int .i64 slot1),(2,.hptr 0 0 0),(6,.hptr 1 0 0),(8,.sl 2 0 x.2.length),(25,aL Z0 r_0.Contacts),(26,.int .i64 (r_0.Contacts.length:Int)),(27,.int .i64 x.1)],hp:=[.var [.str r_0.Label,aL Z0 r_0.Contacts,aL Z4 r_0.Coils,.str r_0.Jump],.var [.int .i64 ra.Kind,.int .i64 ra.N,aL Z6 ra.Kids],.arr 1 x.2.length (rw (x.2.map cB))],base:=0,n:=57,cond:=True,gl:=G0 }) (fun m x=>Z2n n r_0 slot1 ra m x.1 x.2 = some r) n (0,lc) h ?_
 rintro rj ⟨pk,lm⟩ h
 dsimp only [Z2n] at h
 try dsimp only
 refine rs0 ?_
 refine vp ?_
 refine vn ?_
 refine Wp.seq ?_
 refine sD h F (fun F h=>?_) fun F h=>?_
 refine cF ?_
 refine Wp.exit ?_
 exact nx [some 0,some 1,some 2] lm h
 refine cT ?_
 refine Wp.skip ?_
 refine sh ?_
 refine Wp.seq ?_
 refine Wp.block ?_
 refine rs0 ?_
 refine vp ?_
 refine eI h F fun xn F h=>?_
 iterate 5 refine vp ?_
 refine vn ?_
 refine rg0 ?_
 iterate 3 refine vp ?_
 obtain ⟨rp,hr15908,h⟩:=obind h
 refine vc (Z6K hr15908) ?_
 refine eI h F fun xq F h=>?_
 iterate 2 refine vp ?_
 refine nm cB h F fun lr F h=>?_
 refine vn ?_
 refine sh ?_
 refine rg0 ?_
 iterate 2 refine vp ?_
 refine vn ?_
 exact nx [some 0,some 1,some 2] ((IntKind.i64.wrap (pk + 1)),lr) h
 refine cT ?_
 refine rs0 ?_
 iterate 3 refine vp ?_
 refine vn ?_
 cases h
 exact Wp.ret en0
end Go.Proofs.YtaebdeidbibfkaaGreatDoor
