/- Contracts: models of functions are right. No law is proved here. -/
import Derived.Test.YtaebdeidbibfkaaGreatDoorIGH
import Derived.Test.YtaebdeidbibfkaaGreatDoorIGC0
import Derived.Test.YtaebdeidbibfkaaGreatDoorIGC2
import Derived.Test.YtaebdeidbibfkaaGreatDoorIGC3
import Derived.Test.YtaebdeidbibfkaaGreatDoorIGC4
import Derived.Test.YtaebdeidbibfkaaGreatDoorIGC5
import Derived.Test.YtaebdeidbibfkaaGreatDoorIGC8
import Derived.Test.YtaebdeidbibfkaaGreatDoorIGC9
import Derived.Test.YtaebdeidbibfkaaGreatDoorIGC13
import Derived.Test.YtaebdeidbibfkaaGreatDoorIGC14
namespace Go.Proofs.YtaebdeidbibfkaaGreatDoor
open Go.Av Go.G
attribute [-simp] Int.natCast_tdiv_eq_ediv
attribute [local congr] Zx ZE Zy
variable [Drawn]
set_option maxHeartbeats 4000000
set_option linter.unusedSectionVars false
set_option maxRecDepth 20000
set_option linter.unusedSimpArgs false
set_option linter.unusedVariables false
theorem ZcJ {n:Nat} {r_0:ApiRung} {t1:TreeTree} {slot2:Int} {r:(List ApiIns) × Int} (h:Z5W n r_0 t1 slot2 = some r):Con Tryz.prog G0 17 [.agg (Z7 r_0),.agg [.int .i64 t1.Kind,.int .i64 t1.N,aL Z6 t1.Kids],.int .i64 slot2] (.tup [aL Zb r.1,.int .i64 r.2]) []:=by
 refine Za (T:=TT0) tt_ok Tryz.func17 (c:=_) (by unfold Tryz.f17; rfl) Tryz.ntmps17 (rs:=[.tmp 6,.tmp 7]) (by rw [Tryz.results17]) (by unfold Tryz.f17; rfl) (by simp) ?_
 simp only [Z3]
 have F:=True.intro
 dsimp only [Z5W] at h
 refine rs0 ?_
 iterate 4 refine vp ?_
 refine vn ?_
 refine Wp.seq ?_
 refine rs0 ?_
 iterate 4 refine vp ?_
 obtain ⟨ra,hr15346,h⟩:=obind h
 refine vc (Z9B hr15346) ?_
 refine vp ?_
 refine vn ?_
 refine rs0 ?_
 iterate 2 refine vp ?_
 refine vn ?_
 refine sB h F (fun F h=>?_) fun F h=>?_
 refine cF ?_
 refine Wp.skip ?_
 refine sh ?_
 refine Wp.seq ?_
 refine rs0 ?_
 iterate 2 refine vp ?_
 obtain ⟨rb,hr15362,h⟩:=obind h
 refine vc (Z5r hr15362) ?_
 refine vn ?_
 refine sB h F (fun F h=>?_) fun F h=>?_
 refine cF ?_
 refine Wp.skip ?_
 refine sh ?_
 refine Wp.seq ?_
 refine rs0 ?_
 iterate 3 refine vp ?_
 refine sD h F (fun F h=>?_) fun F h=>?_
 refine vg ?_
 refine vg ?_
 refine vp ?_
 refine vn ?_
 refine sD h F (fun F h=>?_) fun F h=>?_
 refine cF ?_
 refine Wp.skip ?_
 refine sh ?_
 refine dw (fun _=>false) [0] ?_
 refine du 4 ?_
 refine gd h F fun F h=>?_
 refine de ?_
 refine nm (cI .i64) h F fun lc F h=>?_
 refine du 1 ?_
 refine de ?_
 refine du 1 ?_
 refine dn ?_
 refine jn (fun ld:List Int=>{ ch:=[(4,.hptr 0 0 0),(9,.hptr 1 0 0)],hp:=[.var [.int .i64 t1.Kind,.int .i64 t1.N,aL Z6 t1.Kids],.var [.str r_0.Label,aL Z0 r_0.Contacts,aL Z4 r_0.Coils,.str r_0.Jump,.sl 2 0 ld.length,.nilsl],.arr 1 ld.length (rw (ld.map (cI .i64)))],base:=0,n:=63,cond:=True,gl:=G0 }) (fun x=>Z4x n r_0 t1 x = some r) ?_ ?_
 clear h
 rintro ld h
 dsimp only [Z4x] at h
 try dsimp only
 refine rs0 ?_
 iterate 2 refine vp ?_
 refine vl [some 0,some 1,some 2,none] { ch:=[(4,.hptr 0 0 0),(9,.hptr 1 0 0),(56,.hptr 1 0 0),(57,.agg [.int .i64 t1.Kind,.int .i64 t1.N,aL Z6 t1.Kids])],hp:=[.var [.int .i64 t1.Kind,.int .i64 t1.N,aL Z6 t1.Kids],.var [.str r_0.Label,aL Z0 r_0.Contacts,aL Z4 r_0.Coils,.str r_0.Jump,.sl 2 0 ld.length,.sl 3 0 0],.arr 1 ld.length (rw (ld.map (cI .i64))),.arr 4 ([]:List ApiIns).length (rw (([]:List ApiIns).map Zb))],base:=0,n:=63,cond:=True,gl:=G0 } ?_
 obtain ⟨qe,hr15872,h⟩:=obind h
 refine vh [1,2,3] (Z8s _ hr15872) ?_
 refine vn ?_
 refine rs0 ?_
 iterate 6 refine vp ?_
 refine vn ?_
 cases h
 exact Wp.ret en0
 refine rs0 ?_
 iterate 4 refine vp ?_
 refine vn ?_
 refine Wp.block ?_
 refine lp [some 1,some 3,some 2] (fun x:Int × Int × (List Int)=>{ ch:=[(2,.int .i64 x.1),(4,.hptr 0 0 0),(9,.hptr 1 0 0),(37,aL Z0 r_0.Contacts),(38,.int .i64 (r_0.Contacts.length:Int)),(39,.int .i64 x.2.1)],hp:=[.var [.int .i64 t1.Kind,.int .i64 t1.N,aL Z6 t1.Kids],.var [.str r_0.Label,aL Z0 r_0.Contacts,aL Z4 r_0.Coils,.str r_0.Jump,.sl 2 0 x.2.2.length,.nilsl],.arr 1 x.2.2.length (rw (x.2.2.map (cI .i64)))],base:=0,n:=63,cond:=True,gl:=G0 }) (fun m x=>Z2J n r_0 t1 m x.1 x.2.1 x.2.2 = some r) n (slot2,0,lc) h ?_
 rintro rf ⟨slot15879,pg,lh⟩ h
 dsimp only [Z2J] at h
 try dsimp only
 refine rs0 ?_
 refine vp ?_
 refine vn ?_
 refine Wp.seq ?_
 refine sD h F (fun F h=>?_) fun F h=>?_
 refine cF ?_
 refine Wp.exit ?_
 exact nx [some 0,some 1,some 2] lh h
 refine cT ?_
 refine Wp.skip ?_
 refine sh ?_
 refine Wp.seq ?_
 refine Wp.block ?_
 refine rs0 ?_
 refine vp ?_
 refine eI h F fun xi F h=>?_
 iterate 5 refine vp ?_
 refine vn ?_
 refine rs0 ?_
 refine vp ?_
 obtain ⟨rj,hr15888,h⟩:=obind h
 refine vc (Z6K hr15888) ?_
 refine vn ?_
 refine sB h F (fun F h=>?_) fun F h=>?_
 refine cF ?_
 refine Wp.skip ?_
 refine sh ?_
 refine rg0 ?_
 iterate 2 refine vp ?_
 refine vn ?_
 exact nx [some 0,some 1,some 2] (slot15879,(IntKind.i64.wrap (pg + 1)),lh) h
 refine cT ?_
 refine rs0 ?_
 iterate 6 refine vp ?_
 refine eI h F fun xk F h=>?_
 iterate 2 refine vp ?_
 refine nm (cI .i64) h F fun lm F h=>?_
 refine vn ?_
 refine rg0 ?_
 iterate 3 refine vp ?_
 refine vn ?_
 refine sh ?_
 refine rg0 ?_
 iterate 2 refine vp ?_
 refine vn ?_
 exact nx [some 0,some 1,some 2] ((IntKind.i64.wrap (slot15879 + 1)),(IntKind.i64.wrap (pg + 1)),lm) h
 refine cT ?_
 refine rs0 ?_
 iterate 2 refine vp ?_
 refine vn ?_
 cases h
 exact Wp.ret en0
 refine vs ?_
 refine vs ?_
 refine vp ?_
 refine vn ?_
 refine cT ?_
 refine rs0 ?_
 iterate 2 refine vp ?_
 refine vn ?_
 cases h
 exact Wp.ret en0
 refine cT ?_
 refine rs0 ?_
 iterate 2 refine vp ?_
 refine vn ?_
 cases h
 exact Wp.ret en0
 refine cT ?_
 refine rs0 ?_
 iterate 3 refine vp ?_
 refine vn ?_
 cases h
 exact Wp.ret en0
theorem Zbd {n:Nat} {r_0:ApiRung} {r:(List Str) × Int} (h:Z2F n r_0 = some r):Con Tryz.prog G0 63 [.agg (Z7 r_0)] (.tup [aL cS r.1,.int .i64 r.2]) []:=by
 refine Za (T:=TT0) tt_ok Tryz.func63 (c:=_) (by unfold Tryz.f63; rfl) Tryz.ntmps63 (rs:=[.tmp 2,.tmp 3]) (by rw [Tryz.results63]) (by unfold Tryz.f63; rfl) (by simp) ?_
 simp only [Z3]
 have F:=True.intro
 dsimp only [Z2F] at h
 refine rs0 ?_
 iterate 3 refine vp ?_
 refine vn ?_
 refine rs (fun d=>Nat.beq d 9) ?_
 refine vp ?_
 obtain ⟨rn,hr13168,h⟩:=obind h
 refine vc (Z4w hr13168) ?_
 refine vp ?_
 refine vn ?_
 refine rs0 ?_
 iterate 3 refine vp ?_
 refine vn ?_
 refine rs0 ?_
 refine vp ?_
 refine vn ?_
 refine Wp.seq ?_
 refine Wp.block ?_
 refine lp [some 0,some 1,some 3,some 2,none] (fun x:(List Str) × (List (Str × Bool)) × (List Str)=>{ ch:=[(1,.hptr 0 0 0),(4,.sl 1 0 x.1.length),(5,.hptr 2 0 0),(6,.sl 4 0 x.2.2.length)],hp:=[.var [.str r_0.Label,aL Z0 r_0.Contacts,aL Z4 r_0.Coils,.str r_0.Jump],.arr 1 x.1.length (rw (x.1.map cS)),.var [.mp 3],.map (mAV AV.str cB x.2.1),.arr 1 x.2.2.length (rw (x.2.2.map cS))],base:=0,n:=37,cond:=True,gl:=G0 }) (fun m x=>ZT n r_0 m x.1 x.2.1 x.2.2 = some r) n (rn,[],[]) h ?_
 rintro rp ⟨rq,pt,pu⟩ h
 dsimp only [ZT] at h
 try dsimp only
 refine Wp.seq ?_
 refine rs0 ?_
 iterate 3 refine vp ?_
 refine vn ?_
 refine sD h F (fun F h=>?_) fun F h=>?_
 refine cF ?_
 refine Wp.exit ?_
 refine sh ?_
 refine rs0 ?_
 iterate 3 refine vp ?_
 refine vn ?_
 cases h
 exact Wp.ret en0
 refine cT ?_
 refine Wp.skip ?_
 refine sh ?_
 refine Wp.block ?_
 refine rs0 ?_
 iterate 2 refine vp ?_
 obtain ⟨rv,hr13280,h⟩:=obind h
 refine vh [1,0,2,3] (Z6f hr13280) ?_
 refine vp ?_
 refine vn ?_
 refine Wp.seq ?_
 refine rs0 ?_
 iterate 2 refine vp ?_
 refine vn ?_
 refine sD h F (fun F h=>?_) fun F h=>?_
 refine cF ?_
 refine Wp.skip ?_
 refine sh ?_
 refine dw (fun _=>false) [1,2,3] ?_
 refine du 3 ?_
 refine eI h F fun xw F h=>?_
 refine du 2 ?_
 refine db ?_
 refine dn ?_
 refine rs (fun d=>Nat.beq d 30) ?_
 iterate 6 refine vp ?_
 refine gd h F fun F h=>?_
 refine vp ?_
 refine nm cS h F fun lA F h=>?_
 refine vp ?_
 refine vn ?_
 refine rg0 ?_
 iterate 4 refine vp ?_
 obtain ⟨qB,hr13284,h⟩:=obind h
 refine vh [1] (Z7W hr13284) ?_
 refine vp ?_
 refine vn ?_
 exact nx [some 0,some 1,some 2,some 3,some 5] (qB,(mPut pt xw true),lA) h
 refine cT ?_
 refine rs0 ?_
 iterate 2 refine vp ?_
 refine vn ?_
 cases h
 exact Wp.ret en0
theorem Z9n {n:Nat} {r_0:ApiRung} {node1:Str} {b0:ApiRung} {r:(List Str)} (h:Z3T n r_0 node1 b0 = some r):ConH Tryz.prog G0 135 [.agg (Z7 r_0),.str node1,.clos 136 [] [.hptr 0 0 0]] [.var [.str b0.Label,aL Z0 b0.Contacts,aL Z4 b0.Coils,.str b0.Jump]] (aL cS r) [.var [.str b0.Label,aL Z0 b0.Contacts,aL Z4 b0.Coils,.str b0.Jump]]:=by
 refine ZA (T:=TT0) tt_ok Tryz.func135 (c:=_) (by unfold Tryz.f135; rfl) Tryz.ntmps135 (rs:=[.tmp 6]) (by rw [Tryz.results135]) (by unfold Tryz.f135; rfl) (by simp) (k:=1) rfl rfl ?_
 try simp only [Z3]
 have F:=True.intro
 dsimp only [Z3T] at h
 refine rs0 ?_
 iterate 3 refine vp ?_
 refine vn ?_
 refine rs (fun d=>Nat.beq d 11) ?_
 refine vp ?_
 obtain ⟨rC,hr14430,h⟩:=obind h
 refine vc (Z4w hr14430) ?_
 refine vp ?_
 refine vn ?_
 refine Wp.seq ?_
 refine rs0 ?_
 iterate 2 refine vp ?_
 obtain ⟨rD,hr14434,h⟩:=obind h
 refine vc (Z2t hr14434) ?_
 refine vp ?_
 refine vn ?_
 refine sB h F (fun F h=>?_) fun F h=>?_
 refine cF ?_
 refine Wp.skip ?_
 refine sh ?_
 refine rs0 ?_
 iterate 3 refine vp ?_
 refine vn ?_
 refine rs0 ?_
 refine vp ?_
 refine vn ?_
 refine rs0 ?_
 iterate 2 refine vp ?_
 refine vn ?_
 refine rs0 ?_
 iterate 2 refine vp ?_
 obtain ⟨qE,hr14436,h⟩:=obind h
 refine vh [5,4,2,0,6] (Z7P _ hr14436) ?_
 refine vn ?_
 refine rs0 ?_
 iterate 2 refine vp ?_
 obtain ⟨qF,hr14438,h⟩:=obind h
 refine vh [3,5,4] (Z3q hr14438) ?_
 refine vp ?_
 refine vn ?_
 cases h
 exact Wp.ret (enH [some 0])
 refine cT ?_
 refine rs0 ?_
 refine vp ?_
 refine vn ?_
 cases h
 exact Wp.ret (enH [some 0])
theorem Z9F {n:Nat} {r_0:ApiRung} {node1:Str} {b0:ApiRung} {r:(List Str)} (h:Z3U n r_0 node1 b0 = some r):ConH Tryz.prog G0 135 [.agg (Z7 r_0),.str node1,.clos 138 [] [.hptr 0 0 0]] [.var [.str b0.Label,aL Z0 b0.Contacts,aL Z4 b0.Coils,.str b0.Jump]] (aL cS r) [.var [.str b0.Label,aL Z0 b0.Contacts,aL Z4 b0.Coils,.str b0.Jump]]:=by
 refine ZA (T:=TT0) tt_ok Tryz.func135 (c:=_) (by unfold Tryz.f135; rfl) Tryz.ntmps135 (rs:=[.tmp 6]) (by rw [Tryz.results135]) (by unfold Tryz.f135; rfl) (by simp) (k:=1) rfl rfl ?_
 try simp only [Z3]
 have F:=True.intro
 dsimp only [Z3U] at h
 refine rs0 ?_
 iterate 3 refine vp ?_
 refine vn ?_
 refine rs (fun d=>Nat.beq d 11) ?_
 refine vp ?_
 obtain ⟨rG,hr14635,h⟩:=obind h
 refine vc (Z4w hr14635) ?_
 refine vp ?_
 refine vn ?_
 refine Wp.seq ?_
 refine rs0 ?_
 iterate 2 refine vp ?_
 obtain ⟨rH,hr14639,h⟩:=obind h
 refine vc (Z2t hr14639) ?_
 refine vp ?_
 refine vn ?_
 refine sB h F (fun F h=>?_) fun F h=>?_
 refine cF ?_
 refine Wp.skip ?_
 refine sh ?_
 refine rs0 ?_
 iterate 3 refine vp ?_
 refine vn ?_
 refine rs0 ?_
 refine vp ?_
 refine vn ?_
 refine rs0 ?_
 iterate 2 refine vp ?_
 refine vn ?_
 refine rs0 ?_
 iterate 2 refine vp ?_
 obtain ⟨qI,hr14641,h⟩:=obind h
 refine vh [5,4,2,0,6] (Z7V _ hr14641) ?_
 refine vn ?_
 refine rs0 ?_
 iterate 2 refine vp ?_
 obtain ⟨qJ,hr14643,h⟩:=obind h
 refine vh [3,5,4] (Z3q hr14643) ?_
 refine vp ?_
 refine vn ?_
 cases h
 exact Wp.ret (enH [some 0])
 refine cT ?_
 refine rs0 ?_
 refine vp ?_
 refine vn ?_
 cases h
 exact Wp.ret (enH [some 0])
theorem ZdY {n:Nat} {r_0:ApiRung} {r:Int} (h:Z6u n r_0 = some r):Con Tryz.prog G0 42 [.agg (Z7 r_0)] (.int .i64 r) []:=by
 refine Za (T:=TT0) tt_ok Tryz.func42 (c:=_) (by unfold Tryz.f42; rfl) Tryz.ntmps42 (rs:=[.tmp 2]) (by rw [Tryz.results42]) (by unfold Tryz.f42; rfl) (by simp) ?_
 simp only [Z3]
 have F:=True.intro
 dsimp only [Z6u] at h
 refine rs0 ?_
 iterate 2 refine vp ?_
 refine vn ?_
 refine Wp.seq ?_
 refine rs0 ?_
 iterate 4 refine vp ?_
 refine vn ?_
 refine sB h F (fun F h=>?_) fun F h=>?_
 refine cF ?_
 refine Wp.skip ?_
 refine sh ?_
 refine rs0 ?_
 refine vp ?_
 obtain ⟨⟨rK,rL⟩,hr38198,h⟩:=obind h
 dsimp only at h
 refine vc (ZbN hr38198) ?_
 iterate 5 refine vp ?_
 refine vn ?_
 refine Wp.seq ?_
 refine rs0 ?_
 iterate 2 refine vp ?_
 refine vn ?_
 refine sB h F (fun F h=>?_) fun F h=>?_
 refine cF ?_
 refine Wp.skip ?_
 refine sh ?_
 refine Wp.seq ?_
 refine rs0 ?_
 refine vp ?_
 obtain ⟨rM,hr38846,h⟩:=obind h
 refine vc (ZaH hr38846) ?_
 iterate 2 refine vp ?_
 refine vn ?_
 refine sD h F (fun F h=>?_) fun F h=>?_
 refine cF ?_
 refine Wp.skip ?_
 refine sh ?_
 refine rs0 ?_
 refine vp ?_
 refine vn ?_
 cases h
 exact Wp.ret en0
 refine cT ?_
 refine rs0 ?_
 refine vp ?_
 refine vn ?_
 cases h
 exact Wp.ret en0
 refine cT ?_
 refine rs0 ?_
 iterate 2 refine vp ?_
 refine vn ?_
 cases h
 exact Wp.ret en0
 refine cT ?_
 refine rs0 ?_
 refine vp ?_
 refine vn ?_
 cases h
 exact Wp.ret en0
theorem ZaD {n:Nat} {t0:TreeTree} {edge1:List Bool} {r:Int × Int} (h:Z4y n t0 edge1 = some r):Con Tryz.prog G0 123 [.agg [.int .i64 t0.Kind,.int .i64 t0.N,aL Z6 t0.Kids],aL cB edge1] (.tup [.int .i64 r.1,.int .i64 r.2]) []:=by
 refine Za (T:=TT0) tt_ok Tryz.func123 (c:=_) (by unfold Tryz.f123; rfl) Tryz.ntmps123 (rs:=[.tmp 4,.tmp 5]) (by rw [Tryz.results123]) (by unfold Tryz.f123; rfl) (by simp) ?_
 simp only [Z3]
 have F:=True.intro
 dsimp only [Z4y] at h
 refine rs0 ?_
 iterate 3 refine vp ?_
 refine vn ?_
 refine Wp.seq ?_
 refine rs0 ?_
 iterate 3 refine vp ?_
 obtain ⟨rN,hr15311,h⟩:=obind h
 refine vc (Z9B hr15311) ?_
 refine vp ?_
 refine vn ?_
 refine rs0 ?_
 iterate 2 refine vp ?_
 refine vn ?_
 refine sB h F (fun F h=>?_) fun F h=>?_
 refine cF ?_
 refine Wp.skip ?_
 refine sh ?_
 refine rs0 ?_
 iterate 2 refine vp ?_
 obtain ⟨rO,hr15339,h⟩:=obind h
 refine vc (Zaz _ hr15339) ?_
 iterate 2 refine vp ?_
 refine vn ?_
 cases h
 exact Wp.ret en0
 refine cT ?_
 refine rs0 ?_
 iterate 3 refine vp ?_
 refine vn ?_
 cases h
 exact Wp.ret en0
end Go.Proofs.YtaebdeidbibfkaaGreatDoor
