/- Contracts: models of functions are right. No law is proved here. -/
import Derived.Test.YtaebdeidbibfkaaGreatDoorIGH
import Derived.Test.YtaebdeidbibfkaaGreatDoorIGC1
import Derived.Test.YtaebdeidbibfkaaGreatDoorIGC3
import Derived.Test.YtaebdeidbibfkaaGreatDoorIGC6
import Derived.Test.YtaebdeidbibfkaaGreatDoorIGC8
import Derived.Test.YtaebdeidbibfkaaGreatDoorIGC9
namespace Go.Proofs.YtaebdeidbibfkaaGreatDoor
open Go.Av Go.G
attribute [-simp] Int.natCast_tdiv_eq_ediv
attribute [local congr] Zx ZE Zy
variable [Drawn]
set_option maxHeartbeats 4000000
set_option linter.unusedSectionVars false
set_option maxRecDepth 20000
set_option linter.unusedSimpArgs false
set_option linter.unusedVariables false
theorem Zes {n:Nat} {ab:List Ref15Edge} {r:(List Ref15Edge) × Bool} (h:Z69 n ab = some r):Con Tryz.prog G0 43 [aL ZR ab] (.tup [aL ZR r.1,.bool r.2]) []:=by
 refine Za (T:=TT0) tt_ok Tryz.func43 (c:=_) (by unfold Tryz.f43; rfl) Tryz.ntmps43 (rs:=[.tmp 2,.tmp 3]) (by rw [Tryz.results43]) (by unfold Tryz.f43; rfl) (by simp) ?_
 simp only [Z3]
 have F:=True.intro
 dsimp only [Z69] at h
 refine rs0 ?_
 iterate 2 refine vp ?_
 refine vn ?_
 refine Wp.seq ?_
 refine rs0 ?_
 refine vp ?_
 refine vn ?_
 refine Wp.block ?_
 refine lp [] (fun pd:Int=>{ ch:=[(0,aL ZR ab),(4,.int .i64 pd)],hp:=[],base:=0,n:=154,cond:=True,gl:=G0 }) (fun m x=>Z28 n ab m x = some r) n 0 h ?_
 rintro re pd h
 dsimp only [Z28] at h
 try dsimp only
 refine Wp.seq ?_
 refine rs0 ?_
 iterate 4 refine vp ?_
 refine vn ?_
 refine sD h F (fun F h=>?_) fun F h=>?_
 refine cF ?_
 refine Wp.exit ?_
 refine sh ?_
 refine rs0 ?_
 iterate 3 refine vp ?_
 refine vn ?_
 cases h
 exact Wp.ret en0
 refine cT ?_
 refine Wp.skip ?_
 refine sh ?_
 refine Wp.seq ?_
 refine Wp.block ?_
 refine rs0 ?_
 refine vp ?_
 refine vn ?_
 refine Wp.block ?_
 refine lp [] (fun pf:Int=>{ ch:=[(0,aL ZR ab),(4,.int .i64 pd),(5,.int .i64 pf)],hp:=[],base:=0,n:=154,cond:=True,gl:=G0 }) (fun m x=>Z1m n ab pd (Z28 n ab re) m x = some r) n 0 h ?_
 rintro rh pf h
 dsimp only [Z1m] at h
 try dsimp only
 refine Wp.seq ?_
 refine rs0 ?_
 iterate 4 refine vp ?_
 refine vn ?_
 refine sD h F (fun F h=>?_) fun F h=>?_
 refine cF ?_
 refine Wp.exit ?_
 refine sh ?_
 refine rg0 ?_
 iterate 3 refine vp ?_
 refine vn ?_
 exact nx [] (IntKind.i64.wrap (pd + 1)) h
 refine cT ?_
 refine Wp.skip ?_
 refine sh ?_
 refine Wp.seq ?_
 refine Wp.block ?_
 refine jn (fun _:Unit=>{ ch:=[(0,aL ZR ab),(4,.int .i64 pd),(5,.int .i64 pf)],hp:=[],base:=0,n:=154,cond:=True,gl:=G0 }) (fun x=>Z29 n ab pd pf (Z1m n ab pd (Z28 n ab re) rh) = some r) ?_ ?_
 clear h
 rintro _ h
 dsimp only [Z29] at h
 try dsimp only
 refine Wp.seq ?_
 refine dw (fun _=>false) [] ?_
 refine du 4 ?_
 refine sB h F (fun F h=>?_) fun F h=>?_
 refine du 1 ?_
 refine du 1 ?_
 refine eI h F fun xi F h=>?_
 refine du 1 ?_
 refine du 1 ?_
 refine du 1 ?_
 refine du 1 ?_
 refine du 1 ?_
 refine eI h F fun xj F h=>?_
 refine du 1 ?_
 refine du 1 ?_
 refine du 1 ?_
 refine du 1 ?_
 refine du 2 ?_
 refine sEn h F (fun _ F h=>?_) fun _ F h=>?_
 refine du 1 ?_
 refine du 1 ?_
 refine du 1 ?_
 refine du 1 ?_
 refine du 1 ?_
 refine du 1 ?_
 refine du 2 ?_
 refine sE h F (fun _ F h=>?_) fun _ F h=>?_
 refine du 1 ?_
 refine du 1 ?_
 refine du 1 ?_
 refine du 1 ?_
 refine du 1 ?_
 refine du 1 ?_
 refine du 1 ?_
 refine dn ?_
 refine sE h F (fun _ F h=>?_) fun _ F h=>?_
 refine cF ?_
 refine Wp.skip ?_
 refine sh ?_
 refine rs0 ?_
 iterate 6 refine vp ?_
 obtain ⟨⟨rm,rn⟩,hr40650,h⟩:=obind h
 dsimp only at h
 refine vc (ZeH hr40650) ?_
 iterate 5 refine vp ?_
 refine vn ?_
 refine rs0 ?_
 iterate 3 refine vp ?_
 refine sB h F (fun F h=>?_) fun F h=>?_
 refine vs ?_
 refine vs ?_
 refine vp ?_
 refine vn ?_
 refine cF ?_
 refine Wp.skip ?_
 refine sh ?_
 refine rg0 ?_
 iterate 3 refine vp ?_
 refine vn ?_
 exact nx [] (IntKind.i64.wrap (pf + 1)) h
 refine vg ?_
 refine vg ?_
 refine vp ?_
 refine vn ?_
 refine sB h F (fun F h=>?_) fun F h=>?_
 refine cF ?_
 refine Wp.skip ?_
 refine sh ?_
 refine rg0 ?_
 iterate 3 refine vp ?_
 refine vn ?_
 exact nx [] (IntKind.i64.wrap (pf + 1)) h
 refine cT ?_
 refine dw (fun d=>Nat.beq d 128 || Nat.beq d 152 || Nat.beq d 1152) [] ?_
 refine du 3 ?_
 obtain ⟨rp,hr40653,h⟩:=obind h
 refine dx (Z7f hr40653) ?_
 refine du 8 ?_
 refine du 8 ?_
 refine du 4 ?_
 obtain ⟨rq,hr40655,h⟩:=obind h
 refine dc (Z9g hr40655) ?_
 refine du 2 ?_
 refine gd h F fun F h=>?_
 refine db ?_
 refine nm ZR h F fun lr F h=>?_
 refine du 2 ?_
 refine dn ?_
 cases h
 exact Wp.ret en0
 refine cT ?_
 refine Wp.exit ?_
 refine sh ?_
 refine rg0 ?_
 iterate 3 refine vp ?_
 refine vn ?_
 exact nx [] (IntKind.i64.wrap (pf + 1)) h
 refine ds ?_
 refine ds ?_
 refine ds ?_
 refine ds ?_
 refine ds ?_
 refine ds ?_
 refine du 1 ?_
 refine dn ?_
 refine cT ?_
 refine Wp.exit ?_
 refine sh ?_
 refine rg0 ?_
 iterate 3 refine vp ?_
 refine vn ?_
 exact nx [] (IntKind.i64.wrap (pf + 1)) h
 refine ds ?_
 refine ds ?_
 refine ds ?_
 refine ds ?_
 refine ds ?_
 refine ds ?_
 refine du 2 ?_
 refine ds ?_
 refine ds ?_
 refine ds ?_
 refine ds ?_
 refine ds ?_
 refine ds ?_
 refine du 1 ?_
 refine dn ?_
 refine cT ?_
 refine Wp.exit ?_
 refine sh ?_
 refine rg0 ?_
 iterate 3 refine vp ?_
 refine vn ?_
 exact nx [] (IntKind.i64.wrap (pf + 1)) h
 refine ds ?_
 refine ds ?_
 refine ds ?_
 refine ds ?_
 refine ds ?_
 refine ds ?_
 refine ds ?_
 refine ds ?_
 refine ds ?_
 refine ds ?_
 refine ds ?_
 refine du 2 ?_
 refine ds ?_
 refine ds ?_
 refine ds ?_
 refine ds ?_
 refine ds ?_
 refine ds ?_
 refine du 2 ?_
 refine ds ?_
 refine ds ?_
 refine ds ?_
 refine ds ?_
 refine ds ?_
 refine ds ?_
 refine du 1 ?_
 refine dn ?_
 refine cT ?_
 refine Wp.exit ?_
 refine sh ?_
 refine rg0 ?_
 iterate 3 refine vp ?_
 refine vn ?_
 exact nx [] (IntKind.i64.wrap (pf + 1)) h
 refine dw (fun _=>false) [] ?_
 refine du 4 ?_
 refine sD h F (fun F h=>?_) fun F h=>?_
 refine ds ?_
 refine ds ?_
 refine ds ?_
 refine ds ?_
 refine ds ?_
 refine ds ?_
 refine ds ?_
 refine ds ?_
 refine ds ?_
 refine ds ?_
 refine ds ?_
 refine du 2 ?_
 refine ds ?_
 refine ds ?_
 refine ds ?_
 refine ds ?_
 refine ds ?_
 refine ds ?_
 refine ds ?_
 refine ds ?_
 refine ds ?_
 refine ds ?_
 refine ds ?_
 refine du 1 ?_
 refine dn ?_
 refine cF ?_
 refine Wp.skip ?_
 exact nx [] () h
 refine du 1 ?_
 refine du 1 ?_
 refine eI h F fun xt F h=>?_
 refine du 1 ?_
 refine du 1 ?_
 refine du 1 ?_
 refine du 1 ?_
 refine du 1 ?_
 refine eI h F fun xu F h=>?_
 refine du 1 ?_
 refine du 1 ?_
 refine du 1 ?_
 refine du 1 ?_
 refine du 2 ?_
 refine sE h F (fun _ F h=>?_) fun _ F h=>?_
 refine ds ?_
 refine ds ?_
 refine ds ?_
 refine ds ?_
 refine ds ?_
 refine ds ?_
 refine ds ?_
 refine ds ?_
 refine ds ?_
 refine ds ?_
 refine ds ?_
 refine du 1 ?_
 refine dn ?_
 refine cF ?_
 refine Wp.skip ?_
 exact nx [] () h
 refine du 1 ?_
 refine du 1 ?_
 refine du 1 ?_
 refine du 1 ?_
 refine du 1 ?_
 refine du 1 ?_
 refine du 1 ?_
 refine du 1 ?_
 refine du 1 ?_
 refine du 1 ?_
 refine du 1 ?_
 refine du 1 ?_
 refine dn ?_
 refine sE h F (fun _ F h=>?_) fun _ F h=>?_
 refine cF ?_
 refine Wp.skip ?_
 exact nx [] () h
 refine cT ?_
 refine dw (fun d=>Nat.beq d 52 || Nat.beq d 76 || Nat.beq d 1076) [] ?_
 refine du 3 ?_
 obtain ⟨rv,hr40660,h⟩:=obind h
 refine dx (Z7f hr40660) ?_
 refine du 8 ?_
 refine du 8 ?_
 refine du 4 ?_
 obtain ⟨rz,hr40662,h⟩:=obind h
 refine dc (Z9g hr40662) ?_
 refine du 2 ?_
 refine gd h F fun F h=>?_
 refine db ?_
 refine nm ZR h F fun lA F h=>?_
 refine du 2 ?_
 refine dn ?_
 cases h
 exact Wp.ret en0
theorem Zfo (n:Nat):∀ {ab:ApiRung} {a1:Ref14Tree} {a2:Int} {r:(List ApiIns)},Z2C n ab a1 a2 = some r -> Con Tryz.prog G0 51 [.agg (Z7 ab),.agg [.int .i64 a1.Kind,.int .i64 a1.N,aL Zc a1.Kids],.int .i64 a2] (aL Zb r) []:=by
 induction n with
 | zero=>intro ab a1 a2 r h; simp [Z2C] at h
 | succ n Hslf_ref17_lay =>
  intro ab a1 a2 r h
  refine Za (T:=TT0) tt_ok Tryz.func51 (c:=_) (by unfold Tryz.f51; rfl) Tryz.ntmps51 (rs:=[.tmp 6]) (by rw [Tryz.results51]) (by unfold Tryz.f51; rfl) (by simp) ?_
  simp only [Z3]
  have F:=True.intro
  dsimp only [Z2C] at h
  refine rs0 ?_
  iterate 3 refine vp ?_
  refine vn ?_
  refine Wp.seq ?_
  refine rs0 ?_
  iterate 3 refine vp ?_
  refine vn ?_
  refine sB h F (fun F h=>?_) fun F h=>?_
  refine cF ?_
  refine Wp.skip ?_
  refine sh ?_
  refine dw (fun d=>Nat.beq d 25) [0,1] ?_
  refine du 3 ?_
  refine eN (m:=0) h F fun xB F h=>?_
  refine du 3 ?_
  obtain ⟨rC,hr41007,h⟩:=obind h
  refine dx (Zd4 Hslf_ref17_lay _ hr41007) ?_
  refine du 1 ?_
  refine dn ?_
  refine Wp.seq ?_
  refine rs0 ?_
  refine vp ?_
  refine vn ?_
  refine Wp.block ?_
  refine lp [some 0,some 1,some 2] (fun x:(List ApiIns) × Int=>{ ch:=[(2,.int .i64 a2),(3,.hptr 0 0 0),(4,.hptr 1 0 0),(7,.sl 2 0 x.1.length),(8,.int .i64 x.2)],hp:=[.var [.str ab.Label,aL Z0 ab.Contacts,aL Z4 ab.Coils,.str ab.Jump],.var [.int .i64 a1.Kind,.int .i64 a1.N,aL Zc a1.Kids],.arr 4 x.1.length (rw (x.1.map Zb))],base:=0,n:=91,cond:=True,gl:=G0 }) (fun m x=>Z2s ab a1 a2 (Z2C n) m x.1 x.2 = some r) n (rC,1) h ?_
  rintro re ⟨rD,pE⟩ h
  dsimp only [Z2s] at h
  try dsimp only
  refine Wp.seq ?_
  refine rs0 ?_
  iterate 5 refine vp ?_
  refine vn ?_
  refine sD h F (fun F h=>?_) fun F h=>?_
  refine cF ?_
  refine Wp.exit ?_
  refine sh ?_
  refine rs0 ?_
  iterate 2 refine vp ?_
  refine vn ?_
  cases h
  exact Wp.ret en0
  refine cT ?_
  refine Wp.skip ?_
  refine sh ?_
  refine Wp.seq ?_
  refine Wp.block ?_
  refine rs0 ?_
  iterate 3 refine vp ?_
  refine eI h F fun xF F h=>?_
  iterate 4 refine vp ?_
  refine vn ?_
  refine jn (fun _:Unit=>{ ch:=[(2,.int .i64 a2),(3,.hptr 0 0 0),(4,.hptr 1 0 0),(7,.sl 3 0 rD.length),(8,.int .i64 pE),(9,.hptr 2 0 0)],hp:=[.var [.str ab.Label,aL Z0 ab.Contacts,aL Z4 ab.Coils,.str ab.Jump],.var [.int .i64 a1.Kind,.int .i64 a1.N,aL Zc a1.Kids],.var [.int .i64 xF.Kind,.int .i64 xF.N,aL Zc xF.Kids],.arr 4 rD.length (rw (rD.map Zb))],base:=0,n:=91,cond:=True,gl:=G0 }) (fun x=>Z4U ab a1 a2 rD pE (Z2s ab a1 a2 (Z2C n) re) xF (Z2C n) = some r) ?_ ?_
  clear h
  rintro _ h
  dsimp only [Z4U] at h
  try dsimp only
  refine rs0 ?_
  iterate 3 refine vp ?_
  refine gd h F fun F h=>?_
  refine vp ?_
  refine nm Zb h F fun lG F h=>?_
  refine vp ?_
  refine vn ?_
  refine rs0 ?_
  iterate 4 refine vp ?_
  obtain ⟨rH,hr41071,h⟩:=obind h
  refine vc (Hslf_ref17_lay hr41071) ?_
  refine gd h F fun F h=>?_
  refine vp ?_
  refine nm Zb h F fun lI F h=>?_
  refine vp ?_
  refine vn ?_
  refine rg0 ?_
  iterate 6 refine vp ?_
  refine gd h F fun F h=>?_
  refine vp ?_
  refine nm Zb h F fun lJ F h=>?_
  refine vp ?_
  refine vn ?_
  refine sh ?_
  refine rg0 ?_
  iterate 3 refine vp ?_
  refine vn ?_
  exact nx [some 0,some 1,some 6] (lJ,(IntKind.i64.wrap (pE + 1))) h
  refine rs0 ?_
  iterate 4 refine vp ?_
  refine sB h F (fun F h=>?_) fun F h=>?_
  refine vs ?_
  refine vs ?_
  refine vs ?_
  refine vs ?_
  refine vs ?_
  refine vs ?_
  refine vs ?_
  refine vs ?_
  refine vp ?_
  refine vn ?_
  refine cF ?_
  refine Wp.skip ?_
  exact nx [some 0,some 1,some 3,some 2] () h
  refine vg ?_
  refine vg ?_
  refine vg ?_
  refine vg ?_
  refine eI h F fun xK F h=>?_
  refine vg ?_
  refine vg ?_
  refine vg ?_
  refine vg ?_
  refine vp ?_
  refine vn ?_
  refine sD h F (fun F h=>?_) fun F h=>?_
  refine cF ?_
  refine Wp.skip ?_
  exact nx [some 0,some 1,some 3,some 2] () h
  refine cT ?_
  refine dw (fun d=>Nat.beq d 72 || Nat.beq d 1072) [0,1,2,3] ?_
  refine du 8 ?_
  refine du 8 ?_
  refine du 5 ?_
  refine gd h F fun F h=>?_
  refine db ?_
  refine nm Zb h F fun lL F h=>?_
  refine du 1 ?_
  refine dn ?_
  refine Wp.exit ?_
  refine sh ?_
  refine rg0 ?_
  iterate 3 refine vp ?_
  refine vn ?_
  exact nx [some 0,some 1,some 4] (lL,(IntKind.i64.wrap (pE + 1))) h
  refine cT ?_
  refine rs0 ?_
  iterate 4 refine vp ?_
  obtain ⟨rM,hr40903,h⟩:=obind h
  refine vc (Z9u hr40903) ?_
  refine vp ?_
  refine nl Zb h F fun lN m F h=>?_
  try simp only [m]
  clear m
  refine vp ?_
  refine vn ?_
  cases h
  exact Wp.ret en0
theorem Z9v {n:Nat} {n_0:Str} {b0:ApiRung} {r:(List Str)} (h:Z2h n n_0 b0 = some r):ConH Tryz.prog G0 138 [.str n_0,.hptr 0 0 0] [.var [.str b0.Label,aL Z0 b0.Contacts,aL Z4 b0.Coils,.str b0.Jump]] (aL cS r) [.var [.str b0.Label,aL Z0 b0.Contacts,aL Z4 b0.Coils,.str b0.Jump]]:=by
 refine ZA (T:=TT0) tt_ok Tryz.func138 (c:=_) (by unfold Tryz.f138; rfl) Tryz.ntmps138 (rs:=[.tmp 3]) (by rw [Tryz.results138]) (by unfold Tryz.f138; rfl) (by simp) (k:=1) rfl rfl ?_
 try simp only [Z3]
 have F:=True.intro
 dsimp only [Z2h] at h
 refine rs0 ?_
 refine vp ?_
 refine vn ?_
 refine rs0 ?_
 refine vp ?_
 refine vn ?_
 refine Wp.seq ?_
 refine rs0 ?_
 iterate 2 refine vp ?_
 obtain ⟨rO,hr14586,h⟩:=obind h
 refine vc (Z7M hr14586) ?_
 iterate 2 refine vp ?_
 refine vn ?_
 refine Wp.block ?_
 refine lp [some 0,none] (fun x:Int × (List Str)=>{ ch:=[(1,.hptr 0 0 0),(4,.sl 1 0 x.2.length),(9,aL (cI .i64) rO),(10,.int .i64 (rO.length:Int)),(11,.int .i64 x.1)],hp:=[.var [.str b0.Label,aL Z0 b0.Contacts,aL Z4 b0.Coils,.str b0.Jump],.arr 1 x.2.length (rw (x.2.map cS))],base:=1,n:=26,cond:=True,gl:=G0 }) (fun m x=>ZV b0 rO m x.1 x.2 = some r) n (0,[]) h ?_
 rintro re ⟨pP,pQ⟩ h
 dsimp only [ZV] at h
 try dsimp only
 refine rs0 ?_
 refine vp ?_
 refine vn ?_
 refine Wp.seq ?_
 refine sD h F (fun F h=>?_) fun F h=>?_
 refine cF ?_
 refine Wp.exit ?_
 refine sh ?_
 refine rs0 ?_
 iterate 2 refine vp ?_
 refine vn ?_
 cases h
 exact Wp.ret (enH [some 0])
 refine cT ?_
 refine Wp.skip ?_
 refine sh ?_
 refine Wp.seq ?_
 refine Wp.block ?_
 refine rs0 ?_
 refine eI h F fun xR F h=>?_
 iterate 3 refine vp ?_
 refine vn ?_
 refine rg (fun d=>Nat.beq d 23) ?_
 iterate 4 refine vp ?_
 refine eI h F fun xS F h=>?_
 iterate 4 refine vp ?_
 refine gd h F fun F h=>?_
 refine vp ?_
 refine nm cS h F fun lT F h=>?_
 refine vp ?_
 refine vn ?_
 refine sh ?_
 refine rg0 ?_
 iterate 2 refine vp ?_
 refine vn ?_
 exact nx [some 0,some 2] ((IntKind.i64.wrap (pP + 1)),lT) h
end Go.Proofs.YtaebdeidbibfkaaGreatDoor
