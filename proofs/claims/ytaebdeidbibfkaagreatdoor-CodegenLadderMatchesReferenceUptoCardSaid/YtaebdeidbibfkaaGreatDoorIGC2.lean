/- Contracts: models of functions are right. No law is proved here. -/
import Derived.Test.YtaebdeidbibfkaaGreatDoorIGH
namespace Go.Proofs.YtaebdeidbibfkaaGreatDoor
open Go.Av Go.G
attribute [-simp] Int.natCast_tdiv_eq_ediv
attribute [local congr] Zx ZE Zy
variable [Drawn]
set_option maxHeartbeats 4000000
set_option linter.unusedSectionVars false
set_option maxRecDepth 20000
set_option linter.unusedSimpArgs false
set_option linter.unusedVariables false
theorem Zb3 {n:Nat} {l0:ApiLadder} {r:Int} (h:Z6b n l0 = some r):Con Tryz.prog G0 52 [.agg (Z1r l0)] (.int .i64 r) []:=by
 refine Za (T:=TT0) tt_ok Tryz.func52 (c:=_) (by unfold Tryz.f52; rfl) Tryz.ntmps52 (rs:=[.tmp 2]) (by rw [Tryz.results52]) (by unfold Tryz.f52; rfl) (by simp) ?_
 simp only [Z3]
 have F:=True.intro
 dsimp only [Z6b] at h
 refine rs0 ?_
 iterate 2 refine vp ?_
 refine vn ?_
 refine rs0 ?_
 refine vp ?_
 refine vn ?_
 refine jn (fun p27:Int=>{ ch:=[(1,.hptr 0 0 0),(3,.int .i64 p27)],hp:=[.var [.int .i64 l0.I,.int .i64 l0.Q,.int .i64 l0.M,aL Z7 l0.Rungs]],base:=0,n:=58,cond:=True,gl:=G0 }) (fun x=>Z4M l0 x = some r) ?_ ?_
 clear h
 rintro p27 h
 dsimp only [Z4M] at h
 try dsimp only
 refine Wp.seq ?_
 refine rs0 ?_
 iterate 5 refine vp ?_
 refine sD h F (fun F h=>?_) fun F h=>?_
 refine vg ?_
 refine vg ?_
 refine vp ?_
 refine vn ?_
 refine sD h F (fun F h=>?_) fun F h=>?_
 refine cF ?_
 refine Wp.skip ?_
 refine sh ?_
 refine rs0 ?_
 refine vp ?_
 refine vn ?_
 cases h
 exact Wp.ret en0
 refine cT ?_
 refine rs0 ?_
 refine vp ?_
 refine vn ?_
 cases h
 exact Wp.ret en0
 refine vs ?_
 refine vs ?_
 refine vp ?_
 refine vn ?_
 refine cT ?_
 refine rs0 ?_
 refine vp ?_
 refine vn ?_
 cases h
 exact Wp.ret en0
 refine rs0 ?_
 iterate 4 refine vp ?_
 refine vn ?_
 refine Wp.block ?_
 refine lp [some 0] (fun x:Int × Int=>{ ch:=[(1,.hptr 0 0 0),(3,.int .i64 x.2),(9,aL Z7 l0.Rungs),(10,.int .i64 (l0.Rungs.length:Int)),(11,.int .i64 x.1)],hp:=[.var [.int .i64 l0.I,.int .i64 l0.Q,.int .i64 l0.M,aL Z7 l0.Rungs]],base:=0,n:=58,cond:=True,gl:=G0 }) (fun m x=>Z1T n l0 m x.1 x.2 = some r) n (0,0) h ?_
 rintro ra ⟨p34,p35⟩ h
 dsimp only [Z1T] at h
 try dsimp only
 refine rs0 ?_
 refine vp ?_
 refine vn ?_
 refine Wp.seq ?_
 refine sD h F (fun F h=>?_) fun F h=>?_
 refine cF ?_
 refine Wp.exit ?_
 exact nx [some 0] p35 h
 refine cT ?_
 refine Wp.skip ?_
 refine sh ?_
 refine Wp.seq ?_
 refine Wp.block ?_
 refine rs0 ?_
 refine eI h F fun x42 F h=>?_
 iterate 4 refine vp ?_
 refine vn ?_
 refine rs0 ?_
 iterate 18 refine vp ?_
 refine vn ?_
 refine rs0 ?_
 iterate 4 refine vp ?_
 refine vn ?_
 refine Wp.block ?_
 refine lp [some 0] (fun x:Int × Int=>{ ch:=[(1,.hptr 0 0 0),(3,.int .i64 x.1),(9,aL Z7 l0.Rungs),(10,.int .i64 (l0.Rungs.length:Int)),(11,.int .i64 p34),(33,aL Z0 x42.Contacts),(34,.int .i64 (x42.Contacts.length:Int)),(35,.int .i64 x.2)],hp:=[.var [.int .i64 l0.I,.int .i64 l0.Q,.int .i64 l0.M,aL Z7 l0.Rungs]],base:=0,n:=58,cond:=True,gl:=G0 }) (fun m x=>Z2T p34 (Z1T n l0 ra) x42 m x.1 x.2 = some r) n ((IntKind.i64.wrap (p35 + (IntKind.i64.wrap ((IntKind.i64.wrap ((IntKind.i64.wrap ((x42.Contacts.length:Int) + (x42.Coils.length:Int))) + (x42.Label.size:Int))) + (x42.Jump.size:Int))))),0) h ?_
 rintro rb ⟨p44,p45⟩ h
 dsimp only [Z2T] at h
 try dsimp only
 refine rs0 ?_
 refine vp ?_
 refine vn ?_
 refine Wp.seq ?_
 refine sD h F (fun F h=>?_) fun F h=>?_
 refine cF ?_
 refine Wp.exit ?_
 refine sh ?_
 refine rg0 ?_
 iterate 2 refine vp ?_
 refine vn ?_
 exact nx [some 0] ((IntKind.i64.wrap (p34 + 1)),p44) h
 refine cT ?_
 refine Wp.skip ?_
 refine sh ?_
 refine Wp.seq ?_
 refine Wp.block ?_
 refine rs0 ?_
 refine eI h F fun x47 F h=>?_
 iterate 4 refine vp ?_
 refine vn ?_
 refine rg0 ?_
 iterate 10 refine vp ?_
 refine vn ?_
 refine sh ?_
 refine rg0 ?_
 iterate 2 refine vp ?_
 refine vn ?_
 exact nx [some 0] ((IntKind.i64.wrap (p44 + (IntKind.i64.wrap ((x47.From.size:Int) + (x47.To.size:Int))))),(IntKind.i64.wrap (p45 + 1))) h
theorem Zaz (n:Nat):∀ {t0:TreeTree} {edge1:List Bool} {r:Int},Z1A n t0 edge1 = some r -> Con Tryz.prog G0 156 [.agg [.int .i64 t0.Kind,.int .i64 t0.N,aL Z6 t0.Kids],aL cB edge1] (.int .i64 r) []:=by
 induction n with
 | zero=>intro t0 edge1 r h; simp [Z1A] at h
 | succ n Hslf_tree_Tree_depth =>
  intro t0 edge1 r h
  refine Za (T:=TT0) tt_ok Tryz.func156 (c:=_) (by unfold Tryz.f156; rfl) Tryz.ntmps156 (rs:=[.tmp 4]) (by rw [Tryz.results156]) (by unfold Tryz.f156; rfl) (by simp) ?_
  simp only [Z3]
  have F:=True.intro
  dsimp only [Z1A] at h
  refine rs0 ?_
  iterate 2 refine vp ?_
  refine vn ?_
  refine rs0 ?_
  refine vp ?_
  refine vn ?_
  refine Wp.seq ?_
  refine rs0 ?_
  iterate 4 refine vp ?_
  refine vn ?_
  refine Wp.block ?_
  refine lp [] (fun x:Int × Int=>{ ch:=[(1,aL cB edge1),(5,.int .i64 x.2),(9,aL Z6 t0.Kids),(10,.int .i64 (t0.Kids.length:Int)),(11,.int .i64 x.1)],hp:=[],base:=0,n:=41,cond:=True,gl:=G0 }) (fun m x=>Z19 t0 edge1 (Z1A n) m x.1 x.2 = some r) n (0,0) h ?_
  rintro rc ⟨pd,pe⟩ h
  dsimp only [Z19] at h
  try dsimp only
  refine rs0 ?_
  refine vp ?_
  refine vn ?_
  refine Wp.seq ?_
  refine sD h F (fun F h=>?_) fun F h=>?_
  refine cF ?_
  refine Wp.exit ?_
  refine sh ?_
  refine rs0 ?_
  iterate 2 refine vp ?_
  refine vn ?_
  cases h
  exact Wp.ret en0
  refine cT ?_
  refine Wp.skip ?_
  refine sh ?_
  refine Wp.seq ?_
  refine Wp.block ?_
  refine rs0 ?_
  refine vp ?_
  refine eI h F fun xf F h=>?_
  iterate 5 refine vp ?_
  refine vn ?_
  refine Wp.block ?_
  refine rs0 ?_
  iterate 3 refine vp ?_
  refine vn ?_
  refine sB h F (fun F h=>?_) fun F h=>?_
  refine cF ?_
  refine rs0 ?_
  iterate 4 refine vp ?_
  refine sB h F (fun F h=>?_) fun F h=>?_
  refine vg ?_
  refine vg ?_
  refine vg ?_
  refine eI h F fun xg F h=>?_
  refine vg ?_
  refine vg ?_
  iterate 2 refine vp ?_
  refine vn ?_
  refine sB h F (fun F h=>?_) fun F h=>?_
  refine cF ?_
  refine Wp.skip ?_
  refine sh ?_
  refine rg0 ?_
  iterate 2 refine vp ?_
  refine vn ?_
  exact nx [] ((IntKind.i64.wrap (pd + 1)),pe) h
  refine cT ?_
  refine rg0 ?_
  iterate 3 refine vp ?_
  obtain ⟨rh,hr15337,h⟩:=obind h
  refine vc (Hslf_tree_Tree_depth hr15337) ?_
  iterate 3 refine vp ?_
  refine vn ?_
  refine sh ?_
  refine rg0 ?_
  iterate 2 refine vp ?_
  refine vn ?_
  exact nx [] ((IntKind.i64.wrap (pd + 1)),(imax pe (IntKind.i64.wrap (1 + rh)))) h
  refine vs ?_
  refine vs ?_
  refine vs ?_
  refine vs ?_
  refine vs ?_
  iterate 2 refine vp ?_
  refine vn ?_
  refine cT ?_
  refine rg0 ?_
  iterate 3 refine vp ?_
  obtain ⟨ri,hr15334,h⟩:=obind h
  refine vc (Hslf_tree_Tree_depth hr15334) ?_
  iterate 3 refine vp ?_
  refine vn ?_
  refine sh ?_
  refine rg0 ?_
  iterate 2 refine vp ?_
  refine vn ?_
  exact nx [] ((IntKind.i64.wrap (pd + 1)),(imax pe (IntKind.i64.wrap (1 + ri)))) h
  refine cT ?_
  refine rg0 ?_
  iterate 2 refine vp ?_
  obtain ⟨rj,hr15332,h⟩:=obind h
  refine vc (Hslf_tree_Tree_depth hr15332) ?_
  refine vp ?_
  refine vn ?_
  refine sh ?_
  refine rg0 ?_
  iterate 2 refine vp ?_
  refine vn ?_
  exact nx [] ((IntKind.i64.wrap (pd + 1)),rj) h
theorem ZcU (n:Nat):∀ {t0:Ref14Tree} {r:(List Int)},Z26 n t0 = some r -> Con Tryz.prog G0 32 [.agg [.int .i64 t0.Kind,.int .i64 t0.N,aL Zc t0.Kids]] (aL (cI .i64) r) []:=by
 induction n with
 | zero=>intro t0 r h; simp [Z26] at h
 | succ n Hslf_ref14_Leaves =>
  intro t0 r h
  refine Za (T:=TT0) tt_ok Tryz.func32 (c:=_) (by unfold Tryz.f32; rfl) Tryz.ntmps32 (rs:=[.tmp 2]) (by rw [Tryz.results32]) (by unfold Tryz.f32; rfl) (by simp) ?_
  simp only [Z3]
  have F:=True.intro
  dsimp only [Z26] at h
  refine rs0 ?_
  iterate 2 refine vp ?_
  refine vn ?_
  refine Wp.seq ?_
  refine rs0 ?_
  iterate 3 refine vp ?_
  refine vn ?_
  refine sB h F (fun F h=>?_) fun F h=>?_
  refine cF ?_
  refine Wp.skip ?_
  refine sh ?_
  refine jn (fun _:Unit=>{ ch:=[(1,.hptr 0 0 0)],hp:=[.var [.int .i64 t0.Kind,.int .i64 t0.N,aL Zc t0.Kids]],base:=0,n:=35,cond:=True,gl:=G0 }) (fun x=>Z4z n t0 (Z26 n) = some r) ?_ ?_
  clear h
  rintro _ h
  dsimp only [Z4z] at h
  try dsimp only
  refine rs0 ?_
  refine vp ?_
  refine vn ?_
  refine Wp.seq ?_
  refine rs0 ?_
  refine vp ?_
  refine vn ?_
  refine Wp.block ?_
  refine lp [some 0,none] (fun x:(List Int) × Int=>{ ch:=[(1,.hptr 0 0 0),(3,.sl 1 0 x.1.length),(4,.int .i64 x.2)],hp:=[.var [.int .i64 t0.Kind,.int .i64 t0.N,aL Zc t0.Kids],.arr 1 x.1.length (rw (x.1.map (cI .i64)))],base:=0,n:=35,cond:=True,gl:=G0 }) (fun m x=>Z3O t0 (Z26 n) m x.1 x.2 = some r) n ([],0) h ?_
  rintro ra ⟨pk,pm⟩ h
  dsimp only [Z3O] at h
  try dsimp only
  refine Wp.seq ?_
  refine rs0 ?_
  iterate 5 refine vp ?_
  refine vn ?_
  refine sD h F (fun F h=>?_) fun F h=>?_
  refine cF ?_
  refine Wp.exit ?_
  refine sh ?_
  refine rs0 ?_
  iterate 2 refine vp ?_
  refine vn ?_
  cases h
  exact Wp.ret en0
  refine cT ?_
  refine Wp.skip ?_
  refine sh ?_
  refine Wp.seq ?_
  refine Wp.block ?_
  refine rg (fun d=>Nat.beq d 33) ?_
  iterate 4 refine vp ?_
  refine eI h F fun xn F h=>?_
  iterate 2 refine vp ?_
  obtain ⟨rp,hr39899,h⟩:=obind h
  refine vc (Hslf_ref14_Leaves hr39899) ?_
  refine gd h F fun F h=>?_
  refine vp ?_
  refine nm (cI .i64) h F fun lq F h=>?_
  refine vp ?_
  refine vn ?_
  refine sh ?_
  refine rg0 ?_
  iterate 3 refine vp ?_
  refine vn ?_
  exact nx [some 0,some 2] (lq,(IntKind.i64.wrap (pm + 1))) h
  refine rs0 ?_
  iterate 4 refine vp ?_
  refine sB h F (fun F h=>?_) fun F h=>?_
  refine vs ?_
  refine vs ?_
  refine vs ?_
  refine vp ?_
  refine vn ?_
  refine cF ?_
  refine Wp.skip ?_
  exact nx [some 0] () h
  refine vg ?_
  refine vg ?_
  refine vg ?_
  refine vp ?_
  refine vn ?_
  refine sB h F (fun F h=>?_) fun F h=>?_
  refine cF ?_
  refine Wp.skip ?_
  exact nx [some 0] () h
  refine cT ?_
  refine rs0 ?_
  refine vp ?_
  refine vn ?_
  cases h
  exact Wp.ret en0
  refine cT ?_
  refine rs0 ?_
  iterate 3 refine vp ?_
  refine nl (cI .i64) h F fun lr m F h=>?_
  try simp only [m]
  clear m
  refine vp ?_
  refine vn ?_
  cases h
  exact Wp.ret en0
theorem ZdJ {n:Nat} {r_0:ApiRung} {r:(List ApiIns) × Int} (h:Z7G n r_0 = some r):Con Tryz.prog G0 20 [.agg (Z7 r_0)] (.tup [aL Zb r.1,.int .i64 r.2]) []:=by
 refine Za (T:=TT0) tt_ok Tryz.func20 (c:=_) (by unfold Tryz.f20; rfl) Tryz.ntmps20 (rs:=[.tmp 2,.tmp 3]) (by rw [Tryz.results20]) (by unfold Tryz.f20; rfl) (by simp) ?_
 simp only [Z3]
 have F:=True.intro
 dsimp only [Z7G] at h
 refine rs0 ?_
 iterate 3 refine vp ?_
 refine vn ?_
 refine rs0 ?_
 refine vp ?_
 refine vn ?_
 refine Wp.seq ?_
 refine rs0 ?_
 refine vp ?_
 refine vn ?_
 refine Wp.block ?_
 refine lp [some 0,none] (fun x:(List ApiIns) × Int=>{ ch:=[(1,.hptr 0 0 0),(4,.sl 1 0 x.1.length),(5,.int .i64 x.2)],hp:=[.var [.str r_0.Label,aL Z0 r_0.Contacts,aL Z4 r_0.Coils,.str r_0.Jump],.arr 4 x.1.length (rw (x.1.map Zb))],base:=0,n:=47,cond:=True,gl:=G0 }) (fun m x=>Z44 r_0 m x.1 x.2 = some r) n ([],0) h ?_
 rintro rc ⟨pt,pu⟩ h
 dsimp only [Z44] at h
 try dsimp only
 refine Wp.seq ?_
 refine rs0 ?_
 iterate 5 refine vp ?_
 refine vn ?_
 refine sD h F (fun F h=>?_) fun F h=>?_
 refine cF ?_
 refine Wp.exit ?_
 refine sh ?_
 refine rs0 ?_
 iterate 3 refine vp ?_
 refine vn ?_
 cases h
 exact Wp.ret en0
 refine cT ?_
 refine Wp.skip ?_
 refine sh ?_
 refine Wp.seq ?_
 refine Wp.block ?_
 refine Wp.seq ?_
 refine rs0 ?_
 iterate 3 refine vp ?_
 refine eI h F fun xv F h=>?_
 iterate 5 refine vp ?_
 refine sD h F (fun F h=>?_) fun F h=>?_
 refine vg ?_
 refine vg ?_
 refine vg ?_
 refine vg ?_
 refine vg ?_
 refine vg ?_
 refine vg ?_
 refine vp ?_
 refine vn ?_
 refine sD h F (fun F h=>?_) fun F h=>?_
 refine cF ?_
 refine Wp.skip ?_
 refine sh ?_
 refine dw1 (fun d=>Nat.beq d 45 || Nat.beq d 1045) [0,1] ?_
 refine du 8 ?_
 refine du 8 ?_
 refine gd h F fun F h=>?_
 refine db ?_
 refine nm Zb h F fun lA F h=>?_
 refine du 1 ?_
 refine dn ?_
 refine sh ?_
 refine rg0 ?_
 iterate 3 refine vp ?_
 refine vn ?_
 exact nx [some 0,some 2] (lA,(IntKind.i64.wrap (pu + 1))) h
 refine cT ?_
 refine rs0 ?_
 iterate 2 refine vp ?_
 refine vn ?_
 cases h
 exact Wp.ret en0
 refine vs ?_
 refine vs ?_
 refine vs ?_
 refine vs ?_
 refine vs ?_
 refine vs ?_
 refine vs ?_
 refine vp ?_
 refine vn ?_
 refine cT ?_
 refine rs0 ?_
 iterate 2 refine vp ?_
 refine vn ?_
 cases h
 exact Wp.ret en0
theorem Z8y {n:Nat} {s10:List ApiIns} {s21:List ApiIns} {r:Bool} (h:Z5f n s10 s21 = some r):Con Tryz.prog G0 21 [aL Zb s10,aL Zb s21] (.bool r) []:=by
 refine Za (T:=TT0) tt_ok Tryz.func21 (c:=_) (by unfold Tryz.f21; rfl) Tryz.ntmps21 (rs:=[.tmp 4]) (by rw [Tryz.results21]) (by unfold Tryz.f21; rfl) (by simp) ?_
 simp only [Z3]
 have F:=True.intro
 dsimp only [Z5f] at h
 refine rs0 ?_
 refine vp ?_
 refine vn ?_
 refine Wp.seq ?_
 refine rs0 ?_
 iterate 5 refine vp ?_
 refine vn ?_
 refine sB h F (fun F h=>?_) fun F h=>?_
 refine cF ?_
 refine Wp.skip ?_
 refine sh ?_
 refine Wp.seq ?_
 refine rs0 ?_
 iterate 3 refine vp ?_
 refine vn ?_
 refine Wp.block ?_
 refine lp [] (fun pB:Int=>{ ch:=[(0,aL Zb s10),(1,aL Zb s21),(12,.int .i64 (s10.length:Int)),(13,.int .i64 pB)],hp:=[],base:=0,n:=26,cond:=True,gl:=G0 }) (fun m x=>Z33 s10 s21 m x = some r) n 0 h ?_
 rintro rc pB h
 dsimp only [Z33] at h
 try dsimp only
 refine rs0 ?_
 refine vp ?_
 refine vn ?_
 refine Wp.seq ?_
 refine sD h F (fun F h=>?_) fun F h=>?_
 refine cF ?_
 refine Wp.exit ?_
 refine sh ?_
 refine rs0 ?_
 refine vp ?_
 refine vn ?_
 cases h
 exact Wp.ret en0
 refine cT ?_
 refine Wp.skip ?_
 refine sh ?_
 refine Wp.seq ?_
 refine Wp.block ?_
 refine rs0 ?_
 iterate 2 refine vp ?_
 refine vn ?_
 refine dw (fun _=>false) [] ?_
 refine du 2 ?_
 refine eI h F fun xC F h=>?_
 refine du 4 ?_
 refine eI h F fun xD F h=>?_
 refine du 3 ?_
 refine dn ?_
 refine sB h F (fun F h=>?_) fun F h=>?_
 refine cF ?_
 refine Wp.skip ?_
 refine sh ?_
 refine rg0 ?_
 iterate 2 refine vp ?_
 refine vn ?_
 exact nx [] (IntKind.i64.wrap (pB + 1)) h
 refine cT ?_
 refine rs0 ?_
 refine vp ?_
 refine vn ?_
 cases h
 exact Wp.ret en0
 refine cT ?_
 refine rs0 ?_
 refine vp ?_
 refine vn ?_
 cases h
 exact Wp.ret en0
theorem Z7R {n:Nat} {x_0:List Int} {r:Int} (h:Z46 n x_0 = some r):Con Tryz.prog G0 72 [aL (cI .i64) x_0] (.int .i64 r) []:=by
 refine Za (T:=TT0) tt_ok Tryz.func72 (c:=_) (by unfold Tryz.f72; rfl) Tryz.ntmps72 (rs:=[.tmp 2]) (by rw [Tryz.results72]) (by unfold Tryz.f72; rfl) (by simp) ?_
 simp only [Z3]
 have F:=True.intro
 dsimp only [Z46] at h
 refine rs0 ?_
 refine vp ?_
 refine vn ?_
 refine Wp.seq ?_
 refine rs0 ?_
 iterate 3 refine vp ?_
 refine vn ?_
 refine sD h F (fun F h=>?_) fun F h=>?_
 refine cF ?_
 refine Wp.skip ?_
 refine sh ?_
 refine rs0 ?_
 refine vp ?_
 refine eN (m:=0) h F fun xE F h=>?_
 iterate 3 refine vp ?_
 refine vn ?_
 refine Wp.seq ?_
 refine rs0 ?_
 refine vp ?_
 refine vn ?_
 refine Wp.block ?_
 refine lp [] (fun x:Int × Int=>{ ch:=[(0,aL (cI .i64) x_0),(3,.int .i64 x.1),(4,.int .i64 x.2)],hp:=[],base:=0,n:=25,cond:=True,gl:=G0 }) (fun m x=>Z2W x_0 m x.1 x.2 = some r) n (xE,1) h ?_
 rintro rc ⟨xF,pG⟩ h
 dsimp only [Z2W] at h
 try dsimp only
 refine Wp.seq ?_
 refine rs0 ?_
 iterate 4 refine vp ?_
 refine vn ?_
 refine sD h F (fun F h=>?_) fun F h=>?_
 refine cF ?_
 refine Wp.exit ?_
 refine sh ?_
 refine rs0 ?_
 iterate 2 refine vp ?_
 refine vn ?_
 cases h
 exact Wp.ret en0
 refine cT ?_
 refine Wp.skip ?_
 refine sh ?_
 refine Wp.seq ?_
 refine Wp.block ?_
 refine rg0 ?_
 iterate 3 refine vp ?_
 refine eI h F fun xH F h=>?_
 iterate 4 refine vp ?_
 refine vn ?_
 refine sh ?_
 refine rg0 ?_
 iterate 3 refine vp ?_
 refine vn ?_
 exact nx [] ((imin xF xH),(IntKind.i64.wrap (pG + 1))) h
 refine cT ?_
 refine rg0 ?_
 cases h
theorem Zdl {n:Nat} {r_0:ApiRung} {r:(List Bool)} (h:Z6q n r_0 = some r):Con Tryz.prog G0 87 [.agg (Z7 r_0)] (aL cB r) []:=by
 refine Za (T:=TT0) tt_ok Tryz.func87 (c:=_) (by unfold Tryz.f87; rfl) Tryz.ntmps87 (rs:=[.tmp 2]) (by rw [Tryz.results87]) (by unfold Tryz.f87; rfl) (by simp) ?_
 simp only [Z3]
 have F:=True.intro
 dsimp only [Z6q] at h
 refine rs0 ?_
 iterate 2 refine vp ?_
 refine vn ?_
 refine rs0 ?_
 refine vp ?_
 refine vn ?_
 refine Wp.seq ?_
 refine rs0 ?_
 refine vp ?_
 refine vn ?_
 refine Wp.block ?_
 refine lp [some 0,none] (fun x:(List Bool) × Int=>{ ch:=[(1,.hptr 0 0 0),(3,.sl 1 0 x.1.length),(4,.int .i64 x.2)],hp:=[.var [.str r_0.Label,aL Z0 r_0.Contacts,aL Z4 r_0.Coils,.str r_0.Jump],.arr 1 x.1.length (rw (x.1.map cB))],base:=0,n:=23,cond:=True,gl:=G0 }) (fun m x=>Z48 r_0 m x.1 x.2 = some r) n ([],0) h ?_
 rintro rc ⟨pI,pJ⟩ h
 dsimp only [Z48] at h
 try dsimp only
 refine Wp.seq ?_
 refine rs0 ?_
 iterate 5 refine vp ?_
 refine vn ?_
 refine sD h F (fun F h=>?_) fun F h=>?_
 refine cF ?_
 refine Wp.exit ?_
 refine sh ?_
 refine rs0 ?_
 iterate 2 refine vp ?_
 refine vn ?_
 cases h
 exact Wp.ret en0
 refine cT ?_
 refine Wp.skip ?_
 refine sh ?_
 refine Wp.seq ?_
 refine Wp.block ?_
 refine rg (fun d=>Nat.beq d 21) ?_
 iterate 4 refine vp ?_
 refine eI h F fun xK F h=>?_
 iterate 5 refine vp ?_
 refine gd h F fun F h=>?_
 refine vp ?_
 refine nm cB h F fun lL F h=>?_
 refine vp ?_
 refine vn ?_
 refine sh ?_
 refine rg0 ?_
 iterate 3 refine vp ?_
 refine vn ?_
 exact nx [some 0,some 2] (lL,(IntKind.i64.wrap (pJ + 1))) h
theorem Z8r {n:Nat} {c0:Int} {r:Bool} (h:Z53 n c0 = some r):Con Tryz.prog G0 176 [.int .u8 c0] (.bool r) []:=by
 refine Za (T:=TT0) tt_ok Tryz.func176 (c:=_) (by unfold Tryz.f176; rfl) Tryz.ntmps176 (rs:=[.tmp 2]) (by rw [Tryz.results176]) (by unfold Tryz.f176; rfl) (by simp) ?_
 simp only [Z3]
 have F:=True.intro
 dsimp only [Z53] at h
 refine rs0 ?_
 refine vp ?_
 refine vn ?_
 refine rs0 ?_
 iterate 3 refine vp ?_
 refine sD h F (fun F h=>?_) fun F h=>?_
 refine vs ?_
 refine vs ?_
 iterate 2 refine vp ?_
 refine vg ?_
 refine vg ?_
 refine vg ?_
 refine sD h F (fun F h=>?_) fun F h=>?_
 refine vs ?_
 refine vs ?_
 refine vg ?_
 iterate 2 refine vp ?_
 refine vn ?_
 cases h
 exact Wp.ret en0
 refine vg ?_
 refine vg ?_
 refine vg ?_
 iterate 2 refine vp ?_
 refine vn ?_
 cases h
 exact Wp.ret en0
 refine vg ?_
 refine vg ?_
 iterate 2 refine vp ?_
 refine sD h F (fun F h=>?_) fun F h=>?_
 refine vg ?_
 refine vg ?_
 refine vg ?_
 refine sD h F (fun F h=>?_) fun F h=>?_
 refine vs ?_
 refine vs ?_
 refine vg ?_
 iterate 2 refine vp ?_
 refine vn ?_
 cases h
 exact Wp.ret en0
 refine vg ?_
 refine vg ?_
 refine vg ?_
 iterate 2 refine vp ?_
 refine vn ?_
 cases h
 exact Wp.ret en0
 refine vs ?_
 refine vs ?_
 refine vs ?_
 refine vs ?_
 refine vs ?_
 refine vs ?_
 iterate 2 refine vp ?_
 refine vn ?_
 cases h
 exact Wp.ret en0
theorem Zdz {n:Nat} {s0:ApiSize} {space1:Int} {r:Int} (h:Z6p n s0 space1 = some r):Con Tryz.prog G0 184 [.agg (Z4l s0),.int .i64 space1] (.int .i64 r) []:=by
 refine Za (T:=TT0) tt_ok Tryz.func184 (c:=_) (by unfold Tryz.f184; rfl) Tryz.ntmps184 (rs:=[.tmp 4]) (by rw [Tryz.results184]) (by unfold Tryz.f184; rfl) (by simp) ?_
 simp only [Z3]
 have F:=True.intro
 dsimp only [Z6p] at h
 refine rs0 ?_
 iterate 2 refine vp ?_
 refine vn ?_
 refine Wp.seq ?_
 refine rs0 ?_
 refine vp ?_
 refine vn ?_
 refine Wp.block ?_
 refine rs0 ?_
 iterate 2 refine vp ?_
 refine vn ?_
 refine sB h F (fun F h=>?_) fun F h=>?_
 refine cF ?_
 refine rs0 ?_
 iterate 2 refine vp ?_
 refine vn ?_
 refine sB h F (fun F h=>?_) fun F h=>?_
 refine cF ?_
 refine rs0 ?_
 iterate 2 refine vp ?_
 refine vn ?_
 refine sB h F (fun F h=>?_) fun F h=>?_
 refine cF ?_
 refine Wp.skip ?_
 refine sh ?_
 refine rs0 ?_
 refine vp ?_
 refine vn ?_
 cases h
 exact Wp.ret en0
 refine cT ?_
 refine rs0 ?_
 iterate 3 refine vp ?_
 refine vn ?_
 cases h
 exact Wp.ret en0
 refine cT ?_
 refine rs0 ?_
 iterate 3 refine vp ?_
 refine vn ?_
 cases h
 exact Wp.ret en0
 refine cT ?_
 refine rs0 ?_
 iterate 3 refine vp ?_
 refine vn ?_
 cases h
 exact Wp.ret en0
theorem Z97 {n:Nat} {i_0:Int} {m1:List (Str × Bool)} {b2:ApiRung} {r:Bool} (h:Z3u n i_0 m1 b2 = some r):ConH Tryz.prog G0 102 [.int .i64 i_0,.hptr 0 0 0,.hptr 2 0 0] [.var [.mp 1],.map (mAV AV.str cB m1),.var [.str b2.Label,aL Z0 b2.Contacts,aL Z4 b2.Coils,.str b2.Jump]] (.bool r) [.var [.mp 1],.map (mAV AV.str cB m1),.var [.str b2.Label,aL Z0 b2.Contacts,aL Z4 b2.Coils,.str b2.Jump]]:=by
 refine ZA (T:=TT0) tt_ok Tryz.func102 (c:=_) (by unfold Tryz.f102; rfl) Tryz.ntmps102 (rs:=[.tmp 4]) (by rw [Tryz.results102]) (by unfold Tryz.f102; rfl) (by simp) (k:=3) rfl rfl ?_
 try simp only [Z3]
 have F:=True.intro
 dsimp only [Z3u] at h
 refine rs0 ?_
 refine vp ?_
 refine vn ?_
 refine dw (fun _=>false) [0,1,2] ?_
 refine du 4 ?_
 refine eI h F fun xM F h=>?_
 refine du 6 ?_
 refine dn ?_
 cases h
 exact Wp.ret (enH [some 0,some 1,some 2])
theorem ZaK {n:Nat} {x_0:ApiRung} {b0:ApiRung} {r:Bool} (h:Z64 n x_0 b0 = some r):ConH Tryz.prog G0 153 [.agg (Z7 x_0),.hptr 0 0 0] [.var [.str b0.Label,aL Z0 b0.Contacts,aL Z4 b0.Coils,.str b0.Jump]] (.bool r) [.var [.str b0.Label,aL Z0 b0.Contacts,aL Z4 b0.Coils,.str b0.Jump]]:=by
 refine ZA (T:=TT0) tt_ok Tryz.func153 (c:=_) (by unfold Tryz.f153; rfl) Tryz.ntmps153 (rs:=[.tmp 3]) (by rw [Tryz.results153]) (by unfold Tryz.f153; rfl) (by simp) (k:=1) rfl rfl ?_
 try simp only [Z3]
 have F:=True.intro
 dsimp only [Z64] at h
 refine rs0 ?_
 iterate 2 refine vp ?_
 refine vn ?_
 refine rs0 ?_
 iterate 6 refine vp ?_
 refine vn ?_
 cases h
 exact Wp.ret (enH [some 0])
theorem Z6K {n:Nat} {c0:ApiContact} {r:Bool} (h:Z4i n c0 = some r):Con Tryz.prog G0 48 [.agg (Z0 c0)] (.bool r) []:=by
 refine Za (T:=TT0) tt_ok Tryz.func48 (c:=_) (by unfold Tryz.f48; rfl) Tryz.ntmps48 (rs:=[.tmp 2]) (by rw [Tryz.results48]) (by unfold Tryz.f48; rfl) (by simp) ?_
 simp only [Z3]
 have F:=True.intro
 dsimp only [Z4i] at h
 refine rs0 ?_
 iterate 2 refine vp ?_
 refine vn ?_
 refine rs0 ?_
 iterate 4 refine vp ?_
 refine sB h F (fun F h=>?_) fun F h=>?_
 refine vg ?_
 refine vg ?_
 refine vg ?_
 iterate 2 refine vp ?_
 refine vn ?_
 cases h
 exact Wp.ret en0
 refine vs ?_
 refine vs ?_
 refine vs ?_
 iterate 2 refine vp ?_
 refine vn ?_
 cases h
 exact Wp.ret en0
theorem Za0 {n:Nat} {c0:ApiContact} {b0:Str} {r:Bool} (h:Z4f n c0 b0 = some r):ConH Tryz.prog G0 134 [.agg (Z0 c0),.hptr 0 0 0] [.var [.str b0]] (.bool r) [.var [.str b0]]:=by
 refine ZA (T:=TT0) tt_ok Tryz.func134 (c:=_) (by unfold Tryz.f134; rfl) Tryz.ntmps134 (rs:=[.tmp 3]) (by rw [Tryz.results134]) (by unfold Tryz.f134; rfl) (by simp) (k:=1) rfl rfl ?_
 try simp only [Z3]
 have F:=True.intro
 dsimp only [Z4f] at h
 refine rs0 ?_
 iterate 2 refine vp ?_
 refine vn ?_
 refine rs0 ?_
 iterate 5 refine vp ?_
 refine vn ?_
 cases h
 exact Wp.ret (enH [some 0])
theorem Z86 {n:Nat} {x_0:Int} {r:Bool} (h:Z4s n x_0 = some r):Con Tryz.prog G0 111 [.int .i64 x_0] (.bool r) []:=by
 refine Za (T:=TT0) tt_ok Tryz.func111 (c:=_) (by unfold Tryz.f111; rfl) Tryz.ntmps111 (rs:=[.tmp 2]) (by rw [Tryz.results111]) (by unfold Tryz.f111; rfl) (by simp) ?_
 simp only [Z3]
 have F:=True.intro
 dsimp only [Z4s] at h
 refine rs0 ?_
 refine vp ?_
 refine vn ?_
 refine rs0 ?_
 iterate 4 refine vp ?_
 refine vn ?_
 cases h
 exact Wp.ret en0
end Go.Proofs.YtaebdeidbibfkaaGreatDoor
