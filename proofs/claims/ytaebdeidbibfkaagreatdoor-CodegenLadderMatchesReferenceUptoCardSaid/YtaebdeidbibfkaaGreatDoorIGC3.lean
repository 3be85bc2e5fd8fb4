/- Contracts: models of functions are right. No law is proved here. -/
import Derived.Test.YtaebdeidbibfkaaGreatDoorIGH
namespace Go.Proofs.YtaebdeidbibfkaaGreatDoor
open Go.Av Go.G
attribute [-simp] Int.natCast_tdiv_eq_ediv
attribute [local congr] Zx ZE Zy
variable [Drawn]
set_option maxHeartbeats 4000000
set_option linter.unusedSectionVars false
set_option maxRecDepth 20000
set_option linter.unusedSimpArgs false
set_option linter.unusedVariables false
theorem Z4w {n:Nat} {r_0:ApiRung} {r:(List Str)} (h:Z1R n r_0 = some r):Con Tryz.prog G0 97 [.agg (Z7 r_0)] (.sl 0 0 r.length) [.arr 1 r.length (rw (r.map cS))]:=by
 refine Za (T:=TT0) tt_ok Tryz.func97 (c:=_) (by unfold Tryz.f97; rfl) Tryz.ntmps97 (rs:=[.tmp 2]) (by rw [Tryz.results97]) (by unfold Tryz.f97; rfl) (by simp) ?_
 simp only [Z3]
 have F:=True.intro
 dsimp only [Z1R] at h
 refine rs0 ?_
 iterate 2 refine vp ?_
 refine vn ?_
 refine rs (fun d=>Nat.beq d 9) ?_
 refine vp ?_
 refine nl cS h F fun lc m F h=>?_
 try simp only [m]
 clear m
 refine vp ?_
 refine vn ?_
 refine rs0 ?_
 iterate 5 refine vp ?_
 refine vn ?_
 refine Wp.seq ?_
 refine rs0 ?_
 iterate 4 refine vp ?_
 refine vn ?_
 refine Wp.block ?_
 refine lp [some 1,some 2] (fun x:Int × (List Str) × (List (Str × Bool))=>{ ch:=[(3,.sl 0 0 x.2.1.length),(4,.mp 1),(13,aL Z0 r_0.Contacts),(14,.int .i64 (r_0.Contacts.length:Int)),(15,.int .i64 x.1)],hp:=[.arr 1 x.2.1.length (rw (x.2.1.map cS)),.map (mAV AV.str cB x.2.2)],base:=0,n:=42,cond:=True,gl:=G0 }) (fun m x=>ZU n r_0 m x.1 x.2.1 x.2.2 = some r) n (0,lc,(mPut (mPut ([]) (⟨#[76]⟩:Str) true) (⟨#[82]⟩:Str) true)) h ?_
 rintro rd ⟨pe,lf,pg⟩ h
 dsimp only [ZU] at h
 try dsimp only
 refine rs0 ?_
 refine vp ?_
 refine vn ?_
 refine Wp.seq ?_
 refine sD h F (fun F h=>?_) fun F h=>?_
 refine cF ?_
 refine Wp.exit ?_
 refine sh ?_
 refine rs0 ?_
 iterate 2 refine vp ?_
 refine vn ?_
 cases h
 exact Wp.ret (enH [some 0])
 refine cT ?_
 refine Wp.skip ?_
 refine sh ?_
 refine Wp.seq ?_
 refine Wp.block ?_
 refine rs0 ?_
 refine eI h F fun xh F h=>?_
 iterate 4 refine vp ?_
 refine vn ?_
 refine rs0 ?_
 iterate 5 refine vp ?_
 refine nl cS h F fun lm m F h=>?_
 try simp only [m]
 clear m
 iterate 2 refine vp ?_
 refine vn ?_
 refine Wp.block ?_
 refine lp [some 0,some 1] (fun x:Int × (List Str) × (List (Str × Bool))=>{ ch:=[(3,.sl 0 0 x.2.1.length),(4,.mp 1),(13,aL Z0 r_0.Contacts),(14,.int .i64 (r_0.Contacts.length:Int)),(15,.int .i64 pe),(23,aL cS lm),(24,.int .i64 (lm.length:Int)),(25,.int .i64 x.1)],hp:=[.arr 1 x.2.1.length (rw (x.2.1.map cS)),.map (mAV AV.str cB x.2.2)],base:=0,n:=42,cond:=True,gl:=G0 }) (fun m x=>Z1h pe (ZU n r_0 rd) lm m x.1 x.2.1 x.2.2 = some r) n (0,lf,pg) h ?_
 rintro rn ⟨po,lq,pt⟩ h
 dsimp only [Z1h] at h
 try dsimp only
 refine rs0 ?_
 refine vp ?_
 refine vn ?_
 refine Wp.seq ?_
 refine sD h F (fun F h=>?_) fun F h=>?_
 refine cF ?_
 refine Wp.exit ?_
 refine sh ?_
 refine rg0 ?_
 iterate 2 refine vp ?_
 refine vn ?_
 exact nx [some 0,some 1] ((IntKind.i64.wrap (pe + 1)),lq,pt) h
 refine cT ?_
 refine Wp.skip ?_
 refine sh ?_
 refine Wp.seq ?_
 refine Wp.block ?_
 refine rs0 ?_
 refine eI h F fun xu F h=>?_
 iterate 3 refine vp ?_
 refine vn ?_
 refine rs0 ?_
 iterate 4 refine vp ?_
 refine vn ?_
 refine sB h F (fun F h=>?_) fun F h=>?_
 refine cF ?_
 refine Wp.skip ?_
 refine sh ?_
 refine rg0 ?_
 iterate 2 refine vp ?_
 refine vn ?_
 exact nx [some 0,some 1] ((IntKind.i64.wrap (po + 1)),lq,pt) h
 refine cT ?_
 refine rs0 ?_
 iterate 3 refine vp ?_
 refine vn ?_
 refine rg0 ?_
 iterate 3 refine vp ?_
 refine gd h F fun F h=>?_
 refine vp ?_
 refine nm cS h F fun lA F h=>?_
 refine vp ?_
 refine vn ?_
 refine sh ?_
 refine rg0 ?_
 iterate 2 refine vp ?_
 refine vn ?_
 exact nx [some 2,some 1] ((IntKind.i64.wrap (po + 1)),lA,(mPut pt xu true)) h
theorem ZdH {n:Nat} {a0:ApiProgram} {b1:ApiProgram} {r:Bool} (h:Z6w n a0 b1 = some r):Con Tryz.prog G0 27 [.agg (Z4H a0),.agg (Z4H b1)] (.bool r) []:=by
 refine Za (T:=TT0) tt_ok Tryz.func27 (c:=_) (by unfold Tryz.f27; rfl) Tryz.ntmps27 (rs:=[.tmp 4]) (by rw [Tryz.results27]) (by unfold Tryz.f27; rfl) (by simp) ?_
 simp only [Z3]
 have F:=True.intro
 dsimp only [Z6w] at h
 refine rs0 ?_
 iterate 3 refine vp ?_
 refine vn ?_
 refine Wp.seq ?_
 refine rs0 ?_
 iterate 6 refine vp ?_
 refine sB h F (fun F h=>?_) fun F h=>?_
 refine vg ?_
 refine vg ?_
 refine vg ?_
 refine vg ?_
 refine vg ?_
 refine vg ?_
 refine vg ?_
 refine vp ?_
 refine vn ?_
 refine sB h F (fun F h=>?_) fun F h=>?_
 refine cF ?_
 refine Wp.skip ?_
 refine sh ?_
 refine Wp.seq ?_
 refine rs0 ?_
 refine vp ?_
 refine vn ?_
 refine Wp.block ?_
 refine lp [some 0,some 1] (fun pB:Int=>{ ch:=[(2,.hptr 0 0 0),(3,.hptr 1 0 0),(5,.int .i64 pB)],hp:=[.var [.int .i64 a0.Size.I,.int .i64 a0.Size.Q,.int .i64 a0.Size.M,.int .i64 a0.Size.E,aL Zb a0.Code],.var [.int .i64 b1.Size.I,.int .i64 b1.Size.Q,.int .i64 b1.Size.M,.int .i64 b1.Size.E,aL Zb b1.Code]],base:=0,n:=38,cond:=True,gl:=G0 }) (fun m x=>Z42 a0 b1 m x = some r) n 0 h ?_
 rintro rd pB h
 dsimp only [Z42] at h
 try dsimp only
 refine Wp.seq ?_
 refine rs0 ?_
 iterate 5 refine vp ?_
 refine vn ?_
 refine sD h F (fun F h=>?_) fun F h=>?_
 refine cF ?_
 refine Wp.exit ?_
 refine sh ?_
 refine rs0 ?_
 refine vp ?_
 refine vn ?_
 cases h
 exact Wp.ret en0
 refine cT ?_
 refine Wp.skip ?_
 refine sh ?_
 refine Wp.seq ?_
 refine Wp.block ?_
 refine dw (fun _=>false) [0,1] ?_
 refine du 3 ?_
 refine eI h F fun xC F h=>?_
 refine du 5 ?_
 refine eI h F fun xD F h=>?_
 refine du 3 ?_
 refine dn ?_
 refine sB h F (fun F h=>?_) fun F h=>?_
 refine cF ?_
 refine Wp.skip ?_
 refine sh ?_
 refine rg0 ?_
 iterate 3 refine vp ?_
 refine vn ?_
 exact nx [some 0,some 1] (IntKind.i64.wrap (pB + 1)) h
 refine cT ?_
 refine rs0 ?_
 refine vp ?_
 refine vn ?_
 cases h
 exact Wp.ret en0
 refine cT ?_
 refine rs0 ?_
 refine vp ?_
 refine vn ?_
 cases h
 exact Wp.ret en0
 refine vs ?_ (hg:=by first | (simp [F]; done) | (have hq:=F; simp at hq; simp [F,hq]; done) | (have hq:=F; simp at hq; simp [F]; omega))
 refine vs ?_ (hg:=by first | (simp [F]; done) | (have hq:=F; simp at hq; simp [F,hq]; done) | (have hq:=F; simp at hq; simp [F]; omega))
 refine vs ?_ (hg:=by first | (simp [F]; done) | (have hq:=F; simp at hq; simp [F,hq]; done) | (have hq:=F; simp at hq; simp [F]; omega))
 refine vs ?_ (hg:=by first | (simp [F]; done) | (have hq:=F; simp at hq; simp [F,hq]; done) | (have hq:=F; simp at hq; simp [F]; omega))
 refine vs ?_ (hg:=by first | (simp [F]; done) | (have hq:=F; simp at hq; simp [F,hq]; done) | (have hq:=F; simp at hq; simp [F]; omega))
 refine vs ?_ (hg:=by first | (simp [F]; done) | (have hq:=F; simp at hq; simp [F,hq]; done) | (have hq:=F; simp at hq; simp [F]; omega))
 refine vs ?_ (hg:=by first | (simp [F]; done) | (have hq:=F; simp at hq; simp [F,hq]; done) | (have hq:=F; simp at hq; simp [F]; omega))
 refine vp ?_
 refine vn ?_
 refine cT ?_ (ht:=by first | (simp [F]; done) | (have hq:=F.1; simp only [Bool.not_and] at hq; simp [F]; rw [hq]; rfl))
 refine rs0 ?_
 refine vp ?_
 refine vn ?_
 cases h
 exact Wp.ret en0
theorem Z8Z (n:Nat):∀ {t0:TreeTree} {r:(List Int)},Z1M n t0 = some r -> Con Tryz.prog G0 73 [.agg [.int .i64 t0.Kind,.int .i64 t0.N,aL Z6 t0.Kids]] (aL (cI .i64) r) []:=by
 induction n with
 | zero=>intro t0 r h; simp [Z1M] at h
 | succ n Hslf_tree_Leaves =>
  intro t0 r h
  refine Za (T:=TT0) tt_ok Tryz.func73 (c:=_) (by unfold Tryz.f73; rfl) Tryz.ntmps73 (rs:=[.tmp 2]) (by rw [Tryz.results73]) (by unfold Tryz.f73; rfl) (by simp) ?_
  simp only [Z3]
  have F:=True.intro
  dsimp only [Z1M] at h
  refine rs0 ?_
  iterate 2 refine vp ?_
  refine vn ?_
  refine Wp.seq ?_
  refine rs0 ?_
  iterate 2 refine vp ?_
  refine vn ?_
  refine Wp.block ?_
  refine rs0 ?_
  iterate 2 refine vp ?_
  refine vn ?_
  refine sB h F (fun F h=>?_) fun F h=>?_
  refine cF ?_
  refine jn (fun pE:Bool=>{ ch:=[(1,.hptr 0 0 0),(13,.bool pE)],hp:=[.var [.int .i64 t0.Kind,.int .i64 t0.N,aL Z6 t0.Kids]],base:=0,n:=29,cond:=True,gl:=G0 }) (fun x=>Z43 n t0 (Z1M n) x = some r) ?_ ?_
  clear h
  rintro pE h
  dsimp only [Z43] at h
  try dsimp only
  refine sB h F (fun F h=>?_) fun F h=>?_
  refine cF ?_
  refine Wp.skip ?_
  refine sh ?_
  refine rs0 ?_
  refine vp ?_
  refine vn ?_
  cases h
  exact Wp.ret en0
  refine cT ?_
  refine rs0 ?_
  refine vp ?_
  refine vn ?_
  refine Wp.seq ?_
  refine rs0 ?_
  iterate 4 refine vp ?_
  refine vn ?_
  refine Wp.block ?_
  refine lp [none] (fun x:Int × (List Int)=>{ ch:=[(3,.sl 0 0 x.2.length),(17,aL Z6 t0.Kids),(18,.int .i64 (t0.Kids.length:Int)),(19,.int .i64 x.1)],hp:=[.arr 1 x.2.length (rw (x.2.map (cI .i64)))],base:=0,n:=29,cond:=True,gl:=G0 }) (fun m x=>Z3g t0 (Z1M n) m x.1 x.2 = some r) n (0,[]) h ?_
  rintro rn ⟨pF,pG⟩ h
  dsimp only [Z3g] at h
  try dsimp only
  refine rs0 ?_
  refine vp ?_
  refine vn ?_
  refine Wp.seq ?_
  refine sD h F (fun F h=>?_) fun F h=>?_
  refine cF ?_
  refine Wp.exit ?_
  refine sh ?_
  refine rs0 ?_
  iterate 2 refine vp ?_
  refine vn ?_
  cases h
  exact Wp.ret en0
  refine cT ?_
  refine Wp.skip ?_
  refine sh ?_
  refine Wp.seq ?_
  refine Wp.block ?_
  refine rs0 ?_
  refine eI h F fun xH F h=>?_
  iterate 4 refine vp ?_
  refine vn ?_
  refine rg (fun d=>Nat.beq d 26) ?_
  iterate 2 refine vp ?_
  obtain ⟨rI,hr15137,h⟩:=obind h
  refine vc (Hslf_tree_Leaves hr15137) ?_
  refine gd h F fun F h=>?_
  refine vp ?_
  refine nm (cI .i64) h F fun lJ F h=>?_
  refine vp ?_
  refine vn ?_
  refine sh ?_
  refine rg0 ?_
  iterate 2 refine vp ?_
  refine vn ?_
  exact nx [some 2] ((IntKind.i64.wrap (pF + 1)),lJ) h
  refine rs0 ?_
  iterate 2 refine vp ?_
  refine vn ?_
  refine sB h F (fun F h=>?_) fun F h=>?_
  refine cF ?_
  refine rg0 ?_
  iterate 2 refine vp ?_
  refine vn ?_
  exact nx [some 0] (t0.Kind == 2) h
  refine cT ?_
  refine Wp.skip ?_
  exact nx [some 0] (t0.Kind == 1) h
  refine cT ?_
  refine rs0 ?_
  iterate 3 refine vp ?_
  refine nl (cI .i64) h F fun lK m F h=>?_
  try simp only [m]
  clear m
  refine vp ?_
  refine vn ?_
  cases h
  exact Wp.ret en0
theorem Z7f {n:Nat} {l0:List Ref15Edge} {i_1:Int} {k2:Int} {r:(List Ref15Edge)} (h:Z3h n l0 i_1 k2 = some r):Con Tryz.prog G0 76 [aL ZR l0,.int .i64 i_1,.int .i64 k2] (.sl 0 0 r.length) [.arr 5 r.length (rw (r.map ZR))]:=by
 refine Za (T:=TT0) tt_ok Tryz.func76 (c:=_) (by unfold Tryz.f76; rfl) Tryz.ntmps76 (rs:=[.tmp 6]) (by rw [Tryz.results76]) (by unfold Tryz.f76; rfl) (by simp) ?_
 simp only [Z3]
 have F:=True.intro
 dsimp only [Z3h] at h
 refine rs0 ?_
 refine vp ?_
 refine vn ?_
 refine rs0 ?_
 refine vp ?_
 refine vn ?_
 refine Wp.seq ?_
 refine rs0 ?_
 refine vp ?_
 refine vn ?_
 refine Wp.block ?_
 refine lp [none] (fun x:(List Ref15Edge) × Int=>{ ch:=[(0,aL ZR l0),(1,.int .i64 i_1),(2,.int .i64 k2),(7,.sl 0 0 x.1.length),(8,.int .i64 x.2)],hp:=[.arr 5 x.1.length (rw (x.1.map ZR))],base:=0,n:=31,cond:=True,gl:=G0 }) (fun m x=>Z1u l0 i_1 k2 m x.1 x.2 = some r) n ([],0) h ?_
 rintro rd ⟨pL,pM⟩ h
 dsimp only [Z1u] at h
 try dsimp only
 refine Wp.seq ?_
 refine rs0 ?_
 iterate 4 refine vp ?_
 refine vn ?_
 refine sD h F (fun F h=>?_) fun F h=>?_
 refine cF ?_
 refine Wp.exit ?_
 refine sh ?_
 refine rs0 ?_
 iterate 2 refine vp ?_
 refine vn ?_
 cases h
 exact Wp.ret (enH [some 0])
 refine cT ?_
 refine Wp.skip ?_
 refine sh ?_
 refine Wp.seq ?_
 refine Wp.block ?_
 refine rs0 ?_
 iterate 4 refine vp ?_
 refine sB h F (fun F h=>?_) fun F h=>?_
 refine vs ?_
 refine vs ?_
 refine vs ?_
 refine vp ?_
 refine vn ?_
 refine cF ?_
 refine Wp.skip ?_
 refine sh ?_
 refine rg0 ?_
 iterate 3 refine vp ?_
 refine vn ?_
 exact nx [some 0] (pL,(IntKind.i64.wrap (pM + 1))) h
 refine vg ?_
 refine vg ?_
 refine vg ?_
 refine vp ?_
 refine vn ?_
 refine sB h F (fun F h=>?_) fun F h=>?_
 refine cF ?_
 refine Wp.skip ?_
 refine sh ?_
 refine rg0 ?_
 iterate 3 refine vp ?_
 refine vn ?_
 exact nx [some 0] (pL,(IntKind.i64.wrap (pM + 1))) h
 refine cT ?_
 refine rg (fun d=>Nat.beq d 29) ?_
 iterate 3 refine vp ?_
 refine eI h F fun xN F h=>?_
 iterate 3 refine vp ?_
 refine gd h F fun F h=>?_
 refine vp ?_
 refine nm ZR h F fun lO F h=>?_
 refine vp ?_
 refine vn ?_
 refine sh ?_
 refine rg0 ?_
 iterate 3 refine vp ?_
 refine vn ?_
 exact nx [some 1] (lO,(IntKind.i64.wrap (pM + 1))) h
theorem Za2 {n:Nat} {s10:List Int} {s21:List Int} {r:Bool} (h:Z4d n s10 s21 = some r):Con Tryz.prog G0 28 [aL (cI .i64) s10,aL (cI .i64) s21] (.bool r) []:=by
 refine Za (T:=TT0) tt_ok Tryz.func28 (c:=_) (by unfold Tryz.f28; rfl) Tryz.ntmps28 (rs:=[.tmp 4]) (by rw [Tryz.results28]) (by unfold Tryz.f28; rfl) (by simp) ?_
 simp only [Z3]
 have F:=True.intro
 dsimp only [Z4d] at h
 refine rs0 ?_
 refine vp ?_
 refine vn ?_
 refine Wp.seq ?_
 refine rs0 ?_
 iterate 5 refine vp ?_
 refine vn ?_
 refine sB h F (fun F h=>?_) fun F h=>?_
 refine cF ?_
 refine Wp.skip ?_
 refine sh ?_
 refine Wp.seq ?_
 refine rs0 ?_
 iterate 3 refine vp ?_
 refine vn ?_
 refine Wp.block ?_
 refine lp [] (fun pP:Int=>{ ch:=[(0,aL (cI .i64) s10),(1,aL (cI .i64) s21),(12,.int .i64 (s10.length:Int)),(13,.int .i64 pP)],hp:=[],base:=0,n:=26,cond:=True,gl:=G0 }) (fun m x=>Z2k s10 s21 m x = some r) n 0 h ?_
 rintro rd pP h
 dsimp only [Z2k] at h
 try dsimp only
 refine rs0 ?_
 refine vp ?_
 refine vn ?_
 refine Wp.seq ?_
 refine sD h F (fun F h=>?_) fun F h=>?_
 refine cF ?_
 refine Wp.exit ?_
 refine sh ?_
 refine rs0 ?_
 refine vp ?_
 refine vn ?_
 cases h
 exact Wp.ret en0
 refine cT ?_
 refine Wp.skip ?_
 refine sh ?_
 refine Wp.seq ?_
 refine Wp.block ?_
 refine rs0 ?_
 iterate 2 refine vp ?_
 refine vn ?_
 refine dw (fun _=>false) [] ?_
 refine du 2 ?_
 refine eI h F fun xQ F h=>?_
 refine du 4 ?_
 refine eI h F fun xR F h=>?_
 refine du 3 ?_
 refine dn ?_
 refine sB h F (fun F h=>?_) fun F h=>?_
 refine cF ?_
 refine Wp.skip ?_
 refine sh ?_
 refine rg0 ?_
 iterate 2 refine vp ?_
 refine vn ?_
 exact nx [] (IntKind.i64.wrap (pP + 1)) h
 refine cT ?_
 refine rs0 ?_
 refine vp ?_
 refine vn ?_
 cases h
 exact Wp.ret en0
 refine cT ?_
 refine rs0 ?_
 refine vp ?_
 refine vn ?_
 cases h
 exact Wp.ret en0
theorem Zd6 {n:Nat} {r_0:ApiRung} {i_1:Int} {slot2:Int} {r:Int} (h:Z7c n r_0 i_1 slot2 = some r):Con Tryz.prog G0 117 [.agg (Z7 r_0),.int .i64 i_1,.int .i64 slot2] (.int .i64 r) []:=by
 refine Za (T:=TT0) tt_ok Tryz.func117 (c:=_) (by unfold Tryz.f117; rfl) Tryz.ntmps117 (rs:=[.tmp 6]) (by rw [Tryz.results117]) (by unfold Tryz.f117; rfl) (by simp) ?_
 simp only [Z3]
 have F:=True.intro
 dsimp only [Z7c] at h
 refine rs0 ?_
 iterate 2 refine vp ?_
 refine vn ?_
 refine rs0 ?_
 iterate 2 refine vp ?_
 refine vn ?_
 refine Wp.seq ?_
 refine rs0 ?_
 refine vp ?_
 refine vn ?_
 refine Wp.block ?_
 refine lp [some 0] (fun x:Int × Int=>{ ch:=[(1,.int .i64 i_1),(3,.hptr 0 0 0),(7,.int .i64 x.1),(8,.int .i64 x.2)],hp:=[.var [.str r_0.Label,aL Z0 r_0.Contacts,aL Z4 r_0.Coils,.str r_0.Jump]],base:=0,n:=25,cond:=True,gl:=G0 }) (fun m x=>Z2M r_0 i_1 m x.1 x.2 = some r) n (slot2,0) h ?_
 rintro rd ⟨slot40894,pT⟩ h
 dsimp only [Z2M] at h
 try dsimp only
 refine Wp.seq ?_
 refine rs0 ?_
 iterate 3 refine vp ?_
 refine vn ?_
 refine sD h F (fun F h=>?_) fun F h=>?_
 refine cF ?_
 refine Wp.exit ?_
 refine sh ?_
 refine rs0 ?_
 iterate 2 refine vp ?_
 refine vn ?_
 cases h
 exact Wp.ret en0
 refine cT ?_
 refine Wp.skip ?_
 refine sh ?_
 refine Wp.seq ?_
 refine Wp.block ?_
 refine rs0 ?_
 iterate 3 refine vp ?_
 refine eI h F fun xU F h=>?_
 iterate 4 refine vp ?_
 refine vn ?_
 refine sD h F (fun F h=>?_) fun F h=>?_
 refine cF ?_
 refine Wp.skip ?_
 refine sh ?_
 refine rg0 ?_
 iterate 3 refine vp ?_
 refine vn ?_
 exact nx [some 0] (slot40894,(IntKind.i64.wrap (pT + 1))) h
 refine cT ?_
 refine rg0 ?_
 iterate 3 refine vp ?_
 refine vn ?_
 refine sh ?_
 refine rg0 ?_
 iterate 3 refine vp ?_
 refine vn ?_
 exact nx [some 0] ((IntKind.i64.wrap (slot40894 + 1)),(IntKind.i64.wrap (pT + 1))) h
theorem Z8F {n:Nat} {s0:List Str} {v1:Str} {r:Int} (h:Z4o n s0 v1 = some r):Con Tryz.prog G0 139 [aL cS s0,.str v1] (.int .i64 r) []:=by
 refine Za (T:=TT0) tt_ok Tryz.func139 (c:=_) (by unfold Tryz.f139; rfl) Tryz.ntmps139 (rs:=[.tmp 4]) (by rw [Tryz.results139]) (by unfold Tryz.f139; rfl) (by simp) ?_
 simp only [Z3]
 have F:=True.intro
 dsimp only [Z4o] at h
 refine rs0 ?_
 refine vp ?_
 refine vn ?_
 refine Wp.seq ?_
 refine rs0 ?_
 iterate 3 refine vp ?_
 refine vn ?_
 refine Wp.block ?_
 refine lp [] (fun pV:Int=>{ ch:=[(0,aL cS s0),(1,.str v1),(7,.int .i64 (s0.length:Int)),(8,.int .i64 pV)],hp:=[],base:=0,n:=19,cond:=True,gl:=G0 }) (fun m x=>Z1P s0 v1 m x = some r) n 0 h ?_
 rintro rd pV h
 dsimp only [Z1P] at h
 try dsimp only
 refine rs0 ?_
 refine vp ?_
 refine vn ?_
 refine Wp.seq ?_
 refine sD h F (fun F h=>?_) fun F h=>?_
 refine cF ?_
 refine Wp.exit ?_
 refine sh ?_
 refine rs0 ?_
 refine vp ?_
 refine vn ?_
 cases h
 exact Wp.ret en0
 refine cT ?_
 refine Wp.skip ?_
 refine sh ?_
 refine Wp.seq ?_
 refine Wp.block ?_
 refine rs0 ?_
 iterate 2 refine vp ?_
 refine vn ?_
 refine rs0 ?_
 iterate 3 refine vp ?_
 refine eI h F fun xW F h=>?_
 iterate 3 refine vp ?_
 refine vn ?_
 refine sE h F (fun _ F h=>?_) fun _ F h=>?_
 refine cF ?_
 refine Wp.skip ?_
 refine sh ?_
 refine rg0 ?_
 iterate 2 refine vp ?_
 refine vn ?_
 exact nx [] (IntKind.i64.wrap (pV + 1)) h
 refine cT ?_
 refine rs0 ?_
 iterate 2 refine vp ?_
 refine vn ?_
 cases h
 exact Wp.ret en0
theorem Zek {n:Nat} {c0:Int} {r:Bool} (h:Z77 n c0 = some r):Con Tryz.prog G0 174 [.int .i32 c0] (.bool r) []:=by
 refine Za (T:=TT0) tt_ok Tryz.func174 (c:=_) (by unfold Tryz.f174; rfl) Tryz.ntmps174 (rs:=[.tmp 2]) (by rw [Tryz.results174]) (by unfold Tryz.f174; rfl) (by simp) ?_
 simp only [Z3]
 have F:=True.intro
 dsimp only [Z77] at h
 refine rs0 ?_
 refine vp ?_
 refine vn ?_
 refine rs0 ?_
 iterate 3 refine vp ?_
 refine sD h F (fun F h=>?_) fun F h=>?_
 refine vs ?_
 refine vs ?_
 iterate 2 refine vp ?_
 refine vg ?_
 refine vg ?_
 refine vg ?_
 refine sD h F (fun F h=>?_) fun F h=>?_
 refine vs ?_
 refine vs ?_
 refine vg ?_
 iterate 2 refine vp ?_
 refine vn ?_
 cases h
 exact Wp.ret en0
 refine vg ?_
 refine vg ?_
 refine vg ?_
 iterate 2 refine vp ?_
 refine vn ?_
 cases h
 exact Wp.ret en0
 refine vg ?_
 refine vg ?_
 iterate 2 refine vp ?_
 refine sD h F (fun F h=>?_) fun F h=>?_
 refine vg ?_
 refine vg ?_
 refine vg ?_
 refine sD h F (fun F h=>?_) fun F h=>?_
 refine vs ?_
 refine vs ?_
 refine vg ?_
 iterate 2 refine vp ?_
 refine vn ?_
 cases h
 exact Wp.ret en0
 refine vg ?_
 refine vg ?_
 refine vg ?_
 iterate 2 refine vp ?_
 refine vn ?_
 cases h
 exact Wp.ret en0
 refine vs ?_
 refine vs ?_
 refine vs ?_
 refine vs ?_
 refine vs ?_
 refine vs ?_
 iterate 2 refine vp ?_
 refine vn ?_
 cases h
 exact Wp.ret en0
theorem Zj {n:Nat} {x_1:ApiIns} {b0:Str} {b0_1:List ApiContact} {b0_2:List ApiCoil} {b0_3:Str} {l1:List Int} {l2:List ApiIns} {r:(List ApiIns)} (h:Zf n x_1 b0 b0_1 b0_2 b0_3 l1 l2 = some r):ConH Tryz.prog G0 79 [.hptr 0 0 0,.agg (Zb x_1)] [.var [.str b0,aL Z0 b0_1,aL Z4 b0_2,.str b0_3,.sl 1 0 l1.length,.sl 2 0 l2.length],.arr 1 l1.length (rw (l1.map (cI .i64))),.arr 4 l2.length (rw (l2.map Zb))] (.tup []) [.var [.str b0,aL Z0 b0_1,aL Z4 b0_2,.str b0_3,.sl 1 0 l1.length,.sl 3 0 r.length],.arr 1 l1.length (rw (l1.map (cI .i64))),.dead,.arr 4 r.length (rw (r.map Zb))]:=by
 refine ZA (T:=TT0) tt_ok Tryz.func79 (c:=_) (by unfold Tryz.f79; rfl) Tryz.ntmps79 (rs:=[]) (by rw [Tryz.results79]) (by unfold Tryz.f79; rfl) (by simp) (k:=3) rfl rfl ?_
 try simp only [Z3]
 have F:=True.intro
 dsimp only [Zf] at h
 refine rs0 ?_
 refine vp ?_
 refine vn ?_
 refine dw1 (fun d=>Nat.beq d 11) [0,1,3] ?_
 refine du 7 ?_
 refine gd h F fun F h=>?_
 refine de ?_
 refine nm Zb h F fun lX F h=>?_
 refine du 2 ?_
 refine db ?_
 refine dn ?_
 cases h
 exact n2r (enH [some 0,some 1,some 2,some 4])
theorem Z9E {n:Nat} {y0:ReduceEdge} {b0:ReduceEdge} {r:Bool} (h:Z3V n y0 b0 = some r):ConH Tryz.prog G0 66 [.agg (Zv y0),.hptr 0 0 0] [.var [.str b0.pair.from_,.str b0.pair.to_,.int .i64 b0.t_.Kind,.int .i64 b0.t_.N,aL Z6 b0.t_.Kids]] (.bool r) [.var [.str b0.pair.from_,.str b0.pair.to_,.int .i64 b0.t_.Kind,.int .i64 b0.t_.N,aL Z6 b0.t_.Kids]]:=by
 refine ZA (T:=TT0) tt_ok Tryz.func66 (c:=_) (by unfold Tryz.f66; rfl) Tryz.ntmps66 (rs:=[.tmp 3]) (by rw [Tryz.results66]) (by unfold Tryz.f66; rfl) (by simp) (k:=1) rfl rfl ?_
 try simp only [Z3]
 have F:=True.intro
 dsimp only [Z3V] at h
 refine rs0 ?_
 iterate 2 refine vp ?_
 refine vn ?_
 refine rs0 ?_
 iterate 6 refine vp ?_
 refine vn ?_
 cases h
 exact Wp.ret (enH [some 0])
theorem Z9h {n:Nat} {k0:TreeTree} {b0:TreeTree} {r:Bool} (h:Z4N n k0 b0 = some r):ConH Tryz.prog G0 92 [.agg [.int .i64 k0.Kind,.int .i64 k0.N,aL Z6 k0.Kids],.hptr 0 0 0] [.var [.int .i64 b0.Kind,.int .i64 b0.N,aL Z6 b0.Kids]] (.bool r) [.var [.int .i64 b0.Kind,.int .i64 b0.N,aL Z6 b0.Kids]]:=by
 refine ZA (T:=TT0) tt_ok Tryz.func92 (c:=_) (by unfold Tryz.f92; rfl) Tryz.ntmps92 (rs:=[.tmp 3]) (by rw [Tryz.results92]) (by unfold Tryz.f92; rfl) (by simp) (k:=1) rfl rfl ?_
 try simp only [Z3]
 have F:=True.intro
 dsimp only [Z4N] at h
 refine rs0 ?_
 iterate 2 refine vp ?_
 refine vn ?_
 refine rs0 ?_
 iterate 6 refine vp ?_
 refine vn ?_
 cases h
 exact Wp.ret (enH [some 0])
theorem Zbw {n:Nat} {c0:ApiContact} {r:Bool} (h:Z4W n c0 = some r):Con Tryz.prog G0 47 [.agg (Z0 c0)] (.bool r) []:=by
 refine Za (T:=TT0) tt_ok Tryz.func47 (c:=_) (by unfold Tryz.f47; rfl) Tryz.ntmps47 (rs:=[.tmp 2]) (by rw [Tryz.results47]) (by unfold Tryz.f47; rfl) (by simp) ?_
 simp only [Z3]
 have F:=True.intro
 dsimp only [Z4W] at h
 refine rs0 ?_
 iterate 2 refine vp ?_
 refine vn ?_
 refine rs0 ?_
 iterate 4 refine vp ?_
 refine sD h F (fun F h=>?_) fun F h=>?_
 refine vg ?_
 refine vg ?_
 refine vg ?_
 iterate 2 refine vp ?_
 refine vn ?_
 cases h
 exact Wp.ret en0
 refine vs ?_
 refine vs ?_
 refine vs ?_
 iterate 2 refine vp ?_
 refine vn ?_
 cases h
 exact Wp.ret en0
theorem Z7X {n:Nat} {n_0:Str} {m1:List (Str × Bool)} {r:Bool} (h:Z1N n n_0 m1 = some r):ConH Tryz.prog G0 167 [.str n_0,.hptr 0 0 0] [.var [.mp 1],.map (mAV AV.str cB m1)] (.bool r) [.var [.mp 1],.map (mAV AV.str cB m1)]:=by
 refine ZA (T:=TT0) tt_ok Tryz.func167 (c:=_) (by unfold Tryz.f167; rfl) Tryz.ntmps167 (rs:=[.tmp 3]) (by rw [Tryz.results167]) (by unfold Tryz.f167; rfl) (by simp) (k:=2) rfl rfl ?_
 try simp only [Z3]
 have F:=True.intro
 dsimp only [Z1N] at h
 refine rs0 ?_
 refine vp ?_
 refine vn ?_
 refine rs0 ?_
 iterate 5 refine vp ?_
 refine vn ?_
 cases h
 exact Wp.ret (enH [some 0,some 1])
theorem Zc3 {n:Nat} {l0:ApiLadder} {r:ApiSize} (h:Z6y n l0 = some r):Con Tryz.prog G0 118 [.agg (Z1r l0)] (.agg (Z4l r)) []:=by
 refine Za (T:=TT0) tt_ok Tryz.func118 (c:=_) (by unfold Tryz.f118; rfl) Tryz.ntmps118 (rs:=[.cell 2 61]) (by rw [Tryz.results118]) (by unfold Tryz.f118; rfl) (by simp) ?_
 simp only [Z3]
 have F:=True.intro
 dsimp only [Z6y] at h
 refine rs0 ?_
 iterate 2 refine vp ?_
 refine vn ?_
 refine rs0 ?_
 iterate 8 refine vp ?_
 refine vn ?_
 cases h
 exact Wp.ret en0
end Go.Proofs.YtaebdeidbibfkaaGreatDoor
