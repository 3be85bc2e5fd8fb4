/- Contracts: models of functions are right. No law is proved here. -/
import Derived.Test.YtaebdeidbibfkaaGreatDoorIGH
import Derived.Test.YtaebdeidbibfkaaGreatDoorIGC7
import Derived.Test.YtaebdeidbibfkaaGreatDoorIGC8
import Derived.Test.YtaebdeidbibfkaaGreatDoorIGC9
namespace Go.Proofs.YtaebdeidbibfkaaGreatDoor
open Go.Av Go.G
attribute [-simp] Int.natCast_tdiv_eq_ediv
attribute [local congr] Zx ZE Zy
variable [Drawn]
set_option maxHeartbeats 4000000
set_option linter.unusedSectionVars false
set_option maxRecDepth 20000
set_option linter.unusedSimpArgs false
set_option linter.unusedVariables false
theorem ZaB (n:Nat):∀ {ab:TreeTree} {a1:Int} {m0:List (Int × Bool)} {r:Int × (List (Int × Bool))},Z1p n ab a1 m0 = some r -> ConH Tryz.prog G0 59 [.agg [.int .i64 ab.Kind,.int .i64 ab.N,aL Z6 ab.Kids],.int .i64 a1,.mp 0] [.map (mAV (AV.int .i64) cB m0)] (.int .i64 r.1) [.map (mAV (AV.int .i64) cB r.2)]:=by
 induction n with
 | zero=>intro ab a1 m0 r h; simp [Z1p] at h
 | succ n Hslf_tree_Tree_check =>
  intro ab a1 m0 r h
  refine ZA (T:=TT0) tt_ok Tryz.func59 (c:=_) (by unfold Tryz.f59; rfl) Tryz.ntmps59 (rs:=[.tmp 6]) (by rw [Tryz.results59]) (by unfold Tryz.f59; rfl) (by simp) (k:=1) rfl rfl ?_
  try simp only [Z3]
  have F:=True.intro
  dsimp only [Z1p] at h
  refine rs0 ?_
  iterate 2 refine vp ?_
  refine vn ?_
  refine jn (fun _:Unit=>{ ch:=[(1,.int .i64 a1),(2,.mp 0),(3,.hptr 1 0 0)],hp:=[.map (mAV (AV.int .i64) cB m0),.var [.int .i64 ab.Kind,.int .i64 ab.N,aL Z6 ab.Kids]],base:=1,n:=96,cond:=True,gl:=G0 }) (fun x=>Z3A n ab a1 m0 (Z1p n) = some r) ?_ ?_
  clear h
  rintro _ h
  dsimp only [Z3A] at h
  try dsimp only
  refine Wp.seq ?_
  refine rs0 ?_
  iterate 4 refine vp ?_
  refine vn ?_
  refine Wp.block ?_
  refine lp [some 0] (fun x:(List (Int × Bool)) × Int=>{ ch:=[(1,.int .i64 a1),(2,.mp 0),(82,aL Z6 ab.Kids),(83,.int .i64 (ab.Kids.length:Int)),(84,.int .i64 x.2)],hp:=[.map (mAV (AV.int .i64) cB x.1)],base:=1,n:=96,cond:=True,gl:=G0 }) (fun m x=>Z2E ab a1 (Z1p n) m x.1 x.2 = some r) n (m0,0) h ?_
  rintro rc ⟨md,pe⟩ h
  dsimp only [Z2E] at h
  try dsimp only
  refine rs0 ?_
  refine vp ?_
  refine vn ?_
  refine Wp.seq ?_
  refine sD h F (fun F h=>?_) fun F h=>?_
  refine cF ?_
  refine Wp.exit ?_
  refine sh ?_
  refine rs0 ?_
  refine vp ?_
  refine vn ?_
  cases h
  exact Wp.ret (enH [some 0])
  refine cT ?_
  refine Wp.skip ?_
  refine sh ?_
  refine Wp.seq ?_
  refine Wp.block ?_
  refine rs0 ?_
  refine eI h F fun xf F h=>?_
  iterate 4 refine vp ?_
  refine vn ?_
  refine rs0 ?_
  iterate 3 refine vp ?_
  obtain ⟨⟨rh,qi⟩,hr15301,h⟩:=obind h
  dsimp only at h
  refine vh [0] (Hslf_tree_Tree_check hr15301) ?_
  refine vp ?_
  refine vn ?_
  refine rs0 ?_
  iterate 2 refine vp ?_
  refine vn ?_
  refine sB h F (fun F h=>?_) fun F h=>?_
  refine cF ?_
  refine Wp.skip ?_
  refine sh ?_
  refine rg0 ?_
  iterate 2 refine vp ?_
  refine vn ?_
  exact nx [some 0] (qi,(IntKind.i64.wrap (pe + 1))) h
  refine cT ?_
  refine rs0 ?_
  iterate 2 refine vp ?_
  refine vn ?_
  cases h
  exact Wp.ret (enH [some 0])
  refine Wp.block ?_
  refine rs0 ?_
  iterate 4 refine vp ?_
  refine sD h F (fun F h=>?_) fun F h=>?_
  refine vg ?_
  refine vg ?_
  refine vg ?_
  iterate 2 refine vp ?_
  refine vn ?_
  refine sD h F (fun F h=>?_) fun F h=>?_
  refine cF ?_
  refine rs0 ?_
  iterate 4 refine vp ?_
  refine sB h F (fun F h=>?_) fun F h=>?_
  refine vs ?_
  refine vs ?_
  refine vs ?_
  refine vs ?_
  iterate 2 refine vp ?_
  refine vg ?_
  refine vg ?_
  refine vg ?_
  refine vg ?_
  refine sB h F (fun F h=>?_) fun F h=>?_
  refine vs ?_
  refine vs ?_
  refine vs ?_
  refine vg ?_
  iterate 2 refine vp ?_
  refine vn ?_
  refine cF ?_
  refine rs0 ?_
  iterate 4 refine vp ?_
  refine vs ?_
  refine vs ?_
  refine vs ?_
  refine vs ?_
  refine vs ?_
  refine vs ?_
  refine vs ?_
  refine vs ?_
  refine vs ?_
  iterate 2 refine vp ?_
  refine vn ?_
  refine cF ?_
  refine rs0 ?_
  iterate 4 refine vp ?_
  refine vs ?_
  refine vs ?_
  refine vs ?_
  refine vs ?_
  iterate 2 refine vp ?_
  refine vn ?_
  refine cF ?_
  refine rs0 ?_
  iterate 4 refine vp ?_
  refine vn ?_
  refine cF ?_
  refine rs0 ?_
  iterate 5 refine vp ?_
  refine vn ?_
  refine sD h F (fun F h=>?_) fun F h=>?_
  refine cF ?_
  refine rs0 ?_
  iterate 3 refine vp ?_
  obtain ⟨rj,hr15306,h⟩:=obind h
  refine vh [1] (Z3l hr15306) ?_
  refine vp ?_
  refine vn ?_
  refine sB h F (fun F h=>?_) fun F h=>?_
  refine cF ?_
  refine Wp.skip ?_
  exact nx [some 0,some 1] () h
  refine cT ?_
  refine rs0 ?_
  refine vp ?_
  refine vn ?_
  cases h
  exact Wp.ret (enH [some 0])
  refine cT ?_
  refine rs0 ?_
  refine vp ?_
  refine vn ?_
  cases h
  exact Wp.ret (enH [some 0])
  refine vg ?_
  refine vg ?_
  refine vg ?_
  refine vg ?_
  iterate 2 refine vp ?_
  refine vn ?_
  refine sB h F (fun F h=>?_) fun F h=>?_
  refine cF ?_
  refine rs0 ?_
  iterate 4 refine vp ?_
  refine vs ?_
  refine vs ?_
  refine vs ?_
  refine vs ?_
  refine vs ?_
  refine vs ?_
  refine vs ?_
  refine vs ?_
  refine vs ?_
  iterate 2 refine vp ?_
  refine vn ?_
  refine cF ?_
  refine rs0 ?_
  iterate 4 refine vp ?_
  refine vs ?_
  refine vs ?_
  refine vs ?_
  refine vs ?_
  iterate 2 refine vp ?_
  refine vn ?_
  refine cF ?_
  refine rs0 ?_
  iterate 4 refine vp ?_
  refine vn ?_
  refine cF ?_
  refine rs0 ?_
  iterate 5 refine vp ?_
  refine vn ?_
  refine sD h F (fun F h=>?_) fun F h=>?_
  refine cF ?_
  refine rs0 ?_
  iterate 3 refine vp ?_
  obtain ⟨rm,hr15304,h⟩:=obind h
  refine vh [1] (Z3l hr15304) ?_
  refine vp ?_
  refine vn ?_
  refine sB h F (fun F h=>?_) fun F h=>?_
  refine cF ?_
  refine Wp.skip ?_
  exact nx [some 0,some 1] () h
  refine cT ?_
  refine rs0 ?_
  refine vp ?_
  refine vn ?_
  cases h
  exact Wp.ret (enH [some 0])
  refine cT ?_
  refine rs0 ?_
  refine vp ?_
  refine vn ?_
  cases h
  exact Wp.ret (enH [some 0])
  refine cT ?_
  refine rs0 ?_
  refine vp ?_
  refine vn ?_
  cases h
  exact Wp.ret (enH [some 0])
  refine vg ?_
  refine vg ?_
  refine vg ?_
  refine vg ?_
  iterate 2 refine vp ?_
  refine sD h F (fun F h=>?_) fun F h=>?_
  refine vg ?_
  refine vg ?_
  refine vg ?_
  refine vg ?_
  refine sB h F (fun F h=>?_) fun F h=>?_
  refine vs ?_
  refine vs ?_
  refine vs ?_
  refine vg ?_
  iterate 2 refine vp ?_
  refine vn ?_
  refine cF ?_
  refine rs0 ?_
  iterate 4 refine vp ?_
  refine vg ?_
  refine vg ?_
  refine vg ?_
  refine vg ?_
  refine sD h F (fun F h=>?_) fun F h=>?_
  refine vg ?_
  refine vg ?_
  refine vg ?_
  refine vg ?_
  refine vg ?_
  iterate 2 refine vp ?_
  refine vn ?_
  refine sD h F (fun F h=>?_) fun F h=>?_
  refine cF ?_
  refine rs0 ?_
  iterate 4 refine vp ?_
  refine vg ?_
  refine vg ?_
  refine vg ?_
  refine vg ?_
  iterate 2 refine vp ?_
  refine vn ?_
  refine sB h F (fun F h=>?_) fun F h=>?_
  refine cF ?_
  refine rs0 ?_
  iterate 4 refine vp ?_
  refine vn ?_
  refine cT ?_
  refine rs0 ?_
  iterate 4 refine vp ?_
  refine vn ?_
  refine rs0 ?_
  refine vp ?_
  refine vn ?_
  cases h
  exact Wp.ret (enH [some 0])
  refine cT ?_
  refine rs0 ?_
  refine vp ?_
  refine vn ?_
  cases h
  exact Wp.ret (enH [some 0])
  refine cT ?_
  refine rs0 ?_
  refine vp ?_
  refine vn ?_
  cases h
  exact Wp.ret (enH [some 0])
  refine vs ?_
  refine vs ?_
  refine vs ?_
  refine vs ?_
  refine vg ?_
  iterate 2 refine vp ?_
  refine vn ?_
  refine cT ?_
  refine rs0 ?_
  refine vp ?_
  refine vn ?_
  cases h
  exact Wp.ret (enH [some 0])
  refine vg ?_
  refine vg ?_
  refine vg ?_
  refine vg ?_
  iterate 2 refine vp ?_
  refine vn ?_
  refine sB h F (fun F h=>?_) fun F h=>?_
  refine cF ?_
  refine rs0 ?_
  iterate 4 refine vp ?_
  refine vg ?_
  refine vg ?_
  refine vg ?_
  refine vg ?_
  refine sD h F (fun F h=>?_) fun F h=>?_
  refine vg ?_
  refine vg ?_
  refine vg ?_
  refine vg ?_
  refine vg ?_
  iterate 2 refine vp ?_
  refine vn ?_
  refine sD h F (fun F h=>?_) fun F h=>?_
  refine cF ?_
  refine rs0 ?_
  iterate 4 refine vp ?_
  refine vg ?_
  refine vg ?_
  refine vg ?_
  refine vg ?_
  iterate 2 refine vp ?_
  refine vn ?_
  refine sB h F (fun F h=>?_) fun F h=>?_
  refine cF ?_
  refine rs0 ?_
  iterate 4 refine vp ?_
  refine vn ?_
  refine cT ?_
  refine rs0 ?_
  iterate 4 refine vp ?_
  refine vn ?_
  refine rs0 ?_
  refine vp ?_
  refine vn ?_
  cases h
  exact Wp.ret (enH [some 0])
  refine cT ?_
  refine rs0 ?_
  refine vp ?_
  refine vn ?_
  cases h
  exact Wp.ret (enH [some 0])
  refine cT ?_
  refine rs0 ?_
  refine vp ?_
  refine vn ?_
  cases h
  exact Wp.ret (enH [some 0])
  refine vs ?_
  refine vs ?_
  refine vs ?_
  refine vs ?_
  refine vg ?_
  iterate 2 refine vp ?_
  refine vn ?_
  refine cT ?_
  refine rs0 ?_
  refine vp ?_
  refine vn ?_
  cases h
  exact Wp.ret (enH [some 0])
  refine cT ?_
  refine rs0 ?_
  refine vp ?_
  refine vn ?_
  cases h
  exact Wp.ret (enH [some 0])
  refine vs ?_
  refine vs ?_
  refine vs ?_
  refine vs ?_
  refine vs ?_
  refine vs ?_
  refine vs ?_
  refine vs ?_
  iterate 2 refine vp ?_
  refine vn ?_
  refine cT ?_
  refine rs0 ?_
  refine vp ?_
  refine vn ?_
  cases h
  exact Wp.ret (enH [some 0])
  refine cT ?_
  refine rs0 ?_
  refine vp ?_
  refine vn ?_
  cases h
  exact Wp.ret (enH [some 0])
  refine vs ?_
  refine vs ?_
  refine vs ?_
  iterate 2 refine vp ?_
  refine vn ?_
  refine cT ?_
  refine rs0 ?_
  refine vp ?_
  refine vn ?_
  cases h
  exact Wp.ret (enH [some 0])
theorem Z6c {n:Nat} {l0:List Str} {b1:List Str} {b2:List Str} {r:Int} (h:Z1k n l0 b1 b2 = some r):ConH Tryz.prog G0 98 [.sl 0 0 l0.length,.clos 107 [] [.hptr 1 0 0,.hptr 2 0 0]] [.arr 1 l0.length (rw (l0.map cS)),.var [aL cS b1],.var [aL cS b2]] (.int .i64 r) [.arr 1 l0.length (rw (l0.map cS)),.var [aL cS b1],.var [aL cS b2]]:=by
 refine ZA (T:=TT0) tt_ok Tryz.func98 (c:=_) (by unfold Tryz.f98; rfl) Tryz.ntmps98 (rs:=[.tmp 4]) (by rw [Tryz.results98]) (by unfold Tryz.f98; rfl) (by simp) (k:=3) rfl rfl ?_
 try simp only [Z3]
 have F:=True.intro
 dsimp only [Z1k] at h
 refine rs0 ?_
 refine vp ?_
 refine vn ?_
 refine Wp.seq ?_
 refine rs0 ?_
 iterate 3 refine vp ?_
 refine vn ?_
 refine Wp.block ?_
 refine lp [some 0,some 1,some 2] (fun pn:Int=>{ ch:=[(0,.sl 0 0 l0.length),(1,.clos 107 [] [.hptr 1 0 0,.hptr 2 0 0]),(7,.int .i64 (l0.length:Int)),(8,.int .i64 pn)],hp:=[.arr 1 l0.length (rw (l0.map cS)),.var [aL cS b1],.var [aL cS b2]],base:=3,n:=19,cond:=True,gl:=G0 }) (fun m x=>Zn n l0 b1 b2 m x = some r) n 0 h ?_
 rintro rp pn h
 dsimp only [Zn] at h
 try dsimp only
 refine rs0 ?_
 refine vp ?_
 refine vn ?_
 refine Wp.seq ?_
 refine sD h F (fun F h=>?_) fun F h=>?_
 refine cF ?_
 refine Wp.exit ?_
 refine sh ?_
 refine rs0 ?_
 refine vp ?_
 refine vn ?_
 cases h
 exact Wp.ret (enH [some 0,some 1,some 2])
 refine cT ?_
 refine Wp.skip ?_
 refine sh ?_
 refine Wp.seq ?_
 refine Wp.block ?_
 refine rs0 ?_
 iterate 2 refine vp ?_
 refine vn ?_
 refine rs0 ?_
 iterate 3 refine vp ?_
 refine eI h F fun xq F h=>?_
 iterate 2 refine vp ?_
 obtain ⟨rt,hr14707,h⟩:=obind h
 refine vh [1,2] (Z7e hr14707) ?_
 refine vn ?_
 refine sB h F (fun F h=>?_) fun F h=>?_
 refine cF ?_
 refine Wp.skip ?_
 refine sh ?_
 refine rg0 ?_
 iterate 2 refine vp ?_
 refine vn ?_
 exact nx [some 0,some 1,some 2] (IntKind.i64.wrap (pn + 1)) h
 refine cT ?_
 refine rs0 ?_
 iterate 2 refine vp ?_
 refine vn ?_
 cases h
 exact Wp.ret (enH [some 0,some 1,some 2])
theorem Z9C {n:Nat} {n_0:Str} {b0:ApiRung} {r:(List Str)} (h:Z2i n n_0 b0 = some r):ConH Tryz.prog G0 136 [.str n_0,.hptr 0 0 0] [.var [.str b0.Label,aL Z0 b0.Contacts,aL Z4 b0.Coils,.str b0.Jump]] (aL cS r) [.var [.str b0.Label,aL Z0 b0.Contacts,aL Z4 b0.Coils,.str b0.Jump]]:=by
 refine ZA (T:=TT0) tt_ok Tryz.func136 (c:=_) (by unfold Tryz.f136; rfl) Tryz.ntmps136 (rs:=[.tmp 3]) (by rw [Tryz.results136]) (by unfold Tryz.f136; rfl) (by simp) (k:=1) rfl rfl ?_
 try simp only [Z3]
 have F:=True.intro
 dsimp only [Z2i] at h
 refine rs0 ?_
 refine vp ?_
 refine vn ?_
 refine rs0 ?_
 refine vp ?_
 refine vn ?_
 refine Wp.seq ?_
 refine rs0 ?_
 iterate 2 refine vp ?_
 obtain ⟨ru,hr14298,h⟩:=obind h
 refine vc (Zbf hr14298) ?_
 iterate 2 refine vp ?_
 refine vn ?_
 refine Wp.block ?_
 refine lp [some 0,none] (fun x:Int × (List Str)=>{ ch:=[(1,.hptr 0 0 0),(4,.sl 1 0 x.2.length),(9,aL (cI .i64) ru),(10,.int .i64 (ru.length:Int)),(11,.int .i64 x.1)],hp:=[.var [.str b0.Label,aL Z0 b0.Contacts,aL Z4 b0.Coils,.str b0.Jump],.arr 1 x.2.length (rw (x.2.map cS))],base:=1,n:=26,cond:=True,gl:=G0 }) (fun m x=>ZW b0 ru m x.1 x.2 = some r) n (0,[]) h ?_
 rintro rp ⟨pw,px⟩ h
 dsimp only [ZW] at h
 try dsimp only
 refine rs0 ?_
 refine vp ?_
 refine vn ?_
 refine Wp.seq ?_
 refine sD h F (fun F h=>?_) fun F h=>?_
 refine cF ?_
 refine Wp.exit ?_
 refine sh ?_
 refine rs0 ?_
 iterate 2 refine vp ?_
 refine vn ?_
 cases h
 exact Wp.ret (enH [some 0])
 refine cT ?_
 refine Wp.skip ?_
 refine sh ?_
 refine Wp.seq ?_
 refine Wp.block ?_
 refine rs0 ?_
 refine eI h F fun xy F h=>?_
 iterate 3 refine vp ?_
 refine vn ?_
 refine rg (fun d=>Nat.beq d 23) ?_
 iterate 4 refine vp ?_
 refine eI h F fun xz F h=>?_
 iterate 4 refine vp ?_
 refine gd h F fun F h=>?_
 refine vp ?_
 refine nm cS h F fun lA F h=>?_
 refine vp ?_
 refine vn ?_
 refine sh ?_
 refine rg0 ?_
 iterate 2 refine vp ?_
 refine vn ?_
 exact nx [some 0,some 2] ((IntKind.i64.wrap (pw + 1)),lA) h
theorem ZaJ {n:Nat} {r_0:ApiRung} {node1:Str} {r:(List Str)} (h:Z5J n r_0 node1 = some r):Con Tryz.prog G0 114 [.agg (Z7 r_0),.str node1] (aL cS r) []:=by
 refine Za (T:=TT0) tt_ok Tryz.func114 (c:=_) (by unfold Tryz.f114; rfl) Tryz.ntmps114 (rs:=[.tmp 4]) (by rw [Tryz.results114]) (by unfold Tryz.f114; rfl) (by simp) ?_
 simp only [Z3]
 have F:=True.intro
 dsimp only [Z5J] at h
 refine rs0 ?_
 iterate 2 refine vp ?_
 refine vn ?_
 refine rs0 ?_
 iterate 2 refine vp ?_
 obtain ⟨rB,hr38811,h⟩:=obind h
 refine vc (Z8w hr38811) ?_
 refine vp ?_
 refine vn ?_
 cases h
 exact Wp.ret en0
theorem ZaE {n:Nat} {r_0:ApiRung} {node1:Str} {r:(List Str)} (h:Z5G n r_0 node1 = some r):Con Tryz.prog G0 115 [.agg (Z7 r_0),.str node1] (aL cS r) []:=by
 refine Za (T:=TT0) tt_ok Tryz.func115 (c:=_) (by unfold Tryz.f115; rfl) Tryz.ntmps115 (rs:=[.tmp 4]) (by rw [Tryz.results115]) (by unfold Tryz.f115; rfl) (by simp) ?_
 simp only [Z3]
 have F:=True.intro
 dsimp only [Z5G] at h
 refine rs0 ?_
 iterate 2 refine vp ?_
 refine vn ?_
 refine rs0 ?_
 iterate 2 refine vp ?_
 obtain ⟨rC,hr38815,h⟩:=obind h
 refine vc (Z8w hr38815) ?_
 refine vp ?_
 refine vn ?_
 cases h
 exact Wp.ret en0
end Go.Proofs.YtaebdeidbibfkaaGreatDoor
