/- The Av framework: short steps, further. No law is proved here. -/
import Derived.Test.YtaebdeidbibfkaaGreatDoorWAvM8
import Derived.Sort.Grow
import Derived.Deep.Draws
import Derived.Lib.LaidTab
import Derived.Deep.DeepHandedRow
import Derived.MakeChecks
set_option linter.unusedSimpArgs false
set_option linter.unusedVariables false
set_option linter.unusedSectionVars false
namespace Go.Av
variable [Drawn]
section
variable {P : Program} {X : Ctx} {T : TT} {own : Nat → Bool} {ops : Array Oper} {K : St → Prop} {s s1 : St} {o : Oper} {os : List Oper} {Q Q0 : Exit → St → Prop} {id : Nat} {c x y b a : Code} {B : List Nat} {R : Nat → List Nat} {i : Nat} {is : List Nat}

/-! ### states restated -/
theorem vl (L : List (Option Nat)) (s1 : St) (hk : regv P T own ops (o :: os) K s1) (hr : RelocL L s s1 := by exact RelocL.mk rfl rfl rfl rfl (by rfl) (by rfl) (by ((repeat' first | exact objsLe_nil | refine objsLe_cons ?_ ?_) <;> first | exact trivial | (refine ObjLe.var0 rfl rfl rfl ?_; (repeat' first | exact All2.nil | refine All2.cons ?_ ?_ | exact AvLe.refl _ rfl | refine AvLe.tups ?_ | refine AvLe.aggs ?_ | refine AvLe.closs ?_ ?_) <;> first | exact AvLe.refl _ rfl | exact AvLe.undef _ | exact AvLe.sl _ _ _ _ rfl | exact AvLe.hptr _ _ _ _ rfl | exact AvLe.mp _ _ rfl | exact AvLe.nil _ | exact AvLe.znil _ | exact AvLe.ghost _ rfl | exact AvLe.zghost _ rfl | exact AvLe.sl' rfl (by simp [F]; done) (by first | (simp [F]; done) | (simp [F]; omega) | omega) | exact AvLe.frz3 rfl (by simp) (by first | exact Nat.zero_le _ | decide) (by first | (simp [F]; done) | (simp [F]; omega)) (by first | (simp [F]; done) | (simp [F]; omega)) (by first | exact rwTk0 | exact rwTkB | (simp [F]; done)) | exact AvLe.list' (by simp [F]; done) (by simp [F]; done) | exact AvLe.eq (by simp [F]; done) rfl) | exact ObjLe.map' rfl rfl | exact ObjLe.map2 rfl rfl (by first | (simp [F]; done) | (simp [F]; rfl)) | exact ObjLe.slot' rfl | exact ⟨_, rfl, rfl⟩ | exact ObjLe.mit0 rfl rfl | exact ObjLe.mit1 rfl rfl | exact ObjLe.raw' rfl rfl | exact ObjLe.siter2 rfl rfl (by first | rfl | (simp [F]; done)) (by first | rfl | (simp [F]; done)) | exact ObjLe.ghost' rfl (by decide) | exact ObjLe.arr' rfl rfl (by first | (simp [F]; done) | (simp [F]; omega)) (by first | exact fun _ _ => rfl | exact rwTk | exact rwTkC | (intro _ _; simp [F]; done)) | (simp [F]; done))) (by ((repeat' first | exact chLe_nil | refine chLe_cons ?_ ?_ | exact All2.nil | refine All2.cons ?_ ?_ | exact AvLe.refl _ rfl | refine AvLe.tups ?_ | refine AvLe.aggs ?_ | refine AvLe.closs ?_ ?_) <;> first | exact AvLe.refl _ rfl | exact AvLe.undef _ | exact AvLe.sl _ _ _ _ rfl | exact AvLe.hptr _ _ _ _ rfl | exact AvLe.mp _ _ rfl | exact AvLe.nil _ | exact AvLe.znil _ | exact AvLe.ghost _ rfl | exact AvLe.zghost _ rfl | exact AvLe.sl' rfl (by simp [F]; done) (by first | (simp [F]; done) | (simp [F]; omega) | omega) | exact AvLe.frz3 rfl (by simp) (by first | exact Nat.zero_le _ | decide) (by first | (simp [F]; done) | (simp [F]; omega)) (by first | (simp [F]; done) | (simp [F]; omega)) (by first | exact rwTk0 | exact rwTkB | (simp [F]; done)) | exact AvLe.list' (by simp [F]; done) (by simp [F]; done) | exact AvLe.eq (by simp [F]; done) rfl))) : regv P T own ops (o :: os) K s := regv_reloc hr hk
theorem rl (L : List (Option Nat)) (s1 : St) (hk : Wp P X c Q s1) (hr : RelocL L s s1 := by exact RelocL.mk rfl rfl rfl rfl (by rfl) (by rfl) (by ((repeat' first | exact objsLe_nil | refine objsLe_cons ?_ ?_) <;> first | exact trivial | (refine ObjLe.var0 rfl rfl rfl ?_; (repeat' first | exact All2.nil | refine All2.cons ?_ ?_ | exact AvLe.refl _ rfl | refine AvLe.tups ?_ | refine AvLe.aggs ?_ | refine AvLe.closs ?_ ?_) <;> first | exact AvLe.refl _ rfl | exact AvLe.undef _ | exact AvLe.sl _ _ _ _ rfl | exact AvLe.hptr _ _ _ _ rfl | exact AvLe.mp _ _ rfl | exact AvLe.nil _ | exact AvLe.znil _ | exact AvLe.ghost _ rfl | exact AvLe.zghost _ rfl | exact AvLe.sl' rfl (by simp [F]; done) (by first | (simp [F]; done) | (simp [F]; omega) | omega) | exact AvLe.frz3 rfl (by simp) (by first | exact Nat.zero_le _ | decide) (by first | (simp [F]; done) | (simp [F]; omega)) (by first | (simp [F]; done) | (simp [F]; omega)) (by first | exact rwTk0 | exact rwTkB | (simp [F]; done)) | exact AvLe.list' (by simp [F]; done) (by simp [F]; done) | exact AvLe.eq (by simp [F]; done) rfl) | exact ObjLe.map' rfl rfl | exact ObjLe.map2 rfl rfl (by first | (simp [F]; done) | (simp [F]; rfl)) | exact ObjLe.slot' rfl | exact ⟨_, rfl, rfl⟩ | exact ObjLe.mit0 rfl rfl | exact ObjLe.mit1 rfl rfl | exact ObjLe.raw' rfl rfl | exact ObjLe.siter2 rfl rfl (by first | rfl | (simp [F]; done)) (by first | rfl | (simp [F]; done)) | exact ObjLe.ghost' rfl (by decide) | exact ObjLe.arr' rfl rfl (by first | (simp [F]; done) | (simp [F]; omega)) (by first | exact fun _ _ => rfl | exact rwTk | exact rwTkC | (intro _ _; simp [F]; done)) | (simp [F]; done))) (by ((repeat' first | exact chLe_nil | refine chLe_cons ?_ ?_ | exact All2.nil | refine All2.cons ?_ ?_ | exact AvLe.refl _ rfl | refine AvLe.tups ?_ | refine AvLe.aggs ?_ | refine AvLe.closs ?_ ?_) <;> first | exact AvLe.refl _ rfl | exact AvLe.undef _ | exact AvLe.sl _ _ _ _ rfl | exact AvLe.hptr _ _ _ _ rfl | exact AvLe.mp _ _ rfl | exact AvLe.nil _ | exact AvLe.znil _ | exact AvLe.ghost _ rfl | exact AvLe.zghost _ rfl | exact AvLe.sl' rfl (by simp [F]; done) (by first | (simp [F]; done) | (simp [F]; omega) | omega) | exact AvLe.frz3 rfl (by simp) (by first | exact Nat.zero_le _ | decide) (by first | (simp [F]; done) | (simp [F]; omega)) (by first | (simp [F]; done) | (simp [F]; omega)) (by first | exact rwTk0 | exact rwTkB | (simp [F]; done)) | exact AvLe.list' (by simp [F]; done) (by simp [F]; done) | exact AvLe.eq (by simp [F]; done) rfl))) : Wp P X c Q s := Wp.reloc hr hk
theorem lp {α : Type} (L : List (Option Nat)) (S : α → St) (I : Nat → α → Prop) (n : Nat) (x : α) (hx : I n x) (k : ∀ n x, I (n + 1) x → Wp P X c (loopF S I Q n) (S x)) (hr : RelocL L s (S x) := by exact RelocL.mk rfl rfl rfl rfl (by rfl) (by rfl) (by ((repeat' first | exact objsLe_nil | refine objsLe_cons ?_ ?_) <;> first | exact trivial | (refine ObjLe.var0 rfl rfl rfl ?_; (repeat' first | exact All2.nil | refine All2.cons ?_ ?_ | exact AvLe.refl _ rfl | refine AvLe.tups ?_ | refine AvLe.aggs ?_ | refine AvLe.closs ?_ ?_) <;> first | exact AvLe.refl _ rfl | exact AvLe.undef _ | exact AvLe.sl _ _ _ _ rfl | exact AvLe.hptr _ _ _ _ rfl | exact AvLe.mp _ _ rfl | exact AvLe.nil _ | exact AvLe.znil _ | exact AvLe.ghost _ rfl | exact AvLe.zghost _ rfl | exact AvLe.sl' rfl (by simp [F]; done) (by first | (simp [F]; done) | (simp [F]; omega) | omega) | exact AvLe.frz3 rfl (by simp) (by first | exact Nat.zero_le _ | decide) (by first | (simp [F]; done) | (simp [F]; omega)) (by first | (simp [F]; done) | (simp [F]; omega)) (by first | exact rwTk0 | exact rwTkB | (simp [F]; done)) | exact AvLe.list' (by simp [F]; done) (by simp [F]; done) | exact AvLe.eq (by simp [F]; done) rfl) | exact ObjLe.map' rfl rfl | exact ObjLe.map2 rfl rfl (by first | (simp [F]; done) | (simp [F]; rfl)) | exact ObjLe.slot' rfl | exact ⟨_, rfl, rfl⟩ | exact ObjLe.mit0 rfl rfl | exact ObjLe.mit1 rfl rfl | exact ObjLe.raw' rfl rfl | exact ObjLe.siter2 rfl rfl (by first | rfl | (simp [F]; done)) (by first | rfl | (simp [F]; done)) | exact ObjLe.ghost' rfl (by decide) | exact ObjLe.arr' rfl rfl (by first | (simp [F]; done) | (simp [F]; omega)) (by first | exact fun _ _ => rfl | exact rwTk | exact rwTkC | (intro _ _; simp [F]; done)) | (simp [F]; done))) (by ((repeat' first | exact chLe_nil | refine chLe_cons ?_ ?_ | exact All2.nil | refine All2.cons ?_ ?_ | exact AvLe.refl _ rfl | refine AvLe.tups ?_ | refine AvLe.aggs ?_ | refine AvLe.closs ?_ ?_) <;> first | exact AvLe.refl _ rfl | exact AvLe.undef _ | exact AvLe.sl _ _ _ _ rfl | exact AvLe.hptr _ _ _ _ rfl | exact AvLe.mp _ _ rfl | exact AvLe.nil _ | exact AvLe.znil _ | exact AvLe.ghost _ rfl | exact AvLe.zghost _ rfl | exact AvLe.sl' rfl (by simp [F]; done) (by first | (simp [F]; done) | (simp [F]; omega) | omega) | exact AvLe.frz3 rfl (by simp) (by first | exact Nat.zero_le _ | decide) (by first | (simp [F]; done) | (simp [F]; omega)) (by first | (simp [F]; done) | (simp [F]; omega)) (by first | exact rwTk0 | exact rwTkB | (simp [F]; done)) | exact AvLe.list' (by simp [F]; done) (by simp [F]; done) | exact AvLe.eq (by simp [F]; done) rfl)))
    (h0 : ∀ x, ¬ I 0 x := by (intro _ h; cases h)) : Wp P X (.loop c) Q s := Wp.loopF S I h0 k n x hx hr
theorem nx {α : Type} {S : α → St} {I : α → Prop} (L : List (Option Nat)) (y : α) (h : I y) (hr : RelocL L s (S y) := by exact RelocL.mk rfl rfl rfl rfl (by rfl) (by rfl) (by ((repeat' first | exact objsLe_nil | refine objsLe_cons ?_ ?_) <;> first | exact trivial | (refine ObjLe.var0 rfl rfl rfl ?_; (repeat' first | exact All2.nil | refine All2.cons ?_ ?_ | exact AvLe.refl _ rfl | refine AvLe.tups ?_ | refine AvLe.aggs ?_ | refine AvLe.closs ?_ ?_) <;> first | exact AvLe.refl _ rfl | exact AvLe.undef _ | exact AvLe.sl _ _ _ _ rfl | exact AvLe.hptr _ _ _ _ rfl | exact AvLe.mp _ _ rfl | exact AvLe.nil _ | exact AvLe.znil _ | exact AvLe.ghost _ rfl | exact AvLe.zghost _ rfl | exact AvLe.sl' rfl (by simp [F]; done) (by first | (simp [F]; done) | (simp [F]; omega) | omega) | exact AvLe.frz3 rfl (by simp) (by first | exact Nat.zero_le _ | decide) (by first | (simp [F]; done) | (simp [F]; omega)) (by first | (simp [F]; done) | (simp [F]; omega)) (by first | exact rwTk0 | exact rwTkB | (simp [F]; done)) | exact AvLe.list' (by simp [F]; done) (by simp [F]; done) | exact AvLe.eq (by simp [F]; done) rfl) | exact ObjLe.map' rfl rfl | exact ObjLe.map2 rfl rfl (by first | (simp [F]; done) | (simp [F]; rfl)) | exact ObjLe.slot' rfl | exact ⟨_, rfl, rfl⟩ | exact ObjLe.mit0 rfl rfl | exact ObjLe.mit1 rfl rfl | exact ObjLe.raw' rfl rfl | exact ObjLe.siter2 rfl rfl (by first | rfl | (simp [F]; done)) (by first | rfl | (simp [F]; done)) | exact ObjLe.ghost' rfl (by decide) | exact ObjLe.arr' rfl rfl (by first | (simp [F]; done) | (simp [F]; omega)) (by first | exact fun _ _ => rfl | exact rwTk | exact rwTkC | (intro _ _; simp [F]; done)) | (simp [F]; done))) (by ((repeat' first | exact chLe_nil | refine chLe_cons ?_ ?_ | exact All2.nil | refine All2.cons ?_ ?_ | exact AvLe.refl _ rfl | refine AvLe.tups ?_ | refine AvLe.aggs ?_ | refine AvLe.closs ?_ ?_) <;> first | exact AvLe.refl _ rfl | exact AvLe.undef _ | exact AvLe.sl _ _ _ _ rfl | exact AvLe.hptr _ _ _ _ rfl | exact AvLe.mp _ _ rfl | exact AvLe.nil _ | exact AvLe.znil _ | exact AvLe.ghost _ rfl | exact AvLe.zghost _ rfl | exact AvLe.sl' rfl (by simp [F]; done) (by first | (simp [F]; done) | (simp [F]; omega) | omega) | exact AvLe.frz3 rfl (by simp) (by first | exact Nat.zero_le _ | decide) (by first | (simp [F]; done) | (simp [F]; omega)) (by first | (simp [F]; done) | (simp [F]; omega)) (by first | exact rwTk0 | exact rwTkB | (simp [F]; done)) | exact AvLe.list' (by simp [F]; done) (by simp [F]; done) | exact AvLe.eq (by simp [F]; done) rfl))) : ∃ y, I y ∧ Reloc s (S y) := ⟨y, h, hr⟩
theorem jn {α : Type} (S : α → St) (I : α → Prop) (hb : ∀ x, I x → Wp P X b Q (S x)) (ha : Wp P X a (joinQ S I Q) s) : Wp P X (.seq a b) Q s := Wp.join S I hb ha

/-! ### a function's end -/
theorem en0 {rs : List ResultVar} {v r : AV} (hv : resA T s rs = some v := by rfl) (hle : AvLe s.hp [] 0 v r := by ((repeat' first | exact All2.nil | refine All2.cons ?_ ?_ | refine AvLe.tups ?_ | refine AvLe.aggs ?_) <;> first | exact AvLe.refl _ rfl | exact AvLe.nil _ | exact AvLe.znil _ | exact AvLe.frz' rfl rfl rfl (by first | (simp [F]; done) | (simp [F]; omega)) (by first | (simp [F]; done) | (simp [F]; omega)) (by first | exact rwTk0 | exact rwTkB | (simp [F]; done)) | exact AvLe.list' (by simp [F]; done) (by simp [F]; done) | exact AvLe.eq (by simp [F]; done) rfl)) : endQ T rs 0 (fun r' H'' => r' = r ∧ H'' = []) .ret s := endQ_ret0 hv hle
theorem enH {rs : List ResultVar} {k : Nat} {v r : AV} {H' : List AObj} (L : List (Option Nat)) (hv : resA T s rs = some v := by rfl) (hlen : H'.length = L.length := by rfl) (hlow : lowB k L = true := by rfl) (hinj : injB L H' = true := by rfl)
    (hobj : ObjsLe s.hp L k 0 H' := by ((repeat' first | exact objsLe_nil | refine objsLe_cons ?_ ?_) <;> first | exact trivial | (refine ObjLe.var0 rfl rfl rfl ?_; (repeat' first | exact All2.nil | refine All2.cons ?_ ?_ | exact AvLe.refl _ rfl | refine AvLe.tups ?_ | refine AvLe.aggs ?_ | refine AvLe.closs ?_ ?_) <;> first | exact AvLe.refl _ rfl | exact AvLe.undef _ | exact AvLe.sl _ _ _ _ rfl | exact AvLe.hptr _ _ _ _ rfl | exact AvLe.mp _ _ rfl | exact AvLe.nil _ | exact AvLe.znil _ | exact AvLe.ghost _ rfl | exact AvLe.zghost _ rfl | exact AvLe.sl' rfl (by simp [F]; done) (by first | (simp [F]; done) | (simp [F]; omega) | omega) | exact AvLe.frz3 rfl (by simp) (by first | exact Nat.zero_le _ | decide) (by first | (simp [F]; done) | (simp [F]; omega)) (by first | (simp [F]; done) | (simp [F]; omega)) (by first | exact rwTk0 | exact rwTkB | (simp [F]; done)) | exact AvLe.list' (by simp [F]; done) (by simp [F]; done) | exact AvLe.eq (by simp [F]; done) rfl) | exact ObjLe.map' rfl rfl | exact ObjLe.map2 rfl rfl (by first | (simp [F]; done) | (simp [F]; rfl)) | exact ObjLe.slot' rfl | exact ⟨_, rfl, rfl⟩ | exact ObjLe.mit0 rfl rfl | exact ObjLe.mit1 rfl rfl | exact ObjLe.raw' rfl rfl | exact ObjLe.siter2 rfl rfl (by first | rfl | (simp [F]; done)) (by first | rfl | (simp [F]; done)) | exact ObjLe.ghost' rfl (by decide) | exact ObjLe.arr' rfl rfl (by first | (simp [F]; done) | (simp [F]; omega)) (by first | exact fun _ _ => rfl | exact rwTk | exact rwTkC | (intro _ _; simp [F]; done)) | (simp [F]; done))) (hle : AvLe s.hp L k v r := by ((repeat' first | exact All2.nil | refine All2.cons ?_ ?_ | exact AvLe.refl _ rfl | refine AvLe.tups ?_ | refine AvLe.aggs ?_ | refine AvLe.closs ?_ ?_) <;> first | exact AvLe.refl _ rfl | exact AvLe.undef _ | exact AvLe.sl _ _ _ _ rfl | exact AvLe.hptr _ _ _ _ rfl | exact AvLe.mp _ _ rfl | exact AvLe.nil _ | exact AvLe.znil _ | exact AvLe.ghost _ rfl | exact AvLe.zghost _ rfl | exact AvLe.sl' rfl (by simp [F]; done) (by first | (simp [F]; done) | (simp [F]; omega) | omega) | exact AvLe.frz3 rfl (by simp) (by first | exact Nat.zero_le _ | decide) (by first | (simp [F]; done) | (simp [F]; omega)) (by first | (simp [F]; done) | (simp [F]; omega)) (by first | exact rwTk0 | exact rwTkB | (simp [F]; done)) | exact AvLe.list' (by simp [F]; done) (by simp [F]; done) | exact AvLe.eq (by simp [F]; done) rfl)) : endQ T rs k (fun r' H'' => r' = r ∧ H'' = H') .ret s := endQ_retH L hv (relocH_mk hlen hlow hinj hobj) hle rfl rfl

theorem n2r {rs : List ResultVar} {k : Nat} {K : AV → List AObj → Prop} (h : endQ T rs k K .ret s) : endQ T rs k K .normal s := ⟨.inl rfl, h.2⟩

/-! ### calls that hand objects on -/
theorem vh {s' : St} {cl : Call} {f : Operand} {g : FuncId} {ags : List AV} {p1 : List AV} {p : List AV × Prop × Bool} {H H' : List AObj} {r : AV} (I : List Nat)
    (hc : ConH P s.gl g p1 H r H') (hk : regv P T own ops os K s') (hg : guardA ops s o = some true := by rfl) (ho : o.op = .call cl := by rfl) (hcal : cl.callee = .value f := by rfl) (hcl : calleeA s f cl.args.toList = some (g, ags) := by first | rfl | (simp [F]; rfl)) (hI : nodupB I = true := by rfl)
    (hcd : closedB I s.hp = true := by first | rfl | (simp [F]; done)) (hp : argsH I s.hp ags = some p := by (simp [F]; rfl))
    (hH : (passed I s.hp = H ∧ p.1 = p1) ∨ (RelocH (idL (passed I s.hp).length) (passed I s.hp).length (passed I s.hp) H ∧ All2 (AvLe (passed I s.hp) (idL (passed I s.hp).length) (passed I s.hp).length) p.1 p1) := by (first | exact .inl ⟨rfl, rfl⟩ | (refine .inl ⟨?_, ?_⟩ <;> (simp [F]; done)) | (refine .inr ⟨relocH_mk rfl (by rfl) (by rfl) (by ((repeat' first | exact objsLe_nil | refine objsLe_cons ?_ ?_) <;> first | exact trivial | (refine ObjLe.var0 rfl rfl rfl ?_; (repeat' first | exact All2.nil | refine All2.cons ?_ ?_ | exact AvLe.refl _ rfl | refine AvLe.tups ?_ | refine AvLe.aggs ?_ | refine AvLe.closs ?_ ?_) <;> first | exact AvLe.refl _ rfl | exact AvLe.undef _ | exact AvLe.sl _ _ _ _ rfl | exact AvLe.hptr _ _ _ _ rfl | exact AvLe.mp _ _ rfl | exact AvLe.nil _ | exact AvLe.znil _ | exact AvLe.ghost _ rfl | exact AvLe.zghost _ rfl | exact AvLe.sl' rfl (by simp [F]; done) (by first | (simp [F]; done) | (simp [F]; omega) | omega) | exact AvLe.frz3 rfl (by simp) (by first | exact Nat.zero_le _ | decide) (by first | (simp [F]; done) | (simp [F]; omega)) (by first | (simp [F]; done) | (simp [F]; omega)) (by first | exact rwTk0 | exact rwTkB | (simp [F]; done)) | exact AvLe.list' (by simp [F]; done) (by simp [F]; done) | exact AvLe.eq (by simp [F]; done) rfl) | exact ObjLe.map' rfl rfl | exact ObjLe.map2 rfl rfl (by first | (simp [F]; done) | (simp [F]; rfl)) | exact ObjLe.slot' rfl | exact ⟨_, rfl, rfl⟩ | exact ObjLe.mit0 rfl rfl | exact ObjLe.mit1 rfl rfl | exact ObjLe.raw' rfl rfl | exact ObjLe.siter2 rfl rfl (by first | rfl | (simp [F]; done)) (by first | rfl | (simp [F]; done)) | exact ObjLe.ghost' rfl (by decide) | exact ObjLe.arr' rfl rfl (by first | (simp [F]; done) | (simp [F]; omega)) (by first | exact fun _ _ => rfl | exact rwTk | exact rwTkC | (intro _ _; simp [F]; done)) | (simp [F]; done))), ?_⟩; dsimp only; (repeat' first | exact All2.nil | refine All2.cons ?_ ?_ | exact AvLe.refl _ rfl | refine AvLe.tups ?_ | refine AvLe.aggs ?_ | refine AvLe.closs ?_ ?_) <;> first | exact AvLe.refl _ rfl | exact AvLe.undef _ | exact AvLe.sl _ _ _ _ rfl | exact AvLe.hptr _ _ _ _ rfl | exact AvLe.mp _ _ rfl | exact AvLe.nil _ | exact AvLe.znil _ | exact AvLe.ghost _ rfl | exact AvLe.zghost _ rfl | exact AvLe.sl' rfl (by simp [F]; done) (by first | (simp [F]; done) | (simp [F]; omega) | omega) | exact AvLe.frz3 rfl (by simp) (by first | exact Nat.zero_le _ | decide) (by first | (simp [F]; done) | (simp [F]; omega)) (by first | (simp [F]; done) | (simp [F]; omega)) (by first | exact rwTk0 | exact rwTkB | (simp [F]; done)) | exact AvLe.list' (by simp [F]; done) (by simp [F]; done) | exact AvLe.eq (by simp [F]; done) rfl)))
    (hpc : p.2.1 := by first | (simp [F]; done) | (simp [F]; omega) | (have hq := F; simp at hq; simp [F, hq]; done) | (have hq := F; simp at hq; simp [F, hq]; omega) | (have hq := F; simp at hq; omega)) (hl : p.2.2 = true → isLocT r = true ∧ ∀ o ∈ H', LocObj o := by (simp; done))
    (hs : ({ s with hp := putBack I s.hp H', cond := True } : St).setd o.dst (mapT (bid I s.hp.length) r) = some s' := by (simp [F]; rfl)) : regv P T own ops (o :: os) K s := regv_callH I hc ho hcal hg hcl hI hcd hp hH hpc hl hs hk

/-! ### regions whose order is drawn -/
theorem free_of {U : List Nat} {k : Nat} (hU : (List.range ops.size).all (fun k => !freeB ops i k || U.contains k) = true) (h : freeB ops i k = true) : k ∈ U := by
  have hk : k < ops.size := by
    unfold freeB at h
    rw [Bool.and_eq_true] at h
    exact Nat.le_of_ble_eq_true h.1
  have := List.all_eq_true.1 hU k (List.mem_range.2 hk)
  rw [h, Bool.not_true, Bool.false_or] at this
  exact List.contains_iff_mem.1 this
theorem dw (own : Nat → Bool) (R : List Nat) (h : regI P T own ops [] (fun _ => R) (Wp P X b Q) (List.range ops.size) s) (hT : TTOk P T := by exact tt_ok) (hM : P.follows .mixedOrders = true := by exact mixed) (hB : drawnB own ops = true := by decide +kernel) (hc : s.cond := by trivial) : Wp P X (.seq (.region id ops true) b) Q s := Wp.drawn hT hM (fun _ => R) hB hc h
theorem dwp (own : Nat → Bool) (R : Nat → List Nat) (h : regI P T own ops [] R (Wp P X b Q) (List.range ops.size) s) (hT : TTOk P T := by exact tt_ok) (hM : P.follows .mixedOrders = true := by exact mixed) (hB : drawnB own ops = true := by decide +kernel) (hc : s.cond := by trivial) : Wp P X (.seq (.region id ops true) b) Q s := Wp.drawn hT hM R hB hc h
theorem dw1 (own : Nat → Bool) (R : List Nat) (h : regI P T own ops [] (fun _ => R) (Q .normal) (List.range ops.size) s) (hT : TTOk P T := by exact tt_ok) (hM : P.follows .mixedOrders = true := by exact mixed) (hB : drawnB own ops = true := by decide +kernel) (hc : s.cond := by trivial) (hQ : QE Q := by first | exact qe_seq | exact qe_loop | exact qe_join | exact qe_end | exact qe_block qe_end | exact qe_block qe_seq | exact qe_block qe_loop | exact qe_block qe_join | exact qe_block (qe_block qe_seq) | exact qe_block (qe_block qe_loop) | exact qe_block (qe_block qe_join) | exact qe_block (qe_block (qe_block qe_seq)) | exact qe_block (qe_block (qe_block qe_loop)) | exact qe_block (qe_block (qe_block qe_join))) : Wp P X (.region id ops true) Q s := Wp.drawnQ [] hT hM (fun _ => R) hB hc hQ h
theorem dwp1 (own : Nat → Bool) (R : Nat → List Nat) (h : regI P T own ops [] R (Q .normal) (List.range ops.size) s) (hT : TTOk P T := by exact tt_ok) (hM : P.follows .mixedOrders = true := by exact mixed) (hB : drawnB own ops = true := by decide +kernel) (hc : s.cond := by trivial) (hQ : QE Q := by first | exact qe_seq | exact qe_loop | exact qe_join | exact qe_end | exact qe_block qe_end | exact qe_block qe_seq | exact qe_block qe_loop | exact qe_block qe_join | exact qe_block (qe_block qe_seq) | exact qe_block (qe_block qe_loop) | exact qe_block (qe_block qe_join) | exact qe_block (qe_block (qe_block qe_seq)) | exact qe_block (qe_block (qe_block qe_loop)) | exact qe_block (qe_block (qe_block qe_join))) : Wp P X (.region id ops true) Q s := Wp.drawnQ [] hT hM R hB hc hQ h
theorem dz (B : List Nat) (own : Nat → Bool) (R : List Nat) (h : regI P T own ops B (fun _ => R) (Wp P X b Q) (List.range ops.size) s) (hT : TTOk P T := by exact tt_ok) (hM : P.follows .mixedOrders = true := by exact mixed) (hB : drawnB own ops = true := by decide +kernel) (hc : s.cond := by trivial) : Wp P X (.seq (.region id ops true) b) Q s := Wp.drawnS B hT hM (fun _ => R) hB hc h
theorem dz1 (B : List Nat) (own : Nat → Bool) (R : List Nat) (h : regI P T own ops B (fun _ => R) (Q .normal) (List.range ops.size) s) (hT : TTOk P T := by exact tt_ok) (hM : P.follows .mixedOrders = true := by exact mixed) (hB : drawnB own ops = true := by decide +kernel) (hc : s.cond := by trivial) (hQ : QE Q := by first | exact qe_seq | exact qe_loop | exact qe_join | exact qe_end | exact qe_block qe_end | exact qe_block qe_seq | exact qe_block qe_loop | exact qe_block qe_join | exact qe_block (qe_block qe_seq) | exact qe_block (qe_block qe_loop) | exact qe_block (qe_block qe_join) | exact qe_block (qe_block (qe_block qe_seq)) | exact qe_block (qe_block (qe_block qe_loop)) | exact qe_block (qe_block (qe_block qe_join))) : Wp P X (.region id ops true) Q s := Wp.drawnQ B hT hM (fun _ => R) hB hc hQ h
theorem du (n : Nat) {r : St × Prop} (hk : regI P T own ops B R K (is.drop n) r.1) (h : runI T own ops R (is.take n) s = some r := by (simp [List.range, List.range.loop, F]; rfl)) (hc : r.2 := by first | (simp [F]; done) | (simp [F]; omega) | (have hq := F; simp at hq; simp [F, hq]; done) | (have hq := F; simp at hq; simp [F, hq]; omega) | (have hq := F; simp at hq; omega)) : regI P T own ops B R K is s := regI_upto n h hc hk
theorem ds {s1 : St} (hk2 : regI P T own ops B R K is s1) (ho : ops[i]? = some o := by rfl) (hk : valKind own o = true := by rfl) (hg : guardA ops s o = some false := by first | (simp [F]; done) | (have hq := F; simp at hq; simp [F, hq]; done)) (hv : s.setd o.dst (.tup []) = some s1 := by (simp [F]; rfl)) : regI P T own ops B R K (i :: is) s := regI_skip ho hk hg hv hk2
theorem dk (cs' : List AV) {cs : List AV} {r s1 : St} {d : Nat} (hk2 : regI P T own ops B R K is s1) (ho : ops[i]? = some o := by rfl) (hd : o.dst = some d := by rfl) (hk : valKind own o = true := by rfl) (hp : isPure o = true := by rfl) (hg : guardA ops s o = some true := by rfl) (hf : opf T own o s = some r := by (simp [F]; rfl))
    (hc : r.cond := by first | (simp [F]; done) | (simp [F]; omega) | (have hq := F; simp at hq; simp [F, hq]; done) | (have hq := F; simp at hq; simp [F, hq]; omega) | (have hq := F; simp at hq; omega)) (hl : look r.ch d = .agg cs := by first | rfl | (simp [F]; rfl)) (hwk : All2 (fun a b => a = b ∨ (a = .nilsl ∧ ∃ row, b = .list 0 row) ∨ (a = .zsl ∧ ∃ row, b = .list 0 row)) cs cs' := by ((repeat' first | exact All2.nil | refine All2.cons ?_ ?_) <;> first | exact .inl rfl | exact .inr (.inl ⟨rfl, _, rfl⟩) | exact .inr (.inr ⟨rfl, _, rfl⟩)))
    (hv : s.setd o.dst (.agg cs) = some { r with cond := s.cond } := by first | rfl | (simp [F]; done)) (hs1 : s.setd o.dst (.agg cs') = some s1 := by (simp [F]; rfl)) (hsl : noSl s o := by first | trivial | (simp [noSl, F]; done)) (hw : withinB (R i) s o = true := by first | rfl | (simp [F]; done)) : regI P T own ops B R K (i :: is) s := regI_valw _ (wk_agg hwk) ho hk hp hg hf hc hv hs1 hsl hw hk2
theorem db {r : St} (hk2 : regI P T own ops B R K is { r with cond := True }) (hT : TTOk P T := by exact tt_ok) (ho : ops[i]? = some o := by rfl) (hk : valKind own o = false := by rfl) (he : effKind own o = false := by rfl) (hgd : o.guard = none := by rfl) (hf : opf T own o s = some r := by (simp [F]; rfl)) (hc : r.cond := by first | (simp [F]; done) | (simp [F]; omega) | (have hq := F; simp at hq; simp [F, hq]; done) | (have hq := F; simp at hq; simp [F, hq]; omega) | (have hq := F; simp at hq; omega)) (hsl : slotKind own o = false := by rfl) : regI P T own ops B R K (i :: is) s := regI_bar hT ho hk he hgd hf hc hk2 hsl
theorem de {r : St} (hk : regI P T own ops B R K is { r with cond := True }) (ho : ops[i]? = some o := by rfl) (hv : valKind own o = false := by rfl) (he : effKind own o = true := by rfl) (hp : isPure o = true := by rfl) (hg : guardA ops s o = some true := by rfl) (hf : opf T own o s = some r := by (simp [F]; rfl)) (hc : r.cond := by first | (simp [F]; done) | (simp [F]; omega) | (have hq := F; simp at hq; simp [F, hq]; done) | (have hq := F; simp at hq; simp [F, hq]; omega) | (have hq := F; simp at hq; omega)) (hsc : s.cond = True := by rfl)
    (hR : ∀ k, freeB ops i k = true → ∀ id ∈ R k, r.hp[id]? = s.hp[id]? := by (intro _ _; simp [F]; done)) (hS : slotsB B s.hp = true := by rfl) (hst : ∀ t a x, o.op = .store t a x → own 3000 = false := by (intro _ _ _ h; cases h)) : regI P T own ops B R K (i :: is) s := regI_eff ho hv he hp hg hf hc hsc hR hk hS hst
theorem dl {t : TypeId} {d : Nat} {z : List AV} {s1 : St} (k : Nat) (hk : regI P T own ops B R K is s1) (ho : ops[i]? = some o := by rfl) (hop : o.op = .alloc t := by rfl) (hd : o.dst = some d := by rfl) (hown : own d = true := by rfl) (hg : o.guard = none := by rfl) (hkB : k ∈ B := by decide) (hkR : ∀ i, k ∉ R i := by (intro _; decide))
    (hb : s.base ≤ k := by first | exact Nat.zero_le _ | decide) (hs : s.hp[k]? = some .slot := by rfl) (hn : Nat.blt d s.n = true := by rfl) (hz : (T t).map TS.zero = some z := by (simp [F]; rfl)) (he : ({ s with ch := (d, .hptr k 0 0) :: s.ch, hp := s.hp.set k (.var z) } : St) = s1 := by (simp [F]; rfl)) : regI P T own ops B R K (i :: is) s := regI_slot2 k ho hop hd hown hg hkB hkR hb hs hn hz he hk
theorem dc {s1 : St} {cl : Call} {g : FuncId} {p1 : List AV} {p : List AV × Prop × Bool} {r : AV} (hcon : Con P s.gl g p1 r []) (hk : regI P T own ops B R K is s1) (ho : ops[i]? = some o := by rfl) (hoc : o.op = .call cl := by rfl) (hcal : cl.callee = .value (.func g) := by rfl)
    (hg : guardA ops s o = some true := by rfl) (hp : toArgs s.hp (cl.args.toList.map s.ev) = some p := by (simp [F]; rfl)) (he : p.1 = p1 ∨ All2 (AvLe [] [] 0) p.1 p1 := by (first | exact .inl rfl | (refine .inl ?_; simp [F]; done) | (refine .inr ?_; dsimp only; (repeat' first | exact All2.nil | refine All2.cons ?_ ?_ | exact AvLe.refl _ rfl | refine AvLe.aggs ?_) <;> first | exact AvLe.refl _ rfl | exact AvLe.nil _ | exact AvLe.znil _ | exact AvLe.list' (by first | (simp [F]; done) | (simp [F]; omega) | (have hq := F; simp at hq; simp [F, hq]; omega)) (by simp [F]; done) | exact AvLe.eq (by simp [F]; done) rfl))) (hpc : p.2.1 := by first | (simp [F]; done) | (simp [F]; omega) | (have hq := F; simp at hq; simp [F, hq]; done) | (have hq := F; simp at hq; simp [F, hq]; omega) | (have hq := F; simp at hq; omega)) (hsh : ∀ n, shift n r = r := by (intro _; rfl)) (hl : p.2.2 = true → isScalar r = true := by (simp; done)) (hw : withinB (R i) s o = true := by first | rfl | (simp [F]; done))
    (hs : s.setd o.dst r = some s1 := by (simp [F]; rfl)) (hown : own (o.dst.getD 0) = false := by rfl) : regI P T own ops B R K (i :: is) s := regI_call2 hcon ho hoc hcal hg hp he hpc hsh hl hw hs hk hown
theorem dx {s1 : St} {cl : Call} {g : FuncId} {p1 : List AV} {p : List AV × Prop × Bool} {r : AV} {H' : List AObj} (hcon : Con P s.gl g p1 r H') (hk : regI P T own ops B R K is s1) (ho : ops[i]? = some o := by rfl) (hoc : o.op = .call cl := by rfl) (hcal : cl.callee = .value (.func g) := by rfl)
    (hg : guardA ops s o = some true := by rfl) (hp : toArgs s.hp (cl.args.toList.map s.ev) = some p := by (simp [F]; rfl)) (he : p.1 = p1 ∨ All2 (AvLe [] [] 0) p.1 p1 := by (first | exact .inl rfl | (refine .inl ?_; simp [F]; done) | (refine .inr ?_; dsimp only; (repeat' first | exact All2.nil | refine All2.cons ?_ ?_ | exact AvLe.refl _ rfl | refine AvLe.aggs ?_) <;> first | exact AvLe.refl _ rfl | exact AvLe.nil _ | exact AvLe.znil _ | exact AvLe.list' (by first | (simp [F]; done) | (simp [F]; omega) | (have hq := F; simp at hq; simp [F, hq]; omega)) (by simp [F]; done) | exact AvLe.eq (by simp [F]; done) rfl))) (hpc : p.2.1 := by first | (simp [F]; done) | (simp [F]; omega) | (have hq := F; simp at hq; simp [F, hq]; done) | (have hq := F; simp at hq; simp [F, hq]; omega) | (have hq := F; simp at hq; omega)) (hl : p.2.2 = true → H' = [] ∧ isScalar r = true := by (simp; done)) (hR : ∀ k, ∀ id ∈ R k, id < s.hp.length := by (intro _; simp; done))
    (hs : ({ s with hp := s.hp ++ H'.map (objShift s.hp.length) } : St).setd o.dst (shift s.hp.length r) = some s1 := by (simp [F]; rfl)) (hown : (own (o.dst.getD 0) && !own (o.dst.getD 0 + 1000)) = true := by rfl)
    (hS : slotsB B s.hp = true := by rfl) (hBa : ∀ v ∈ cl.args.toList.map s.ev, ∀ id ∈ refsD v, id ∉ B := by simp) : regI P T own ops B R K (i :: is) s := regI_ecall2 hcon ho hoc hcal hg hp he hpc hl hR hs hk hown hS hBa
theorem dh {s' : St} {cl : Call} {f : Operand} {g : FuncId} {ags : List AV} {p1 : List AV} {p : List AV × Prop × Bool} {H H' : List AObj} {r : AV} (I : List Nat)
    (hc : ConH P s.gl g p1 H r H') (hk : regI P T own ops B R K is s') (ho : ops[i]? = some o := by rfl) (hv : valKind own o = false := by rfl) (he : effKind own o = false := by rfl) (hsl : slotKind own o = false := by rfl) (hgd : o.guard = none := by rfl) (hoc : o.op = .call cl := by rfl) (hcal : cl.callee = .value f := by rfl) (hcl : calleeA s f cl.args.toList = some (g, ags) := by first | rfl | (simp [F]; rfl)) (hI : nodupB I = true := by rfl)
    (hcd : closedB I s.hp = true := by first | rfl | (simp [F]; done)) (hp : argsH I s.hp ags = some p := by (simp [F]; rfl))
    (hH : (passed I s.hp = H ∧ p.1 = p1) ∨ (RelocH (idL (passed I s.hp).length) (passed I s.hp).length (passed I s.hp) H ∧ All2 (AvLe (passed I s.hp) (idL (passed I s.hp).length) (passed I s.hp).length) p.1 p1) := by (first | exact .inl ⟨rfl, rfl⟩ | (refine .inl ⟨?_, ?_⟩ <;> (simp [F]; done)) | (refine .inr ⟨relocH_mk rfl (by rfl) (by rfl) (by ((repeat' first | exact objsLe_nil | refine objsLe_cons ?_ ?_) <;> first | exact trivial | (refine ObjLe.var0 rfl rfl rfl ?_; (repeat' first | exact All2.nil | refine All2.cons ?_ ?_ | exact AvLe.refl _ rfl | refine AvLe.tups ?_ | refine AvLe.aggs ?_ | refine AvLe.closs ?_ ?_) <;> first | exact AvLe.refl _ rfl | exact AvLe.undef _ | exact AvLe.sl _ _ _ _ rfl | exact AvLe.hptr _ _ _ _ rfl | exact AvLe.mp _ _ rfl | exact AvLe.nil _ | exact AvLe.znil _ | exact AvLe.ghost _ rfl | exact AvLe.zghost _ rfl | exact AvLe.sl' rfl (by simp [F]; done) (by first | (simp [F]; done) | (simp [F]; omega) | omega) | exact AvLe.frz3 rfl (by simp) (by first | exact Nat.zero_le _ | decide) (by first | (simp [F]; done) | (simp [F]; omega)) (by first | (simp [F]; done) | (simp [F]; omega)) (by first | exact rwTk0 | exact rwTkB | (simp [F]; done)) | exact AvLe.list' (by simp [F]; done) (by simp [F]; done) | exact AvLe.eq (by simp [F]; done) rfl) | exact ObjLe.map' rfl rfl | exact ObjLe.map2 rfl rfl (by first | (simp [F]; done) | (simp [F]; rfl)) | exact ObjLe.slot' rfl | exact ⟨_, rfl, rfl⟩ | exact ObjLe.mit0 rfl rfl | exact ObjLe.mit1 rfl rfl | exact ObjLe.raw' rfl rfl | exact ObjLe.siter2 rfl rfl (by first | rfl | (simp [F]; done)) (by first | rfl | (simp [F]; done)) | exact ObjLe.ghost' rfl (by decide) | exact ObjLe.arr' rfl rfl (by first | (simp [F]; done) | (simp [F]; omega)) (by first | exact fun _ _ => rfl | exact rwTk | exact rwTkC | (intro _ _; simp [F]; done)) | (simp [F]; done))), ?_⟩; dsimp only; (repeat' first | exact All2.nil | refine All2.cons ?_ ?_ | exact AvLe.refl _ rfl | refine AvLe.tups ?_ | refine AvLe.aggs ?_ | refine AvLe.closs ?_ ?_) <;> first | exact AvLe.refl _ rfl | exact AvLe.undef _ | exact AvLe.sl _ _ _ _ rfl | exact AvLe.hptr _ _ _ _ rfl | exact AvLe.mp _ _ rfl | exact AvLe.nil _ | exact AvLe.znil _ | exact AvLe.ghost _ rfl | exact AvLe.zghost _ rfl | exact AvLe.sl' rfl (by simp [F]; done) (by first | (simp [F]; done) | (simp [F]; omega) | omega) | exact AvLe.frz3 rfl (by simp) (by first | exact Nat.zero_le _ | decide) (by first | (simp [F]; done) | (simp [F]; omega)) (by first | (simp [F]; done) | (simp [F]; omega)) (by first | exact rwTk0 | exact rwTkB | (simp [F]; done)) | exact AvLe.list' (by simp [F]; done) (by simp [F]; done) | exact AvLe.eq (by simp [F]; done) rfl)))
    (hpc : p.2.1 := by first | (simp [F]; done) | (simp [F]; omega) | (have hq := F; simp at hq; simp [F, hq]; done) | (have hq := F; simp at hq; simp [F, hq]; omega) | (have hq := F; simp at hq; omega)) (hl : p.2.2 = true → isLocT r = true ∧ ∀ o ∈ H', LocObj o := by (simp; done))
    (hs : ({ s with hp := putBack I s.hp H', cond := True } : St).setd o.dst (mapT (bid I s.hp.length) r) = some s' := by (simp [F]; rfl)) (hcn : s'.cond := by trivial) : regI P T own ops B R K (i :: is) s := regI_callH I hc ho hv he hsl hgd hoc hcal hcl hI hcd hp hH hpc hl hs hcn hk
theorem dr {s1 : St} {cl : Call} {f : Operand} {g : FuncId} {ags : List AV} {p1 : List AV} {p : List AV × Prop × Bool} {H : List AObj} {r : AV} (I : List Nat)
    (hc : ConH P s.gl g p1 H r H) (hk : regI P T own ops B R K is s1) (ho : ops[i]? = some o := by rfl) (hoc : o.op = .call cl := by rfl) (hcal : cl.callee = .value f := by rfl) (hg : guardA ops s o = some true := by rfl) (hcl : calleeA s f cl.args.toList = some (g, ags) := by first | rfl | (simp [F]; rfl)) (hI : nodupB I = true := by rfl)
    (hcd : closedB I s.hp = true := by first | rfl | (simp [F]; done)) (hIR : ∀ id ∈ I, id ∈ R i := by decide) (hp : argsH I s.hp ags = some p := by (simp [F]; rfl)) (hw : ∀ v ∈ ags, ∀ id ∈ refsD v, id ∈ R i := by (simp [F]; done)) (hH : passed I s.hp = H ∧ p.1 = p1 := by first | exact ⟨rfl, rfl⟩ | exact ⟨by (simp [F]; done), by (simp [F]; done)⟩)
    (hrt : I.all (fun i => rtB (s.hp.getD i .dead)) = true := by rfl) (hpc : p.2.1 := by first | (simp [F]; done) | (simp [F]; omega) | (have hq := F; simp at hq; simp [F, hq]; done) | (have hq := F; simp at hq; simp [F, hq]; omega) | (have hq := F; simp at hq; omega)) (hsc : isScalar r = true := by rfl) (hl : p.2.2 = true → ∀ o ∈ H, LocObj o := by (simp; done)) (hs : s.setd o.dst r = some s1 := by (simp [F]; rfl)) (hown : own (o.dst.getD 0) = false := by rfl) : regI P T own ops B R K (i :: is) s := regI_callR I hc ho hoc hcal hg hcl hI hcd hIR hp hw hH hrt hpc hsc hl hs hk hown
theorem dt {r : St} {t : TypeId} {a x : Operand} (hk : regI P T own ops B R K is { r with cond := True }) (ho : ops[i]? = some o := by rfl) (hop : o.op = .store t a x := by rfl) (hd : o.dst = none := by rfl) (hown : own 3000 = true := by rfl) (hg : guardA ops s o = some true := by rfl) (hf : opf T own o s = some r := by (simp [F]; rfl)) (hc : r.cond := by first | (simp [F]; done) | (simp [F]; omega) | (have hq := F; simp at hq; simp [F, hq]; done) | (have hq := F; simp at hq; simp [F, hq]; omega) | (have hq := F; simp at hq; omega)) (hsc : s.cond = True := by rfl)
    (hR : ∀ k, freeB ops i k = true → ∀ id ∈ R k, r.hp[id]? = s.hp[id]? := by (intro _ _; simp [F]; done)) (hBa : ∀ id ∈ refs (s.ev a), id ∉ B := by (simp [F]; done)) : regI P T own ops B R K (i :: is) s := regI_store ho hop hd hown hg hf hc hsc hR hBa hk
theorem dt2 (U : List Nat) {r : St} {t : TypeId} {a x : Operand} (hk : regI P T own ops B R K is { r with cond := True }) (ho : ops[i]? = some o := by rfl) (hop : o.op = .store t a x := by rfl) (hd : o.dst = none := by rfl) (hown : own 3000 = true := by rfl) (hg : guardA ops s o = some true := by rfl) (hf : opf T own o s = some r := by (simp [F]; rfl)) (hc : r.cond := by first | (simp [F]; done) | (simp [F]; omega) | (have hq := F; simp at hq; simp [F, hq]; done) | (have hq := F; simp at hq; simp [F, hq]; omega) | (have hq := F; simp at hq; omega)) (hsc : s.cond = True := by rfl)
    (hU : (List.range ops.size).all (fun k => !freeB ops i k || U.contains k) = true := by decide +kernel) (hR : ∀ k ∈ U, ∀ id ∈ R k, r.hp[id]? = s.hp[id]? := by (simp [F]; done)) (hBa : ∀ id ∈ refs (s.ev a), id ∉ B := by (simp [F]; done)) : regI P T own ops B R K (i :: is) s := regI_store ho hop hd hown hg hf hc hsc (fun k hk => hR k (free_of hU hk)) hBa hk
theorem dn (h : K s) : regI P T own ops B R K [] s := h
end
end Go.Av

namespace Go.Av
variable [Drawn]

theorem Same.of_below {w w' : World} (h : Go.RowKit.Below w.heap.size w w') (hd : DrawnOn → w.drawn ≤ w'.drawn) : Same w w' :=
  ⟨h.os, h.tape, h.output, h.size, h.block, fun a ha => by (unfold World.frozen?; rw [h.block a.block ha]), hd⟩

theorem After.of_same {E : Env} {w w' : World} (hh : HeapOk E [] w) (hs : Same w w') : After E [] w E [] w' where
  heap := hh.same hs
  keeps := hs.keeps
  F _ hb := hb
  Fnew _ hb := .inl hb
  len := Nat.le_refl _
  old id hi := absurd hi (Nat.not_lt_zero _)
  new id b _ hl _ := by obtain ⟨o, ho, _⟩ := hl; simp at ho

/-- A contract out of what a call does: it makes memory at most. -/
theorem con_below {P : Program} {G : List (Nat × AV)} {f : FuncId} {args : List AV} {r : AV} (hfn : Fn P f)
    (h : ∀ (E : Env) (w : World) (vals : List Value), HeapOk E [] w → ArgsRep E w args vals →
      ∃ x, (∀ w', RepF E.F w' r x) ∧ Calls P f vals.toArray w fun e w' => e = .returned x ∧ Go.RowKit.Below w.heap.size w w' ∧ (DrawnOn → w.drawn ≤ w'.drawn)) : Con P G f args r [] :=
  ⟨hfn, fun E w vals hh _ ha => by
    obtain ⟨x, hx, hc⟩ := h E w vals hh ha
    refine hc.mono fun e w' ⟨he, hw, hd⟩ => ?_
    subst he
    exact ⟨r, [], E, ⟨rfl, rfl⟩, .fz _ _ (hx w'), .of_same hh (.of_below hw hd)⟩⟩

/-- .. where the program's variables are laid. -/
theorem con_belowL {P : Program} {G : List (Nat × AV)} {f : FuncId} {args : List AV} {r : AV} (hfn : Fn P f)
    (h : ∀ (E : Env) (w : World) (vals : List Value), HeapOk E [] w → Laid G E w → ArgsRep E w args vals →
      ∃ x, (∀ w', RepF E.F w' r x) ∧ Calls P f vals.toArray w fun e w' => e = .returned x ∧ Go.RowKit.Below w.heap.size w w' ∧ (DrawnOn → w.drawn ≤ w'.drawn)) : Con P G f args r [] :=
  ⟨hfn, fun E w vals hh hl ha => by
    obtain ⟨x, hx, hc⟩ := h E w vals hh hl ha
    refine hc.mono fun e w' ⟨he, hw, hd⟩ => ?_
    subst he
    exact ⟨r, [], E, ⟨rfl, rfl⟩, .fz _ _ (hx w'), .of_same hh (.of_below hw hd)⟩⟩

/-- A table of numbers, as the library's contracts want it. -/
theorem tab_of_laid {P : Program} {G : List (Nat × AV)} {E : Env} {w : World} {name : String} {g : Nat} {k : IntKind} {zs : List Int} (hl : Laid G E w) (hG : look G g = .fptr (zs.map (AV.int k))) (hn : P.globalNamed name = some g) : w.var? P name = some (zs.map (Value.int k)).toArray := by
  rcases hl g with q | ⟨q1, q2⟩
  · rw [hG] at q; cases q
  · rw [hG] at q1 q2
    obtain ⟨arr, ty, fr, h1, h2⟩ := q2 _ rfl
    simp only [World.var?, hn, Option.bind_some, h1]
    congr 1
    apply Array.ext
    · simpa using h2
    · intro j hj1 hj2
      cases q1 with
      | fptr _ _ _ vs hF hc hf hr =>
        have hj : j < zs.length := by simpa using hj2
        have hcj : (zs.map (AV.int k))[j]? = some (.int k zs[j]) := by simp [hj]
        have h3 := hc j _ hcj
        have h4 := hr j _ hcj
        generalize vs j = v at h3 h4
        cases h4
        simp only [World.cell?, Nat.zero_add, h1] at h3
        have := (Array.getElem?_eq_some_iff.1 h3).2
        simp [this]

theorem grow_below (w : World) (k : Nat) (os : Array Obj) : Go.RowKit.Below w.heap.size w (Go.Sort.grow (w.drewN k) os) ∧ w.drawn ≤ (Go.Sort.grow (w.drewN k) os).drawn := by
  refine ⟨⟨rfl, rfl, rfl, ?_, fun j hj => ?_⟩, Nat.le_add_right _ _⟩
  · show w.heap.size ≤ (w.heap ++ os).size
    simp
  · show (w.heap ++ os)[j]? = w.heap[j]?
    rw [Array.getElem?_append_left hj]

/-- The decimal numeral of a number below a thousand. -/
def dec3 (i : Nat) : Str := if i < 100 then ⟨(if i < 10 then [UInt8.ofNat (48 + i)] else [UInt8.ofNat (48 + i / 10), UInt8.ofNat (48 + i % 10)]).toArray⟩ else ⟨[UInt8.ofNat (48 + i / 100), UInt8.ofNat (48 + i / 10 % 10), UInt8.ofNat (48 + i % 10)].toArray⟩

theorem args_one {E : Env} {w : World} {a : AV} {vals : List Value} (h : ArgsRep E w [a] vals) : ∃ x, vals = [x] ∧ Rep E w a x := by
  obtain ⟨h1, h2⟩ := h
  match vals, h1, h2 with
  | [x], _, h2 => exact ⟨x, rfl, h2 0 a rfl⟩

theorem args_two {E : Env} {w : World} {a b : AV} {vals : List Value} (h : ArgsRep E w [a, b] vals) : ∃ x y, vals = [x, y] ∧ Rep E w a x ∧ Rep E w b y := by
  obtain ⟨h1, h2⟩ := h
  match vals, h1, h2 with
  | [x, y], _, h2 => exact ⟨x, y, rfl, h2 0 a rfl, h2 1 b rfl⟩

/-- What strings.Join joins. -/
def joinS (l : List Str) (sep : Str) : Str := ⟨(sep.data.toList.intercalate (l.map (·.data.toList))).toArray⟩
/-- A number below 100, in decimal. -/
def dec2 (i : Nat) : Str := ⟨(if i < 10 then [UInt8.ofNat (48 + i)] else [UInt8.ofNat (48 + i / 10), UInt8.ofNat (48 + i % 10)]).toArray⟩

/-- A read list of strings. -/
theorem rep_strs {E : Env} {w : World} (hh : HeapOk E [] w) {l : List Str} {x : Value} (h : Rep E w (aL cS l) x) :
    (l = [] ∧ ∃ a c, x = .slice a 0 c) ∨ ∃ b o c, x = .slice (some ⟨b, o, none⟩) l.length c ∧ b < w.heap.size ∧ l.length ≤ c ∧ ∀ (j : Nat) s, l[j]? = some s → w.cell? ⟨b, o + j, none⟩ = some (.string s) := by
  cases h with
  | fz _ _ h =>
    unfold aL at h
    generalize hn : l.length = n at h
    cases h with
    | empty row a c => exact .inl ⟨List.length_eq_zero_iff.1 hn, a, c, rfl⟩
    | list n row b o c sz vs hF hcap hsz hc hf hr =>
      subst hn
      refine .inr ⟨b, o, c, rfl, hh.frz b hF, hcap, fun j s hj => ?_⟩
      have hl : j < l.length := by
        rcases Nat.lt_or_ge j l.length with g | g
        · exact g
        · rw [List.getElem?_eq_none g] at hj; cases hj
      have e : rw (l.map cS) j = cS s := rw_map hj
      have e1 : sz = 1 := by have := hsz j hl; rw [e] at this; exact this.symm
      subst e1
      have h1 := hc j 0 (.str s) hl (by rw [e]; rfl)
      have h2 := hr j 0 (.str s) hl (by rw [e]; rfl)
      have h3 : vs j 0 = .string s := by
        generalize vs j 0 = v at h2
        cases h2; rfl
      rw [h3] at h1
      simpa using h1

end Go.Av

namespace Go.Av
variable [Drawn]
open Go.ChangeShapes Go.RowKit

section
variable {P : Program} {n : Nat} {t e : TypeId} {α β : Type}

theorem opens_zero {c : Cod α} : Opens P 0 t c := by
  constructor
  intro H enc B hB w base spare held fuel cs x hn hx
  have : fuel = 0 := by omega
  subst this; simp [DataW.trod] at hx

theorem o_kL1 [Inhabited α] {c : Cod α} {k : Nat} (ht : P.underlying t = some (.slice e)) (hk : P.cellsOf e = k + 1) (hsz : ∀ a, (c.cells a).length = k + 1) (he : Opens P n e c) : Opens P (n + 1) t (kL c) := by
  constructor
  intro H enc B hB w base spare held fuel cs x hn hx
  obtain ⟨l, h1, h2, h3⟩ := (opens_slice' ht hk hsz he).go hB hn hx
  refine ⟨l, h1, h2, h3.list fun i hi => ?_⟩
  simp [rw, List.getD, List.getElem?_map, List.getElem?_eq_getElem hi]

/-! ### a variable that is laid: integers, in arrays -/

def arrB (P : Program) : Nat → TypeId → Bool
  | 0, _ => false
  | n + 1, t => match P.underlying t with
    | some (.int _) => Nat.beq (P.cellsOf t) 1
    | some (.array m e) => arrB P n e && Nat.beq (P.cellsOf t) (m * P.cellsOf e)
    | _ => false

mutual
def flatV {H : Type} : DataW H → List Value
  | .lit (.int k z) => [.int k z]
  | .agg ds => flatVs ds
  | _ => []
def flatVs {H : Type} : List (DataW H) → List Value
  | [] => []
  | d :: ds => flatV d ++ flatVs ds
end

theorem pieces {β : Type} {f : β → List Value} {c : Nat} : ∀ {xs : List β} {cs : List Value}, cs.length = xs.length * c → (∀ (i : Nat) x, xs[i]? = some x → (cs.drop (i * c)).take c = f x) → cs = (xs.map f).flatten
  | [], cs, hl, _ => by simpa using hl
  | x :: xs, cs, hl, h => by
    have h0 := h 0 x rfl
    rw [Nat.zero_mul, List.drop_zero] at h0
    have hr : cs.drop c = (xs.map f).flatten := pieces (c := c) (f := f) (by rw [List.length_drop, hl, List.length_cons, Nat.add_mul, Nat.one_mul]; omega) fun i y hy => by
      have := h (i + 1) y hy
      rw [List.drop_drop]
      rw [← this, Nat.add_mul, Nat.one_mul, Nat.add_comm]
    rw [List.map_cons, List.flatten_cons, ← h0, ← hr, List.take_append_drop]

theorem flatVs_eq {H : Type} : ∀ ds : List (DataW H), flatVs ds = (ds.map flatV).flatten
  | [] => rfl
  | d :: ds => by rw [flatVs, flatVs_eq ds]; rfl

theorem trod_flat {H : Type} {enc : TypeId × Value → H} {w : World} {base : Nat} {sp : Nat → Bool} {held : Bool} : ∀ {n fuel : Nat} {t : TypeId} {cs : List Value} {x : DataW H × List MemPlace},
    arrB P n t = true → DataW.trod enc P w base sp held fuel t cs = some x → cs = flatV x.1
  | 0, _, _, _, _, h, _ => by simp [arrB] at h
  | n + 1, fuel, t, cs, x, h, hx => by
    rw [arrB] at h
    cases hu : P.underlying t with
    | none => rw [hu] at h; cases h
    | some d =>
      rw [hu] at h
      cases d with
      | int k =>
        obtain ⟨z, rfl, h2, _⟩ := DataW.trod_int hu hx
        rw [h2]; rfl
      | array m e =>
        simp only [Bool.and_eq_true] at h
        obtain ⟨xs, fm, rfl, rfl, hl, hn, hel⟩ := DataW.trod_array hu hx
        rw [flatV, flatVs_eq, List.map_map]
        refine pieces (c := P.cellsOf e) (f := flatV ∘ fun y : DataW H × List MemPlace => y.1) (by rw [hl, Nat.eq_of_beq_eq_true h.2, hn]) fun i y hy => ?_
        have hi : i < m := by rw [← hn]; exact (List.getElem?_eq_some_iff.1 hy).1
        have := hel i hi
        rw [hy] at this
        exact trod_flat h.1 this
      | _ => cases h

theorem laidVars_mem {w : World} {name : String} {d : DataW Unit} : ∀ {l : List (String × DataW Unit)} {ps : List MemPlace}, DataW.LaidVars P w l ps → (name, d) ∈ l →
    ∃ g t cs fuel p, P.globalNamed name = some g ∧ (P.globals[g]?).map (·.type) = some t ∧ w.var? P name = some cs ∧ DataW.trod (fun _ => ()) P w 0 (fun _ => true) false fuel t cs.toList = some (d, p)
  | [], _, _, h => by simp at h
  | (m, e) :: l, ps, hv, h => by
    obtain ⟨g, t, cs, fuel, p, q, h1, h2, h3, h4, h5, _⟩ := hv
    rcases List.mem_cons.1 h with h | h
    · cases h; exact ⟨g, t, cs, fuel, p, h1, h2, h3, h4⟩
    · exact laidVars_mem h5 h

/-- A laid variable, as an abstract value. -/
theorem laid_rep {w : World} {l : List (String × DataW Unit)} {name : String} {d : DataW Unit} {g : Nat} {t : TypeId} {k : IntKind} {zs : List Int} (h : laidMetH P l w) (hno : (l.all fun x => x.2.handleName?.isNone) = true) (hm : (name, d) ∈ l)
    (hg : P.globalNamed name = some g) (ht : (P.globals[g]?).map (·.type) = some t) (ha : arrB P 5 t = true) (hf : flatV d = zs.map (Value.int k)) (hz : zs ≠ []) :
    VarOk (frz0 w) w g (.fptr (zs.map (AV.int k))) := by
  rw [Go.MakeChecks.laidMetH_plain _ _ _ hno] at h
  obtain ⟨ps, hv, _⟩ := h
  obtain ⟨g', t', cs, fuel, p, h1, h2, h3, h4⟩ := laidVars_mem hv hm
  obtain rfl := Option.some.inj (hg.symm.trans h1)
  obtain rfl := Option.some.inj (ht.symm.trans h2)
  have hcs := trod_flat ha h4
  rw [hf] at hcs
  have hcell : ∀ (j : Nat) z, zs[j]? = some z → w.cell? ⟨g, 0 + j, none⟩ = some (.int k z) := fun j z hj => by
    rw [Nat.zero_add, World.var?_cell h1 h3 j]
    have : cs.toList[j]? = some (.int k z) := by rw [hcs]; simp [hj]
    simpa using this
  refine ⟨?_, fun cells hce => ?_⟩
  rotate_left
  · cases hce
    simp only [World.var?, hg, Option.bind_some] at h3
    split at h3
    · rename_i arr ty fr ha'
      cases h3
      refine ⟨_, ty, fr, ha', ?_⟩
      have := congrArg List.length hcs
      simpa using this
    · cases h3
  refine .fptr _ g 0 (fun j => .int k (zs.getD j 0)) ?_ (fun j c hc => ?_) (fun j c hc => ?_) (fun j c hc => ?_)
  · obtain ⟨z, zs', rfl⟩ : ∃ z zs', zs = z :: zs' := by cases zs with
      | nil => exact absurd rfl hz
      | cons z zs => exact ⟨z, zs, rfl⟩
    have := hcell 0 z rfl
    show g < w.heap.size
    simp only [World.cell?] at this
    rcases Nat.lt_or_ge g w.heap.size with q | q
    · exact q
    · rw [Array.getElem?_eq_none q] at this; simp at this
  all_goals
    rw [List.getElem?_map, Option.map_eq_some_iff] at hc
    obtain ⟨z, hz', rfl⟩ := hc
  · rw [hcell j z hz']; simp [List.getD, hz']
  · rfl
  · simp only [List.getD, hz']; exact .int k z
end
end Go.Av

namespace Go.Av

/-- 'less' of a comparison that may fail. -/
def ltM {α : Type} (cf : α → α → Option Int) (a b : α) : Bool := match cf a b with | some c => decide (c < 0) | none => false

def pairB {α : Type} (p : α → α → Bool) : List α → Bool
  | [] => true
  | a :: l => l.all (p a) && pairB p l

/-- The comparison answers on the list's elements, and is a strict order there in which any two places differ. -/
def sortOk {α : Type} (cf : α → α → Option Int) (l : List α) : Bool :=
  (l.all fun a => l.all fun b => (cf a b).isSome) && ((l.all fun a => !ltM cf a a) && (pairB (fun a b => ltM cf a b || ltM cf b a) l && (l.all fun a => l.all fun b => l.all fun c => !(ltM cf a b && ltM cf b c) || ltM cf a c)))

def insM {α : Type} (lt : α → α → Bool) (a : α) : List α → List α
  | [] => [a]
  | b :: l => bif lt a b then a :: b :: l else b :: insM lt a l
def isortM {α : Type} (lt : α → α → Bool) : List α → List α
  | [] => []
  | a :: l => insM lt a (isortM lt l)

/-- slices.SortFunc on a list that is not empty, where the result is determined. -/
def sortM {α : Type} (cf : α → α → Option Int) (l : List α) : Option (List α) :=
  bif Nat.ble 1 l.length && (Nat.ble l.length 1000000000 && sortOk cf l) then some (isortM (ltM cf) l) else none

/-- What 'sortOk' says. -/
structure SortP {α : Type} (cf : α → α → Option Int) (l : List α) : Prop where
  tot : ∀ a ∈ l, ∀ b ∈ l, ∃ c, cf a b = some c
  irr : ∀ a ∈ l, ltM cf a a = false
  tri : l.Pairwise fun a b => ltM cf a b = true ∨ ltM cf b a = true
  tr : ∀ a ∈ l, ∀ b ∈ l, ∀ c ∈ l, ltM cf a b = true → ltM cf b c = true → ltM cf a c = true

theorem pairB_iff {α : Type} (p : α → α → Bool) : ∀ l : List α, pairB p l = true ↔ l.Pairwise fun a b => p a b = true
  | [] => by simp [pairB]
  | a :: l => by simp [pairB, pairB_iff p l]

theorem sortOk_iff {α : Type} (cf : α → α → Option Int) (l : List α) : sortOk cf l = true ↔ SortP cf l := by
  unfold sortOk
  rw [Bool.and_eq_true, Bool.and_eq_true, Bool.and_eq_true, pairB_iff]
  constructor
  · rintro ⟨h1, h2, h3, h4⟩
    refine ⟨?_, ?_, ?_, ?_⟩
    · intro a ha b hb
      have := List.all_eq_true.1 (List.all_eq_true.1 h1 a ha) b hb
      exact Option.isSome_iff_exists.1 this
    · intro a ha
      have := List.all_eq_true.1 h2 a ha
      simpa using this
    · exact h3.imp fun h => by simpa using h
    · intro a ha b hb c hc h h'
      have := List.all_eq_true.1 (List.all_eq_true.1 (List.all_eq_true.1 h4 a ha) b hb) c hc
      rw [h, h'] at this
      simpa using this
  · rintro ⟨h1, h2, h3, h4⟩
    refine ⟨?_, ?_, ?_, ?_⟩
    · refine List.all_eq_true.2 fun a ha => List.all_eq_true.2 fun b hb => ?_
      exact Option.isSome_iff_exists.2 (h1 a ha b hb)
    · refine List.all_eq_true.2 fun a ha => ?_
      simp [h2 a ha]
    · exact h3.imp fun h => by simpa using h
    · refine List.all_eq_true.2 fun a ha => List.all_eq_true.2 fun b hb => List.all_eq_true.2 fun c hc => ?_
      cases h : ltM cf a b with
      | false => simp
      | true =>
        cases h' : ltM cf b c with
        | false => simp
        | true => simp [h4 a ha b hb c hc h h']

section
variable {α : Type} {cf : α → α → Option Int} {l : List α}

/-- Two elements of which neither is less are one. -/
theorem SortP.eq_of (h : SortP cf l) {a b : α} (ha : a ∈ l) (hb : b ∈ l) (h1 : ltM cf a b = false) (h2 : ltM cf b a = false) : a = b := by
  by_cases e : a = b
  · exact e
  · exfalso
    have key : ∀ l : List α, (l.Pairwise fun a b => ltM cf a b = true ∨ ltM cf b a = true) → a ∈ l → b ∈ l → False := by
      intro l
      induction l with
      | nil => intro _ h; cases h
      | cons c l ih =>
        intro hp ha hb
        rw [List.pairwise_cons] at hp
        rcases List.mem_cons.1 ha with ea | ha'
        · rcases List.mem_cons.1 hb with eb | hb'
          · exact e (ea.trans eb.symm)
          · subst ea; have := hp.1 b hb'; simp [h1, h2] at this
        · rcases List.mem_cons.1 hb with eb | hb'
          · subst eb; have := hp.1 a ha'; simp [h1, h2] at this
          · exact ih hp.2 ha' hb'
    exact key l h.tri ha hb

theorem SortP.asym (h : SortP cf l) {a b : α} (ha : a ∈ l) (hb : b ∈ l) (h1 : ltM cf a b = true) : ltM cf b a = false := by
  cases h2 : ltM cf b a with
  | false => rfl
  | true => rw [← h.irr a ha]; exact (h.tr a ha b hb a ha h1 h2).symm

theorem SortP.ntr (h : SortP cf l) {a b c : α} (ha : a ∈ l) (hb : b ∈ l) (hc : c ∈ l) (h1 : ltM cf a b = false) (h2 : ltM cf b c = false) : ltM cf a c = false := by
  cases h3 : ltM cf a c with
  | false => rfl
  | true =>
    exfalso
    cases h4 : ltM cf b a with
    | false =>
      have e := h.eq_of ha hb h1 h4; subst e; rw [h3] at h2; cases h2
    | true =>
      have := h.tr b hb a ha c hc h4 h3; rw [this] at h2; cases h2

theorem SortP.perm {l' : List α} (h : SortP cf l) (hp : l'.Perm l) : SortP cf l' :=
  ⟨fun a ha b hb => h.tot a (hp.subset ha) b (hp.subset hb), fun a ha => h.irr a (hp.subset ha),
   h.tri.perm hp.symm (fun h => Or.symm h), fun a ha b hb c hc => h.tr a (hp.subset ha) b (hp.subset hb) c (hp.subset hc)⟩

theorem SortP.tail {a : α} (h : SortP cf (a :: l)) : SortP cf l :=
  ⟨fun a ha b hb => h.tot a (.tail _ ha) b (.tail _ hb), fun a ha => h.irr a (.tail _ ha), (List.pairwise_cons.1 h.tri).2,
   fun a ha b hb c hc => h.tr a (.tail _ ha) b (.tail _ hb) c (.tail _ hc)⟩

theorem insM_perm (lt : α → α → Bool) (a : α) : ∀ l : List α, (insM lt a l).Perm (a :: l)
  | [] => .refl _
  | b :: l => by
    simp only [insM]
    cases lt a b with
    | true => exact .refl _
    | false => exact ((insM_perm lt a l).cons b).trans (List.Perm.swap _ _ _)

theorem isortM_perm (lt : α → α → Bool) : ∀ l : List α, (isortM lt l).Perm l
  | [] => .refl _
  | a :: l => (insM_perm lt a _).trans ((isortM_perm lt l).cons a)

/-- Ascending: no later one is less than an earlier one. -/
def AscM (cf : α → α → Option Int) (l : List α) : Prop := l.Pairwise fun a b => ltM cf b a = false

theorem insM_asc (a : α) : ∀ l : List α, SortP cf (a :: l) → AscM cf l → AscM cf (insM (ltM cf) a l)
  | [], _, _ => by simp [insM, AscM]
  | b :: l, h, hs => by
    simp only [insM]
    have hs' := List.pairwise_cons.1 hs
    cases e : ltM cf a b with
    | true =>
      refine List.pairwise_cons.2 ⟨?_, hs⟩
      intro c hc
      rcases List.mem_cons.1 hc with rfl | hc
      · exact h.asym (.head _) (.tail _ (.head _)) e
      · refine h.ntr (.tail _ (.tail _ hc)) (.tail _ (.head _)) (.head _) (hs'.1 c hc) ?_
        exact h.asym (.head _) (.tail _ (.head _)) e
    | false =>
      have h2 : SortP cf (a :: l) := SortP.tail (a := b) (h.perm (List.Perm.swap _ _ _))
      refine List.pairwise_cons.2 ⟨?_, insM_asc a l h2 hs'.2⟩
      intro c hc
      rcases List.mem_cons.1 ((insM_perm _ a l).subset hc) with rfl | hc
      · exact e
      · exact hs'.1 c hc

theorem SortP.asc : ∀ {l : List α}, SortP cf l → AscM cf (isortM (ltM cf) l)
  | [], _ => by simp [isortM, AscM]
  | a :: l, h => insM_asc a _ (h.perm ((isortM_perm _ l).cons a)) (h.tail.asc)

/-- There is one sorted permutation. -/
theorem SortP.unique (h : SortP cf l) : ∀ {l1 l2 : List α}, (∀ x ∈ l1, x ∈ l) → l1.Perm l2 → AscM cf l1 → AscM cf l2 → l1 = l2
  | [], l2, _, hp, _, _ => by simpa using hp.symm
  | a :: l1, [], _, hp, _, _ => by simp at hp
  | a :: l1, b :: l2, hm, hp, h1, h2 => by
    have h1' := List.pairwise_cons.1 h1
    have h2' := List.pairwise_cons.1 h2
    have hbl : b ∈ l := hm b (hp.symm.subset (.head _))
    have e : a = b := by
      rcases List.mem_cons.1 (hp.subset (List.Mem.head l1)) with e | ha
      · exact e
      · rcases List.mem_cons.1 (hp.symm.subset (List.Mem.head l2)) with e | hb
        · exact e.symm
        · exact h.eq_of (hm a (.head _)) hbl (h2'.1 a ha) (h1'.1 b hb)
    subst e
    rw [h.unique (fun x hx => hm x (.tail _ hx)) ((List.perm_cons a).1 hp) h1'.2 h2'.2]

theorem sortM_ok {r : List α} (h : sortM cf l = some r) : 1 ≤ l.length ∧ SortP cf l ∧ r = isortM (ltM cf) l := by
  unfold sortM at h
  cases hb : (Nat.ble 1 l.length && (Nat.ble l.length 1000000000 && sortOk cf l)) with
  | false => rw [hb] at h; cases h
  | true =>
    rw [hb, cond_true, Option.some.injEq] at h
    rw [Bool.and_eq_true, Bool.and_eq_true, sortOk_iff] at hb
    exact ⟨Nat.le_of_ble_eq_true hb.1, hb.2.2, h.symm⟩

theorem sortM_length {r : List α} (h : sortM cf l = some r) : r.length = l.length := by
  obtain ⟨_, _, rfl⟩ := sortM_ok h
  exact (isortM_perm _ l).length_eq

theorem sortM_of (h1 : 1 ≤ l.length) (h2 : l.length ≤ 1000000000) (h : SortP cf l) : sortM cf l = some (isortM (ltM cf) l) := by
  unfold sortM
  rw [Nat.ble_eq_true_of_le h1, Nat.ble_eq_true_of_le h2, (sortOk_iff cf l).2 h]; rfl

/-- A comparison of keys, each key once. -/
theorem SortP.of_key (key : α → Int) (hc : ∀ a ∈ l, ∀ b ∈ l, ∃ c, cf a b = some c ∧ (c < 0 ↔ key a < key b)) (hd : (l.map key).Nodup) : SortP cf l := by
  have hl : ∀ a ∈ l, ∀ b ∈ l, (ltM cf a b = true ↔ key a < key b) := fun a ha b hb => by
    obtain ⟨c, e, h⟩ := hc a ha b hb
    simp [ltM, e, h]
  refine ⟨fun a ha b hb => (hc a ha b hb).imp fun _ h => h.1, fun a ha => ?_, ?_, fun a ha b hb c hc h1 h2 => ?_⟩
  · cases h : ltM cf a a with
    | false => rfl
    | true => have := (hl a ha a ha).1 h; omega
  · have : l.Pairwise fun a b => key a ≠ key b := List.pairwise_map.1 hd
    refine (List.pairwise_iff_forall_sublist.2 ?_)
    intro a b hs
    have hne := (List.pairwise_iff_forall_sublist.1 this) hs
    have ha : a ∈ l := hs.subset (.head _)
    have hb : b ∈ l := hs.subset (.tail _ (.head _))
    rcases Int.lt_or_gt_of_ne hne with h | h
    · exact .inl ((hl a ha b hb).2 h)
    · exact .inr ((hl b hb a ha).2 h)
  · have h1 := (hl a ha b hb).1 h1
    have h2 := (hl b hb c hc).1 h2
    exact (hl a ha c hc).2 (by omega)
end
end Go.Av
