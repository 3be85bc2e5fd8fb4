/- The Av framework: short steps, further. No law is proved here. -/
import Derived.Test.YtaebdeidbibfkaaGreatDoorZAvM8
import Derived.Lib.LaidTab
import Derived.Deep.DeepHandedRow
import Derived.MakeChecks
set_option linter.unusedSimpArgs false
set_option linter.unusedVariables false
set_option linter.unusedSectionVars false
namespace Go.Av
variable [Drawn]
section
variable {P : Program} {X : Ctx} {T : TT} {own : Nat → Bool} {ops : Array Oper} {K : St → Prop} {s s1 : St} {o : Oper} {os : List Oper} {Q Q0 : Exit → St → Prop} {id : Nat} {c x y b a : Code} {B : List Nat} {R : Nat → List Nat} {i : Nat} {is : List Nat}

/-! ### states restated -/
theorem vl (L : List (Option Nat)) (s1 : St) (hk : regv P T own ops (o :: os) K s1) (hr : RelocL L s s1 := by exact RelocL.mk rfl rfl rfl rfl (by rfl) (by rfl) (by ((repeat' first | exact objsLe_nil | refine objsLe_cons ?_ ?_) <;> first | exact trivial | (refine ObjLe.var0 rfl rfl rfl ?_; (repeat' first | exact All2.nil | refine All2.cons ?_ ?_ | exact AvLe.refl _ rfl | refine AvLe.tups ?_ | refine AvLe.aggs ?_ | refine AvLe.closs ?_ ?_) <;> first | exact AvLe.refl _ rfl | exact AvLe.undef _ | exact AvLe.sl _ _ _ _ rfl | exact AvLe.hptr _ _ _ _ rfl | exact AvLe.mp _ _ rfl | exact AvLe.nil _ | exact AvLe.znil _ | exact AvLe.ghost _ rfl | exact AvLe.zghost _ rfl | exact AvLe.sl' rfl (by simp [F]; done) (by first | (simp [F]; done) | (simp [F]; omega) | omega) | exact AvLe.frz3 rfl (by simp) (by first | exact Nat.zero_le _ | decide) (by first | (simp [F]; done) | (simp [F]; omega)) (by first | (simp [F]; done) | (simp [F]; omega)) (by first | exact rwTk0 | exact rwTkB | (simp [F]; done)) | exact AvLe.list' (by simp [F]; done) (by simp [F]; done) | exact AvLe.eq (by simp [F]; done) rfl) | exact ObjLe.map' rfl rfl | exact ObjLe.map2 rfl rfl (by first | (simp [F]; done) | (simp [F]; rfl)) | exact ObjLe.slot' rfl | exact ⟨_, rfl, rfl⟩ | exact ObjLe.raw' rfl rfl | exact ObjLe.siter2 rfl rfl (by first | rfl | (simp [F]; done)) (by first | rfl | (simp [F]; done)) | exact ObjLe.ghost' rfl (by decide) | exact ObjLe.arr' rfl rfl (by first | (simp [F]; done) | (simp [F]; omega)) (by first | exact fun _ _ => rfl | exact rwTk | exact rwTkC | (intro _ _; simp [F]; done)) | (simp [F]; done))) (by ((repeat' first | exact chLe_nil | refine chLe_cons ?_ ?_ | exact All2.nil | refine All2.cons ?_ ?_ | exact AvLe.refl _ rfl | refine AvLe.tups ?_ | refine AvLe.aggs ?_ | refine AvLe.closs ?_ ?_) <;> first | exact AvLe.refl _ rfl | exact AvLe.undef _ | exact AvLe.sl _ _ _ _ rfl | exact AvLe.hptr _ _ _ _ rfl | exact AvLe.mp _ _ rfl | exact AvLe.nil _ | exact AvLe.znil _ | exact AvLe.ghost _ rfl | exact AvLe.zghost _ rfl | exact AvLe.sl' rfl (by simp [F]; done) (by first | (simp [F]; done) | (simp [F]; omega) | omega) | exact AvLe.frz3 rfl (by simp) (by first | exact Nat.zero_le _ | decide) (by first | (simp [F]; done) | (simp [F]; omega)) (by first | (simp [F]; done) | (simp [F]; omega)) (by first | exact rwTk0 | exact rwTkB | (simp [F]; done)) | exact AvLe.list' (by simp [F]; done) (by simp [F]; done) | exact AvLe.eq (by simp [F]; done) rfl))) : regv P T own ops (o :: os) K s := regv_reloc hr hk
theorem rl (L : List (Option Nat)) (s1 : St) (hk : Wp P X c Q s1) (hr : RelocL L s s1 := by exact RelocL.mk rfl rfl rfl rfl (by rfl) (by rfl) (by ((repeat' first | exact objsLe_nil | refine objsLe_cons ?_ ?_) <;> first | exact trivial | (refine ObjLe.var0 rfl rfl rfl ?_; (repeat' first | exact All2.nil | refine All2.cons ?_ ?_ | exact AvLe.refl _ rfl | refine AvLe.tups ?_ | refine AvLe.aggs ?_ | refine AvLe.closs ?_ ?_) <;> first | exact AvLe.refl _ rfl | exact AvLe.undef _ | exact AvLe.sl _ _ _ _ rfl | exact AvLe.hptr _ _ _ _ rfl | exact AvLe.mp _ _ rfl | exact AvLe.nil _ | exact AvLe.znil _ | exact AvLe.ghost _ rfl | exact AvLe.zghost _ rfl | exact AvLe.sl' rfl (by simp [F]; done) (by first | (simp [F]; done) | (simp [F]; omega) | omega) | exact AvLe.frz3 rfl (by simp) (by first | exact Nat.zero_le _ | decide) (by first | (simp [F]; done) | (simp [F]; omega)) (by first | (simp [F]; done) | (simp [F]; omega)) (by first | exact rwTk0 | exact rwTkB | (simp [F]; done)) | exact AvLe.list' (by simp [F]; done) (by simp [F]; done) | exact AvLe.eq (by simp [F]; done) rfl) | exact ObjLe.map' rfl rfl | exact ObjLe.map2 rfl rfl (by first | (simp [F]; done) | (simp [F]; rfl)) | exact ObjLe.slot' rfl | exact ⟨_, rfl, rfl⟩ | exact ObjLe.raw' rfl rfl | exact ObjLe.siter2 rfl rfl (by first | rfl | (simp [F]; done)) (by first | rfl | (simp [F]; done)) | exact ObjLe.ghost' rfl (by decide) | exact ObjLe.arr' rfl rfl (by first | (simp [F]; done) | (simp [F]; omega)) (by first | exact fun _ _ => rfl | exact rwTk | exact rwTkC | (intro _ _; simp [F]; done)) | (simp [F]; done))) (by ((repeat' first | exact chLe_nil | refine chLe_cons ?_ ?_ | exact All2.nil | refine All2.cons ?_ ?_ | exact AvLe.refl _ rfl | refine AvLe.tups ?_ | refine AvLe.aggs ?_ | refine AvLe.closs ?_ ?_) <;> first | exact AvLe.refl _ rfl | exact AvLe.undef _ | exact AvLe.sl _ _ _ _ rfl | exact AvLe.hptr _ _ _ _ rfl | exact AvLe.mp _ _ rfl | exact AvLe.nil _ | exact AvLe.znil _ | exact AvLe.ghost _ rfl | exact AvLe.zghost _ rfl | exact AvLe.sl' rfl (by simp [F]; done) (by first | (simp [F]; done) | (simp [F]; omega) | omega) | exact AvLe.frz3 rfl (by simp) (by first | exact Nat.zero_le _ | decide) (by first | (simp [F]; done) | (simp [F]; omega)) (by first | (simp [F]; done) | (simp [F]; omega)) (by first | exact rwTk0 | exact rwTkB | (simp [F]; done)) | exact AvLe.list' (by simp [F]; done) (by simp [F]; done) | exact AvLe.eq (by simp [F]; done) rfl))) : Wp P X c Q s := Wp.reloc hr hk
theorem lp {α : Type} (L : List (Option Nat)) (S : α → St) (I : Nat → α → Prop) (n : Nat) (x : α) (hx : I n x) (k : ∀ n x, I (n + 1) x → Wp P X c (loopF S I Q n) (S x)) (hr : RelocL L s (S x) := by exact RelocL.mk rfl rfl rfl rfl (by rfl) (by rfl) (by ((repeat' first | exact objsLe_nil | refine objsLe_cons ?_ ?_) <;> first | exact trivial | (refine ObjLe.var0 rfl rfl rfl ?_; (repeat' first | exact All2.nil | refine All2.cons ?_ ?_ | exact AvLe.refl _ rfl | refine AvLe.tups ?_ | refine AvLe.aggs ?_ | refine AvLe.closs ?_ ?_) <;> first | exact AvLe.refl _ rfl | exact AvLe.undef _ | exact AvLe.sl _ _ _ _ rfl | exact AvLe.hptr _ _ _ _ rfl | exact AvLe.mp _ _ rfl | exact AvLe.nil _ | exact AvLe.znil _ | exact AvLe.ghost _ rfl | exact AvLe.zghost _ rfl | exact AvLe.sl' rfl (by simp [F]; done) (by first | (simp [F]; done) | (simp [F]; omega) | omega) | exact AvLe.frz3 rfl (by simp) (by first | exact Nat.zero_le _ | decide) (by first | (simp [F]; done) | (simp [F]; omega)) (by first | (simp [F]; done) | (simp [F]; omega)) (by first | exact rwTk0 | exact rwTkB | (simp [F]; done)) | exact AvLe.list' (by simp [F]; done) (by simp [F]; done) | exact AvLe.eq (by simp [F]; done) rfl) | exact ObjLe.map' rfl rfl | exact ObjLe.map2 rfl rfl (by first | (simp [F]; done) | (simp [F]; rfl)) | exact ObjLe.slot' rfl | exact ⟨_, rfl, rfl⟩ | exact ObjLe.raw' rfl rfl | exact ObjLe.siter2 rfl rfl (by first | rfl | (simp [F]; done)) (by first | rfl | (simp [F]; done)) | exact ObjLe.ghost' rfl (by decide) | exact ObjLe.arr' rfl rfl (by first | (simp [F]; done) | (simp [F]; omega)) (by first | exact fun _ _ => rfl | exact rwTk | exact rwTkC | (intro _ _; simp [F]; done)) | (simp [F]; done))) (by ((repeat' first | exact chLe_nil | refine chLe_cons ?_ ?_ | exact All2.nil | refine All2.cons ?_ ?_ | exact AvLe.refl _ rfl | refine AvLe.tups ?_ | refine AvLe.aggs ?_ | refine AvLe.closs ?_ ?_) <;> first | exact AvLe.refl _ rfl | exact AvLe.undef _ | exact AvLe.sl _ _ _ _ rfl | exact AvLe.hptr _ _ _ _ rfl | exact AvLe.mp _ _ rfl | exact AvLe.nil _ | exact AvLe.znil _ | exact AvLe.ghost _ rfl | exact AvLe.zghost _ rfl | exact AvLe.sl' rfl (by simp [F]; done) (by first | (simp [F]; done) | (simp [F]; omega) | omega) | exact AvLe.frz3 rfl (by simp) (by first | exact Nat.zero_le _ | decide) (by first | (simp [F]; done) | (simp [F]; omega)) (by first | (simp [F]; done) | (simp [F]; omega)) (by first | exact rwTk0 | exact rwTkB | (simp [F]; done)) | exact AvLe.list' (by simp [F]; done) (by simp [F]; done) | exact AvLe.eq (by simp [F]; done) rfl)))
    (h0 : ∀ x, ¬ I 0 x := by (intro _ h; cases h)) : Wp P X (.loop c) Q s := Wp.loopF S I h0 k n x hx hr
theorem nx {α : Type} {S : α → St} {I : α → Prop} (L : List (Option Nat)) (y : α) (h : I y) (hr : RelocL L s (S y) := by exact RelocL.mk rfl rfl rfl rfl (by rfl) (by rfl) (by ((repeat' first | exact objsLe_nil | refine objsLe_cons ?_ ?_) <;> first | exact trivial | (refine ObjLe.var0 rfl rfl rfl ?_; (repeat' first | exact All2.nil | refine All2.cons ?_ ?_ | exact AvLe.refl _ rfl | refine AvLe.tups ?_ | refine AvLe.aggs ?_ | refine AvLe.closs ?_ ?_) <;> first | exact AvLe.refl _ rfl | exact AvLe.undef _ | exact AvLe.sl _ _ _ _ rfl | exact AvLe.hptr _ _ _ _ rfl | exact AvLe.mp _ _ rfl | exact AvLe.nil _ | exact AvLe.znil _ | exact AvLe.ghost _ rfl | exact AvLe.zghost _ rfl | exact AvLe.sl' rfl (by simp [F]; done) (by first | (simp [F]; done) | (simp [F]; omega) | omega) | exact AvLe.frz3 rfl (by simp) (by first | exact Nat.zero_le _ | decide) (by first | (simp [F]; done) | (simp [F]; omega)) (by first | (simp [F]; done) | (simp [F]; omega)) (by first | exact rwTk0 | exact rwTkB | (simp [F]; done)) | exact AvLe.list' (by simp [F]; done) (by simp [F]; done) | exact AvLe.eq (by simp [F]; done) rfl) | exact ObjLe.map' rfl rfl | exact ObjLe.map2 rfl rfl (by first | (simp [F]; done) | (simp [F]; rfl)) | exact ObjLe.slot' rfl | exact ⟨_, rfl, rfl⟩ | exact ObjLe.raw' rfl rfl | exact ObjLe.siter2 rfl rfl (by first | rfl | (simp [F]; done)) (by first | rfl | (simp [F]; done)) | exact ObjLe.ghost' rfl (by decide) | exact ObjLe.arr' rfl rfl (by first | (simp [F]; done) | (simp [F]; omega)) (by first | exact fun _ _ => rfl | exact rwTk | exact rwTkC | (intro _ _; simp [F]; done)) | (simp [F]; done))) (by ((repeat' first | exact chLe_nil | refine chLe_cons ?_ ?_ | exact All2.nil | refine All2.cons ?_ ?_ | exact AvLe.refl _ rfl | refine AvLe.tups ?_ | refine AvLe.aggs ?_ | refine AvLe.closs ?_ ?_) <;> first | exact AvLe.refl _ rfl | exact AvLe.undef _ | exact AvLe.sl _ _ _ _ rfl | exact AvLe.hptr _ _ _ _ rfl | exact AvLe.mp _ _ rfl | exact AvLe.nil _ | exact AvLe.znil _ | exact AvLe.ghost _ rfl | exact AvLe.zghost _ rfl | exact AvLe.sl' rfl (by simp [F]; done) (by first | (simp [F]; done) | (simp [F]; omega) | omega) | exact AvLe.frz3 rfl (by simp) (by first | exact Nat.zero_le _ | decide) (by first | (simp [F]; done) | (simp [F]; omega)) (by first | (simp [F]; done) | (simp [F]; omega)) (by first | exact rwTk0 | exact rwTkB | (simp [F]; done)) | exact AvLe.list' (by simp [F]; done) (by simp [F]; done) | exact AvLe.eq (by simp [F]; done) rfl))) : ∃ y, I y ∧ Reloc s (S y) := ⟨y, h, hr⟩
theorem jn {α : Type} (S : α → St) (I : α → Prop) (hb : ∀ x, I x → Wp P X b Q (S x)) (ha : Wp P X a (joinQ S I Q) s) : Wp P X (.seq a b) Q s := Wp.join S I hb ha

/-! ### a function's end -/
theorem en0 {rs : List ResultVar} {v r : AV} (hv : resA T s rs = some v := by rfl) (hle : AvLe s.hp [] 0 v r := by ((repeat' first | exact All2.nil | refine All2.cons ?_ ?_ | refine AvLe.tups ?_ | refine AvLe.aggs ?_) <;> first | exact AvLe.refl _ rfl | exact AvLe.nil _ | exact AvLe.znil _ | exact AvLe.frz' rfl rfl rfl (by first | (simp [F]; done) | (simp [F]; omega)) (by first | (simp [F]; done) | (simp [F]; omega)) (by first | exact rwTk0 | exact rwTkB | (simp [F]; done)) | exact AvLe.list' (by simp [F]; done) (by simp [F]; done) | exact AvLe.eq (by simp [F]; done) rfl)) : endQ T rs 0 (fun r' H'' => r' = r ∧ H'' = []) .ret s := endQ_ret0 hv hle
theorem enH {rs : List ResultVar} {k : Nat} {v r : AV} {H' : List AObj} (L : List (Option Nat)) (hv : resA T s rs = some v := by rfl) (hlen : H'.length = L.length := by rfl) (hlow : lowB k L = true := by rfl) (hinj : injB L H' = true := by rfl)
    (hobj : ObjsLe s.hp L k 0 H' := by ((repeat' first | exact objsLe_nil | refine objsLe_cons ?_ ?_) <;> first | exact trivial | (refine ObjLe.var0 rfl rfl rfl ?_; (repeat' first | exact All2.nil | refine All2.cons ?_ ?_ | exact AvLe.refl _ rfl | refine AvLe.tups ?_ | refine AvLe.aggs ?_ | refine AvLe.closs ?_ ?_) <;> first | exact AvLe.refl _ rfl | exact AvLe.undef _ | exact AvLe.sl _ _ _ _ rfl | exact AvLe.hptr _ _ _ _ rfl | exact AvLe.mp _ _ rfl | exact AvLe.nil _ | exact AvLe.znil _ | exact AvLe.ghost _ rfl | exact AvLe.zghost _ rfl | exact AvLe.sl' rfl (by simp [F]; done) (by first | (simp [F]; done) | (simp [F]; omega) | omega) | exact AvLe.frz3 rfl (by simp) (by first | exact Nat.zero_le _ | decide) (by first | (simp [F]; done) | (simp [F]; omega)) (by first | (simp [F]; done) | (simp [F]; omega)) (by first | exact rwTk0 | exact rwTkB | (simp [F]; done)) | exact AvLe.list' (by simp [F]; done) (by simp [F]; done) | exact AvLe.eq (by simp [F]; done) rfl) | exact ObjLe.map' rfl rfl | exact ObjLe.map2 rfl rfl (by first | (simp [F]; done) | (simp [F]; rfl)) | exact ObjLe.slot' rfl | exact ⟨_, rfl, rfl⟩ | exact ObjLe.raw' rfl rfl | exact ObjLe.siter2 rfl rfl (by first | rfl | (simp [F]; done)) (by first | rfl | (simp [F]; done)) | exact ObjLe.ghost' rfl (by decide) | exact ObjLe.arr' rfl rfl (by first | (simp [F]; done) | (simp [F]; omega)) (by first | exact fun _ _ => rfl | exact rwTk | exact rwTkC | (intro _ _; simp [F]; done)) | (simp [F]; done))) (hle : AvLe s.hp L k v r := by ((repeat' first | exact All2.nil | refine All2.cons ?_ ?_ | exact AvLe.refl _ rfl | refine AvLe.tups ?_ | refine AvLe.aggs ?_ | refine AvLe.closs ?_ ?_) <;> first | exact AvLe.refl _ rfl | exact AvLe.undef _ | exact AvLe.sl _ _ _ _ rfl | exact AvLe.hptr _ _ _ _ rfl | exact AvLe.mp _ _ rfl | exact AvLe.nil _ | exact AvLe.znil _ | exact AvLe.ghost _ rfl | exact AvLe.zghost _ rfl | exact AvLe.sl' rfl (by simp [F]; done) (by first | (simp [F]; done) | (simp [F]; omega) | omega) | exact AvLe.frz3 rfl (by simp) (by first | exact Nat.zero_le _ | decide) (by first | (simp [F]; done) | (simp [F]; omega)) (by first | (simp [F]; done) | (simp [F]; omega)) (by first | exact rwTk0 | exact rwTkB | (simp [F]; done)) | exact AvLe.list' (by simp [F]; done) (by simp [F]; done) | exact AvLe.eq (by simp [F]; done) rfl)) : endQ T rs k (fun r' H'' => r' = r ∧ H'' = H') .ret s := endQ_retH L hv (relocH_mk hlen hlow hinj hobj) hle rfl rfl

theorem n2r {rs : List ResultVar} {k : Nat} {K : AV → List AObj → Prop} (h : endQ T rs k K .ret s) : endQ T rs k K .normal s := ⟨.inl rfl, h.2⟩

/-! ### calls that hand objects on -/
theorem vh {s' : St} {cl : Call} {f : Operand} {g : FuncId} {ags : List AV} {p1 : List AV} {p : List AV × Prop × Bool} {H H' : List AObj} {r : AV} (I : List Nat)
    (hc : ConH P s.gl g p1 H r H') (hk : regv P T own ops os K s') (hg : guardA ops s o = some true := by rfl) (ho : o.op = .call cl := by rfl) (hcal : cl.callee = .value f := by rfl) (hcl : calleeA s f cl.args.toList = some (g, ags) := by first | rfl | (simp [F]; rfl)) (hI : nodupB I = true := by rfl)
    (hcd : closedB I s.hp = true := by first | rfl | (simp [F]; done)) (hp : argsH I s.hp ags = some p := by (simp [F]; rfl))
    (hH : (passed I s.hp = H ∧ p.1 = p1) ∨ (RelocH (idL (passed I s.hp).length) (passed I s.hp).length (passed I s.hp) H ∧ All2 (AvLe (passed I s.hp) (idL (passed I s.hp).length) (passed I s.hp).length) p.1 p1) := by (first | exact .inl ⟨rfl, rfl⟩ | (refine .inl ⟨?_, ?_⟩ <;> (simp [F]; done)) | (refine .inr ⟨relocH_mk rfl (by rfl) (by rfl) (by ((repeat' first | exact objsLe_nil | refine objsLe_cons ?_ ?_) <;> first | exact trivial | (refine ObjLe.var0 rfl rfl rfl ?_; (repeat' first | exact All2.nil | refine All2.cons ?_ ?_ | exact AvLe.refl _ rfl | refine AvLe.tups ?_ | refine AvLe.aggs ?_ | refine AvLe.closs ?_ ?_) <;> first | exact AvLe.refl _ rfl | exact AvLe.undef _ | exact AvLe.sl _ _ _ _ rfl | exact AvLe.hptr _ _ _ _ rfl | exact AvLe.mp _ _ rfl | exact AvLe.nil _ | exact AvLe.znil _ | exact AvLe.ghost _ rfl | exact AvLe.zghost _ rfl | exact AvLe.sl' rfl (by simp [F]; done) (by first | (simp [F]; done) | (simp [F]; omega) | omega) | exact AvLe.frz3 rfl (by simp) (by first | exact Nat.zero_le _ | decide) (by first | (simp [F]; done) | (simp [F]; omega)) (by first | (simp [F]; done) | (simp [F]; omega)) (by first | exact rwTk0 | exact rwTkB | (simp [F]; done)) | exact AvLe.list' (by simp [F]; done) (by simp [F]; done) | exact AvLe.eq (by simp [F]; done) rfl) | exact ObjLe.map' rfl rfl | exact ObjLe.map2 rfl rfl (by first | (simp [F]; done) | (simp [F]; rfl)) | exact ObjLe.slot' rfl | exact ⟨_, rfl, rfl⟩ | exact ObjLe.raw' rfl rfl | exact ObjLe.siter2 rfl rfl (by first | rfl | (simp [F]; done)) (by first | rfl | (simp [F]; done)) | exact ObjLe.ghost' rfl (by decide) | exact ObjLe.arr' rfl rfl (by first | (simp [F]; done) | (simp [F]; omega)) (by first | exact fun _ _ => rfl | exact rwTk | exact rwTkC | (intro _ _; simp [F]; done)) | (simp [F]; done))), ?_⟩; dsimp only; (repeat' first | exact All2.nil | refine All2.cons ?_ ?_ | exact AvLe.refl _ rfl | refine AvLe.tups ?_ | refine AvLe.aggs ?_ | refine AvLe.closs ?_ ?_) <;> first | exact AvLe.refl _ rfl | exact AvLe.undef _ | exact AvLe.sl _ _ _ _ rfl | exact AvLe.hptr _ _ _ _ rfl | exact AvLe.mp _ _ rfl | exact AvLe.nil _ | exact AvLe.znil _ | exact AvLe.ghost _ rfl | exact AvLe.zghost _ rfl | exact AvLe.sl' rfl (by simp [F]; done) (by first | (simp [F]; done) | (simp [F]; omega) | omega) | exact AvLe.frz3 rfl (by simp) (by first | exact Nat.zero_le _ | decide) (by first | (simp [F]; done) | (simp [F]; omega)) (by first | (simp [F]; done) | (simp [F]; omega)) (by first | exact rwTk0 | exact rwTkB | (simp [F]; done)) | exact AvLe.list' (by simp [F]; done) (by simp [F]; done) | exact AvLe.eq (by simp [F]; done) rfl)))
    (hpc : p.2.1 := by first | (simp [F]; done) | (simp [F]; omega) | (have hq := F; simp at hq; simp [F, hq]; done) | (have hq := F; simp at hq; simp [F, hq]; omega) | (have hq := F; simp at hq; omega)) (hl : p.2.2 = true → isLocT r = true ∧ ∀ o ∈ H', LocObj o := by (simp; done))
    (hs : ({ s with hp := putBack I s.hp H', cond := True } : St).setd o.dst (mapT (bid I s.hp.length) r) = some s' := by (simp [F]; rfl)) : regv P T own ops (o :: os) K s := regv_callH I hc ho hcal hg hcl hI hcd hp hH hpc hl hs hk

/-! ### regions whose order is drawn -/
theorem free_of {U : List Nat} {k : Nat} (hU : (List.range ops.size).all (fun k => !freeB ops i k || U.contains k) = true) (h : freeB ops i k = true) : k ∈ U := by
  have hk : k < ops.size := by
    unfold freeB at h
    rw [Bool.and_eq_true] at h
    exact Nat.le_of_ble_eq_true h.1
  have := List.all_eq_true.1 hU k (List.mem_range.2 hk)
  rw [h, Bool.not_true, Bool.false_or] at this
  exact List.contains_iff_mem.1 this
theorem dw (own : Nat → Bool) (R : List Nat) (h : regI P T own ops [] (fun _ => R) (Wp P X b Q) (List.range ops.size) s) (hT : TTOk P T := by exact tt_ok) (hM : P.follows .mixedOrders = true := by exact mixed) (hB : drawnB own ops = true := by decide +kernel) (hc : s.cond := by trivial) : Wp P X (.seq (.region id ops true) b) Q s := Wp.drawn hT hM (fun _ => R) hB hc h
theorem dwp (own : Nat → Bool) (R : Nat → List Nat) (h : regI P T own ops [] R (Wp P X b Q) (List.range ops.size) s) (hT : TTOk P T := by exact tt_ok) (hM : P.follows .mixedOrders = true := by exact mixed) (hB : drawnB own ops = true := by decide +kernel) (hc : s.cond := by trivial) : Wp P X (.seq (.region id ops true) b) Q s := Wp.drawn hT hM R hB hc h
theorem dw1 (own : Nat → Bool) (R : List Nat) (h : regI P T own ops [] (fun _ => R) (Q .normal) (List.range ops.size) s) (hT : TTOk P T := by exact tt_ok) (hM : P.follows .mixedOrders = true := by exact mixed) (hB : drawnB own ops = true := by decide +kernel) (hc : s.cond := by trivial) (hQ : QE Q := by first | exact qe_seq | exact qe_loop | exact qe_join | exact qe_end | exact qe_block qe_end | exact qe_block qe_seq | exact qe_block qe_loop | exact qe_block qe_join | exact qe_block (qe_block qe_seq) | exact qe_block (qe_block qe_loop) | exact qe_block (qe_block qe_join) | exact qe_block (qe_block (qe_block qe_seq)) | exact qe_block (qe_block (qe_block qe_loop)) | exact qe_block (qe_block (qe_block qe_join))) : Wp P X (.region id ops true) Q s := Wp.drawnQ [] hT hM (fun _ => R) hB hc hQ h
theorem dwp1 (own : Nat → Bool) (R : Nat → List Nat) (h : regI P T own ops [] R (Q .normal) (List.range ops.size) s) (hT : TTOk P T := by exact tt_ok) (hM : P.follows .mixedOrders = true := by exact mixed) (hB : drawnB own ops = true := by decide +kernel) (hc : s.cond := by trivial) (hQ : QE Q := by first | exact qe_seq | exact qe_loop | exact qe_join | exact qe_end | exact qe_block qe_end | exact qe_block qe_seq | exact qe_block qe_loop | exact qe_block qe_join | exact qe_block (qe_block qe_seq) | exact qe_block (qe_block qe_loop) | exact qe_block (qe_block qe_join) | exact qe_block (qe_block (qe_block qe_seq)) | exact qe_block (qe_block (qe_block qe_loop)) | exact qe_block (qe_block (qe_block qe_join))) : Wp P X (.region id ops true) Q s := Wp.drawnQ [] hT hM R hB hc hQ h
theorem dz (B : List Nat) (own : Nat → Bool) (R : List Nat) (h : regI P T own ops B (fun _ => R) (Wp P X b Q) (List.range ops.size) s) (hT : TTOk P T := by exact tt_ok) (hM : P.follows .mixedOrders = true := by exact mixed) (hB : drawnB own ops = true := by decide +kernel) (hc : s.cond := by trivial) : Wp P X (.seq (.region id ops true) b) Q s := Wp.drawnS B hT hM (fun _ => R) hB hc h
theorem dz1 (B : List Nat) (own : Nat → Bool) (R : List Nat) (h : regI P T own ops B (fun _ => R) (Q .normal) (List.range ops.size) s) (hT : TTOk P T := by exact tt_ok) (hM : P.follows .mixedOrders = true := by exact mixed) (hB : drawnB own ops = true := by decide +kernel) (hc : s.cond := by trivial) (hQ : QE Q := by first | exact qe_seq | exact qe_loop | exact qe_join | exact qe_end | exact qe_block qe_end | exact qe_block qe_seq | exact qe_block qe_loop | exact qe_block qe_join | exact qe_block (qe_block qe_seq) | exact qe_block (qe_block qe_loop) | exact qe_block (qe_block qe_join) | exact qe_block (qe_block (qe_block qe_seq)) | exact qe_block (qe_block (qe_block qe_loop)) | exact qe_block (qe_block (qe_block qe_join))) : Wp P X (.region id ops true) Q s := Wp.drawnQ B hT hM (fun _ => R) hB hc hQ h
theorem du (n : Nat) {r : St × Prop} (hk : regI P T own ops B R K (is.drop n) r.1) (h : runI T own ops R (is.take n) s = some r := by (simp [List.range, List.range.loop, F]; rfl)) (hc : r.2 := by first | (simp [F]; done) | (simp [F]; omega) | (have hq := F; simp at hq; simp [F, hq]; done) | (have hq := F; simp at hq; simp [F, hq]; omega) | (have hq := F; simp at hq; omega)) : regI P T own ops B R K is s := regI_upto n h hc hk
theorem ds {s1 : St} (hk2 : regI P T own ops B R K is s1) (ho : ops[i]? = some o := by rfl) (hk : valKind own o = true := by rfl) (hg : guardA ops s o = some false := by first | (simp [F]; done) | (have hq := F; simp at hq; simp [F, hq]; done)) (hv : s.setd o.dst (.tup []) = some s1 := by (simp [F]; rfl)) : regI P T own ops B R K (i :: is) s := regI_skip ho hk hg hv hk2
theorem db {r : St} (hk2 : regI P T own ops B R K is { r with cond := True }) (hT : TTOk P T := by exact tt_ok) (ho : ops[i]? = some o := by rfl) (hk : valKind own o = false := by rfl) (he : effKind own o = false := by rfl) (hgd : o.guard = none := by rfl) (hf : opf T own o s = some r := by (simp [F]; rfl)) (hc : r.cond := by first | (simp [F]; done) | (simp [F]; omega) | (have hq := F; simp at hq; simp [F, hq]; done) | (have hq := F; simp at hq; simp [F, hq]; omega) | (have hq := F; simp at hq; omega)) (hsl : slotKind own o = false := by rfl) : regI P T own ops B R K (i :: is) s := regI_bar hT ho hk he hgd hf hc hk2 hsl
theorem de {r : St} (hk : regI P T own ops B R K is { r with cond := True }) (ho : ops[i]? = some o := by rfl) (hv : valKind own o = false := by rfl) (he : effKind own o = true := by rfl) (hp : isPure o = true := by rfl) (hg : guardA ops s o = some true := by rfl) (hf : opf T own o s = some r := by (simp [F]; rfl)) (hc : r.cond := by first | (simp [F]; done) | (simp [F]; omega) | (have hq := F; simp at hq; simp [F, hq]; done) | (have hq := F; simp at hq; simp [F, hq]; omega) | (have hq := F; simp at hq; omega)) (hsc : s.cond = True := by rfl)
    (hR : ∀ k, freeB ops i k = true → ∀ id ∈ R k, r.hp[id]? = s.hp[id]? := by (intro _ _; simp [F]; done)) (hS : slotsB B s.hp = true := by rfl) (hst : ∀ t a x, o.op = .store t a x → own 3000 = false := by (intro _ _ _ h; cases h)) : regI P T own ops B R K (i :: is) s := regI_eff ho hv he hp hg hf hc hsc hR hk hS hst
theorem dl {t : TypeId} {d : Nat} {z : List AV} {s1 : St} (k : Nat) (hk : regI P T own ops B R K is s1) (ho : ops[i]? = some o := by rfl) (hop : o.op = .alloc t := by rfl) (hd : o.dst = some d := by rfl) (hown : own d = true := by rfl) (hg : o.guard = none := by rfl) (hkB : k ∈ B := by decide) (hkR : ∀ i, k ∉ R i := by (intro _; decide))
    (hb : s.base ≤ k := by first | exact Nat.zero_le _ | decide) (hs : s.hp[k]? = some .slot := by rfl) (hn : Nat.blt d s.n = true := by rfl) (hz : (T t).map TS.zero = some z := by (simp [F]; rfl)) (he : ({ s with ch := (d, .hptr k 0 0) :: s.ch, hp := s.hp.set k (.var z) } : St) = s1 := by (simp [F]; rfl)) : regI P T own ops B R K (i :: is) s := regI_slot2 k ho hop hd hown hg hkB hkR hb hs hn hz he hk
theorem dc {s1 : St} {cl : Call} {g : FuncId} {p1 : List AV} {p : List AV × Prop × Bool} {r : AV} (hcon : Con P s.gl g p1 r []) (hk : regI P T own ops B R K is s1) (ho : ops[i]? = some o := by rfl) (hoc : o.op = .call cl := by rfl) (hcal : cl.callee = .value (.func g) := by rfl)
    (hg : guardA ops s o = some true := by rfl) (hp : toArgs s.hp (cl.args.toList.map s.ev) = some p := by (simp [F]; rfl)) (he : p.1 = p1 ∨ All2 (AvLe [] [] 0) p.1 p1 := by (first | exact .inl rfl | (refine .inl ?_; simp [F]; done) | (refine .inr ?_; dsimp only; (repeat' first | exact All2.nil | refine All2.cons ?_ ?_ | exact AvLe.refl _ rfl | refine AvLe.aggs ?_) <;> first | exact AvLe.refl _ rfl | exact AvLe.nil _ | exact AvLe.znil _ | exact AvLe.list' (by first | (simp [F]; done) | (simp [F]; omega) | (have hq := F; simp at hq; simp [F, hq]; omega)) (by simp [F]; done) | exact AvLe.eq (by simp [F]; done) rfl))) (hpc : p.2.1 := by first | (simp [F]; done) | (simp [F]; omega) | (have hq := F; simp at hq; simp [F, hq]; done) | (have hq := F; simp at hq; simp [F, hq]; omega) | (have hq := F; simp at hq; omega)) (hsh : ∀ n, shift n r = r := by (intro _; rfl)) (hl : p.2.2 = true → isScalar r = true := by (simp; done)) (hw : withinB (R i) s o = true := by first | rfl | (simp [F]; done))
    (hs : s.setd o.dst r = some s1 := by (simp [F]; rfl)) (hown : own (o.dst.getD 0) = false := by rfl) : regI P T own ops B R K (i :: is) s := regI_call2 hcon ho hoc hcal hg hp he hpc hsh hl hw hs hk hown
theorem dx {s1 : St} {cl : Call} {g : FuncId} {p1 : List AV} {p : List AV × Prop × Bool} {r : AV} {H' : List AObj} (hcon : Con P s.gl g p1 r H') (hk : regI P T own ops B R K is s1) (ho : ops[i]? = some o := by rfl) (hoc : o.op = .call cl := by rfl) (hcal : cl.callee = .value (.func g) := by rfl)
    (hg : guardA ops s o = some true := by rfl) (hp : toArgs s.hp (cl.args.toList.map s.ev) = some p := by (simp [F]; rfl)) (he : p.1 = p1 ∨ All2 (AvLe [] [] 0) p.1 p1 := by (first | exact .inl rfl | (refine .inl ?_; simp [F]; done) | (refine .inr ?_; dsimp only; (repeat' first | exact All2.nil | refine All2.cons ?_ ?_ | exact AvLe.refl _ rfl | refine AvLe.aggs ?_) <;> first | exact AvLe.refl _ rfl | exact AvLe.nil _ | exact AvLe.znil _ | exact AvLe.list' (by first | (simp [F]; done) | (simp [F]; omega) | (have hq := F; simp at hq; simp [F, hq]; omega)) (by simp [F]; done) | exact AvLe.eq (by simp [F]; done) rfl))) (hpc : p.2.1 := by first | (simp [F]; done) | (simp [F]; omega) | (have hq := F; simp at hq; simp [F, hq]; done) | (have hq := F; simp at hq; simp [F, hq]; omega) | (have hq := F; simp at hq; omega)) (hl : p.2.2 = true → H' = [] ∧ isScalar r = true := by (simp; done)) (hR : ∀ k, ∀ id ∈ R k, id < s.hp.length := by (intro _; simp; done))
    (hs : ({ s with hp := s.hp ++ H'.map (objShift s.hp.length) } : St).setd o.dst (shift s.hp.length r) = some s1 := by (simp [F]; rfl)) (hown : (own (o.dst.getD 0) && !own (o.dst.getD 0 + 1000)) = true := by rfl)
    (hS : slotsB B s.hp = true := by rfl) (hBa : ∀ v ∈ cl.args.toList.map s.ev, ∀ id ∈ refsD v, id ∉ B := by simp) : regI P T own ops B R K (i :: is) s := regI_ecall2 hcon ho hoc hcal hg hp he hpc hl hR hs hk hown hS hBa
theorem dh {s' : St} {cl : Call} {f : Operand} {g : FuncId} {ags : List AV} {p1 : List AV} {p : List AV × Prop × Bool} {H H' : List AObj} {r : AV} (I : List Nat)
    (hc : ConH P s.gl g p1 H r H') (hk : regI P T own ops B R K is s') (ho : ops[i]? = some o := by rfl) (hv : valKind own o = false := by rfl) (he : effKind own o = false := by rfl) (hsl : slotKind own o = false := by rfl) (hgd : o.guard = none := by rfl) (hoc : o.op = .call cl := by rfl) (hcal : cl.callee = .value f := by rfl) (hcl : calleeA s f cl.args.toList = some (g, ags) := by first | rfl | (simp [F]; rfl)) (hI : nodupB I = true := by rfl)
    (hcd : closedB I s.hp = true := by first | rfl | (simp [F]; done)) (hp : argsH I s.hp ags = some p := by (simp [F]; rfl))
    (hH : (passed I s.hp = H ∧ p.1 = p1) ∨ (RelocH (idL (passed I s.hp).length) (passed I s.hp).length (passed I s.hp) H ∧ All2 (AvLe (passed I s.hp) (idL (passed I s.hp).length) (passed I s.hp).length) p.1 p1) := by (first | exact .inl ⟨rfl, rfl⟩ | (refine .inl ⟨?_, ?_⟩ <;> (simp [F]; done)) | (refine .inr ⟨relocH_mk rfl (by rfl) (by rfl) (by ((repeat' first | exact objsLe_nil | refine objsLe_cons ?_ ?_) <;> first | exact trivial | (refine ObjLe.var0 rfl rfl rfl ?_; (repeat' first | exact All2.nil | refine All2.cons ?_ ?_ | exact AvLe.refl _ rfl | refine AvLe.tups ?_ | refine AvLe.aggs ?_ | refine AvLe.closs ?_ ?_) <;> first | exact AvLe.refl _ rfl | exact AvLe.undef _ | exact AvLe.sl _ _ _ _ rfl | exact AvLe.hptr _ _ _ _ rfl | exact AvLe.mp _ _ rfl | exact AvLe.nil _ | exact AvLe.znil _ | exact AvLe.ghost _ rfl | exact AvLe.zghost _ rfl | exact AvLe.sl' rfl (by simp [F]; done) (by first | (simp [F]; done) | (simp [F]; omega) | omega) | exact AvLe.frz3 rfl (by simp) (by first | exact Nat.zero_le _ | decide) (by first | (simp [F]; done) | (simp [F]; omega)) (by first | (simp [F]; done) | (simp [F]; omega)) (by first | exact rwTk0 | exact rwTkB | (simp [F]; done)) | exact AvLe.list' (by simp [F]; done) (by simp [F]; done) | exact AvLe.eq (by simp [F]; done) rfl) | exact ObjLe.map' rfl rfl | exact ObjLe.map2 rfl rfl (by first | (simp [F]; done) | (simp [F]; rfl)) | exact ObjLe.slot' rfl | exact ⟨_, rfl, rfl⟩ | exact ObjLe.raw' rfl rfl | exact ObjLe.siter2 rfl rfl (by first | rfl | (simp [F]; done)) (by first | rfl | (simp [F]; done)) | exact ObjLe.ghost' rfl (by decide) | exact ObjLe.arr' rfl rfl (by first | (simp [F]; done) | (simp [F]; omega)) (by first | exact fun _ _ => rfl | exact rwTk | exact rwTkC | (intro _ _; simp [F]; done)) | (simp [F]; done))), ?_⟩; dsimp only; (repeat' first | exact All2.nil | refine All2.cons ?_ ?_ | exact AvLe.refl _ rfl | refine AvLe.tups ?_ | refine AvLe.aggs ?_ | refine AvLe.closs ?_ ?_) <;> first | exact AvLe.refl _ rfl | exact AvLe.undef _ | exact AvLe.sl _ _ _ _ rfl | exact AvLe.hptr _ _ _ _ rfl | exact AvLe.mp _ _ rfl | exact AvLe.nil _ | exact AvLe.znil _ | exact AvLe.ghost _ rfl | exact AvLe.zghost _ rfl | exact AvLe.sl' rfl (by simp [F]; done) (by first | (simp [F]; done) | (simp [F]; omega) | omega) | exact AvLe.frz3 rfl (by simp) (by first | exact Nat.zero_le _ | decide) (by first | (simp [F]; done) | (simp [F]; omega)) (by first | (simp [F]; done) | (simp [F]; omega)) (by first | exact rwTk0 | exact rwTkB | (simp [F]; done)) | exact AvLe.list' (by simp [F]; done) (by simp [F]; done) | exact AvLe.eq (by simp [F]; done) rfl)))
    (hpc : p.2.1 := by first | (simp [F]; done) | (simp [F]; omega) | (have hq := F; simp at hq; simp [F, hq]; done) | (have hq := F; simp at hq; simp [F, hq]; omega) | (have hq := F; simp at hq; omega)) (hl : p.2.2 = true → isLocT r = true ∧ ∀ o ∈ H', LocObj o := by (simp; done))
    (hs : ({ s with hp := putBack I s.hp H', cond := True } : St).setd o.dst (mapT (bid I s.hp.length) r) = some s' := by (simp [F]; rfl)) (hcn : s'.cond := by trivial) : regI P T own ops B R K (i :: is) s := regI_callH I hc ho hv he hsl hgd hoc hcal hcl hI hcd hp hH hpc hl hs hcn hk
theorem dr {s1 : St} {cl : Call} {f : Operand} {g : FuncId} {ags : List AV} {p1 : List AV} {p : List AV × Prop × Bool} {H : List AObj} {r : AV} (I : List Nat)
    (hc : ConH P s.gl g p1 H r H) (hk : regI P T own ops B R K is s1) (ho : ops[i]? = some o := by rfl) (hoc : o.op = .call cl := by rfl) (hcal : cl.callee = .value f := by rfl) (hg : guardA ops s o = some true := by rfl) (hcl : calleeA s f cl.args.toList = some (g, ags) := by first | rfl | (simp [F]; rfl)) (hI : nodupB I = true := by rfl)
    (hcd : closedB I s.hp = true := by first | rfl | (simp [F]; done)) (hIR : ∀ id ∈ I, id ∈ R i := by decide) (hp : argsH I s.hp ags = some p := by (simp [F]; rfl)) (hw : ∀ v ∈ ags, ∀ id ∈ refsD v, id ∈ R i := by (simp [F]; done)) (hH : passed I s.hp = H ∧ p.1 = p1 := by first | exact ⟨rfl, rfl⟩ | exact ⟨by (simp [F]; done), by (simp [F]; done)⟩)
    (hrt : I.all (fun i => rtB (s.hp.getD i .dead)) = true := by rfl) (hpc : p.2.1 := by first | (simp [F]; done) | (simp [F]; omega) | (have hq := F; simp at hq; simp [F, hq]; done) | (have hq := F; simp at hq; simp [F, hq]; omega) | (have hq := F; simp at hq; omega)) (hsc : isScalar r = true := by rfl) (hl : p.2.2 = true → ∀ o ∈ H, LocObj o := by (simp; done)) (hs : s.setd o.dst r = some s1 := by (simp [F]; rfl)) (hown : own (o.dst.getD 0) = false := by rfl) : regI P T own ops B R K (i :: is) s := regI_callR I hc ho hoc hcal hg hcl hI hcd hIR hp hw hH hrt hpc hsc hl hs hk hown
theorem dt {r : St} {t : TypeId} {a x : Operand} (hk : regI P T own ops B R K is { r with cond := True }) (ho : ops[i]? = some o := by rfl) (hop : o.op = .store t a x := by rfl) (hd : o.dst = none := by rfl) (hown : own 3000 = true := by rfl) (hg : guardA ops s o = some true := by rfl) (hf : opf T own o s = some r := by (simp [F]; rfl)) (hc : r.cond := by first | (simp [F]; done) | (simp [F]; omega) | (have hq := F; simp at hq; simp [F, hq]; done) | (have hq := F; simp at hq; simp [F, hq]; omega) | (have hq := F; simp at hq; omega)) (hsc : s.cond = True := by rfl)
    (hR : ∀ k, freeB ops i k = true → ∀ id ∈ R k, r.hp[id]? = s.hp[id]? := by (intro _ _; simp [F]; done)) (hBa : ∀ id ∈ refs (s.ev a), id ∉ B := by (simp [F]; done)) : regI P T own ops B R K (i :: is) s := regI_store ho hop hd hown hg hf hc hsc hR hBa hk
theorem dt2 (U : List Nat) {r : St} {t : TypeId} {a x : Operand} (hk : regI P T own ops B R K is { r with cond := True }) (ho : ops[i]? = some o := by rfl) (hop : o.op = .store t a x := by rfl) (hd : o.dst = none := by rfl) (hown : own 3000 = true := by rfl) (hg : guardA ops s o = some true := by rfl) (hf : opf T own o s = some r := by (simp [F]; rfl)) (hc : r.cond := by first | (simp [F]; done) | (simp [F]; omega) | (have hq := F; simp at hq; simp [F, hq]; done) | (have hq := F; simp at hq; simp [F, hq]; omega) | (have hq := F; simp at hq; omega)) (hsc : s.cond = True := by rfl)
    (hU : (List.range ops.size).all (fun k => !freeB ops i k || U.contains k) = true := by decide +kernel) (hR : ∀ k ∈ U, ∀ id ∈ R k, r.hp[id]? = s.hp[id]? := by (simp [F]; done)) (hBa : ∀ id ∈ refs (s.ev a), id ∉ B := by (simp [F]; done)) : regI P T own ops B R K (i :: is) s := regI_store ho hop hd hown hg hf hc hsc (fun k hk => hR k (free_of hU hk)) hBa hk
theorem dn (h : K s) : regI P T own ops B R K [] s := h
end
end Go.Av

namespace Go.Av
variable [Drawn]
section
variable {E0 : Env} {H0 : List AObj} {w0 : World} {E : Env} {s : St} {a : Act} {w : World} {P : Program} {T : TT} {own : Nat → Bool} {X : Ctx}

theorem Models.owned (h : Models E0 H0 w0 E s a w) {b : Nat} (ho : Owned E s.hp b) : Owned E0 H0 b ∨ w0.heap.size ≤ b := by
  obtain ⟨id, hl, hb⟩ := ho
  by_cases hi : id < s.base
  · obtain ⟨g1, g2, _⟩ := h.old id hi
    exact .inl ⟨id, g1 hl, by rw [← g2]; exact hb⟩
  · exact (h.new id b (by omega) hl hb).symm

/-- A walk begun in the middle of another. -/
theorem Models.comp (h : Models E0 H0 w0 E s a w) {E' : Env} {s' : St} {a' : Act} {w' : World} (k : Models E s.hp w E' s' a' w') : Models E0 H0 w0 E' { s' with base := s.base, gl := s.gl } a' w' := by
  have hb := h.base
  have kb := k.base
  refine ⟨k.size, k.tmps, k.heap, ⟨hb.1, Nat.le_trans hb.2 kb.2⟩, fun id hi => ?_, fun id b hi hl hρ => ?_, fun b hF => k.F b (h.F b hF), fun b hF => ?_, h.keeps.trans k.keeps fun b hlt ho => ?_, h.laid⟩
  · have hi : id < s.base := hi
    obtain ⟨a1, a2, a3, a4, a5⟩ := h.old id hi
    obtain ⟨b1, b2, b3, b4, b5⟩ := k.old id (by omega)
    exact ⟨fun hl => a1 (b1 hl), b2.trans a2, b3.trans a3, b4.trans a4, b5.trans a5⟩
  · have hi : s.base ≤ id := hi
    by_cases hlt : id < s'.base
    · obtain ⟨b1, b2, _⟩ := k.old id hlt
      exact h.new id b hi (b1 hl) (by rw [← b2]; exact hρ)
    · rcases k.new id b (by omega) hl hρ with g | g
      · exact .inl (Nat.le_trans h.keeps.size g)
      · exact (h.owned g).symm
  · rcases k.Fnew b hF with g | g | g
    · exact h.Fnew b g
    · exact .inr (.inl (Nat.le_trans h.keeps.size g))
    · exact .inr (h.owned g).symm
  · rcases h.owned ho with g | g
    · exact g
    · omega

theorem Models.restart (h : Models E0 H0 w0 E s a w) : Models E s.hp w E { s with base := s.hp.length } a w :=
  ⟨h.size, h.tmps, h.heap, ⟨rfl, Nat.le_refl _⟩, fun _ _ => ⟨fun h => h, rfl, rfl, rfl, rfl⟩, fun id b hi hl _ => by
    have hi : s.hp.length ≤ id := hi
    have := live_lt hl; simp only at this; omega, fun _ h => h, fun _ h => .inl h, Keeps.refl _ _, .of h.heap h.glob⟩

/-- Another frame over the same heap. -/
theorem Models.frame (h : Models E0 H0 w0 E s a w) {ch : List (Nat × AV)} {n : Nat} {a' : Act} (hn : a'.tmps.size = n) (ht : ∀ t, Rep E w (look ch t) (a'.tmps.getD t undef)) : Models E0 H0 w0 E { s with ch := ch, n := n } a' w :=
  ⟨hn, ht, h.heap, h.base, h.old, h.new, h.F, h.Fnew, h.keeps, h.laid⟩

/-- What was so at a walk's beginning. -/
theorem Models.le (h : Models E0 H0 w0 E s a w) (h0 : HeapOk E0 H0 w0) : E0.Le E ∧ ∀ b, E0.F b → w.heap[b]? = w0.heap[b]? := by
  have hb := h.base
  have hl := h.heap.len
  have hl0 := h0.len
  refine ⟨⟨h.F, by omega, fun i hi => (h.old i (by omega)).2.1, fun i hi => (h.old i (by omega)).2.2.1, fun i hi => (h.old i (by omega)).2.2.2.1, fun i hi => (h.old i (by omega)).2.2.2.2⟩, fun b hF => ?_⟩
  exact h.keeps.block b (h0.frz b hF) fun ⟨id, hl, hρ⟩ => h0.fr id b hl hρ hF

theorem bare_unf {o : Obj} (h : bare o) : unf o := by cases o <;> first | exact trivial | exact h.elim

theorem Models.newRaw (h : Models E0 H0 w0 E s a w) {o : Obj} (ho : bare o) : Models E0 H0 w0 (E.new (some w.heap.size) 0 0 0) { s with hp := s.hp ++ [.raw o] } a (w.alloc o) := by
  have hN := h.heap.len
  refine h.newObj (Same.alloc w o (bare_unf ho)) (r := some w.heap.size) (sg := 0) (kp := 0) (om := 0) (ob := .raw o) (fun b hb => by cases hb; exact ⟨Nat.le_refl _, by simp⟩) ?_
  refine ⟨ho, w.heap.size, new_ρ hN _ _ _ _, ?_, new_ω hN _ _ _ _, new_σ hN _ _ _ _⟩
  exact World.alloc_heap_new w o

theorem only_putObj {g : Nat} {o o' : Obj} (hg : w.heap[g]? = some o) (ho : bare o) (ho' : bare o') : Only g w (w.putObj g o') := by
  have hlt : g < w.heap.size := (Array.getElem?_eq_some_iff.1 hg).1
  refine ⟨rfl, rfl, rfl, by simp, fun b hne => World.putObj_heap_other hne, fun ad => ?_, rfl⟩
  unfold World.frozen?
  by_cases hab : ad.block = g
  · rw [hab, World.putObj_heap_same hlt, hg]
    cases o <;> cases o' <;> first | rfl | exact ho.elim | exact ho'.elim
  · rw [World.putObj_heap_other hab]

theorem Models.putRaw (h : Models E0 H0 w0 E s a w) {id g : Nat} {o o' : Obj} (hid : s.hp[id]? = some (.raw o)) (hg : E.ρ id = some g) (ho' : bare o') : Models E0 H0 w0 E { s with hp := s.hp.set id (.raw o') } a (w.putObj g o') := by
  obtain ⟨hb, k, g0, g1, g2, g3⟩ := h.heap.obj id _ hid
  rw [hg] at g0; cases g0
  exact h.writeObj hid (by simp) hg (only_putObj g1 hb ho') ⟨ho', g, hg, World.putObj_heap_same (Array.getElem?_eq_some_iff.1 g1).1, g2, g3⟩

theorem live_kill {H : List AObj} {id i : Nat} (h : Live (H.set id .dead) i) : i ≠ id ∧ Live H i := by
  obtain ⟨o, ho, hn⟩ := h
  rw [List.getElem?_set] at ho
  split at ho
  · rename_i e
    split at ho
    · cases ho; exact absurd rfl hn
    · cases ho
  · rename_i e; exact ⟨fun e' => e e'.symm, o, ho, hn⟩

/-- An object is given up. -/
theorem Models.kill (h : Models E0 H0 w0 E s a w) (id : Nat) : Models E0 H0 w0 E { s with hp := s.hp.set id .dead } a w := by
  refine ⟨h.size, h.tmps, ⟨by rw [List.length_set]; exact h.heap.len, fun i o ho => ?_, fun i b hl hb => h.heap.lt i b (live_kill hl).2 hb, fun i b hl hb => h.heap.fr i b (live_kill hl).2 hb,
    fun i j b hi hj => h.heap.inj i j b (live_kill hi).2 (live_kill hj).2, h.heap.frz⟩, ⟨h.base.1, by rw [List.length_set]; exact h.base.2⟩, fun i hi => ?_, fun i b hi hl hb => h.new i b hi (live_kill hl).2 hb, h.F, h.Fnew, h.keeps, h.laid⟩
  · rw [List.getElem?_set] at ho
    split at ho
    · split at ho
      · cases ho; trivial
      · cases ho
    · exact h.heap.obj i o ho
  · obtain ⟨a1, a2⟩ := h.old i hi
    exact ⟨fun hl => a1 (live_kill hl).2, a2⟩

theorem Models.rebase (h : Models E0 H0 w0 E s a w) {b : Nat} (hb : b = s.base) : Models E0 H0 w0 E { s with base := b } a w := by subst hb; exact h

/-! ### a round's temporaries -/

def chP : List Nat → List AV → List (Nat × AV) → List (Nat × AV)
  | p :: ps, v :: vs, ch => chP ps vs ((p, v) :: ch)
  | _, _, ch => ch

theorem chP_rep {n : Nat} : ∀ (ps : List Nat) (vs : List AV) (xs : List Value) (ch : List (Nat × AV)) (tm : Array Value), (ps.all fun p => Nat.blt p n) = true → vs.length = ps.length → xs.length = ps.length →
    (∀ (i : Nat) c, vs[i]? = some c → Rep E w c (xs.getD i default)) → tm.size = n → (∀ t, Rep E w (look ch t) (tm.getD t undef)) →
    ((ps.zip xs).foldl (fun tmps (t, x) => tmps.setIfInBounds t x) tm).size = n ∧ ∀ t, Rep E w (look (chP ps vs ch) t) (((ps.zip xs).foldl (fun tmps (t, x) => tmps.setIfInBounds t x) tm).getD t undef)
  | [], [], [], ch, tm, _, _, _, _, hn, ht => ⟨hn, ht⟩
  | p :: ps, v :: vs, x :: xs, ch, tm, hp, hv, hx, hr, hn, ht => by
    rw [List.all_cons, Bool.and_eq_true] at hp
    have hpn : p < n := Nat.le_of_ble_eq_true hp.1
    refine chP_rep ps vs xs ((p, v) :: ch) (tm.setIfInBounds p x) hp.2 (by simpa using hv) (by simpa using hx) (fun i c hi => ?_) (by simpa using hn) (fun t => ?_)
    · have := hr (i + 1) c (by simpa using hi)
      simpa using this
    · show Rep E w (bif Nat.beq p t then v else look ch t) _
      by_cases he : p = t
      · subst he
        have h0 := hr 0 v rfl
        have : (tm.setIfInBounds p x).getD p undef = x := by simp [Array.getD, hn, hpn]
        rw [this]
        simpa using h0
      · have : Nat.beq p t = false := by
          cases hb : Nat.beq p t with
          | false => rfl
          | true => exact absurd (Nat.eq_of_beq_eq_true hb) he
        rw [this]
        have e : (tm.setIfInBounds p x).getD t undef = tm.getD t undef := by
          rw [Array.getD_eq_getD_getElem?, Array.getD_eq_getD_getElem?, Array.getElem?_setIfInBounds_ne he]
        rw [e]; exact ht t
  | [], _ :: _, _, _, _, _, hv, _, _, _, _ => by simp at hv
  | [], [], _ :: _, _, _, _, _, hx, _, _, _ => by simp at hx
  | _ :: _, [], _, _, _, _, hv, _, _, _, _ => by simp at hv
  | _ :: _, _ :: _, [], _, _, _, _, hx, _, _, _ => by simp at hx

end
end Go.Av

namespace Go.Av
variable [Drawn]

/-- A loop's record, by its state and its pending jump. -/
structure LoopR (R : LoopState → Option Code → Loop) (tm : Array Value) (ps : Array Tmp) (assign body : Code) : Prop where
  st : ∀ s p, (R s p).state = s
  pd : ∀ s p, (R s p).pending = p
  tm : ∀ s p, (R s p).tmps = tm
  ps : ∀ s p, (R s p).params = ps
  as : ∀ s p, (R s p).assign = assign
  bd : ∀ s p, (R s p).body = body
  up : ∀ s p s' p', { R s p with state := s', pending := p' } = R s' p'

/-- What an iterator's walk knows of the loop. -/
def itX (lid l : Nat) (so : St) (tm : Array Value) : Ctx := ⟨none, [], fun E0 H0 w0 => HeapOk E0 H0 w0 ∧ E0.ρ lid = some l ∧ lid < H0.length ∧ tm.size = so.n ∧ ∀ t, Rep E0 w0 (look so.ch t) (tm.getD t undef)⟩
def rnX (l : Nat) : Ctx := ⟨some l, [], fun _ _ _ => True⟩
def afX (k : Nat) : Ctx := ⟨none, [{ target := .collected k, args := #[] }], fun E0 H0 w0 => w0.heap[k]? = some (.deferred (some [])) ∧ ¬ Owned E0 H0 k ∧ ¬ E0.F k⟩

section
variable {P : Program} {T : TT} {own : Nat → Bool}

/-- A round is left. -/
def rnQ (P : Program) (T : TT) (own : Nat → Bool) (ops : Array Oper) (lid : Nat) (R : LoopState → Option Code → Loop) (o : Oper) (post : List Oper) (K : St → Prop) (s1 : St) (e : Exit) (sb : St) : Prop :=
  sb.hp[lid]? = some (.raw (.loop (R .busy none))) ∧
  match e with
  | .normal => ∃ s2, ({ s1 with hp := sb.hp.set lid (.raw (.loop (R .ready none))), cond := True } : St).setd o.dst (.bool true) = some s2 ∧ regv P T own ops post K s2
  | .ret => ∃ s2, ({ s1 with hp := sb.hp.set lid (.raw (.loop (R .done (some .ret)))), cond := True } : St).setd o.dst (.bool false) = some s2 ∧ regv P T own ops post K s2
  | .exit id => ∃ s2, ({ s1 with hp := sb.hp.set lid (.raw (.loop (R .done (some (.exit id))))), cond := True } : St).setd o.dst (.bool false) = some s2 ∧ regv P T own ops post K s2
  | _ => False

/-- .. is begun. -/
def asQ (P : Program) (T : TT) (own : Nat → Bool) (ops : Array Oper) (lid l : Nat) (R : LoopState → Option Code → Loop) (body : Code) (o : Oper) (post : List Oper) (K : St → Prop) (s1 : St) (e : Exit) (sa : St) : Prop :=
  e = .normal ∧ sa.hp[lid]? = some (.raw (.loop (R .ready none))) ∧ Wp P (rnX l) body (rnQ P T own ops lid R o post K s1) { sa with hp := sa.hp.set lid (.raw (.loop (R .busy none))) }

/-- yield is called. -/
def yieldK (P : Program) (T : TT) (own : Nat → Bool) (ops : Array Oper) (lid l : Nat) (so : St) (R : LoopState → Option Code → Loop) (ps : Array Tmp) (assign body : Code) (o : Oper) (post : List Oper) (K : St → Prop) (s1 : St) : Prop :=
  o.guard = none ∧ ∃ c f, o.op = .call c ∧ c.callee = .value f ∧ s1.ev f = .yld l ∧ c.args.toList.length = ps.toList.length ∧ (ps.toList.all fun p => Nat.blt p so.n) = true ∧ s1.hp[lid]? = some (.raw (.loop (R .ready none))) ∧ lid < s1.base ∧
    Wp P (rnX l) assign (asQ P T own ops lid l R body o post K s1) { ch := chP ps.toList (c.args.toList.map s1.ev) so.ch, hp := s1.hp, base := s1.hp.length, n := so.n, cond := True, gl := s1.gl }

theorem regv_sound2 {X : Ctx} {E0 : Env} {H0 : List AObj} {w0 : World} (hT : TTOk P T) {ops : Array Oper} {K : St → Prop} {Q : Exit → Act → World → Prop} {rest : List Nat} (hK : ∀ s E a w, K s → DO X E0 H0 w0 a → Models E0 H0 w0 E s a w → wpOpsIn (fen X) 0 P ops Q rest a w) :
    ∀ (l l2 : List Oper) (i : Nat), ops.toList.drop i = l ++ l2 → ∀ {s : St} {E : Env} {a : Act} {w : World}, regv P T own ops l K s → DO X E0 H0 w0 a → Models E0 H0 w0 E s a w →
      wpOpsIn (fen X) 0 P ops Q (List.range' i l.length ++ rest) a w
  | [], l2, i, hl, s, E, a, w, hr, hd, h => hK s E a w hr hd h
  | o :: os, l2, i, hl, s, E, a, w, hr, hd, h => by
    have hi : i < ops.size := by
      have := congrArg List.length hl
      simp at this; omega
    have hoi : ops[i]? = some o := by
      have : (ops.toList.drop i)[0]? = some o := by rw [hl]; rfl
      simpa using this
    have hos : ops.toList.drop (i + 1) = os ++ l2 := by
      have := congrArg List.tail hl
      simpa using this
    rw [show List.range' i (o :: os).length = i :: List.range' (i + 1) os.length from rfl]
    simp only [List.cons_append, wpOpsIn, hoi]
    obtain ⟨s2, hrl, g, hg, hr⟩ := hr
    obtain ⟨E2, h⟩ := h.relocs hrl
    have hw := guardA_sound h hg
    rw [hw]
    cases g with
    | true =>
      simp only [if_true] at hr ⊢
      exact (opv_sound hT hr h fun s' E' v w' hK' hm => regv_sound2 hT hK os l2 (i + 1) hos hK' (hd.put _ _) hm)
    | false =>
      simp only [Bool.false_eq_true, if_false] at hr ⊢
      obtain ⟨s', hs', hr⟩ := hr
      refine ⟨fun _ _ => trivial, ?_⟩
      exact regv_sound2 hT hK os l2 (i + 1) hos hr (hd.put _ _) (h.setd hs' Rep.gone)

theorem LoopR.begin {R : LoopState → Option Code → Loop} {tm : Array Value} {ps : Array Tmp} {assign body : Code} (h : LoopR R tm ps assign body) : ({ R .ready none with state := .busy } : Loop) = R .busy none := by
  have h1 := h.up .ready none .busy none
  have h2 := h.pd .ready none
  rw [← h1]
  generalize R .ready none = r at h2 ⊢
  cases r
  simp only at h2
  subst h2; rfl

theorem Fin.round {l : Nat} {e : Exit} {E0 : Env} {H0 : List AObj} {w0 : World} {a : Act} {w wq : World} (h : Fin (rnX l) e E0 H0 w0 a w wq) : DO (rnX l) E0 H0 w0 a ∧ wq = w := by
  rcases h with h | ⟨_, h, _⟩
  · exact h
  · cases h

theorem rawAt {E : Env} {H : List AObj} {w : World} (h : HeapOk E H w) {id k : Nat} {o : Obj} (hid : H[id]? = some (.raw o)) (hk : E.ρ id = some k) : w.heap[k]? = some o := by
  obtain ⟨_, k', g0, g1, _⟩ := h.obj id _ hid
  rw [hk] at g0; cases g0
  exact g1

/-- A region that calls yield. -/
theorem Wp.regY (hT : TTOk P T) {lid l : Nat} {so : St} {tm : Array Value} {R : LoopState → Option Code → Loop} {ps : Array Tmp} {assign body : Code} (hR : LoopR R tm ps assign body) {id : Nat} {ops : Array Oper} {pre post : List Oper} {o : Oper} {Q : Exit → St → Prop} {s : St}
    (hops : ops.toList = pre ++ o :: post) (h : regv P T own ops pre (yieldK P T own ops lid l so R ps assign body o post (Q .normal)) s) : Wp P (itX lid l so tm) (.region id ops false) Q s := fun E0 H0 w0 E a w hd hm => by
  refine wpIn_region ?_
  have hsz : ops.size = pre.length + (1 + post.length) := by
    have := congrArg List.length hops
    simp at this; omega
  have hrange : List.range ops.size = List.range' 0 pre.length ++ (pre.length :: List.range' (pre.length + 1) post.length) := by
    rw [List.range_eq_range', hsz, ← List.range'_append_1, Nat.add_comm 1 post.length]
    simp [List.range'_succ]
  rw [hrange]
  refine regv_sound2 hT (fun s1 E1 a1 w1 hk hd1 hm1 => ?_) pre (o :: post) 0 (by simpa using hops) h hd hm
  have hoi : ops[pre.length]? = some o := by
    have : ops.toList[pre.length]? = some o := by rw [hops]; simp
    simpa using this
  simp only [wpOpsIn, hoi]
  obtain ⟨hg, c, f, ho, hcal, hev, hlen, hps, hobj, hlt, hwp⟩ := hk
  have hw : Region.wanted o (yielded ops a1.tmps) = true := by simp [Region.wanted, hg]
  rw [if_pos hw]
  refine ⟨fun _ _ => trivial, ?_⟩
  rw [Oper.semAt_eq _ _ _ (by intro c' hc; rw [ho] at hc; cases hc)]
  have hf : a1.eval f = .func (.yield l) #[] #[] := by
    have := hm1.ev f
    rw [hev] at this
    generalize a1.eval f = x at this
    cases this with
    | fz _ _ h => cases h; rfl
  obtain ⟨hh0, hρ0, hl0, htm, htr⟩ := hd1.1
  have hρ : E1.ρ lid = some l := by rw [(hm1.old lid hlt).2.1]; exact hρ0
  have g1 := rawAt hm1.heap hobj hρ
  have hsize : (Array.map a1.eval c.args).size = (R .ready none).params.size := by
    rw [hR.ps, Array.size_map]; simpa using hlen
  have hrun : (execOp a1.eval o).run P w1 = .ok (.round l (R .ready none).fn ((ps.zip (Array.map a1.eval c.args)).foldl (fun tmps (t, a) => tmps.setIfInBounds t a) tm) assign body) w1 := by
    have := run_yield (P := P) g1 hsize
    rw [hR.ps, hR.tm, hR.as, hR.bd] at this
    simp [execOp, ho, resolve, hcal, hf, Deferred.ofValue, invoke, this, Result.andThen]
  rw [hrun, Oper.uponIn_round]
  refine ⟨nodepth _, roundIn_of_wpIn trivial ?_⟩
  have hfold : (ps.zip (Array.map a1.eval c.args)).foldl (fun tmps (t, a) => tmps.setIfInBounds t a) tm = (ps.toList.zip (c.args.toList.map a1.eval)).foldl (fun tmps (t, a) => tmps.setIfInBounds t a) tm := by
    rw [← Array.foldl_toList]; simp
  rw [hfold]
  have hle := hm1.le hh0
  have hframe := chP_rep (E := E1) (w := w1) ps.toList (c.args.toList.map s1.ev) (c.args.toList.map a1.eval) so.ch tm hps (by simpa using hlen) (by simpa using hlen) (fun i cc hi => by
    obtain ⟨x, hx, rfl⟩ := getElem?_map_some hi
    have := hm1.ev x
    simp only [List.getD, List.getElem?_map, hx, Option.map_some, Option.getD_some]; exact this) htm (fun t => (htr t).mono hle.1 hle.2)
  have hm2 := hm1.restart.frame (a' := { tmps := (ps.toList.zip (c.args.toList.map a1.eval)).foldl (fun tmps (t, a) => tmps.setIfInBounds t a) tm, defers := [] }) hframe.1 hframe.2
  refine wpIn_mono (hwp E1 s1.hp w1 E1 _ w1 ⟨trivial, rfl⟩ (hm2.cond True)) fun e a2 w2 hq => ?_
  obtain ⟨wq, hfin, sa, E2, ⟨rfl, hob2, hwp2⟩, hm3⟩ := hq
  obtain ⟨hd2, rfl⟩ := hfin.round
  have hlt2 : lid < s1.hp.length := get_lt hobj
  have hρ2 : E2.ρ lid = some l := by rw [(hm3.old lid (by rw [hm3.base.1]; exact hlt2)).2.1]; exact hρ
  have hb2 := rawAt hm3.heap hob2 hρ2
  refine ⟨_, run_beginRound hb2 (hR.st _ _), ?_⟩
  rw [hR.begin]
  have hm4 := hm3.putRaw hob2 hρ2 (o' := .loop (R .busy none)) trivial
  refine wpIn_mono (hwp2 E1 s1.hp w1 E2 a2 _ hd2 hm4) fun e a3 w3 hq => ?_
  obtain ⟨wq, hfin, sb, E3, ⟨hob3, hq⟩, hm5⟩ := hq
  obtain ⟨hd3, rfl⟩ := hfin.round
  have hρ3 : E3.ρ lid = some l := by rw [(hm5.old lid (by rw [hm5.base.1]; exact hlt2)).2.1]; exact hρ
  have hb3 := rawAt hm5.heap hob3 hρ3
  have back : ∀ (st : LoopState) (pd : Option Code) (b : Bool) (s2 : St), ({ s1 with hp := sb.hp.set lid (.raw (.loop (R st pd))), cond := True } : St).setd o.dst (.bool b) = some s2 → regv P T own ops post (Q .normal) s2 →
      wpOpsIn (fen (itX lid l so tm)) 0 P ops (MQ (itX lid l so tm) E0 H0 w0 Q) (List.range' (pre.length + 1) post.length) (a1.put o.dst (.bool b)) (wq.putObj l (.loop (R st pd))) := by
    intro st pd b s2 hs2 hreg
    have hm6 := hm5.putRaw hob3 hρ3 (o' := .loop (R st pd)) trivial
    have hle6 := hm6.le hm1.heap
    have hm7 := ((hm1.comp hm6).frame (ch := s1.ch) (n := s1.n) (a' := a1) hm1.size (fun t => (hm1.tmps t).mono hle6.1 hle6.2)).cond True
    have hm8 := hm7.setd hs2 (.fz _ _ (.bool b))
    have := regv_sound2 (X := itX lid l so tm) (E0 := E0) (H0 := H0) (w0 := w0) (K := Q .normal) (Q := MQ (itX lid l so tm) E0 H0 w0 Q) (rest := []) (ops := ops) hT (fun s E a w hk hd hm => by simp only [wpOpsIn]; exact MQ.of hd hk hm) post [] (pre.length + 1) (by
      rw [hops, List.append_nil, ← List.drop_drop, List.drop_left]; rfl) hreg (hd1.put o.dst _) hm8
    rw [List.append_nil] at this
    exact this
  cases e with
  | normal =>
    obtain ⟨s2, hs2, hreg⟩ := hq
    have he := run_endRound (P := P) none hb3
    rw [hR.up] at he
    exact ⟨_, _, he, back _ _ _ _ hs2 hreg⟩
  | ret =>
    obtain ⟨s2, hs2, hreg⟩ := hq
    have he := run_endRound (P := P) (some .ret) hb3
    rw [hR.up] at he
    exact ⟨_, _, he, back _ _ _ _ hs2 hreg⟩
  | exit i =>
    obtain ⟨s2, hs2, hreg⟩ := hq
    have he := run_endRound (P := P) (some (.exit i)) hb3
    rw [hR.up] at he
    exact ⟨_, _, he, back _ _ _ _ hs2 hreg⟩
  | _ => exact hq.elim

end
end Go.Av

namespace Go.Av
variable [Drawn]

section
variable {P : Program} {T : TT} {own : Nat → Bool} {E0 : Env} {H0 : List AObj} {w0 : World} {E : Env} {s : St} {a : Act} {w : World}

theorem Env.Le.trans {A B C : Env} (h : A.Le B) (k : B.Le C) : A.Le C :=
  ⟨fun b hb => k.F b (h.F b hb), Nat.le_trans h.N k.N, fun i hi => (k.ρ i (Nat.lt_of_lt_of_le hi h.N)).trans (h.ρ i hi), fun i hi => (k.σ i (Nat.lt_of_lt_of_le hi h.N)).trans (h.σ i hi),
   fun i hi => (k.κ i (Nat.lt_of_lt_of_le hi h.N)).trans (h.κ i hi), fun i hi => (k.ω i (Nat.lt_of_lt_of_le hi h.N)).trans (h.ω i hi)⟩

/-- The iterator is left. -/
def itQ (P : Program) (so : St) (id0 : Nat) (rest : Code) (Q : Exit → St → Prop) (R : LoopState → Option Code → Loop) (e : Exit) (si : St) : Prop :=
  (e = .normal ∨ e = .ret) ∧ ∃ sst pd, sst ≠ .busy ∧ si.hp[so.hp.length]? = some (.raw (.deferred (some []))) ∧ si.hp[so.hp.length + 1]? = some (.raw (.loop (R sst pd))) ∧ ∀ k,
    ((pd = none ∨ pd = some (.exit id0)) ∧ Wp P (afX k) rest (fun e s' => e = .ret ∧ Q .ret { s' with base := so.base, gl := so.gl }) { so with hp := (si.hp.set so.hp.length .dead).set (so.hp.length + 1) .dead, base := si.hp.length, cond := True }) ∨
    (pd = some .ret ∧ Q .ret { so with hp := (si.hp.set so.hp.length .dead).set (so.hp.length + 1) .dead, cond := True })

/-- A block that no object has. -/
theorem Models.putFree (h : Models E0 H0 w0 E s a w) {k : Nat} {o o' : Obj} (hk : w.heap[k]? = some o) (ho : bare o) (ho' : bare o') (h1 : ¬ Owned E s.hp k) (h2 : ¬ E.F k) (h3 : w0.heap.size ≤ k) : Models E0 H0 w0 E s a (w.putObj k o') := by
  have hon := only_putObj hk ho ho'
  have hF : ∀ b, E.F b → (w.putObj k o').heap[b]? = w.heap[b]? := fun b hb => hon.block b (fun e => h2 (e ▸ hb))
  refine ⟨h.size, fun t => (h.tmps t).mono (Env.Le.refl E) hF, ⟨h.heap.len, fun id ob hid => ?_, fun id b hl hb => by rw [hon.size]; exact h.heap.lt id b hl hb, h.heap.fr, h.heap.inj, fun b hb => by rw [hon.size]; exact h.heap.frz b hb⟩, h.base, h.old, h.new, h.F, h.Fnew,
    ⟨hon.os.trans h.keeps.os, hon.tape.trans h.keeps.tape, hon.output.trans h.keeps.output, by rw [hon.size]; exact h.keeps.size, fun b hb hn => ?_, fun ad hd => (hon.frz ad).trans (h.keeps.frz ad hd), fun d => by rw [hon.drawn]; exact h.keeps.drawn d⟩, h.laid⟩
  · exact (h.heap.obj id ob hid).same hF fun hne b hb => hon.block b (fun e => h1 ⟨id, ⟨ob, hid, hne⟩, e ▸ hb⟩)
  · exact (hon.block b (by omega)).trans (h.keeps.block b hb hn)

theorem args_tmps {args : List AV} {vals : List Value} {n : Nat} (ha : ArgsRep E w args vals) (hlen : args.length ≤ n) :
    (vals.toArray ++ Array.replicate (n - vals.toArray.size) Go.undef).size = n ∧ ∀ t, Rep E w (look (argsCh 0 args) t) ((vals.toArray ++ Array.replicate (n - vals.toArray.size) Go.undef).getD t Go.undef) := by
  have hl := ha.1
  refine ⟨?_, fun t => ?_⟩
  · simp only [Array.size_append, List.size_toArray, Array.size_replicate]; omega
  · rw [look_args]
    split
    · rename_i ht
      have ht' : t < vals.length := by omega
      have hta : t < args.length := by omega
      have := ha.2 t args[t] (List.getElem?_eq_getElem hta)
      rw [show args.getD (t - 0) .undef = args[t] by simp [List.getD, hta]]
      have e : (vals.toArray ++ Array.replicate (n - vals.toArray.size) Go.undef).getD t Go.undef = vals.getD t default := by
        simp [Array.getD, List.getD, ht', Array.getElem_append_left]
        intro hx; omega
      rw [e]; exact this
    · exact Rep.undef _

theorem Fin.after {k : Nat} {e : Exit} {wq : World} (h : Fin (afX k) e E0 H0 w0 a w wq) : DO (afX k) E0 H0 w0 a ∧ wq = w := by
  rcases h with h | ⟨_, _, h, _⟩
  · exact h
  · cases h

theorem set_set_set {H : List AObj} {i j : Nat} (hij : i ≠ j) (x y z : AObj) : ((H.set j x).set i y).set j z = (H.set i y).set j z := by
  rw [List.set_comm _ _ (Ne.symm hij), List.set_set, List.set_comm _ _ hij]

/-- The statement, and what stands behind it, in the machine's terms. -/
def RgP (P : Program) (g : Operand) (ps : Array Tmp) (assign body : Code) (id0 : Nat) (rest : Code) (Q : Exit → St → Prop) (so : St) : Prop :=
  ∀ (E0 : Env) (H0 : List AObj) (w0 : World) (E : Env) (a : Act) (w : World), DO X0 E0 H0 w0 a → Models E0 H0 w0 E so a w →
    (Code.block id0 (.rangeFunc g ps assign body)).wpIn (fen X0) 0 P (Exit.then (rest.wpIn (fen X0) 0 P (MQ X0 E0 H0 w0 Q)) (MQ X0 E0 H0 w0 Q)) a w

theorem RgP.reloc {g : Operand} {ps : Array Tmp} {assign body rest : Code} {id0 : Nat} {Q : Exit → St → Prop} {s s' : St} (hr : Reloc s s') (h : RgP P g ps assign body id0 rest Q s') : RgP P g ps assign body id0 rest Q s := fun E0 H0 w0 E a w hd hm => by
  obtain ⟨E', hm'⟩ := hm.reloc hr
  exact h E0 H0 w0 E' a w hd hm'

/-- A region, such a statement, and what stands behind. -/
theorem Wp.regRange (hT : TTOk P T) {g : Operand} {ps : Array Tmp} {assign body rest : Code} {id0 id : Nat} {ops : Array Oper} {Q : Exit → St → Prop} {s : St} (h : regv P T own ops ops.toList (RgP P g ps assign body id0 rest Q) s) :
    Wp P X0 (.seq (.seq (.region id ops false) (.block id0 (.rangeFunc g ps assign body))) rest) Q s := fun E0 H0 w0 E a w hd hm => by
  refine wpIn_seq (wpIn_seq (wpIn_region ?_))
  have := regv_sound (X := X0) (Q := Exit.then ((Code.block id0 (.rangeFunc g ps assign body)).wpIn (fen X0) 0 P (Exit.then (rest.wpIn (fen X0) 0 P (MQ X0 E0 H0 w0 Q)) (MQ X0 E0 H0 w0 Q))) (Exit.then (rest.wpIn (fen X0) 0 P (MQ X0 E0 H0 w0 Q)) (MQ X0 E0 H0 w0 Q))) hT
    (fun s E a w hk hd hm => hk E0 H0 w0 E a w hd hm) ops.toList 0 rfl h hd hm
  simpa using this

/-- 'for .. := range g { .. }' and what stands behind it, up to the function's end. -/
theorem RgP.of {g : Operand} {ps : Array Tmp} {assign body rest : Code} {id0 : Nat} {Q : Exit → St → Prop} {so : St} {fid : FuncId} {pre caps : List AV} {fn : Func} {c : Code} {n : Nat}
    (hg : so.ev g = .clos fid pre caps) (hfn : P.funcs[fid]? = some fn) (hb : fn.body = some c) (hn : fn.ntmps = n) (hres : fn.results.toList = []) (hname : fn.name ≠ "runtime.NumGoroutine") (hlen : (pre ++ .yld 0 :: caps).length ≤ n)
    (hk : ∀ l tm R, LoopR R tm ps assign body → Wp P (itX (so.hp.length + 1) l so tm) c (itQ P so id0 rest Q R) { ch := argsCh 0 (pre ++ .yld l :: caps), hp := so.hp ++ [.raw (.deferred (some [])), .raw (.loop (R .ready none))], base := so.hp.length + 2, n := n, cond := True, gl := so.gl }) :
    RgP P g ps assign body id0 rest Q so := fun E0 H0 w0 E a w hd hm => by
  refine wpIn_block (wpIn_rangeFunc fun fnid _ => ?_)
  have hdf : a.defers = [] := hd.2
  obtain ⟨R, hRdef⟩ : ∃ R : LoopState → Option Code → Loop, R = fun st pd => { state := st, pending := pd, fn := fnid, tmps := a.tmps, params := ps, assign := assign, body := body, defers := w.heap.size } := ⟨_, rfl⟩
  have hR : LoopR R a.tmps ps assign body := by subst hRdef; exact ⟨fun _ _ => rfl, fun _ _ => rfl, fun _ _ => rfl, fun _ _ => rfl, fun _ _ => rfl, fun _ _ => rfl, fun _ _ _ _ => rfl⟩
  have hgv := hm.ev g
  rw [hg] at hgv
  generalize hag : a.eval g = ag at hgv
  cases hgv with
  | fz _ _ hf => cases hf
  | clos _ _ _ xa xc ha1 hc1 h1 h2 =>
    have hm1 := hm.newRaw (o := .deferred (some [])) trivial
    have hm2 := hm1.newRaw (o := .loop (R .ready none)) trivial
    generalize hE2 : (E.new (some w.heap.size) 0 0 0).new (some (w.alloc (.deferred (some []))).heap.size) 0 0 0 = E2 at hm2
    have hle2 : (E.new (some w.heap.size) 0 0 0).Le E2 := by rw [← hE2]; exact Env.new_le _ _ _ _ _
    have hleE : E.Le E2 := (E.new_le _ _ _ _).trans hle2
    have hw1 : Same w ((w.alloc (.deferred (some []))).alloc (.loop (R .ready none))) := (Same.alloc w (.deferred (some [])) trivial).trans (Same.alloc _ (.loop (R .ready none)) trivial)
    have hρd : E2.ρ so.hp.length = some w.heap.size := by
      have : (E.new (some w.heap.size) 0 0 0).ρ so.hp.length = some w.heap.size := new_ρ hm.heap.len _ _ _ _
      rw [← this]
      exact hle2.ρ so.hp.length (by show so.hp.length < E.N + 1; rw [hm.heap.len]; omega)
    have hρl : E2.ρ (so.hp.length + 1) = some (w.heap.size + 1) := by
      rw [← hE2]
      have := new_ρ (E := E.new (some w.heap.size) 0 0 0) (n := so.hp.length + 1) (by show E.N + 1 = _; rw [hm.heap.len]) (some (w.alloc (.deferred (some []))).heap.size) 0 0 0
      rw [this]; simp
    generalize hw1d : (w.alloc (.deferred (some []))).alloc (.loop (R .ready none)) = w1 at hm2 hw1
    have hFk : ∀ b, E.F b → w1.heap[b]? = w.heap[b]? := fun b hb => hw1.block b (hm.heap.frz b hb)
    have hargs : ArgsRep E2 w1 (pre ++ .yld (w.heap.size + 1) :: caps) (xa ++ .func (.yield (w.heap.size + 1)) #[] #[] :: xc) := by
      refine ⟨by simp [ha1, hc1], fun i cc hi => ?_⟩
      simp only [List.getD]
      rcases append_get2 hi with ⟨q, hi⟩ | ⟨q, hi⟩
      · rw [List.getElem?_append_left (by omega)]; exact (h1 i cc hi).mono hleE hFk
      · rw [List.getElem?_append_right (by omega), ha1]
        cases hj : i - pre.length with
        | zero => rw [hj] at hi; simp at hi; subst hi; exact .fz _ _ (.yld _)
        | succ j => rw [hj] at hi; simp at hi ⊢; exact (h2 j cc (by simpa using hi)).mono hleE hFk
    have htm := args_tmps hargs (n := n) (by simpa using hlen)
    have hwalk := hk (w.heap.size + 1) a.tmps R hR E2 _ w1 E2 { tmps := (xa ++ .func (.yield (w.heap.size + 1)) #[] #[] :: xc).toArray ++ Array.replicate (fn.ntmps - (xa ++ .func (.yield (w.heap.size + 1)) #[] #[] :: xc).toArray.size) Go.undef, defers := [] } w1
      ⟨⟨hm2.heap, hρl, by simp, hm.size, fun t => (hm.tmps t).mono hleE hFk⟩, rfl⟩ (by
        have := (hm2.restart.frame (a' := { tmps := (xa ++ .func (.yield (w.heap.size + 1)) #[] #[] :: xc).toArray ++ Array.replicate (n - (xa ++ .func (.yield (w.heap.size + 1)) #[] #[] :: xc).toArray.size) Go.undef, defers := [] }) htm.1 htm.2).cond True
        simpa [hn, List.append_assoc] using this)
    have hcall : (invoke (.fn (.func fid) xc.toArray) (xa.toArray ++ #[.func (.yield (w.heap.size + 1)) #[] #[]])).run P w1 = .ok (.enter fid (xa ++ .func (.yield (w.heap.size + 1)) #[] #[] :: xc).toArray) w1 := by
      have e1 : xa.toArray ++ #[.func (.yield (w.heap.size + 1)) #[] #[]] ++ xc.toArray = (xa ++ .func (.yield (w.heap.size + 1)) #[] #[] :: xc).toArray := by
        apply Array.ext'; simp
      unfold invoke callFunc
      simp only [Sem.run_bind, run_program, Result.andThen, hfn]
      have hbn : fn.body.isNone = false := by rw [hb]; rfl
      have hnn : (fn.name == "runtime.NumGoroutine") = false := by simpa using hname
      rw [hnn, hbn, e1]
      rfl
    refine ⟨w.heap.size + 1, [{ target := .collected w.heap.size, args := #[] }], w1, { target := .fn (.func fid) xc.toArray, args := xa.toArray ++ #[.func (.yield (w.heap.size + 1)) #[] #[]] }, w1, fid, _, w1, ?_, ?_, fun _ _ => trivial, hcall, nodepth X0, ?_⟩
    · rw [← hw1d, hRdef]; exact run_enterLoop_outer fnid a.tmps ps assign body
    · have hyc : a.eval (.const (.func (.yield (w.heap.size + 1)) #[] #[])) = .func (.yield (w.heap.size + 1)) #[] #[] := rfl
      simp [resolve, rangeCall, hag, Deferred.ofValue, hyc]
    · refine callsIn_of_wp_marks hfn hb trivial (wpIn_mono hwalk fun e a2 w2 hq => ?_)
      obtain ⟨wq, hfin, si, E3, ⟨he, sst, pd, hst, hdfr, hlp, hend⟩, hm4⟩ := hq
      have hlid : si.base = so.hp.length + 2 := by rw [hm4.base.1]; simp
      have hρ3 : E3.ρ (so.hp.length + 1) = some (w.heap.size + 1) := (hm4.old _ (by omega)).2.1.trans hρl
      have hρ4 : E3.ρ so.hp.length = some w.heap.size := (hm4.old _ (by omega)).2.1.trans hρd
      have hbl := rawAt hm4.heap hlp hρ3
      have hbd := rawAt hm4.heap hdfr hρ4
      obtain ⟨xo, hxb, hel⟩ : ∃ xo, bare xo ∧ (Instr.endLoop (w.heap.size + 1)).run P wq = .ok pd (wq.putObj (w.heap.size + 1) xo) :=
        ⟨.loop { R sst pd with state := .exhausted }, trivial, (run_endLoop (P := P) hbl (by rw [hR.st]; exact hst)).trans (congrArg (fun z => Result.ok z _) (hR.pd sst pd))⟩
      have hm5 := ((hm4.putRaw hlp hρ3 hxb).kill so.hp.length).kill (so.hp.length + 1)
      have hset : ((si.hp.set (so.hp.length + 1) (.raw xo)).set so.hp.length .dead).set (so.hp.length + 1) .dead = (si.hp.set so.hp.length .dead).set (so.hp.length + 1) .dead := set_set_set (by omega) _ _ _
      simp only [hset] at hm5
      have hle5 := hm5.le hm2.heap
      have hm6 := ((hm2.comp hm5).frame (ch := so.ch) (n := so.n) (a' := { a with defers := [{ target := .collected w.heap.size, args := #[] }] ++ a.defers }) hm.size (fun t => ((hm.tmps t).mono hleE hFk).mono hle5.1 hle5.2)).cond True
      simp only [hdf, List.append_nil] at hm6
      have hk4 : (wq.putObj (w.heap.size + 1) xo).heap[w.heap.size]? = some (.deferred (some [])) := by rw [World.putObj_heap_other (by omega)]; exact hbd
      have hown : ¬ Owned E3 ((si.hp.set so.hp.length .dead).set (so.hp.length + 1) .dead) w.heap.size := by
        rintro ⟨id, hl, hρ⟩
        have hl1 := live_kill hl
        have hl2 := live_kill hl1.2
        exact hl2.1 (hm4.heap.inj id so.hp.length _ hl2.2 ⟨_, hdfr, by simp⟩ hρ hρ4)
      have hnF : ¬ E3.F w.heap.size := hm4.heap.fr so.hp.length _ ⟨_, hdfr, by simp⟩ hρ4
      have hw0k : w0.heap.size ≤ w.heap.size := hm.keeps.size
      have hafter : ∀ (hwp : Wp P (afX w.heap.size) rest (fun e s' => e = .ret ∧ Q .ret { s' with base := so.base, gl := so.gl }) { so with hp := (si.hp.set so.hp.length .dead).set (so.hp.length + 1) .dead, base := si.hp.length, cond := True }),
          rest.wpIn (fen X0) 0 P (MQ X0 E0 H0 w0 Q) { a with defers := [{ target := .collected w.heap.size, args := #[] }] } (wq.putObj (w.heap.size + 1) xo) := by
        intro hwp
        have hm7 := hm6.restart
        refine wpIn_mono (hwp E3 _ _ E3 _ _ ⟨⟨hk4, hown, hnF⟩, rfl⟩ (hm7.rebase (by simp))) fun e a3 w3 hq => ?_
        obtain ⟨wq3, hfin3, s3, E4, ⟨rfl, hQ⟩, hm8⟩ := hq
        obtain ⟨hd3, rfl⟩ := hfin3.after
        have hlt : w.heap.size < (wq.putObj (w.heap.size + 1) xo).heap.size := (Array.getElem?_eq_some_iff.1 hk4).1
        have hk8 : wq3.heap[w.heap.size]? = some (.deferred (some [])) := (hm8.keeps.block _ hlt hown).trans hk4
        refine ⟨_, .inr ⟨rfl, rfl, rfl, _, hd3.2, hk8, rfl⟩, { s3 with base := so.base, gl := so.gl }, E4, hQ, (hm6.comp hm8).putFree hk8 trivial trivial ?_ ?_ hw0k⟩
        · intro ho
          rcases hm8.owned ho with g | g
          · exact hown g
          · omega
        · intro hF
          rcases hm8.Fnew _ hF with g | g | g
          · exact hnF g
          · omega
          · exact hown g
      have hpost : rangePost (fen X0) 0 P (w.heap.size + 1) (Exit.inBlock id0 (Exit.then (rest.wpIn (fen X0) 0 P (MQ X0 E0 H0 w0 Q)) (MQ X0 E0 H0 w0 Q))) { a with defers := [{ target := .collected w.heap.size, args := #[] }] ++ a.defers } (.returned (.tuple #[])) wq := by
        refine ⟨pd, _, hel, ?_⟩
        simp only [hdf, List.append_nil]
        rcases hend w.heap.size with ⟨hp, hwp⟩ | ⟨hp, hQ⟩
        · rcases hp with rfl | rfl
          · exact hafter hwp
          · refine wpIn_exit ?_
            show Exit.inBlock id0 _ (.exit id0) _ _
            simp only [Exit.inBlock, if_true]
            exact hafter hwp
        · subst hp
          refine wpIn_ret ⟨_, .inr ⟨rfl, rfl, rfl, _, rfl, hk4, rfl⟩, _, E3, hQ, ?_⟩
          have := hm6.putFree hk4 trivial (o' := .deferred none) trivial hown hnF hw0k
          exact this
      have hrs : (results fn a2.tmps).run P wq = .ok (.tuple #[]) wq := by
        have : fn.results = #[] := by simpa using hres
        simp [results, this]
      have hfini : LeavesInM (fen X0) 0 P fn a2.tmps (rangePost (fen X0) 0 P (w.heap.size + 1) (Exit.inBlock id0 (Exit.then (rest.wpIn (fen X0) 0 P (MQ X0 E0 H0 w0 Q)) (MQ X0 E0 H0 w0 Q))) { a with defers := [{ target := .collected w.heap.size, args := #[] }] ++ a.defers }) a2.defers .returning w2 := by
        have hl0 : LeavesIn (fen X0) 0 P fn a2.tmps (rangePost (fen X0) 0 P (w.heap.size + 1) (Exit.inBlock id0 (Exit.then (rest.wpIn (fen X0) 0 P (MQ X0 E0 H0 w0 Q)) (MQ X0 E0 H0 w0 Q))) { a with defers := [{ target := .collected w.heap.size, args := #[] }] ++ a.defers }) [] .returning wq := by
          unfold LeavesIn
          exact ⟨_, hrs, hpost⟩
        rcases hfin with ⟨hd, rfl⟩ | ⟨_, _, _, k, hd, hkk, rfl⟩
        · rw [hd.2]; exact hl0
        · rw [hd]; exact ⟨by simp, .inl ⟨k, _, rfl, run_takeDeferred hkk, hl0⟩⟩
      rcases he with rfl | rfl
      · exact hfini
      · exact hfini
end
end Go.Av

namespace Go.Av
variable [Drawn]
section
variable {P : Program} {X : Ctx} {T : TT} {own : Nat → Bool} {ops : Array Oper} {K : St → Prop} {s s1 sb sa si so : St} {o : Oper} {post : List Oper} {Q : Exit → St → Prop} {id id0 : Nat} {rest b : Code} {lid l : Nat} {tm : Array Value} {R : LoopState → Option Code → Loop} {ps : Array Tmp} {assign body : Code}

theorem rf {g : Operand} {fid : FuncId} {pre caps : List AV} {fn : Func} {c : Code} {n : Nat} (hfn : P.funcs[fid]? = some fn) (hb : fn.body = some c) (hn : fn.ntmps = n) (hres : fn.results.toList = []) (hname : (fn.name == "runtime.NumGoroutine") = false)
    (hk : ∀ l tm R, LoopR R tm ps assign body → Wp P (itX (so.hp.length + 1) l so tm) c (itQ P so id0 rest Q R) { ch := argsCh 0 (pre ++ .yld l :: caps), hp := so.hp ++ [.raw (.deferred (some [])), .raw (.loop (R .ready none))], base := so.hp.length + 2, n := n, cond := True, gl := so.gl })
    (hg : so.ev g = .clos fid pre caps := by rfl) (hlen : (pre ++ .yld 0 :: caps).length ≤ n := by exact Nat.le_of_ble_eq_true rfl) :
    RgP P g ps assign body id0 rest Q so := RgP.of hg hfn hb hn hres (by simpa using hname) hlen hk

theorem rlR {g : Operand} (L : List (Option Nat)) (s1 : St) (hk : RgP P g ps assign body id0 rest Q s1) (hr : RelocL L s s1 := by exact RelocL.mk rfl rfl rfl rfl (by rfl) (by rfl) (by ((repeat' first | exact objsLe_nil | refine objsLe_cons ?_ ?_) <;> first | exact trivial | (refine ObjLe.var0 rfl rfl rfl ?_; (repeat' first | exact All2.nil | refine All2.cons ?_ ?_ | exact AvLe.refl _ rfl | refine AvLe.tups ?_ | refine AvLe.aggs ?_ | refine AvLe.closs ?_ ?_) <;> first | exact AvLe.refl _ rfl | exact AvLe.undef _ | exact AvLe.sl _ _ _ _ rfl | exact AvLe.hptr _ _ _ _ rfl | exact AvLe.mp _ _ rfl | exact AvLe.nil _ | exact AvLe.znil _ | exact AvLe.ghost _ rfl | exact AvLe.zghost _ rfl | exact AvLe.sl' rfl (by simp [F]; done) (by first | (simp [F]; done) | (simp [F]; omega) | omega) | exact AvLe.frz3 rfl (by simp) (by first | exact Nat.zero_le _ | decide) (by simp [F]; done) (by simp [F]; done) (by simp [F]; done) | exact AvLe.list' (by simp [F]; done) (by simp [F]; done) | exact AvLe.eq (by simp [F]; done) rfl) | exact ObjLe.map' rfl rfl | exact ObjLe.map2 rfl rfl (by first | (simp [F]; done) | (simp [F]; rfl)) | exact ObjLe.slot' rfl | exact ObjLe.raw' rfl rfl | exact ObjLe.siter2 rfl rfl (by first | rfl | (simp [F]; done)) (by first | rfl | (simp [F]; done)) | exact ObjLe.ghost' rfl (by decide) | exact ObjLe.arr' rfl rfl (by first | (simp [F]; done) | (simp [F]; omega)) (fun _ _ => by first | rfl | (simp [F]; done)) | (simp [F]; done))) (by ((repeat' first | exact chLe_nil | refine chLe_cons ?_ ?_ | exact All2.nil | refine All2.cons ?_ ?_ | exact AvLe.refl _ rfl | refine AvLe.tups ?_ | refine AvLe.aggs ?_ | refine AvLe.closs ?_ ?_) <;> first | exact AvLe.refl _ rfl | exact AvLe.undef _ | exact AvLe.sl _ _ _ _ rfl | exact AvLe.hptr _ _ _ _ rfl | exact AvLe.mp _ _ rfl | exact AvLe.nil _ | exact AvLe.znil _ | exact AvLe.ghost _ rfl | exact AvLe.zghost _ rfl | exact AvLe.sl' rfl (by simp [F]; done) (by first | (simp [F]; done) | (simp [F]; omega) | omega) | exact AvLe.frz3 rfl (by simp) (by first | exact Nat.zero_le _ | decide) (by simp [F]; done) (by simp [F]; done) (by simp [F]; done) | exact AvLe.list' (by simp [F]; done) (by simp [F]; done) | exact AvLe.eq (by simp [F]; done) rfl))) : RgP P g ps assign body id0 rest Q s := RgP.reloc hr hk
theorem rsR {g : Operand} (own : Nat → Bool) (h : regv P T own ops ops.toList (RgP P g ps assign body id0 rest Q) s) (hT : TTOk P T := by exact tt_ok) : Wp P X0 (.seq (.seq (.region id ops false) (.block id0 (.rangeFunc g ps assign body))) rest) Q s := Wp.regRange hT h

theorem rY (own : Nat → Bool) (N : Nat) (hR : LoopR R tm ps assign body) (h : regv P T own ops (ops.toList.take N) (yieldK P T own ops lid l so R ps assign body o (ops.toList.drop (N + 1)) (Wp P (itX lid l so tm) b Q)) s) (ho : ops.toList[N]? = some o := by rfl) (hT : TTOk P T := by exact tt_ok) :
    Wp P (itX lid l so tm) (.seq (.region id ops false) b) Q s := by
  refine Wp.seq (Wp.regY hT hR (pre := ops.toList.take N) (o := o) (post := ops.toList.drop (N + 1)) ?_ h)
  have h1 := (List.getElem?_eq_some_iff.1 ho)
  obtain ⟨hlt, he⟩ := h1
  rw [← he, ← List.drop_eq_getElem_cons hlt, List.take_append_drop]

theorem yk {c : Call} {f : Operand} (h : Wp P (rnX l) assign (asQ P T own ops lid l R body o post K s1) { ch := chP ps.toList (c.args.toList.map s1.ev) so.ch, hp := s1.hp, base := s1.hp.length, n := so.n, cond := True, gl := s1.gl }) (hg : o.guard = none := by rfl) (ho : o.op = .call c := by rfl) (hcal : c.callee = .value f := by rfl) (hev : s1.ev f = .yld l := by rfl) (hlen : c.args.toList.length = ps.toList.length := by rfl)
    (hps : (ps.toList.all fun p => Nat.blt p so.n) = true := by rfl) (hob : s1.hp[lid]? = some (.raw (.loop (R .ready none))) := by rfl) (hlt : lid < s1.base := by exact Nat.le_of_ble_eq_true rfl) : yieldK P T own ops lid l so R ps assign body o post K s1 := ⟨hg, c, f, ho, hcal, hev, hlen, hps, hob, hlt, h⟩

theorem asn (h : Wp P (rnX l) body (rnQ P T own ops lid R o post K s1) { sa with hp := sa.hp.set lid (.raw (.loop (R .busy none))) }) (hob : sa.hp[lid]? = some (.raw (.loop (R .ready none))) := by rfl) : asQ P T own ops lid l R body o post K s1 .normal sa := ⟨rfl, hob, h⟩

theorem rnn {s2 : St} (h : regv P T own ops post K s2) (hob : sb.hp[lid]? = some (.raw (.loop (R .busy none))) := by rfl) (hs : ({ s1 with hp := sb.hp.set lid (.raw (.loop (R .ready none))), cond := True } : St).setd o.dst (.bool true) = some s2 := by first | rfl | (simp [F]; rfl)) : rnQ P T own ops lid R o post K s1 .normal sb := ⟨hob, s2, hs, h⟩
theorem rnr {s2 : St} (h : regv P T own ops post K s2) (hob : sb.hp[lid]? = some (.raw (.loop (R .busy none))) := by rfl) (hs : ({ s1 with hp := sb.hp.set lid (.raw (.loop (R .done (some .ret)))), cond := True } : St).setd o.dst (.bool false) = some s2 := by first | rfl | (simp [F]; rfl)) : rnQ P T own ops lid R o post K s1 .ret sb := ⟨hob, s2, hs, h⟩
theorem rne {s2 : St} {i : Nat} (h : regv P T own ops post K s2) (hob : sb.hp[lid]? = some (.raw (.loop (R .busy none))) := by rfl) (hs : ({ s1 with hp := sb.hp.set lid (.raw (.loop (R .done (some (.exit i))))), cond := True } : St).setd o.dst (.bool false) = some s2 := by first | rfl | (simp [F]; rfl)) : rnQ P T own ops lid R o post K s1 (.exit i) sb := ⟨hob, s2, hs, h⟩

theorem itn {e : Exit} (h : ∀ k, Wp P (afX k) rest (fun e s' => e = .ret ∧ Q .ret { s' with base := so.base, gl := so.gl }) { so with hp := (si.hp.set so.hp.length .dead).set (so.hp.length + 1) .dead, base := si.hp.length, cond := True }) (he : e = .normal ∨ e = .ret := by first | exact .inl rfl | exact .inr rfl)
    (hd : si.hp[so.hp.length]? = some (.raw (.deferred (some []))) := by rfl) (hl : si.hp[so.hp.length + 1]? = some (.raw (.loop (R .ready none))) := by rfl) : itQ P so id0 rest Q R e si := ⟨he, .ready, none, by simp, hd, hl, fun k => .inl ⟨.inl rfl, h k⟩⟩
theorem itx {e : Exit} (h : ∀ k, Wp P (afX k) rest (fun e s' => e = .ret ∧ Q .ret { s' with base := so.base, gl := so.gl }) { so with hp := (si.hp.set so.hp.length .dead).set (so.hp.length + 1) .dead, base := si.hp.length, cond := True }) (he : e = .normal ∨ e = .ret := by first | exact .inl rfl | exact .inr rfl)
    (hd : si.hp[so.hp.length]? = some (.raw (.deferred (some []))) := by rfl) (hl : si.hp[so.hp.length + 1]? = some (.raw (.loop (R .done (some (.exit id0))))) := by rfl) : itQ P so id0 rest Q R e si := ⟨he, .done, _, by simp, hd, hl, fun k => .inl ⟨.inr rfl, h k⟩⟩
theorem itr {e : Exit} (h : Q .ret { so with hp := (si.hp.set so.hp.length .dead).set (so.hp.length + 1) .dead, cond := True }) (he : e = .normal ∨ e = .ret := by first | exact .inl rfl | exact .inr rfl)
    (hd : si.hp[so.hp.length]? = some (.raw (.deferred (some []))) := by rfl) (hl : si.hp[so.hp.length + 1]? = some (.raw (.loop (R .done (some .ret)))) := by rfl) : itQ P so id0 rest Q R e si := ⟨he, .done, _, by simp, hd, hl, fun _ => .inr ⟨rfl, h⟩⟩
theorem rtA {n : Nat} {g : List (Nat × AV)} (h : Q .ret { s with base := n, gl := g }) : Wp P X .ret (fun e s' => e = .ret ∧ Q .ret { s' with base := n, gl := g }) s := Wp.ret ⟨rfl, h⟩
end
end Go.Av

namespace Go.Av
variable [Drawn]

theorem Same.of_below {w w' : World} (h : Go.RowKit.Below w.heap.size w w') (hd : DrawnOn → w.drawn ≤ w'.drawn) : Same w w' :=
  ⟨h.os, h.tape, h.output, h.size, h.block, fun a ha => by (unfold World.frozen?; rw [h.block a.block ha]), hd⟩

theorem After.of_same {E : Env} {w w' : World} (hh : HeapOk E [] w) (hs : Same w w') : After E [] w E [] w' where
  heap := hh.same hs
  keeps := hs.keeps
  F _ hb := hb
  Fnew _ hb := .inl hb
  len := Nat.le_refl _
  old id hi := absurd hi (Nat.not_lt_zero _)
  new id b _ hl _ := by obtain ⟨o, ho, _⟩ := hl; simp at ho

/-- A contract out of what a call does: it makes memory at most. -/
theorem con_below {P : Program} {G : List (Nat × AV)} {f : FuncId} {args : List AV} {r : AV} (hfn : Fn P f)
    (h : ∀ (E : Env) (w : World) (vals : List Value), HeapOk E [] w → ArgsRep E w args vals →
      ∃ x, (∀ w', RepF E.F w' r x) ∧ Calls P f vals.toArray w fun e w' => e = .returned x ∧ Go.RowKit.Below w.heap.size w w' ∧ (DrawnOn → w.drawn ≤ w'.drawn)) : Con P G f args r [] :=
  ⟨hfn, fun E w vals hh _ ha => by
    obtain ⟨x, hx, hc⟩ := h E w vals hh ha
    refine hc.mono fun e w' ⟨he, hw, hd⟩ => ?_
    subst he
    exact ⟨r, [], E, ⟨rfl, rfl⟩, .fz _ _ (hx w'), .of_same hh (.of_below hw hd)⟩⟩

theorem args_one {E : Env} {w : World} {a : AV} {vals : List Value} (h : ArgsRep E w [a] vals) : ∃ x, vals = [x] ∧ Rep E w a x := by
  obtain ⟨h1, h2⟩ := h
  match vals, h1, h2 with
  | [x], _, h2 => exact ⟨x, rfl, h2 0 a rfl⟩

theorem args_two {E : Env} {w : World} {a b : AV} {vals : List Value} (h : ArgsRep E w [a, b] vals) : ∃ x y, vals = [x, y] ∧ Rep E w a x ∧ Rep E w b y := by
  obtain ⟨h1, h2⟩ := h
  match vals, h1, h2 with
  | [x, y], _, h2 => exact ⟨x, y, rfl, h2 0 a rfl, h2 1 b rfl⟩

/-- What strings.Join joins. -/
def joinS (l : List Str) (sep : Str) : Str := ⟨(sep.data.toList.intercalate (l.map (·.data.toList))).toArray⟩
/-- A number below 100, in decimal. -/
def dec2 (i : Nat) : Str := ⟨(if i < 10 then [UInt8.ofNat (48 + i)] else [UInt8.ofNat (48 + i / 10), UInt8.ofNat (48 + i % 10)]).toArray⟩

/-- A read list of strings. -/
theorem rep_strs {E : Env} {w : World} (hh : HeapOk E [] w) {l : List Str} {x : Value} (h : Rep E w (aL cS l) x) :
    (l = [] ∧ ∃ a c, x = .slice a 0 c) ∨ ∃ b o c, x = .slice (some ⟨b, o, none⟩) l.length c ∧ b < w.heap.size ∧ l.length ≤ c ∧ ∀ (j : Nat) s, l[j]? = some s → w.cell? ⟨b, o + j, none⟩ = some (.string s) := by
  cases h with
  | fz _ _ h =>
    unfold aL at h
    generalize hn : l.length = n at h
    cases h with
    | empty row a c => exact .inl ⟨List.length_eq_zero_iff.1 hn, a, c, rfl⟩
    | list n row b o c sz vs hF hcap hsz hc hf hr =>
      subst hn
      refine .inr ⟨b, o, c, rfl, hh.frz b hF, hcap, fun j s hj => ?_⟩
      have hl : j < l.length := by
        rcases Nat.lt_or_ge j l.length with g | g
        · exact g
        · rw [List.getElem?_eq_none g] at hj; cases hj
      have e : rw (l.map cS) j = cS s := rw_map hj
      have e1 : sz = 1 := by have := hsz j hl; rw [e] at this; exact this.symm
      subst e1
      have h1 := hc j 0 (.str s) hl (by rw [e]; rfl)
      have h2 := hr j 0 (.str s) hl (by rw [e]; rfl)
      have h3 : vs j 0 = .string s := by
        generalize vs j 0 = v at h2
        cases h2; rfl
      rw [h3] at h1
      simpa using h1

end Go.Av

namespace Go.Av
variable [Drawn]
open Go.ChangeShapes Go.RowKit

section
variable {P : Program} {n : Nat} {t e : TypeId} {α β : Type}

theorem opens_zero {c : Cod α} : Opens P 0 t c := by
  constructor
  intro H enc B hB w base spare held fuel cs x hn hx
  have : fuel = 0 := by omega
  subst this; simp [DataW.trod] at hx

theorem o_kL1 [Inhabited α] {c : Cod α} {k : Nat} (ht : P.underlying t = some (.slice e)) (hk : P.cellsOf e = k + 1) (hsz : ∀ a, (c.cells a).length = k + 1) (he : Opens P n e c) : Opens P (n + 1) t (kL c) := by
  constructor
  intro H enc B hB w base spare held fuel cs x hn hx
  obtain ⟨l, h1, h2, h3⟩ := (opens_slice' ht hk hsz he).go hB hn hx
  refine ⟨l, h1, h2, h3.list fun i hi => ?_⟩
  simp [rw, List.getD, List.getElem?_map, List.getElem?_eq_getElem hi]

/-! ### a variable that is laid: integers, in arrays -/

def arrB (P : Program) : Nat → TypeId → Bool
  | 0, _ => false
  | n + 1, t => match P.underlying t with
    | some (.int _) => Nat.beq (P.cellsOf t) 1
    | some (.array m e) => arrB P n e && Nat.beq (P.cellsOf t) (m * P.cellsOf e)
    | _ => false

mutual
def flatV {H : Type} : DataW H → List Value
  | .lit (.int k z) => [.int k z]
  | .agg ds => flatVs ds
  | _ => []
def flatVs {H : Type} : List (DataW H) → List Value
  | [] => []
  | d :: ds => flatV d ++ flatVs ds
end

theorem pieces {β : Type} {f : β → List Value} {c : Nat} : ∀ {xs : List β} {cs : List Value}, cs.length = xs.length * c → (∀ (i : Nat) x, xs[i]? = some x → (cs.drop (i * c)).take c = f x) → cs = (xs.map f).flatten
  | [], cs, hl, _ => by simpa using hl
  | x :: xs, cs, hl, h => by
    have h0 := h 0 x rfl
    rw [Nat.zero_mul, List.drop_zero] at h0
    have hr : cs.drop c = (xs.map f).flatten := pieces (c := c) (f := f) (by rw [List.length_drop, hl, List.length_cons, Nat.add_mul, Nat.one_mul]; omega) fun i y hy => by
      have := h (i + 1) y hy
      rw [List.drop_drop]
      rw [← this, Nat.add_mul, Nat.one_mul, Nat.add_comm]
    rw [List.map_cons, List.flatten_cons, ← h0, ← hr, List.take_append_drop]

theorem flatVs_eq {H : Type} : ∀ ds : List (DataW H), flatVs ds = (ds.map flatV).flatten
  | [] => rfl
  | d :: ds => by rw [flatVs, flatVs_eq ds]; rfl

theorem trod_flat {H : Type} {enc : TypeId × Value → H} {w : World} {base : Nat} {sp : Nat → Bool} {held : Bool} : ∀ {n fuel : Nat} {t : TypeId} {cs : List Value} {x : DataW H × List MemPlace},
    arrB P n t = true → DataW.trod enc P w base sp held fuel t cs = some x → cs = flatV x.1
  | 0, _, _, _, _, h, _ => by simp [arrB] at h
  | n + 1, fuel, t, cs, x, h, hx => by
    rw [arrB] at h
    cases hu : P.underlying t with
    | none => rw [hu] at h; cases h
    | some d =>
      rw [hu] at h
      cases d with
      | int k =>
        obtain ⟨z, rfl, h2, _⟩ := DataW.trod_int hu hx
        rw [h2]; rfl
      | array m e =>
        simp only [Bool.and_eq_true] at h
        obtain ⟨xs, fm, rfl, rfl, hl, hn, hel⟩ := DataW.trod_array hu hx
        rw [flatV, flatVs_eq, List.map_map]
        refine pieces (c := P.cellsOf e) (f := flatV ∘ fun y : DataW H × List MemPlace => y.1) (by rw [hl, Nat.eq_of_beq_eq_true h.2, hn]) fun i y hy => ?_
        have hi : i < m := by rw [← hn]; exact (List.getElem?_eq_some_iff.1 hy).1
        have := hel i hi
        rw [hy] at this
        exact trod_flat h.1 this
      | _ => cases h

theorem laidVars_mem {w : World} {name : String} {d : DataW Unit} : ∀ {l : List (String × DataW Unit)} {ps : List MemPlace}, DataW.LaidVars P w l ps → (name, d) ∈ l →
    ∃ g t cs fuel p, P.globalNamed name = some g ∧ (P.globals[g]?).map (·.type) = some t ∧ w.var? P name = some cs ∧ DataW.trod (fun _ => ()) P w 0 (fun _ => true) false fuel t cs.toList = some (d, p)
  | [], _, _, h => by simp at h
  | (m, e) :: l, ps, hv, h => by
    obtain ⟨g, t, cs, fuel, p, q, h1, h2, h3, h4, h5, _⟩ := hv
    rcases List.mem_cons.1 h with h | h
    · cases h; exact ⟨g, t, cs, fuel, p, h1, h2, h3, h4⟩
    · exact laidVars_mem h5 h

/-- A laid variable, as an abstract value. -/
theorem laid_rep {w : World} {l : List (String × DataW Unit)} {name : String} {d : DataW Unit} {g : Nat} {t : TypeId} {k : IntKind} {zs : List Int} (h : laidMetH P l w) (hno : (l.all fun x => x.2.handleName?.isNone) = true) (hm : (name, d) ∈ l)
    (hg : P.globalNamed name = some g) (ht : (P.globals[g]?).map (·.type) = some t) (ha : arrB P 5 t = true) (hf : flatV d = zs.map (Value.int k)) (hz : zs ≠ []) :
    RepF (frz0 w) w (.fptr (zs.map (AV.int k))) (.pointer (some ⟨g, 0, none⟩)) := by
  rw [Go.MakeChecks.laidMetH_plain _ _ _ hno] at h
  obtain ⟨ps, hv, _⟩ := h
  obtain ⟨g', t', cs, fuel, p, h1, h2, h3, h4⟩ := laidVars_mem hv hm
  obtain rfl := Option.some.inj (hg.symm.trans h1)
  obtain rfl := Option.some.inj (ht.symm.trans h2)
  have hcs := trod_flat ha h4
  rw [hf] at hcs
  have hcell : ∀ (j : Nat) z, zs[j]? = some z → w.cell? ⟨g, 0 + j, none⟩ = some (.int k z) := fun j z hj => by
    rw [Nat.zero_add, World.var?_cell h1 h3 j]
    have : cs.toList[j]? = some (.int k z) := by rw [hcs]; simp [hj]
    simpa using this
  refine .fptr _ g 0 (fun j => .int k (zs.getD j 0)) ?_ (fun j c hc => ?_) (fun j c hc => ?_) (fun j c hc => ?_)
  · obtain ⟨z, zs', rfl⟩ : ∃ z zs', zs = z :: zs' := by cases zs with
      | nil => exact absurd rfl hz
      | cons z zs => exact ⟨z, zs, rfl⟩
    have := hcell 0 z rfl
    show g < w.heap.size
    simp only [World.cell?] at this
    rcases Nat.lt_or_ge g w.heap.size with q | q
    · exact q
    · rw [Array.getElem?_eq_none q] at this; simp at this
  all_goals
    rw [List.getElem?_map, Option.map_eq_some_iff] at hc
    obtain ⟨z, hz', rfl⟩ := hc
  · rw [hcell j z hz']; simp [List.getD, hz']
  · rfl
  · simp only [List.getD, hz']; exact .int k z
end
end Go.Av
