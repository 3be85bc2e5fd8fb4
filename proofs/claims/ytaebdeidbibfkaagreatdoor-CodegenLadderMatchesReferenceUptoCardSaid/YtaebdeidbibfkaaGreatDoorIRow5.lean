/- For every ladder, Ladder and Starts return the same results as the reference: the second form (what comes in is of bulk at most 1048576), a card: the listed variables are tied to the program. -/
import Derived.Test.YtaebdeidbibfkaaGreatDoorIR0
import Derived.Test.YtaebdeidbibfkaaGreatDoorIGC24
import Derived.Test.YtaebdeidbibfkaaGreatDoorILawM14
import Derived.Test.YtaebdeidbibfkaaGreatDoorCards
import Derived.Test.YtaebdeidbibfkaaGreatDoorTie
set_option linter.unusedSimpArgs false
set_option linter.unusedVariables false
set_option linter.unusedSectionVars false
namespace Go.Proofs.YtaebdeidbibfkaaGreatDoor
open Go Go.Av Go.G Go.ChangeShapes
theorem ZkY {W:World} (h:laidMetH Tryz.prog Rows.codegenLadderMatchesReferenceUptoRow.laid W):Laid G0 (E0of W) W:=fun g=>by
 by_cases e0:g = 0
 ·subst e0
  rw [look_G0_0]
  exact .inr (Za4 (t:=((Tryz.prog.globals[0]?).map (·.type)).getD 0) (k:=.i64) (zs:=[11,12,13,14]) h (by kernel_rfl) (List.mem_of_getElem? (i:=3) rfl) (by kernel_rfl) (by kernel_rfl) (by kernel_rfl) rfl (by simp))
 by_cases e2:g = 2
 ·subst e2
  rw [look_G0_2]
  exact .inr (Za4 (t:=((Tryz.prog.globals[2]?).map (·.type)).getD 0) (k:=.i64) (zs:=[0,1,6,7]) h (by kernel_rfl) (List.mem_of_getElem? (i:=0) rfl) (by kernel_rfl) (by kernel_rfl) (by kernel_rfl) rfl (by simp))
 by_cases e3:g = 3
 ·subst e3
  rw [look_G0_3]
  exact .inr (Za4 (t:=((Tryz.prog.globals[3]?).map (·.type)).getD 0) (k:=.i64) (zs:=[0,0,2,3,4,5]) h (by kernel_rfl) (List.mem_of_getElem? (i:=1) rfl) (by kernel_rfl) (by kernel_rfl) (by kernel_rfl) rfl (by simp))
 by_cases e4:g = 4
 ·subst e4
  rw [look_G0_4]
  exact .inr (Za4 (t:=((Tryz.prog.globals[4]?).map (·.type)).getD 0) (k:=.i64) (zs:=[0,9,10]) h (by kernel_rfl) (List.mem_of_getElem? (i:=2) rfl) (by kernel_rfl) (by kernel_rfl) (by kernel_rfl) rfl (by simp))
 refine .inl ?_
 unfold G0
 rw [show Go.Av.look ((0,_) :: _) g = _ from Z2S _ _ _ _,if_neg (fun q=>e0 q.symm)]
 rw [show Go.Av.look ((2,_) :: _) g = _ from Z2S _ _ _ _,if_neg (fun q=>e2 q.symm)]
 rw [show Go.Av.look ((3,_) :: _) g = _ from Z2S _ _ _ _,if_neg (fun q=>e3 q.symm)]
 rw [show Go.Av.look ((4,_) :: _) g = _ from Z2S _ _ _ _,if_neg (fun q=>e4 q.symm)]
 rfl
noncomputable def Z96 (os:Os):World :=
 { World.holding Tryz.prog os ⟨#[],#[],[]⟩ with heap:=(((((World.holding Tryz.prog os ⟨#[],#[],[]⟩).heap.modify 2 fun
    | .cells _ t fr=>.cells #[.int .i64 0,.int .i64 1,.int .i64 6,.int .i64 7] t fr
    | o=>o).modify 3 fun
    | .cells _ t fr=>.cells #[.int .i64 0,.int .i64 0,.int .i64 2,.int .i64 3,.int .i64 4,.int .i64 5] t fr
    | o=>o).modify 4 fun
    | .cells _ t fr=>.cells #[.int .i64 0,.int .i64 9,.int .i64 10] t fr
    | o=>o).modify 0 fun
    | .cells _ t fr=>.cells #[.int .i64 11,.int .i64 12,.int .i64 13,.int .i64 14] t fr
    | o=>o) }
theorem ZiG (os:Os):laidMetH Tryz.prog Rows.codegenLadderMatchesReferenceUptoRow.laid ((Z96 os).forCall (fun _ _=>0) ⟨#[],#[.agg #[.int .i64 0,.int .i64 0,.int .i64 0,.slice none 0 0]],[]⟩).memory:=by
 rw [Go.MakeChecks.laidMetH_plain _ _ _ (by kernel_rfl)]
 exact laidMet_of_run' 8 (by kernel_rfl) (by kernel_rfl)
theorem ZkG (os:Os) {H:Type} (enc:TypeId × Value -> H):∃ places,DataW.whole enc Tryz.prog ((Z96 os).forCall (fun _ _=>0) ⟨#[],#[.agg #[.int .i64 0,.int .i64 0,.int .i64 0,.slice none 0 0]],[]⟩).memory Tryz.f5.params.toList Rows.codegenLadderMatchesReferenceSpec.vars false (#[.agg #[.int .i64 0,.int .i64 0,.int .i64 0,.slice none 0 0]]:Array Value).toList 8 = some ([.agg [.lit (.int .i64 0),.lit (.int .i64 0),.lit (.int .i64 0),.nil]],[],places) :=
 ⟨[],by kernel_rfl⟩
set_option maxRecDepth 100000 in
theorem Zk6 (os:Os) (started:os.Started) (H:Type) (enc:TypeId × Value -> H) (F:Stop.Interp) :
 ReturnsInHanded {} Tryz.checked os 5 .any ((Rows.OpenSpec.upto Rows.codegenLadderMatchesReferenceSpec).preRow enc Tryz.prog Tryz.f5 Rows.codegenLadderMatchesReferenceUptoRow.domain false Rows.codegenLadderMatchesReferenceUptoRow.laid) (((Rows.OpenSpec.upto Rows.codegenLadderMatchesReferenceSpec).at F).post enc Tryz.prog Tryz.f5 false true false false):=by
 obtain ⟨places,hx⟩:=ZkG os enc
 refine returnsInHanded_of_row (C:=Tryz.checked) (s:=Rows.OpenSpec.upto Rows.codegenLadderMatchesReferenceSpec) own started (by kernel_rfl) Tryz.func5
  (witness_row_at (enc:=enc) (C:=Tryz.checked) false (Z96 os) #[.agg #[.int .i64 0,.int .i64 0,.int .i64 0,.slice none 0 0]] rfl (by kernel_rfl) (by kernel_rfl) (by kernel_rfl)
    (OpenSpec.preRow_of_cond 8 hx (by kernel_rfl) (fun k hk=>by cases hk; kernel_rfl) (by kernel_rfl) (ZiG os))) ?_
 intro W base args ds gs before hval hW _ hcond _ hL _ _
 refine ZgM [58] (by rw [Tryz.params5]) (by kernel_rfl) Tryz.underlying4 ZjV ?_ rfl ?_ (Zhk oa_58 Zii) (N:=1048576) ?_ enc Zkq W (ZkY hL) base args ds gs before hval hW (Zib (hcond _ rfl))
 ·intro t ht
  simp only [List.mem_cons,List.not_mem_nil,or_false] at ht
  rcases ht with rfl <;> exact ⟨by kernel_rfl,by decide +kernel⟩
 ·intro H ds h
  match ds,h with
  | [d0],_=>rfl
 ·rintro ⟨a0,u⟩ hok hsz
  have h1:=Zgd (c:=Z59) (fun a=>by simp only [Z59,kL]; omega) a0.Rungs
  have h2:(kL Z59).sz a0.Rungs <= 1048576:=by simp only [Z9p,Z8e] at hsz; omega
  have hbig:bigL a0:=⟨by omega,fun r hr=>by
   have h3:=Zl1 hr h2
   have h4:=Zgd (c:=Z5A) (fun a=>by show 1 <= 1 + _; omega) r.Contacts
   have h5:=Zgd (c:=Z7B) (fun a=>by show 1 <= 1 + _; omega) r.Coils
   simp only [Z59] at h3
   exact ⟨by omega,by omega⟩⟩
  exact Z5q (Zic a0 hbig)
theorem Zl2:Rows.CodegenLadderMatchesReferenceUptoSaid :=
 OpenClaim.holds_of_cond 5 Tryz.f5 rfl rfl rfl rfl rfl rfl rfl ⟨rfl,rfl,rfl,rfl,rfl⟩ rfl rfl rfl rfl rfl (by kernel_rfl) Tryz.func5 (by kernel_rfl)
  (of_decide_eq_true (by kernel_rfl)) (by unfold Func.isWrapper; first | (rw [if_pos (by decide +kernel)]; kernel_rfl) | (rw [if_neg (by decide +kernel)]; exact ⟨rfl,rfl⟩))
  (fun os started H enc _ F=>by rw [OpenClaim.pre_eq_preRow]; exact Zk6 os started H enc F)
theorem ZkC (f:FuncId) (fn:Func) (hf:Tryz.pinned.checked.prog.funcNamed Rows.codegenLadderMatchesReferenceUptoRow.func = some f) (hfn:Tryz.pinned.checked.prog.funcs[f]? = some fn) :
 false = Tryz.pinned.checked.prog.looks [] /\ ∀ (j:Nat) t,fn.params[j]? = some t -> Tryz.pinned.checked.prog.wantsStandIn t = false:=by
 obtain rfl:f = 5:=Option.some.inj ((show Tryz.prog.funcNamed Rows.codegenLadderMatchesReferenceUptoRow.func = some 5 by kernel_rfl).symm.trans hf) |>.symm
 obtain rfl:fn = Tryz.f5:=(Option.some.inj (Tryz.func5.symm.trans hfn)).symm
 refine ⟨by kernel_rfl,fun j t ht=>?_⟩
 rw [Tryz.params5] at ht
 have hm:t ∈ [58]:=by simpa using Array.mem_of_getElem? ht
 have hall:([58].all fun u=>!Tryz.prog.wantsStandIn u) = true:=by kernel_rfl
 exact (show Tryz.prog.wantsStandIn t = false by simpa using List.all_eq_true.1 hall t hm)
theorem ladder_holds:Rows.CodegenLadderMatchesReferenceUptoCardSaid :=
 Claim7.holds_tied_plain_at .later [] _ _ _ _ Zl2 (fun _ h=>by cases h) (by kernel_rfl) (fun _ h=>by cases h) codegenLadderMatchesReferenceUpto_row_tie rfl ⟨rfl,rfl⟩ (by kernel_rfl) rfl ZkC (by kernel_rfl)
#print axioms ladder_holds
end Go.Proofs.YtaebdeidbibfkaaGreatDoor
