/- The Av framework: a contract at arguments that say more. No law is proved here. -/
import Derived.Test.YtgbgmijighbfbaaGv22
set_option linter.unusedSimpArgs false
set_option linter.unusedVariables false
set_option linter.unusedSectionVars false
namespace Go.Av

theorem Con.args {P : Program} {f : FuncId} {args args' : List AV} {r : AV} {H' : List AObj} (h : Con P f args r H') (ha : All2 (AvLe [] [] 0) args' args) : Con P f args' r H' := by
  refine ⟨h.fn, fun E w vals hh hv => ?_⟩
  have hl : RelocH [] 0 ([] : List AObj) [] := relocH_nil
  have hh' := reloc_heap hh hl
  have hv' : ArgsRep (renv E [] 0 [] []) w args vals := ⟨by have := ha.len; have := hv.1; omega, fun i c hc => by
    have hi : i < args'.length := by have := ha.len; have := get_lt hc; omega
    exact reloc_rep hh hl (ha.get i _ c (List.getElem?_eq_getElem hi) hc) (hv.2 i _ (List.getElem?_eq_getElem hi))⟩
  refine (h.calls _ w vals hh' hv').mono fun e w' he => ?_
  cases e with
  | returned x =>
    obtain ⟨r', H'', E', hK, hr, haf⟩ := he
    refine ⟨r', H'', E', hK, hr, haf.heap, ?_, fun b hb => haf.F b (.inl hb), fun b hb => ?_, haf.len, fun id hi => by simp at hi, haf.new⟩
    · exact ⟨haf.keeps.os, haf.keeps.tape, haf.keeps.output, haf.keeps.size, fun b hb _ => haf.keeps.block b hb (fun ⟨id, ⟨o, ho, _⟩, _⟩ => by simp at ho), haf.keeps.frz⟩
    · rcases haf.Fnew b hb with g | g
      · rcases g with g | ⟨id, _, ⟨o, ho, _⟩, _⟩
        · exact .inl g
        · simp at ho
      · exact .inr g
  | _ => exact he

end Go.Av
