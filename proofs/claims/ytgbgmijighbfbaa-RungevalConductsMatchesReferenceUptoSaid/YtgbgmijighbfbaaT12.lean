/- The contract of the reference's Conducts. -/
import Derived.Test.YtgbgmijighbfbaaT11
set_option linter.unusedSimpArgs false
set_option linter.unusedVariables false
namespace Go.Proofs.Ytgbgmijighbfbaa
open Go.Av
attribute [local simp] runf guardA opf St.ev Go.Av.look St.setd constAV constAV0 opBin opLen intBin St.need lookT TT0 tab resA resOne resAll blt_dec ble_dec beq_dec isPure
attribute [local simp] opMakeSlice opCopy opIndexAddr opLoad opStore St.mem St.rows opUn calleeA toArgs toArg toArg0 toArgs0 shift shift0 shift1 splice cellsOf isFree ofCells TS.isAgg isCell
attribute [local simp] aBools aState opBuildSlice fillA opAppend St.newBox runI valKind withinB readsHp refsD refs noSl opFieldAddr opBuild placeOf Op.operands Call.operands opIndex opExtract opSlice opField partA
attribute [local congr] bind_congr1 map_congr1 cond_congr1
attribute [local simp] aAddr aSta strBin
set_option maxHeartbeats 4000000
set_option linter.unusedSimpArgs false

def ClosedR (cs : List Ct) (on : List Bool) (h : List Str) : Prop := ∀ (i : Nat) (c : Ct), cs[i]? = some c → on[i]? = some true → c.fr ∈ h → c.to ∈ h
def Part (cs : List Ct) (on : List Bool) (h : List Str) (n : Nat) : Prop := ∀ (i : Nat) (c : Ct), i < n → cs[i]? = some c → on[i]? = some true → c.fr ∈ h → c.to ∈ h

structure RInv (cs : List Ct) (on : List Bool) (r : Nat) (h : List Str) : Prop where
  reach : ∀ x ∈ h, Reach cs on x
  left : strL ∈ h
  done : ClosedR cs on h ∨ cnt cs h + r ≤ cs.length
  small : cnt cs h + h.length ≤ cs.length + 1

structure RInv2 (cs : List Ct) (on : List Bool) (h0 : List Str) (i : Nat) (h : List Str) : Prop where
  reach : ∀ x ∈ h, Reach cs on x
  left : strL ∈ h
  go : (h = h0 ∧ Part cs on h i) ∨ (cnt cs h + 1 ≤ cnt cs h0 ∧ ¬ ClosedR cs on h0)
  small : cnt cs h + h.length ≤ cs.length + 1

theorem RInv.start (cs : List Ct) (on : List Bool) : RInv cs on 0 [strL] :=
  ⟨fun x hx => by simp at hx; subst hx; exact .left, by simp, .inr (by have := cnt_le cs [strL]; omega), by have := cnt_le cs [strL]; simp; omega⟩

theorem RInv.pass {cs : List Ct} {on : List Bool} {r : Nat} {h : List Str} (hi : RInv cs on r h) : RInv2 cs on h 0 h :=
  ⟨hi.reach, hi.left, .inl ⟨rfl, fun i c h0 => by omega⟩, hi.small⟩

theorem RInv2.next {cs : List Ct} {on : List Bool} {r : Nat} {h0 h : List Str} (hr : RInv cs on r h0) (hi : RInv2 cs on h0 cs.length h) : RInv cs on (r + 1) h := by
  refine ⟨hi.reach, hi.left, ?_, hi.small⟩
  rcases hi.go with ⟨e, g⟩ | ⟨g, g2⟩
  · exact .inl fun i c h1 h2 h3 => g i c (get_lt h1) h1 h2 h3
  · rcases hr.done with q | q
    · exact absurd q g2
    · exact .inr (by omega)

theorem RInv2.skip {cs : List Ct} {on : List Bool} {i : Nat} {h0 h : List Str} (hi : RInv2 cs on h0 i h) (hs : ∀ c, cs[i]? = some c → on[i]? = some true → c.fr ∈ h → c.to ∈ h) : RInv2 cs on h0 (i + 1) h := by
  refine ⟨hi.reach, hi.left, ?_, hi.small⟩
  rcases hi.go with ⟨e, g⟩ | g
  · refine .inl ⟨e, fun k c hk h1 h2 h3 => ?_⟩
    by_cases hki : k = i
    · subst hki; exact hs c h1 h2 h3
    · exact g k c (by omega) h1 h2 h3
  · exact .inr g

theorem RInv2.push {cs : List Ct} {on : List Bool} {i : Nat} {h0 h : List Str} (hi : RInv2 cs on h0 i h) {c : Ct} (h1 : cs[i]? = some c) (h2 : on[i]? = some true) (h3 : c.fr ∈ h) (h4 : c.to ∉ h) : RInv2 cs on h0 (i + 1) (h ++ [c.to]) := by
  have hlt := cnt_lt h4 (List.mem_of_getElem? h1)
  refine ⟨fun x hx => ?_, by simp [hi.left], .inr ?_, by have := hi.small; simp; omega⟩
  · rcases List.mem_append.1 hx with g | g
    · exact hi.reach x g
    · simp at g; subst g; exact .step i c h1 h2 (hi.reach _ h3)
  · rcases hi.go with ⟨e, g⟩ | ⟨g, g2⟩
    · subst e; exact ⟨hlt, fun hc => h4 (hc i c h1 h2 h3)⟩
    · exact ⟨by omega, g2⟩

theorem RInv.ends {cs : List Ct} {on : List Bool} {h : List Str} (hi : RInv cs on (cs.length + 1) h) : decide (strR ∈ h) = reachB cs on := by
  have hc : ClosedR cs on h := by
    rcases hi.done with g | g
    · exact g
    · omega
  have hn : cnt cs h + 0 ≤ cs.length + 1 := by have := cnt_le cs h; omega
  exact Inv.ends (h := h) ⟨hi.reach, hi.left, fun x hx => .inr fun i c _ h1 h2 h3 => hc i c h1 h2 (h3 ▸ hx), fun x hx => by simp at hx, by simpa using hn⟩

def rowS (h : List Str) : Nat → List AV := fun i => [.str (h.getD i default)]

theorem rowS_push {h : List Str} {x : Str} {k : Nat} (hk : k < h.length + 1) : appendRow h.length (fun i => rowS h i) (rowsOf 1 [.str x]) k = rowS (h ++ [x]) k := by
  simp only [appendRow, rowS]
  split
  · rename_i hlt; simp [List.getD, List.getElem?_append_left hlt]
  · have : k = h.length := by omega
    subst this; simp [rowsOf]

theorem take_succ {h : List Str} {k : Nat} {x y : Str} (hk : h[k]? = some y) : (x ∈ h.take (k + 1)) ↔ (x ∈ h.take k ∨ y = x) := by
  rw [List.take_add_one, hk]; simp [eq_comm]


def r0Head (rung : List AV) (ons : AV) (x : Nat × List Str) : St :=
  { ch := [(1, ons), (2, .hptr 0 0 0), (6, .sl 1 0 x.2.length), (7, .int .i64 x.1)], hp := [.var rung, .arr 1 x.2.length (rowS x.2)], base := 0, n := 90, cond := True }

def r1Head (rung : List AV) (ons : AV) (r : Nat) (x : Nat × List Str) : St :=
  { ch := [(1, ons), (2, .hptr 0 0 0), (6, .sl 1 0 x.2.length), (7, .int .i64 r), (8, .int .i64 x.1)], hp := [.var rung, .arr 1 x.2.length (rowS x.2)], base := 0, n := 90, cond := True }

def r2Head (rung : List AV) (ons : AV) (r i : Nat) (h : List Str) (c : Ct) (k : Nat) : St :=
  { ch := [(1, ons), (2, .hptr 0 0 0), (6, .sl 1 0 h.length), (7, .int .i64 r), (8, .int .i64 i), (9, .bool (decide (c.fr ∈ h.take k))), (10, .bool (decide (c.to ∈ h.take k))), (11, .int .i64 k)],
    hp := [.var rung, .arr 1 h.length (rowS h)], base := 0, n := 90, cond := True }

def r3Head (h : List Str) (k : Nat) : St :=
  { ch := [(6, .sl 0 0 h.length), (12, .int .i64 k)], hp := [.arr 1 h.length (rowS h)], base := 0, n := 90, cond := True }

theorem rconducts_con (lab j : ByteArray) (cs : List Ct) (os : List Co) (on : List Bool) (hcs : cs.length ≤ 1000000) :
    Con Try.prog 13 [aRung lab cs os j, aBools on] (.tup [.bool (if on.length = cs.length then reachB cs on else false), .int .i64 (if on.length = cs.length then 0 else 2)]) [] := by
  by_cases hlen : on.length = cs.length
  · rw [if_pos hlen, if_pos hlen]
    have hle : ((on.length : Int) != (cs.length : Int)) = false := by simp; omega
    refine con_of (T := TT0) tt_ok Try.func13 (c := _) (by unfold Try.f13; rfl) Try.ntmps13 (rs := [.tmp 4, .tmp 5]) (by rw [Try.results13]) (by unfold Try.f13; rfl) (by simp) ?_
    simp only [argsCh, aRung, aBools]
    refine Wp.reg_seq (own := fun d => Nat.beq d 19) tt_ok ?_
    iterate 3
      refine regv_pure (s1 := ?_) rfl rfl ?_ ?_ ?_
      rotate_left
      · simp [aCts, aCos, hle]; rfl
      · first | (simp [aCts, aCos, hle]; done) | (simp [aCts, aCos, hle]; omega) | (simp [aCts, aCos, hle, rowsOf]; omega) | skip
    refine regv_nil ?_
    refine Wp.seq ?_
    refine Wp.reg_seq (own := fun d => Nat.beq d 19) tt_ok ?_
    iterate 6
      refine regv_pure (s1 := ?_) rfl rfl ?_ ?_ ?_
      rotate_left
      · simp [aCts, aCos, hle]; rfl
      · first | (simp [aCts, aCos, hle]; done) | (simp [aCts, aCos, hle]; omega) | (simp [aCts, aCos, hle, rowsOf]; omega) | skip
    refine regv_nil ?_
    refine Wp.cond false rfl (fun h => by cases h) (fun _ => ?_)
    refine Wp.skip ?_
    show Wp _ _ _ _
    refine Wp.reg_seq (own := fun d => Nat.beq d 19) tt_ok ?_
    iterate 2
      refine regv_pure (s1 := ?_) rfl rfl ?_ ?_ ?_
      rotate_left
      · simp [aCts, aCos, hle]; rfl
      · first | (simp [aCts, aCos, hle]; done) | (simp [aCts, aCos, hle]; omega) | (simp [aCts, aCos, hle, rowsOf]; omega) | skip
    refine regv_nil ?_
    refine Wp.seq ?_
    refine Wp.reg_seq (own := fun d => Nat.beq d 19) tt_ok ?_
    iterate 1
      refine regv_pure (s1 := ?_) rfl rfl ?_ ?_ ?_
      rotate_left
      · simp [aCts, aCos, hle]; rfl
      · first | (simp [aCts, aCos, hle]; done) | (simp [aCts, aCos, hle]; omega) | (simp [aCts, aCos, hle, rowsOf]; omega) | skip
    refine regv_nil ?_
    refine Wp.block ?_
    refine Wp.loop (α := Nat × List Str) (r0Head [.str lab, aCts cs, aCos os, .str j] (aBools on)) (fun x => on.length + 2 - x.1) (fun x => x.1 ≤ on.length + 1 ∧ RInv cs on x.1 x.2) ?_ ((0, [strL])) ?_ ?_
    rotate_left
    ·
      exact ⟨Nat.zero_le _, RInv.start cs on⟩
    ·
      refine Reloc.mk2 [some 0, some 1] rfl rfl rfl (by decide) ?_ ?_
      · repeat' first | exact objsLe_nil | refine objsLe_cons ?_ ?_
        all_goals first
          | (refine ObjLe.var' rfl rfl ?_ rfl
             repeat' first | exact All2.nil | refine All2.cons ?_ ?_
             all_goals first | (exact AvLe.refl _ rfl) | (exact AvLe.hptr _ _ _ _ rfl) | (exact AvLe.sl _ _ _ _ rfl) | (exact AvLe.sl' rfl (by simp) (by simp)) | (exact AvLe.mp _ _ rfl) | (exact AvLe.nil _) | (exact AvLe.ghost _ rfl) | (exact AvLe.eq (by simp [aCts, aCos, hle]; done) rfl) | (exact ObjLe.arr' rfl rfl (by simp) (one_row rfl)))
          | (exact ObjLe.map' rfl rfl)
          | (exact ObjLe.ghost' rfl (by decide))
          | (exact ObjLe.arr' rfl rfl (by first | (simp; done) | (simp; omega)) (fun _ _ => rfl))
          | (exact ObjLe.arr' rfl rfl (by simp) (one_row rfl))
      · repeat' first | exact chLe_nil | refine chLe_cons ?_ ?_
        all_goals first
          | (exact AvLe.refl _ rfl)
          | (exact AvLe.hptr _ _ _ _ rfl)
          | (exact AvLe.sl _ _ _ _ rfl)
          | (exact AvLe.sl' rfl (by simp) (by simp))
          | (exact AvLe.mp _ _ rfl)
          | (exact AvLe.nil _)
          | (exact AvLe.ghost _ rfl)
          | (exact AvLe.eq (by simp [aCts, aCos, hle]; done) rfl)
          | (exact ObjLe.arr' rfl rfl (by simp) (one_row rfl))
    rintro ⟨r, h0⟩ ⟨hrle, hinv0⟩
    simp only [r0Head]
    simp only at hrle hinv0
    rcases Nat.lt_or_ge on.length r with hi | hi
    ·
      have hre : r = cs.length + 1 := by omega
      have hgt : ¬ (r : Int) ≤ on.length := by omega
      rw [hre] at hinv0
      have hinv := hinv0
      have hsm := hinv.small
      refine Wp.seq ?_
      refine Wp.reg_seq (own := fun d => Nat.beq d 19) tt_ok ?_
      iterate 4
        refine regv_pure (s1 := ?_) rfl rfl ?_ ?_ ?_
        rotate_left
        · simp [aCts, aCos, hle, hgt]; rfl
        · first | (simp [aCts, aCos, hle, hgt]; done) | (simp [aCts, aCos, hle, hgt]; omega) | (simp [aCts, aCos, hle, hgt, rowsOf]; omega) | skip
      refine regv_nil ?_
      refine Wp.cond false rfl (fun h => by cases h) (fun _ => ?_)
      refine Wp.exit ?_
      show Wp _ _ _ _
      refine Wp.seq ?_
      refine Wp.reg_seq (own := fun d => Nat.beq d 19) tt_ok ?_
      iterate 1
        refine regv_pure (s1 := ?_) rfl rfl ?_ ?_ ?_
        rotate_left
        · simp [aCts, aCos, hle, hgt]; rfl
        · first | (simp [aCts, aCos, hle, hgt]; done) | (simp [aCts, aCos, hle, hgt]; omega) | (simp [aCts, aCos, hle, hgt, rowsOf]; omega) | skip
      refine regv_nil ?_
      refine Wp.block ?_
      refine Wp.loop (α := Nat) (r3Head h0) (fun k => h0.length - k) (fun k => k ≤ h0.length ∧ ¬ strR ∈ h0.take k) ?_ (0) ?_ ?_
      rotate_left
      ·
        exact ⟨Nat.zero_le _, by simp⟩
      ·
        refine Reloc.mk2 [some 1] rfl rfl rfl (by decide) ?_ ?_
        · repeat' first | exact objsLe_nil | refine objsLe_cons ?_ ?_
          all_goals first
            | (refine ObjLe.var' rfl rfl ?_ rfl
               repeat' first | exact All2.nil | refine All2.cons ?_ ?_
               all_goals first | (exact AvLe.refl _ rfl) | (exact AvLe.hptr _ _ _ _ rfl) | (exact AvLe.sl _ _ _ _ rfl) | (exact AvLe.sl' rfl (by simp) (by simp)) | (exact AvLe.mp _ _ rfl) | (exact AvLe.nil _) | (exact AvLe.ghost _ rfl) | (exact AvLe.eq (by simp [aCts, aCos, hle, hgt]; done) rfl))
            | (exact ObjLe.map' rfl rfl)
            | (exact ObjLe.ghost' rfl (by decide))
            | (exact ObjLe.arr' rfl rfl (by first | (simp; done) | (simp; omega)) (fun _ _ => rfl))
        · repeat' first | exact chLe_nil | refine chLe_cons ?_ ?_
          all_goals first
            | (exact AvLe.refl _ rfl)
            | (exact AvLe.hptr _ _ _ _ rfl)
            | (exact AvLe.sl _ _ _ _ rfl)
            | (exact AvLe.sl' rfl (by simp) (by simp))
            | (exact AvLe.mp _ _ rfl)
            | (exact AvLe.nil _)
            | (exact AvLe.ghost _ rfl)
            | (exact AvLe.eq (by simp [aCts, aCos, hle, hgt]; done) rfl)
      rintro k ⟨hkle, hno⟩
      simp only [r3Head]
      generalize h0 = h at *
      rcases Nat.lt_or_ge k h.length with hk | hk
      ·
        obtain ⟨y, hy⟩ : ∃ y, h[k]? = some y := ⟨h[k], List.getElem?_eq_getElem hk⟩
        have hlt : (k : Int) < h.length := by omega
        have hwrap := wrap_succ k (by omega)
        by_cases hye : y = strR
        ·
          have hr : strR ∈ h := by rw [← hye]; exact List.mem_of_getElem? hy
          have hye' : (y.toList == [82]) = true := by have hq := str_beq y strR; rw [show strR.toList = [82] by rw [ByteArray.toList_eq]; rfl] at hq; rw [hq]; simp [hye]
          refine Wp.seq ?_
          refine Wp.reg_seq (own := fun d => Nat.beq d 19) tt_ok ?_
          iterate 4
            refine regv_pure (s1 := ?_) rfl rfl ?_ ?_ ?_
            rotate_left
            · simp [aCts, aCos, hle, hgt, hlt, hwrap, hy, rowS, str_beq, hye']; rfl
            · first | (simp [aCts, aCos, hle, hgt, hlt, hwrap, hy, rowS, str_beq, hye']; done) | (simp [aCts, aCos, hle, hgt, hlt, hwrap, hy, rowS, str_beq, hye']; omega) | (simp [aCts, aCos, hle, hgt, hlt, hwrap, hy, rowS, str_beq, hye', rowsOf]; omega) | skip
          refine regv_nil ?_
          refine Wp.cond true rfl (fun _ => ?_) (fun h => by cases h)
          refine Wp.skip ?_
          show Wp _ _ _ _
          refine Wp.seq ?_
          refine Wp.block ?_
          refine Wp.reg_seq (own := fun d => Nat.beq d 19) tt_ok ?_
          iterate 5
            refine regv_pure (s1 := ?_) rfl rfl ?_ ?_ ?_
            rotate_left
            · simp [aCts, aCos, hle, hgt, hlt, hwrap, hy, rowS, str_beq, hye']; rfl
            · first | (simp [aCts, aCos, hle, hgt, hlt, hwrap, hy, rowS, str_beq, hye']; done) | (simp [aCts, aCos, hle, hgt, hlt, hwrap, hy, rowS, str_beq, hye']; omega) | (simp [aCts, aCos, hle, hgt, hlt, hwrap, hy, rowS, str_beq, hye', rowsOf]; omega) | skip
          refine regv_nil ?_
          refine Wp.cond true rfl (fun _ => ?_) (fun h => by cases h)
          refine Wp.reg_seq (own := fun d => Nat.beq d 19) tt_ok ?_
          iterate 2
            refine regv_pure (s1 := ?_) rfl rfl ?_ ?_ ?_
            rotate_left
            · simp [aCts, aCos, hle, hgt, hlt, hwrap, hy, rowS, str_beq, hye']; rfl
            · first | (simp [aCts, aCos, hle, hgt, hlt, hwrap, hy, rowS, str_beq, hye']; done) | (simp [aCts, aCos, hle, hgt, hlt, hwrap, hy, rowS, str_beq, hye']; omega) | (simp [aCts, aCos, hle, hgt, hlt, hwrap, hy, rowS, str_beq, hye', rowsOf]; omega) | skip
          refine regv_nil ?_
          refine Wp.ret (endQ_ret0 rfl ?_)
          rw [← hinv.ends]
          exact .tups (.cons (.eq (by simp [hr]) rfl) (.cons (.refl _ rfl) .nil))
        ·
          have hye' : (y.toList == [82]) = false := by have hq := str_beq y strR; rw [show strR.toList = [82] by rw [ByteArray.toList_eq]; rfl] at hq; rw [hq]; simp [hye]
          refine Wp.seq ?_
          refine Wp.reg_seq (own := fun d => Nat.beq d 19) tt_ok ?_
          iterate 4
            refine regv_pure (s1 := ?_) rfl rfl ?_ ?_ ?_
            rotate_left
            · simp [aCts, aCos, hle, hgt, hlt, hwrap, hy, rowS, str_beq, hye']; rfl
            · first | (simp [aCts, aCos, hle, hgt, hlt, hwrap, hy, rowS, str_beq, hye']; done) | (simp [aCts, aCos, hle, hgt, hlt, hwrap, hy, rowS, str_beq, hye']; omega) | (simp [aCts, aCos, hle, hgt, hlt, hwrap, hy, rowS, str_beq, hye', rowsOf]; omega) | skip
          refine regv_nil ?_
          refine Wp.cond true rfl (fun _ => ?_) (fun h => by cases h)
          refine Wp.skip ?_
          show Wp _ _ _ _
          refine Wp.seq ?_
          refine Wp.block ?_
          refine Wp.reg_seq (own := fun d => Nat.beq d 19) tt_ok ?_
          iterate 5
            refine regv_pure (s1 := ?_) rfl rfl ?_ ?_ ?_
            rotate_left
            · simp [aCts, aCos, hle, hgt, hlt, hwrap, hy, rowS, str_beq, hye']; rfl
            · first | (simp [aCts, aCos, hle, hgt, hlt, hwrap, hy, rowS, str_beq, hye']; done) | (simp [aCts, aCos, hle, hgt, hlt, hwrap, hy, rowS, str_beq, hye']; omega) | (simp [aCts, aCos, hle, hgt, hlt, hwrap, hy, rowS, str_beq, hye', rowsOf]; omega) | skip
          refine regv_nil ?_
          refine Wp.cond false rfl (fun h => by cases h) (fun _ => ?_)
          refine Wp.skip ?_
          show Wp _ _ _ _
          refine Wp.reg (own := fun d => Nat.beq d 19) tt_ok ?_
          iterate 3
            refine regv_pure (s1 := ?_) rfl rfl ?_ ?_ ?_
            rotate_left
            · simp [aCts, aCos, hle, hgt, hlt, hwrap, hy, rowS, str_beq, hye']; rfl
            · first | (simp [aCts, aCos, hle, hgt, hlt, hwrap, hy, rowS, str_beq, hye']; done) | (simp [aCts, aCos, hle, hgt, hlt, hwrap, hy, rowS, str_beq, hye']; omega) | (simp [aCts, aCos, hle, hgt, hlt, hwrap, hy, rowS, str_beq, hye', rowsOf]; omega) | skip
          refine regv_nil ?_
          refine loopQ_next (k + 1) ⟨by omega, fun hm => ?_⟩ (by omega) ?_
          · rcases (take_succ hy).1 hm with g | g
            · exact hno g
            · exact hye g
          ·
            refine Reloc.mk2 [some 0] rfl rfl rfl (by decide) ?_ ?_
            · repeat' first | exact objsLe_nil | refine objsLe_cons ?_ ?_
              all_goals first
                | (refine ObjLe.var' rfl rfl ?_ rfl
                   repeat' first | exact All2.nil | refine All2.cons ?_ ?_
                   all_goals first | (exact AvLe.refl _ rfl) | (exact AvLe.hptr _ _ _ _ rfl) | (exact AvLe.sl _ _ _ _ rfl) | (exact AvLe.sl' rfl (by simp) (by simp)) | (exact AvLe.mp _ _ rfl) | (exact AvLe.nil _) | (exact AvLe.ghost _ rfl) | (exact AvLe.eq (by simp [aCts, aCos, hle, hgt, hlt, hwrap, hy, rowS, str_beq, hye']; done) rfl))
                | (exact ObjLe.map' rfl rfl)
                | (exact ObjLe.ghost' rfl (by decide))
                | (exact ObjLe.arr' rfl rfl (by first | (simp; done) | (simp; omega)) (fun _ _ => rfl))
            · repeat' first | exact chLe_nil | refine chLe_cons ?_ ?_
              all_goals first
                | (exact AvLe.refl _ rfl)
                | (exact AvLe.hptr _ _ _ _ rfl)
                | (exact AvLe.sl _ _ _ _ rfl)
                | (exact AvLe.sl' rfl (by simp) (by simp))
                | (exact AvLe.mp _ _ rfl)
                | (exact AvLe.nil _)
                | (exact AvLe.ghost _ rfl)
                | (exact AvLe.eq (by simp [aCts, aCos, hle, hgt, hlt, hwrap, hy, rowS, str_beq, hye']; done) rfl)
      ·
        have hke : k = h.length := by omega
        have hr : ¬ strR ∈ h := by rw [hke, List.take_length] at hno; exact hno
        have hge : ¬ (k : Int) < h.length := by omega
        refine Wp.seq ?_
        refine Wp.reg_seq (own := fun d => Nat.beq d 19) tt_ok ?_
        iterate 4
          refine regv_pure (s1 := ?_) rfl rfl ?_ ?_ ?_
          rotate_left
          · simp [aCts, aCos, hle, hgt, hge]; rfl
          · first | (simp [aCts, aCos, hle, hgt, hge]; done) | (simp [aCts, aCos, hle, hgt, hge]; omega) | (simp [aCts, aCos, hle, hgt, hge, rowsOf]; omega) | skip
        refine regv_nil ?_
        refine Wp.cond false rfl (fun h => by cases h) (fun _ => ?_)
        refine Wp.exit ?_
        show Wp _ _ _ _
        refine Wp.reg_seq (own := fun d => Nat.beq d 19) tt_ok ?_
        iterate 2
          refine regv_pure (s1 := ?_) rfl rfl ?_ ?_ ?_
          rotate_left
          · simp [aCts, aCos, hle, hgt, hge]; rfl
          · first | (simp [aCts, aCos, hle, hgt, hge]; done) | (simp [aCts, aCos, hle, hgt, hge]; omega) | (simp [aCts, aCos, hle, hgt, hge, rowsOf]; omega) | skip
        refine regv_nil ?_
        refine Wp.ret (endQ_ret0 rfl ?_)
        rw [← hinv.ends]
        exact .tups (.cons (.eq (by simp [hr]) rfl) (.cons (.refl _ rfl) .nil))
    ·
      have hle2 : (r : Int) ≤ on.length := by omega
      have hwrapr := wrap_succ r (by omega)
      refine Wp.seq ?_
      refine Wp.reg_seq (own := fun d => Nat.beq d 19) tt_ok ?_
      iterate 4
        refine regv_pure (s1 := ?_) rfl rfl ?_ ?_ ?_
        rotate_left
        · simp [aCts, aCos, hle, hle2]; rfl
        · first | (simp [aCts, aCos, hle, hle2]; done) | (simp [aCts, aCos, hle, hle2]; omega) | (simp [aCts, aCos, hle, hle2, rowsOf]; omega) | skip
      refine regv_nil ?_
      refine Wp.cond true rfl (fun _ => ?_) (fun h => by cases h)
      refine Wp.skip ?_
      show Wp _ _ _ _
      refine Wp.seq ?_
      refine Wp.block ?_
      refine Wp.reg_seq (own := fun d => Nat.beq d 19) tt_ok ?_
      iterate 1
        refine regv_pure (s1 := ?_) rfl rfl ?_ ?_ ?_
        rotate_left
        · simp [aCts, aCos, hle, hle2]; rfl
        · first | (simp [aCts, aCos, hle, hle2]; done) | (simp [aCts, aCos, hle, hle2]; omega) | (simp [aCts, aCos, hle, hle2, rowsOf]; omega) | skip
      refine regv_nil ?_
      refine Wp.block ?_
      refine Wp.loop (α := Nat × List Str) (r1Head [.str lab, aCts cs, aCos os, .str j] (aBools on) r) (fun x => on.length - x.1) (fun x => x.1 ≤ on.length ∧ RInv2 cs on h0 x.1 x.2) ?_ ((0, h0)) ?_ ?_
      rotate_left
      ·
        exact ⟨Nat.zero_le _, hinv0.pass⟩
      ·
        refine Reloc.mk2 [some 0, some 1] rfl rfl rfl (by decide) ?_ ?_
        · repeat' first | exact objsLe_nil | refine objsLe_cons ?_ ?_
          all_goals first
            | (refine ObjLe.var' rfl rfl ?_ rfl
               repeat' first | exact All2.nil | refine All2.cons ?_ ?_
               all_goals first | (exact AvLe.refl _ rfl) | (exact AvLe.hptr _ _ _ _ rfl) | (exact AvLe.sl _ _ _ _ rfl) | (exact AvLe.sl' rfl (by simp) (by simp)) | (exact AvLe.mp _ _ rfl) | (exact AvLe.nil _) | (exact AvLe.ghost _ rfl) | (exact AvLe.eq (by simp [aCts, aCos, hle, hle2]; done) rfl))
            | (exact ObjLe.map' rfl rfl)
            | (exact ObjLe.ghost' rfl (by decide))
            | (exact ObjLe.arr' rfl rfl (by first | (simp; done) | (simp; omega)) (fun _ _ => rfl))
        · repeat' first | exact chLe_nil | refine chLe_cons ?_ ?_
          all_goals first
            | (exact AvLe.refl _ rfl)
            | (exact AvLe.hptr _ _ _ _ rfl)
            | (exact AvLe.sl _ _ _ _ rfl)
            | (exact AvLe.sl' rfl (by simp) (by simp))
            | (exact AvLe.mp _ _ rfl)
            | (exact AvLe.nil _)
            | (exact AvLe.ghost _ rfl)
            | (exact AvLe.eq (by simp [aCts, aCos, hle, hle2]; done) rfl)
      rintro ⟨i, h⟩ ⟨hile, hinv⟩
      simp only [r1Head]
      simp only at hile hinv
      rcases Nat.lt_or_ge i on.length with hi | hi
      ·
        obtain ⟨c, hc⟩ : ∃ c, cs[i]? = some c := ⟨cs[i], List.getElem?_eq_getElem (by omega)⟩
        obtain ⟨v, hv⟩ : ∃ v, on[i]? = some v := ⟨on[i], List.getElem?_eq_getElem hi⟩
        have hlti : (i : Int) < on.length := by omega
        have hlti2 : (i : Int) < cs.length := by omega
        have hwrapi := wrap_succ i (by omega)
        cases v
        ·
          refine Wp.seq ?_
          refine Wp.reg_seq (own := fun d => Nat.beq d 19) tt_ok ?_
          iterate 4
            refine regv_pure (s1 := ?_) rfl rfl ?_ ?_ ?_
            rotate_left
            · simp [aCts, aCos, hle, hle2, hlti, hlti2, hwrapi, hv]; rfl
            · first | (simp [aCts, aCos, hle, hle2, hlti, hlti2, hwrapi, hv]; done) | (simp [aCts, aCos, hle, hle2, hlti, hlti2, hwrapi, hv]; omega) | (simp [aCts, aCos, hle, hle2, hlti, hlti2, hwrapi, hv, rowsOf]; omega) | skip
          refine regv_nil ?_
          refine Wp.cond true rfl (fun _ => ?_) (fun h => by cases h)
          refine Wp.skip ?_
          show Wp _ _ _ _
          refine Wp.seq ?_
          refine Wp.block ?_
          refine Wp.seq ?_
          refine Wp.reg_seq (own := fun d => Nat.beq d 19) tt_ok ?_
          iterate 5
            refine regv_pure (s1 := ?_) rfl rfl ?_ ?_ ?_
            rotate_left
            · simp [aCts, aCos, hle, hle2, hlti, hlti2, hwrapi, hv]; rfl
            · first | (simp [aCts, aCos, hle, hle2, hlti, hlti2, hwrapi, hv]; done) | (simp [aCts, aCos, hle, hle2, hlti, hlti2, hwrapi, hv]; omega) | (simp [aCts, aCos, hle, hle2, hlti, hlti2, hwrapi, hv, rowsOf]; omega) | skip
          refine regv_nil ?_
          refine Wp.cond true rfl (fun _ => ?_) (fun h => by cases h)
          refine Wp.exit ?_
          show Wp _ _ _ _
          refine Wp.reg (own := fun d => Nat.beq d 19) tt_ok ?_
          iterate 3
            refine regv_pure (s1 := ?_) rfl rfl ?_ ?_ ?_
            rotate_left
            · simp [aCts, aCos, hle, hle2, hlti, hlti2, hwrapi, hv]; rfl
            · first | (simp [aCts, aCos, hle, hle2, hlti, hlti2, hwrapi, hv]; done) | (simp [aCts, aCos, hle, hle2, hlti, hlti2, hwrapi, hv]; omega) | (simp [aCts, aCos, hle, hle2, hlti, hlti2, hwrapi, hv, rowsOf]; omega) | skip
          refine regv_nil ?_
          refine loopQ_next (i + 1, h) ⟨by simp only; omega, hinv.skip (by intro d _ h2; rw [hv] at h2; cases h2)⟩ (by simp only; omega) ?_
          refine Reloc.mk2 [some 0, some 1] rfl rfl rfl (by decide) ?_ ?_
          · repeat' first | exact objsLe_nil | refine objsLe_cons ?_ ?_
            all_goals first
              | (refine ObjLe.var' rfl rfl ?_ rfl
                 repeat' first | exact All2.nil | refine All2.cons ?_ ?_
                 all_goals first | (exact AvLe.refl _ rfl) | (exact AvLe.hptr _ _ _ _ rfl) | (exact AvLe.sl _ _ _ _ rfl) | (exact AvLe.sl' rfl (by simp) (by simp)) | (exact AvLe.mp _ _ rfl) | (exact AvLe.nil _) | (exact AvLe.ghost _ rfl) | (exact AvLe.eq (by simp [aCts, aCos, hle, hle2, hlti, hlti2, hwrapi, hv]; done) rfl))
              | (exact ObjLe.map' rfl rfl)
              | (exact ObjLe.ghost' rfl (by decide))
              | (exact ObjLe.arr' rfl rfl (by first | (simp; done) | (simp; omega)) (fun _ _ => rfl))
          · repeat' first | exact chLe_nil | refine chLe_cons ?_ ?_
            all_goals first
              | (exact AvLe.refl _ rfl)
              | (exact AvLe.hptr _ _ _ _ rfl)
              | (exact AvLe.sl _ _ _ _ rfl)
              | (exact AvLe.sl' rfl (by simp) (by simp))
              | (exact AvLe.mp _ _ rfl)
              | (exact AvLe.nil _)
              | (exact AvLe.ghost _ rfl)
              | (exact AvLe.eq (by simp [aCts, aCos, hle, hle2, hlti, hlti2, hwrapi, hv]; done) rfl)
        ·
          refine Wp.seq ?_
          refine Wp.reg_seq (own := fun d => Nat.beq d 19) tt_ok ?_
          iterate 4
            refine regv_pure (s1 := ?_) rfl rfl ?_ ?_ ?_
            rotate_left
            · simp [aCts, aCos, hle, hle2, hlti, hlti2, hwrapi, hv]; rfl
            · first | (simp [aCts, aCos, hle, hle2, hlti, hlti2, hwrapi, hv]; done) | (simp [aCts, aCos, hle, hle2, hlti, hlti2, hwrapi, hv]; omega) | (simp [aCts, aCos, hle, hle2, hlti, hlti2, hwrapi, hv, rowsOf]; omega) | skip
          refine regv_nil ?_
          refine Wp.cond true rfl (fun _ => ?_) (fun h => by cases h)
          refine Wp.skip ?_
          show Wp _ _ _ _
          refine Wp.seq ?_
          refine Wp.block ?_
          refine Wp.seq ?_
          refine Wp.reg_seq (own := fun d => Nat.beq d 19) tt_ok ?_
          iterate 5
            refine regv_pure (s1 := ?_) rfl rfl ?_ ?_ ?_
            rotate_left
            · simp [aCts, aCos, hle, hle2, hlti, hlti2, hwrapi, hv]; rfl
            · first | (simp [aCts, aCos, hle, hle2, hlti, hlti2, hwrapi, hv]; done) | (simp [aCts, aCos, hle, hle2, hlti, hlti2, hwrapi, hv]; omega) | (simp [aCts, aCos, hle, hle2, hlti, hlti2, hwrapi, hv, rowsOf]; omega) | skip
          refine regv_nil ?_
          refine Wp.cond false rfl (fun h => by cases h) (fun _ => ?_)
          refine Wp.skip ?_
          show Wp _ _ _ _
          refine Wp.reg_seq (own := fun d => Nat.beq d 19) tt_ok ?_
          iterate 1
            refine regv_pure (s1 := ?_) rfl rfl ?_ ?_ ?_
            rotate_left
            · simp [aCts, aCos, hle, hle2, hlti, hlti2, hwrapi, hv]; rfl
            · first | (simp [aCts, aCos, hle, hle2, hlti, hlti2, hwrapi, hv]; done) | (simp [aCts, aCos, hle, hle2, hlti, hlti2, hwrapi, hv]; omega) | (simp [aCts, aCos, hle, hle2, hlti, hlti2, hwrapi, hv, rowsOf]; omega) | skip
          refine regv_nil ?_
          refine Wp.reg_seq (own := fun d => Nat.beq d 19) tt_ok ?_
          iterate 1
            refine regv_pure (s1 := ?_) rfl rfl ?_ ?_ ?_
            rotate_left
            · simp [aCts, aCos, hle, hle2, hlti, hlti2, hwrapi, hv]; rfl
            · first | (simp [aCts, aCos, hle, hle2, hlti, hlti2, hwrapi, hv]; done) | (simp [aCts, aCos, hle, hle2, hlti, hlti2, hwrapi, hv]; omega) | (simp [aCts, aCos, hle, hle2, hlti, hlti2, hwrapi, hv, rowsOf]; omega) | skip
          refine regv_nil ?_
          refine Wp.seq ?_
          refine Wp.reg_seq (own := fun d => Nat.beq d 19) tt_ok ?_
          iterate 1
            refine regv_pure (s1 := ?_) rfl rfl ?_ ?_ ?_
            rotate_left
            · simp [aCts, aCos, hle, hle2, hlti, hlti2, hwrapi, hv]; rfl
            · first | (simp [aCts, aCos, hle, hle2, hlti, hlti2, hwrapi, hv]; done) | (simp [aCts, aCos, hle, hle2, hlti, hlti2, hwrapi, hv]; omega) | (simp [aCts, aCos, hle, hle2, hlti, hlti2, hwrapi, hv, rowsOf]; omega) | skip
          refine regv_nil ?_
          refine Wp.block ?_
          refine Wp.loop (α := Nat) (r2Head [.str lab, aCts cs, aCos os, .str j] (aBools on) r i h c) (fun k => h.length - k) (fun k => k ≤ h.length) ?_ (0) ?_ ?_
          rotate_left
          ·
            exact Nat.zero_le _
          ·
            refine Reloc.mk2 [some 0, some 1] rfl rfl rfl (by decide) ?_ ?_
            · repeat' first | exact objsLe_nil | refine objsLe_cons ?_ ?_
              all_goals first
                | (refine ObjLe.var' rfl rfl ?_ rfl
                   repeat' first | exact All2.nil | refine All2.cons ?_ ?_
                   all_goals first | (exact AvLe.refl _ rfl) | (exact AvLe.hptr _ _ _ _ rfl) | (exact AvLe.sl _ _ _ _ rfl) | (exact AvLe.sl' rfl (by simp) (by simp)) | (exact AvLe.mp _ _ rfl) | (exact AvLe.nil _) | (exact AvLe.ghost _ rfl) | (exact AvLe.eq (by simp [aCts, aCos, hle, hle2, hlti, hlti2, hwrapi, hv]; done) rfl))
                | (exact ObjLe.map' rfl rfl)
                | (exact ObjLe.ghost' rfl (by decide))
                | (exact ObjLe.arr' rfl rfl (by first | (simp; done) | (simp; omega)) (fun _ _ => rfl))
            · repeat' first | exact chLe_nil | refine chLe_cons ?_ ?_
              all_goals first
                | (exact AvLe.refl _ rfl)
                | (exact AvLe.hptr _ _ _ _ rfl)
                | (exact AvLe.sl _ _ _ _ rfl)
                | (exact AvLe.sl' rfl (by simp) (by simp))
                | (exact AvLe.mp _ _ rfl)
                | (exact AvLe.nil _)
                | (exact AvLe.ghost _ rfl)
                | (exact AvLe.eq (by simp [aCts, aCos, hle, hle2, hlti, hlti2, hwrapi, hv]; done) rfl)
          rintro k hkle
          simp only [r2Head]
          rcases Nat.lt_or_ge k h.length with hk | hk
          ·
            obtain ⟨y, hy⟩ : ∃ y, h[k]? = some y := ⟨h[k], List.getElem?_eq_getElem hk⟩
            have hlt : (k : Int) < h.length := by omega
            have hsm := hinv.small
            have hwrap := wrap_succ k (by omega)
            by_cases hf : y = c.fr <;> by_cases ht : y = c.to
            ·
              have hf1 : (y.toList == c.fr.toList) = true := by rw [str_beq]; simp [hf]
              have ht1 : (y.toList == c.to.toList) = true := by rw [str_beq]; simp [ht]
              have hfp := eq_true hf
              have htp := eq_true ht
              refine Wp.seq ?_
              refine Wp.reg_seq (own := fun d => Nat.beq d 19) tt_ok ?_
              iterate 4
                refine regv_pure (s1 := ?_) rfl rfl ?_ ?_ ?_
                rotate_left
                · simp [aCts, aCos, hle, hle2, hlti, hlti2, hwrapi, hv, hlt, hlti, hlti2, hwrap, hy, rowS, hc, rowCt, hf1, ht1, hfp, htp, take_succ hy]; rfl
                · first | (simp [aCts, aCos, hle, hle2, hlti, hlti2, hwrapi, hv, hlt, hlti, hlti2, hwrap, hy, rowS, hc, rowCt, hf1, ht1, hfp, htp, take_succ hy]; done) | (simp [aCts, aCos, hle, hle2, hlti, hlti2, hwrapi, hv, hlt, hlti, hlti2, hwrap, hy, rowS, hc, rowCt, hf1, ht1, hfp, htp, take_succ hy]; omega) | (simp [aCts, aCos, hle, hle2, hlti, hlti2, hwrapi, hv, hlt, hlti, hlti2, hwrap, hy, rowS, hc, rowCt, hf1, ht1, hfp, htp, take_succ hy, rowsOf]; omega) | skip
              refine regv_nil ?_
              refine Wp.cond true rfl (fun _ => ?_) (fun h => by cases h)
              refine Wp.skip ?_
              show Wp _ _ _ _
              refine Wp.seq ?_
              refine Wp.block ?_
              refine Wp.seq ?_
              refine Wp.drawn (own := fun d => Nat.beq d 19) tt_ok mixed [0, 1] (by decide +kernel) trivial ?_
              refine regI_upto 11 (r := ?_) ?_ ?_ ?_
              rotate_left
              · simp [List.range, List.range.loop, aCts, aCos, hle, hle2, hlti, hlti2, hwrapi, hv, hlt, hlti, hlti2, hwrap, hy, rowS, hc, rowCt, hf1, ht1, hfp, htp, take_succ hy]; rfl
              · first | (simp [aCts, aCos, hle, hle2, hlti, hlti2, hwrapi, hv, hlt, hlti, hlti2, hwrap, hy, rowS, hc, rowCt, hf1, ht1, hfp, htp, take_succ hy]; done) | (simp [aCts, aCos, hle, hle2, hlti, hlti2, hwrapi, hv, hlt, hlti, hlti2, hwrap, hy, rowS, hc, rowCt, hf1, ht1, hfp, htp, take_succ hy]; omega) | (simp [aCts, aCos, hle, hle2, hlti, hlti2, hwrapi, hv, hlt, hlti, hlti2, hwrap, hy, rowS, hc, rowCt, hf1, ht1, hfp, htp, take_succ hy, rowsOf]; omega) | skip
              refine regI_nil ?_
              refine Wp.cond true rfl (fun _ => ?_) (fun h => by cases h)
              refine Wp.reg (own := fun d => Nat.beq d 19) tt_ok ?_
              iterate 1
                refine regv_pure (s1 := ?_) rfl rfl ?_ ?_ ?_
                rotate_left
                · simp [aCts, aCos, hle, hle2, hlti, hlti2, hwrapi, hv, hlt, hlti, hlti2, hwrap, hy, rowS, hc, rowCt, hf1, ht1, hfp, htp, take_succ hy]; rfl
                · first | (simp [aCts, aCos, hle, hle2, hlti, hlti2, hwrapi, hv, hlt, hlti, hlti2, hwrap, hy, rowS, hc, rowCt, hf1, ht1, hfp, htp, take_succ hy]; done) | (simp [aCts, aCos, hle, hle2, hlti, hlti2, hwrapi, hv, hlt, hlti, hlti2, hwrap, hy, rowS, hc, rowCt, hf1, ht1, hfp, htp, take_succ hy]; omega) | (simp [aCts, aCos, hle, hle2, hlti, hlti2, hwrapi, hv, hlt, hlti, hlti2, hwrap, hy, rowS, hc, rowCt, hf1, ht1, hfp, htp, take_succ hy, rowsOf]; omega) | skip
              refine regv_nil ?_
              show Wp _ _ _ _
              refine Wp.drawn (own := fun d => Nat.beq d 19) tt_ok mixed [0, 1] (by decide +kernel) trivial ?_
              refine regI_upto 11 (r := ?_) ?_ ?_ ?_
              rotate_left
              · simp [List.range, List.range.loop, aCts, aCos, hle, hle2, hlti, hlti2, hwrapi, hv, hlt, hlti, hlti2, hwrap, hy, rowS, hc, rowCt, hf1, ht1, hfp, htp, take_succ hy]; rfl
              · first | (simp [aCts, aCos, hle, hle2, hlti, hlti2, hwrapi, hv, hlt, hlti, hlti2, hwrap, hy, rowS, hc, rowCt, hf1, ht1, hfp, htp, take_succ hy]; done) | (simp [aCts, aCos, hle, hle2, hlti, hlti2, hwrapi, hv, hlt, hlti, hlti2, hwrap, hy, rowS, hc, rowCt, hf1, ht1, hfp, htp, take_succ hy]; omega) | (simp [aCts, aCos, hle, hle2, hlti, hlti2, hwrapi, hv, hlt, hlti, hlti2, hwrap, hy, rowS, hc, rowCt, hf1, ht1, hfp, htp, take_succ hy, rowsOf]; omega) | skip
              refine regI_nil ?_
              refine Wp.cond true rfl (fun _ => ?_) (fun h => by cases h)
              refine Wp.reg (own := fun d => Nat.beq d 19) tt_ok ?_
              iterate 1
                refine regv_pure (s1 := ?_) rfl rfl ?_ ?_ ?_
                rotate_left
                · simp [aCts, aCos, hle, hle2, hlti, hlti2, hwrapi, hv, hlt, hlti, hlti2, hwrap, hy, rowS, hc, rowCt, hf1, ht1, hfp, htp, take_succ hy]; rfl
                · first | (simp [aCts, aCos, hle, hle2, hlti, hlti2, hwrapi, hv, hlt, hlti, hlti2, hwrap, hy, rowS, hc, rowCt, hf1, ht1, hfp, htp, take_succ hy]; done) | (simp [aCts, aCos, hle, hle2, hlti, hlti2, hwrapi, hv, hlt, hlti, hlti2, hwrap, hy, rowS, hc, rowCt, hf1, ht1, hfp, htp, take_succ hy]; omega) | (simp [aCts, aCos, hle, hle2, hlti, hlti2, hwrapi, hv, hlt, hlti, hlti2, hwrap, hy, rowS, hc, rowCt, hf1, ht1, hfp, htp, take_succ hy, rowsOf]; omega) | skip
              refine regv_nil ?_
              show Wp _ _ _ _
              refine Wp.reg (own := fun d => Nat.beq d 19) tt_ok ?_
              iterate 3
                refine regv_pure (s1 := ?_) rfl rfl ?_ ?_ ?_
                rotate_left
                · simp [aCts, aCos, hle, hle2, hlti, hlti2, hwrapi, hv, hlt, hlti, hlti2, hwrap, hy, rowS, hc, rowCt, hf1, ht1, hfp, htp, take_succ hy]; rfl
                · first | (simp [aCts, aCos, hle, hle2, hlti, hlti2, hwrapi, hv, hlt, hlti, hlti2, hwrap, hy, rowS, hc, rowCt, hf1, ht1, hfp, htp, take_succ hy]; done) | (simp [aCts, aCos, hle, hle2, hlti, hlti2, hwrapi, hv, hlt, hlti, hlti2, hwrap, hy, rowS, hc, rowCt, hf1, ht1, hfp, htp, take_succ hy]; omega) | (simp [aCts, aCos, hle, hle2, hlti, hlti2, hwrapi, hv, hlt, hlti, hlti2, hwrap, hy, rowS, hc, rowCt, hf1, ht1, hfp, htp, take_succ hy, rowsOf]; omega) | skip
              refine regv_nil ?_
              refine loopQ_next (k + 1) (by omega) (by omega) ?_
              refine Reloc.mk2 [some 0, some 1] rfl rfl rfl (by decide) ?_ ?_
              · repeat' first | exact objsLe_nil | refine objsLe_cons ?_ ?_
                all_goals first
                  | (refine ObjLe.var' rfl rfl ?_ rfl
                     repeat' first | exact All2.nil | refine All2.cons ?_ ?_
                     all_goals first | (exact AvLe.refl _ rfl) | (exact AvLe.hptr _ _ _ _ rfl) | (exact AvLe.sl _ _ _ _ rfl) | (exact AvLe.sl' rfl (by simp) (by simp)) | (exact AvLe.mp _ _ rfl) | (exact AvLe.nil _) | (exact AvLe.ghost _ rfl) | (exact AvLe.eq (by simp [aCts, aCos, hle, hle2, hlti, hlti2, hwrapi, hv, hlt, hlti, hlti2, hwrap, hy, rowS, hc, rowCt, hf1, ht1, hfp, htp, take_succ hy]; done) rfl))
                  | (exact ObjLe.map' rfl rfl)
                  | (exact ObjLe.ghost' rfl (by decide))
                  | (exact ObjLe.arr' rfl rfl (by first | (simp; done) | (simp; omega)) (fun _ _ => rfl))
              · repeat' first | exact chLe_nil | refine chLe_cons ?_ ?_
                all_goals first
                  | (exact AvLe.refl _ rfl)
                  | (exact AvLe.hptr _ _ _ _ rfl)
                  | (exact AvLe.sl _ _ _ _ rfl)
                  | (exact AvLe.sl' rfl (by simp) (by simp))
                  | (exact AvLe.mp _ _ rfl)
                  | (exact AvLe.nil _)
                  | (exact AvLe.ghost _ rfl)
                  | (exact AvLe.eq (by simp [aCts, aCos, hle, hle2, hlti, hlti2, hwrapi, hv, hlt, hlti, hlti2, hwrap, hy, rowS, hc, rowCt, hf1, ht1, hfp, htp, take_succ hy]; done) rfl)
            ·
              have hf1 : (y.toList == c.fr.toList) = true := by rw [str_beq]; simp [hf]
              have ht1 : (y.toList == c.to.toList) = false := by rw [str_beq]; simp [ht]
              have hfp := eq_true hf
              have htp := eq_false ht
              refine Wp.seq ?_
              refine Wp.reg_seq (own := fun d => Nat.beq d 19) tt_ok ?_
              iterate 4
                refine regv_pure (s1 := ?_) rfl rfl ?_ ?_ ?_
                rotate_left
                · simp [aCts, aCos, hle, hle2, hlti, hlti2, hwrapi, hv, hlt, hlti, hlti2, hwrap, hy, rowS, hc, rowCt, hf1, ht1, hfp, htp, take_succ hy]; rfl
                · first | (simp [aCts, aCos, hle, hle2, hlti, hlti2, hwrapi, hv, hlt, hlti, hlti2, hwrap, hy, rowS, hc, rowCt, hf1, ht1, hfp, htp, take_succ hy]; done) | (simp [aCts, aCos, hle, hle2, hlti, hlti2, hwrapi, hv, hlt, hlti, hlti2, hwrap, hy, rowS, hc, rowCt, hf1, ht1, hfp, htp, take_succ hy]; omega) | (simp [aCts, aCos, hle, hle2, hlti, hlti2, hwrapi, hv, hlt, hlti, hlti2, hwrap, hy, rowS, hc, rowCt, hf1, ht1, hfp, htp, take_succ hy, rowsOf]; omega) | skip
              refine regv_nil ?_
              refine Wp.cond true rfl (fun _ => ?_) (fun h => by cases h)
              refine Wp.skip ?_
              show Wp _ _ _ _
              refine Wp.seq ?_
              refine Wp.block ?_
              refine Wp.seq ?_
              refine Wp.drawn (own := fun d => Nat.beq d 19) tt_ok mixed [0, 1] (by decide +kernel) trivial ?_
              refine regI_upto 11 (r := ?_) ?_ ?_ ?_
              rotate_left
              · simp [List.range, List.range.loop, aCts, aCos, hle, hle2, hlti, hlti2, hwrapi, hv, hlt, hlti, hlti2, hwrap, hy, rowS, hc, rowCt, hf1, ht1, hfp, htp, take_succ hy]; rfl
              · first | (simp [aCts, aCos, hle, hle2, hlti, hlti2, hwrapi, hv, hlt, hlti, hlti2, hwrap, hy, rowS, hc, rowCt, hf1, ht1, hfp, htp, take_succ hy]; done) | (simp [aCts, aCos, hle, hle2, hlti, hlti2, hwrapi, hv, hlt, hlti, hlti2, hwrap, hy, rowS, hc, rowCt, hf1, ht1, hfp, htp, take_succ hy]; omega) | (simp [aCts, aCos, hle, hle2, hlti, hlti2, hwrapi, hv, hlt, hlti, hlti2, hwrap, hy, rowS, hc, rowCt, hf1, ht1, hfp, htp, take_succ hy, rowsOf]; omega) | skip
              refine regI_nil ?_
              refine Wp.cond true rfl (fun _ => ?_) (fun h => by cases h)
              refine Wp.reg (own := fun d => Nat.beq d 19) tt_ok ?_
              iterate 1
                refine regv_pure (s1 := ?_) rfl rfl ?_ ?_ ?_
                rotate_left
                · simp [aCts, aCos, hle, hle2, hlti, hlti2, hwrapi, hv, hlt, hlti, hlti2, hwrap, hy, rowS, hc, rowCt, hf1, ht1, hfp, htp, take_succ hy]; rfl
                · first | (simp [aCts, aCos, hle, hle2, hlti, hlti2, hwrapi, hv, hlt, hlti, hlti2, hwrap, hy, rowS, hc, rowCt, hf1, ht1, hfp, htp, take_succ hy]; done) | (simp [aCts, aCos, hle, hle2, hlti, hlti2, hwrapi, hv, hlt, hlti, hlti2, hwrap, hy, rowS, hc, rowCt, hf1, ht1, hfp, htp, take_succ hy]; omega) | (simp [aCts, aCos, hle, hle2, hlti, hlti2, hwrapi, hv, hlt, hlti, hlti2, hwrap, hy, rowS, hc, rowCt, hf1, ht1, hfp, htp, take_succ hy, rowsOf]; omega) | skip
              refine regv_nil ?_
              show Wp _ _ _ _
              refine Wp.drawn (own := fun d => Nat.beq d 19) tt_ok mixed [0, 1] (by decide +kernel) trivial ?_
              refine regI_upto 11 (r := ?_) ?_ ?_ ?_
              rotate_left
              · simp [List.range, List.range.loop, aCts, aCos, hle, hle2, hlti, hlti2, hwrapi, hv, hlt, hlti, hlti2, hwrap, hy, rowS, hc, rowCt, hf1, ht1, hfp, htp, take_succ hy]; rfl
              · first | (simp [aCts, aCos, hle, hle2, hlti, hlti2, hwrapi, hv, hlt, hlti, hlti2, hwrap, hy, rowS, hc, rowCt, hf1, ht1, hfp, htp, take_succ hy]; done) | (simp [aCts, aCos, hle, hle2, hlti, hlti2, hwrapi, hv, hlt, hlti, hlti2, hwrap, hy, rowS, hc, rowCt, hf1, ht1, hfp, htp, take_succ hy]; omega) | (simp [aCts, aCos, hle, hle2, hlti, hlti2, hwrapi, hv, hlt, hlti, hlti2, hwrap, hy, rowS, hc, rowCt, hf1, ht1, hfp, htp, take_succ hy, rowsOf]; omega) | skip
              refine regI_nil ?_
              refine Wp.cond false rfl (fun h => by cases h) (fun _ => ?_)
              refine Wp.skip ?_
              show Wp _ _ _ _
              refine Wp.reg (own := fun d => Nat.beq d 19) tt_ok ?_
              iterate 3
                refine regv_pure (s1 := ?_) rfl rfl ?_ ?_ ?_
                rotate_left
                · simp [aCts, aCos, hle, hle2, hlti, hlti2, hwrapi, hv, hlt, hlti, hlti2, hwrap, hy, rowS, hc, rowCt, hf1, ht1, hfp, htp, take_succ hy]; rfl
                · first | (simp [aCts, aCos, hle, hle2, hlti, hlti2, hwrapi, hv, hlt, hlti, hlti2, hwrap, hy, rowS, hc, rowCt, hf1, ht1, hfp, htp, take_succ hy]; done) | (simp [aCts, aCos, hle, hle2, hlti, hlti2, hwrapi, hv, hlt, hlti, hlti2, hwrap, hy, rowS, hc, rowCt, hf1, ht1, hfp, htp, take_succ hy]; omega) | (simp [aCts, aCos, hle, hle2, hlti, hlti2, hwrapi, hv, hlt, hlti, hlti2, hwrap, hy, rowS, hc, rowCt, hf1, ht1, hfp, htp, take_succ hy, rowsOf]; omega) | skip
              refine regv_nil ?_
              refine loopQ_next (k + 1) (by omega) (by omega) ?_
              refine Reloc.mk2 [some 0, some 1] rfl rfl rfl (by decide) ?_ ?_
              · repeat' first | exact objsLe_nil | refine objsLe_cons ?_ ?_
                all_goals first
                  | (refine ObjLe.var' rfl rfl ?_ rfl
                     repeat' first | exact All2.nil | refine All2.cons ?_ ?_
                     all_goals first | (exact AvLe.refl _ rfl) | (exact AvLe.hptr _ _ _ _ rfl) | (exact AvLe.sl _ _ _ _ rfl) | (exact AvLe.sl' rfl (by simp) (by simp)) | (exact AvLe.mp _ _ rfl) | (exact AvLe.nil _) | (exact AvLe.ghost _ rfl) | (exact AvLe.eq (by simp [aCts, aCos, hle, hle2, hlti, hlti2, hwrapi, hv, hlt, hlti, hlti2, hwrap, hy, rowS, hc, rowCt, hf1, ht1, hfp, htp, take_succ hy]; done) rfl))
                  | (exact ObjLe.map' rfl rfl)
                  | (exact ObjLe.ghost' rfl (by decide))
                  | (exact ObjLe.arr' rfl rfl (by first | (simp; done) | (simp; omega)) (fun _ _ => rfl))
              · repeat' first | exact chLe_nil | refine chLe_cons ?_ ?_
                all_goals first
                  | (exact AvLe.refl _ rfl)
                  | (exact AvLe.hptr _ _ _ _ rfl)
                  | (exact AvLe.sl _ _ _ _ rfl)
                  | (exact AvLe.sl' rfl (by simp) (by simp))
                  | (exact AvLe.mp _ _ rfl)
                  | (exact AvLe.nil _)
                  | (exact AvLe.ghost _ rfl)
                  | (exact AvLe.eq (by simp [aCts, aCos, hle, hle2, hlti, hlti2, hwrapi, hv, hlt, hlti, hlti2, hwrap, hy, rowS, hc, rowCt, hf1, ht1, hfp, htp, take_succ hy]; done) rfl)
            ·
              have hf1 : (y.toList == c.fr.toList) = false := by rw [str_beq]; simp [hf]
              have ht1 : (y.toList == c.to.toList) = true := by rw [str_beq]; simp [ht]
              have hfp := eq_false hf
              have htp := eq_true ht
              refine Wp.seq ?_
              refine Wp.reg_seq (own := fun d => Nat.beq d 19) tt_ok ?_
              iterate 4
                refine regv_pure (s1 := ?_) rfl rfl ?_ ?_ ?_
                rotate_left
                · simp [aCts, aCos, hle, hle2, hlti, hlti2, hwrapi, hv, hlt, hlti, hlti2, hwrap, hy, rowS, hc, rowCt, hf1, ht1, hfp, htp, take_succ hy]; rfl
                · first | (simp [aCts, aCos, hle, hle2, hlti, hlti2, hwrapi, hv, hlt, hlti, hlti2, hwrap, hy, rowS, hc, rowCt, hf1, ht1, hfp, htp, take_succ hy]; done) | (simp [aCts, aCos, hle, hle2, hlti, hlti2, hwrapi, hv, hlt, hlti, hlti2, hwrap, hy, rowS, hc, rowCt, hf1, ht1, hfp, htp, take_succ hy]; omega) | (simp [aCts, aCos, hle, hle2, hlti, hlti2, hwrapi, hv, hlt, hlti, hlti2, hwrap, hy, rowS, hc, rowCt, hf1, ht1, hfp, htp, take_succ hy, rowsOf]; omega) | skip
              refine regv_nil ?_
              refine Wp.cond true rfl (fun _ => ?_) (fun h => by cases h)
              refine Wp.skip ?_
              show Wp _ _ _ _
              refine Wp.seq ?_
              refine Wp.block ?_
              refine Wp.seq ?_
              refine Wp.drawn (own := fun d => Nat.beq d 19) tt_ok mixed [0, 1] (by decide +kernel) trivial ?_
              refine regI_upto 11 (r := ?_) ?_ ?_ ?_
              rotate_left
              · simp [List.range, List.range.loop, aCts, aCos, hle, hle2, hlti, hlti2, hwrapi, hv, hlt, hlti, hlti2, hwrap, hy, rowS, hc, rowCt, hf1, ht1, hfp, htp, take_succ hy]; rfl
              · first | (simp [aCts, aCos, hle, hle2, hlti, hlti2, hwrapi, hv, hlt, hlti, hlti2, hwrap, hy, rowS, hc, rowCt, hf1, ht1, hfp, htp, take_succ hy]; done) | (simp [aCts, aCos, hle, hle2, hlti, hlti2, hwrapi, hv, hlt, hlti, hlti2, hwrap, hy, rowS, hc, rowCt, hf1, ht1, hfp, htp, take_succ hy]; omega) | (simp [aCts, aCos, hle, hle2, hlti, hlti2, hwrapi, hv, hlt, hlti, hlti2, hwrap, hy, rowS, hc, rowCt, hf1, ht1, hfp, htp, take_succ hy, rowsOf]; omega) | skip
              refine regI_nil ?_
              refine Wp.cond false rfl (fun h => by cases h) (fun _ => ?_)
              refine Wp.skip ?_
              show Wp _ _ _ _
              refine Wp.drawn (own := fun d => Nat.beq d 19) tt_ok mixed [0, 1] (by decide +kernel) trivial ?_
              refine regI_upto 11 (r := ?_) ?_ ?_ ?_
              rotate_left
              · simp [List.range, List.range.loop, aCts, aCos, hle, hle2, hlti, hlti2, hwrapi, hv, hlt, hlti, hlti2, hwrap, hy, rowS, hc, rowCt, hf1, ht1, hfp, htp, take_succ hy]; rfl
              · first | (simp [aCts, aCos, hle, hle2, hlti, hlti2, hwrapi, hv, hlt, hlti, hlti2, hwrap, hy, rowS, hc, rowCt, hf1, ht1, hfp, htp, take_succ hy]; done) | (simp [aCts, aCos, hle, hle2, hlti, hlti2, hwrapi, hv, hlt, hlti, hlti2, hwrap, hy, rowS, hc, rowCt, hf1, ht1, hfp, htp, take_succ hy]; omega) | (simp [aCts, aCos, hle, hle2, hlti, hlti2, hwrapi, hv, hlt, hlti, hlti2, hwrap, hy, rowS, hc, rowCt, hf1, ht1, hfp, htp, take_succ hy, rowsOf]; omega) | skip
              refine regI_nil ?_
              refine Wp.cond true rfl (fun _ => ?_) (fun h => by cases h)
              refine Wp.reg (own := fun d => Nat.beq d 19) tt_ok ?_
              iterate 1
                refine regv_pure (s1 := ?_) rfl rfl ?_ ?_ ?_
                rotate_left
                · simp [aCts, aCos, hle, hle2, hlti, hlti2, hwrapi, hv, hlt, hlti, hlti2, hwrap, hy, rowS, hc, rowCt, hf1, ht1, hfp, htp, take_succ hy]; rfl
                · first | (simp [aCts, aCos, hle, hle2, hlti, hlti2, hwrapi, hv, hlt, hlti, hlti2, hwrap, hy, rowS, hc, rowCt, hf1, ht1, hfp, htp, take_succ hy]; done) | (simp [aCts, aCos, hle, hle2, hlti, hlti2, hwrapi, hv, hlt, hlti, hlti2, hwrap, hy, rowS, hc, rowCt, hf1, ht1, hfp, htp, take_succ hy]; omega) | (simp [aCts, aCos, hle, hle2, hlti, hlti2, hwrapi, hv, hlt, hlti, hlti2, hwrap, hy, rowS, hc, rowCt, hf1, ht1, hfp, htp, take_succ hy, rowsOf]; omega) | skip
              refine regv_nil ?_
              show Wp _ _ _ _
              refine Wp.reg (own := fun d => Nat.beq d 19) tt_ok ?_
              iterate 3
                refine regv_pure (s1 := ?_) rfl rfl ?_ ?_ ?_
                rotate_left
                · simp [aCts, aCos, hle, hle2, hlti, hlti2, hwrapi, hv, hlt, hlti, hlti2, hwrap, hy, rowS, hc, rowCt, hf1, ht1, hfp, htp, take_succ hy]; rfl
                · first | (simp [aCts, aCos, hle, hle2, hlti, hlti2, hwrapi, hv, hlt, hlti, hlti2, hwrap, hy, rowS, hc, rowCt, hf1, ht1, hfp, htp, take_succ hy]; done) | (simp [aCts, aCos, hle, hle2, hlti, hlti2, hwrapi, hv, hlt, hlti, hlti2, hwrap, hy, rowS, hc, rowCt, hf1, ht1, hfp, htp, take_succ hy]; omega) | (simp [aCts, aCos, hle, hle2, hlti, hlti2, hwrapi, hv, hlt, hlti, hlti2, hwrap, hy, rowS, hc, rowCt, hf1, ht1, hfp, htp, take_succ hy, rowsOf]; omega) | skip
              refine regv_nil ?_
              refine loopQ_next (k + 1) (by omega) (by omega) ?_
              refine Reloc.mk2 [some 0, some 1] rfl rfl rfl (by decide) ?_ ?_
              · repeat' first | exact objsLe_nil | refine objsLe_cons ?_ ?_
                all_goals first
                  | (refine ObjLe.var' rfl rfl ?_ rfl
                     repeat' first | exact All2.nil | refine All2.cons ?_ ?_
                     all_goals first | (exact AvLe.refl _ rfl) | (exact AvLe.hptr _ _ _ _ rfl) | (exact AvLe.sl _ _ _ _ rfl) | (exact AvLe.sl' rfl (by simp) (by simp)) | (exact AvLe.mp _ _ rfl) | (exact AvLe.nil _) | (exact AvLe.ghost _ rfl) | (exact AvLe.eq (by simp [aCts, aCos, hle, hle2, hlti, hlti2, hwrapi, hv, hlt, hlti, hlti2, hwrap, hy, rowS, hc, rowCt, hf1, ht1, hfp, htp, take_succ hy]; done) rfl))
                  | (exact ObjLe.map' rfl rfl)
                  | (exact ObjLe.ghost' rfl (by decide))
                  | (exact ObjLe.arr' rfl rfl (by first | (simp; done) | (simp; omega)) (fun _ _ => rfl))
              · repeat' first | exact chLe_nil | refine chLe_cons ?_ ?_
                all_goals first
                  | (exact AvLe.refl _ rfl)
                  | (exact AvLe.hptr _ _ _ _ rfl)
                  | (exact AvLe.sl _ _ _ _ rfl)
                  | (exact AvLe.sl' rfl (by simp) (by simp))
                  | (exact AvLe.mp _ _ rfl)
                  | (exact AvLe.nil _)
                  | (exact AvLe.ghost _ rfl)
                  | (exact AvLe.eq (by simp [aCts, aCos, hle, hle2, hlti, hlti2, hwrapi, hv, hlt, hlti, hlti2, hwrap, hy, rowS, hc, rowCt, hf1, ht1, hfp, htp, take_succ hy]; done) rfl)
            ·
              have hf1 : (y.toList == c.fr.toList) = false := by rw [str_beq]; simp [hf]
              have ht1 : (y.toList == c.to.toList) = false := by rw [str_beq]; simp [ht]
              have hfp := eq_false hf
              have htp := eq_false ht
              refine Wp.seq ?_
              refine Wp.reg_seq (own := fun d => Nat.beq d 19) tt_ok ?_
              iterate 4
                refine regv_pure (s1 := ?_) rfl rfl ?_ ?_ ?_
                rotate_left
                · simp [aCts, aCos, hle, hle2, hlti, hlti2, hwrapi, hv, hlt, hlti, hlti2, hwrap, hy, rowS, hc, rowCt, hf1, ht1, hfp, htp, take_succ hy]; rfl
                · first | (simp [aCts, aCos, hle, hle2, hlti, hlti2, hwrapi, hv, hlt, hlti, hlti2, hwrap, hy, rowS, hc, rowCt, hf1, ht1, hfp, htp, take_succ hy]; done) | (simp [aCts, aCos, hle, hle2, hlti, hlti2, hwrapi, hv, hlt, hlti, hlti2, hwrap, hy, rowS, hc, rowCt, hf1, ht1, hfp, htp, take_succ hy]; omega) | (simp [aCts, aCos, hle, hle2, hlti, hlti2, hwrapi, hv, hlt, hlti, hlti2, hwrap, hy, rowS, hc, rowCt, hf1, ht1, hfp, htp, take_succ hy, rowsOf]; omega) | skip
              refine regv_nil ?_
              refine Wp.cond true rfl (fun _ => ?_) (fun h => by cases h)
              refine Wp.skip ?_
              show Wp _ _ _ _
              refine Wp.seq ?_
              refine Wp.block ?_
              refine Wp.seq ?_
              refine Wp.drawn (own := fun d => Nat.beq d 19) tt_ok mixed [0, 1] (by decide +kernel) trivial ?_
              refine regI_upto 11 (r := ?_) ?_ ?_ ?_
              rotate_left
              · simp [List.range, List.range.loop, aCts, aCos, hle, hle2, hlti, hlti2, hwrapi, hv, hlt, hlti, hlti2, hwrap, hy, rowS, hc, rowCt, hf1, ht1, hfp, htp, take_succ hy]; rfl
              · first | (simp [aCts, aCos, hle, hle2, hlti, hlti2, hwrapi, hv, hlt, hlti, hlti2, hwrap, hy, rowS, hc, rowCt, hf1, ht1, hfp, htp, take_succ hy]; done) | (simp [aCts, aCos, hle, hle2, hlti, hlti2, hwrapi, hv, hlt, hlti, hlti2, hwrap, hy, rowS, hc, rowCt, hf1, ht1, hfp, htp, take_succ hy]; omega) | (simp [aCts, aCos, hle, hle2, hlti, hlti2, hwrapi, hv, hlt, hlti, hlti2, hwrap, hy, rowS, hc, rowCt, hf1, ht1, hfp, htp, take_succ hy, rowsOf]; omega) | skip
              refine regI_nil ?_
              refine Wp.cond false rfl (fun h => by cases h) (fun _ => ?_)
              refine Wp.skip ?_
              show Wp _ _ _ _
              refine Wp.drawn (own := fun d => Nat.beq d 19) tt_ok mixed [0, 1] (by decide +kernel) trivial ?_
              refine regI_upto 11 (r := ?_) ?_ ?_ ?_
              rotate_left
              · simp [List.range, List.range.loop, aCts, aCos, hle, hle2, hlti, hlti2, hwrapi, hv, hlt, hlti, hlti2, hwrap, hy, rowS, hc, rowCt, hf1, ht1, hfp, htp, take_succ hy]; rfl
              · first | (simp [aCts, aCos, hle, hle2, hlti, hlti2, hwrapi, hv, hlt, hlti, hlti2, hwrap, hy, rowS, hc, rowCt, hf1, ht1, hfp, htp, take_succ hy]; done) | (simp [aCts, aCos, hle, hle2, hlti, hlti2, hwrapi, hv, hlt, hlti, hlti2, hwrap, hy, rowS, hc, rowCt, hf1, ht1, hfp, htp, take_succ hy]; omega) | (simp [aCts, aCos, hle, hle2, hlti, hlti2, hwrapi, hv, hlt, hlti, hlti2, hwrap, hy, rowS, hc, rowCt, hf1, ht1, hfp, htp, take_succ hy, rowsOf]; omega) | skip
              refine regI_nil ?_
              refine Wp.cond false rfl (fun h => by cases h) (fun _ => ?_)
              refine Wp.skip ?_
              show Wp _ _ _ _
              refine Wp.reg (own := fun d => Nat.beq d 19) tt_ok ?_
              iterate 3
                refine regv_pure (s1 := ?_) rfl rfl ?_ ?_ ?_
                rotate_left
                · simp [aCts, aCos, hle, hle2, hlti, hlti2, hwrapi, hv, hlt, hlti, hlti2, hwrap, hy, rowS, hc, rowCt, hf1, ht1, hfp, htp, take_succ hy]; rfl
                · first | (simp [aCts, aCos, hle, hle2, hlti, hlti2, hwrapi, hv, hlt, hlti, hlti2, hwrap, hy, rowS, hc, rowCt, hf1, ht1, hfp, htp, take_succ hy]; done) | (simp [aCts, aCos, hle, hle2, hlti, hlti2, hwrapi, hv, hlt, hlti, hlti2, hwrap, hy, rowS, hc, rowCt, hf1, ht1, hfp, htp, take_succ hy]; omega) | (simp [aCts, aCos, hle, hle2, hlti, hlti2, hwrapi, hv, hlt, hlti, hlti2, hwrap, hy, rowS, hc, rowCt, hf1, ht1, hfp, htp, take_succ hy, rowsOf]; omega) | skip
              refine regv_nil ?_
              refine loopQ_next (k + 1) (by omega) (by omega) ?_
              refine Reloc.mk2 [some 0, some 1] rfl rfl rfl (by decide) ?_ ?_
              · repeat' first | exact objsLe_nil | refine objsLe_cons ?_ ?_
                all_goals first
                  | (refine ObjLe.var' rfl rfl ?_ rfl
                     repeat' first | exact All2.nil | refine All2.cons ?_ ?_
                     all_goals first | (exact AvLe.refl _ rfl) | (exact AvLe.hptr _ _ _ _ rfl) | (exact AvLe.sl _ _ _ _ rfl) | (exact AvLe.sl' rfl (by simp) (by simp)) | (exact AvLe.mp _ _ rfl) | (exact AvLe.nil _) | (exact AvLe.ghost _ rfl) | (exact AvLe.eq (by simp [aCts, aCos, hle, hle2, hlti, hlti2, hwrapi, hv, hlt, hlti, hlti2, hwrap, hy, rowS, hc, rowCt, hf1, ht1, hfp, htp, take_succ hy]; done) rfl))
                  | (exact ObjLe.map' rfl rfl)
                  | (exact ObjLe.ghost' rfl (by decide))
                  | (exact ObjLe.arr' rfl rfl (by first | (simp; done) | (simp; omega)) (fun _ _ => rfl))
              · repeat' first | exact chLe_nil | refine chLe_cons ?_ ?_
                all_goals first
                  | (exact AvLe.refl _ rfl)
                  | (exact AvLe.hptr _ _ _ _ rfl)
                  | (exact AvLe.sl _ _ _ _ rfl)
                  | (exact AvLe.sl' rfl (by simp) (by simp))
                  | (exact AvLe.mp _ _ rfl)
                  | (exact AvLe.nil _)
                  | (exact AvLe.ghost _ rfl)
                  | (exact AvLe.eq (by simp [aCts, aCos, hle, hle2, hlti, hlti2, hwrapi, hv, hlt, hlti, hlti2, hwrap, hy, rowS, hc, rowCt, hf1, ht1, hfp, htp, take_succ hy]; done) rfl)
          ·
            have hke : k = h.length := by omega
            subst hke
            have hge : ¬ (h.length : Int) < h.length := by omega
            by_cases hf : c.fr ∈ h
            ·
              by_cases ht : c.to ∈ h
              ·
                refine Wp.seq ?_
                refine Wp.reg_seq (own := fun d => Nat.beq d 19) tt_ok ?_
                iterate 4
                  refine regv_pure (s1 := ?_) rfl rfl ?_ ?_ ?_
                  rotate_left
                  · simp [aCts, aCos, hle, hle2, hlti, hlti2, hwrapi, hv, hge, List.take_length, hwrapi, hc, rowCt, hlti, hlti2, hf, ht]; rfl
                  · first | (simp [aCts, aCos, hle, hle2, hlti, hlti2, hwrapi, hv, hge, List.take_length, hwrapi, hc, rowCt, hlti, hlti2, hf, ht]; done) | (simp [aCts, aCos, hle, hle2, hlti, hlti2, hwrapi, hv, hge, List.take_length, hwrapi, hc, rowCt, hlti, hlti2, hf, ht]; omega) | (simp [aCts, aCos, hle, hle2, hlti, hlti2, hwrapi, hv, hge, List.take_length, hwrapi, hc, rowCt, hlti, hlti2, hf, ht, rowsOf]; omega) | skip
                refine regv_nil ?_
                refine Wp.cond false rfl (fun h => by cases h) (fun _ => ?_)
                refine Wp.exit ?_
                show Wp _ _ _ _
                refine Wp.reg_seq (own := fun d => Nat.beq d 19) tt_ok ?_
                iterate 2
                  refine regv_pure (s1 := ?_) rfl rfl ?_ ?_ ?_
                  rotate_left
                  · simp [aCts, aCos, hle, hle2, hlti, hlti2, hwrapi, hv, hge, List.take_length, hwrapi, hc, rowCt, hlti, hlti2, hf, ht]; rfl
                  · first | (simp [aCts, aCos, hle, hle2, hlti, hlti2, hwrapi, hv, hge, List.take_length, hwrapi, hc, rowCt, hlti, hlti2, hf, ht]; done) | (simp [aCts, aCos, hle, hle2, hlti, hlti2, hwrapi, hv, hge, List.take_length, hwrapi, hc, rowCt, hlti, hlti2, hf, ht]; omega) | (simp [aCts, aCos, hle, hle2, hlti, hlti2, hwrapi, hv, hge, List.take_length, hwrapi, hc, rowCt, hlti, hlti2, hf, ht, rowsOf]; omega) | skip
                first
                  | (refine regv_pure (s1 := ?_) rfl ?_ ?_ ?_ ?_
                     rotate_left
                     · simp [aCts, aCos, hle, hle2, hlti, hlti2, hwrapi, hv, hge, List.take_length, hwrapi, hc, rowCt, hlti, hlti2, hf, ht]; done
                     · simp [aCts, aCos, hle, hle2, hlti, hlti2, hwrapi, hv, hge, List.take_length, hwrapi, hc, rowCt, hlti, hlti2, hf, ht]; rfl
                     · first | (simp [aCts, aCos, hle, hle2, hlti, hlti2, hwrapi, hv, hge, List.take_length, hwrapi, hc, rowCt, hlti, hlti2, hf, ht]; done) | (simp [aCts, aCos, hle, hle2, hlti, hlti2, hwrapi, hv, hge, List.take_length, hwrapi, hc, rowCt, hlti, hlti2, hf, ht]; omega) | (simp [aCts, aCos, hle, hle2, hlti, hlti2, hwrapi, hv, hge, List.take_length, hwrapi, hc, rowCt, hlti, hlti2, hf, ht, rowsOf]; omega) | skip)
                  | (refine regv_skip (s1 := ?_) ?_ ?_ ?_
                     rotate_left
                     · simp [aCts, aCos, hle, hle2, hlti, hlti2, hwrapi, hv, hge, List.take_length, hwrapi, hc, rowCt, hlti, hlti2, hf, ht]; done
                     · simp [aCts, aCos, hle, hle2, hlti, hlti2, hwrapi, hv, hge, List.take_length, hwrapi, hc, rowCt, hlti, hlti2, hf, ht]; rfl)
                first
                  | (refine regv_pure (s1 := ?_) rfl ?_ ?_ ?_ ?_
                     rotate_left
                     · simp [aCts, aCos, hle, hle2, hlti, hlti2, hwrapi, hv, hge, List.take_length, hwrapi, hc, rowCt, hlti, hlti2, hf, ht]; done
                     · simp [aCts, aCos, hle, hle2, hlti, hlti2, hwrapi, hv, hge, List.take_length, hwrapi, hc, rowCt, hlti, hlti2, hf, ht]; rfl
                     · first | (simp [aCts, aCos, hle, hle2, hlti, hlti2, hwrapi, hv, hge, List.take_length, hwrapi, hc, rowCt, hlti, hlti2, hf, ht]; done) | (simp [aCts, aCos, hle, hle2, hlti, hlti2, hwrapi, hv, hge, List.take_length, hwrapi, hc, rowCt, hlti, hlti2, hf, ht]; omega) | (simp [aCts, aCos, hle, hle2, hlti, hlti2, hwrapi, hv, hge, List.take_length, hwrapi, hc, rowCt, hlti, hlti2, hf, ht, rowsOf]; omega) | skip)
                  | (refine regv_skip (s1 := ?_) ?_ ?_ ?_
                     rotate_left
                     · simp [aCts, aCos, hle, hle2, hlti, hlti2, hwrapi, hv, hge, List.take_length, hwrapi, hc, rowCt, hlti, hlti2, hf, ht]; done
                     · simp [aCts, aCos, hle, hle2, hlti, hlti2, hwrapi, hv, hge, List.take_length, hwrapi, hc, rowCt, hlti, hlti2, hf, ht]; rfl)
                iterate 1
                  refine regv_pure (s1 := ?_) rfl rfl ?_ ?_ ?_
                  rotate_left
                  · simp [aCts, aCos, hle, hle2, hlti, hlti2, hwrapi, hv, hge, List.take_length, hwrapi, hc, rowCt, hlti, hlti2, hf, ht]; rfl
                  · first | (simp [aCts, aCos, hle, hle2, hlti, hlti2, hwrapi, hv, hge, List.take_length, hwrapi, hc, rowCt, hlti, hlti2, hf, ht]; done) | (simp [aCts, aCos, hle, hle2, hlti, hlti2, hwrapi, hv, hge, List.take_length, hwrapi, hc, rowCt, hlti, hlti2, hf, ht]; omega) | (simp [aCts, aCos, hle, hle2, hlti, hlti2, hwrapi, hv, hge, List.take_length, hwrapi, hc, rowCt, hlti, hlti2, hf, ht, rowsOf]; omega) | skip
                refine regv_nil ?_
                refine Wp.cond false rfl (fun h => by cases h) (fun _ => ?_)
                refine Wp.skip ?_
                show Wp _ _ _ _
                refine Wp.reg (own := fun d => Nat.beq d 19) tt_ok ?_
                iterate 3
                  refine regv_pure (s1 := ?_) rfl rfl ?_ ?_ ?_
                  rotate_left
                  · simp [aCts, aCos, hle, hle2, hlti, hlti2, hwrapi, hv, hge, List.take_length, hwrapi, hc, rowCt, hlti, hlti2, hf, ht]; rfl
                  · first | (simp [aCts, aCos, hle, hle2, hlti, hlti2, hwrapi, hv, hge, List.take_length, hwrapi, hc, rowCt, hlti, hlti2, hf, ht]; done) | (simp [aCts, aCos, hle, hle2, hlti, hlti2, hwrapi, hv, hge, List.take_length, hwrapi, hc, rowCt, hlti, hlti2, hf, ht]; omega) | (simp [aCts, aCos, hle, hle2, hlti, hlti2, hwrapi, hv, hge, List.take_length, hwrapi, hc, rowCt, hlti, hlti2, hf, ht, rowsOf]; omega) | skip
                refine regv_nil ?_
                refine loopQ_next (i + 1, h) ⟨by simp only; omega, hinv.skip (by intro d h1 _ _; rw [hc] at h1; cases h1; exact ht)⟩ (by simp only; omega) ?_
                refine Reloc.mk2 [some 0, some 1] rfl rfl rfl (by decide) ?_ ?_
                · repeat' first | exact objsLe_nil | refine objsLe_cons ?_ ?_
                  all_goals first
                    | (refine ObjLe.var' rfl rfl ?_ rfl
                       repeat' first | exact All2.nil | refine All2.cons ?_ ?_
                       all_goals first | (exact AvLe.refl _ rfl) | (exact AvLe.hptr _ _ _ _ rfl) | (exact AvLe.sl _ _ _ _ rfl) | (exact AvLe.sl' rfl (by simp) (by simp)) | (exact AvLe.mp _ _ rfl) | (exact AvLe.nil _) | (exact AvLe.ghost _ rfl) | (exact AvLe.eq (by simp [aCts, aCos, hle, hle2, hlti, hlti2, hwrapi, hv, hge, List.take_length, hwrapi, hc, rowCt, hlti, hlti2, hf, ht]; done) rfl))
                    | (exact ObjLe.map' rfl rfl)
                    | (exact ObjLe.ghost' rfl (by decide))
                    | (exact ObjLe.arr' rfl rfl (by first | (simp; done) | (simp; omega)) (fun _ _ => rfl))
                · repeat' first | exact chLe_nil | refine chLe_cons ?_ ?_
                  all_goals first
                    | (exact AvLe.refl _ rfl)
                    | (exact AvLe.hptr _ _ _ _ rfl)
                    | (exact AvLe.sl _ _ _ _ rfl)
                    | (exact AvLe.sl' rfl (by simp) (by simp))
                    | (exact AvLe.mp _ _ rfl)
                    | (exact AvLe.nil _)
                    | (exact AvLe.ghost _ rfl)
                    | (exact AvLe.eq (by simp [aCts, aCos, hle, hle2, hlti, hlti2, hwrapi, hv, hge, List.take_length, hwrapi, hc, rowCt, hlti, hlti2, hf, ht]; done) rfl)
              ·
                have hsm := hinv.small
                refine Wp.seq ?_
                refine Wp.reg_seq (own := fun d => Nat.beq d 19) tt_ok ?_
                iterate 4
                  refine regv_pure (s1 := ?_) rfl rfl ?_ ?_ ?_
                  rotate_left
                  · simp [aCts, aCos, hle, hle2, hlti, hlti2, hwrapi, hv, hge, List.take_length, hwrapi, hc, rowCt, hlti, hlti2, hf, ht]; rfl
                  · first | (simp [aCts, aCos, hle, hle2, hlti, hlti2, hwrapi, hv, hge, List.take_length, hwrapi, hc, rowCt, hlti, hlti2, hf, ht]; done) | (simp [aCts, aCos, hle, hle2, hlti, hlti2, hwrapi, hv, hge, List.take_length, hwrapi, hc, rowCt, hlti, hlti2, hf, ht]; omega) | (simp [aCts, aCos, hle, hle2, hlti, hlti2, hwrapi, hv, hge, List.take_length, hwrapi, hc, rowCt, hlti, hlti2, hf, ht, rowsOf]; omega) | skip
                refine regv_nil ?_
                refine Wp.cond false rfl (fun h => by cases h) (fun _ => ?_)
                refine Wp.exit ?_
                show Wp _ _ _ _
                refine Wp.reg_seq (own := fun d => Nat.beq d 19) tt_ok ?_
                iterate 2
                  refine regv_pure (s1 := ?_) rfl rfl ?_ ?_ ?_
                  rotate_left
                  · simp [aCts, aCos, hle, hle2, hlti, hlti2, hwrapi, hv, hge, List.take_length, hwrapi, hc, rowCt, hlti, hlti2, hf, ht]; rfl
                  · first | (simp [aCts, aCos, hle, hle2, hlti, hlti2, hwrapi, hv, hge, List.take_length, hwrapi, hc, rowCt, hlti, hlti2, hf, ht]; done) | (simp [aCts, aCos, hle, hle2, hlti, hlti2, hwrapi, hv, hge, List.take_length, hwrapi, hc, rowCt, hlti, hlti2, hf, ht]; omega) | (simp [aCts, aCos, hle, hle2, hlti, hlti2, hwrapi, hv, hge, List.take_length, hwrapi, hc, rowCt, hlti, hlti2, hf, ht, rowsOf]; omega) | skip
                first
                  | (refine regv_pure (s1 := ?_) rfl ?_ ?_ ?_ ?_
                     rotate_left
                     · simp [aCts, aCos, hle, hle2, hlti, hlti2, hwrapi, hv, hge, List.take_length, hwrapi, hc, rowCt, hlti, hlti2, hf, ht]; done
                     · simp [aCts, aCos, hle, hle2, hlti, hlti2, hwrapi, hv, hge, List.take_length, hwrapi, hc, rowCt, hlti, hlti2, hf, ht]; rfl
                     · first | (simp [aCts, aCos, hle, hle2, hlti, hlti2, hwrapi, hv, hge, List.take_length, hwrapi, hc, rowCt, hlti, hlti2, hf, ht]; done) | (simp [aCts, aCos, hle, hle2, hlti, hlti2, hwrapi, hv, hge, List.take_length, hwrapi, hc, rowCt, hlti, hlti2, hf, ht]; omega) | (simp [aCts, aCos, hle, hle2, hlti, hlti2, hwrapi, hv, hge, List.take_length, hwrapi, hc, rowCt, hlti, hlti2, hf, ht, rowsOf]; omega) | skip)
                  | (refine regv_skip (s1 := ?_) ?_ ?_ ?_
                     rotate_left
                     · simp [aCts, aCos, hle, hle2, hlti, hlti2, hwrapi, hv, hge, List.take_length, hwrapi, hc, rowCt, hlti, hlti2, hf, ht]; done
                     · simp [aCts, aCos, hle, hle2, hlti, hlti2, hwrapi, hv, hge, List.take_length, hwrapi, hc, rowCt, hlti, hlti2, hf, ht]; rfl)
                first
                  | (refine regv_pure (s1 := ?_) rfl ?_ ?_ ?_ ?_
                     rotate_left
                     · simp [aCts, aCos, hle, hle2, hlti, hlti2, hwrapi, hv, hge, List.take_length, hwrapi, hc, rowCt, hlti, hlti2, hf, ht]; done
                     · simp [aCts, aCos, hle, hle2, hlti, hlti2, hwrapi, hv, hge, List.take_length, hwrapi, hc, rowCt, hlti, hlti2, hf, ht]; rfl
                     · first | (simp [aCts, aCos, hle, hle2, hlti, hlti2, hwrapi, hv, hge, List.take_length, hwrapi, hc, rowCt, hlti, hlti2, hf, ht]; done) | (simp [aCts, aCos, hle, hle2, hlti, hlti2, hwrapi, hv, hge, List.take_length, hwrapi, hc, rowCt, hlti, hlti2, hf, ht]; omega) | (simp [aCts, aCos, hle, hle2, hlti, hlti2, hwrapi, hv, hge, List.take_length, hwrapi, hc, rowCt, hlti, hlti2, hf, ht, rowsOf]; omega) | skip)
                  | (refine regv_skip (s1 := ?_) ?_ ?_ ?_
                     rotate_left
                     · simp [aCts, aCos, hle, hle2, hlti, hlti2, hwrapi, hv, hge, List.take_length, hwrapi, hc, rowCt, hlti, hlti2, hf, ht]; done
                     · simp [aCts, aCos, hle, hle2, hlti, hlti2, hwrapi, hv, hge, List.take_length, hwrapi, hc, rowCt, hlti, hlti2, hf, ht]; rfl)
                iterate 1
                  refine regv_pure (s1 := ?_) rfl rfl ?_ ?_ ?_
                  rotate_left
                  · simp [aCts, aCos, hle, hle2, hlti, hlti2, hwrapi, hv, hge, List.take_length, hwrapi, hc, rowCt, hlti, hlti2, hf, ht]; rfl
                  · first | (simp [aCts, aCos, hle, hle2, hlti, hlti2, hwrapi, hv, hge, List.take_length, hwrapi, hc, rowCt, hlti, hlti2, hf, ht]; done) | (simp [aCts, aCos, hle, hle2, hlti, hlti2, hwrapi, hv, hge, List.take_length, hwrapi, hc, rowCt, hlti, hlti2, hf, ht]; omega) | (simp [aCts, aCos, hle, hle2, hlti, hlti2, hwrapi, hv, hge, List.take_length, hwrapi, hc, rowCt, hlti, hlti2, hf, ht, rowsOf]; omega) | skip
                refine regv_nil ?_
                refine Wp.cond true rfl (fun _ => ?_) (fun h => by cases h)
                refine Wp.reg (own := fun d => Nat.beq d 19) tt_ok ?_
                iterate 10
                  refine regv_pure (s1 := ?_) rfl rfl ?_ ?_ ?_
                  rotate_left
                  · simp [aCts, aCos, hle, hle2, hlti, hlti2, hwrapi, hv, hge, List.take_length, hwrapi, hc, rowCt, hlti, hlti2, hf, ht]; rfl
                  · first | (simp [aCts, aCos, hle, hle2, hlti, hlti2, hwrapi, hv, hge, List.take_length, hwrapi, hc, rowCt, hlti, hlti2, hf, ht]; done) | (simp [aCts, aCos, hle, hle2, hlti, hlti2, hwrapi, hv, hge, List.take_length, hwrapi, hc, rowCt, hlti, hlti2, hf, ht]; omega) | (simp [aCts, aCos, hle, hle2, hlti, hlti2, hwrapi, hv, hge, List.take_length, hwrapi, hc, rowCt, hlti, hlti2, hf, ht, rowsOf]; omega) | skip
                refine regv_nil ?_
                show Wp _ _ _ _
                refine Wp.reg (own := fun d => Nat.beq d 19) tt_ok ?_
                iterate 3
                  refine regv_pure (s1 := ?_) rfl rfl ?_ ?_ ?_
                  rotate_left
                  · simp [aCts, aCos, hle, hle2, hlti, hlti2, hwrapi, hv, hge, List.take_length, hwrapi, hc, rowCt, hlti, hlti2, hf, ht]; rfl
                  · first | (simp [aCts, aCos, hle, hle2, hlti, hlti2, hwrapi, hv, hge, List.take_length, hwrapi, hc, rowCt, hlti, hlti2, hf, ht]; done) | (simp [aCts, aCos, hle, hle2, hlti, hlti2, hwrapi, hv, hge, List.take_length, hwrapi, hc, rowCt, hlti, hlti2, hf, ht]; omega) | (simp [aCts, aCos, hle, hle2, hlti, hlti2, hwrapi, hv, hge, List.take_length, hwrapi, hc, rowCt, hlti, hlti2, hf, ht, rowsOf]; omega) | skip
                refine regv_nil ?_
                refine loopQ_next (i + 1, h ++ [c.to]) ⟨by simp only; omega, hinv.push hc hv hf ht⟩ (by simp only; omega) ?_
                refine Reloc.mk2 [some 0, some 2] rfl rfl rfl (by decide) ?_ ?_
                · repeat' first | exact objsLe_nil | refine objsLe_cons ?_ ?_
                  all_goals first
                    | (refine ObjLe.var' rfl rfl ?_ rfl
                       repeat' first | exact All2.nil | refine All2.cons ?_ ?_
                       all_goals first | (exact AvLe.refl _ rfl) | (exact AvLe.hptr _ _ _ _ rfl) | (exact AvLe.sl _ _ _ _ rfl) | (exact AvLe.sl' rfl (by simp) (by simp)) | (exact AvLe.mp _ _ rfl) | (exact AvLe.nil _) | (exact AvLe.ghost _ rfl) | (exact AvLe.eq (by simp [aCts, aCos, hle, hle2, hlti, hlti2, hwrapi, hv, hge, List.take_length, hwrapi, hc, rowCt, hlti, hlti2, hf, ht]; done) rfl) | (exact ObjLe.arr' rfl rfl (by simp) (fun k hk => rowS_push (by simpa using hk))))
                    | (exact ObjLe.map' rfl rfl)
                    | (exact ObjLe.ghost' rfl (by decide))
                    | (exact ObjLe.arr' rfl rfl (by first | (simp; done) | (simp; omega)) (fun _ _ => rfl))
                    | (exact ObjLe.arr' rfl rfl (by simp) (fun k hk => rowS_push (by simpa using hk)))
                · repeat' first | exact chLe_nil | refine chLe_cons ?_ ?_
                  all_goals first
                    | (exact AvLe.refl _ rfl)
                    | (exact AvLe.hptr _ _ _ _ rfl)
                    | (exact AvLe.sl _ _ _ _ rfl)
                    | (exact AvLe.sl' rfl (by simp) (by simp))
                    | (exact AvLe.mp _ _ rfl)
                    | (exact AvLe.nil _)
                    | (exact AvLe.ghost _ rfl)
                    | (exact AvLe.eq (by simp [aCts, aCos, hle, hle2, hlti, hlti2, hwrapi, hv, hge, List.take_length, hwrapi, hc, rowCt, hlti, hlti2, hf, ht]; done) rfl)
                    | (exact ObjLe.arr' rfl rfl (by simp) (fun k hk => rowS_push (by simpa using hk)))
            ·
              refine Wp.seq ?_
              refine Wp.reg_seq (own := fun d => Nat.beq d 19) tt_ok ?_
              iterate 4
                refine regv_pure (s1 := ?_) rfl rfl ?_ ?_ ?_
                rotate_left
                · simp [aCts, aCos, hle, hle2, hlti, hlti2, hwrapi, hv, hge, List.take_length, hwrapi, hc, rowCt, hlti, hlti2, hf]; rfl
                · first | (simp [aCts, aCos, hle, hle2, hlti, hlti2, hwrapi, hv, hge, List.take_length, hwrapi, hc, rowCt, hlti, hlti2, hf]; done) | (simp [aCts, aCos, hle, hle2, hlti, hlti2, hwrapi, hv, hge, List.take_length, hwrapi, hc, rowCt, hlti, hlti2, hf]; omega) | (simp [aCts, aCos, hle, hle2, hlti, hlti2, hwrapi, hv, hge, List.take_length, hwrapi, hc, rowCt, hlti, hlti2, hf, rowsOf]; omega) | skip
              refine regv_nil ?_
              refine Wp.cond false rfl (fun h => by cases h) (fun _ => ?_)
              refine Wp.exit ?_
              show Wp _ _ _ _
              refine Wp.reg_seq (own := fun d => Nat.beq d 19) tt_ok ?_
              iterate 2
                refine regv_pure (s1 := ?_) rfl rfl ?_ ?_ ?_
                rotate_left
                · simp [aCts, aCos, hle, hle2, hlti, hlti2, hwrapi, hv, hge, List.take_length, hwrapi, hc, rowCt, hlti, hlti2, hf]; rfl
                · first | (simp [aCts, aCos, hle, hle2, hlti, hlti2, hwrapi, hv, hge, List.take_length, hwrapi, hc, rowCt, hlti, hlti2, hf]; done) | (simp [aCts, aCos, hle, hle2, hlti, hlti2, hwrapi, hv, hge, List.take_length, hwrapi, hc, rowCt, hlti, hlti2, hf]; omega) | (simp [aCts, aCos, hle, hle2, hlti, hlti2, hwrapi, hv, hge, List.take_length, hwrapi, hc, rowCt, hlti, hlti2, hf, rowsOf]; omega) | skip
              first
                | (refine regv_pure (s1 := ?_) rfl ?_ ?_ ?_ ?_
                   rotate_left
                   · simp [aCts, aCos, hle, hle2, hlti, hlti2, hwrapi, hv, hge, List.take_length, hwrapi, hc, rowCt, hlti, hlti2, hf]; done
                   · simp [aCts, aCos, hle, hle2, hlti, hlti2, hwrapi, hv, hge, List.take_length, hwrapi, hc, rowCt, hlti, hlti2, hf]; rfl
                   · first | (simp [aCts, aCos, hle, hle2, hlti, hlti2, hwrapi, hv, hge, List.take_length, hwrapi, hc, rowCt, hlti, hlti2, hf]; done) | (simp [aCts, aCos, hle, hle2, hlti, hlti2, hwrapi, hv, hge, List.take_length, hwrapi, hc, rowCt, hlti, hlti2, hf]; omega) | (simp [aCts, aCos, hle, hle2, hlti, hlti2, hwrapi, hv, hge, List.take_length, hwrapi, hc, rowCt, hlti, hlti2, hf, rowsOf]; omega) | skip)
                | (refine regv_skip (s1 := ?_) ?_ ?_ ?_
                   rotate_left
                   · simp [aCts, aCos, hle, hle2, hlti, hlti2, hwrapi, hv, hge, List.take_length, hwrapi, hc, rowCt, hlti, hlti2, hf]; done
                   · simp [aCts, aCos, hle, hle2, hlti, hlti2, hwrapi, hv, hge, List.take_length, hwrapi, hc, rowCt, hlti, hlti2, hf]; rfl)
              first
                | (refine regv_pure (s1 := ?_) rfl ?_ ?_ ?_ ?_
                   rotate_left
                   · simp [aCts, aCos, hle, hle2, hlti, hlti2, hwrapi, hv, hge, List.take_length, hwrapi, hc, rowCt, hlti, hlti2, hf]; done
                   · simp [aCts, aCos, hle, hle2, hlti, hlti2, hwrapi, hv, hge, List.take_length, hwrapi, hc, rowCt, hlti, hlti2, hf]; rfl
                   · first | (simp [aCts, aCos, hle, hle2, hlti, hlti2, hwrapi, hv, hge, List.take_length, hwrapi, hc, rowCt, hlti, hlti2, hf]; done) | (simp [aCts, aCos, hle, hle2, hlti, hlti2, hwrapi, hv, hge, List.take_length, hwrapi, hc, rowCt, hlti, hlti2, hf]; omega) | (simp [aCts, aCos, hle, hle2, hlti, hlti2, hwrapi, hv, hge, List.take_length, hwrapi, hc, rowCt, hlti, hlti2, hf, rowsOf]; omega) | skip)
                | (refine regv_skip (s1 := ?_) ?_ ?_ ?_
                   rotate_left
                   · simp [aCts, aCos, hle, hle2, hlti, hlti2, hwrapi, hv, hge, List.take_length, hwrapi, hc, rowCt, hlti, hlti2, hf]; done
                   · simp [aCts, aCos, hle, hle2, hlti, hlti2, hwrapi, hv, hge, List.take_length, hwrapi, hc, rowCt, hlti, hlti2, hf]; rfl)
              iterate 1
                refine regv_pure (s1 := ?_) rfl rfl ?_ ?_ ?_
                rotate_left
                · simp [aCts, aCos, hle, hle2, hlti, hlti2, hwrapi, hv, hge, List.take_length, hwrapi, hc, rowCt, hlti, hlti2, hf]; rfl
                · first | (simp [aCts, aCos, hle, hle2, hlti, hlti2, hwrapi, hv, hge, List.take_length, hwrapi, hc, rowCt, hlti, hlti2, hf]; done) | (simp [aCts, aCos, hle, hle2, hlti, hlti2, hwrapi, hv, hge, List.take_length, hwrapi, hc, rowCt, hlti, hlti2, hf]; omega) | (simp [aCts, aCos, hle, hle2, hlti, hlti2, hwrapi, hv, hge, List.take_length, hwrapi, hc, rowCt, hlti, hlti2, hf, rowsOf]; omega) | skip
              refine regv_nil ?_
              refine Wp.cond false rfl (fun h => by cases h) (fun _ => ?_)
              refine Wp.skip ?_
              show Wp _ _ _ _
              refine Wp.reg (own := fun d => Nat.beq d 19) tt_ok ?_
              iterate 3
                refine regv_pure (s1 := ?_) rfl rfl ?_ ?_ ?_
                rotate_left
                · simp [aCts, aCos, hle, hle2, hlti, hlti2, hwrapi, hv, hge, List.take_length, hwrapi, hc, rowCt, hlti, hlti2, hf]; rfl
                · first | (simp [aCts, aCos, hle, hle2, hlti, hlti2, hwrapi, hv, hge, List.take_length, hwrapi, hc, rowCt, hlti, hlti2, hf]; done) | (simp [aCts, aCos, hle, hle2, hlti, hlti2, hwrapi, hv, hge, List.take_length, hwrapi, hc, rowCt, hlti, hlti2, hf]; omega) | (simp [aCts, aCos, hle, hle2, hlti, hlti2, hwrapi, hv, hge, List.take_length, hwrapi, hc, rowCt, hlti, hlti2, hf, rowsOf]; omega) | skip
              refine regv_nil ?_
              refine loopQ_next (i + 1, h) ⟨by simp only; omega, hinv.skip (by intro d h1 _ h3; rw [hc] at h1; cases h1; exact absurd h3 hf)⟩ (by simp only; omega) ?_
              refine Reloc.mk2 [some 0, some 1] rfl rfl rfl (by decide) ?_ ?_
              · repeat' first | exact objsLe_nil | refine objsLe_cons ?_ ?_
                all_goals first
                  | (refine ObjLe.var' rfl rfl ?_ rfl
                     repeat' first | exact All2.nil | refine All2.cons ?_ ?_
                     all_goals first | (exact AvLe.refl _ rfl) | (exact AvLe.hptr _ _ _ _ rfl) | (exact AvLe.sl _ _ _ _ rfl) | (exact AvLe.sl' rfl (by simp) (by simp)) | (exact AvLe.mp _ _ rfl) | (exact AvLe.nil _) | (exact AvLe.ghost _ rfl) | (exact AvLe.eq (by simp [aCts, aCos, hle, hle2, hlti, hlti2, hwrapi, hv, hge, List.take_length, hwrapi, hc, rowCt, hlti, hlti2, hf]; done) rfl))
                  | (exact ObjLe.map' rfl rfl)
                  | (exact ObjLe.ghost' rfl (by decide))
                  | (exact ObjLe.arr' rfl rfl (by first | (simp; done) | (simp; omega)) (fun _ _ => rfl))
              · repeat' first | exact chLe_nil | refine chLe_cons ?_ ?_
                all_goals first
                  | (exact AvLe.refl _ rfl)
                  | (exact AvLe.hptr _ _ _ _ rfl)
                  | (exact AvLe.sl _ _ _ _ rfl)
                  | (exact AvLe.sl' rfl (by simp) (by simp))
                  | (exact AvLe.mp _ _ rfl)
                  | (exact AvLe.nil _)
                  | (exact AvLe.ghost _ rfl)
                  | (exact AvLe.eq (by simp [aCts, aCos, hle, hle2, hlti, hlti2, hwrapi, hv, hge, List.take_length, hwrapi, hc, rowCt, hlti, hlti2, hf]; done) rfl)
      ·
        have hie : i = cs.length := by omega
        have hge : ¬ (i : Int) < on.length := by omega
        refine Wp.seq ?_
        refine Wp.reg_seq (own := fun d => Nat.beq d 19) tt_ok ?_
        iterate 4
          refine regv_pure (s1 := ?_) rfl rfl ?_ ?_ ?_
          rotate_left
          · simp [aCts, aCos, hle, hle2, hge, hwrapr]; rfl
          · first | (simp [aCts, aCos, hle, hle2, hge, hwrapr]; done) | (simp [aCts, aCos, hle, hle2, hge, hwrapr]; omega) | (simp [aCts, aCos, hle, hle2, hge, hwrapr, rowsOf]; omega) | skip
        refine regv_nil ?_
        refine Wp.cond false rfl (fun h => by cases h) (fun _ => ?_)
        refine Wp.exit ?_
        show Wp _ _ _ _
        refine Wp.reg (own := fun d => Nat.beq d 19) tt_ok ?_
        iterate 3
          refine regv_pure (s1 := ?_) rfl rfl ?_ ?_ ?_
          rotate_left
          · simp [aCts, aCos, hle, hle2, hge, hwrapr]; rfl
          · first | (simp [aCts, aCos, hle, hle2, hge, hwrapr]; done) | (simp [aCts, aCos, hle, hle2, hge, hwrapr]; omega) | (simp [aCts, aCos, hle, hle2, hge, hwrapr, rowsOf]; omega) | skip
        refine regv_nil ?_
        rw [hie] at hinv
        refine loopQ_next (Q := fun _ _ => True) (r + 1, h) ⟨by simp only; omega, RInv2.next hinv0 hinv⟩ (by simp only; omega) ?_
        refine Reloc.mk2 [some 0, some 1] rfl rfl rfl (by decide) ?_ ?_
        · repeat' first | exact objsLe_nil | refine objsLe_cons ?_ ?_
          all_goals first
            | (refine ObjLe.var' rfl rfl ?_ rfl
               repeat' first | exact All2.nil | refine All2.cons ?_ ?_
               all_goals first | (exact AvLe.refl _ rfl) | (exact AvLe.hptr _ _ _ _ rfl) | (exact AvLe.sl _ _ _ _ rfl) | (exact AvLe.sl' rfl (by simp) (by simp)) | (exact AvLe.mp _ _ rfl) | (exact AvLe.nil _) | (exact AvLe.ghost _ rfl) | (exact AvLe.eq (by simp [aCts, aCos, hle, hle2, hge, hwrapr]; done) rfl))
            | (exact ObjLe.map' rfl rfl)
            | (exact ObjLe.ghost' rfl (by decide))
            | (exact ObjLe.arr' rfl rfl (by first | (simp; done) | (simp; omega)) (fun _ _ => rfl))
        · repeat' first | exact chLe_nil | refine chLe_cons ?_ ?_
          all_goals first
            | (exact AvLe.refl _ rfl)
            | (exact AvLe.hptr _ _ _ _ rfl)
            | (exact AvLe.sl _ _ _ _ rfl)
            | (exact AvLe.sl' rfl (by simp) (by simp))
            | (exact AvLe.mp _ _ rfl)
            | (exact AvLe.nil _)
            | (exact AvLe.ghost _ rfl)
            | (exact AvLe.eq (by simp [aCts, aCos, hle, hle2, hge, hwrapr]; done) rfl)
  · rw [if_neg hlen, if_neg hlen]
    have hle : ((on.length : Int) != (cs.length : Int)) = true := by simp; omega
    refine con_of (T := TT0) tt_ok Try.func13 (c := _) (by unfold Try.f13; rfl) Try.ntmps13 (rs := [.tmp 4, .tmp 5]) (by rw [Try.results13]) (by unfold Try.f13; rfl) (by simp) ?_
    simp only [argsCh, aRung, aBools]
    refine Wp.reg_seq (own := fun d => Nat.beq d 19) tt_ok ?_
    iterate 3
      refine regv_pure (s1 := ?_) rfl rfl ?_ ?_ ?_
      rotate_left
      · simp [aCts, aCos, hle]; rfl
      · first | (simp [aCts, aCos, hle]; done) | (simp [aCts, aCos, hle]; omega) | (simp [aCts, aCos, hle, rowsOf]; omega) | skip
    refine regv_nil ?_
    refine Wp.seq ?_
    refine Wp.reg_seq (own := fun d => Nat.beq d 19) tt_ok ?_
    iterate 6
      refine regv_pure (s1 := ?_) rfl rfl ?_ ?_ ?_
      rotate_left
      · simp [aCts, aCos, hle]; rfl
      · first | (simp [aCts, aCos, hle]; done) | (simp [aCts, aCos, hle]; omega) | (simp [aCts, aCos, hle, rowsOf]; omega) | skip
    refine regv_nil ?_
    refine Wp.cond true rfl (fun _ => ?_) (fun h => by cases h)
    refine Wp.reg_seq (own := fun d => Nat.beq d 19) tt_ok ?_
    iterate 2
      refine regv_pure (s1 := ?_) rfl rfl ?_ ?_ ?_
      rotate_left
      · simp [aCts, aCos, hle]; rfl
      · first | (simp [aCts, aCos, hle]; done) | (simp [aCts, aCos, hle]; omega) | (simp [aCts, aCos, hle, rowsOf]; omega) | skip
    refine regv_nil ?_
    refine Wp.ret (endQ_ret0 rfl ?_)
    exact .tups (.cons (.refl _ rfl) (.cons (.refl _ rfl) .nil))

end Go.Proofs.Ytgbgmijighbfbaa
