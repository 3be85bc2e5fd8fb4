/- Models of functions of the program. -/
import Derived.Test.YtfghchpnolfllaaGTy
set_option linter.unusedSimpArgs false
set_option linter.unusedVariables false
set_option linter.unusedSectionVars false
namespace Go.G
open Go.Av
def law03_TooLarge_L1 (l0 : List ApiState) : Nat → Int → Option (Int)
  | 0, _ => none
  | rec_n1 + 1, p7 =>
    if (decide (p7 < (l0.length : Int))) = true then
      (atI l0 p7).bind fun x9 =>
      if (decide ((x9.Q.length : Int) > 1000)) = true then
        some 1
      else
        if (decide ((x9.M.length : Int) > 1000)) = true then
          some 1
        else
          if (decide ((x9.E.length : Int) > 1000)) = true then
            some 1
          else
            (law03_TooLarge_L1 l0 rec_n1) (IntKind.i64.wrap (p7 + 1))
    else
      some 0

def law03_TooLarge (n : Nat) (l0 : List ApiState) : Option (Int) :=
  law03_TooLarge_L1 l0 n 0

def law11_TooLarge_J1 (l0 : ApiLadder) (p38 : Int) : Option (Int) :=
  if (decide ((l0.Rungs.length : Int) > 70)) = true then
    some 1
  else
    if (decide (p38 > 20000)) = true then
      some 1
    else
      some 0

def law11_TooLarge_L3 (p45 : Int) (loop_2_law11_TooLarge : Int → Int → Option (Int)) (x53 : ApiRung) : Nat → Int → Int → Option (Int)
  | 0, _, _ => none
  | rec_n3 + 1, p55, p56 =>
    if (decide (p56 < (x53.Contacts.length : Int))) = true then
      (atI x53.Contacts p56).bind fun x58 =>
      (law11_TooLarge_L3 p45 loop_2_law11_TooLarge x53 rec_n3) (IntKind.i64.wrap (p55 + (IntKind.i64.wrap ((x58.From.size : Int) + (x58.To.size : Int))))) (IntKind.i64.wrap (p56 + 1))
    else
      loop_2_law11_TooLarge (IntKind.i64.wrap (p45 + 1)) p55

def law11_TooLarge_L2 (n : Nat) (l0 : ApiLadder) : Nat → Int → Int → Option (Int)
  | 0, _, _ => none
  | rec_n2 + 1, p45, p46 =>
    if (decide (p45 < (l0.Rungs.length : Int))) = true then
      (atI l0.Rungs p45).bind fun x53 =>
      law11_TooLarge_L3 p45 (law11_TooLarge_L2 n l0 rec_n2) x53 n (IntKind.i64.wrap (p46 + (IntKind.i64.wrap ((IntKind.i64.wrap ((IntKind.i64.wrap ((x53.Contacts.length : Int) + (x53.Coils.length : Int))) + (x53.Label.size : Int))) + (x53.Jump.size : Int))))) 0
    else
      law11_TooLarge_J1 l0 p46

def law11_TooLarge (n : Nat) (l0 : ApiLadder) : Option (Int) :=
  law11_TooLarge_L2 n l0 n 0 0

def law17_TooLarge_J1 (n : Nat) (l0 : ApiLadder) (p17 : Int) : Option (Int) :=
  if (decide (p17 > 200)) = true then
    some 1
  else
    (law11_TooLarge n l0).bind fun r60 =>
    some r60

def law17_TooLarge_L2 (n : Nat) (l0 : ApiLadder) : Nat → Int → Int → Option (Int)
  | 0, _, _ => none
  | rec_n2 + 1, p62, p63 =>
    if (decide (p63 < (l0.Rungs.length : Int))) = true then
      (atI l0.Rungs p63).bind fun x65 =>
      if (decide ((x65.Contacts.length : Int) > 40)) = true then
        some 1
      else
        (law17_TooLarge_L2 n l0 rec_n2) (IntKind.i64.wrap (p62 + (x65.Contacts.length : Int))) (IntKind.i64.wrap (p63 + 1))
    else
      law17_TooLarge_J1 n l0 p62

def law17_TooLarge (n : Nat) (l0 : ApiLadder) : Option (Int) :=
  law17_TooLarge_L2 n l0 n 0 0

def law20_TooLarge_J1 (n : Nat) (l0 : ApiLadder) (st1 : ApiState) (ins2 : List (List Bool)) : Option (Int) :=
  if (decide ((ins2.length : Int) > 30)) = true then
    some 1
  else
    (some ([st1])).bind fun l5 =>
    (law03_TooLarge n l5).bind fun r11 =>
    if (decide (r11 > 0)) = true then
      some 1
    else
      (law17_TooLarge n l0).bind fun r67 =>
      some r67

def law20_TooLarge_L2 (n : Nat) (l0 : ApiLadder) (st1 : ApiState) (ins2 : List (List Bool)) : Nat → Int → Option (Int)
  | 0, _ => none
  | rec_n2 + 1, p69 =>
    if (decide (p69 < (ins2.length : Int))) = true then
      (atI ins2 p69).bind fun x71 =>
      if (decide ((x71.length : Int) > 500)) = true then
        some 1
      else
        (law20_TooLarge_L2 n l0 st1 ins2 rec_n2) (IntKind.i64.wrap (p69 + 1))
    else
      law20_TooLarge_J1 n l0 st1 ins2

def law20_TooLarge (n : Nat) (l0 : ApiLadder) (st1 : ApiState) (ins2 : List (List Bool)) : Option (Int) :=
  law20_TooLarge_L2 n l0 st1 ins2 n 0

def law20_example (n : Nat) : Option (ApiLadder) :=
  (some ([(⟨0, (⟨0, 0⟩ : ApiAddr), (⟨#[76]⟩ : Str), (⟨#[82]⟩ : Str)⟩ : ApiContact)])).bind fun l687 =>
  (some ([(⟨0, (⟨1, 0⟩ : ApiAddr)⟩ : ApiCoil)])).bind fun l688 =>
  (some ([(⟨0, (⟨1, 1⟩ : ApiAddr)⟩ : ApiCoil)])).bind fun l689 =>
  (some ([(⟨(⟨#[]⟩ : Str), l687, ([] : List ApiCoil), (⟨#[122]⟩ : Str)⟩ : ApiRung), (⟨(⟨#[]⟩ : Str), l687, l688, (⟨#[]⟩ : Str)⟩ : ApiRung), (⟨(⟨#[122]⟩ : Str), l687, l689, (⟨#[]⟩ : Str)⟩ : ApiRung)])).bind fun l690 =>
  some (⟨1, 2, 0, l690⟩ : ApiLadder)

def printer_sizes (n : Nat) (l0 : ApiLadder) : Option (ApiSize) :=
  some (⟨l0.I, l0.Q, l0.M, 0⟩ : ApiSize)

def addr_within (n : Nat) (n_0 : Int) (most1 : Int) : Option (Bool) :=
  if (decide (n_0 ≥ 0)) = true then
    some (decide (n_0 ≤ most1))
  else
    some false

def addr_CheckSize (n : Nat) (s0 : ApiSize) : Option (Int) :=
  (addr_within n s0.E 16384).bind fun r698 =>
  if (!r698) = true then
    some 3
  else
    (addr_within n s0.I 256).bind fun r700 =>
    if (!r700) = true then
      some 3
    else
      (addr_within n s0.Q 256).bind fun r702 =>
      if (!r702) = true then
        some 3
      else
        (addr_within n s0.M 256).bind fun r704 =>
        if (!r704) = true then
          some 3
        else
          some 0

def lex_letter (n : Nat) (c0 : Int) : Option (Bool) :=
  if (decide (c0 ≥ 97)) = true then
    if (decide (c0 ≤ 122)) = true then
      some true
    else
      if (decide (c0 ≥ 65)) = true then
        some (decide (c0 ≤ 90))
      else
        some false
  else
    if (decide (c0 ≥ 65)) = true then
      some (decide (c0 ≤ 90))
    else
      some false

def lex_IsName_L1 (n : Nat) (word0 : Str) : Nat → Nat → Option (Bool)
  | 0, _ => none
  | rec_n1 + 1, p713 =>
    if (decide (p713 < word0.size)) = true then
      (lex_letter n (((Utf8.decode word0 p713).1 : Nat) : Int)).bind fun r717 =>
      if (!r717) = true then
        if ((p713 : Int) == 0) = true then
          some false
        else
          if ((((Utf8.decode word0 p713).1 : Nat) : Int) != 95) = true then
            if (decide ((((Utf8.decode word0 p713).1 : Nat) : Int) < 48)) = true then
              some false
            else
              if (decide ((((Utf8.decode word0 p713).1 : Nat) : Int) > 57)) = true then
                some false
              else
                (lex_IsName_L1 n word0 rec_n1) (p713 + (Utf8.decode word0 p713).2)
          else
            (lex_IsName_L1 n word0 rec_n1) (p713 + (Utf8.decode word0 p713).2)
      else
        (lex_IsName_L1 n word0 rec_n1) (p713 + (Utf8.decode word0 p713).2)
    else
      some true

def lex_IsName (n : Nat) (word0 : Str) : Option (Bool) :=
  if (decide (word0 = (⟨#[]⟩ : Str))) = true then
    some false
  else
    if (decide ((word0.size : Int) > 16)) = true then
      some false
    else
      lex_IsName_L1 n word0 n 0

def printer_rung_1 (n : Nat) (x_0 : ApiRung) (b0 : ApiRung) : Option (Bool) :=
  some (decide (x_0.Label = b0.Label))

def slices_IndexFunc_api_Rung_c86_L1 (n : Nat) (s0 : List ApiRung) (b0 : ApiRung) : Nat → Int → Option (Int)
  | 0, _ => none
  | rec_n1 + 1, p733 =>
    if (decide (p733 < (s0.length : Int))) = true then
      (atI s0 p733).bind fun x737 =>
      (printer_rung_1 n x737 b0).bind fun r739 =>
      if r739 = true then
        some p733
      else
        (slices_IndexFunc_api_Rung_c86_L1 n s0 b0 rec_n1) (IntKind.i64.wrap (p733 + 1))
    else
      some (-1)

def slices_IndexFunc_api_Rung_c86 (n : Nat) (s0 : List ApiRung) (b0 : ApiRung) : Option (Int) :=
  slices_IndexFunc_api_Rung_c86_L1 n s0 b0 n 0

def slices_ContainsFunc_api_Rung_c86 (n : Nat) (s0 : List ApiRung) (b0 : ApiRung) : Option (Bool) :=
  (slices_IndexFunc_api_Rung_c86 n s0 b0).bind fun r743 =>
  some (decide (r743 ≥ 0))

def addr_Width (n : Nat) (s0 : ApiSize) (space1 : Int) : Option (Int) :=
  if (space1 == 0) = true then
    some s0.I
  else
    if (space1 == 1) = true then
      some s0.Q
    else
      if (space1 == 2) = true then
        some s0.M
      else
        some 0

def addr_CheckAddr (n : Nat) (s0 : ApiSize) (a1 : ApiAddr) : Option (Int) :=
  (addr_within n a1.Space 2).bind fun r748 =>
  if (!r748) = true then
    some 8
  else
    (addr_Width n s0 a1.Space).bind fun r750 =>
    (addr_within n a1.N (IntKind.i64.wrap (r750 - 1))).bind fun r752 =>
    if (!r752) = true then
      some 3
    else
      some 0

def printer_part (n : Nat) (s0 : ApiSize) (kind1 : Int) (a2 : ApiAddr) : Option (Int) :=
  if (decide (kind1 < 0)) = true then
    some 8
  else
    if (decide (kind1 ≥ 4)) = true then
      some 8
    else
      (addr_CheckAddr n s0 a2).bind fun r754 =>
      some r754

def printer_rung_J3 (n : Nat) (a2 : ApiRung) : Option (Int) :=
  if (!(decide (a2.Jump = (⟨#[]⟩ : Str)))) = true then
    (lex_IsName n a2.Jump).bind fun r793 =>
    if (!r793) = true then
      some 6
    else
      some 0
  else
    some 0

def printer_rung_L4 (n : Nat) (_append0 : ApiSize) (a2 : ApiRung) : Nat → Int → Option (Int)
  | 0, _ => none
  | rec_n4 + 1, p797 =>
    if (decide (p797 < (a2.Coils.length : Int))) = true then
      (atI a2.Coils p797).bind fun x801 =>
      (printer_part n _append0 x801.Kind x801.A).bind fun r803 =>
      if (r803 != 0) = true then
        some r803
      else
        if (x801.A.Space == 0) = true then
          some 2
        else
          (printer_rung_L4 n _append0 a2 rec_n4) (IntKind.i64.wrap (p797 + 1))
    else
      printer_rung_J3 n a2

def printer_rung_J2 (n : Nat) (_append0 : ApiSize) (a2 : ApiRung) : Option (Int) :=
  if (decide ((a2.Coils.length : Int) > 16)) = true then
    some 10
  else
    printer_rung_L4 n _append0 a2 n 0

def printer_rung_L5 (n : Nat) (_append0 : ApiSize) (a2 : ApiRung) : Nat → Int → Option (Int)
  | 0, _ => none
  | rec_n5 + 1, p813 =>
    if (decide (p813 < (a2.Contacts.length : Int))) = true then
      (atI a2.Contacts p813).bind fun x823 =>
      (printer_part n _append0 x823.Kind x823.A).bind fun r827 =>
      if (r827 != 0) = true then
        some r827
      else
        (lex_IsName n x823.From).bind fun r829 =>
        if (!r829) = true then
          some 6
        else
          (lex_IsName n x823.To).bind fun r831 =>
          if (!r831) = true then
            some 6
          else
            (printer_rung_L5 n _append0 a2 rec_n5) (IntKind.i64.wrap (p813 + 1))
    else
      printer_rung_J2 n _append0 a2

def printer_rung_J1 (n : Nat) (_append0 : ApiSize) (a2 : ApiRung) : Option (Int) :=
  if (decide ((a2.Contacts.length : Int) > 256)) = true then
    some 10
  else
    printer_rung_L5 n _append0 a2 n 0

def printer_rung (n : Nat) (_append0 : ApiSize) (a1 : List ApiRung) (a2 : ApiRung) : Option (Int) :=
  if (!(decide (a2.Label = (⟨#[]⟩ : Str)))) = true then
    (lex_IsName n a2.Label).bind fun r833 =>
    if (!r833) = true then
      some 6
    else
      (slices_ContainsFunc_api_Rung_c86 n a1 a2).bind fun r835 =>
      if r835 = true then
        some 9
      else
        printer_rung_J1 n _append0 a2
  else
    printer_rung_J1 n _append0 a2

def printer_Check_1 (n : Nat) (x_0 : ApiRung) (b0 : ApiRung) : Option (Bool) :=
  some (decide (x_0.Label = b0.Jump))

def slices_IndexFunc_api_Rung_c54_L1 (n : Nat) (s0 : List ApiRung) (b0 : ApiRung) : Nat → Int → Option (Int)
  | 0, _ => none
  | rec_n1 + 1, p862 =>
    if (decide (p862 < (s0.length : Int))) = true then
      (atI s0 p862).bind fun x866 =>
      (printer_Check_1 n x866 b0).bind fun r868 =>
      if r868 = true then
        some p862
      else
        (slices_IndexFunc_api_Rung_c54_L1 n s0 b0 rec_n1) (IntKind.i64.wrap (p862 + 1))
    else
      some (-1)

def slices_IndexFunc_api_Rung_c54 (n : Nat) (s0 : List ApiRung) (b0 : ApiRung) : Option (Int) :=
  slices_IndexFunc_api_Rung_c54_L1 n s0 b0 n 0

def slices_ContainsFunc_api_Rung_c54 (n : Nat) (s0 : List ApiRung) (b0 : ApiRung) : Option (Bool) :=
  (slices_IndexFunc_api_Rung_c54 n s0 b0).bind fun r872 =>
  some (decide (r872 ≥ 0))

def printer_Check_L2 (n : Nat) (_append0 : ApiLadder) : Nat → Int → Option (Int × Int)
  | 0, _ => none
  | rec_n2 + 1, p875 =>
    if (decide (p875 < (_append0.Rungs.length : Int))) = true then
      (atI _append0.Rungs p875).bind fun x880 =>
      if (!(decide (x880.Jump = (⟨#[]⟩ : Str)))) = true then
        if 0 ≤ (IntKind.i64.wrap (p875 + 1)) ∧ (IntKind.i64.wrap (p875 + 1)) ≤ (_append0.Rungs.length : Int) ∧ (_append0.Rungs.length : Int) ≤ (_append0.Rungs.length : Int) then
          (some (_append0.Rungs.drop (IntKind.i64.wrap (p875 + 1)).toNat)).bind fun l881 =>
          (slices_ContainsFunc_api_Rung_c54 n l881 x880).bind fun r883 =>
          if (!r883) = true then
            some (p875, 15)
          else
            (printer_Check_L2 n _append0 rec_n2) (IntKind.i64.wrap (p875 + 1))
        else none
      else
        (printer_Check_L2 n _append0 rec_n2) (IntKind.i64.wrap (p875 + 1))
    else
      some ((_append0.Rungs.length : Int), 0)

def printer_Check_J1 (n : Nat) (_append0 : ApiLadder) : Option (Int × Int) :=
  printer_Check_L2 n _append0 n 0

def printer_Check_L3 (n : Nat) (_append0 : ApiLadder) (r696 : ApiSize) : Nat → Int → Option (Int × Int)
  | 0, _ => none
  | rec_n3 + 1, p888 =>
    if (decide (p888 < (_append0.Rungs.length : Int))) = true then
      (atI _append0.Rungs p888).bind fun x893 =>
      if 0 ≤ 0 ∧ 0 ≤ p888 ∧ p888 ≤ (_append0.Rungs.length : Int) then
        (some (_append0.Rungs.take p888.toNat)).bind fun l894 =>
        (printer_rung n r696 l894 x893).bind fun r896 =>
        if (r896 != 0) = true then
          some (p888, r896)
        else
          (printer_Check_L3 n _append0 r696 rec_n3) (IntKind.i64.wrap (p888 + 1))
      else none
    else
      printer_Check_J1 n _append0

def printer_Check (n : Nat) (_append0 : ApiLadder) : Option (Int × Int) :=
  (printer_sizes n _append0).bind fun r696 =>
  (addr_CheckSize n r696).bind fun r708 =>
  if (r708 != 0) = true then
    some (0, 3)
  else
    if (decide ((_append0.Rungs.length : Int) > 64)) = true then
      some (0, 10)
    else
      printer_Check_L3 n _append0 r696 n 0

def rungeval_sees (n : Nat) (c0 : ApiContact) : Option (Bool) :=
  if (c0.Kind == 2) = true then
    some true
  else
    some (c0.Kind == 3)

def rungeval_EdgeCount_L1 (n : Nat) (r_0 : ApiRung) : Nat → Int → Int → Option (Int)
  | 0, _, _ => none
  | rec_n1 + 1, p925, p926 =>
    if (decide (p926 < (r_0.Contacts.length : Int))) = true then
      (atI r_0.Contacts p926).bind fun x930 =>
      (rungeval_sees n x930).bind fun r932 =>
      if r932 = true then
        (rungeval_EdgeCount_L1 n r_0 rec_n1) (IntKind.i64.wrap (p925 + 1)) (IntKind.i64.wrap (p926 + 1))
      else
        (rungeval_EdgeCount_L1 n r_0 rec_n1) p925 (IntKind.i64.wrap (p926 + 1))
    else
      some p925

def rungeval_EdgeCount (n : Nat) (r_0 : ApiRung) : Option (Int) :=
  rungeval_EdgeCount_L1 n r_0 n 0 0

def pathmodel_SlotBases_L1 (n : Nat) (l0 : ApiLadder) : Nat → Int → (List Int) → Option ((List Int))
  | 0, _, _ => none
  | rec_n1 + 1, p936, l937 =>
    if (decide (p936 < (l0.Rungs.length : Int))) = true then
      (atI l0.Rungs p936).bind fun x943 =>
      (atI l937 p936).bind fun x944 =>
      (rungeval_EdgeCount n x943).bind fun r946 =>
      if l937.length + ([(IntKind.i64.wrap (x944 + r946))]).length ≤ 1000000000 then
        (some (l937 ++ ([(IntKind.i64.wrap (x944 + r946))]))).bind fun l947 =>
        (pathmodel_SlotBases_L1 n l0 rec_n1) (IntKind.i64.wrap (p936 + 1)) l947
      else none
    else
      some l937

def pathmodel_SlotBases (n : Nat) (l0 : ApiLadder) : Option ((List Int)) :=
  if 0 ≤ 1 ∧ 1 ≤ (IntKind.i64.wrap ((l0.Rungs.length : Int) + 1)) ∧ (IntKind.i64.wrap ((l0.Rungs.length : Int) + 1)) ≤ 1000000000 then
    (some (List.replicate 1 0)).bind fun l919 =>
    pathmodel_SlotBases_L1 n l0 n 0 l919
  else none

def state_images (n : Nat) (st0 : ApiState) : Option (((List Bool) × (List Bool) × (List Bool))) :=
  some (st0.Q, st0.M, st0.E)

def state_Fits_L1 (n : Nat) (s0 : ApiSize) (r952 : (List Bool) × (List Bool) × (List Bool)) : Nat → Int → Option (Bool)
  | 0, _ => none
  | rec_n1 + 1, p957 =>
    if (decide (p957 < 3)) = true then
      if p957 = 0 then
        if ((r952.1.length : Int) != s0.Q) = true then
          some false
        else
          (state_Fits_L1 n s0 r952 rec_n1) (IntKind.i64.wrap (p957 + 1))
      else
        if p957 = 1 then
          if ((r952.2.1.length : Int) != s0.M) = true then
            some false
          else
            (state_Fits_L1 n s0 r952 rec_n1) (IntKind.i64.wrap (p957 + 1))
        else
          if p957 = 2 then
            if ((r952.2.2.length : Int) != s0.E) = true then
              some false
            else
              (state_Fits_L1 n s0 r952 rec_n1) (IntKind.i64.wrap (p957 + 1))
          else
            none
    else
      (addr_CheckSize n s0).bind fun r965 =>
      some (r965 == 0)

def state_Fits (n : Nat) (s0 : ApiSize) (st1 : ApiState) : Option (Bool) :=
  (state_images n st1).bind fun r952 =>
  state_Fits_L1 n s0 r952 n 0

def slices_Clone_bool (n : Nat) (s0 : List Bool) : Option ((List Bool)) :=
  isnilM s0 (
    some ([])) (
    if s0.length ≤ 1000000000 then
      some s0
    else none)

def state_Clone (n : Nat) (st0 : ApiState) : Option (ApiState) :=
  (slices_Clone_bool n st0.Q).bind fun r974 =>
  (slices_Clone_bool n st0.M).bind fun r976 =>
  (slices_Clone_bool n st0.E).bind fun r978 =>
  some (⟨r974, r976, r978⟩ : ApiState)

def pathmodel_rungs (n : Nat) (l0 : ApiLadder) (b0 : Bool) : Option (Unit) :=
  some ()

def slices_Clone_bool_o0 (n : Nat) (s0 : List Bool) : Option ((List Bool)) :=
  isnilM s0 (
    some ([])) (
    if s0.length ≤ 1000000000 then
      some s0
    else none)

def state_Clone_o2 (n : Nat) (st0 : ApiState) : Option (ApiState) :=
  (slices_Clone_bool n st0.Q).bind fun r1016 =>
  (slices_Clone_bool n st0.M).bind fun r1018 =>
  (slices_Clone_bool_o0 n st0.E).bind fun r1024 =>
  some (⟨r1016, r1018, r1024⟩ : ApiState)

def image_is (n : Nat) (l0 : List Bool) (n_1 : Int) : Option (Bool) :=
  if (decide (n_1 ≥ 0)) = true then
    some (decide (n_1 < (l0.length : Int)))
  else
    some false

def image_Get (n : Nat) (l0 : List Bool) (n_1 : Int) : Option (Bool × Int) :=
  (image_is n l0 n_1).bind fun r1030 =>
  if (!r1030) = true then
    some (false, 3)
  else
    (atI l0 n_1).bind fun x1031 =>
    some (x1031, 0)

def state_Read (n : Nat) (in0 : List Bool) (st1 : ApiState) (a2 : ApiAddr) : Option (Bool × Int) :=
  if (decide (a2.Space < 0)) = true then
    some (false, 8)
  else
    if (decide (a2.Space ≥ 3)) = true then
      some (false, 8)
    else
      if a2.Space = 0 then
        (image_Get n in0 a2.N).bind fun ⟨r1033, r1034⟩ =>
        some (r1033, r1034)
      else
        if a2.Space = 1 then
          (image_Get n st1.Q a2.N).bind fun ⟨r1036, r1037⟩ =>
          some (r1036, r1037)
        else
          if a2.Space = 2 then
            (image_Get n st1.M a2.N).bind fun ⟨r1039, r1040⟩ =>
            some (r1039, r1040)
          else
            none

def rungeval_conducting (n : Nat) (kind0 : Int) (v1 : Bool) (was2 : Bool) : Option (Bool) :=
  if v1 = true then
    if kind0 = 0 then
      some v1
    else
      if kind0 = 1 then
        some (!v1)
      else
        if kind0 = 2 then
          some (!was2)
        else
          if kind0 = 3 then
            some false
          else
            none
  else
    if kind0 = 0 then
      some v1
    else
      if kind0 = 1 then
        some (!v1)
      else
        if kind0 = 2 then
          some false
        else
          if kind0 = 3 then
            some was2
          else
            none

def rungeval_Contacts_J2 (n : Nat) (l1060 : List Bool) (p1061 : Int) (loop_1_rungeval_Contacts : (List Bool) → (List Bool) → Int → Int → Option ((List Bool) × ApiState × Int)) (x1082 : ApiContact) (r1084 : Bool) (l1090 : List Bool) (x1091 : Bool) (p1092 : Int) : Option ((List Bool) × ApiState × Int) :=
  (rungeval_conducting n x1082.Kind r1084 x1091).bind fun r1094 =>
  (atI l1060 p1061).bind fun x1095 =>
  (some (l1060.set p1061.toNat r1094)).bind fun l1096 =>
  loop_1_rungeval_Contacts l1090 l1096 (IntKind.i64.wrap (p1061 + 1)) p1092

def rungeval_Contacts_L1 (n : Nat) (_append0 : ApiRung) (a1 : List Bool) (a2 : ApiState) (r1026 : ApiState) : Nat → (List Bool) → (List Bool) → Int → Int → Option ((List Bool) × ApiState × Int)
  | 0, _, _, _, _ => none
  | rec_n1 + 1, p1059, l1060, p1061, a1062 =>
    if (decide (p1061 < (_append0.Contacts.length : Int))) = true then
      (atI _append0.Contacts p1061).bind fun x1082 =>
      if (decide (x1082.Kind < 0)) = true then
        some ([], (⟨[], [], []⟩ : ApiState), 8)
      else
        if (decide (x1082.Kind ≥ 4)) = true then
          some ([], (⟨[], [], []⟩ : ApiState), 8)
        else
          (state_Read n a1 a2 x1082.A).bind fun ⟨r1084, r1085⟩ =>
          if (r1085 != 0) = true then
            some ([], (⟨[], [], []⟩ : ApiState), r1085)
          else
            (rungeval_sees n x1082).bind fun r1098 =>
            if r1098 = true then
              if (decide (a1062 < 0)) = true then
                some ([], (⟨[], [], []⟩ : ApiState), 3)
              else
                if (decide (a1062 ≥ (p1059.length : Int))) = true then
                  some ([], (⟨[], [], []⟩ : ApiState), 3)
                else
                  (atI p1059 a1062).bind fun x1099 =>
                  (some (p1059.set a1062.toNat r1084)).bind fun l1100 =>
                  rungeval_Contacts_J2 n l1060 p1061 (rungeval_Contacts_L1 n _append0 a1 a2 r1026 rec_n1) x1082 r1084 l1100 x1099 (IntKind.i64.wrap (a1062 + 1))
            else
              rungeval_Contacts_J2 n l1060 p1061 (rungeval_Contacts_L1 n _append0 a1 a2 r1026 rec_n1) x1082 r1084 p1059 false a1062
    else
      some (l1060, (⟨r1026.Q, r1026.M, p1059⟩ : ApiState), 0)

def rungeval_Contacts (n : Nat) (_append0 : ApiRung) (a1 : List Bool) (a2 : ApiState) (a3 : Int) : Option ((List Bool) × ApiState × Int) :=
  (state_Clone_o2 n a2).bind fun r1026 =>
  if 0 ≤ (_append0.Contacts.length : Int) ∧ (_append0.Contacts.length : Int) ≤ (_append0.Contacts.length : Int) ∧ (_append0.Contacts.length : Int) ≤ 1000000000 then
    (some (List.replicate _append0.Contacts.length false)).bind fun l1027 =>
    rungeval_Contacts_L1 n _append0 a1 a2 r1026 n r1026.E l1027 0 a3
  else none

def rungeval_Conducts_L2 (r_0 : ApiRung) (on1 : List Bool) (loop_1_rungeval_Conducts : Nat → (List (Str × Bool)) → (List Str) → Option (Bool × Int)) (x1142 : Str) : Nat → Int → (List (Str × Bool)) → (List Str) → Nat → Option (Bool × Int)
  | 0, _, _, _, _ => none
  | rec_n2 + 1, p1146, p1147, l1148, p1149 =>
    if (decide (p1146 < (r_0.Contacts.length : Int))) = true then
      (atI r_0.Contacts p1146).bind fun x1153 =>
      (atI on1 p1146).bind fun x1154 =>
      if x1154 = true then
        if (decide (x1153.From = x1142)) = true then
          if (!((mGet p1147 x1153.To).getD false)) = true then
            if (l1148.length - p1149) + ([x1153.To]).length ≤ 1000000000 ∧ p1149 ≤ l1148.length then
              (some ((l1148.drop p1149) ++ ([x1153.To]))).bind fun l1155 =>
              (rungeval_Conducts_L2 r_0 on1 loop_1_rungeval_Conducts x1142 rec_n2) (IntKind.i64.wrap (p1146 + 1)) (mPut p1147 x1153.To true) l1155 0
            else none
          else
            (rungeval_Conducts_L2 r_0 on1 loop_1_rungeval_Conducts x1142 rec_n2) (IntKind.i64.wrap (p1146 + 1)) p1147 l1148 p1149
        else
          (rungeval_Conducts_L2 r_0 on1 loop_1_rungeval_Conducts x1142 rec_n2) (IntKind.i64.wrap (p1146 + 1)) p1147 l1148 p1149
      else
        (rungeval_Conducts_L2 r_0 on1 loop_1_rungeval_Conducts x1142 rec_n2) (IntKind.i64.wrap (p1146 + 1)) p1147 l1148 p1149
    else
      loop_1_rungeval_Conducts p1149 p1147 l1148

def rungeval_Conducts_L1 (n : Nat) (r_0 : ApiRung) (on1 : List Bool) : Nat → Nat → (List (Str × Bool)) → (List Str) → Option (Bool × Int)
  | 0, _, _, _ => none
  | rec_n1 + 1, p1125, p1126, l1127 =>
    if (decide ((((l1127.length - p1125) : Nat) : Int) > 0)) = true then
      (atI (l1127.drop p1125) 0).bind fun x1142 =>
      if 0 ≤ 1 ∧ 1 ≤ (((l1127.length - p1125) : Nat) : Int) ∧ (((l1127.length - p1125) : Nat) : Int) ≤ (((l1127.length - p1125) : Nat) : Int) then
        rungeval_Conducts_L2 r_0 on1 (rungeval_Conducts_L1 n r_0 on1 rec_n1) x1142 n 0 p1126 l1127 (p1125 + 1)
      else none
    else
      some (((mGet p1126 (⟨#[82]⟩ : Str)).getD false), 0)

def rungeval_Conducts (n : Nat) (r_0 : ApiRung) (on1 : List Bool) : Option (Bool × Int) :=
  if ((on1.length : Int) != (r_0.Contacts.length : Int)) = true then
    some (false, 2)
  else
    (some ([(⟨#[76]⟩ : Str)])).bind fun l1110 =>
    rungeval_Conducts_L1 n r_0 on1 n 0 (mPut ([]) (⟨#[76]⟩ : Str) true) l1110

def rungeval_writes (n : Nat) (kind0 : Int) (on1 : Bool) : Option (Bool × Bool) :=
  if kind0 = 0 then
    some (on1, true)
  else
    if kind0 = 1 then
      some ((!on1), true)
    else
      if kind0 = 2 then
        some (true, on1)
      else
        if kind0 = 3 then
          some (false, on1)
        else
          none

def image_Set (n : Nat) (l0 : List Bool) (n_1 : Int) (v2 : Bool) : Option ((List Bool) × Int) :=
  (image_is n l0 n_1).bind fun r1170 =>
  if (!r1170) = true then
    some ([], 3)
  else
    if 0 ≤ (l0.length : Int) ∧ (l0.length : Int) ≤ (l0.length : Int) ∧ (l0.length : Int) ≤ 1000000000 then
      (some (List.replicate l0.length false)).bind fun l1171 =>
      (some (l0.take (min l0.length l0.length) ++ l1171.drop (min l0.length l0.length))).bind fun l1172 =>
      (atI l1172 n_1).bind fun x1173 =>
      (some (l1172.set n_1.toNat v2)).bind fun l1174 =>
      some (l1174, 0)
    else none

def state_Write_J1 (r1166 : ApiState) (r1181 : List Bool) (r1182 : Int) (p1183 : List Bool) : Option (ApiState × Int) :=
  if (r1182 != 0) = true then
    some ((⟨[], [], []⟩ : ApiState), r1182)
  else
    some ((⟨r1181, p1183, r1166.E⟩ : ApiState), 0)

def state_Write (n : Nat) (st0 : ApiState) (a1 : ApiAddr) (v2 : Bool) : Option (ApiState × Int) :=
  (state_Clone n st0).bind fun r1166 =>
  if (a1.Space == 1) = true then
    (image_Set n st0.Q a1.N v2).bind fun ⟨r1185, r1186⟩ =>
    state_Write_J1 r1166 r1185 r1186 r1166.M
  else
    if (a1.Space == 2) = true then
      (image_Set n st0.M a1.N v2).bind fun ⟨r1188, r1189⟩ =>
      state_Write_J1 r1166 r1166.Q r1189 r1188
    else
      state_Write_J1 r1166 r1166.Q 8 r1166.M

def rungeval_Coils_L1 (n : Nat) (r_0 : ApiRung) (on2 : Bool) : Nat → Int → (List Bool) → (List Bool) → (List Bool) → Option (ApiState × Int)
  | 0, _, _, _, _ => none
  | rec_n1 + 1, p1193, p1194, p1195, p1196 =>
    if (decide (p1193 < (r_0.Coils.length : Int))) = true then
      (atI r_0.Coils p1193).bind fun x1204 =>
      if (decide (x1204.Kind < 0)) = true then
        some ((⟨[], [], []⟩ : ApiState), 8)
      else
        if (decide (x1204.Kind ≥ 4)) = true then
          some ((⟨[], [], []⟩ : ApiState), 8)
        else
          (rungeval_writes n x1204.Kind on2).bind fun ⟨r1206, r1207⟩ =>
          (state_Write n (⟨p1194, p1195, p1196⟩ : ApiState) x1204.A r1206).bind fun ⟨r1209, r1210⟩ =>
          if (r1210 != 0) = true then
            some ((⟨[], [], []⟩ : ApiState), r1210)
          else
            if r1207 = true then
              (rungeval_Coils_L1 n r_0 on2 rec_n1) (IntKind.i64.wrap (p1193 + 1)) r1209.Q r1209.M r1209.E
            else
              (rungeval_Coils_L1 n r_0 on2 rec_n1) (IntKind.i64.wrap (p1193 + 1)) p1194 p1195 p1196
    else
      some ((⟨p1194, p1195, p1196⟩ : ApiState), 0)

def rungeval_Coils (n : Nat) (r_0 : ApiRung) (st1 : ApiState) (on2 : Bool) : Option (ApiState × Int) :=
  (state_Clone n st1).bind fun r1160 =>
  rungeval_Coils_L1 n r_0 on2 n 0 r1160.Q r1160.M r1160.E

def rungeval_Scan (n : Nat) (r_0 : ApiRung) (in1 : List Bool) (st2 : ApiState) (slot3 : Int) : Option (ApiState × Bool × Int) :=
  (rungeval_Contacts n r_0 in1 st2 slot3).bind fun ⟨r1102, r1103, r1104⟩ =>
  if (r1104 != 0) = true then
    some ((⟨[], [], []⟩ : ApiState), false, r1104)
  else
    (rungeval_Conducts n r_0 r1102).bind fun ⟨r1157, r1158⟩ =>
    if (r1158 != 0) = true then
      some ((⟨[], [], []⟩ : ApiState), false, r1158)
    else
      (rungeval_Coils n r_0 r1103 r1157).bind fun ⟨r1212, r1213⟩ =>
      if (r1213 != 0) = true then
        some ((⟨[], [], []⟩ : ApiState), false, r1213)
      else
        some (r1212, r1157, 0)

def pathmodel_behind_1 (n : Nat) (r_0 : ApiRung) (b0 : ApiLadder) (b1 : Int) : Option (Bool) :=
  (atI b0.Rungs b1).bind fun x1228 =>
  some (decide (r_0.Label = x1228.Jump))

def slices_IndexFunc_api_Rung_c89_L1 (n : Nat) (s0 : List ApiRung) (b0 : ApiLadder) (b1 : Int) : Nat → Int → Option (Int)
  | 0, _ => none
  | rec_n1 + 1, p1241 =>
    if (decide (p1241 < (s0.length : Int))) = true then
      (atI s0 p1241).bind fun x1245 =>
      (pathmodel_behind_1 n x1245 b0 b1).bind fun r1247 =>
      if r1247 = true then
        some p1241
      else
        (slices_IndexFunc_api_Rung_c89_L1 n s0 b0 b1 rec_n1) (IntKind.i64.wrap (p1241 + 1))
    else
      some (-1)

def slices_IndexFunc_api_Rung_c89 (n : Nat) (s0 : List ApiRung) (b0 : ApiLadder) (b1 : Int) : Option (Int) :=
  slices_IndexFunc_api_Rung_c89_L1 n s0 b0 b1 n 0

def pathmodel_behind (n : Nat) (l0 : ApiLadder) (at1 : Int) : Option (Int) :=
  if 0 ≤ (IntKind.i64.wrap (at1 + 1)) ∧ (IntKind.i64.wrap (at1 + 1)) ≤ (l0.Rungs.length : Int) ∧ (l0.Rungs.length : Int) ≤ (l0.Rungs.length : Int) then
    (some (l0.Rungs.drop (IntKind.i64.wrap (at1 + 1)).toNat)).bind fun l1225 =>
    (slices_IndexFunc_api_Rung_c89 n l1225 l0 at1).bind fun r1249 =>
    some (IntKind.i64.wrap ((IntKind.i64.wrap (at1 + 1)) + r1249))
  else none

def pathmodel_Scan_L1 (n : Nat) (_append0 : ApiLadder) (a1 : List Bool) (r949 : List Int) : Nat → (List Bool) → (List Bool) → (List Bool) → (List Bool) → Bool → Int → Option (ApiState × (List Bool) × Int)
  | 0, _, _, _, _, _, _ => none
  | rec_n1 + 1, p1252, p1253, p1254, l1255, false1256, p1257 =>
    if (decide (p1257 < (_append0.Rungs.length : Int))) = true then
      (atI _append0.Rungs p1257).bind fun x1275 =>
      (atI l1255 p1257).bind fun x1283 =>
      (some (l1255.set p1257.toNat true)).bind fun l1284 =>
      (atI r949 p1257).bind fun x1285 =>
      (rungeval_Scan n x1275 a1 (⟨p1252, p1253, p1254⟩ : ApiState) x1285).bind fun ⟨r1287, r1288, r1289⟩ =>
      if (r1289 != 0) = true then
        some ((⟨[], [], []⟩ : ApiState), [], r1289)
      else
        if r1288 = true then
          if (!(decide (x1275.Jump = (⟨#[]⟩ : Str)))) = true then
            (pathmodel_behind n _append0 p1257).bind fun r1291 =>
            (pathmodel_Scan_L1 n _append0 a1 r949 rec_n1) r1287.Q r1287.M r1287.E l1284 r1288 r1291
          else
            (pathmodel_Scan_L1 n _append0 a1 r949 rec_n1) r1287.Q r1287.M r1287.E l1284 r1288 (IntKind.i64.wrap (p1257 + 1))
        else
          (pathmodel_Scan_L1 n _append0 a1 r949 rec_n1) r1287.Q r1287.M r1287.E l1284 r1288 (IntKind.i64.wrap (p1257 + 1))
    else
      some ((⟨p1252, p1253, p1254⟩ : ApiState), l1255, 0)

def pathmodel_Scan (n : Nat) (_append0 : ApiLadder) (a1 : List Bool) (a2 : ApiState) : Option (ApiState × (List Bool) × Int) :=
  (printer_Check n _append0).bind fun ⟨r901, r902⟩ =>
  if (r902 != 0) = true then
    some ((⟨[], [], []⟩ : ApiState), [], r902)
  else
    (pathmodel_SlotBases n _append0).bind fun r949 =>
    if ((a1.length : Int) != _append0.I) = true then
      some ((⟨[], [], []⟩ : ApiState), [], 2)
    else
      (atI r949 (_append0.Rungs.length : Int)).bind fun x968 =>
      (state_Fits n (⟨_append0.I, _append0.Q, _append0.M, x968⟩ : ApiSize) a2).bind fun r970 =>
      if (!r970) = true then
        some ((⟨[], [], []⟩ : ApiState), [], 2)
      else
        (state_Clone n a2).bind fun r980 =>
        if 0 ≤ (_append0.Rungs.length : Int) ∧ (_append0.Rungs.length : Int) ≤ (_append0.Rungs.length : Int) ∧ (_append0.Rungs.length : Int) ≤ 1000000000 then
          (some (List.replicate _append0.Rungs.length false)).bind fun l981 =>
          (pathmodel_rungs n _append0 false).bind fun _ =>
          pathmodel_Scan_L1 n _append0 a1 r949 n r980.Q r980.M r980.E l981 false 0
        else none

def slices_Equal_bool_L1 (s10 : List Bool) (s21 : List Bool) : Nat → Int → Option (Bool)
  | 0, _ => none
  | rec_n1 + 1, p1299 =>
    if (decide (p1299 < (s10.length : Int))) = true then
      (atI s10 p1299).bind fun x1302 =>
      (atI s21 p1299).bind fun x1303 =>
      if (!(x1302 == x1303)) = true then
        some false
      else
        (slices_Equal_bool_L1 s10 s21 rec_n1) (IntKind.i64.wrap (p1299 + 1))
    else
      some true

def slices_Equal_bool (n : Nat) (s10 : List Bool) (s21 : List Bool) : Option (Bool) :=
  if ((s10.length : Int) != (s21.length : Int)) = true then
    some false
  else
    slices_Equal_bool_L1 s10 s21 n 0

def law20_alive (n : Nat) : Option (Bool) :=
  (law20_example n ).bind fun r692 =>
  (some ([true])).bind fun l693 =>
  if 0 ≤ 2 ∧ 2 ≤ 2 ∧ 2 ≤ 1000000000 then
    (some (List.replicate 2 false)).bind fun l694 =>
    (pathmodel_Scan n r692 l693 (⟨l694, [], []⟩ : ApiState)).bind fun ⟨r1293, r1294, r1295⟩ =>
    if (r1295 == 0) = true then
      if ((r1294.length : Int) == 3) = true then
        (some ([true, false, true])).bind fun l1296 =>
        (slices_Equal_bool n r1294 l1296).bind fun r1305 =>
        if r1305 = true then
          (some ([false, true])).bind fun l1306 =>
          (slices_Equal_bool n r1293.Q l1306).bind fun r1308 =>
          some r1308
        else
          some false
      else
        some false
    else
      some false
  else none

def ref03_Clone (n : Nat) (st0 : ApiState) : Option (ApiState) :=
  if st0.Q.length ≤ 1000000000 then
    if st0.M.length ≤ 1000000000 then
      if st0.E.length ≤ 1000000000 then
        some st0
      else none
    else none
  else none

def ref09_letter (n : Nat) (c0 : Int) : Option (Bool) :=
  if (decide (c0 ≥ 65)) = true then
    if (decide (c0 ≤ 90)) = true then
      some true
    else
      if (decide (c0 ≥ 97)) = true then
        some (decide (c0 ≤ 122))
      else
        some false
  else
    if (decide (c0 ≥ 97)) = true then
      some (decide (c0 ≤ 122))
    else
      some false

def ref09_IsName_L1 (n : Nat) (w_0 : Str) : Nat → Int → Option (Bool)
  | 0, _ => none
  | rec_n1 + 1, p1335 =>
    if (decide (p1335 < (w_0.size : Int))) = true then
      (atI w_0.data.toList p1335).bind fun b1342 =>
      (ref09_letter n (b1342.toNat : Int)).bind fun r1344 =>
      if (!r1344) = true then
        (atI w_0.data.toList p1335).bind fun b1345 =>
        if ((b1345.toNat : Int) != 95) = true then
          (atI w_0.data.toList p1335).bind fun b1346 =>
          if (decide ((b1346.toNat : Int) < 48)) = true then
            some false
          else
            (atI w_0.data.toList p1335).bind fun b1347 =>
            if (decide ((b1347.toNat : Int) > 57)) = true then
              some false
            else
              (ref09_IsName_L1 n w_0 rec_n1) (IntKind.i64.wrap (p1335 + 1))
        else
          (ref09_IsName_L1 n w_0 rec_n1) (IntKind.i64.wrap (p1335 + 1))
      else
        (ref09_IsName_L1 n w_0 rec_n1) (IntKind.i64.wrap (p1335 + 1))
    else
      some true

def ref09_IsName (n : Nat) (w_0 : Str) : Option (Bool) :=
  if (decide (w_0 = (⟨#[]⟩ : Str))) = true then
    some false
  else
    if (decide ((w_0.size : Int) > 16)) = true then
      some false
    else
      (atI w_0.data.toList 0).bind fun b1326 =>
      (ref09_letter n (b1326.toNat : Int)).bind fun r1328 =>
      if (!r1328) = true then
        some false
      else
        ref09_IsName_L1 n w_0 n 0

def ref01_Width (n : Nat) (s0 : ApiSize) (space1 : Int) : Option (Int) :=
  if (space1 == 0) = true then
    some s0.I
  else
    if (space1 == 1) = true then
      some s0.Q
    else
      if (space1 == 2) = true then
        some s0.M
      else
        some 0

def ref01_CheckAddr (n : Nat) (s0 : ApiSize) (a1 : ApiAddr) : Option (Int) :=
  if (decide (a1.Space < 0)) = true then
    some 8
  else
    if (decide (a1.Space > 2)) = true then
      some 8
    else
      if (decide (a1.N < 0)) = true then
        some 3
      else
        (ref01_Width n s0 a1.Space).bind fun r1358 =>
        if (decide (a1.N ≥ r1358)) = true then
          some 3
        else
          some 0

def ref11_contacts_L1 (n : Nat) (s0 : ApiSize) (r_1 : ApiRung) : Nat → Int → Option (Int)
  | 0, _ => none
  | rec_n1 + 1, p1365 =>
    if (decide (p1365 < (r_1.Contacts.length : Int))) = true then
      (atI r_1.Contacts p1365).bind fun x1373 =>
      if (decide (x1373.Kind < 0)) = true then
        some 8
      else
        if (decide (x1373.Kind > 3)) = true then
          some 8
        else
          (ref01_CheckAddr n s0 x1373.A).bind fun r1375 =>
          if (r1375 != 0) = true then
            some r1375
          else
            (ref09_IsName n x1373.From).bind fun r1377 =>
            if (!r1377) = true then
              some 6
            else
              (ref09_IsName n x1373.To).bind fun r1379 =>
              if (!r1379) = true then
                some 6
              else
                (ref11_contacts_L1 n s0 r_1 rec_n1) (IntKind.i64.wrap (p1365 + 1))
    else
      some 0

def ref11_contacts (n : Nat) (s0 : ApiSize) (r_1 : ApiRung) : Option (Int) :=
  if (decide ((r_1.Contacts.length : Int) > 256)) = true then
    some 10
  else
    ref11_contacts_L1 n s0 r_1 n 0

def ref11_coils_L1 (n : Nat) (s0 : ApiSize) (r_1 : ApiRung) : Nat → Int → Option (Int)
  | 0, _ => none
  | rec_n1 + 1, p1385 =>
    if (decide (p1385 < (r_1.Coils.length : Int))) = true then
      (atI r_1.Coils p1385).bind fun x1389 =>
      if (decide (x1389.Kind < 0)) = true then
        some 8
      else
        if (decide (x1389.Kind > 3)) = true then
          some 8
        else
          (ref01_CheckAddr n s0 x1389.A).bind fun r1391 =>
          if (r1391 != 0) = true then
            some r1391
          else
            if (x1389.A.Space == 0) = true then
              some 2
            else
              (ref11_coils_L1 n s0 r_1 rec_n1) (IntKind.i64.wrap (p1385 + 1))
    else
      some 0

def ref11_coils (n : Nat) (s0 : ApiSize) (r_1 : ApiRung) : Option (Int) :=
  if (decide ((r_1.Coils.length : Int) > 16)) = true then
    some 10
  else
    ref11_coils_L1 n s0 r_1 n 0

def ref11_rung_J2 (n : Nat) (x1322 : ApiRung) (r1394 : Int) : Option (Int) :=
  if (r1394 == 0) = true then
    if (!(decide (x1322.Jump = (⟨#[]⟩ : Str)))) = true then
      (ref09_IsName n x1322.Jump).bind fun r1396 =>
      if (!r1396) = true then
        some 6
      else
        some r1394
    else
      some r1394
  else
    some r1394

def ref11_rung_J1 (n : Nat) (l0 : ApiLadder) (x1322 : ApiRung) : Option (Int) :=
  (ref11_contacts n (⟨l0.I, l0.Q, l0.M, 0⟩ : ApiSize) x1322).bind fun r1381 =>
  if (r1381 == 0) = true then
    (ref11_coils n (⟨l0.I, l0.Q, l0.M, 0⟩ : ApiSize) x1322).bind fun r1398 =>
    ref11_rung_J2 n x1322 r1398
  else
    ref11_rung_J2 n x1322 r1381

def ref11_rung_L3 (n : Nat) (l0 : ApiLadder) (i_1 : Int) (x1322 : ApiRung) : Nat → Int → Option (Int)
  | 0, _ => none
  | rec_n3 + 1, p1404 =>
    if (decide (p1404 < i_1)) = true then
      (atI l0.Rungs p1404).bind fun x1406 =>
      if (decide (x1406.Label = x1322.Label)) = true then
        some 9
      else
        (ref11_rung_L3 n l0 i_1 x1322 rec_n3) (IntKind.i64.wrap (p1404 + 1))
    else
      ref11_rung_J1 n l0 x1322

def ref11_rung (n : Nat) (l0 : ApiLadder) (i_1 : Int) : Option (Int) :=
  (atI l0.Rungs i_1).bind fun x1322 =>
  if (!(decide (x1322.Label = (⟨#[]⟩ : Str)))) = true then
    (ref09_IsName n x1322.Label).bind fun r1402 =>
    if (!r1402) = true then
      some 6
    else
      ref11_rung_L3 n l0 i_1 x1322 n 0
  else
    ref11_rung_J1 n l0 x1322

def ref10_Behind_L1 (l0 : ApiLadder) (label2 : Str) : Nat → Int → Option (Bool)
  | 0, _ => none
  | rec_n1 + 1, p1416 =>
    if (decide (p1416 < (l0.Rungs.length : Int))) = true then
      (atI l0.Rungs p1416).bind fun x1418 =>
      if (decide (x1418.Label = label2)) = true then
        some true
      else
        (ref10_Behind_L1 l0 label2 rec_n1) (IntKind.i64.wrap (p1416 + 1))
    else
      some false

def ref10_Behind (n : Nat) (l0 : ApiLadder) (at1 : Int) (label2 : Str) : Option (Bool) :=
  ref10_Behind_L1 l0 label2 n (IntKind.i64.wrap (at1 + 1))

def ref11_Check_L2 (n : Nat) (_append0 : ApiLadder) : Nat → Int → Option (Int × Int)
  | 0, _ => none
  | rec_n2 + 1, p1421 =>
    if (decide (p1421 < (_append0.Rungs.length : Int))) = true then
      (atI _append0.Rungs p1421).bind fun x1425 =>
      if (!(decide (x1425.Jump = (⟨#[]⟩ : Str)))) = true then
        (ref10_Behind n _append0 p1421 x1425.Jump).bind fun r1427 =>
        if (!r1427) = true then
          some (p1421, 15)
        else
          (ref11_Check_L2 n _append0 rec_n2) (IntKind.i64.wrap (p1421 + 1))
      else
        (ref11_Check_L2 n _append0 rec_n2) (IntKind.i64.wrap (p1421 + 1))
    else
      some ((_append0.Rungs.length : Int), 0)

def ref11_Check_J1 (n : Nat) (_append0 : ApiLadder) : Option (Int × Int) :=
  ref11_Check_L2 n _append0 n 0

def ref11_Check_L3 (n : Nat) (_append0 : ApiLadder) : Nat → Int → Option (Int × Int)
  | 0, _ => none
  | rec_n3 + 1, p1430 =>
    if (decide (p1430 < (_append0.Rungs.length : Int))) = true then
      (ref11_rung n _append0 p1430).bind fun r1434 =>
      if (r1434 != 0) = true then
        some (p1430, r1434)
      else
        (ref11_Check_L3 n _append0 rec_n3) (IntKind.i64.wrap (p1430 + 1))
    else
      ref11_Check_J1 n _append0

def ref11_Check (n : Nat) (_append0 : ApiLadder) : Option (Int × Int) :=
  if (decide (_append0.I < 0)) = true then
    some (0, 3)
  else
    if (decide (_append0.I > 256)) = true then
      some (0, 3)
    else
      if (decide (_append0.Q < 0)) = true then
        some (0, 3)
      else
        if (decide (_append0.Q > 256)) = true then
          some (0, 3)
        else
          if (decide (_append0.M < 0)) = true then
            some (0, 3)
          else
            if (decide (_append0.M > 256)) = true then
              some (0, 3)
            else
              if (decide ((_append0.Rungs.length : Int) > 64)) = true then
                some (0, 10)
              else
                ref11_Check_L3 n _append0 n 0

def ref16_EdgeCount_L1 (r_0 : ApiRung) : Nat → Int → Int → Option (Int)
  | 0, _, _ => none
  | rec_n1 + 1, p1462, p1463 =>
    if (decide (p1463 < (r_0.Contacts.length : Int))) = true then
      (atI r_0.Contacts p1463).bind fun x1465 =>
      if (x1465.Kind == 2) = true then
        (ref16_EdgeCount_L1 r_0 rec_n1) (IntKind.i64.wrap (p1462 + 1)) (IntKind.i64.wrap (p1463 + 1))
      else
        if (x1465.Kind == 3) = true then
          (ref16_EdgeCount_L1 r_0 rec_n1) (IntKind.i64.wrap (p1462 + 1)) (IntKind.i64.wrap (p1463 + 1))
        else
          (ref16_EdgeCount_L1 r_0 rec_n1) p1462 (IntKind.i64.wrap (p1463 + 1))
    else
      some p1462

def ref16_EdgeCount (n : Nat) (r_0 : ApiRung) : Option (Int) :=
  ref16_EdgeCount_L1 r_0 n 0 0

def ref20_SlotBases_L1 (n : Nat) (l0 : ApiLadder) : Nat → (List Int) → Int → Option ((List Int))
  | 0, _, _ => none
  | rec_n1 + 1, l1469, p1470 =>
    if (decide (p1470 < (l0.Rungs.length : Int))) = true then
      (atI l1469 p1470).bind fun x1476 =>
      (atI l0.Rungs p1470).bind fun x1477 =>
      (ref16_EdgeCount n x1477).bind fun r1479 =>
      if l1469.length + ([(IntKind.i64.wrap (x1476 + r1479))]).length ≤ 1000000000 then
        (some (l1469 ++ ([(IntKind.i64.wrap (x1476 + r1479))]))).bind fun l1480 =>
        (ref20_SlotBases_L1 n l0 rec_n1) l1480 (IntKind.i64.wrap (p1470 + 1))
      else none
    else
      some l1469

def ref20_SlotBases (n : Nat) (l0 : ApiLadder) : Option ((List Int)) :=
  (some ([0])).bind fun l1458 =>
  ref20_SlotBases_L1 n l0 n l1458 0

def ref03_Read_J1 (a2 : ApiAddr) (in1540 : List Bool) : Option (Bool × Int) :=
  if (decide (a2.N < 0)) = true then
    some (false, 3)
  else
    if (decide (a2.N ≥ (in1540.length : Int))) = true then
      some (false, 3)
    else
      (atI in1540 a2.N).bind fun x1541 =>
      some (x1541, 0)

def ref03_Read (n : Nat) (in0 : List Bool) (st1 : ApiState) (a2 : ApiAddr) : Option (Bool × Int) :=
  if (a2.Space == 0) = true then
    ref03_Read_J1 a2 in0
  else
    if (a2.Space == 1) = true then
      ref03_Read_J1 a2 st1.Q
    else
      if (a2.Space == 2) = true then
        ref03_Read_J1 a2 st1.M
      else
        some (false, 8)

def ref02_Set (n : Nat) (l0 : List Bool) (n_1 : Int) (v2 : Bool) : Option ((List Bool)) :=
  if l0.length ≤ 1000000000 then
    (atI l0 n_1).bind fun x1550 =>
    (some (l0.set n_1.toNat v2)).bind fun l1551 =>
    some l1551
  else none

def ref16_Contacts_L1 (n : Nat) (_append0 : ApiRung) (a1 : List Bool) (a2 : ApiState) (a3 : Int) (r1538 : ApiState) : Nat → (List Bool) → Int → (List Bool) → Int → Option ((List Bool) × ApiState × Int)
  | 0, _, _, _, _ => none
  | rec_n1 + 1, p1557, p1558, p1559, p1560 =>
    if (decide (p1558 < (_append0.Contacts.length : Int))) = true then
      (atI _append0.Contacts p1558).bind fun x1574 =>
      if (decide (x1574.Kind < 0)) = true then
        some ([], (⟨[], [], []⟩ : ApiState), 8)
      else
        if (decide (x1574.Kind > 3)) = true then
          some ([], (⟨[], [], []⟩ : ApiState), 8)
        else
          (ref03_Read n a1 a2 x1574.A).bind fun ⟨r1576, r1577⟩ =>
          if (r1577 != 0) = true then
            some ([], (⟨[], [], []⟩ : ApiState), r1577)
          else
            if (decide (x1574.Kind < 2)) = true then
              if p1557.length + ([(r1576 == (x1574.Kind == 0))]).length ≤ 1000000000 then
                (some (p1557 ++ ([(r1576 == (x1574.Kind == 0))]))).bind fun l1579 =>
                (ref16_Contacts_L1 n _append0 a1 a2 a3 r1538 rec_n1) l1579 (IntKind.i64.wrap (p1558 + 1)) p1559 p1560
              else none
            else
              if (decide (a3 < 0)) = true then
                some ([], (⟨[], [], []⟩ : ApiState), 3)
              else
                if (decide (a3 ≥ (a2.E.length : Int))) = true then
                  some ([], (⟨[], [], []⟩ : ApiState), 3)
                else
                  if (decide (p1560 ≥ (IntKind.i64.wrap ((a2.E.length : Int) - a3)))) = true then
                    some ([], (⟨[], [], []⟩ : ApiState), 3)
                  else
                    (atI a2.E (IntKind.i64.wrap (a3 + p1560))).bind fun x1580 =>
                    if (!(r1576 == x1580)) = true then
                      if p1557.length + ([(r1576 == (x1574.Kind == 2))]).length ≤ 1000000000 then
                        (some (p1557 ++ ([(r1576 == (x1574.Kind == 2))]))).bind fun l1581 =>
                        (ref02_Set n p1559 (IntKind.i64.wrap (a3 + p1560)) r1576).bind fun r1583 =>
                        (ref16_Contacts_L1 n _append0 a1 a2 a3 r1538 rec_n1) l1581 (IntKind.i64.wrap (p1558 + 1)) r1583 (IntKind.i64.wrap (p1560 + 1))
                      else none
                    else
                      if p1557.length + ([false]).length ≤ 1000000000 then
                        (some (p1557 ++ ([false]))).bind fun l1584 =>
                        (ref02_Set n p1559 (IntKind.i64.wrap (a3 + p1560)) r1576).bind fun r1586 =>
                        (ref16_Contacts_L1 n _append0 a1 a2 a3 r1538 rec_n1) l1584 (IntKind.i64.wrap (p1558 + 1)) r1586 (IntKind.i64.wrap (p1560 + 1))
                      else none
    else
      some (p1557, (⟨r1538.Q, r1538.M, p1559⟩ : ApiState), 0)

def ref16_Contacts (n : Nat) (_append0 : ApiRung) (a1 : List Bool) (a2 : ApiState) (a3 : Int) : Option ((List Bool) × ApiState × Int) :=
  (ref03_Clone n a2).bind fun r1538 =>
  ref16_Contacts_L1 n _append0 a1 a2 a3 r1538 n ([]) 0 r1538.E 0

def ref16_Conducts_L2 (l2116 : List Str) : Nat → Int → Option (Bool × Int)
  | 0, _ => none
  | rec_n2 + 1, p2118 =>
    if (decide (p2118 < (l2116.length : Int))) = true then
      (atI l2116 p2118).bind fun x2120 =>
      if (decide (x2120 = (⟨#[82]⟩ : Str))) = true then
        some (true, 0)
      else
        (ref16_Conducts_L2 l2116 rec_n2) (IntKind.i64.wrap (p2118 + 1))
    else
      some (false, 0)

def ref16_Conducts_J1 (n : Nat) (l2116 : List Str) : Option (Bool × Int) :=
  ref16_Conducts_L2 l2116 n 0

def ref16_Conducts_J5 (_append0 : ApiRung) (p2505 : Int) (l2506 : List Str) (loop_4_ref16_Conducts : Int → (List Str) → Option (Bool × Int)) (false2587 : Bool) (false2588 : Bool) : Option (Bool × Int) :=
  if false2588 = true then
    if (!false2587) = true then
      (atI _append0.Contacts p2505).bind fun x2589 =>
      if l2506.length + ([x2589.To]).length ≤ 1000000000 then
        (some (l2506 ++ ([x2589.To]))).bind fun l2590 =>
        loop_4_ref16_Conducts (IntKind.i64.wrap (p2505 + 1)) l2590
      else none
    else
      loop_4_ref16_Conducts (IntKind.i64.wrap (p2505 + 1)) l2506
  else
    loop_4_ref16_Conducts (IntKind.i64.wrap (p2505 + 1)) l2506

def ref16_Conducts_J7 (_append0 : ApiRung) (p2505 : Int) (l2506 : List Str) (false2598 : Bool) (p2599 : Int) (loop_6_ref16_Conducts : Bool → Int → Bool → Option (Bool × Int)) (true2610 : Bool) : Option (Bool × Int) :=
  (atI l2506 p2599).bind fun x2611 =>
  (atI _append0.Contacts p2505).bind fun x2612 =>
  if (decide (x2611 = x2612.To)) = true then
    loop_6_ref16_Conducts true (IntKind.i64.wrap (p2599 + 1)) true2610
  else
    loop_6_ref16_Conducts false2598 (IntKind.i64.wrap (p2599 + 1)) true2610

def ref16_Conducts_L6 (_append0 : ApiRung) (p2505 : Int) (l2506 : List Str) (loop_4_ref16_Conducts : Int → (List Str) → Option (Bool × Int)) : Nat → Bool → Int → Bool → Option (Bool × Int)
  | 0, _, _, _ => none
  | rec_n6 + 1, false2598, p2599, false2600 =>
    if (decide (p2599 < (l2506.length : Int))) = true then
      (atI l2506 p2599).bind fun x2613 =>
      (atI _append0.Contacts p2505).bind fun x2614 =>
      if (decide (x2613 = x2614.From)) = true then
        ref16_Conducts_J7 _append0 p2505 l2506 false2598 p2599 (ref16_Conducts_L6 _append0 p2505 l2506 loop_4_ref16_Conducts rec_n6) true
      else
        ref16_Conducts_J7 _append0 p2505 l2506 false2598 p2599 (ref16_Conducts_L6 _append0 p2505 l2506 loop_4_ref16_Conducts rec_n6) false2600
    else
      ref16_Conducts_J5 _append0 p2505 l2506 loop_4_ref16_Conducts false2598 false2600

def ref16_Conducts_L4 (n : Nat) (_append0 : ApiRung) (a1 : List Bool) (p2285 : Int) (loop_3_ref16_Conducts : Int → (List Str) → Option (Bool × Int)) : Nat → Int → (List Str) → Option (Bool × Int)
  | 0, _, _ => none
  | rec_n4 + 1, p2505, l2506 =>
    if (decide (p2505 < (a1.length : Int))) = true then
      (atI a1 p2505).bind fun x2562 =>
      if (!x2562) = true then
        (ref16_Conducts_L4 n _append0 a1 p2285 loop_3_ref16_Conducts rec_n4) (IntKind.i64.wrap (p2505 + 1)) l2506
      else
        ref16_Conducts_L6 _append0 p2505 l2506 (ref16_Conducts_L4 n _append0 a1 p2285 loop_3_ref16_Conducts rec_n4) n false 0 false
    else
      loop_3_ref16_Conducts (IntKind.i64.wrap (p2285 + 1)) l2506

def ref16_Conducts_L3 (n : Nat) (_append0 : ApiRung) (a1 : List Bool) : Nat → Int → (List Str) → Option (Bool × Int)
  | 0, _, _ => none
  | rec_n3 + 1, p2285, l2286 =>
    if (decide (p2285 ≤ (a1.length : Int))) = true then
      ref16_Conducts_L4 n _append0 a1 p2285 (ref16_Conducts_L3 n _append0 a1 rec_n3) n 0 l2286
    else
      ref16_Conducts_J1 n l2286

def ref16_Conducts (n : Nat) (_append0 : ApiRung) (a1 : List Bool) : Option (Bool × Int) :=
  if ((a1.length : Int) != (_append0.Contacts.length : Int)) = true then
    some (false, 2)
  else
    (some ([(⟨#[76]⟩ : Str)])).bind fun l1621 =>
    ref16_Conducts_L3 n _append0 a1 n 0 l1621

def ref03_Clone_o0_1 (n : Nat) (st0 : ApiState) : Option (ApiState) :=
  if st0.Q.length ≤ 1000000000 then
    if st0.M.length ≤ 1000000000 then
      if st0.E.length ≤ 1000000000 then
        some st0
      else none
    else none
  else none

def ref03_Write (n : Nat) (st0 : ApiState) (a1 : ApiAddr) (v2 : Bool) : Option (ApiState × Int) :=
  (ref03_Clone_o0_1 n st0).bind fun r2632 =>
  if (a1.Space == 1) = true then
    if (decide (a1.N < 0)) = true then
      some ((⟨[], [], []⟩ : ApiState), 3)
    else
      if (decide (a1.N ≥ (r2632.Q.length : Int))) = true then
        some ((⟨[], [], []⟩ : ApiState), 3)
      else
        (atI r2632.Q a1.N).bind fun x2633 =>
        (some (r2632.Q.set a1.N.toNat v2)).bind fun l2634 =>
        some ((⟨l2634, r2632.M, r2632.E⟩ : ApiState), 0)
  else
    if (a1.Space == 2) = true then
      if (decide (a1.N < 0)) = true then
        some ((⟨[], [], []⟩ : ApiState), 3)
      else
        if (decide (a1.N ≥ (r2632.M.length : Int))) = true then
          some ((⟨[], [], []⟩ : ApiState), 3)
        else
          (atI r2632.M a1.N).bind fun x2635 =>
          (some (r2632.M.set a1.N.toNat v2)).bind fun l2636 =>
          some ((⟨r2632.Q, l2636, r2632.E⟩ : ApiState), 0)
    else
      some ((⟨[], [], []⟩ : ApiState), 8)

def ref16_Coils_J3 (n : Nat) (a2 : Bool) (p2640 : List Bool) (p2641 : List Bool) (p2642 : List Bool) (p2643 : Int) (loop_1_ref16_Coils : (List Bool) → (List Bool) → (List Bool) → Int → Option (ApiState × Int)) (x2650 : ApiCoil) (false2652 : Bool) : Option (ApiState × Int) :=
  (ref03_Write n (⟨p2640, p2641, p2642⟩ : ApiState) x2650.A false2652).bind fun ⟨r2654, r2655⟩ =>
  if (r2655 != 0) = true then
    some ((⟨[], [], []⟩ : ApiState), r2655)
  else
    if (decide (x2650.Kind < 2)) = true then
      loop_1_ref16_Coils r2654.Q r2654.M r2654.E (IntKind.i64.wrap (p2643 + 1))
    else
      if a2 = true then
        loop_1_ref16_Coils r2654.Q r2654.M r2654.E (IntKind.i64.wrap (p2643 + 1))
      else
        loop_1_ref16_Coils p2640 p2641 p2642 (IntKind.i64.wrap (p2643 + 1))

def ref16_Coils_J2 (n : Nat) (a2 : Bool) (p2640 : List Bool) (p2641 : List Bool) (p2642 : List Bool) (p2643 : Int) (loop_1_ref16_Coils : (List Bool) → (List Bool) → (List Bool) → Int → Option (ApiState × Int)) (x2650 : ApiCoil) (p2651 : Bool) : Option (ApiState × Int) :=
  if (x2650.Kind == 3) = true then
    ref16_Coils_J3 n a2 p2640 p2641 p2642 p2643 loop_1_ref16_Coils x2650 false
  else
    ref16_Coils_J3 n a2 p2640 p2641 p2642 p2643 loop_1_ref16_Coils x2650 p2651

def ref16_Coils_L1 (n : Nat) (_append0 : ApiRung) (a2 : Bool) : Nat → (List Bool) → (List Bool) → (List Bool) → Int → Option (ApiState × Int)
  | 0, _, _, _, _ => none
  | rec_n1 + 1, p2640, p2641, p2642, p2643 =>
    if (decide (p2643 < (_append0.Coils.length : Int))) = true then
      (atI _append0.Coils p2643).bind fun x2650 =>
      if (decide (x2650.Kind < 0)) = true then
        some ((⟨[], [], []⟩ : ApiState), 8)
      else
        if (decide (x2650.Kind > 3)) = true then
          some ((⟨[], [], []⟩ : ApiState), 8)
        else
          if (x2650.Kind == 1) = true then
            ref16_Coils_J2 n a2 p2640 p2641 p2642 p2643 (ref16_Coils_L1 n _append0 a2 rec_n1) x2650 (!a2)
          else
            ref16_Coils_J2 n a2 p2640 p2641 p2642 p2643 (ref16_Coils_L1 n _append0 a2 rec_n1) x2650 a2
    else
      some ((⟨p2640, p2641, p2642⟩ : ApiState), 0)

def ref16_Coils (n : Nat) (_append0 : ApiRung) (a1 : ApiState) (a2 : Bool) : Option (ApiState × Int) :=
  (ref03_Clone n a1).bind fun r2619 =>
  ref16_Coils_L1 n _append0 a2 n r2619.Q r2619.M r2619.E 0

def ref16_Scan (n : Nat) (r_0 : ApiRung) (in1 : List Bool) (st2 : ApiState) (slot3 : Int) : Option (ApiState × Bool × Int) :=
  (ref16_Contacts n r_0 in1 st2 slot3).bind fun ⟨r1588, r1589, r1590⟩ =>
  if (r1590 != 0) = true then
    some ((⟨[], [], []⟩ : ApiState), false, r1590)
  else
    (ref16_Conducts n r_0 r1588).bind fun ⟨r2616, r2617⟩ =>
    (ref16_Coils n r_0 r1589 r2616).bind fun ⟨r2657, r2658⟩ =>
    if (r2658 != 0) = true then
      some ((⟨[], [], []⟩ : ApiState), false, r2658)
    else
      some (r2657, r2616, 0)

def ref20_Scan_J2 (n : Nat) (a1 : List Bool) (r1482 : List Int) (p2663 : Int) (p2664 : List Bool) (p2665 : List Bool) (p2666 : List Bool) (l2667 : List Bool) (loop_1_ref20_Scan : Int → (List Bool) → (List Bool) → (List Bool) → (List Bool) → Str → Option (ApiState × (List Bool) × Int)) (x2677 : ApiRung) : Option (ApiState × (List Bool) × Int) :=
  (atI l2667 p2663).bind fun x2678 =>
  (some (l2667.set p2663.toNat true)).bind fun l2679 =>
  (atI r1482 p2663).bind fun x2680 =>
  (ref16_Scan n x2677 a1 (⟨p2664, p2665, p2666⟩ : ApiState) x2680).bind fun ⟨r2682, r2683, r2684⟩ =>
  if r2683 = true then
    loop_1_ref20_Scan (IntKind.i64.wrap (p2663 + 1)) r2682.Q r2682.M r2682.E l2679 x2677.Jump
  else
    loop_1_ref20_Scan (IntKind.i64.wrap (p2663 + 1)) r2682.Q r2682.M r2682.E l2679 (⟨#[]⟩ : Str)

def ref20_Scan_L1 (n : Nat) (_append0 : ApiLadder) (a1 : List Bool) (r1482 : List Int) : Nat → Int → (List Bool) → (List Bool) → (List Bool) → (List Bool) → Str → Option (ApiState × (List Bool) × Int)
  | 0, _, _, _, _, _, _ => none
  | rec_n1 + 1, p2663, p2664, p2665, p2666, l2667, p2668 =>
    if (decide (p2663 < (_append0.Rungs.length : Int))) = true then
      (atI _append0.Rungs p2663).bind fun x2677 =>
      if (!(decide (p2668 = (⟨#[]⟩ : Str)))) = true then
        if (!(decide (x2677.Label = p2668))) = true then
          (ref20_Scan_L1 n _append0 a1 r1482 rec_n1) (IntKind.i64.wrap (p2663 + 1)) p2664 p2665 p2666 l2667 p2668
        else
          ref20_Scan_J2 n a1 r1482 p2663 p2664 p2665 p2666 l2667 (ref20_Scan_L1 n _append0 a1 r1482 rec_n1) x2677
      else
        ref20_Scan_J2 n a1 r1482 p2663 p2664 p2665 p2666 l2667 (ref20_Scan_L1 n _append0 a1 r1482 rec_n1) x2677
    else
      some ((⟨p2664, p2665, p2666⟩ : ApiState), l2667, 0)

def ref20_Scan (n : Nat) (_append0 : ApiLadder) (a1 : List Bool) (a2 : ApiState) : Option (ApiState × (List Bool) × Int) :=
  (ref11_Check n _append0).bind fun ⟨r1436, r1437⟩ =>
  if (r1437 != 0) = true then
    some ((⟨[], [], []⟩ : ApiState), [], r1437)
  else
    (ref20_SlotBases n _append0).bind fun r1482 =>
    if ((a1.length : Int) != _append0.I) = true then
      some ((⟨[], [], []⟩ : ApiState), [], 2)
    else
      if ((a2.Q.length : Int) != _append0.Q) = true then
        some ((⟨[], [], []⟩ : ApiState), [], 2)
      else
        if ((a2.M.length : Int) != _append0.M) = true then
          some ((⟨[], [], []⟩ : ApiState), [], 2)
        else
          (atI r1482 (_append0.Rungs.length : Int)).bind fun x1484 =>
          if ((a2.E.length : Int) != x1484) = true then
            some ((⟨[], [], []⟩ : ApiState), [], 2)
          else
            (ref03_Clone n a2).bind fun r1486 =>
            if 0 ≤ (_append0.Rungs.length : Int) ∧ (_append0.Rungs.length : Int) ≤ (_append0.Rungs.length : Int) ∧ (_append0.Rungs.length : Int) ≤ 1000000000 then
              (some (List.replicate _append0.Rungs.length false)).bind fun l1487 =>
              ref20_Scan_L1 n _append0 a1 r1482 n 0 r1486.Q r1486.M r1486.E l1487 (⟨#[]⟩ : Str)
            else none

def ref02_Equal_L1 (a0 : List Bool) (b1 : List Bool) : Nat → Int → Option (Bool)
  | 0, _ => none
  | rec_n1 + 1, p2691 =>
    if (decide (p2691 < (a0.length : Int))) = true then
      (atI a0 p2691).bind fun x2694 =>
      (atI b1 p2691).bind fun x2695 =>
      if (!(x2694 == x2695)) = true then
        some false
      else
        (ref02_Equal_L1 a0 b1 rec_n1) (IntKind.i64.wrap (p2691 + 1))
    else
      some true

def ref02_Equal (n : Nat) (a0 : List Bool) (b1 : List Bool) : Option (Bool) :=
  if ((a0.length : Int) != (b1.length : Int)) = true then
    some false
  else
    ref02_Equal_L1 a0 b1 n 0

def ref03_Equal (n : Nat) (a0 : ApiState) (b1 : ApiState) : Option (Bool) :=
  (ref02_Equal n a0.Q b1.Q).bind fun r2697 =>
  if r2697 = true then
    (ref02_Equal n a0.M b1.M).bind fun r2699 =>
    if r2699 = true then
      (ref02_Equal n a0.E b1.E).bind fun r2701 =>
      some r2701
    else
      some false
  else
    some false

def slices_Equal_int_L1 (s10 : List Int) (s21 : List Int) : Nat → Int → Option (Bool)
  | 0, _ => none
  | rec_n1 + 1, p2741 =>
    if (decide (p2741 < (s10.length : Int))) = true then
      (atI s10 p2741).bind fun x2744 =>
      (atI s21 p2741).bind fun x2745 =>
      if (x2744 != x2745) = true then
        some false
      else
        (slices_Equal_int_L1 s10 s21 rec_n1) (IntKind.i64.wrap (p2741 + 1))
    else
      some true

def slices_Equal_int (n : Nat) (s10 : List Int) (s21 : List Int) : Option (Bool) :=
  if ((s10.length : Int) != (s21.length : Int)) = true then
    some false
  else
    slices_Equal_int_L1 s10 s21 n 0

def law20_PathmodelScanMatchesReference_J1 (n : Nat) (_append0 : ApiLadder) (a1 : ApiState) (r1316 : ApiState) : Option (Bool) :=
  (law20_alive n ).bind fun r2734 =>
  if r2734 = true then
    (pathmodel_SlotBases n _append0).bind fun r2736 =>
    (ref20_SlotBases n _append0).bind fun r2738 =>
    (slices_Equal_int n r2736 r2738).bind fun r2747 =>
    if r2747 = true then
      (ref03_Equal n a1 r1316).bind fun r2749 =>
      some r2749
    else
      some false
  else
    some false

def law20_PathmodelScanMatchesReference_L2 (n : Nat) (_append0 : ApiLadder) (a1 : ApiState) (a2 : List (List Bool)) (r1316 : ApiState) : Nat → Int → Option (Bool)
  | 0, _ => none
  | rec_n2 + 1, p2763 =>
    if (decide (p2763 < (a2.length : Int))) = true then
      (atI a2 p2763).bind fun x2777 =>
      (pathmodel_Scan n _append0 x2777 a1).bind fun ⟨r2779, r2780, r2781⟩ =>
      (ref20_Scan n _append0 x2777 a1).bind fun ⟨r2783, r2784, r2785⟩ =>
      (ref03_Equal n r2779 r2783).bind fun r2787 =>
      if (!r2787) = true then
        some false
      else
        (slices_Equal_bool n r2780 r2784).bind fun r2789 =>
        if (!r2789) = true then
          some false
        else
          if (r2781 != r2785) = true then
            some false
          else
            (law20_PathmodelScanMatchesReference_L2 n _append0 a1 a2 r1316 rec_n2) (IntKind.i64.wrap (p2763 + 1))
    else
      law20_PathmodelScanMatchesReference_J1 n _append0 a1 r1316

def law20_PathmodelScanMatchesReference (n : Nat) (_append0 : ApiLadder) (a1 : ApiState) (a2 : List (List Bool)) : Option (Bool) :=
  (law20_TooLarge n _append0 a1 a2).bind fun r1312 =>
  if (decide (r1312 > 0)) = true then
    (law20_alive n ).bind fun r1314 =>
    some r1314
  else
    (ref03_Clone n a1).bind fun r1316 =>
    law20_PathmodelScanMatchesReference_L2 n _append0 a1 a2 r1316 n 0

def law20_PathmodelExecutesAllRungs_J2 (n : Nat) (_append0 : ApiLadder) (a1 : ApiState) (a2 : List Bool) : Option (Bool) :=
  (pathmodel_Scan n (⟨_append0.I, _append0.Q, _append0.M, []⟩ : ApiLadder) a2 (⟨a1.Q, a1.M, []⟩ : ApiState)).bind fun ⟨r2833, r2834, r2835⟩ =>
  (law20_alive n ).bind fun r2837 =>
  if r2837 = true then
    if (r2835 == 0) = true then
      if ((r2834.length : Int) == 0) = true then
        (ref03_Equal n r2833 (⟨a1.Q, a1.M, []⟩ : ApiState)).bind fun r2839 =>
        some r2839
      else
        some false
    else
      some false
  else
    some false

def law20_PathmodelExecutesAllRungs_J5 (r2802 : List Bool) (p2844 : Int) (loop_3_law20_PathmodelExecutesAllRungs : Bool → Int → Option (Bool)) (x2854 : ApiRung) (false2859 : Bool) : Option (Bool) :=
  if false2859 = true then
    loop_3_law20_PathmodelExecutesAllRungs true (IntKind.i64.wrap (p2844 + 1))
  else
    if (!(decide (x2854.Jump = (⟨#[]⟩ : Str)))) = true then
      (atI r2802 p2844).bind fun x2860 =>
      loop_3_law20_PathmodelExecutesAllRungs x2860 (IntKind.i64.wrap (p2844 + 1))
    else
      loop_3_law20_PathmodelExecutesAllRungs false (IntKind.i64.wrap (p2844 + 1))

def law20_PathmodelExecutesAllRungs_J4 (r2802 : List Bool) (false2843 : Bool) (p2844 : Int) (loop_3_law20_PathmodelExecutesAllRungs : Bool → Int → Option (Bool)) (x2854 : ApiRung) : Option (Bool) :=
  if (!(decide (x2854.Label = (⟨#[]⟩ : Str)))) = true then
    (atI r2802 p2844).bind fun x2861 =>
    if x2861 = true then
      law20_PathmodelExecutesAllRungs_J5 r2802 p2844 loop_3_law20_PathmodelExecutesAllRungs x2854 false
    else
      law20_PathmodelExecutesAllRungs_J5 r2802 p2844 loop_3_law20_PathmodelExecutesAllRungs x2854 false2843
  else
    law20_PathmodelExecutesAllRungs_J5 r2802 p2844 loop_3_law20_PathmodelExecutesAllRungs x2854 false2843

def law20_PathmodelExecutesAllRungs_L3 (n : Nat) (_append0 : ApiLadder) (a1 : ApiState) (a2 : List Bool) (r2802 : List Bool) : Nat → Bool → Int → Option (Bool)
  | 0, _, _ => none
  | rec_n3 + 1, false2843, p2844 =>
    if (decide (p2844 < (_append0.Rungs.length : Int))) = true then
      (atI _append0.Rungs p2844).bind fun x2854 =>
      (atI r2802 p2844).bind fun x2862 =>
      if (!x2862) = true then
        if (!false2843) = true then
          some false
        else
          law20_PathmodelExecutesAllRungs_J4 r2802 false2843 p2844 (law20_PathmodelExecutesAllRungs_L3 n _append0 a1 a2 r2802 rec_n3) x2854
      else
        law20_PathmodelExecutesAllRungs_J4 r2802 false2843 p2844 (law20_PathmodelExecutesAllRungs_L3 n _append0 a1 a2 r2802 rec_n3) x2854
    else
      law20_PathmodelExecutesAllRungs_J2 n _append0 a1 a2

def law20_PathmodelExecutesAllRungs_J1 (n : Nat) (_append0 : ApiLadder) (a1 : ApiState) (a2 : List Bool) (r2802 : List Bool) : Option (Bool) :=
  law20_PathmodelExecutesAllRungs_L3 n _append0 a1 a2 r2802 n false 0

def law20_PathmodelExecutesAllRungs (n : Nat) (_append0 : ApiLadder) (a1 : ApiState) (a2 : List Bool) : Option (Bool) :=
  (some ([a2])).bind fun l2795 =>
  (law20_TooLarge n _append0 a1 l2795).bind fun r2797 =>
  if (decide (r2797 > 0)) = true then
    (law20_alive n ).bind fun r2799 =>
    some r2799
  else
    (pathmodel_Scan n _append0 a2 a1).bind fun ⟨r2801, r2802, r2803⟩ =>
    if (r2803 != 0) = true then
      (law20_alive n ).bind fun r2807 =>
      if r2807 = true then
        some ((r2802.length : Int) == 0)
      else
        some false
    else
      if ((r2802.length : Int) != (_append0.Rungs.length : Int)) = true then
        some false
      else
        if (decide ((r2802.length : Int) > 0)) = true then
          (atI r2802 0).bind fun x2863 =>
          if (!x2863) = true then
            some false
          else
            law20_PathmodelExecutesAllRungs_J1 n _append0 a1 a2 r2802
        else
          law20_PathmodelExecutesAllRungs_J1 n _append0 a1 a2 r2802

def law20_PathmodelSkipsToLabel_J2 (_append0 : ApiLadder) (r2876 : List Bool) (p2903 : Int) (loop_1_law20_PathmodelSkipsToLabel : Int → Option (Bool)) (p2930 : Int) : Option (Bool) :=
  if (p2930 == (r2876.length : Int)) = true then
    some false
  else
    (atI _append0.Rungs p2903).bind fun x2931 =>
    if (decide (x2931.Jump = (⟨#[]⟩ : Str))) = true then
      some false
    else
      (atI _append0.Rungs p2930).bind fun x2932 =>
      if (!(decide (x2932.Label = x2931.Jump))) = true then
        some false
      else
        loop_1_law20_PathmodelSkipsToLabel (IntKind.i64.wrap (p2903 + 1))

def law20_PathmodelSkipsToLabel_L3 (_append0 : ApiLadder) (r2876 : List Bool) (p2903 : Int) (loop_1_law20_PathmodelSkipsToLabel : Int → Option (Bool)) : Nat → Int → Option (Bool)
  | 0, _ => none
  | rec_n3 + 1, p2933 =>
    if (decide (p2933 < (r2876.length : Int))) = true then
      (atI r2876 p2933).bind fun x2935 =>
      if (!x2935) = true then
        (law20_PathmodelSkipsToLabel_L3 _append0 r2876 p2903 loop_1_law20_PathmodelSkipsToLabel rec_n3) (IntKind.i64.wrap (p2933 + 1))
      else
        law20_PathmodelSkipsToLabel_J2 _append0 r2876 p2903 loop_1_law20_PathmodelSkipsToLabel p2933
    else
      law20_PathmodelSkipsToLabel_J2 _append0 r2876 p2903 loop_1_law20_PathmodelSkipsToLabel p2933

def law20_PathmodelSkipsToLabel_L1 (n : Nat) (_append0 : ApiLadder) (r2876 : List Bool) : Nat → Int → Option (Bool)
  | 0, _ => none
  | rec_n1 + 1, p2903 =>
    if (decide (p2903 < (r2876.length : Int))) = true then
      (atI r2876 p2903).bind fun x2925 =>
      if (!x2925) = true then
        (law20_PathmodelSkipsToLabel_L1 n _append0 r2876 rec_n1) (IntKind.i64.wrap (p2903 + 1))
      else
        if (decide ((IntKind.i64.wrap (p2903 + 1)) ≥ (r2876.length : Int))) = true then
          (law20_PathmodelSkipsToLabel_L1 n _append0 r2876 rec_n1) (IntKind.i64.wrap (p2903 + 1))
        else
          (atI r2876 (IntKind.i64.wrap (p2903 + 1))).bind fun x2926 =>
          if x2926 = true then
            (law20_PathmodelSkipsToLabel_L1 n _append0 r2876 rec_n1) (IntKind.i64.wrap (p2903 + 1))
          else
            law20_PathmodelSkipsToLabel_L3 _append0 r2876 p2903 (law20_PathmodelSkipsToLabel_L1 n _append0 r2876 rec_n1) n (IntKind.i64.wrap (p2903 + 1))
    else
      (law20_alive n ).bind fun r2937 =>
      some r2937

def law20_PathmodelSkipsToLabel (n : Nat) (_append0 : ApiLadder) (a1 : ApiState) (a2 : List Bool) : Option (Bool) :=
  (some ([a2])).bind fun l2869 =>
  (law20_TooLarge n _append0 a1 l2869).bind fun r2871 =>
  if (decide (r2871 > 0)) = true then
    (law20_alive n ).bind fun r2873 =>
    some r2873
  else
    (pathmodel_Scan n _append0 a2 a1).bind fun ⟨r2875, r2876, r2877⟩ =>
    if (r2877 != 0) = true then
      (law20_alive n ).bind fun r2883 =>
      if r2883 = true then
        some (r2877 != 0)
      else
        some false
    else
      if ((r2876.length : Int) != (_append0.Rungs.length : Int)) = true then
        (law20_alive n ).bind fun r2885 =>
        if r2885 = true then
          some (r2877 != 0)
        else
          some false
      else
        law20_PathmodelSkipsToLabel_L1 n _append0 r2876 n 0

def pathmodel_Run_L1 (n : Nat) (l0 : ApiLadder) (ins2 : List (List Bool)) : Nat → Int → (List Bool) → (List Bool) → (List Bool) → (List ApiState) → Option ((List ApiState) × Int × Int)
  | 0, _, _, _, _, _ => none
  | rec_n1 + 1, p2973, p2974, p2975, p2976, p2977 =>
    if (decide (p2973 < (ins2.length : Int))) = true then
      (atI ins2 p2973).bind fun x2986 =>
      (pathmodel_Scan n l0 x2986 (⟨p2974, p2975, p2976⟩ : ApiState)).bind fun ⟨r2988, r2989, r2990⟩ =>
      if (r2990 != 0) = true then
        some ([], p2973, r2990)
      else
        (state_Clone n r2988).bind fun r2992 =>
        if p2977.length + ([r2992]).length ≤ 1000000000 then
          (some (p2977 ++ ([r2992]))).bind fun l2993 =>
          (pathmodel_Run_L1 n l0 ins2 rec_n1) (IntKind.i64.wrap (p2973 + 1)) r2988.Q r2988.M r2988.E l2993
        else none
    else
      some (p2977, (ins2.length : Int), 0)

def pathmodel_Run (n : Nat) (l0 : ApiLadder) (st1 : ApiState) (ins2 : List (List Bool)) : Option ((List ApiState) × Int × Int) :=
  pathmodel_Run_L1 n l0 ins2 n 0 st1.Q st1.M st1.E ([])

def ref20_Run_L1 (n : Nat) (l0 : ApiLadder) (ins2 : List (List Bool)) : Nat → Int → (List Bool) → (List Bool) → (List Bool) → (List ApiState) → Option ((List ApiState) × Int × Int)
  | 0, _, _, _, _, _ => none
  | rec_n1 + 1, p3019, p3020, p3021, p3022, p3023 =>
    if (decide (p3019 < (ins2.length : Int))) = true then
      (atI ins2 p3019).bind fun x3030 =>
      (ref20_Scan n l0 x3030 (⟨p3020, p3021, p3022⟩ : ApiState)).bind fun ⟨r3032, r3033, r3034⟩ =>
      if (r3034 != 0) = true then
        some ([], p3019, r3034)
      else
        if p3023.length + ([r3032]).length ≤ 1000000000 then
          (some (p3023 ++ ([r3032]))).bind fun l3035 =>
          (ref20_Run_L1 n l0 ins2 rec_n1) (IntKind.i64.wrap (p3019 + 1)) r3032.Q r3032.M r3032.E l3035
        else none
    else
      some (p3023, (ins2.length : Int), 0)

def ref20_Run (n : Nat) (l0 : ApiLadder) (st1 : ApiState) (ins2 : List (List Bool)) : Option ((List ApiState) × Int × Int) :=
  ref20_Run_L1 n l0 ins2 n 0 st1.Q st1.M st1.E ([])

def law20_PathmodelRunMatchesReference_L1 (n : Nat) (r2995 : List ApiState) (r3037 : List ApiState) : Nat → Int → Option (Bool)
  | 0, _ => none
  | rec_n1 + 1, p3048 =>
    if (decide (p3048 < (r2995.length : Int))) = true then
      (atI r2995 p3048).bind fun x3059 =>
      (atI r3037 p3048).bind fun x3060 =>
      (ref03_Equal n x3059 x3060).bind fun r3062 =>
      if (!r3062) = true then
        some false
      else
        (law20_PathmodelRunMatchesReference_L1 n r2995 r3037 rec_n1) (IntKind.i64.wrap (p3048 + 1))
    else
      (law20_alive n ).bind fun r3064 =>
      some r3064

def law20_PathmodelRunMatchesReference (n : Nat) (_append0 : ApiLadder) (a1 : ApiState) (a2 : List (List Bool)) : Option (Bool) :=
  (law20_TooLarge n _append0 a1 a2).bind fun r2943 =>
  if (decide (r2943 > 0)) = true then
    (law20_alive n ).bind fun r2945 =>
    some r2945
  else
    (pathmodel_Run n _append0 a1 a2).bind fun ⟨r2995, r2996, r2997⟩ =>
    (ref20_Run n _append0 a1 a2).bind fun ⟨r3037, r3038, r3039⟩ =>
    if ((r2995.length : Int) != (r3037.length : Int)) = true then
      some false
    else
      if (r2996 != r3038) = true then
        some false
      else
        if (r2997 != r3039) = true then
          some false
        else
          law20_PathmodelRunMatchesReference_L1 n r2995 r3037 n 0

def law20_PathmodelComposition_L1 (n : Nat) (a2 : List (List Bool)) (r3078 : List ApiState) (r3083 : List ApiState) (r3093 : List ApiState) : Nat → Int → Option (Bool)
  | 0, _ => none
  | rec_n1 + 1, p3111 =>
    if (decide (p3111 < (r3078.length : Int))) = true then
      if (decide (p3111 < (IntKind.i64.wrap ((a2.length : Int).tdiv 2)))) = true then
        (atI r3078 p3111).bind fun x3129 =>
        (atI r3083 p3111).bind fun x3130 =>
        (ref03_Equal n x3129 x3130).bind fun r3132 =>
        if (!r3132) = true then
          some false
        else
          if (decide (p3111 ≥ (IntKind.i64.wrap ((a2.length : Int).tdiv 2)))) = true then
            (atI r3093 (IntKind.i64.wrap (p3111 - (IntKind.i64.wrap ((a2.length : Int).tdiv 2))))).bind fun x3133 =>
            (ref03_Equal n x3129 x3133).bind fun r3135 =>
            if (!r3135) = true then
              some false
            else
              (law20_PathmodelComposition_L1 n a2 r3078 r3083 r3093 rec_n1) (IntKind.i64.wrap (p3111 + 1))
          else
            (law20_PathmodelComposition_L1 n a2 r3078 r3083 r3093 rec_n1) (IntKind.i64.wrap (p3111 + 1))
      else
        if (decide (p3111 ≥ (IntKind.i64.wrap ((a2.length : Int).tdiv 2)))) = true then
          (atI r3078 p3111).bind fun x3136 =>
          (atI r3093 (IntKind.i64.wrap (p3111 - (IntKind.i64.wrap ((a2.length : Int).tdiv 2))))).bind fun x3137 =>
          (ref03_Equal n x3136 x3137).bind fun r3139 =>
          if (!r3139) = true then
            some false
          else
            (law20_PathmodelComposition_L1 n a2 r3078 r3083 r3093 rec_n1) (IntKind.i64.wrap (p3111 + 1))
        else
          (law20_PathmodelComposition_L1 n a2 r3078 r3083 r3093 rec_n1) (IntKind.i64.wrap (p3111 + 1))
    else
      (law20_alive n ).bind fun r3141 =>
      some r3141

def law20_PathmodelComposition (n : Nat) (_append0 : ApiLadder) (a1 : ApiState) (a2 : List (List Bool)) : Option (Bool) :=
  (law20_TooLarge n _append0 a1 a2).bind fun r3072 =>
  if (decide (r3072 > 0)) = true then
    (law20_alive n ).bind fun r3074 =>
    some r3074
  else
    if (decide ((a2.length : Int) < 2)) = true then
      (law20_alive n ).bind fun r3076 =>
      some r3076
    else
      (pathmodel_Run n _append0 a1 a2).bind fun ⟨r3078, r3079, r3080⟩ =>
      if 0 ≤ 0 ∧ 0 ≤ (IntKind.i64.wrap ((a2.length : Int).tdiv 2)) ∧ (IntKind.i64.wrap ((a2.length : Int).tdiv 2)) ≤ (a2.length : Int) then
        (some (a2.take (IntKind.i64.wrap ((a2.length : Int).tdiv 2)).toNat)).bind fun l3081 =>
        (pathmodel_Run n _append0 a1 l3081).bind fun ⟨r3083, r3084, r3085⟩ =>
        if (r3080 != 0) = true then
          (law20_alive n ).bind fun r3089 =>
          if r3089 = true then
            some ((r3078.length : Int) == 0)
          else
            some false
        else
          if (r3085 != 0) = true then
            some false
          else
            if ((r3083.length : Int) != (IntKind.i64.wrap ((a2.length : Int).tdiv 2))) = true then
              some false
            else
              if ((r3078.length : Int) != (a2.length : Int)) = true then
                some false
              else
                (atI r3083 (IntKind.i64.wrap ((IntKind.i64.wrap ((a2.length : Int).tdiv 2)) - 1))).bind fun x3090 =>
                if 0 ≤ (IntKind.i64.wrap ((a2.length : Int).tdiv 2)) ∧ (IntKind.i64.wrap ((a2.length : Int).tdiv 2)) ≤ (a2.length : Int) ∧ (a2.length : Int) ≤ (a2.length : Int) then
                  (some (a2.drop (IntKind.i64.wrap ((a2.length : Int).tdiv 2)).toNat)).bind fun l3091 =>
                  (pathmodel_Run n _append0 x3090 l3091).bind fun ⟨r3093, r3094, r3095⟩ =>
                  if (r3095 != 0) = true then
                    some false
                  else
                    if ((r3093.length : Int) != (IntKind.i64.wrap ((a2.length : Int) - (IntKind.i64.wrap ((a2.length : Int).tdiv 2))))) = true then
                      some false
                    else
                      law20_PathmodelComposition_L1 n a2 r3078 r3083 r3093 n 0
                else none
      else none

end Go.G
