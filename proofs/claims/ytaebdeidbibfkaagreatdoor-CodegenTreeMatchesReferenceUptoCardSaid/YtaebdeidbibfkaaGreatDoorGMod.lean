/- Models of functions of the program. -/
import Derived.Test.YtaebdeidbibfkaaGreatDoorGTy
set_option linter.unusedSimpArgs false
set_option linter.unusedVariables false
set_option linter.unusedSectionVars false
namespace Go.G
open Go.Av
def law12_TooLarge_J1 (r_0 : ApiRung) (p6 : Int) : Option (Int) :=
  if (decide (p6 > 2000)) = true then
    some 1
  else
    if (decide ((r_0.Contacts.length : Int) > 60)) = true then
      some 1
    else
      some 0

def law12_TooLarge_L2 (r_0 : ApiRung) : Nat → Int → Int → Option (Int)
  | 0, _, _ => none
  | rec_n2 + 1, p8, p9 =>
    if (decide (p9 < (r_0.Contacts.length : Int))) = true then
      (atI r_0.Contacts p9).bind fun x11 =>
      (law12_TooLarge_L2 r_0 rec_n2) (IntKind.i64.wrap (p8 + (IntKind.i64.wrap ((IntKind.i64.wrap (1 + (x11.From.size : Int))) + (x11.To.size : Int))))) (IntKind.i64.wrap (p9 + 1))
    else
      law12_TooLarge_J1 r_0 p8

def law12_TooLarge (n : Nat) (r_0 : ApiRung) : Option (Int) :=
  law12_TooLarge_L2 r_0 n 0 0

def law17_example (n : Nat) : Option (ApiRung) :=
  (some ([(⟨0, (⟨0, 0⟩ : ApiAddr), (⟨#[76]⟩ : Str), (⟨#[97]⟩ : Str)⟩ : ApiContact), (⟨1, (⟨0, 1⟩ : ApiAddr), (⟨#[97]⟩ : Str), (⟨#[82]⟩ : Str)⟩ : ApiContact)])).bind fun l14 =>
  (some ([(⟨0, (⟨1, 0⟩ : ApiAddr)⟩ : ApiCoil)])).bind fun l15 =>
  some (⟨(⟨#[]⟩ : Str), l14, l15, (⟨#[]⟩ : Str)⟩ : ApiRung)

def printer_sizes (n : Nat) (l0 : ApiLadder) : Option (ApiSize) :=
  some (⟨l0.I, l0.Q, l0.M, 0⟩ : ApiSize)

def addr_within (n : Nat) (n_0 : Int) (most1 : Int) : Option (Bool) :=
  if (decide (n_0 ≥ 0)) = true then
    some (decide (n_0 ≤ most1))
  else
    some false

def addr_CheckSize (n : Nat) (s0 : ApiSize) : Option (Int) :=
  (addr_within n s0.E 16384).bind fun r10587 =>
  if (!r10587) = true then
    some 3
  else
    (addr_within n s0.I 256).bind fun r10589 =>
    if (!r10589) = true then
      some 3
    else
      (addr_within n s0.Q 256).bind fun r10591 =>
      if (!r10591) = true then
        some 3
      else
        (addr_within n s0.M 256).bind fun r10593 =>
        if (!r10593) = true then
          some 3
        else
          some 0

def lex_letter (n : Nat) (c0 : Int) : Option (Bool) :=
  if (decide (c0 ≥ 97)) = true then
    if (decide (c0 ≤ 122)) = true then
      some true
    else
      if (decide (c0 ≥ 65)) = true then
        some (decide (c0 ≤ 90))
      else
        some false
  else
    if (decide (c0 ≥ 65)) = true then
      some (decide (c0 ≤ 90))
    else
      some false

def lex_IsName_L1 (n : Nat) (word0 : Str) : Nat → Nat → Option (Bool)
  | 0, _ => none
  | rec_n1 + 1, p10602 =>
    if (decide (p10602 < word0.size)) = true then
      (lex_letter n (((Utf8.decode word0 p10602).1 : Nat) : Int)).bind fun r10606 =>
      if (!r10606) = true then
        if ((p10602 : Int) == 0) = true then
          some false
        else
          if ((((Utf8.decode word0 p10602).1 : Nat) : Int) != 95) = true then
            if (decide ((((Utf8.decode word0 p10602).1 : Nat) : Int) < 48)) = true then
              some false
            else
              if (decide ((((Utf8.decode word0 p10602).1 : Nat) : Int) > 57)) = true then
                some false
              else
                (lex_IsName_L1 n word0 rec_n1) (p10602 + (Utf8.decode word0 p10602).2)
          else
            (lex_IsName_L1 n word0 rec_n1) (p10602 + (Utf8.decode word0 p10602).2)
      else
        (lex_IsName_L1 n word0 rec_n1) (p10602 + (Utf8.decode word0 p10602).2)
    else
      some true

def lex_IsName (n : Nat) (word0 : Str) : Option (Bool) :=
  if (decide (word0 = (⟨#[]⟩ : Str))) = true then
    some false
  else
    if (decide ((word0.size : Int) > 16)) = true then
      some false
    else
      lex_IsName_L1 n word0 n 0

def printer_rung_1 (n : Nat) (x_0 : ApiRung) (b0 : ApiRung) : Option (Bool) :=
  some (decide (x_0.Label = b0.Label))

def slices_IndexFunc_api_Rung_c153_L1 (n : Nat) (s0 : List ApiRung) (b0 : ApiRung) : Nat → Int → Option (Int)
  | 0, _ => none
  | rec_n1 + 1, p10622 =>
    if (decide (p10622 < (s0.length : Int))) = true then
      (atI s0 p10622).bind fun x10626 =>
      (printer_rung_1 n x10626 b0).bind fun r10628 =>
      if r10628 = true then
        some p10622
      else
        (slices_IndexFunc_api_Rung_c153_L1 n s0 b0 rec_n1) (IntKind.i64.wrap (p10622 + 1))
    else
      some (-1)

def slices_IndexFunc_api_Rung_c153 (n : Nat) (s0 : List ApiRung) (b0 : ApiRung) : Option (Int) :=
  slices_IndexFunc_api_Rung_c153_L1 n s0 b0 n 0

def slices_ContainsFunc_api_Rung_c153 (n : Nat) (s0 : List ApiRung) (b0 : ApiRung) : Option (Bool) :=
  (slices_IndexFunc_api_Rung_c153 n s0 b0).bind fun r10632 =>
  some (decide (r10632 ≥ 0))

def addr_Width (n : Nat) (s0 : ApiSize) (space1 : Int) : Option (Int) :=
  if (space1 == 0) = true then
    some s0.I
  else
    if (space1 == 1) = true then
      some s0.Q
    else
      if (space1 == 2) = true then
        some s0.M
      else
        some 0

def addr_CheckAddr (n : Nat) (s0 : ApiSize) (a1 : ApiAddr) : Option (Int) :=
  (addr_within n a1.Space 2).bind fun r10637 =>
  if (!r10637) = true then
    some 8
  else
    (addr_Width n s0 a1.Space).bind fun r10639 =>
    (addr_within n a1.N (IntKind.i64.wrap (r10639 - 1))).bind fun r10641 =>
    if (!r10641) = true then
      some 3
    else
      some 0

def printer_part (n : Nat) (s0 : ApiSize) (kind1 : Int) (a2 : ApiAddr) : Option (Int) :=
  if (decide (kind1 < 0)) = true then
    some 8
  else
    if (decide (kind1 ≥ 4)) = true then
      some 8
    else
      (addr_CheckAddr n s0 a2).bind fun r10643 =>
      some r10643

def printer_rung_J3 (n : Nat) (a2 : ApiRung) : Option (Int) :=
  if (!(decide (a2.Jump = (⟨#[]⟩ : Str)))) = true then
    (lex_IsName n a2.Jump).bind fun r10682 =>
    if (!r10682) = true then
      some 6
    else
      some 0
  else
    some 0

def printer_rung_L4 (n : Nat) (_append0 : ApiSize) (a2 : ApiRung) : Nat → Int → Option (Int)
  | 0, _ => none
  | rec_n4 + 1, p10686 =>
    if (decide (p10686 < (a2.Coils.length : Int))) = true then
      (atI a2.Coils p10686).bind fun x10690 =>
      (printer_part n _append0 x10690.Kind x10690.A).bind fun r10692 =>
      if (r10692 != 0) = true then
        some r10692
      else
        if (x10690.A.Space == 0) = true then
          some 2
        else
          (printer_rung_L4 n _append0 a2 rec_n4) (IntKind.i64.wrap (p10686 + 1))
    else
      printer_rung_J3 n a2

def printer_rung_J2 (n : Nat) (_append0 : ApiSize) (a2 : ApiRung) : Option (Int) :=
  if (decide ((a2.Coils.length : Int) > 16)) = true then
    some 10
  else
    printer_rung_L4 n _append0 a2 n 0

def printer_rung_L5 (n : Nat) (_append0 : ApiSize) (a2 : ApiRung) : Nat → Int → Option (Int)
  | 0, _ => none
  | rec_n5 + 1, p10702 =>
    if (decide (p10702 < (a2.Contacts.length : Int))) = true then
      (atI a2.Contacts p10702).bind fun x10712 =>
      (printer_part n _append0 x10712.Kind x10712.A).bind fun r10716 =>
      if (r10716 != 0) = true then
        some r10716
      else
        (lex_IsName n x10712.From).bind fun r10718 =>
        if (!r10718) = true then
          some 6
        else
          (lex_IsName n x10712.To).bind fun r10720 =>
          if (!r10720) = true then
            some 6
          else
            (printer_rung_L5 n _append0 a2 rec_n5) (IntKind.i64.wrap (p10702 + 1))
    else
      printer_rung_J2 n _append0 a2

def printer_rung_J1 (n : Nat) (_append0 : ApiSize) (a2 : ApiRung) : Option (Int) :=
  if (decide ((a2.Contacts.length : Int) > 256)) = true then
    some 10
  else
    printer_rung_L5 n _append0 a2 n 0

def printer_rung (n : Nat) (_append0 : ApiSize) (a1 : List ApiRung) (a2 : ApiRung) : Option (Int) :=
  if (!(decide (a2.Label = (⟨#[]⟩ : Str)))) = true then
    (lex_IsName n a2.Label).bind fun r10722 =>
    if (!r10722) = true then
      some 6
    else
      (slices_ContainsFunc_api_Rung_c153 n a1 a2).bind fun r10724 =>
      if r10724 = true then
        some 9
      else
        printer_rung_J1 n _append0 a2
  else
    printer_rung_J1 n _append0 a2

def printer_Check_1 (n : Nat) (x_0 : ApiRung) (b0 : ApiRung) : Option (Bool) :=
  some (decide (x_0.Label = b0.Jump))

def slices_IndexFunc_api_Rung_c122_L1 (n : Nat) (s0 : List ApiRung) (b0 : ApiRung) : Nat → Int → Option (Int)
  | 0, _ => none
  | rec_n1 + 1, p10751 =>
    if (decide (p10751 < (s0.length : Int))) = true then
      (atI s0 p10751).bind fun x10755 =>
      (printer_Check_1 n x10755 b0).bind fun r10757 =>
      if r10757 = true then
        some p10751
      else
        (slices_IndexFunc_api_Rung_c122_L1 n s0 b0 rec_n1) (IntKind.i64.wrap (p10751 + 1))
    else
      some (-1)

def slices_IndexFunc_api_Rung_c122 (n : Nat) (s0 : List ApiRung) (b0 : ApiRung) : Option (Int) :=
  slices_IndexFunc_api_Rung_c122_L1 n s0 b0 n 0

def slices_ContainsFunc_api_Rung_c122 (n : Nat) (s0 : List ApiRung) (b0 : ApiRung) : Option (Bool) :=
  (slices_IndexFunc_api_Rung_c122 n s0 b0).bind fun r10761 =>
  some (decide (r10761 ≥ 0))

def printer_Check_L2 (n : Nat) (_append0 : ApiLadder) : Nat → Int → Option (Int × Int)
  | 0, _ => none
  | rec_n2 + 1, p10764 =>
    if (decide (p10764 < (_append0.Rungs.length : Int))) = true then
      (atI _append0.Rungs p10764).bind fun x10769 =>
      if (!(decide (x10769.Jump = (⟨#[]⟩ : Str)))) = true then
        if 0 ≤ (IntKind.i64.wrap (p10764 + 1)) ∧ (IntKind.i64.wrap (p10764 + 1)) ≤ (_append0.Rungs.length : Int) ∧ (_append0.Rungs.length : Int) ≤ (_append0.Rungs.length : Int) then
          (some (_append0.Rungs.drop (IntKind.i64.wrap (p10764 + 1)).toNat)).bind fun l10770 =>
          (slices_ContainsFunc_api_Rung_c122 n l10770 x10769).bind fun r10772 =>
          if (!r10772) = true then
            some (p10764, 15)
          else
            (printer_Check_L2 n _append0 rec_n2) (IntKind.i64.wrap (p10764 + 1))
        else none
      else
        (printer_Check_L2 n _append0 rec_n2) (IntKind.i64.wrap (p10764 + 1))
    else
      some ((_append0.Rungs.length : Int), 0)

def printer_Check_J1 (n : Nat) (_append0 : ApiLadder) : Option (Int × Int) :=
  printer_Check_L2 n _append0 n 0

def printer_Check_L3 (n : Nat) (_append0 : ApiLadder) (r10585 : ApiSize) : Nat → Int → Option (Int × Int)
  | 0, _ => none
  | rec_n3 + 1, p10777 =>
    if (decide (p10777 < (_append0.Rungs.length : Int))) = true then
      (atI _append0.Rungs p10777).bind fun x10782 =>
      if 0 ≤ 0 ∧ 0 ≤ p10777 ∧ p10777 ≤ (_append0.Rungs.length : Int) then
        (some (_append0.Rungs.take p10777.toNat)).bind fun l10783 =>
        (printer_rung n r10585 l10783 x10782).bind fun r10785 =>
        if (r10785 != 0) = true then
          some (p10777, r10785)
        else
          (printer_Check_L3 n _append0 r10585 rec_n3) (IntKind.i64.wrap (p10777 + 1))
      else none
    else
      printer_Check_J1 n _append0

def printer_Check (n : Nat) (_append0 : ApiLadder) : Option (Int × Int) :=
  (printer_sizes n _append0).bind fun r10585 =>
  (addr_CheckSize n r10585).bind fun r10597 =>
  if (r10597 != 0) = true then
    some (0, 3)
  else
    if (decide ((_append0.Rungs.length : Int) > 64)) = true then
      some (0, 10)
    else
      printer_Check_L3 n _append0 r10585 n 0

def graph_Nodes_o0_L2 (p13006 : Int) (loop_1_graph_Nodes_o0 : Int → (List Str) → (List (Str × Bool)) → Option ((List Str))) (l13021 : List Str) : Nat → Int → (List Str) → (List (Str × Bool)) → Option ((List Str))
  | 0, _, _, _ => none
  | rec_n2 + 1, p13024, l13025, p13026 =>
    if (decide (p13024 < (l13021.length : Int))) = true then
      (atI l13021 p13024).bind fun x13029 =>
      if (!((mGet p13026 x13029).getD false)) = true then
        if l13025.length + ([x13029]).length ≤ 1000000000 then
          (some (l13025 ++ ([x13029]))).bind fun l13030 =>
          (graph_Nodes_o0_L2 p13006 loop_1_graph_Nodes_o0 l13021 rec_n2) (IntKind.i64.wrap (p13024 + 1)) l13030 (mPut p13026 x13029 true)
        else none
      else
        (graph_Nodes_o0_L2 p13006 loop_1_graph_Nodes_o0 l13021 rec_n2) (IntKind.i64.wrap (p13024 + 1)) l13025 p13026
    else
      loop_1_graph_Nodes_o0 (IntKind.i64.wrap (p13006 + 1)) l13025 p13026

def graph_Nodes_o0_L1 (n : Nat) (r_0 : ApiRung) : Nat → Int → (List Str) → (List (Str × Bool)) → Option ((List Str))
  | 0, _, _, _ => none
  | rec_n1 + 1, p13006, l13007, p13008 =>
    if (decide (p13006 < (r_0.Contacts.length : Int))) = true then
      (atI r_0.Contacts p13006).bind fun x13020 =>
      (some ([x13020.From, x13020.To])).bind fun l13021 =>
      graph_Nodes_o0_L2 p13006 (graph_Nodes_o0_L1 n r_0 rec_n1) l13021 n 0 l13007 p13008
    else
      some l13007

def graph_Nodes_o0 (n : Nat) (r_0 : ApiRung) : Option ((List Str)) :=
  (some ([(⟨#[76]⟩ : Str), (⟨#[82]⟩ : Str)])).bind fun l12994 =>
  graph_Nodes_o0_L1 n r_0 n 0 l12994 (mPut (mPut ([]) (⟨#[76]⟩ : Str) true) (⟨#[82]⟩ : Str) true)

def graph_Incoming_1 (n : Nat) (c0 : ApiContact) (b0 : Str) : Option (Bool) :=
  some (decide (c0.To = b0))

def graph_numbers_c134_L1 (n : Nat) (r_0 : ApiRung) (b0 : Str) : Nat → Int → (List Int) → Option ((List Int))
  | 0, _, _ => none
  | rec_n1 + 1, p13060, p13061 =>
    if (decide (p13060 < (r_0.Contacts.length : Int))) = true then
      (atI r_0.Contacts p13060).bind fun x13066 =>
      (graph_Incoming_1 n x13066 b0).bind fun r13068 =>
      if r13068 = true then
        if p13061.length + ([p13060]).length ≤ 1000000000 then
          (some (p13061 ++ ([p13060]))).bind fun l13069 =>
          (graph_numbers_c134_L1 n r_0 b0 rec_n1) (IntKind.i64.wrap (p13060 + 1)) l13069
        else none
      else
        (graph_numbers_c134_L1 n r_0 b0 rec_n1) (IntKind.i64.wrap (p13060 + 1)) p13061
    else
      some p13061

def graph_numbers_c134 (n : Nat) (r_0 : ApiRung) (b0 : Str) : Option ((List Int)) :=
  graph_numbers_c134_L1 n r_0 b0 n 0 ([])

def graph_Incoming (n : Nat) (r_0 : ApiRung) (node1 : Str) : Option ((List Int)) :=
  (graph_numbers_c134 n r_0 node1).bind fun r13071 =>
  some r13071

def graph_TopoSort_1_1 (n : Nat) (i_0 : Int) (m1 : List (Str × Bool)) (b2 : ApiRung) : Option (Bool) :=
  (atI b2.Contacts i_0).bind fun x13076 =>
  some (!((mGet m1 x13076.From).getD false))

def slices_IndexFunc_int_c102_L1 (n : Nat) (s0 : List Int) (m1 : List (Str × Bool)) (b2 : ApiRung) : Nat → Int → Option (Int)
  | 0, _ => none
  | rec_n1 + 1, p13089 =>
    if (decide (p13089 < (s0.length : Int))) = true then
      (atI s0 p13089).bind fun x13093 =>
      (graph_TopoSort_1_1 n x13093 m1 b2).bind fun r13095 =>
      if r13095 = true then
        some p13089
      else
        (slices_IndexFunc_int_c102_L1 n s0 m1 b2 rec_n1) (IntKind.i64.wrap (p13089 + 1))
    else
      some (-1)

def slices_IndexFunc_int_c102 (n : Nat) (s0 : List Int) (m1 : List (Str × Bool)) (b2 : ApiRung) : Option (Int) :=
  slices_IndexFunc_int_c102_L1 n s0 m1 b2 n 0

def slices_ContainsFunc_int_c102 (n : Nat) (s0 : List Int) (m1 : List (Str × Bool)) (b2 : ApiRung) : Option (Bool) :=
  (slices_IndexFunc_int_c102 n s0 m1 b2).bind fun r13099 =>
  some (decide (r13099 ≥ 0))

def graph_TopoSort_1 (n : Nat) (n_0 : Str) (b0 : ApiRung) (m2 : List (Str × Bool)) : Option (Bool) :=
  (graph_Incoming n b0 n_0).bind fun r13103 =>
  (slices_ContainsFunc_int_c102 n r13103 m2 b0).bind fun r13105 =>
  some (!r13105)

def slices_IndexFunc_string_c99_v1_L1 (n : Nat) (l0 : List Str) (b1 : ApiRung) (m3 : List (Str × Bool)) : Nat → Int → Option (Int)
  | 0, _ => none
  | rec_n1 + 1, p13118 =>
    if (decide (p13118 < (l0.length : Int))) = true then
      (atI l0 p13118).bind fun x13122 =>
      (graph_TopoSort_1 n x13122 b1 m3).bind fun r13124 =>
      if r13124 = true then
        some p13118
      else
        (slices_IndexFunc_string_c99_v1_L1 n l0 b1 m3 rec_n1) (IntKind.i64.wrap (p13118 + 1))
    else
      some (-1)

def slices_IndexFunc_string_c99_v1 (n : Nat) (l0 : List Str) (b1 : ApiRung) (m3 : List (Str × Bool)) : Option (Int) :=
  slices_IndexFunc_string_c99_v1_L1 n l0 b1 m3 n 0

def slices_Delete_string_v1 (n : Nat) (i_1 : Int) (j2 : Int) (l0 : List Str) : Option ((List Str)) :=
  if 0 ≤ i_1 ∧ i_1 ≤ j2 ∧ j2 ≤ (l0.length : Int) ∧ (l0.length : Int) ≤ (l0.length : Int) then
    if (i_1 == j2) = true then
      some l0
    else
      if 0 ≤ 0 ∧ 0 ≤ i_1 ∧ i_1 ≤ (l0.length : Int) then
        if 0 ≤ j2 ∧ j2 ≤ (l0.length : Int) ∧ (l0.length : Int) ≤ (l0.length : Int) then
          if i_1.toNat + (l0.length - j2.toNat) ≤ l0.length then
            (some (l0.take i_1.toNat ++ ((l0.drop j2.toNat) ++ l0.drop (i_1.toNat + (l0.length - j2.toNat))))).bind fun l13131 =>
            if 0 ≤ (((i_1.toNat + (l0.length - j2.toNat)) : Nat) : Int) ∧ (((i_1.toNat + (l0.length - j2.toNat)) : Nat) : Int) ≤ (l0.length : Int) ∧ (l0.length : Int) ≤ l13131.length then
              if ((i_1.toNat + (l0.length - j2.toNat)) + (l0.length - (i_1.toNat + (l0.length - j2.toNat)))) ≤ l13131.length then
                some (l13131.take (i_1.toNat + (l0.length - j2.toNat)))
              else none
            else none
          else none
        else none
      else none
  else none

def graph_TopoSort_L1 (n : Nat) (r_0 : ApiRung) : Nat → (List Str) → (List (Str × Bool)) → (List Str) → Option ((List Str) × Int)
  | 0, _, _, _ => none
  | rec_n1 + 1, r13134, p13135, p13136 =>
    if (decide ((r13134.length : Int) > 0)) = true then
      (slices_IndexFunc_string_c99_v1 n r13134 r_0 p13135).bind fun r13144 =>
      if (decide (r13144 < 0)) = true then
        some ([], 12)
      else
        (atI r13134 r13144).bind fun x13145 =>
        if p13136.length + ([x13145]).length ≤ 1000000000 then
          (some (p13136 ++ ([x13145]))).bind fun l13146 =>
          (slices_Delete_string_v1 n r13144 (IntKind.i64.wrap (r13144 + 1)) r13134).bind fun q13148 =>
          (graph_TopoSort_L1 n r_0 rec_n1) q13148 (mPut p13135 x13145 true) l13146
        else none
    else
      some (p13136, 0)

def graph_TopoSort (n : Nat) (r_0 : ApiRung) : Option ((List Str) × Int) :=
  (graph_Nodes_o0 n r_0).bind fun r13032 =>
  graph_TopoSort_L1 n r_0 n r13032 ([]) ([])

def slices_Index_string_L1 (s0 : List Str) (v1 : Str) : Nat → Int → Option (Int)
  | 0, _ => none
  | rec_n1 + 1, p14055 =>
    if (decide (p14055 < (s0.length : Int))) = true then
      (atI s0 p14055).bind fun x14057 =>
      if (decide (v1 = x14057)) = true then
        some p14055
      else
        (slices_Index_string_L1 s0 v1 rec_n1) (IntKind.i64.wrap (p14055 + 1))
    else
      some (-1)

def slices_Index_string (n : Nat) (s0 : List Str) (v1 : Str) : Option (Int) :=
  slices_Index_string_L1 s0 v1 n 0

def slices_Contains_string (n : Nat) (s0 : List Str) (v1 : Str) : Option (Bool) :=
  (slices_Index_string n s0 v1).bind fun r14059 =>
  some (decide (r14059 ≥ 0))

def graph_Outgoing_1 (n : Nat) (c0 : ApiContact) (b0 : Str) : Option (Bool) :=
  some (decide (c0.From = b0))

def graph_numbers_c168_L1 (n : Nat) (r_0 : ApiRung) (b0 : Str) : Nat → Int → (List Int) → Option ((List Int))
  | 0, _, _ => none
  | rec_n1 + 1, p14136, p14137 =>
    if (decide (p14136 < (r_0.Contacts.length : Int))) = true then
      (atI r_0.Contacts p14136).bind fun x14142 =>
      (graph_Outgoing_1 n x14142 b0).bind fun r14144 =>
      if r14144 = true then
        if p14137.length + ([p14136]).length ≤ 1000000000 then
          (some (p14137 ++ ([p14136]))).bind fun l14145 =>
          (graph_numbers_c168_L1 n r_0 b0 rec_n1) (IntKind.i64.wrap (p14136 + 1)) l14145
        else none
      else
        (graph_numbers_c168_L1 n r_0 b0 rec_n1) (IntKind.i64.wrap (p14136 + 1)) p14137
    else
      some p14137

def graph_numbers_c168 (n : Nat) (r_0 : ApiRung) (b0 : Str) : Option ((List Int)) :=
  graph_numbers_c168_L1 n r_0 b0 n 0 ([])

def graph_Outgoing (n : Nat) (r_0 : ApiRung) (node1 : Str) : Option ((List Int)) :=
  (graph_numbers_c168 n r_0 node1).bind fun r14147 =>
  some r14147

def graph_Reachable_1_L1 (b0 : ApiRung) (r14162 : List Int) : Nat → Int → (List Str) → Option ((List Str))
  | 0, _, _ => none
  | rec_n1 + 1, p14166, p14167 =>
    if (decide (p14166 < (r14162.length : Int))) = true then
      (atI r14162 p14166).bind fun x14171 =>
      (atI b0.Contacts x14171).bind fun x14172 =>
      if p14167.length + ([x14172.To]).length ≤ 1000000000 then
        (some (p14167 ++ ([x14172.To]))).bind fun l14173 =>
        (graph_Reachable_1_L1 b0 r14162 rec_n1) (IntKind.i64.wrap (p14166 + 1)) l14173
      else none
    else
      some p14167

def graph_Reachable_1 (n : Nat) (n_0 : Str) (b0 : ApiRung) : Option ((List Str)) :=
  (graph_Outgoing n b0 n_0).bind fun r14162 =>
  graph_Reachable_1_L1 b0 r14162 n 0 ([])

def graph_gather_1_c136_166_L1 (b3 : ApiRung) (r14194 : List Str) (slf_graph_gather_1_c136_166 : Str → (List (Str × Bool)) → ApiRung → Option ((List (Str × Bool)))) : Nat → (List (Str × Bool)) → Int → Option ((List (Str × Bool)))
  | 0, _, _ => none
  | rec_n1 + 1, p14198, p14199 =>
    if (decide (p14199 < (r14194.length : Int))) = true then
      (atI r14194 p14199).bind fun x14203 =>
      (slf_graph_gather_1_c136_166 x14203 p14198 b3).bind fun q14205 =>
      (graph_gather_1_c136_166_L1 b3 r14194 slf_graph_gather_1_c136_166 rec_n1) q14205 (IntKind.i64.wrap (p14199 + 1))
    else
      some p14198

def graph_gather_1_c136_166 : Nat → Str → (List (Str × Bool)) → ApiRung → Option ((List (Str × Bool)))
  | 0, _, _, _ => none
  | n + 1, n_0, m1, b3 =>
  if ((mGet m1 n_0).getD false) = true then
    some m1
  else
    (graph_Reachable_1 n n_0 b3).bind fun r14194 =>
    graph_gather_1_c136_166_L1 b3 r14194 (graph_gather_1_c136_166 n) n (mPut m1 n_0 true) 0

def graph_gather_2 (n : Nat) (n_0 : Str) (m1 : List (Str × Bool)) : Option (Bool) :=
  some (!((mGet m1 n_0).getD false))

def slices_IndexFunc_string_c167_v1_L1 (n : Nat) (l0 : List Str) (m2 : List (Str × Bool)) : Nat → Int → Option (Int)
  | 0, _ => none
  | rec_n1 + 1, p14243 =>
    if (decide (p14243 < (l0.length : Int))) = true then
      (atI l0 p14243).bind fun x14247 =>
      (graph_gather_2 n x14247 m2).bind fun r14249 =>
      if r14249 = true then
        some p14243
      else
        (slices_IndexFunc_string_c167_v1_L1 n l0 m2 rec_n1) (IntKind.i64.wrap (p14243 + 1))
    else
      some (-1)

def slices_IndexFunc_string_c167_v1 (n : Nat) (l0 : List Str) (m2 : List (Str × Bool)) : Option (Int) :=
  slices_IndexFunc_string_c167_v1_L1 n l0 m2 n 0

def slices_DeleteFunc_string_c167_v1_L1 (n : Nat) (m2 : List (Str × Bool)) : Nat → (List Str) → Int → Int → Option ((List Str))
  | 0, _, _, _ => none
  | rec_n1 + 1, l14278, r14279, p14280 =>
    if (decide (p14280 < (l14278.length : Int))) = true then
      (atI l14278 p14280).bind fun x14286 =>
      (graph_gather_2 n x14286 m2).bind fun r14288 =>
      if (!r14288) = true then
        (atI l14278 r14279).bind fun x14289 =>
        (some (l14278.set r14279.toNat x14286)).bind fun l14290 =>
        (slices_DeleteFunc_string_c167_v1_L1 n m2 rec_n1) l14290 (IntKind.i64.wrap (r14279 + 1)) (IntKind.i64.wrap (p14280 + 1))
      else
        (slices_DeleteFunc_string_c167_v1_L1 n m2 rec_n1) l14278 r14279 (IntKind.i64.wrap (p14280 + 1))
    else
      if 0 ≤ r14279 ∧ r14279 ≤ (l14278.length : Int) ∧ (l14278.length : Int) ≤ (l14278.length : Int) then
        if (r14279.toNat + (l14278.length - r14279.toNat)) ≤ l14278.length then
          if 0 ≤ 0 ∧ 0 ≤ r14279 ∧ r14279 ≤ (l14278.length : Int) then
            some (l14278.take r14279.toNat)
          else none
        else none
      else none

def slices_DeleteFunc_string_c167_v1 (n : Nat) (l0 : List Str) (m2 : List (Str × Bool)) : Option ((List Str)) :=
  (slices_IndexFunc_string_c167_v1 n l0 m2).bind fun r14272 =>
  if (r14272 == (-1)) = true then
    some l0
  else
    slices_DeleteFunc_string_c167_v1_L1 n m2 n l0 r14272 (IntKind.i64.wrap (r14272 + 1))

def graph_gather_c136 (n : Nat) (r_0 : ApiRung) (node1 : Str) (b0 : ApiRung) : Option ((List Str)) :=
  (graph_Nodes_o0 n r_0).bind fun r14294 =>
  (slices_Contains_string n r14294 node1).bind fun r14298 =>
  if (!r14298) = true then
    some ([])
  else
    (graph_gather_1_c136_166 n node1 ([]) b0).bind fun q14300 =>
    (slices_DeleteFunc_string_c167_v1 n r14294 q14300).bind fun q14302 =>
    some q14302

def graph_Reachable (n : Nat) (r_0 : ApiRung) (node1 : Str) : Option ((List Str)) :=
  (graph_gather_c136 n r_0 node1 r_0).bind fun r14304 =>
  some r14304

def graph_Ancestors_1_L1 (b0 : ApiRung) (r14450 : List Int) : Nat → Int → (List Str) → Option ((List Str))
  | 0, _, _ => none
  | rec_n1 + 1, p14454, p14455 =>
    if (decide (p14454 < (r14450.length : Int))) = true then
      (atI r14450 p14454).bind fun x14459 =>
      (atI b0.Contacts x14459).bind fun x14460 =>
      if p14455.length + ([x14460.From]).length ≤ 1000000000 then
        (some (p14455 ++ ([x14460.From]))).bind fun l14461 =>
        (graph_Ancestors_1_L1 b0 r14450 rec_n1) (IntKind.i64.wrap (p14454 + 1)) l14461
      else none
    else
      some p14455

def graph_Ancestors_1 (n : Nat) (n_0 : Str) (b0 : ApiRung) : Option ((List Str)) :=
  (graph_Incoming n b0 n_0).bind fun r14450 =>
  graph_Ancestors_1_L1 b0 r14450 n 0 ([])

def graph_gather_1_c138_166_L1 (b3 : ApiRung) (r14482 : List Str) (slf_graph_gather_1_c138_166 : Str → (List (Str × Bool)) → ApiRung → Option ((List (Str × Bool)))) : Nat → (List (Str × Bool)) → Int → Option ((List (Str × Bool)))
  | 0, _, _ => none
  | rec_n1 + 1, p14486, p14487 =>
    if (decide (p14487 < (r14482.length : Int))) = true then
      (atI r14482 p14487).bind fun x14491 =>
      (slf_graph_gather_1_c138_166 x14491 p14486 b3).bind fun q14493 =>
      (graph_gather_1_c138_166_L1 b3 r14482 slf_graph_gather_1_c138_166 rec_n1) q14493 (IntKind.i64.wrap (p14487 + 1))
    else
      some p14486

def graph_gather_1_c138_166 : Nat → Str → (List (Str × Bool)) → ApiRung → Option ((List (Str × Bool)))
  | 0, _, _, _ => none
  | n + 1, n_0, m1, b3 =>
  if ((mGet m1 n_0).getD false) = true then
    some m1
  else
    (graph_Ancestors_1 n n_0 b3).bind fun r14482 =>
    graph_gather_1_c138_166_L1 b3 r14482 (graph_gather_1_c138_166 n) n (mPut m1 n_0 true) 0

def graph_gather_c138 (n : Nat) (r_0 : ApiRung) (node1 : Str) (b0 : ApiRung) : Option ((List Str)) :=
  (graph_Nodes_o0 n r_0).bind fun r14499 =>
  (slices_Contains_string n r14499 node1).bind fun r14503 =>
  if (!r14503) = true then
    some ([])
  else
    (graph_gather_1_c138_166 n node1 ([]) b0).bind fun q14505 =>
    (slices_DeleteFunc_string_c167_v1 n r14499 q14505).bind fun q14507 =>
    some q14507

def graph_Ancestors (n : Nat) (r_0 : ApiRung) (node1 : Str) : Option ((List Str)) :=
  (graph_gather_c138 n r_0 node1 r_0).bind fun r14509 =>
  some r14509

def flow_DeadNodes_1 (n : Nat) (n_0 : Str) (b0 : List Str) (b1 : List Str) : Option (Bool) :=
  (slices_Contains_string n b0 n_0).bind fun r14550 =>
  if r14550 = true then
    (slices_Contains_string n b1 n_0).bind fun r14552 =>
    some r14552
  else
    some false

def slices_IndexFunc_string_c107_v1_L1 (n : Nat) (l0 : List Str) (b1 : List Str) (b2 : List Str) : Nat → Int → Option (Int)
  | 0, _ => none
  | rec_n1 + 1, p14565 =>
    if (decide (p14565 < (l0.length : Int))) = true then
      (atI l0 p14565).bind fun x14569 =>
      (flow_DeadNodes_1 n x14569 b1 b2).bind fun r14571 =>
      if r14571 = true then
        some p14565
      else
        (slices_IndexFunc_string_c107_v1_L1 n l0 b1 b2 rec_n1) (IntKind.i64.wrap (p14565 + 1))
    else
      some (-1)

def slices_IndexFunc_string_c107_v1 (n : Nat) (l0 : List Str) (b1 : List Str) (b2 : List Str) : Option (Int) :=
  slices_IndexFunc_string_c107_v1_L1 n l0 b1 b2 n 0

def slices_DeleteFunc_string_c107_L1 (n : Nat) (b1 : List Str) (b2 : List Str) : Nat → (List Str) → Int → Int → Option ((List Str))
  | 0, _, _, _ => none
  | rec_n1 + 1, l14600, r14601, p14602 =>
    if (decide (p14602 < (l14600.length : Int))) = true then
      (atI l14600 p14602).bind fun x14608 =>
      (flow_DeadNodes_1 n x14608 b1 b2).bind fun r14610 =>
      if (!r14610) = true then
        (atI l14600 r14601).bind fun x14611 =>
        (some (l14600.set r14601.toNat x14608)).bind fun l14612 =>
        (slices_DeleteFunc_string_c107_L1 n b1 b2 rec_n1) l14612 (IntKind.i64.wrap (r14601 + 1)) (IntKind.i64.wrap (p14602 + 1))
      else
        (slices_DeleteFunc_string_c107_L1 n b1 b2 rec_n1) l14600 r14601 (IntKind.i64.wrap (p14602 + 1))
    else
      if 0 ≤ r14601 ∧ r14601 ≤ (l14600.length : Int) ∧ (l14600.length : Int) ≤ (l14600.length : Int) then
        if (r14601.toNat + (l14600.length - r14601.toNat)) ≤ l14600.length then
          if 0 ≤ 0 ∧ 0 ≤ r14601 ∧ r14601 ≤ (l14600.length : Int) then
            some (l14600.take r14601.toNat)
          else none
        else none
      else none

def slices_DeleteFunc_string_c107 (n : Nat) (l0 : List Str) (b1 : List Str) (b2 : List Str) : Option ((List Str)) :=
  (slices_IndexFunc_string_c107_v1 n l0 b1 b2).bind fun r14594 =>
  if (r14594 == (-1)) = true then
    some l0
  else
    slices_DeleteFunc_string_c107_L1 n b1 b2 n l0 r14594 (IntKind.i64.wrap (r14594 + 1))

def flow_DeadNodes (n : Nat) (r_0 : ApiRung) : Option ((List Str)) :=
  (graph_Reachable n r_0 (⟨#[76]⟩ : Str)).bind fun r14306 =>
  (graph_Ancestors n r_0 (⟨#[82]⟩ : Str)).bind fun r14511 =>
  (graph_Nodes_o0 n r_0).bind fun r14513 =>
  (slices_DeleteFunc_string_c107 n r14513 r14306 r14511).bind fun q14614 =>
  some q14614

def flow_Check (n : Nat) (r_0 : ApiRung) : Option (Int) :=
  if ((r_0.Contacts.length : Int) == 0) = true then
    some 4
  else
    (graph_TopoSort n r_0).bind fun ⟨r13153, r13154⟩ =>
    if (r13154 != 0) = true then
      some r13154
    else
      (flow_DeadNodes n r_0).bind fun r14616 =>
      if (decide ((r14616.length : Int) > 0)) = true then
        some 13
      else
        some 0

def reduce_parallel_1 (n : Nat) (y0 : ReduceEdge) (b0 : ReduceEdge) : Option (Bool) :=
  some ((decide (y0.pair.from_ = b0.pair.from_)) && (decide (y0.pair.to_ = b0.pair.to_)))

def slices_IndexFunc_reduce_edge_c66_v1_L1 (n : Nat) (s0 : Nat) (l0 : List ReduceEdge) (b1 : ReduceEdge) : Nat → Int → Option (Int)
  | 0, _ => none
  | rec_n1 + 1, p14644 =>
    if (decide (p14644 < (((l0.length - s0) : Nat) : Int))) = true then
      (atI (l0.drop s0) p14644).bind fun x14648 =>
      (reduce_parallel_1 n x14648 b1).bind fun r14650 =>
      if r14650 = true then
        some p14644
      else
        (slices_IndexFunc_reduce_edge_c66_v1_L1 n s0 l0 b1 rec_n1) (IntKind.i64.wrap (p14644 + 1))
    else
      some (-1)

def slices_IndexFunc_reduce_edge_c66_v1 (n : Nat) (s0 : Nat) (l0 : List ReduceEdge) (b1 : ReduceEdge) : Option (Int) :=
  slices_IndexFunc_reduce_edge_c66_v1_L1 n s0 l0 b1 n 0

def reduce_join_L1 (kind0 : Int) (l14663 : List TreeTree) : Nat → Int → (List TreeTree) → Option (TreeTree)
  | 0, _, _ => none
  | rec_n1 + 1, p14666, p14667 =>
    if (decide (p14666 < (l14663.length : Int))) = true then
      (atI l14663 p14666).bind fun x14671 =>
      if (x14671.Kind == kind0) = true then
        if p14667.length + x14671.Kids.length ≤ 1000000000 then
          (some (p14667 ++ x14671.Kids)).bind fun l14672 =>
          (reduce_join_L1 kind0 l14663 rec_n1) (IntKind.i64.wrap (p14666 + 1)) l14672
        else none
      else
        if p14667.length + ([x14671]).length ≤ 1000000000 then
          (some (p14667 ++ ([x14671]))).bind fun l14673 =>
          (reduce_join_L1 kind0 l14663 rec_n1) (IntKind.i64.wrap (p14666 + 1)) l14673
        else none
    else
      some (⟨kind0, 0, p14667⟩ : TreeTree)

def reduce_join (n : Nat) (kind0 : Int) (a1 : TreeTree) (b2 : TreeTree) : Option (TreeTree) :=
  (some ([a1, b2])).bind fun l14663 =>
  reduce_join_L1 kind0 l14663 n 0 ([])

def slices_Delete_reduce_edge_v1 (n : Nat) (i_1 : Int) (j2 : Int) (l0 : List ReduceEdge) : Option ((List ReduceEdge)) :=
  if 0 ≤ i_1 ∧ i_1 ≤ j2 ∧ j2 ≤ (l0.length : Int) ∧ (l0.length : Int) ≤ (l0.length : Int) then
    if (i_1 == j2) = true then
      some l0
    else
      if 0 ≤ 0 ∧ 0 ≤ i_1 ∧ i_1 ≤ (l0.length : Int) then
        if 0 ≤ j2 ∧ j2 ≤ (l0.length : Int) ∧ (l0.length : Int) ≤ (l0.length : Int) then
          if i_1.toNat + (l0.length - j2.toNat) ≤ l0.length then
            (some (l0.take i_1.toNat ++ ((l0.drop j2.toNat) ++ l0.drop (i_1.toNat + (l0.length - j2.toNat))))).bind fun l14679 =>
            if 0 ≤ (((i_1.toNat + (l0.length - j2.toNat)) : Nat) : Int) ∧ (((i_1.toNat + (l0.length - j2.toNat)) : Nat) : Int) ≤ (l0.length : Int) ∧ (l0.length : Int) ≤ l14679.length then
              if ((i_1.toNat + (l0.length - j2.toNat)) + (l0.length - (i_1.toNat + (l0.length - j2.toNat)))) ≤ l14679.length then
                some (l14679.take (i_1.toNat + (l0.length - j2.toNat)))
              else none
            else none
          else none
        else none
      else none
  else none

def reduce_parallel_v1_L1 (n : Nat) (l0 : List ReduceEdge) : Nat → Int → Option (Bool × (List ReduceEdge))
  | 0, _ => none
  | rec_n1 + 1, p14711 =>
    if (decide (p14711 < (l0.length : Int))) = true then
      (atI l0 p14711).bind fun x14721 =>
      if 0 ≤ (IntKind.i64.wrap (p14711 + 1)) ∧ (IntKind.i64.wrap (p14711 + 1)) ≤ (l0.length : Int) ∧ (l0.length : Int) ≤ (l0.length : Int) then
        (slices_IndexFunc_reduce_edge_c66_v1 n ((IntKind.i64.wrap (p14711 + 1)).toNat) l0 x14721).bind fun r14723 =>
        if (decide (r14723 ≥ 0)) = true then
          (atI l0 (IntKind.i64.wrap ((IntKind.i64.wrap (p14711 + 1)) + r14723))).bind fun x14724 =>
          (reduce_join n 2 x14721.t_ x14724.t_).bind fun r14726 =>
          (some (l0.set p14711.toNat (⟨x14721.pair, r14726⟩ : ReduceEdge))).bind fun l14727 =>
          (slices_Delete_reduce_edge_v1 n (IntKind.i64.wrap ((IntKind.i64.wrap (p14711 + 1)) + r14723)) (IntKind.i64.wrap ((IntKind.i64.wrap (p14711 + 2)) + r14723)) l14727).bind fun q14729 =>
          some (true, q14729)
        else
          (reduce_parallel_v1_L1 n l0 rec_n1) (IntKind.i64.wrap (p14711 + 1))
      else none
    else
      some (false, l0)

def reduce_parallel_v1 (n : Nat) (l0 : List ReduceEdge) : Option (Bool × (List ReduceEdge)) :=
  reduce_parallel_v1_L1 n l0 n 0

def reduce_series_v1_J2 (n : Nat) (l0 : List ReduceEdge) (p14867 : Int) (loop_1_reduce_series_v1 : Int → Option (Bool × (List ReduceEdge))) (x14902 : ReduceEdge) (p14915 : Int) (p14916 : Int) (p14917 : Int) : Option (Bool × (List ReduceEdge)) :=
  if (p14915 == 1) = true then
    if (p14916 == 1) = true then
      (atI l0 p14917).bind fun x14918 =>
      (reduce_join n 1 x14902.t_ x14918.t_).bind fun r14920 =>
      (some (l0.set p14867.toNat (⟨(⟨x14902.pair.from_, x14918.pair.to_⟩ : ReducePair), r14920⟩ : ReduceEdge))).bind fun l14921 =>
      (slices_Delete_reduce_edge_v1 n p14917 (IntKind.i64.wrap (p14917 + 1)) l14921).bind fun q14923 =>
      some (true, q14923)
    else
      loop_1_reduce_series_v1 (IntKind.i64.wrap (p14867 + 1))
  else
    loop_1_reduce_series_v1 (IntKind.i64.wrap (p14867 + 1))

def reduce_series_v1_J4 (x14902 : ReduceEdge) (p14926 : Int) (p14928 : Int) (p14931 : Int) (loop_3_reduce_series_v1 : Int → Int → Int → Int → Option (Bool × (List ReduceEdge))) (x14934 : ReduceEdge) (p14935 : Int) : Option (Bool × (List ReduceEdge)) :=
  if (decide (x14934.pair.from_ = x14902.pair.to_)) = true then
    loop_3_reduce_series_v1 (IntKind.i64.wrap (p14926 + 1)) p14935 (IntKind.i64.wrap (p14928 + 1)) p14926
  else
    loop_3_reduce_series_v1 (IntKind.i64.wrap (p14926 + 1)) p14935 p14928 p14931

def reduce_series_v1_L3 (n : Nat) (l0 : List ReduceEdge) (p14867 : Int) (loop_1_reduce_series_v1 : Int → Option (Bool × (List ReduceEdge))) (x14902 : ReduceEdge) : Nat → Int → Int → Int → Int → Option (Bool × (List ReduceEdge))
  | 0, _, _, _, _ => none
  | rec_n3 + 1, p14926, p14927, p14928, p14931 =>
    if (decide (p14926 < (l0.length : Int))) = true then
      (atI l0 p14926).bind fun x14934 =>
      if (decide (x14934.pair.to_ = x14902.pair.to_)) = true then
        reduce_series_v1_J4 x14902 p14926 p14928 p14931 (reduce_series_v1_L3 n l0 p14867 loop_1_reduce_series_v1 x14902 rec_n3) x14934 (IntKind.i64.wrap (p14927 + 1))
      else
        reduce_series_v1_J4 x14902 p14926 p14928 p14931 (reduce_series_v1_L3 n l0 p14867 loop_1_reduce_series_v1 x14902 rec_n3) x14934 p14927
    else
      reduce_series_v1_J2 n l0 p14867 loop_1_reduce_series_v1 x14902 p14927 p14928 p14931

def reduce_series_v1_L1 (n : Nat) (l0 : List ReduceEdge) : Nat → Int → Option (Bool × (List ReduceEdge))
  | 0, _ => none
  | rec_n1 + 1, p14867 =>
    if (decide (p14867 < (l0.length : Int))) = true then
      (atI l0 p14867).bind fun x14902 =>
      if (decide (x14902.pair.to_ = (⟨#[76]⟩ : Str))) = true then
        (reduce_series_v1_L1 n l0 rec_n1) (IntKind.i64.wrap (p14867 + 1))
      else
        if (decide (x14902.pair.to_ = (⟨#[82]⟩ : Str))) = true then
          (reduce_series_v1_L1 n l0 rec_n1) (IntKind.i64.wrap (p14867 + 1))
        else
          reduce_series_v1_L3 n l0 p14867 (reduce_series_v1_L1 n l0 rec_n1) x14902 n 0 0 0 0
    else
      some (false, l0)

def reduce_series_v1 (n : Nat) (l0 : List ReduceEdge) : Option (Bool × (List ReduceEdge)) :=
  reduce_series_v1_L1 n l0 n 0

def reduce_sorted_J1 (t0 : TreeTree) (p14977 : List TreeTree) : Option (TreeTree) :=
  if (t0.Kind == 2) = true then
    none
  else
    some (⟨t0.Kind, t0.N, p14977⟩ : TreeTree)

def reduce_sorted_L2 (t0 : TreeTree) (slf_reduce_sorted : TreeTree → Option (TreeTree)) : Nat → Int → (List TreeTree) → Option (TreeTree)
  | 0, _, _ => none
  | rec_n2 + 1, p14982, p14983 =>
    if (decide (p14982 < (t0.Kids.length : Int))) = true then
      (atI t0.Kids p14982).bind fun x14988 =>
      (slf_reduce_sorted x14988).bind fun r14990 =>
      if p14983.length + ([r14990]).length ≤ 1000000000 then
        (some (p14983 ++ ([r14990]))).bind fun l14991 =>
        (reduce_sorted_L2 t0 slf_reduce_sorted rec_n2) (IntKind.i64.wrap (p14982 + 1)) l14991
      else none
    else
      reduce_sorted_J1 t0 p14983

def reduce_sorted : Nat → TreeTree → Option (TreeTree)
  | 0, _ => none
  | n + 1, t0 =>
  reduce_sorted_L2 t0 (reduce_sorted n) n 0 ([])

def reduce_Reduce_J2 (n : Nat) (p14953 : List ReduceEdge) : Option (TreeTree × Int) :=
  if ((p14953.length : Int) != 1) = true then
    some ((⟨0, 0, []⟩ : TreeTree), 14)
  else
    (atI p14953 0).bind fun x14954 =>
    if (!((decide (x14954.pair.from_ = (⟨#[76]⟩ : Str))) && (decide (x14954.pair.to_ = (⟨#[82]⟩ : Str))))) = true then
      some ((⟨0, 0, []⟩ : TreeTree), 14)
    else
      (reduce_sorted n x14954.t_).bind fun r14993 =>
      some (r14993, 0)

def reduce_Reduce_L3 (n : Nat) : Nat → (List ReduceEdge) → Bool → Option (TreeTree × Int)
  | 0, _, _ => none
  | rec_n3 + 1, p15000, true15001 =>
    if true15001 = true then
      (reduce_parallel_v1 n p15000).bind fun ⟨r15009, q15010⟩ =>
      (reduce_series_v1 n q15010).bind fun ⟨r15012, q15013⟩ =>
      if r15009 = true then
        (reduce_Reduce_L3 n rec_n3) q15013 true
      else
        (reduce_Reduce_L3 n rec_n3) q15013 r15012
    else
      reduce_Reduce_J2 n p15000

def reduce_Reduce_J1 (n : Nat) (p14629 : List ReduceEdge) : Option (TreeTree × Int) :=
  reduce_Reduce_L3 n n p14629 true

def reduce_Reduce_L4 (n : Nat) (_append0 : ApiRung) : Nat → Int → (List ReduceEdge) → Option (TreeTree × Int)
  | 0, _, _ => none
  | rec_n4 + 1, p15016, p15017 =>
    if (decide (p15016 < (_append0.Contacts.length : Int))) = true then
      (atI _append0.Contacts p15016).bind fun x15020 =>
      if p15017.length + ([(⟨(⟨x15020.From, x15020.To⟩ : ReducePair), (⟨0, p15016, ([] : List TreeTree)⟩ : TreeTree)⟩ : ReduceEdge)]).length ≤ 1000000000 then
        (some (p15017 ++ ([(⟨(⟨x15020.From, x15020.To⟩ : ReducePair), (⟨0, p15016, ([] : List TreeTree)⟩ : TreeTree)⟩ : ReduceEdge)]))).bind fun l15021 =>
        (reduce_Reduce_L4 n _append0 rec_n4) (IntKind.i64.wrap (p15016 + 1)) l15021
      else none
    else
      reduce_Reduce_J1 n p15017

def reduce_Reduce (n : Nat) (_append0 : ApiRung) : Option (TreeTree × Int) :=
  (flow_Check n _append0).bind fun r14620 =>
  if (r14620 != 0) = true then
    some ((⟨0, 0, []⟩ : TreeTree), r14620)
  else
    reduce_Reduce_L4 n _append0 n 0 ([])

def codegen_sees (n : Nat) (c0 : ApiContact) : Option (Bool) :=
  if (c0.Kind == 2) = true then
    some true
  else
    some (c0.Kind == 3)

def tree_Tree_check_1 (n : Nat) (k0 : TreeTree) (b0 : TreeTree) : Option (Bool) :=
  some (k0.Kind == b0.Kind)

def slices_IndexFunc_tree_Tree_c92_L1 (n : Nat) (s0 : List TreeTree) (b0 : TreeTree) : Nat → Int → Option (Int)
  | 0, _ => none
  | rec_n1 + 1, p15057 =>
    if (decide (p15057 < (s0.length : Int))) = true then
      (atI s0 p15057).bind fun x15061 =>
      (tree_Tree_check_1 n x15061 b0).bind fun r15063 =>
      if r15063 = true then
        some p15057
      else
        (slices_IndexFunc_tree_Tree_c92_L1 n s0 b0 rec_n1) (IntKind.i64.wrap (p15057 + 1))
    else
      some (-1)

def slices_IndexFunc_tree_Tree_c92 (n : Nat) (s0 : List TreeTree) (b0 : TreeTree) : Option (Int) :=
  slices_IndexFunc_tree_Tree_c92_L1 n s0 b0 n 0

def slices_ContainsFunc_tree_Tree_c92 (n : Nat) (s0 : List TreeTree) (b0 : TreeTree) : Option (Bool) :=
  (slices_IndexFunc_tree_Tree_c92 n s0 b0).bind fun r15067 =>
  some (decide (r15067 ≥ 0))

def tree_Tree_check_L2 (_append0 : TreeTree) (a1 : Int) (slf_tree_Tree_check : TreeTree → Int → (List (Int × Bool)) → Option (Int × (List (Int × Bool)))) : Nat → (List (Int × Bool)) → Int → Option (Int × (List (Int × Bool)))
  | 0, _, _ => none
  | rec_n2 + 1, m15110, p15111 =>
    if (decide (p15111 < (_append0.Kids.length : Int))) = true then
      (atI _append0.Kids p15111).bind fun x15116 =>
      (slf_tree_Tree_check x15116 a1 m15110).bind fun ⟨r15118, q15119⟩ =>
      if (r15118 != 0) = true then
        some (r15118, q15119)
      else
        (tree_Tree_check_L2 _append0 a1 slf_tree_Tree_check rec_n2) q15119 (IntKind.i64.wrap (p15111 + 1))
    else
      some (0, m15110)

def tree_Tree_check_J1 (n : Nat) (_append0 : TreeTree) (a1 : Int) (m0 : List (Int × Bool)) (slf_tree_Tree_check : TreeTree → Int → (List (Int × Bool)) → Option (Int × (List (Int × Bool)))) : Option (Int × (List (Int × Bool))) :=
  tree_Tree_check_L2 _append0 a1 slf_tree_Tree_check n m0 0

def tree_Tree_check : Nat → TreeTree → Int → (List (Int × Bool)) → Option (Int × (List (Int × Bool)))
  | 0, _, _, _ => none
  | n + 1, _append0, a1, m0 =>
  if (decide (_append0.Kind < 0)) = true then
    some (8, m0)
  else
    if (decide (_append0.Kind > 2)) = true then
      some (8, m0)
    else
      if (_append0.Kind == 0) = true then
        if (decide ((_append0.Kids.length : Int) > 0)) = true then
          some (2, m0)
        else
          if (_append0.Kind != 0) = true then
            if (_append0.N != 0) = true then
              some (2, m0)
            else
              if (decide (_append0.N < 0)) = true then
                some (3, m0)
              else
                if (decide (_append0.N ≥ a1)) = true then
                  some (3, m0)
                else
                  if ((mGet m0 _append0.N).getD false) = true then
                    some (9, m0)
                  else
                    some (0, (mPut m0 _append0.N true))
          else
            if (decide (_append0.N < 0)) = true then
              some (3, m0)
            else
              if (decide (_append0.N ≥ a1)) = true then
                some (3, m0)
              else
                if ((mGet m0 _append0.N).getD false) = true then
                  some (9, m0)
                else
                  some (0, (mPut m0 _append0.N true))
      else
        if (_append0.Kind != 0) = true then
          if (_append0.N != 0) = true then
            some (2, m0)
          else
            if (decide ((_append0.Kids.length : Int) < 2)) = true then
              some (5, m0)
            else
              (slices_ContainsFunc_tree_Tree_c92 n _append0.Kids _append0).bind fun r15121 =>
              if r15121 = true then
                some (14, m0)
              else
                tree_Tree_check_J1 n _append0 a1 m0 (tree_Tree_check n)
        else
          if (decide ((_append0.Kids.length : Int) < 2)) = true then
            some (5, m0)
          else
            (slices_ContainsFunc_tree_Tree_c92 n _append0.Kids _append0).bind fun r15123 =>
            if r15123 = true then
              some (14, m0)
            else
              tree_Tree_check_J1 n _append0 a1 m0 (tree_Tree_check n)

def tree_Check (n : Nat) (t0 : TreeTree) (many1 : Int) : Option (Int) :=
  (tree_Tree_check n t0 many1 ([])).bind fun ⟨r15125, q15126⟩ =>
  if (r15125 == 0) = true then
    if (((q15126.length : Nat) : Int) != (imax 0 many1)) = true then
      some 4
    else
      some r15125
  else
    some r15125

def tree_Tree_depth_L1 (t0 : TreeTree) (edge1 : List Bool) (slf_tree_Tree_depth : TreeTree → (List Bool) → Option (Int)) : Nat → Int → Int → Option (Int)
  | 0, _, _ => none
  | rec_n1 + 1, p15137, p15138 =>
    if (decide (p15137 < (t0.Kids.length : Int))) = true then
      (atI t0.Kids p15137).bind fun x15147 =>
      if (p15137 == 0) = true then
        (slf_tree_Tree_depth x15147 edge1).bind fun r15149 =>
        (tree_Tree_depth_L1 t0 edge1 slf_tree_Tree_depth rec_n1) (IntKind.i64.wrap (p15137 + 1)) r15149
      else
        if (x15147.Kind != 0) = true then
          (slf_tree_Tree_depth x15147 edge1).bind fun r15151 =>
          (tree_Tree_depth_L1 t0 edge1 slf_tree_Tree_depth rec_n1) (IntKind.i64.wrap (p15137 + 1)) (imax p15138 (IntKind.i64.wrap (1 + r15151)))
        else
          (atI edge1 x15147.N).bind fun x15152 =>
          if x15152 = true then
            (slf_tree_Tree_depth x15147 edge1).bind fun r15154 =>
            (tree_Tree_depth_L1 t0 edge1 slf_tree_Tree_depth rec_n1) (IntKind.i64.wrap (p15137 + 1)) (imax p15138 (IntKind.i64.wrap (1 + r15154)))
          else
            (tree_Tree_depth_L1 t0 edge1 slf_tree_Tree_depth rec_n1) (IntKind.i64.wrap (p15137 + 1)) p15138
    else
      some p15138

def tree_Tree_depth : Nat → TreeTree → (List Bool) → Option (Int)
  | 0, _, _ => none
  | n + 1, t0, edge1 =>
  tree_Tree_depth_L1 t0 edge1 (tree_Tree_depth n) n 0 0

def tree_StackDepth (n : Nat) (t0 : TreeTree) (edge1 : List Bool) : Option (Int × Int) :=
  (tree_Check n t0 (edge1.length : Int)).bind fun r15128 =>
  if (r15128 != 0) = true then
    some (0, r15128)
  else
    (tree_Tree_depth n t0 edge1).bind fun r15156 =>
    some (r15156, 0)

def codegen_Tree_1 (n : Nat) (c0 : ApiContact) : Option (Bool) :=
  if (decide (c0.Kind < 0)) = true then
    some true
  else
    some (decide (c0.Kind ≥ 4))

def slices_IndexFunc_api_Contact_c47_L1 (n : Nat) (s0 : List ApiContact) : Nat → Int → Option (Int)
  | 0, _ => none
  | rec_n1 + 1, p15167 =>
    if (decide (p15167 < (s0.length : Int))) = true then
      (atI s0 p15167).bind fun x15171 =>
      (codegen_Tree_1 n x15171).bind fun r15173 =>
      if r15173 = true then
        some p15167
      else
        (slices_IndexFunc_api_Contact_c47_L1 n s0 rec_n1) (IntKind.i64.wrap (p15167 + 1))
    else
      some (-1)

def slices_IndexFunc_api_Contact_c47 (n : Nat) (s0 : List ApiContact) : Option (Int) :=
  slices_IndexFunc_api_Contact_c47_L1 n s0 n 0

def slices_ContainsFunc_api_Contact_c47 (n : Nat) (s0 : List ApiContact) : Option (Bool) :=
  (slices_IndexFunc_api_Contact_c47 n s0).bind fun r15175 =>
  some (decide (r15175 ≥ 0))

def codegen_maker_put_v1 (n : Nat) (x_1 : ApiIns) (b0 : Str) (b0_1 : List ApiContact) (b0_2 : List ApiCoil) (b0_3 : Str) (l1 : List Int) (l2 : List ApiIns) : Option ((List ApiIns)) :=
  if l2.length + ([x_1]).length ≤ 1000000000 then
    (some (l2 ++ ([x_1]))).bind fun l15278 =>
    some l15278
  else none

def codegen_maker_lay_v1_J2 (n : Nat) (a1 : TreeTree) (b0 : Str) (b0_1 : List ApiContact) (b0_2 : List ApiCoil) (b0_3 : Str) (l1 : List Int) (q15580 : List ApiIns) (p15581 : Int) (loop_1_codegen_maker_lay_v1 : (List ApiIns) → Int → Option ((List ApiIns))) (x15635 : TreeTree) (slf_codegen_maker_lay_v1 : TreeTree → Str → (List ApiContact) → (List ApiCoil) → Str → (List Int) → (List ApiIns) → Option ((List ApiIns))) : Option ((List ApiIns)) :=
  (codegen_maker_put_v1 n (⟨8, (⟨0, 0⟩ : ApiAddr), 0⟩ : ApiIns) b0 b0_1 b0_2 b0_3 l1 q15580).bind fun q15664 =>
  (slf_codegen_maker_lay_v1 x15635 b0 b0_1 b0_2 b0_3 l1 q15664).bind fun q15666 =>
  if a1.Kind = 0 then
    (codegen_maker_put_v1 n (⟨0, (⟨0, 0⟩ : ApiAddr), 0⟩ : ApiIns) b0 b0_1 b0_2 b0_3 l1 q15666).bind fun q15668 =>
    loop_1_codegen_maker_lay_v1 q15668 (IntKind.i64.wrap (p15581 + 1))
  else
    if a1.Kind = 1 then
      (codegen_maker_put_v1 n (⟨9, (⟨0, 0⟩ : ApiAddr), 0⟩ : ApiIns) b0 b0_1 b0_2 b0_3 l1 q15666).bind fun q15670 =>
      loop_1_codegen_maker_lay_v1 q15670 (IntKind.i64.wrap (p15581 + 1))
    else
      if a1.Kind = 2 then
        (codegen_maker_put_v1 n (⟨10, (⟨0, 0⟩ : ApiAddr), 0⟩ : ApiIns) b0 b0_1 b0_2 b0_3 l1 q15666).bind fun q15672 =>
        loop_1_codegen_maker_lay_v1 q15672 (IntKind.i64.wrap (p15581 + 1))
      else
        none

def codegen_maker_lay_v1_L1 (n : Nat) (a1 : TreeTree) (b0 : Str) (b0_1 : List ApiContact) (b0_2 : List ApiCoil) (b0_3 : Str) (l1 : List Int) (l15526 : List TreeTree) (slf_codegen_maker_lay_v1 : TreeTree → Str → (List ApiContact) → (List ApiCoil) → Str → (List Int) → (List ApiIns) → Option ((List ApiIns))) : Nat → (List ApiIns) → Int → Option ((List ApiIns))
  | 0, _, _ => none
  | rec_n1 + 1, q15580, p15581 =>
    if (decide (p15581 < (l15526.length : Int))) = true then
      (atI l15526 p15581).bind fun x15635 =>
      if (x15635.Kind == 0) = true then
        (atI b0_1 x15635.N).bind fun x15673 =>
        (codegen_sees n x15673).bind fun r15675 =>
        if (!r15675) = true then
          if a1.Kind = 0 then
            if x15673.Kind = 0 then
              (codegen_maker_put_v1 n (⟨0, x15673.A, 0⟩ : ApiIns) b0 b0_1 b0_2 b0_3 l1 q15580).bind fun q15677 =>
              (codegen_maker_lay_v1_L1 n a1 b0 b0_1 b0_2 b0_3 l1 l15526 slf_codegen_maker_lay_v1 rec_n1) q15677 (IntKind.i64.wrap (p15581 + 1))
            else
              if x15673.Kind = 1 then
                (codegen_maker_put_v1 n (⟨0, x15673.A, 0⟩ : ApiIns) b0 b0_1 b0_2 b0_3 l1 q15580).bind fun q15679 =>
                (codegen_maker_lay_v1_L1 n a1 b0 b0_1 b0_2 b0_3 l1 l15526 slf_codegen_maker_lay_v1 rec_n1) q15679 (IntKind.i64.wrap (p15581 + 1))
              else
                none
          else
            if a1.Kind = 1 then
              if x15673.Kind = 0 then
                (codegen_maker_put_v1 n (⟨2, x15673.A, 0⟩ : ApiIns) b0 b0_1 b0_2 b0_3 l1 q15580).bind fun q15681 =>
                (codegen_maker_lay_v1_L1 n a1 b0 b0_1 b0_2 b0_3 l1 l15526 slf_codegen_maker_lay_v1 rec_n1) q15681 (IntKind.i64.wrap (p15581 + 1))
              else
                if x15673.Kind = 1 then
                  (codegen_maker_put_v1 n (⟨3, x15673.A, 0⟩ : ApiIns) b0 b0_1 b0_2 b0_3 l1 q15580).bind fun q15683 =>
                  (codegen_maker_lay_v1_L1 n a1 b0 b0_1 b0_2 b0_3 l1 l15526 slf_codegen_maker_lay_v1 rec_n1) q15683 (IntKind.i64.wrap (p15581 + 1))
                else
                  none
            else
              if a1.Kind = 2 then
                if x15673.Kind = 0 then
                  (codegen_maker_put_v1 n (⟨4, x15673.A, 0⟩ : ApiIns) b0 b0_1 b0_2 b0_3 l1 q15580).bind fun q15685 =>
                  (codegen_maker_lay_v1_L1 n a1 b0 b0_1 b0_2 b0_3 l1 l15526 slf_codegen_maker_lay_v1 rec_n1) q15685 (IntKind.i64.wrap (p15581 + 1))
                else
                  if x15673.Kind = 1 then
                    (codegen_maker_put_v1 n (⟨5, x15673.A, 0⟩ : ApiIns) b0 b0_1 b0_2 b0_3 l1 q15580).bind fun q15687 =>
                    (codegen_maker_lay_v1_L1 n a1 b0 b0_1 b0_2 b0_3 l1 l15526 slf_codegen_maker_lay_v1 rec_n1) q15687 (IntKind.i64.wrap (p15581 + 1))
                  else
                    none
              else
                none
        else
          codegen_maker_lay_v1_J2 n a1 b0 b0_1 b0_2 b0_3 l1 q15580 p15581 (codegen_maker_lay_v1_L1 n a1 b0 b0_1 b0_2 b0_3 l1 l15526 slf_codegen_maker_lay_v1 rec_n1) x15635 slf_codegen_maker_lay_v1
      else
        codegen_maker_lay_v1_J2 n a1 b0 b0_1 b0_2 b0_3 l1 q15580 p15581 (codegen_maker_lay_v1_L1 n a1 b0 b0_1 b0_2 b0_3 l1 l15526 slf_codegen_maker_lay_v1 rec_n1) x15635 slf_codegen_maker_lay_v1
    else
      some q15580

def codegen_maker_lay_v1 : Nat → TreeTree → Str → (List ApiContact) → (List ApiCoil) → Str → (List Int) → (List ApiIns) → Option ((List ApiIns))
  | 0, _, _, _, _, _, _, _ => none
  | n + 1, a1, b0, b0_1, b0_2, b0_3, l1, l2 =>
  if (a1.Kind == 0) = true then
    (atI b0_1 a1.N).bind fun x15510 =>
    if x15510.Kind = 0 then
      (atI l1 a1.N).bind fun x15511 =>
      (codegen_maker_put_v1 n (⟨0, x15510.A, x15511⟩ : ApiIns) b0 b0_1 b0_2 b0_3 l1 l2).bind fun q15513 =>
      some q15513
    else
      if x15510.Kind = 1 then
        (atI l1 a1.N).bind fun x15514 =>
        (codegen_maker_put_v1 n (⟨1, x15510.A, x15514⟩ : ApiIns) b0 b0_1 b0_2 b0_3 l1 l2).bind fun q15516 =>
        some q15516
      else
        if x15510.Kind = 2 then
          (atI l1 a1.N).bind fun x15517 =>
          (codegen_maker_put_v1 n (⟨6, x15510.A, x15517⟩ : ApiIns) b0 b0_1 b0_2 b0_3 l1 l2).bind fun q15519 =>
          some q15519
        else
          if x15510.Kind = 3 then
            (atI l1 a1.N).bind fun x15520 =>
            (codegen_maker_put_v1 n (⟨7, x15510.A, x15520⟩ : ApiIns) b0 b0_1 b0_2 b0_3 l1 l2).bind fun q15522 =>
            some q15522
          else
            none
  else
    (atI a1.Kids 0).bind fun x15523 =>
    ((codegen_maker_lay_v1 n) x15523 b0 b0_1 b0_2 b0_3 l1 l2).bind fun q15525 =>
    if 0 ≤ 1 ∧ 1 ≤ (a1.Kids.length : Int) ∧ (a1.Kids.length : Int) ≤ (a1.Kids.length : Int) then
      (some (a1.Kids.drop 1)).bind fun l15526 =>
      codegen_maker_lay_v1_L1 n a1 b0 b0_1 b0_2 b0_3 l1 l15526 (codegen_maker_lay_v1 n) n q15525 0
    else none

def codegen_Tree_J1 (n : Nat) (r_0 : ApiRung) (t1 : TreeTree) (l15199 : List Int) : Option ((List ApiIns) × Int) :=
  (codegen_maker_lay_v1 n t1 r_0.Label r_0.Contacts r_0.Coils r_0.Jump l15199 ([] : List ApiIns)).bind fun q15689 =>
  some (q15689, 0)

def codegen_Tree_L2 (n : Nat) (r_0 : ApiRung) (t1 : TreeTree) : Nat → Int → Int → (List Int) → Option ((List ApiIns) × Int)
  | 0, _, _, _ => none
  | rec_n2 + 1, slot15695, p15696, l15697 =>
    if (decide (p15696 < (r_0.Contacts.length : Int))) = true then
      (atI r_0.Contacts p15696).bind fun x15703 =>
      (codegen_sees n x15703).bind fun r15705 =>
      if r15705 = true then
        (atI l15697 p15696).bind fun x15706 =>
        (some (l15697.set p15696.toNat slot15695)).bind fun l15707 =>
        (codegen_Tree_L2 n r_0 t1 rec_n2) (IntKind.i64.wrap (slot15695 + 1)) (IntKind.i64.wrap (p15696 + 1)) l15707
      else
        (codegen_Tree_L2 n r_0 t1 rec_n2) slot15695 (IntKind.i64.wrap (p15696 + 1)) l15697
    else
      codegen_Tree_J1 n r_0 t1 l15697

def codegen_Tree (n : Nat) (r_0 : ApiRung) (t1 : TreeTree) (slot2 : Int) : Option ((List ApiIns) × Int) :=
  (tree_Check n t1 (r_0.Contacts.length : Int)).bind fun r15163 =>
  if (r15163 != 0) = true then
    some ([], r15163)
  else
    (slices_ContainsFunc_api_Contact_c47 n r_0.Contacts).bind fun r15179 =>
    if r15179 = true then
      some ([], 8)
    else
      if (decide (slot2 < 0)) = true then
        some ([], 3)
      else
        if (decide (slot2 > 16384)) = true then
          some ([], 3)
        else
          if 0 ≤ (r_0.Contacts.length : Int) ∧ (r_0.Contacts.length : Int) ≤ (r_0.Contacts.length : Int) ∧ (r_0.Contacts.length : Int) ≤ 1000000000 then
            (some (List.replicate r_0.Contacts.length 0)).bind fun l15180 =>
            codegen_Tree_L2 n r_0 t1 n slot2 0 l15180
          else none

def codegen_contacts_J1 (n : Nat) (r_0 : ApiRung) (slot1 : Int) (r15023 : TreeTree) (l15043 : List Bool) : Option ((List ApiIns) × Int) :=
  (tree_StackDepth n r15023 l15043).bind fun ⟨r15158, r15159⟩ =>
  if (r15159 != 0) = true then
    some ([], r15159)
  else
    if (decide (r15158 > 64)) = true then
      some ([], 16)
    else
      (codegen_Tree n r_0 r15023 slot1).bind fun ⟨r15709, r15710⟩ =>
      some (r15709, r15710)

def codegen_contacts_L2 (n : Nat) (r_0 : ApiRung) (slot1 : Int) (r15023 : TreeTree) : Nat → Int → (List Bool) → Option ((List ApiIns) × Int)
  | 0, _, _ => none
  | rec_n2 + 1, p15716, l15717 =>
    if (decide (p15716 < (r_0.Contacts.length : Int))) = true then
      (atI r_0.Contacts p15716).bind fun x15723 =>
      (codegen_sees n x15723).bind fun r15725 =>
      (atI l15717 p15716).bind fun x15726 =>
      (some (l15717.set p15716.toNat r15725)).bind fun l15727 =>
      (codegen_contacts_L2 n r_0 slot1 r15023 rec_n2) (IntKind.i64.wrap (p15716 + 1)) l15727
    else
      codegen_contacts_J1 n r_0 slot1 r15023 l15717

def codegen_contacts (n : Nat) (r_0 : ApiRung) (slot1 : Int) : Option ((List ApiIns) × Int) :=
  (reduce_Reduce n r_0).bind fun ⟨r15023, r15024⟩ =>
  if (r15024 != 0) = true then
    some ([], r15024)
  else
    if 0 ≤ (r_0.Contacts.length : Int) ∧ (r_0.Contacts.length : Int) ≤ (r_0.Contacts.length : Int) ∧ (r_0.Contacts.length : Int) ≤ 1000000000 then
      (some (List.replicate r_0.Contacts.length false)).bind fun l15025 =>
      codegen_contacts_L2 n r_0 slot1 r15023 n 0 l15025
    else none

def codegen_Coils_L1 (r_0 : ApiRung) : Nat → Int → (List ApiIns) → Option ((List ApiIns) × Int)
  | 0, _, _ => none
  | rec_n1 + 1, p15740, p15741 =>
    if (decide (p15740 < (r_0.Coils.length : Int))) = true then
      (atI r_0.Coils p15740).bind fun x15747 =>
      if (decide (x15747.Kind < 0)) = true then
        some ([], 8)
      else
        if (decide (x15747.Kind ≥ 4)) = true then
          some ([], 8)
        else
          if x15747.Kind = 0 then
            if p15741.length + ([(⟨11, x15747.A, 0⟩ : ApiIns)]).length ≤ 1000000000 then
              (some (p15741 ++ ([(⟨11, x15747.A, 0⟩ : ApiIns)]))).bind fun l15748 =>
              (codegen_Coils_L1 r_0 rec_n1) (IntKind.i64.wrap (p15740 + 1)) l15748
            else none
          else
            if x15747.Kind = 1 then
              if p15741.length + ([(⟨12, x15747.A, 0⟩ : ApiIns)]).length ≤ 1000000000 then
                (some (p15741 ++ ([(⟨12, x15747.A, 0⟩ : ApiIns)]))).bind fun l15749 =>
                (codegen_Coils_L1 r_0 rec_n1) (IntKind.i64.wrap (p15740 + 1)) l15749
              else none
            else
              if x15747.Kind = 2 then
                if p15741.length + ([(⟨13, x15747.A, 0⟩ : ApiIns)]).length ≤ 1000000000 then
                  (some (p15741 ++ ([(⟨13, x15747.A, 0⟩ : ApiIns)]))).bind fun l15750 =>
                  (codegen_Coils_L1 r_0 rec_n1) (IntKind.i64.wrap (p15740 + 1)) l15750
                else none
              else
                if x15747.Kind = 3 then
                  if p15741.length + ([(⟨14, x15747.A, 0⟩ : ApiIns)]).length ≤ 1000000000 then
                    (some (p15741 ++ ([(⟨14, x15747.A, 0⟩ : ApiIns)]))).bind fun l15751 =>
                    (codegen_Coils_L1 r_0 rec_n1) (IntKind.i64.wrap (p15740 + 1)) l15751
                  else none
                else
                  none
    else
      some (p15741, 0)

def codegen_Coils (n : Nat) (r_0 : ApiRung) : Option ((List ApiIns) × Int) :=
  codegen_Coils_L1 r_0 n 0 ([])

def rungeval_sees (n : Nat) (c0 : ApiContact) : Option (Bool) :=
  if (c0.Kind == 2) = true then
    some true
  else
    some (c0.Kind == 3)

def rungeval_EdgeCount_L1 (n : Nat) (r_0 : ApiRung) : Nat → Int → Int → Option (Int)
  | 0, _, _ => none
  | rec_n1 + 1, p15759, p15760 =>
    if (decide (p15760 < (r_0.Contacts.length : Int))) = true then
      (atI r_0.Contacts p15760).bind fun x15764 =>
      (rungeval_sees n x15764).bind fun r15766 =>
      if r15766 = true then
        (rungeval_EdgeCount_L1 n r_0 rec_n1) (IntKind.i64.wrap (p15759 + 1)) (IntKind.i64.wrap (p15760 + 1))
      else
        (rungeval_EdgeCount_L1 n r_0 rec_n1) p15759 (IntKind.i64.wrap (p15760 + 1))
    else
      some p15759

def rungeval_EdgeCount (n : Nat) (r_0 : ApiRung) : Option (Int) :=
  rungeval_EdgeCount_L1 n r_0 n 0 0

def codegen_whole_J2 (_append0 : ApiLadder) (p15805 : Int) (p15806 : List ApiIns) (p15807 : List Int) : Option (ApiProgram × (List Int) × Int × Int) :=
  if p15807.length + ([(p15806.length : Int)]).length ≤ 1000000000 then
    (some (p15807 ++ ([(p15806.length : Int)]))).bind fun l15808 =>
    if p15806.length + ([(⟨16, (⟨0, 0⟩ : ApiAddr), 0⟩ : ApiIns)]).length ≤ 1000000000 then
      (some (p15806 ++ ([(⟨16, (⟨0, 0⟩ : ApiAddr), 0⟩ : ApiIns)]))).bind fun l15809 =>
      some ((⟨(⟨_append0.I, _append0.Q, _append0.M, p15805⟩ : ApiSize), l15809⟩ : ApiProgram), l15808, (_append0.Rungs.length : Int), 0)
    else none
  else none

def codegen_whole_L3 (_append0 : ApiLadder) (p15805 : Int) (p15806 : List ApiIns) (p15807 : List Int) : Nat → Option (ApiProgram × (List Int) × Int × Int)
  | 0 => none
  | rec_n3 + 1 =>
    codegen_whole_J2 _append0 p15805 p15806 p15807

def codegen_whole_J1 (n : Nat) (_append0 : ApiLadder) (p15803 : List (Str × Int)) (p15804 : List (Int × Str)) (p15805 : Int) (p15806 : List ApiIns) (p15807 : List Int) : Option (ApiProgram × (List Int) × Int × Int) :=
  if p15804 = [] then
    codegen_whole_L3 _append0 p15805 p15806 p15807 n 
  else none

def codegen_whole_L4 (n : Nat) (_append0 : ApiLadder) : Nat → (List (Str × Int)) → (List (Int × Str)) → Int → Int → (List ApiIns) → (List Int) → Option (ApiProgram × (List Int) × Int × Int)
  | 0, _, _, _, _, _, _ => none
  | rec_n4 + 1, p15822, p15823, p15824, p15825, p15826, p15827 =>
    if (decide (p15824 < (_append0.Rungs.length : Int))) = true then
      (atI _append0.Rungs p15824).bind fun x15841 =>
      (codegen_contacts n x15841 p15825).bind fun ⟨r15843, r15844⟩ =>
      if (r15844 != 0) = true then
        some ((⟨(⟨0, 0, 0, 0⟩ : ApiSize), []⟩ : ApiProgram), [], p15824, r15844)
      else
        (codegen_Coils n x15841).bind fun ⟨r15846, r15847⟩ =>
        if (r15847 != 0) = true then
          some ((⟨(⟨0, 0, 0, 0⟩ : ApiSize), []⟩ : ApiProgram), [], p15824, r15847)
        else
          if p15827.length + ([(p15826.length : Int)]).length ≤ 1000000000 then
            (some (p15827 ++ ([(p15826.length : Int)]))).bind fun l15848 =>
            (rungeval_EdgeCount n x15841).bind fun r15850 =>
            if p15826.length + r15843.length ≤ 1000000000 then
              (some (p15826 ++ r15843)).bind fun l15851 =>
              if l15851.length + r15846.length ≤ 1000000000 then
                (some (l15851 ++ r15846)).bind fun l15852 =>
                if (!(decide (x15841.Jump = (⟨#[]⟩ : Str)))) = true then
                  if l15852.length + ([(⟨15, (⟨0, 0⟩ : ApiAddr), 0⟩ : ApiIns)]).length ≤ 1000000000 then
                    (some (l15852 ++ ([(⟨15, (⟨0, 0⟩ : ApiAddr), 0⟩ : ApiIns)]))).bind fun l15853 =>
                    (codegen_whole_L4 n _append0 rec_n4) (mPut p15822 x15841.Label (p15826.length : Int)) (mPut p15823 (l15852.length : Int) x15841.Jump) (IntKind.i64.wrap (p15824 + 1)) (IntKind.i64.wrap (p15825 + r15850)) l15853 l15848
                  else none
                else
                  (codegen_whole_L4 n _append0 rec_n4) (mPut p15822 x15841.Label (p15826.length : Int)) p15823 (IntKind.i64.wrap (p15824 + 1)) (IntKind.i64.wrap (p15825 + r15850)) l15852 l15848
              else none
            else none
          else none
    else
      codegen_whole_J1 n _append0 p15822 p15823 p15825 p15826 p15827

def codegen_whole (n : Nat) (_append0 : ApiLadder) : Option (ApiProgram × (List Int) × Int × Int) :=
  (printer_Check n _append0).bind fun ⟨r10790, r10791⟩ =>
  if (r10791 != 0) = true then
    some ((⟨(⟨0, 0, 0, 0⟩ : ApiSize), []⟩ : ApiProgram), [], r10790, r10791)
  else
    codegen_whole_L4 n _append0 n ([]) ([]) 0 0 ([]) ([])

def codegen_Ladder (n : Nat) (l0 : ApiLadder) : Option (ApiProgram × Int × Int) :=
  (codegen_whole n l0).bind fun ⟨r15855, r15856, r15857, r15858⟩ =>
  some (r15855, r15857, r15858)

def slices_Equal_api_Ins_L1 (s10 : List ApiIns) (s21 : List ApiIns) : Nat → Int → Option (Bool)
  | 0, _ => none
  | rec_n1 + 1, p15866 =>
    if (decide (p15866 < (s10.length : Int))) = true then
      (atI s10 p15866).bind fun x15869 =>
      (atI s21 p15866).bind fun x15870 =>
      if (!((x15869.Op == x15870.Op) && ((x15869.A.Space == x15870.A.Space) && ((x15869.A.N == x15870.A.N) && (x15869.N == x15870.N))))) = true then
        some false
      else
        (slices_Equal_api_Ins_L1 s10 s21 rec_n1) (IntKind.i64.wrap (p15866 + 1))
    else
      some true

def slices_Equal_api_Ins (n : Nat) (s10 : List ApiIns) (s21 : List ApiIns) : Option (Bool) :=
  if ((s10.length : Int) != (s21.length : Int)) = true then
    some false
  else
    slices_Equal_api_Ins_L1 s10 s21 n 0

def law17_alive (n : Nat) : Option (Bool) :=
  (law17_example n ).bind fun r17 =>
  (some ([r17])).bind fun l18 =>
  (codegen_Ladder n (⟨2, 1, 0, l18⟩ : ApiLadder)).bind fun ⟨r15860, r15861, r15862⟩ =>
  if (r15862 == 0) = true then
    if (r15861 == 1) = true then
      (some ([(⟨0, (⟨0, 0⟩ : ApiAddr), 0⟩ : ApiIns), (⟨3, (⟨0, 1⟩ : ApiAddr), 0⟩ : ApiIns), (⟨11, (⟨1, 0⟩ : ApiAddr), 0⟩ : ApiIns), (⟨16, (⟨0, 0⟩ : ApiAddr), 0⟩ : ApiIns)])).bind fun l15863 =>
      (slices_Equal_api_Ins n r15860.Code l15863).bind fun r15872 =>
      some r15872
    else
      some false
  else
    some false

def law14_weight_L1 (t0 : TreeTree) (deep1 : Int) (slf_law14_weight : TreeTree → Int → Option (Int)) : Nat → Int → Int → Option (Int)
  | 0, _, _ => none
  | rec_n1 + 1, p15878, p15879 =>
    if (decide (p15878 < (t0.Kids.length : Int))) = true then
      (atI t0.Kids p15878).bind fun x15883 =>
      (slf_law14_weight x15883 (IntKind.i64.wrap (deep1 + 1))).bind fun r15885 =>
      if (decide ((IntKind.i64.wrap (p15879 + r15885)) > 1000)) = true then
        some 1001
      else
        (law14_weight_L1 t0 deep1 slf_law14_weight rec_n1) (IntKind.i64.wrap (p15878 + 1)) (IntKind.i64.wrap (p15879 + r15885))
    else
      some p15879

def law14_weight : Nat → TreeTree → Int → Option (Int)
  | 0, _, _ => none
  | n + 1, t0, deep1 =>
  if (decide (deep1 > 40)) = true then
    some 1001
  else
    law14_weight_L1 t0 deep1 (law14_weight n) n 0 1

def law14_TooLarge (n : Nat) (t0 : TreeTree) : Option (Int) :=
  (law14_weight n t0 0).bind fun r15887 =>
  if (decide (r15887 > 1000)) = true then
    some 1
  else
    some 0

def law14_Of_L1 (t0 : TreeTree) (slf_law14_Of : TreeTree → Option (Ref14Tree)) : Nat → Int → (List Ref14Tree) → Option (Ref14Tree)
  | 0, _, _ => none
  | rec_n1 + 1, p15919, p15920 =>
    if (decide (p15919 < (t0.Kids.length : Int))) = true then
      (atI t0.Kids p15919).bind fun x15925 =>
      (slf_law14_Of x15925).bind fun r15927 =>
      if p15920.length + ([r15927]).length ≤ 1000000000 then
        (some (p15920 ++ ([r15927]))).bind fun l15928 =>
        (law14_Of_L1 t0 slf_law14_Of rec_n1) (IntKind.i64.wrap (p15919 + 1)) l15928
      else none
    else
      some (⟨t0.Kind, t0.N, p15920⟩ : Ref14Tree)

def law14_Of : Nat → TreeTree → Option (Ref14Tree)
  | 0, _ => none
  | n + 1, t0 =>
  law14_Of_L1 t0 (law14_Of n) n 0 ([])

def ref14_check_v2_L1 (_append0 : Ref14Tree) (l0 : List Int) : Nat → Int → Option (Int × (List Int))
  | 0, _ => none
  | rec_n1 + 1, p16099 =>
    if (decide (p16099 < (l0.length : Int))) = true then
      (atI l0 p16099).bind fun x16104 =>
      if (x16104 == _append0.N) = true then
        some (9, l0)
      else
        (ref14_check_v2_L1 _append0 l0 rec_n1) (IntKind.i64.wrap (p16099 + 1))
    else
      if l0.length + ([_append0.N]).length ≤ 1000000000 then
        (some (l0 ++ ([_append0.N]))).bind fun l16105 =>
        some (0, l16105)
      else none

def ref14_check_v2_L3 (_append0 : Ref14Tree) (a1 : Int) (slf_ref14_check_v2 : Ref14Tree → Int → (List Int) → Option (Int × (List Int))) : Nat → Int → (List Int) → Option (Int × (List Int))
  | 0, _, _ => none
  | rec_n3 + 1, p16118, l16119 =>
    if (decide (p16118 < (_append0.Kids.length : Int))) = true then
      (atI _append0.Kids p16118).bind fun x16124 =>
      (slf_ref14_check_v2 x16124 a1 l16119).bind fun ⟨r16126, q16127⟩ =>
      if (r16126 != 0) = true then
        some (r16126, q16127)
      else
        (ref14_check_v2_L3 _append0 a1 slf_ref14_check_v2 rec_n3) (IntKind.i64.wrap (p16118 + 1)) q16127
    else
      some (0, l16119)

def ref14_check_v2_J2 (n : Nat) (_append0 : Ref14Tree) (a1 : Int) (l0 : List Int) (slf_ref14_check_v2 : Ref14Tree → Int → (List Int) → Option (Int × (List Int))) : Option (Int × (List Int)) :=
  ref14_check_v2_L3 _append0 a1 slf_ref14_check_v2 n 0 l0

def ref14_check_v2_L4 (n : Nat) (_append0 : Ref14Tree) (a1 : Int) (l0 : List Int) (slf_ref14_check_v2 : Ref14Tree → Int → (List Int) → Option (Int × (List Int))) : Nat → Int → Option (Int × (List Int))
  | 0, _ => none
  | rec_n4 + 1, p16129 =>
    if (decide (p16129 < (_append0.Kids.length : Int))) = true then
      (atI _append0.Kids p16129).bind fun x16131 =>
      if (x16131.Kind == _append0.Kind) = true then
        some (14, l0)
      else
        (ref14_check_v2_L4 n _append0 a1 l0 slf_ref14_check_v2 rec_n4) (IntKind.i64.wrap (p16129 + 1))
    else
      ref14_check_v2_J2 n _append0 a1 l0 slf_ref14_check_v2

def ref14_check_v2 : Nat → Ref14Tree → Int → (List Int) → Option (Int × (List Int))
  | 0, _, _, _ => none
  | n + 1, _append0, a1, l0 =>
  if (decide (_append0.Kind < 0)) = true then
    some (8, l0)
  else
    if (decide (_append0.Kind > 2)) = true then
      some (8, l0)
    else
      if (_append0.Kind == 0) = true then
        if (decide ((_append0.Kids.length : Int) > 0)) = true then
          some (2, l0)
        else
          if (decide (_append0.N < 0)) = true then
            some (3, l0)
          else
            if (decide (_append0.N ≥ a1)) = true then
              some (3, l0)
            else
              ref14_check_v2_L1 _append0 l0 n 0
      else
        if (_append0.N != 0) = true then
          some (2, l0)
        else
          if (decide ((_append0.Kids.length : Int) < 2)) = true then
            some (5, l0)
          else
            ref14_check_v2_L4 n _append0 a1 l0 (ref14_check_v2 n) n 0

def ref14_check_o1_v1_L1 (_append0 : Ref14Tree) (l0 : List Int) : Nat → Int → Option (Int × (List Int))
  | 0, _ => none
  | rec_n1 + 1, p16167 =>
    if (decide (p16167 < (l0.length : Int))) = true then
      (atI l0 p16167).bind fun x16172 =>
      if (x16172 == _append0.N) = true then
        some (9, l0)
      else
        (ref14_check_o1_v1_L1 _append0 l0 rec_n1) (IntKind.i64.wrap (p16167 + 1))
    else
      if l0.length + ([_append0.N]).length ≤ 1000000000 then
        (some (l0 ++ ([_append0.N]))).bind fun l16173 =>
        some (0, l16173)
      else none

def ref14_check_o1_v1_L3 (n : Nat) (_append0 : Ref14Tree) (a1 : Int) : Nat → Int → (List Int) → Option (Int × (List Int))
  | 0, _, _ => none
  | rec_n3 + 1, p16186, l16187 =>
    if (decide (p16186 < (_append0.Kids.length : Int))) = true then
      (atI _append0.Kids p16186).bind fun x16192 =>
      (ref14_check_v2 n x16192 a1 l16187).bind fun ⟨r16194, q16195⟩ =>
      if (r16194 != 0) = true then
        some (r16194, q16195)
      else
        (ref14_check_o1_v1_L3 n _append0 a1 rec_n3) (IntKind.i64.wrap (p16186 + 1)) q16195
    else
      some (0, l16187)

def ref14_check_o1_v1_J2 (n : Nat) (_append0 : Ref14Tree) (a1 : Int) (l0 : List Int) : Option (Int × (List Int)) :=
  ref14_check_o1_v1_L3 n _append0 a1 n 0 l0

def ref14_check_o1_v1_L4 (n : Nat) (_append0 : Ref14Tree) (a1 : Int) (l0 : List Int) : Nat → Int → Option (Int × (List Int))
  | 0, _ => none
  | rec_n4 + 1, p16197 =>
    if (decide (p16197 < (_append0.Kids.length : Int))) = true then
      (atI _append0.Kids p16197).bind fun x16199 =>
      if (x16199.Kind == _append0.Kind) = true then
        some (14, l0)
      else
        (ref14_check_o1_v1_L4 n _append0 a1 l0 rec_n4) (IntKind.i64.wrap (p16197 + 1))
    else
      ref14_check_o1_v1_J2 n _append0 a1 l0

def ref14_check_o1_v1 (n : Nat) (_append0 : Ref14Tree) (a1 : Int) (l0 : List Int) : Option (Int × (List Int)) :=
  if (decide (_append0.Kind < 0)) = true then
    some (8, l0)
  else
    if (decide (_append0.Kind > 2)) = true then
      some (8, l0)
    else
      if (_append0.Kind == 0) = true then
        if (decide ((_append0.Kids.length : Int) > 0)) = true then
          some (2, l0)
        else
          if (decide (_append0.N < 0)) = true then
            some (3, l0)
          else
            if (decide (_append0.N ≥ a1)) = true then
              some (3, l0)
            else
              ref14_check_o1_v1_L1 _append0 l0 n 0
      else
        if (_append0.N != 0) = true then
          some (2, l0)
        else
          if (decide ((_append0.Kids.length : Int) < 2)) = true then
            some (5, l0)
          else
            ref14_check_o1_v1_L4 n _append0 a1 l0 n 0

def ref14_check_o1_L1 (_append0 : Ref14Tree) : Nat → Option (Int × (List Int))
  | 0 => none
  | rec_n1 + 1 =>
    if (decide (0 < 0)) = true then
      none
    else
      if ([_append0.N]).length ≤ 1000000000 then
        (some ([_append0.N])).bind fun l15971 =>
        some (0, l15971)
      else none

def ref14_check_o1_L3 (n : Nat) (_append0 : Ref14Tree) (a1 : Int) : Nat → Int → (List Int) → Option (Int × (List Int))
  | 0, _, _ => none
  | rec_n3 + 1, p15980, p15981 =>
    if (decide (p15980 < (_append0.Kids.length : Int))) = true then
      (atI _append0.Kids p15980).bind fun x16203 =>
      (ref14_check_o1_v1 n x16203 a1 p15981).bind fun ⟨r16205, q16206⟩ =>
      if (r16205 != 0) = true then
        some (r16205, q16206)
      else
        (ref14_check_o1_L3 n _append0 a1 rec_n3) (IntKind.i64.wrap (p15980 + 1)) q16206
    else
      some (0, p15981)

def ref14_check_o1_J2 (n : Nat) (_append0 : Ref14Tree) (a1 : Int) : Option (Int × (List Int)) :=
  ref14_check_o1_L3 n _append0 a1 n 0 ([])

def ref14_check_o1_L4 (n : Nat) (_append0 : Ref14Tree) (a1 : Int) : Nat → Int → Option (Int × (List Int))
  | 0, _ => none
  | rec_n4 + 1, p16208 =>
    if (decide (p16208 < (_append0.Kids.length : Int))) = true then
      (atI _append0.Kids p16208).bind fun x16210 =>
      if (x16210.Kind == _append0.Kind) = true then
        some (14, [])
      else
        (ref14_check_o1_L4 n _append0 a1 rec_n4) (IntKind.i64.wrap (p16208 + 1))
    else
      ref14_check_o1_J2 n _append0 a1

def ref14_check_o1 : Nat → Ref14Tree → Int → Option (Int × (List Int))
  | 0, _, _ => none
  | n + 1, _append0, a1 =>
  if (decide (_append0.Kind < 0)) = true then
    some (8, [])
  else
    if (decide (_append0.Kind > 2)) = true then
      some (8, [])
    else
      if (_append0.Kind == 0) = true then
        if (decide ((_append0.Kids.length : Int) > 0)) = true then
          some (2, [])
        else
          if (decide (_append0.N < 0)) = true then
            some (3, [])
          else
            if (decide (_append0.N ≥ a1)) = true then
              some (3, [])
            else
              ref14_check_o1_L1 _append0 n 
      else
        if (_append0.N != 0) = true then
          some (2, [])
        else
          if (decide ((_append0.Kids.length : Int) < 2)) = true then
            some (5, [])
          else
            ref14_check_o1_L4 n _append0 a1 n 0

def ref14_check_v1_L1 (_append0 : Ref14Tree) : Nat → Option (Int × (List Int))
  | 0 => none
  | rec_n1 + 1 =>
    if (decide (0 < 0)) = true then
      none
    else
      if ([_append0.N]).length ≤ 1000000000 then
        some (0, [_append0.N])
      else none

def ref14_check_v1_L3 (n : Nat) (_append0 : Ref14Tree) (a1 : Int) : Nat → Int → (List Int) → Option (Int × (List Int))
  | 0, _, _ => none
  | rec_n3 + 1, p16214, p16215 =>
    if (decide (p16214 < (_append0.Kids.length : Int))) = true then
      (atI _append0.Kids p16214).bind fun x16220 =>
      (ref14_check_o1_v1 n x16220 a1 p16215).bind fun ⟨r16222, q16223⟩ =>
      if (r16222 != 0) = true then
        some (r16222, q16223)
      else
        (ref14_check_v1_L3 n _append0 a1 rec_n3) (IntKind.i64.wrap (p16214 + 1)) q16223
    else
      some (0, p16215)

def ref14_check_v1_J2 (n : Nat) (_append0 : Ref14Tree) (a1 : Int) : Option (Int × (List Int)) :=
  ref14_check_v1_L3 n _append0 a1 n 0 ([])

def ref14_check_v1_L4 (n : Nat) (_append0 : Ref14Tree) (a1 : Int) : Nat → Int → Option (Int × (List Int))
  | 0, _ => none
  | rec_n4 + 1, p16225 =>
    if (decide (p16225 < (_append0.Kids.length : Int))) = true then
      (atI _append0.Kids p16225).bind fun x16227 =>
      if (x16227.Kind == _append0.Kind) = true then
        some (14, [])
      else
        (ref14_check_v1_L4 n _append0 a1 rec_n4) (IntKind.i64.wrap (p16225 + 1))
    else
      ref14_check_v1_J2 n _append0 a1

def ref14_check_v1 : Nat → Ref14Tree → Int → Option (Int × (List Int))
  | 0, _, _ => none
  | n + 1, _append0, a1 =>
  if (decide (_append0.Kind < 0)) = true then
    some (8, [])
  else
    if (decide (_append0.Kind > 2)) = true then
      some (8, [])
    else
      if (_append0.Kind == 0) = true then
        if (decide ((_append0.Kids.length : Int) > 0)) = true then
          some (2, [])
        else
          if (decide (_append0.N < 0)) = true then
            some (3, [])
          else
            if (decide (_append0.N ≥ a1)) = true then
              some (3, [])
            else
              ref14_check_v1_L1 _append0 n 
      else
        if (_append0.N != 0) = true then
          some (2, [])
        else
          if (decide ((_append0.Kids.length : Int) < 2)) = true then
            some (5, [])
          else
            ref14_check_v1_L4 n _append0 a1 n 0

def ref14_Check_J1 (n : Nat) (t0 : Ref14Tree) (p15931 : Int) : Option (Int) :=
  (ref14_check_v1 n t0 p15931).bind fun ⟨r16229, r16230⟩ =>
  if (r16229 != 0) = true then
    some r16229
  else
    if ((r16230.length : Int) != p15931) = true then
      some 4
    else
      some 0

def ref14_Check (n : Nat) (t0 : Ref14Tree) (many1 : Int) : Option (Int) :=
  if (decide (many1 < 0)) = true then
    ref14_Check_J1 n t0 0
  else
    ref14_Check_J1 n t0 many1

def ref17_slotOf_L1 (r_0 : ApiRung) (i_1 : Int) : Nat → Int → Int → Option (Int)
  | 0, _, _ => none
  | rec_n1 + 1, slot16377, p16378 =>
    if (decide (p16378 < i_1)) = true then
      (atI r_0.Contacts p16378).bind fun x16380 =>
      if (decide (x16380.Kind ≥ 2)) = true then
        (ref17_slotOf_L1 r_0 i_1 rec_n1) (IntKind.i64.wrap (slot16377 + 1)) (IntKind.i64.wrap (p16378 + 1))
      else
        (ref17_slotOf_L1 r_0 i_1 rec_n1) slot16377 (IntKind.i64.wrap (p16378 + 1))
    else
      some slot16377

def ref17_slotOf (n : Nat) (r_0 : ApiRung) (i_1 : Int) (slot2 : Int) : Option (Int) :=
  ref17_slotOf_L1 r_0 i_1 n slot2 0

def ref17_load (n : Nat) (r_0 : ApiRung) (i_1 : Int) (slot2 : Int) : Option (ApiIns) :=
  (atI r_0.Contacts i_1).bind fun x16375 =>
  if (decide (x16375.Kind < 2)) = true then
    some (⟨x16375.Kind, x16375.A, 0⟩ : ApiIns)
  else
    (ref17_slotOf n r_0 i_1 slot2).bind fun r16382 =>
    some (⟨(IntKind.i64.wrap (4 + x16375.Kind)), x16375.A, r16382⟩ : ApiIns)

def ref17_lay_o0_J2 (_append0 : ApiRung) (a1 : Ref14Tree) (a2 : Int) (r16444 : List ApiIns) (p16445 : Int) (loop_1_ref17_lay_o0 : (List ApiIns) → Int → Option ((List ApiIns))) (x16468 : Ref14Tree) (slf_ref17_lay : ApiRung → Ref14Tree → Int → Option ((List ApiIns))) : Option ((List ApiIns)) :=
  if r16444.length + ([(⟨8, (⟨0, 0⟩ : ApiAddr), 0⟩ : ApiIns)]).length ≤ 1000000000 then
    (some (r16444 ++ ([(⟨8, (⟨0, 0⟩ : ApiAddr), 0⟩ : ApiIns)]))).bind fun l16483 =>
    (slf_ref17_lay _append0 x16468 a2).bind fun r16485 =>
    if l16483.length + r16485.length ≤ 1000000000 then
      (some (l16483 ++ r16485)).bind fun l16486 =>
      if l16486.length + ([(⟨(IntKind.i64.wrap (8 + a1.Kind)), (⟨0, 0⟩ : ApiAddr), 0⟩ : ApiIns)]).length ≤ 1000000000 then
        (some (l16486 ++ ([(⟨(IntKind.i64.wrap (8 + a1.Kind)), (⟨0, 0⟩ : ApiAddr), 0⟩ : ApiIns)]))).bind fun l16487 =>
        loop_1_ref17_lay_o0 l16487 (IntKind.i64.wrap (p16445 + 1))
      else none
    else none
  else none

def ref17_lay_o0_L1 (_append0 : ApiRung) (a1 : Ref14Tree) (a2 : Int) (slf_ref17_lay : ApiRung → Ref14Tree → Int → Option ((List ApiIns))) : Nat → (List ApiIns) → Int → Option ((List ApiIns))
  | 0, _, _ => none
  | rec_n1 + 1, r16444, p16445 =>
    if (decide (p16445 < (a1.Kids.length : Int))) = true then
      (atI a1.Kids p16445).bind fun x16468 =>
      if (x16468.Kind == 0) = true then
        (atI _append0.Contacts x16468.N).bind fun x16488 =>
        if (decide (x16488.Kind < 2)) = true then
          if r16444.length + ([(⟨(IntKind.i64.wrap ((IntKind.i64.wrap (2 * a1.Kind)) + x16488.Kind)), x16488.A, 0⟩ : ApiIns)]).length ≤ 1000000000 then
            (some (r16444 ++ ([(⟨(IntKind.i64.wrap ((IntKind.i64.wrap (2 * a1.Kind)) + x16488.Kind)), x16488.A, 0⟩ : ApiIns)]))).bind fun l16489 =>
            (ref17_lay_o0_L1 _append0 a1 a2 slf_ref17_lay rec_n1) l16489 (IntKind.i64.wrap (p16445 + 1))
          else none
        else
          ref17_lay_o0_J2 _append0 a1 a2 r16444 p16445 (ref17_lay_o0_L1 _append0 a1 a2 slf_ref17_lay rec_n1) x16468 slf_ref17_lay
      else
        ref17_lay_o0_J2 _append0 a1 a2 r16444 p16445 (ref17_lay_o0_L1 _append0 a1 a2 slf_ref17_lay rec_n1) x16468 slf_ref17_lay
    else
      some r16444

def ref17_lay_o0 (slf_ref17_lay : ApiRung → Ref14Tree → Int → Option ((List ApiIns))) : Nat → ApiRung → Ref14Tree → Int → Option ((List ApiIns))
  | 0, _, _, _ => none
  | n + 1, _append0, a1, a2 =>
  if (a1.Kind == 0) = true then
    (ref17_load n _append0 a1.N a2).bind fun r16417 =>
    (some ([r16417])).bind fun l16418 =>
    some l16418
  else
    (atI a1.Kids 0).bind fun x16419 =>
    ((ref17_lay_o0 slf_ref17_lay n) _append0 x16419 a2).bind fun r16421 =>
    ref17_lay_o0_L1 _append0 a1 a2 slf_ref17_lay n r16421 1

def ref17_lay_J2 (_append0 : ApiRung) (a1 : Ref14Tree) (a2 : Int) (r16514 : List ApiIns) (p16515 : Int) (loop_1_ref17_lay : (List ApiIns) → Int → Option ((List ApiIns))) (x16538 : Ref14Tree) (slf_ref17_lay : ApiRung → Ref14Tree → Int → Option ((List ApiIns))) : Option ((List ApiIns)) :=
  if r16514.length + ([(⟨8, (⟨0, 0⟩ : ApiAddr), 0⟩ : ApiIns)]).length ≤ 1000000000 then
    (some (r16514 ++ ([(⟨8, (⟨0, 0⟩ : ApiAddr), 0⟩ : ApiIns)]))).bind fun l16553 =>
    (slf_ref17_lay _append0 x16538 a2).bind fun r16555 =>
    if l16553.length + r16555.length ≤ 1000000000 then
      (some (l16553 ++ r16555)).bind fun l16556 =>
      if l16556.length + ([(⟨(IntKind.i64.wrap (8 + a1.Kind)), (⟨0, 0⟩ : ApiAddr), 0⟩ : ApiIns)]).length ≤ 1000000000 then
        (some (l16556 ++ ([(⟨(IntKind.i64.wrap (8 + a1.Kind)), (⟨0, 0⟩ : ApiAddr), 0⟩ : ApiIns)]))).bind fun l16557 =>
        loop_1_ref17_lay l16557 (IntKind.i64.wrap (p16515 + 1))
      else none
    else none
  else none

def ref17_lay_L1 (_append0 : ApiRung) (a1 : Ref14Tree) (a2 : Int) (slf_ref17_lay : ApiRung → Ref14Tree → Int → Option ((List ApiIns))) : Nat → (List ApiIns) → Int → Option ((List ApiIns))
  | 0, _, _ => none
  | rec_n1 + 1, r16514, p16515 =>
    if (decide (p16515 < (a1.Kids.length : Int))) = true then
      (atI a1.Kids p16515).bind fun x16538 =>
      if (x16538.Kind == 0) = true then
        (atI _append0.Contacts x16538.N).bind fun x16558 =>
        if (decide (x16558.Kind < 2)) = true then
          if r16514.length + ([(⟨(IntKind.i64.wrap ((IntKind.i64.wrap (2 * a1.Kind)) + x16558.Kind)), x16558.A, 0⟩ : ApiIns)]).length ≤ 1000000000 then
            (some (r16514 ++ ([(⟨(IntKind.i64.wrap ((IntKind.i64.wrap (2 * a1.Kind)) + x16558.Kind)), x16558.A, 0⟩ : ApiIns)]))).bind fun l16559 =>
            (ref17_lay_L1 _append0 a1 a2 slf_ref17_lay rec_n1) l16559 (IntKind.i64.wrap (p16515 + 1))
          else none
        else
          ref17_lay_J2 _append0 a1 a2 r16514 p16515 (ref17_lay_L1 _append0 a1 a2 slf_ref17_lay rec_n1) x16538 slf_ref17_lay
      else
        ref17_lay_J2 _append0 a1 a2 r16514 p16515 (ref17_lay_L1 _append0 a1 a2 slf_ref17_lay rec_n1) x16538 slf_ref17_lay
    else
      some r16514

def ref17_lay : Nat → ApiRung → Ref14Tree → Int → Option ((List ApiIns))
  | 0, _, _, _ => none
  | n + 1, _append0, a1, a2 =>
  if (a1.Kind == 0) = true then
    (ref17_load n _append0 a1.N a2).bind fun r16387 =>
    (some ([r16387])).bind fun l16388 =>
    some l16388
  else
    (atI a1.Kids 0).bind fun x16389 =>
    (ref17_lay_o0 (ref17_lay n) n _append0 x16389 a2).bind fun r16491 =>
    ref17_lay_L1 _append0 a1 a2 (ref17_lay n) n r16491 1

def ref17_Tree_J1 (n : Nat) (r_0 : ApiRung) (t1 : Ref14Tree) (slot2 : Int) : Option ((List ApiIns) × Int) :=
  if (decide (slot2 < 0)) = true then
    some ([], 3)
  else
    if (decide (slot2 > 16384)) = true then
      some ([], 3)
    else
      (ref17_lay n r_0 t1 slot2).bind fun r16561 =>
      some (r16561, 0)

def ref17_Tree_L2 (n : Nat) (r_0 : ApiRung) (t1 : Ref14Tree) (slot2 : Int) : Nat → Int → Option ((List ApiIns) × Int)
  | 0, _ => none
  | rec_n2 + 1, p16563 =>
    if (decide (p16563 < (r_0.Contacts.length : Int))) = true then
      (atI r_0.Contacts p16563).bind fun x16565 =>
      if (decide (x16565.Kind < 0)) = true then
        some ([], 8)
      else
        if (decide (x16565.Kind > 3)) = true then
          some ([], 8)
        else
          (ref17_Tree_L2 n r_0 t1 slot2 rec_n2) (IntKind.i64.wrap (p16563 + 1))
    else
      ref17_Tree_J1 n r_0 t1 slot2

def ref17_Tree (n : Nat) (r_0 : ApiRung) (t1 : Ref14Tree) (slot2 : Int) : Option ((List ApiIns) × Int) :=
  (ref14_Check n t1 (r_0.Contacts.length : Int)).bind fun r16232 =>
  if (r16232 != 0) = true then
    some ([], r16232)
  else
    ref17_Tree_L2 n r_0 t1 slot2 n 0

def ref17_Coils_L1 (r_0 : ApiRung) : Nat → (List ApiIns) → Int → Option ((List ApiIns) × Int)
  | 0, _, _ => none
  | rec_n1 + 1, p16581, p16582 =>
    if (decide (p16582 < (r_0.Coils.length : Int))) = true then
      (atI r_0.Coils p16582).bind fun x16587 =>
      if (decide (x16587.Kind < 0)) = true then
        some ([], 8)
      else
        if (decide (x16587.Kind > 3)) = true then
          some ([], 8)
        else
          if p16581.length + ([(⟨(IntKind.i64.wrap (11 + x16587.Kind)), x16587.A, 0⟩ : ApiIns)]).length ≤ 1000000000 then
            (some (p16581 ++ ([(⟨(IntKind.i64.wrap (11 + x16587.Kind)), x16587.A, 0⟩ : ApiIns)]))).bind fun l16588 =>
            (ref17_Coils_L1 r_0 rec_n1) l16588 (IntKind.i64.wrap (p16582 + 1))
          else none
    else
      some (p16581, 0)

def ref17_Coils (n : Nat) (r_0 : ApiRung) : Option ((List ApiIns) × Int) :=
  ref17_Coils_L1 r_0 n ([]) 0

def law17_CodegenTreeMatchesReference (n : Nat) (_append0 : ApiRung) (a1 : TreeTree) (a2 : Int) : Option (Bool) :=
  (law12_TooLarge n _append0).bind fun r15895 =>
  if (decide (r15895 > 0)) = true then
    (law17_alive n ).bind fun r15897 =>
    some r15897
  else
    (law14_TooLarge n a1).bind fun r15899 =>
    if (decide (r15899 > 0)) = true then
      (law17_alive n ).bind fun r15901 =>
      some r15901
    else
      if (decide ((_append0.Coils.length : Int) > 100)) = true then
        (law17_alive n ).bind fun r15903 =>
        some r15903
      else
        (codegen_Tree n _append0 a1 a2).bind fun ⟨r15905, r15906⟩ =>
        (law14_Of n a1).bind fun r15930 =>
        (ref17_Tree n _append0 r15930 a2).bind fun ⟨r16567, r16568⟩ =>
        (codegen_Coils n _append0).bind fun ⟨r16570, r16571⟩ =>
        (ref17_Coils n _append0).bind fun ⟨r16590, r16591⟩ =>
        (law17_alive n ).bind fun r16593 =>
        if r16593 = true then
          (slices_Equal_api_Ins n r15905 r16567).bind fun r16595 =>
          if r16595 = true then
            if (r15906 == r16568) = true then
              (slices_Equal_api_Ins n r16570 r16590).bind fun r16597 =>
              if r16597 = true then
                some (r16571 == r16591)
              else
                some false
            else
              some false
          else
            some false
        else
          some false

end Go.G
