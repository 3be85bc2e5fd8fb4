/- Models of functions of the program. -/
import Derived.Test.YtaebdeidbibfkaaDoorHGTy
set_option linter.unusedSimpArgs false
set_option linter.unusedVariables false
set_option linter.unusedSectionVars false
namespace Go.G
open Go.Av
def law12_TooLarge_J1 (r_0 : ApiRung) (p6 : Int) : Option (Int) :=
  if (decide (p6 > 2000)) = true then
    some 1
  else
    if (decide ((r_0.Contacts.length : Int) > 60)) = true then
      some 1
    else
      some 0

def law12_TooLarge_L2 (r_0 : ApiRung) : Nat → Int → Int → Option (Int)
  | 0, _, _ => none
  | rec_n2 + 1, p8, p9 =>
    if (decide (p9 < (r_0.Contacts.length : Int))) = true then
      (atI r_0.Contacts p9).bind fun x11 =>
      (law12_TooLarge_L2 r_0 rec_n2) (IntKind.i64.wrap (p8 + (IntKind.i64.wrap ((IntKind.i64.wrap (1 + (x11.From.size : Int))) + (x11.To.size : Int))))) (IntKind.i64.wrap (p9 + 1))
    else
      law12_TooLarge_J1 r_0 p8

def law12_TooLarge (n : Nat) (r_0 : ApiRung) : Option (Int) :=
  law12_TooLarge_L2 r_0 n 0 0

def law17_example (n : Nat) : Option (ApiRung) :=
  (some ([(⟨0, (⟨0, 0⟩ : ApiAddr), (⟨#[76]⟩ : Str), (⟨#[97]⟩ : Str)⟩ : ApiContact), (⟨1, (⟨0, 1⟩ : ApiAddr), (⟨#[97]⟩ : Str), (⟨#[82]⟩ : Str)⟩ : ApiContact)])).bind fun l14 =>
  (some ([(⟨0, (⟨1, 0⟩ : ApiAddr)⟩ : ApiCoil)])).bind fun l15 =>
  some (⟨(⟨#[]⟩ : Str), l14, l15, (⟨#[]⟩ : Str)⟩ : ApiRung)

def printer_sizes (n : Nat) (l0 : ApiLadder) : Option (ApiSize) :=
  some (⟨l0.I, l0.Q, l0.M, 0⟩ : ApiSize)

def addr_within (n : Nat) (n_0 : Int) (most1 : Int) : Option (Bool) :=
  if (decide (n_0 ≥ 0)) = true then
    some (decide (n_0 ≤ most1))
  else
    some false

def addr_CheckSize (n : Nat) (s0 : ApiSize) : Option (Int) :=
  (addr_within n s0.E 16384).bind fun r10681 =>
  if (!r10681) = true then
    some 3
  else
    (addr_within n s0.I 256).bind fun r10683 =>
    if (!r10683) = true then
      some 3
    else
      (addr_within n s0.Q 256).bind fun r10685 =>
      if (!r10685) = true then
        some 3
      else
        (addr_within n s0.M 256).bind fun r10687 =>
        if (!r10687) = true then
          some 3
        else
          some 0

def lex_letter (n : Nat) (c0 : Int) : Option (Bool) :=
  if (decide (c0 ≥ 97)) = true then
    if (decide (c0 ≤ 122)) = true then
      some true
    else
      if (decide (c0 ≥ 65)) = true then
        some (decide (c0 ≤ 90))
      else
        some false
  else
    if (decide (c0 ≥ 65)) = true then
      some (decide (c0 ≤ 90))
    else
      some false

def lex_IsName_L1 (n : Nat) (word0 : Str) : Nat → Nat → Option (Bool)
  | 0, _ => none
  | rec_n1 + 1, p10696 =>
    if (decide (p10696 < word0.size)) = true then
      (lex_letter n (((Utf8.decode word0 p10696).1 : Nat) : Int)).bind fun r10700 =>
      if (!r10700) = true then
        if ((p10696 : Int) == 0) = true then
          some false
        else
          if ((((Utf8.decode word0 p10696).1 : Nat) : Int) != 95) = true then
            if (decide ((((Utf8.decode word0 p10696).1 : Nat) : Int) < 48)) = true then
              some false
            else
              if (decide ((((Utf8.decode word0 p10696).1 : Nat) : Int) > 57)) = true then
                some false
              else
                (lex_IsName_L1 n word0 rec_n1) (p10696 + (Utf8.decode word0 p10696).2)
          else
            (lex_IsName_L1 n word0 rec_n1) (p10696 + (Utf8.decode word0 p10696).2)
      else
        (lex_IsName_L1 n word0 rec_n1) (p10696 + (Utf8.decode word0 p10696).2)
    else
      some true

def lex_IsName (n : Nat) (word0 : Str) : Option (Bool) :=
  if (decide (word0 = (⟨#[]⟩ : Str))) = true then
    some false
  else
    if (decide ((word0.size : Int) > 16)) = true then
      some false
    else
      lex_IsName_L1 n word0 n 0

def printer_rung_1 (n : Nat) (x_0 : ApiRung) (b0 : ApiRung) : Option (Bool) :=
  some (decide (x_0.Label = b0.Label))

def slices_IndexFunc_api_Rung_c117_L1 (n : Nat) (s0 : List ApiRung) (b0 : ApiRung) : Nat → Int → Option (Int)
  | 0, _ => none
  | rec_n1 + 1, p10716 =>
    if (decide (p10716 < (s0.length : Int))) = true then
      (atI s0 p10716).bind fun x10720 =>
      (printer_rung_1 n x10720 b0).bind fun r10722 =>
      if r10722 = true then
        some p10716
      else
        (slices_IndexFunc_api_Rung_c117_L1 n s0 b0 rec_n1) (IntKind.i64.wrap (p10716 + 1))
    else
      some (-1)

def slices_IndexFunc_api_Rung_c117 (n : Nat) (s0 : List ApiRung) (b0 : ApiRung) : Option (Int) :=
  slices_IndexFunc_api_Rung_c117_L1 n s0 b0 n 0

def slices_ContainsFunc_api_Rung_c117 (n : Nat) (s0 : List ApiRung) (b0 : ApiRung) : Option (Bool) :=
  (slices_IndexFunc_api_Rung_c117 n s0 b0).bind fun r10726 =>
  some (decide (r10726 ≥ 0))

def addr_Width (n : Nat) (s0 : ApiSize) (space1 : Int) : Option (Int) :=
  if (space1 == 0) = true then
    some s0.I
  else
    if (space1 == 1) = true then
      some s0.Q
    else
      if (space1 == 2) = true then
        some s0.M
      else
        some 0

def addr_CheckAddr (n : Nat) (s0 : ApiSize) (a1 : ApiAddr) : Option (Int) :=
  (addr_within n a1.Space 2).bind fun r10731 =>
  if (!r10731) = true then
    some 8
  else
    (addr_Width n s0 a1.Space).bind fun r10733 =>
    (addr_within n a1.N (IntKind.i64.wrap (r10733 - 1))).bind fun r10735 =>
    if (!r10735) = true then
      some 3
    else
      some 0

def printer_part (n : Nat) (s0 : ApiSize) (kind1 : Int) (a2 : ApiAddr) : Option (Int) :=
  if (decide (kind1 < 0)) = true then
    some 8
  else
    if (decide (kind1 ≥ 4)) = true then
      some 8
    else
      (addr_CheckAddr n s0 a2).bind fun r10737 =>
      some r10737

def printer_rung_J3 (n : Nat) (a2 : ApiRung) : Option (Int) :=
  if (!(decide (a2.Jump = (⟨#[]⟩ : Str)))) = true then
    (lex_IsName n a2.Jump).bind fun r10776 =>
    if (!r10776) = true then
      some 6
    else
      some 0
  else
    some 0

def printer_rung_L4 (n : Nat) (_append0 : ApiSize) (a2 : ApiRung) : Nat → Int → Option (Int)
  | 0, _ => none
  | rec_n4 + 1, p10780 =>
    if (decide (p10780 < (a2.Coils.length : Int))) = true then
      (atI a2.Coils p10780).bind fun x10784 =>
      (printer_part n _append0 x10784.Kind x10784.A).bind fun r10786 =>
      if (r10786 != 0) = true then
        some r10786
      else
        if (x10784.A.Space == 0) = true then
          some 2
        else
          (printer_rung_L4 n _append0 a2 rec_n4) (IntKind.i64.wrap (p10780 + 1))
    else
      printer_rung_J3 n a2

def printer_rung_J2 (n : Nat) (_append0 : ApiSize) (a2 : ApiRung) : Option (Int) :=
  if (decide ((a2.Coils.length : Int) > 16)) = true then
    some 10
  else
    printer_rung_L4 n _append0 a2 n 0

def printer_rung_L5 (n : Nat) (_append0 : ApiSize) (a2 : ApiRung) : Nat → Int → Option (Int)
  | 0, _ => none
  | rec_n5 + 1, p10796 =>
    if (decide (p10796 < (a2.Contacts.length : Int))) = true then
      (atI a2.Contacts p10796).bind fun x10806 =>
      (printer_part n _append0 x10806.Kind x10806.A).bind fun r10810 =>
      if (r10810 != 0) = true then
        some r10810
      else
        (lex_IsName n x10806.From).bind fun r10812 =>
        if (!r10812) = true then
          some 6
        else
          (lex_IsName n x10806.To).bind fun r10814 =>
          if (!r10814) = true then
            some 6
          else
            (printer_rung_L5 n _append0 a2 rec_n5) (IntKind.i64.wrap (p10796 + 1))
    else
      printer_rung_J2 n _append0 a2

def printer_rung_J1 (n : Nat) (_append0 : ApiSize) (a2 : ApiRung) : Option (Int) :=
  if (decide ((a2.Contacts.length : Int) > 256)) = true then
    some 10
  else
    printer_rung_L5 n _append0 a2 n 0

def printer_rung (n : Nat) (_append0 : ApiSize) (a1 : List ApiRung) (a2 : ApiRung) : Option (Int) :=
  if (!(decide (a2.Label = (⟨#[]⟩ : Str)))) = true then
    (lex_IsName n a2.Label).bind fun r10816 =>
    if (!r10816) = true then
      some 6
    else
      (slices_ContainsFunc_api_Rung_c117 n a1 a2).bind fun r10818 =>
      if r10818 = true then
        some 9
      else
        printer_rung_J1 n _append0 a2
  else
    printer_rung_J1 n _append0 a2

def printer_Check_1 (n : Nat) (x_0 : ApiRung) (b0 : ApiRung) : Option (Bool) :=
  some (decide (x_0.Label = b0.Jump))

def slices_IndexFunc_api_Rung_c90_L1 (n : Nat) (s0 : List ApiRung) (b0 : ApiRung) : Nat → Int → Option (Int)
  | 0, _ => none
  | rec_n1 + 1, p10845 =>
    if (decide (p10845 < (s0.length : Int))) = true then
      (atI s0 p10845).bind fun x10849 =>
      (printer_Check_1 n x10849 b0).bind fun r10851 =>
      if r10851 = true then
        some p10845
      else
        (slices_IndexFunc_api_Rung_c90_L1 n s0 b0 rec_n1) (IntKind.i64.wrap (p10845 + 1))
    else
      some (-1)

def slices_IndexFunc_api_Rung_c90 (n : Nat) (s0 : List ApiRung) (b0 : ApiRung) : Option (Int) :=
  slices_IndexFunc_api_Rung_c90_L1 n s0 b0 n 0

def slices_ContainsFunc_api_Rung_c90 (n : Nat) (s0 : List ApiRung) (b0 : ApiRung) : Option (Bool) :=
  (slices_IndexFunc_api_Rung_c90 n s0 b0).bind fun r10855 =>
  some (decide (r10855 ≥ 0))

def printer_Check_L2 (n : Nat) (_append0 : ApiLadder) : Nat → Int → Option (Int × Int)
  | 0, _ => none
  | rec_n2 + 1, p10858 =>
    if (decide (p10858 < (_append0.Rungs.length : Int))) = true then
      (atI _append0.Rungs p10858).bind fun x10863 =>
      if (!(decide (x10863.Jump = (⟨#[]⟩ : Str)))) = true then
        if 0 ≤ (IntKind.i64.wrap (p10858 + 1)) ∧ (IntKind.i64.wrap (p10858 + 1)) ≤ (_append0.Rungs.length : Int) ∧ (_append0.Rungs.length : Int) ≤ (_append0.Rungs.length : Int) then
          (some (_append0.Rungs.drop (IntKind.i64.wrap (p10858 + 1)).toNat)).bind fun l10864 =>
          (slices_ContainsFunc_api_Rung_c90 n l10864 x10863).bind fun r10866 =>
          if (!r10866) = true then
            some (p10858, 15)
          else
            (printer_Check_L2 n _append0 rec_n2) (IntKind.i64.wrap (p10858 + 1))
        else none
      else
        (printer_Check_L2 n _append0 rec_n2) (IntKind.i64.wrap (p10858 + 1))
    else
      some ((_append0.Rungs.length : Int), 0)

def printer_Check_J1 (n : Nat) (_append0 : ApiLadder) : Option (Int × Int) :=
  printer_Check_L2 n _append0 n 0

def printer_Check_L3 (n : Nat) (_append0 : ApiLadder) (r10679 : ApiSize) : Nat → Int → Option (Int × Int)
  | 0, _ => none
  | rec_n3 + 1, p10871 =>
    if (decide (p10871 < (_append0.Rungs.length : Int))) = true then
      (atI _append0.Rungs p10871).bind fun x10876 =>
      if 0 ≤ 0 ∧ 0 ≤ p10871 ∧ p10871 ≤ (_append0.Rungs.length : Int) then
        (some (_append0.Rungs.take p10871.toNat)).bind fun l10877 =>
        (printer_rung n r10679 l10877 x10876).bind fun r10879 =>
        if (r10879 != 0) = true then
          some (p10871, r10879)
        else
          (printer_Check_L3 n _append0 r10679 rec_n3) (IntKind.i64.wrap (p10871 + 1))
      else none
    else
      printer_Check_J1 n _append0

def printer_Check (n : Nat) (_append0 : ApiLadder) : Option (Int × Int) :=
  (printer_sizes n _append0).bind fun r10679 =>
  (addr_CheckSize n r10679).bind fun r10691 =>
  if (r10691 != 0) = true then
    some (0, 3)
  else
    if (decide ((_append0.Rungs.length : Int) > 64)) = true then
      some (0, 10)
    else
      printer_Check_L3 n _append0 r10679 n 0

def graph_Nodes_o0_L2 (p13100 : Int) (loop_1_graph_Nodes_o0 : Int → (List Str) → (List (Str × Bool)) → Option ((List Str))) (l13115 : List Str) : Nat → Int → (List Str) → (List (Str × Bool)) → Option ((List Str))
  | 0, _, _, _ => none
  | rec_n2 + 1, p13118, l13119, p13120 =>
    if (decide (p13118 < (l13115.length : Int))) = true then
      (atI l13115 p13118).bind fun x13123 =>
      if (!((mGet p13120 x13123).getD false)) = true then
        if l13119.length + ([x13123]).length ≤ 1000000000 then
          (some (l13119 ++ ([x13123]))).bind fun l13124 =>
          (graph_Nodes_o0_L2 p13100 loop_1_graph_Nodes_o0 l13115 rec_n2) (IntKind.i64.wrap (p13118 + 1)) l13124 (mPut p13120 x13123 true)
        else none
      else
        (graph_Nodes_o0_L2 p13100 loop_1_graph_Nodes_o0 l13115 rec_n2) (IntKind.i64.wrap (p13118 + 1)) l13119 p13120
    else
      loop_1_graph_Nodes_o0 (IntKind.i64.wrap (p13100 + 1)) l13119 p13120

def graph_Nodes_o0_L1 (n : Nat) (r_0 : ApiRung) : Nat → Int → (List Str) → (List (Str × Bool)) → Option ((List Str))
  | 0, _, _, _ => none
  | rec_n1 + 1, p13100, l13101, p13102 =>
    if (decide (p13100 < (r_0.Contacts.length : Int))) = true then
      (atI r_0.Contacts p13100).bind fun x13114 =>
      (some ([x13114.From, x13114.To])).bind fun l13115 =>
      graph_Nodes_o0_L2 p13100 (graph_Nodes_o0_L1 n r_0 rec_n1) l13115 n 0 l13101 p13102
    else
      some l13101

def graph_Nodes_o0 (n : Nat) (r_0 : ApiRung) : Option ((List Str)) :=
  (some ([(⟨#[76]⟩ : Str), (⟨#[82]⟩ : Str)])).bind fun l13088 =>
  graph_Nodes_o0_L1 n r_0 n 0 l13088 (mPut (mPut ([]) (⟨#[76]⟩ : Str) true) (⟨#[82]⟩ : Str) true)

def graph_Incoming_1 (n : Nat) (c0 : ApiContact) (b0 : Str) : Option (Bool) :=
  some (decide (c0.To = b0))

def graph_numbers_c99_L1 (n : Nat) (r_0 : ApiRung) (b0 : Str) : Nat → Int → (List Int) → Option ((List Int))
  | 0, _, _ => none
  | rec_n1 + 1, p13154, p13155 =>
    if (decide (p13154 < (r_0.Contacts.length : Int))) = true then
      (atI r_0.Contacts p13154).bind fun x13160 =>
      (graph_Incoming_1 n x13160 b0).bind fun r13162 =>
      if r13162 = true then
        if p13155.length + ([p13154]).length ≤ 1000000000 then
          (some (p13155 ++ ([p13154]))).bind fun l13163 =>
          (graph_numbers_c99_L1 n r_0 b0 rec_n1) (IntKind.i64.wrap (p13154 + 1)) l13163
        else none
      else
        (graph_numbers_c99_L1 n r_0 b0 rec_n1) (IntKind.i64.wrap (p13154 + 1)) p13155
    else
      some p13155

def graph_numbers_c99 (n : Nat) (r_0 : ApiRung) (b0 : Str) : Option ((List Int)) :=
  graph_numbers_c99_L1 n r_0 b0 n 0 ([])

def graph_Incoming (n : Nat) (r_0 : ApiRung) (node1 : Str) : Option ((List Int)) :=
  (graph_numbers_c99 n r_0 node1).bind fun r13165 =>
  some r13165

def graph_TopoSort_1_1 (n : Nat) (i_0 : Int) (m1 : List (Str × Bool)) (b2 : ApiRung) : Option (Bool) :=
  (atI b2.Contacts i_0).bind fun x13170 =>
  some (!((mGet m1 x13170.From).getD false))

def slices_IndexFunc_int_c75_L1 (n : Nat) (s0 : List Int) (m1 : List (Str × Bool)) (b2 : ApiRung) : Nat → Int → Option (Int)
  | 0, _ => none
  | rec_n1 + 1, p13183 =>
    if (decide (p13183 < (s0.length : Int))) = true then
      (atI s0 p13183).bind fun x13187 =>
      (graph_TopoSort_1_1 n x13187 m1 b2).bind fun r13189 =>
      if r13189 = true then
        some p13183
      else
        (slices_IndexFunc_int_c75_L1 n s0 m1 b2 rec_n1) (IntKind.i64.wrap (p13183 + 1))
    else
      some (-1)

def slices_IndexFunc_int_c75 (n : Nat) (s0 : List Int) (m1 : List (Str × Bool)) (b2 : ApiRung) : Option (Int) :=
  slices_IndexFunc_int_c75_L1 n s0 m1 b2 n 0

def slices_ContainsFunc_int_c75 (n : Nat) (s0 : List Int) (m1 : List (Str × Bool)) (b2 : ApiRung) : Option (Bool) :=
  (slices_IndexFunc_int_c75 n s0 m1 b2).bind fun r13193 =>
  some (decide (r13193 ≥ 0))

def graph_TopoSort_1 (n : Nat) (n_0 : Str) (b0 : ApiRung) (m2 : List (Str × Bool)) : Option (Bool) :=
  (graph_Incoming n b0 n_0).bind fun r13197 =>
  (slices_ContainsFunc_int_c75 n r13197 m2 b0).bind fun r13199 =>
  some (!r13199)

def slices_IndexFunc_string_c72_v1_L1 (n : Nat) (l0 : List Str) (b1 : ApiRung) (m3 : List (Str × Bool)) : Nat → Int → Option (Int)
  | 0, _ => none
  | rec_n1 + 1, p13212 =>
    if (decide (p13212 < (l0.length : Int))) = true then
      (atI l0 p13212).bind fun x13216 =>
      (graph_TopoSort_1 n x13216 b1 m3).bind fun r13218 =>
      if r13218 = true then
        some p13212
      else
        (slices_IndexFunc_string_c72_v1_L1 n l0 b1 m3 rec_n1) (IntKind.i64.wrap (p13212 + 1))
    else
      some (-1)

def slices_IndexFunc_string_c72_v1 (n : Nat) (l0 : List Str) (b1 : ApiRung) (m3 : List (Str × Bool)) : Option (Int) :=
  slices_IndexFunc_string_c72_v1_L1 n l0 b1 m3 n 0

def slices_Delete_string_v1 (n : Nat) (i_1 : Int) (j2 : Int) (l0 : List Str) : Option ((List Str)) :=
  if 0 ≤ i_1 ∧ i_1 ≤ j2 ∧ j2 ≤ (l0.length : Int) ∧ (l0.length : Int) ≤ (l0.length : Int) then
    if (i_1 == j2) = true then
      some l0
    else
      if 0 ≤ 0 ∧ 0 ≤ i_1 ∧ i_1 ≤ (l0.length : Int) then
        if 0 ≤ j2 ∧ j2 ≤ (l0.length : Int) ∧ (l0.length : Int) ≤ (l0.length : Int) then
          if i_1.toNat + (l0.length - j2.toNat) ≤ l0.length then
            (some (l0.take i_1.toNat ++ ((l0.drop j2.toNat) ++ l0.drop (i_1.toNat + (l0.length - j2.toNat))))).bind fun l13225 =>
            if 0 ≤ (((i_1.toNat + (l0.length - j2.toNat)) : Nat) : Int) ∧ (((i_1.toNat + (l0.length - j2.toNat)) : Nat) : Int) ≤ (l0.length : Int) ∧ (l0.length : Int) ≤ l13225.length then
              if ((i_1.toNat + (l0.length - j2.toNat)) + (l0.length - (i_1.toNat + (l0.length - j2.toNat)))) ≤ l13225.length then
                some (l13225.take (i_1.toNat + (l0.length - j2.toNat)))
              else none
            else none
          else none
        else none
      else none
  else none

def graph_TopoSort_L1 (n : Nat) (r_0 : ApiRung) : Nat → (List Str) → (List (Str × Bool)) → (List Str) → Option ((List Str) × Int)
  | 0, _, _, _ => none
  | rec_n1 + 1, r13228, p13229, p13230 =>
    if (decide ((r13228.length : Int) > 0)) = true then
      (slices_IndexFunc_string_c72_v1 n r13228 r_0 p13229).bind fun r13238 =>
      if (decide (r13238 < 0)) = true then
        some ([], 12)
      else
        (atI r13228 r13238).bind fun x13239 =>
        if p13230.length + ([x13239]).length ≤ 1000000000 then
          (some (p13230 ++ ([x13239]))).bind fun l13240 =>
          (slices_Delete_string_v1 n r13238 (IntKind.i64.wrap (r13238 + 1)) r13228).bind fun q13242 =>
          (graph_TopoSort_L1 n r_0 rec_n1) q13242 (mPut p13229 x13239 true) l13240
        else none
    else
      some (p13230, 0)

def graph_TopoSort (n : Nat) (r_0 : ApiRung) : Option ((List Str) × Int) :=
  (graph_Nodes_o0 n r_0).bind fun r13126 =>
  graph_TopoSort_L1 n r_0 n r13126 ([]) ([])

def slices_Index_string_L1 (s0 : List Str) (v1 : Str) : Nat → Int → Option (Int)
  | 0, _ => none
  | rec_n1 + 1, p14149 =>
    if (decide (p14149 < (s0.length : Int))) = true then
      (atI s0 p14149).bind fun x14151 =>
      if (decide (v1 = x14151)) = true then
        some p14149
      else
        (slices_Index_string_L1 s0 v1 rec_n1) (IntKind.i64.wrap (p14149 + 1))
    else
      some (-1)

def slices_Index_string (n : Nat) (s0 : List Str) (v1 : Str) : Option (Int) :=
  slices_Index_string_L1 s0 v1 n 0

def slices_Contains_string (n : Nat) (s0 : List Str) (v1 : Str) : Option (Bool) :=
  (slices_Index_string n s0 v1).bind fun r14153 =>
  some (decide (r14153 ≥ 0))

def graph_Outgoing_1 (n : Nat) (c0 : ApiContact) (b0 : Str) : Option (Bool) :=
  some (decide (c0.From = b0))

def graph_numbers_c129_L1 (n : Nat) (r_0 : ApiRung) (b0 : Str) : Nat → Int → (List Int) → Option ((List Int))
  | 0, _, _ => none
  | rec_n1 + 1, p14230, p14231 =>
    if (decide (p14230 < (r_0.Contacts.length : Int))) = true then
      (atI r_0.Contacts p14230).bind fun x14236 =>
      (graph_Outgoing_1 n x14236 b0).bind fun r14238 =>
      if r14238 = true then
        if p14231.length + ([p14230]).length ≤ 1000000000 then
          (some (p14231 ++ ([p14230]))).bind fun l14239 =>
          (graph_numbers_c129_L1 n r_0 b0 rec_n1) (IntKind.i64.wrap (p14230 + 1)) l14239
        else none
      else
        (graph_numbers_c129_L1 n r_0 b0 rec_n1) (IntKind.i64.wrap (p14230 + 1)) p14231
    else
      some p14231

def graph_numbers_c129 (n : Nat) (r_0 : ApiRung) (b0 : Str) : Option ((List Int)) :=
  graph_numbers_c129_L1 n r_0 b0 n 0 ([])

def graph_Outgoing (n : Nat) (r_0 : ApiRung) (node1 : Str) : Option ((List Int)) :=
  (graph_numbers_c129 n r_0 node1).bind fun r14241 =>
  some r14241

def graph_Reachable_1_L1 (b0 : ApiRung) (r14256 : List Int) : Nat → Int → (List Str) → Option ((List Str))
  | 0, _, _ => none
  | rec_n1 + 1, p14260, p14261 =>
    if (decide (p14260 < (r14256.length : Int))) = true then
      (atI r14256 p14260).bind fun x14265 =>
      (atI b0.Contacts x14265).bind fun x14266 =>
      if p14261.length + ([x14266.To]).length ≤ 1000000000 then
        (some (p14261 ++ ([x14266.To]))).bind fun l14267 =>
        (graph_Reachable_1_L1 b0 r14256 rec_n1) (IntKind.i64.wrap (p14260 + 1)) l14267
      else none
    else
      some p14261

def graph_Reachable_1 (n : Nat) (n_0 : Str) (b0 : ApiRung) : Option ((List Str)) :=
  (graph_Outgoing n b0 n_0).bind fun r14256 =>
  graph_Reachable_1_L1 b0 r14256 n 0 ([])

def graph_gather_1_c101_127_L1 (b3 : ApiRung) (r14288 : List Str) (slf_graph_gather_1_c101_127 : Str → (List (Str × Bool)) → ApiRung → Option ((List (Str × Bool)))) : Nat → (List (Str × Bool)) → Int → Option ((List (Str × Bool)))
  | 0, _, _ => none
  | rec_n1 + 1, p14292, p14293 =>
    if (decide (p14293 < (r14288.length : Int))) = true then
      (atI r14288 p14293).bind fun x14297 =>
      (slf_graph_gather_1_c101_127 x14297 p14292 b3).bind fun q14299 =>
      (graph_gather_1_c101_127_L1 b3 r14288 slf_graph_gather_1_c101_127 rec_n1) q14299 (IntKind.i64.wrap (p14293 + 1))
    else
      some p14292

def graph_gather_1_c101_127 : Nat → Str → (List (Str × Bool)) → ApiRung → Option ((List (Str × Bool)))
  | 0, _, _, _ => none
  | n + 1, n_0, m1, b3 =>
  if ((mGet m1 n_0).getD false) = true then
    some m1
  else
    (graph_Reachable_1 n n_0 b3).bind fun r14288 =>
    graph_gather_1_c101_127_L1 b3 r14288 (graph_gather_1_c101_127 n) n (mPut m1 n_0 true) 0

def graph_gather_2 (n : Nat) (n_0 : Str) (m1 : List (Str × Bool)) : Option (Bool) :=
  some (!((mGet m1 n_0).getD false))

def slices_IndexFunc_string_c128_v1_L1 (n : Nat) (l0 : List Str) (m2 : List (Str × Bool)) : Nat → Int → Option (Int)
  | 0, _ => none
  | rec_n1 + 1, p14337 =>
    if (decide (p14337 < (l0.length : Int))) = true then
      (atI l0 p14337).bind fun x14341 =>
      (graph_gather_2 n x14341 m2).bind fun r14343 =>
      if r14343 = true then
        some p14337
      else
        (slices_IndexFunc_string_c128_v1_L1 n l0 m2 rec_n1) (IntKind.i64.wrap (p14337 + 1))
    else
      some (-1)

def slices_IndexFunc_string_c128_v1 (n : Nat) (l0 : List Str) (m2 : List (Str × Bool)) : Option (Int) :=
  slices_IndexFunc_string_c128_v1_L1 n l0 m2 n 0

def slices_DeleteFunc_string_c128_v1_L1 (n : Nat) (m2 : List (Str × Bool)) : Nat → (List Str) → Int → Int → Option ((List Str))
  | 0, _, _, _ => none
  | rec_n1 + 1, l14372, r14373, p14374 =>
    if (decide (p14374 < (l14372.length : Int))) = true then
      (atI l14372 p14374).bind fun x14380 =>
      (graph_gather_2 n x14380 m2).bind fun r14382 =>
      if (!r14382) = true then
        (atI l14372 r14373).bind fun x14383 =>
        (some (l14372.set r14373.toNat x14380)).bind fun l14384 =>
        (slices_DeleteFunc_string_c128_v1_L1 n m2 rec_n1) l14384 (IntKind.i64.wrap (r14373 + 1)) (IntKind.i64.wrap (p14374 + 1))
      else
        (slices_DeleteFunc_string_c128_v1_L1 n m2 rec_n1) l14372 r14373 (IntKind.i64.wrap (p14374 + 1))
    else
      if 0 ≤ r14373 ∧ r14373 ≤ (l14372.length : Int) ∧ (l14372.length : Int) ≤ (l14372.length : Int) then
        if (r14373.toNat + (l14372.length - r14373.toNat)) ≤ l14372.length then
          if 0 ≤ 0 ∧ 0 ≤ r14373 ∧ r14373 ≤ (l14372.length : Int) then
            some (l14372.take r14373.toNat)
          else none
        else none
      else none

def slices_DeleteFunc_string_c128_v1 (n : Nat) (l0 : List Str) (m2 : List (Str × Bool)) : Option ((List Str)) :=
  (slices_IndexFunc_string_c128_v1 n l0 m2).bind fun r14366 =>
  if (r14366 == (-1)) = true then
    some l0
  else
    slices_DeleteFunc_string_c128_v1_L1 n m2 n l0 r14366 (IntKind.i64.wrap (r14366 + 1))

def graph_gather_c101 (n : Nat) (r_0 : ApiRung) (node1 : Str) (b0 : ApiRung) : Option ((List Str)) :=
  (graph_Nodes_o0 n r_0).bind fun r14388 =>
  (slices_Contains_string n r14388 node1).bind fun r14392 =>
  if (!r14392) = true then
    some ([])
  else
    (graph_gather_1_c101_127 n node1 ([]) b0).bind fun q14394 =>
    (slices_DeleteFunc_string_c128_v1 n r14388 q14394).bind fun q14396 =>
    some q14396

def graph_Reachable (n : Nat) (r_0 : ApiRung) (node1 : Str) : Option ((List Str)) :=
  (graph_gather_c101 n r_0 node1 r_0).bind fun r14398 =>
  some r14398

def graph_Ancestors_1_L1 (b0 : ApiRung) (r14544 : List Int) : Nat → Int → (List Str) → Option ((List Str))
  | 0, _, _ => none
  | rec_n1 + 1, p14548, p14549 =>
    if (decide (p14548 < (r14544.length : Int))) = true then
      (atI r14544 p14548).bind fun x14553 =>
      (atI b0.Contacts x14553).bind fun x14554 =>
      if p14549.length + ([x14554.From]).length ≤ 1000000000 then
        (some (p14549 ++ ([x14554.From]))).bind fun l14555 =>
        (graph_Ancestors_1_L1 b0 r14544 rec_n1) (IntKind.i64.wrap (p14548 + 1)) l14555
      else none
    else
      some p14549

def graph_Ancestors_1 (n : Nat) (n_0 : Str) (b0 : ApiRung) : Option ((List Str)) :=
  (graph_Incoming n b0 n_0).bind fun r14544 =>
  graph_Ancestors_1_L1 b0 r14544 n 0 ([])

def graph_gather_1_c103_127_L1 (b3 : ApiRung) (r14576 : List Str) (slf_graph_gather_1_c103_127 : Str → (List (Str × Bool)) → ApiRung → Option ((List (Str × Bool)))) : Nat → (List (Str × Bool)) → Int → Option ((List (Str × Bool)))
  | 0, _, _ => none
  | rec_n1 + 1, p14580, p14581 =>
    if (decide (p14581 < (r14576.length : Int))) = true then
      (atI r14576 p14581).bind fun x14585 =>
      (slf_graph_gather_1_c103_127 x14585 p14580 b3).bind fun q14587 =>
      (graph_gather_1_c103_127_L1 b3 r14576 slf_graph_gather_1_c103_127 rec_n1) q14587 (IntKind.i64.wrap (p14581 + 1))
    else
      some p14580

def graph_gather_1_c103_127 : Nat → Str → (List (Str × Bool)) → ApiRung → Option ((List (Str × Bool)))
  | 0, _, _, _ => none
  | n + 1, n_0, m1, b3 =>
  if ((mGet m1 n_0).getD false) = true then
    some m1
  else
    (graph_Ancestors_1 n n_0 b3).bind fun r14576 =>
    graph_gather_1_c103_127_L1 b3 r14576 (graph_gather_1_c103_127 n) n (mPut m1 n_0 true) 0

def graph_gather_c103 (n : Nat) (r_0 : ApiRung) (node1 : Str) (b0 : ApiRung) : Option ((List Str)) :=
  (graph_Nodes_o0 n r_0).bind fun r14593 =>
  (slices_Contains_string n r14593 node1).bind fun r14597 =>
  if (!r14597) = true then
    some ([])
  else
    (graph_gather_1_c103_127 n node1 ([]) b0).bind fun q14599 =>
    (slices_DeleteFunc_string_c128_v1 n r14593 q14599).bind fun q14601 =>
    some q14601

def graph_Ancestors (n : Nat) (r_0 : ApiRung) (node1 : Str) : Option ((List Str)) :=
  (graph_gather_c103 n r_0 node1 r_0).bind fun r14603 =>
  some r14603

def flow_DeadNodes_1 (n : Nat) (n_0 : Str) (b0 : List Str) (b1 : List Str) : Option (Bool) :=
  (slices_Contains_string n b0 n_0).bind fun r14644 =>
  if r14644 = true then
    (slices_Contains_string n b1 n_0).bind fun r14646 =>
    some r14646
  else
    some false

def slices_IndexFunc_string_c80_v1_L1 (n : Nat) (l0 : List Str) (b1 : List Str) (b2 : List Str) : Nat → Int → Option (Int)
  | 0, _ => none
  | rec_n1 + 1, p14659 =>
    if (decide (p14659 < (l0.length : Int))) = true then
      (atI l0 p14659).bind fun x14663 =>
      (flow_DeadNodes_1 n x14663 b1 b2).bind fun r14665 =>
      if r14665 = true then
        some p14659
      else
        (slices_IndexFunc_string_c80_v1_L1 n l0 b1 b2 rec_n1) (IntKind.i64.wrap (p14659 + 1))
    else
      some (-1)

def slices_IndexFunc_string_c80_v1 (n : Nat) (l0 : List Str) (b1 : List Str) (b2 : List Str) : Option (Int) :=
  slices_IndexFunc_string_c80_v1_L1 n l0 b1 b2 n 0

def slices_DeleteFunc_string_c80_L1 (n : Nat) (b1 : List Str) (b2 : List Str) : Nat → (List Str) → Int → Int → Option ((List Str))
  | 0, _, _, _ => none
  | rec_n1 + 1, l14694, r14695, p14696 =>
    if (decide (p14696 < (l14694.length : Int))) = true then
      (atI l14694 p14696).bind fun x14702 =>
      (flow_DeadNodes_1 n x14702 b1 b2).bind fun r14704 =>
      if (!r14704) = true then
        (atI l14694 r14695).bind fun x14705 =>
        (some (l14694.set r14695.toNat x14702)).bind fun l14706 =>
        (slices_DeleteFunc_string_c80_L1 n b1 b2 rec_n1) l14706 (IntKind.i64.wrap (r14695 + 1)) (IntKind.i64.wrap (p14696 + 1))
      else
        (slices_DeleteFunc_string_c80_L1 n b1 b2 rec_n1) l14694 r14695 (IntKind.i64.wrap (p14696 + 1))
    else
      if 0 ≤ r14695 ∧ r14695 ≤ (l14694.length : Int) ∧ (l14694.length : Int) ≤ (l14694.length : Int) then
        if (r14695.toNat + (l14694.length - r14695.toNat)) ≤ l14694.length then
          if 0 ≤ 0 ∧ 0 ≤ r14695 ∧ r14695 ≤ (l14694.length : Int) then
            some (l14694.take r14695.toNat)
          else none
        else none
      else none

def slices_DeleteFunc_string_c80 (n : Nat) (l0 : List Str) (b1 : List Str) (b2 : List Str) : Option ((List Str)) :=
  (slices_IndexFunc_string_c80_v1 n l0 b1 b2).bind fun r14688 =>
  if (r14688 == (-1)) = true then
    some l0
  else
    slices_DeleteFunc_string_c80_L1 n b1 b2 n l0 r14688 (IntKind.i64.wrap (r14688 + 1))

def flow_DeadNodes (n : Nat) (r_0 : ApiRung) : Option ((List Str)) :=
  (graph_Reachable n r_0 (⟨#[76]⟩ : Str)).bind fun r14400 =>
  (graph_Ancestors n r_0 (⟨#[82]⟩ : Str)).bind fun r14605 =>
  (graph_Nodes_o0 n r_0).bind fun r14607 =>
  (slices_DeleteFunc_string_c80 n r14607 r14400 r14605).bind fun q14708 =>
  some q14708

def flow_Check (n : Nat) (r_0 : ApiRung) : Option (Int) :=
  if ((r_0.Contacts.length : Int) == 0) = true then
    some 4
  else
    (graph_TopoSort n r_0).bind fun ⟨r13247, r13248⟩ =>
    if (r13248 != 0) = true then
      some r13248
    else
      (flow_DeadNodes n r_0).bind fun r14710 =>
      if (decide ((r14710.length : Int) > 0)) = true then
        some 13
      else
        some 0

def reduce_parallel_1 (n : Nat) (y0 : ReduceEdge) (b0 : ReduceEdge) : Option (Bool) :=
  some ((decide (y0.pair.from_ = b0.pair.from_)) && (decide (y0.pair.to_ = b0.pair.to_)))

def slices_IndexFunc_reduce_edge_c50_v1_L1 (n : Nat) (s0 : Nat) (l0 : List ReduceEdge) (b1 : ReduceEdge) : Nat → Int → Option (Int)
  | 0, _ => none
  | rec_n1 + 1, p14738 =>
    if (decide (p14738 < (((l0.length - s0) : Nat) : Int))) = true then
      (atI (l0.drop s0) p14738).bind fun x14742 =>
      (reduce_parallel_1 n x14742 b1).bind fun r14744 =>
      if r14744 = true then
        some p14738
      else
        (slices_IndexFunc_reduce_edge_c50_v1_L1 n s0 l0 b1 rec_n1) (IntKind.i64.wrap (p14738 + 1))
    else
      some (-1)

def slices_IndexFunc_reduce_edge_c50_v1 (n : Nat) (s0 : Nat) (l0 : List ReduceEdge) (b1 : ReduceEdge) : Option (Int) :=
  slices_IndexFunc_reduce_edge_c50_v1_L1 n s0 l0 b1 n 0

def reduce_join_L1 (kind0 : Int) (l14757 : List TreeTree) : Nat → Int → (List TreeTree) → Option (TreeTree)
  | 0, _, _ => none
  | rec_n1 + 1, p14760, p14761 =>
    if (decide (p14760 < (l14757.length : Int))) = true then
      (atI l14757 p14760).bind fun x14765 =>
      if (x14765.Kind == kind0) = true then
        if p14761.length + x14765.Kids.length ≤ 1000000000 then
          (some (p14761 ++ x14765.Kids)).bind fun l14766 =>
          (reduce_join_L1 kind0 l14757 rec_n1) (IntKind.i64.wrap (p14760 + 1)) l14766
        else none
      else
        if p14761.length + ([x14765]).length ≤ 1000000000 then
          (some (p14761 ++ ([x14765]))).bind fun l14767 =>
          (reduce_join_L1 kind0 l14757 rec_n1) (IntKind.i64.wrap (p14760 + 1)) l14767
        else none
    else
      some (⟨kind0, 0, p14761⟩ : TreeTree)

def reduce_join (n : Nat) (kind0 : Int) (a1 : TreeTree) (b2 : TreeTree) : Option (TreeTree) :=
  (some ([a1, b2])).bind fun l14757 =>
  reduce_join_L1 kind0 l14757 n 0 ([])

def slices_Delete_reduce_edge_v1 (n : Nat) (i_1 : Int) (j2 : Int) (l0 : List ReduceEdge) : Option ((List ReduceEdge)) :=
  if 0 ≤ i_1 ∧ i_1 ≤ j2 ∧ j2 ≤ (l0.length : Int) ∧ (l0.length : Int) ≤ (l0.length : Int) then
    if (i_1 == j2) = true then
      some l0
    else
      if 0 ≤ 0 ∧ 0 ≤ i_1 ∧ i_1 ≤ (l0.length : Int) then
        if 0 ≤ j2 ∧ j2 ≤ (l0.length : Int) ∧ (l0.length : Int) ≤ (l0.length : Int) then
          if i_1.toNat + (l0.length - j2.toNat) ≤ l0.length then
            (some (l0.take i_1.toNat ++ ((l0.drop j2.toNat) ++ l0.drop (i_1.toNat + (l0.length - j2.toNat))))).bind fun l14773 =>
            if 0 ≤ (((i_1.toNat + (l0.length - j2.toNat)) : Nat) : Int) ∧ (((i_1.toNat + (l0.length - j2.toNat)) : Nat) : Int) ≤ (l0.length : Int) ∧ (l0.length : Int) ≤ l14773.length then
              if ((i_1.toNat + (l0.length - j2.toNat)) + (l0.length - (i_1.toNat + (l0.length - j2.toNat)))) ≤ l14773.length then
                some (l14773.take (i_1.toNat + (l0.length - j2.toNat)))
              else none
            else none
          else none
        else none
      else none
  else none

def reduce_parallel_v1_L1 (n : Nat) (l0 : List ReduceEdge) : Nat → Int → Option (Bool × (List ReduceEdge))
  | 0, _ => none
  | rec_n1 + 1, p14805 =>
    if (decide (p14805 < (l0.length : Int))) = true then
      (atI l0 p14805).bind fun x14815 =>
      if 0 ≤ (IntKind.i64.wrap (p14805 + 1)) ∧ (IntKind.i64.wrap (p14805 + 1)) ≤ (l0.length : Int) ∧ (l0.length : Int) ≤ (l0.length : Int) then
        (slices_IndexFunc_reduce_edge_c50_v1 n ((IntKind.i64.wrap (p14805 + 1)).toNat) l0 x14815).bind fun r14817 =>
        if (decide (r14817 ≥ 0)) = true then
          (atI l0 (IntKind.i64.wrap ((IntKind.i64.wrap (p14805 + 1)) + r14817))).bind fun x14818 =>
          (reduce_join n 2 x14815.t_ x14818.t_).bind fun r14820 =>
          (some (l0.set p14805.toNat (⟨x14815.pair, r14820⟩ : ReduceEdge))).bind fun l14821 =>
          (slices_Delete_reduce_edge_v1 n (IntKind.i64.wrap ((IntKind.i64.wrap (p14805 + 1)) + r14817)) (IntKind.i64.wrap ((IntKind.i64.wrap (p14805 + 2)) + r14817)) l14821).bind fun q14823 =>
          some (true, q14823)
        else
          (reduce_parallel_v1_L1 n l0 rec_n1) (IntKind.i64.wrap (p14805 + 1))
      else none
    else
      some (false, l0)

def reduce_parallel_v1 (n : Nat) (l0 : List ReduceEdge) : Option (Bool × (List ReduceEdge)) :=
  reduce_parallel_v1_L1 n l0 n 0

def reduce_series_v1_J2 (n : Nat) (l0 : List ReduceEdge) (p14961 : Int) (loop_1_reduce_series_v1 : Int → Option (Bool × (List ReduceEdge))) (x14996 : ReduceEdge) (p15009 : Int) (p15010 : Int) (p15011 : Int) : Option (Bool × (List ReduceEdge)) :=
  if (p15009 == 1) = true then
    if (p15010 == 1) = true then
      (atI l0 p15011).bind fun x15012 =>
      (reduce_join n 1 x14996.t_ x15012.t_).bind fun r15014 =>
      (some (l0.set p14961.toNat (⟨(⟨x14996.pair.from_, x15012.pair.to_⟩ : ReducePair), r15014⟩ : ReduceEdge))).bind fun l15015 =>
      (slices_Delete_reduce_edge_v1 n p15011 (IntKind.i64.wrap (p15011 + 1)) l15015).bind fun q15017 =>
      some (true, q15017)
    else
      loop_1_reduce_series_v1 (IntKind.i64.wrap (p14961 + 1))
  else
    loop_1_reduce_series_v1 (IntKind.i64.wrap (p14961 + 1))

def reduce_series_v1_J4 (x14996 : ReduceEdge) (p15020 : Int) (p15022 : Int) (p15025 : Int) (loop_3_reduce_series_v1 : Int → Int → Int → Int → Option (Bool × (List ReduceEdge))) (x15028 : ReduceEdge) (p15029 : Int) : Option (Bool × (List ReduceEdge)) :=
  if (decide (x15028.pair.from_ = x14996.pair.to_)) = true then
    loop_3_reduce_series_v1 (IntKind.i64.wrap (p15020 + 1)) p15029 (IntKind.i64.wrap (p15022 + 1)) p15020
  else
    loop_3_reduce_series_v1 (IntKind.i64.wrap (p15020 + 1)) p15029 p15022 p15025

def reduce_series_v1_L3 (n : Nat) (l0 : List ReduceEdge) (p14961 : Int) (loop_1_reduce_series_v1 : Int → Option (Bool × (List ReduceEdge))) (x14996 : ReduceEdge) : Nat → Int → Int → Int → Int → Option (Bool × (List ReduceEdge))
  | 0, _, _, _, _ => none
  | rec_n3 + 1, p15020, p15021, p15022, p15025 =>
    if (decide (p15020 < (l0.length : Int))) = true then
      (atI l0 p15020).bind fun x15028 =>
      if (decide (x15028.pair.to_ = x14996.pair.to_)) = true then
        reduce_series_v1_J4 x14996 p15020 p15022 p15025 (reduce_series_v1_L3 n l0 p14961 loop_1_reduce_series_v1 x14996 rec_n3) x15028 (IntKind.i64.wrap (p15021 + 1))
      else
        reduce_series_v1_J4 x14996 p15020 p15022 p15025 (reduce_series_v1_L3 n l0 p14961 loop_1_reduce_series_v1 x14996 rec_n3) x15028 p15021
    else
      reduce_series_v1_J2 n l0 p14961 loop_1_reduce_series_v1 x14996 p15021 p15022 p15025

def reduce_series_v1_L1 (n : Nat) (l0 : List ReduceEdge) : Nat → Int → Option (Bool × (List ReduceEdge))
  | 0, _ => none
  | rec_n1 + 1, p14961 =>
    if (decide (p14961 < (l0.length : Int))) = true then
      (atI l0 p14961).bind fun x14996 =>
      if (decide (x14996.pair.to_ = (⟨#[76]⟩ : Str))) = true then
        (reduce_series_v1_L1 n l0 rec_n1) (IntKind.i64.wrap (p14961 + 1))
      else
        if (decide (x14996.pair.to_ = (⟨#[82]⟩ : Str))) = true then
          (reduce_series_v1_L1 n l0 rec_n1) (IntKind.i64.wrap (p14961 + 1))
        else
          reduce_series_v1_L3 n l0 p14961 (reduce_series_v1_L1 n l0 rec_n1) x14996 n 0 0 0 0
    else
      some (false, l0)

def reduce_series_v1 (n : Nat) (l0 : List ReduceEdge) : Option (Bool × (List ReduceEdge)) :=
  reduce_series_v1_L1 n l0 n 0

def tree_Leaves_L2 (t0 : TreeTree) (slf_tree_Leaves : TreeTree → Option ((List Int))) : Nat → Int → (List Int) → Option ((List Int))
  | 0, _, _ => none
  | rec_n2 + 1, p15087, p15088 =>
    if (decide (p15087 < (t0.Kids.length : Int))) = true then
      (atI t0.Kids p15087).bind fun x15093 =>
      (slf_tree_Leaves x15093).bind fun r15095 =>
      if p15088.length + r15095.length ≤ 1000000000 then
        (some (p15088 ++ r15095)).bind fun l15096 =>
        (tree_Leaves_L2 t0 slf_tree_Leaves rec_n2) (IntKind.i64.wrap (p15087 + 1)) l15096
      else none
    else
      some p15088

def tree_Leaves_J1 (n : Nat) (t0 : TreeTree) (slf_tree_Leaves : TreeTree → Option ((List Int))) (p15083 : Bool) : Option ((List Int)) :=
  if p15083 = true then
    tree_Leaves_L2 t0 slf_tree_Leaves n 0 ([])
  else
    some ([])

def tree_Leaves : Nat → TreeTree → Option ((List Int))
  | 0, _ => none
  | n + 1, t0 =>
  if (t0.Kind == 0) = true then
    (some ([t0.N])).bind fun l15082 =>
    some l15082
  else
    if (t0.Kind == 1) = true then
      tree_Leaves_J1 n t0 (tree_Leaves n) (t0.Kind == 1)
    else
      tree_Leaves_J1 n t0 (tree_Leaves n) (t0.Kind == 2)

def slices_Min_int_L1 (x_0 : List Int) : Nat → Int → Int → Option (Int)
  | 0, _, _ => none
  | rec_n1 + 1, x15101, p15102 =>
    if (decide (p15102 < (x_0.length : Int))) = true then
      (atI x_0 p15102).bind fun x15104 =>
      (slices_Min_int_L1 x_0 rec_n1) (imin x15101 x15104) (IntKind.i64.wrap (p15102 + 1))
    else
      some x15101

def slices_Min_int (n : Nat) (x_0 : List Int) : Option (Int) :=
  if (decide ((x_0.length : Int) < 1)) = true then
    none
  else
    (atI x_0 0).bind fun x15099 =>
    slices_Min_int_L1 x_0 n x15099 1

def cmp_isNaN_int (n : Nat) (x_0 : Int) : Option (Bool) :=
  some (x_0 != x_0)

def cmp_Compare_int (n : Nat) (x_0 : Int) (y1 : Int) : Option (Int) :=
  (cmp_isNaN_int n x_0).bind fun r15112 =>
  (cmp_isNaN_int n y1).bind fun r15114 =>
  if r15112 = true then
    if r15114 = true then
      some 0
    else
      some (-1)
  else
    if r15114 = true then
      some 1
    else
      if (decide (x_0 < y1)) = true then
        some (-1)
      else
        if (decide (x_0 > y1)) = true then
          some 1
        else
          some 0

def reduce_sorted_1 (n : Nat) (a0 : TreeTree) (b1 : TreeTree) : Option (Int) :=
  (tree_Leaves n a0).bind fun r15098 =>
  (slices_Min_int n r15098).bind fun r15106 =>
  (tree_Leaves n b1).bind fun r15108 =>
  (slices_Min_int n r15108).bind fun r15110 =>
  (cmp_Compare_int n r15106 r15110).bind fun r15116 =>
  some r15116

def slices_SortFunc_tree_Tree_c54 (n : Nat) (l0 : List TreeTree) : Option (List TreeTree) := sortM (fun a b => reduce_sorted_1 n a b) l0

def reduce_sorted_J1 (n : Nat) (t0 : TreeTree) (p15071 : List TreeTree) : Option (TreeTree) :=
  if (t0.Kind == 2) = true then
    (slices_SortFunc_tree_Tree_c54 n p15071).bind fun q15118 =>
    some (⟨t0.Kind, t0.N, q15118⟩ : TreeTree)
  else
    some (⟨t0.Kind, t0.N, p15071⟩ : TreeTree)

def reduce_sorted_L2 (n : Nat) (t0 : TreeTree) (slf_reduce_sorted : TreeTree → Option (TreeTree)) : Nat → Int → (List TreeTree) → Option (TreeTree)
  | 0, _, _ => none
  | rec_n2 + 1, p15123, p15124 =>
    if (decide (p15123 < (t0.Kids.length : Int))) = true then
      (atI t0.Kids p15123).bind fun x15129 =>
      (slf_reduce_sorted x15129).bind fun r15131 =>
      if p15124.length + ([r15131]).length ≤ 1000000000 then
        (some (p15124 ++ ([r15131]))).bind fun l15132 =>
        (reduce_sorted_L2 n t0 slf_reduce_sorted rec_n2) (IntKind.i64.wrap (p15123 + 1)) l15132
      else none
    else
      reduce_sorted_J1 n t0 p15124

def reduce_sorted : Nat → TreeTree → Option (TreeTree)
  | 0, _ => none
  | n + 1, t0 =>
  reduce_sorted_L2 n t0 (reduce_sorted n) n 0 ([])

def reduce_Reduce_J2 (n : Nat) (p15047 : List ReduceEdge) : Option (TreeTree × Int) :=
  if ((p15047.length : Int) != 1) = true then
    some ((⟨0, 0, []⟩ : TreeTree), 14)
  else
    (atI p15047 0).bind fun x15048 =>
    if (!((decide (x15048.pair.from_ = (⟨#[76]⟩ : Str))) && (decide (x15048.pair.to_ = (⟨#[82]⟩ : Str))))) = true then
      some ((⟨0, 0, []⟩ : TreeTree), 14)
    else
      (reduce_sorted n x15048.t_).bind fun r15134 =>
      some (r15134, 0)

def reduce_Reduce_L3 (n : Nat) : Nat → (List ReduceEdge) → Bool → Option (TreeTree × Int)
  | 0, _, _ => none
  | rec_n3 + 1, p15141, true15142 =>
    if true15142 = true then
      (reduce_parallel_v1 n p15141).bind fun ⟨r15150, q15151⟩ =>
      (reduce_series_v1 n q15151).bind fun ⟨r15153, q15154⟩ =>
      if r15150 = true then
        (reduce_Reduce_L3 n rec_n3) q15154 true
      else
        (reduce_Reduce_L3 n rec_n3) q15154 r15153
    else
      reduce_Reduce_J2 n p15141

def reduce_Reduce_J1 (n : Nat) (p14723 : List ReduceEdge) : Option (TreeTree × Int) :=
  reduce_Reduce_L3 n n p14723 true

def reduce_Reduce_L4 (n : Nat) (_append0 : ApiRung) : Nat → Int → (List ReduceEdge) → Option (TreeTree × Int)
  | 0, _, _ => none
  | rec_n4 + 1, p15157, p15158 =>
    if (decide (p15157 < (_append0.Contacts.length : Int))) = true then
      (atI _append0.Contacts p15157).bind fun x15161 =>
      if p15158.length + ([(⟨(⟨x15161.From, x15161.To⟩ : ReducePair), (⟨0, p15157, ([] : List TreeTree)⟩ : TreeTree)⟩ : ReduceEdge)]).length ≤ 1000000000 then
        (some (p15158 ++ ([(⟨(⟨x15161.From, x15161.To⟩ : ReducePair), (⟨0, p15157, ([] : List TreeTree)⟩ : TreeTree)⟩ : ReduceEdge)]))).bind fun l15162 =>
        (reduce_Reduce_L4 n _append0 rec_n4) (IntKind.i64.wrap (p15157 + 1)) l15162
      else none
    else
      reduce_Reduce_J1 n p15158

def reduce_Reduce (n : Nat) (_append0 : ApiRung) : Option (TreeTree × Int) :=
  (flow_Check n _append0).bind fun r14714 =>
  if (r14714 != 0) = true then
    some ((⟨0, 0, []⟩ : TreeTree), r14714)
  else
    reduce_Reduce_L4 n _append0 n 0 ([])

def codegen_sees (n : Nat) (c0 : ApiContact) : Option (Bool) :=
  if (c0.Kind == 2) = true then
    some true
  else
    some (c0.Kind == 3)

def tree_Tree_check_1 (n : Nat) (k0 : TreeTree) (b0 : TreeTree) : Option (Bool) :=
  some (k0.Kind == b0.Kind)

def slices_IndexFunc_tree_Tree_c66_L1 (n : Nat) (s0 : List TreeTree) (b0 : TreeTree) : Nat → Int → Option (Int)
  | 0, _ => none
  | rec_n1 + 1, p15198 =>
    if (decide (p15198 < (s0.length : Int))) = true then
      (atI s0 p15198).bind fun x15202 =>
      (tree_Tree_check_1 n x15202 b0).bind fun r15204 =>
      if r15204 = true then
        some p15198
      else
        (slices_IndexFunc_tree_Tree_c66_L1 n s0 b0 rec_n1) (IntKind.i64.wrap (p15198 + 1))
    else
      some (-1)

def slices_IndexFunc_tree_Tree_c66 (n : Nat) (s0 : List TreeTree) (b0 : TreeTree) : Option (Int) :=
  slices_IndexFunc_tree_Tree_c66_L1 n s0 b0 n 0

def slices_ContainsFunc_tree_Tree_c66 (n : Nat) (s0 : List TreeTree) (b0 : TreeTree) : Option (Bool) :=
  (slices_IndexFunc_tree_Tree_c66 n s0 b0).bind fun r15208 =>
  some (decide (r15208 ≥ 0))

def tree_Tree_check_L2 (_append0 : TreeTree) (a1 : Int) (slf_tree_Tree_check : TreeTree → Int → (List (Int × Bool)) → Option (Int × (List (Int × Bool)))) : Nat → (List (Int × Bool)) → Int → Option (Int × (List (Int × Bool)))
  | 0, _, _ => none
  | rec_n2 + 1, m15251, p15252 =>
    if (decide (p15252 < (_append0.Kids.length : Int))) = true then
      (atI _append0.Kids p15252).bind fun x15257 =>
      (slf_tree_Tree_check x15257 a1 m15251).bind fun ⟨r15259, q15260⟩ =>
      if (r15259 != 0) = true then
        some (r15259, q15260)
      else
        (tree_Tree_check_L2 _append0 a1 slf_tree_Tree_check rec_n2) q15260 (IntKind.i64.wrap (p15252 + 1))
    else
      some (0, m15251)

def tree_Tree_check_J1 (n : Nat) (_append0 : TreeTree) (a1 : Int) (m0 : List (Int × Bool)) (slf_tree_Tree_check : TreeTree → Int → (List (Int × Bool)) → Option (Int × (List (Int × Bool)))) : Option (Int × (List (Int × Bool))) :=
  tree_Tree_check_L2 _append0 a1 slf_tree_Tree_check n m0 0

def tree_Tree_check : Nat → TreeTree → Int → (List (Int × Bool)) → Option (Int × (List (Int × Bool)))
  | 0, _, _, _ => none
  | n + 1, _append0, a1, m0 =>
  if (decide (_append0.Kind < 0)) = true then
    some (8, m0)
  else
    if (decide (_append0.Kind > 2)) = true then
      some (8, m0)
    else
      if (_append0.Kind == 0) = true then
        if (decide ((_append0.Kids.length : Int) > 0)) = true then
          some (2, m0)
        else
          if (_append0.Kind != 0) = true then
            if (_append0.N != 0) = true then
              some (2, m0)
            else
              if (decide (_append0.N < 0)) = true then
                some (3, m0)
              else
                if (decide (_append0.N ≥ a1)) = true then
                  some (3, m0)
                else
                  if ((mGet m0 _append0.N).getD false) = true then
                    some (9, m0)
                  else
                    some (0, (mPut m0 _append0.N true))
          else
            if (decide (_append0.N < 0)) = true then
              some (3, m0)
            else
              if (decide (_append0.N ≥ a1)) = true then
                some (3, m0)
              else
                if ((mGet m0 _append0.N).getD false) = true then
                  some (9, m0)
                else
                  some (0, (mPut m0 _append0.N true))
      else
        if (_append0.Kind != 0) = true then
          if (_append0.N != 0) = true then
            some (2, m0)
          else
            if (decide ((_append0.Kids.length : Int) < 2)) = true then
              some (5, m0)
            else
              (slices_ContainsFunc_tree_Tree_c66 n _append0.Kids _append0).bind fun r15262 =>
              if r15262 = true then
                some (14, m0)
              else
                tree_Tree_check_J1 n _append0 a1 m0 (tree_Tree_check n)
        else
          if (decide ((_append0.Kids.length : Int) < 2)) = true then
            some (5, m0)
          else
            (slices_ContainsFunc_tree_Tree_c66 n _append0.Kids _append0).bind fun r15264 =>
            if r15264 = true then
              some (14, m0)
            else
              tree_Tree_check_J1 n _append0 a1 m0 (tree_Tree_check n)

def tree_Check (n : Nat) (t0 : TreeTree) (many1 : Int) : Option (Int) :=
  (tree_Tree_check n t0 many1 ([])).bind fun ⟨r15266, q15267⟩ =>
  if (r15266 == 0) = true then
    if (((q15267.length : Nat) : Int) != (imax 0 many1)) = true then
      some 4
    else
      some r15266
  else
    some r15266

def tree_Tree_depth_L1 (t0 : TreeTree) (edge1 : List Bool) (slf_tree_Tree_depth : TreeTree → (List Bool) → Option (Int)) : Nat → Int → Int → Option (Int)
  | 0, _, _ => none
  | rec_n1 + 1, p15278, p15279 =>
    if (decide (p15278 < (t0.Kids.length : Int))) = true then
      (atI t0.Kids p15278).bind fun x15288 =>
      if (p15278 == 0) = true then
        (slf_tree_Tree_depth x15288 edge1).bind fun r15290 =>
        (tree_Tree_depth_L1 t0 edge1 slf_tree_Tree_depth rec_n1) (IntKind.i64.wrap (p15278 + 1)) r15290
      else
        if (x15288.Kind != 0) = true then
          (slf_tree_Tree_depth x15288 edge1).bind fun r15292 =>
          (tree_Tree_depth_L1 t0 edge1 slf_tree_Tree_depth rec_n1) (IntKind.i64.wrap (p15278 + 1)) (imax p15279 (IntKind.i64.wrap (1 + r15292)))
        else
          (atI edge1 x15288.N).bind fun x15293 =>
          if x15293 = true then
            (slf_tree_Tree_depth x15288 edge1).bind fun r15295 =>
            (tree_Tree_depth_L1 t0 edge1 slf_tree_Tree_depth rec_n1) (IntKind.i64.wrap (p15278 + 1)) (imax p15279 (IntKind.i64.wrap (1 + r15295)))
          else
            (tree_Tree_depth_L1 t0 edge1 slf_tree_Tree_depth rec_n1) (IntKind.i64.wrap (p15278 + 1)) p15279
    else
      some p15279

def tree_Tree_depth : Nat → TreeTree → (List Bool) → Option (Int)
  | 0, _, _ => none
  | n + 1, t0, edge1 =>
  tree_Tree_depth_L1 t0 edge1 (tree_Tree_depth n) n 0 0

def tree_StackDepth (n : Nat) (t0 : TreeTree) (edge1 : List Bool) : Option (Int × Int) :=
  (tree_Check n t0 (edge1.length : Int)).bind fun r15269 =>
  if (r15269 != 0) = true then
    some (0, r15269)
  else
    (tree_Tree_depth n t0 edge1).bind fun r15297 =>
    some (r15297, 0)

def codegen_Tree_1 (n : Nat) (c0 : ApiContact) : Option (Bool) :=
  if (decide (c0.Kind < 0)) = true then
    some true
  else
    some (decide (c0.Kind ≥ 4))

def slices_IndexFunc_api_Contact_c36_L1 (n : Nat) (s0 : List ApiContact) : Nat → Int → Option (Int)
  | 0, _ => none
  | rec_n1 + 1, p15308 =>
    if (decide (p15308 < (s0.length : Int))) = true then
      (atI s0 p15308).bind fun x15312 =>
      (codegen_Tree_1 n x15312).bind fun r15314 =>
      if r15314 = true then
        some p15308
      else
        (slices_IndexFunc_api_Contact_c36_L1 n s0 rec_n1) (IntKind.i64.wrap (p15308 + 1))
    else
      some (-1)

def slices_IndexFunc_api_Contact_c36 (n : Nat) (s0 : List ApiContact) : Option (Int) :=
  slices_IndexFunc_api_Contact_c36_L1 n s0 n 0

def slices_ContainsFunc_api_Contact_c36 (n : Nat) (s0 : List ApiContact) : Option (Bool) :=
  (slices_IndexFunc_api_Contact_c36 n s0).bind fun r15316 =>
  some (decide (r15316 ≥ 0))

def codegen_maker_put_v1 (n : Nat) (x_1 : ApiIns) (b0 : Str) (b0_1 : List ApiContact) (b0_2 : List ApiCoil) (b0_3 : Str) (l1 : List Int) (l2 : List ApiIns) : Option ((List ApiIns)) :=
  if l2.length + ([x_1]).length ≤ 1000000000 then
    (some (l2 ++ ([x_1]))).bind fun l15419 =>
    some l15419
  else none

def codegen_maker_lay_v1_J2 (n : Nat) (a1 : TreeTree) (b0 : Str) (b0_1 : List ApiContact) (b0_2 : List ApiCoil) (b0_3 : Str) (l1 : List Int) (q15721 : List ApiIns) (p15722 : Int) (loop_1_codegen_maker_lay_v1 : (List ApiIns) → Int → Option ((List ApiIns))) (x15776 : TreeTree) (slf_codegen_maker_lay_v1 : TreeTree → Str → (List ApiContact) → (List ApiCoil) → Str → (List Int) → (List ApiIns) → Option ((List ApiIns))) : Option ((List ApiIns)) :=
  (codegen_maker_put_v1 n (⟨8, (⟨0, 0⟩ : ApiAddr), 0⟩ : ApiIns) b0 b0_1 b0_2 b0_3 l1 q15721).bind fun q15805 =>
  (slf_codegen_maker_lay_v1 x15776 b0 b0_1 b0_2 b0_3 l1 q15805).bind fun q15807 =>
  if a1.Kind = 0 then
    (codegen_maker_put_v1 n (⟨0, (⟨0, 0⟩ : ApiAddr), 0⟩ : ApiIns) b0 b0_1 b0_2 b0_3 l1 q15807).bind fun q15809 =>
    loop_1_codegen_maker_lay_v1 q15809 (IntKind.i64.wrap (p15722 + 1))
  else
    if a1.Kind = 1 then
      (codegen_maker_put_v1 n (⟨9, (⟨0, 0⟩ : ApiAddr), 0⟩ : ApiIns) b0 b0_1 b0_2 b0_3 l1 q15807).bind fun q15811 =>
      loop_1_codegen_maker_lay_v1 q15811 (IntKind.i64.wrap (p15722 + 1))
    else
      if a1.Kind = 2 then
        (codegen_maker_put_v1 n (⟨10, (⟨0, 0⟩ : ApiAddr), 0⟩ : ApiIns) b0 b0_1 b0_2 b0_3 l1 q15807).bind fun q15813 =>
        loop_1_codegen_maker_lay_v1 q15813 (IntKind.i64.wrap (p15722 + 1))
      else
        none

def codegen_maker_lay_v1_L1 (n : Nat) (a1 : TreeTree) (b0 : Str) (b0_1 : List ApiContact) (b0_2 : List ApiCoil) (b0_3 : Str) (l1 : List Int) (l15667 : List TreeTree) (slf_codegen_maker_lay_v1 : TreeTree → Str → (List ApiContact) → (List ApiCoil) → Str → (List Int) → (List ApiIns) → Option ((List ApiIns))) : Nat → (List ApiIns) → Int → Option ((List ApiIns))
  | 0, _, _ => none
  | rec_n1 + 1, q15721, p15722 =>
    if (decide (p15722 < (l15667.length : Int))) = true then
      (atI l15667 p15722).bind fun x15776 =>
      if (x15776.Kind == 0) = true then
        (atI b0_1 x15776.N).bind fun x15814 =>
        (codegen_sees n x15814).bind fun r15816 =>
        if (!r15816) = true then
          if a1.Kind = 0 then
            if x15814.Kind = 0 then
              (codegen_maker_put_v1 n (⟨0, x15814.A, 0⟩ : ApiIns) b0 b0_1 b0_2 b0_3 l1 q15721).bind fun q15818 =>
              (codegen_maker_lay_v1_L1 n a1 b0 b0_1 b0_2 b0_3 l1 l15667 slf_codegen_maker_lay_v1 rec_n1) q15818 (IntKind.i64.wrap (p15722 + 1))
            else
              if x15814.Kind = 1 then
                (codegen_maker_put_v1 n (⟨0, x15814.A, 0⟩ : ApiIns) b0 b0_1 b0_2 b0_3 l1 q15721).bind fun q15820 =>
                (codegen_maker_lay_v1_L1 n a1 b0 b0_1 b0_2 b0_3 l1 l15667 slf_codegen_maker_lay_v1 rec_n1) q15820 (IntKind.i64.wrap (p15722 + 1))
              else
                none
          else
            if a1.Kind = 1 then
              if x15814.Kind = 0 then
                (codegen_maker_put_v1 n (⟨2, x15814.A, 0⟩ : ApiIns) b0 b0_1 b0_2 b0_3 l1 q15721).bind fun q15822 =>
                (codegen_maker_lay_v1_L1 n a1 b0 b0_1 b0_2 b0_3 l1 l15667 slf_codegen_maker_lay_v1 rec_n1) q15822 (IntKind.i64.wrap (p15722 + 1))
              else
                if x15814.Kind = 1 then
                  (codegen_maker_put_v1 n (⟨3, x15814.A, 0⟩ : ApiIns) b0 b0_1 b0_2 b0_3 l1 q15721).bind fun q15824 =>
                  (codegen_maker_lay_v1_L1 n a1 b0 b0_1 b0_2 b0_3 l1 l15667 slf_codegen_maker_lay_v1 rec_n1) q15824 (IntKind.i64.wrap (p15722 + 1))
                else
                  none
            else
              if a1.Kind = 2 then
                if x15814.Kind = 0 then
                  (codegen_maker_put_v1 n (⟨4, x15814.A, 0⟩ : ApiIns) b0 b0_1 b0_2 b0_3 l1 q15721).bind fun q15826 =>
                  (codegen_maker_lay_v1_L1 n a1 b0 b0_1 b0_2 b0_3 l1 l15667 slf_codegen_maker_lay_v1 rec_n1) q15826 (IntKind.i64.wrap (p15722 + 1))
                else
                  if x15814.Kind = 1 then
                    (codegen_maker_put_v1 n (⟨5, x15814.A, 0⟩ : ApiIns) b0 b0_1 b0_2 b0_3 l1 q15721).bind fun q15828 =>
                    (codegen_maker_lay_v1_L1 n a1 b0 b0_1 b0_2 b0_3 l1 l15667 slf_codegen_maker_lay_v1 rec_n1) q15828 (IntKind.i64.wrap (p15722 + 1))
                  else
                    none
              else
                none
        else
          codegen_maker_lay_v1_J2 n a1 b0 b0_1 b0_2 b0_3 l1 q15721 p15722 (codegen_maker_lay_v1_L1 n a1 b0 b0_1 b0_2 b0_3 l1 l15667 slf_codegen_maker_lay_v1 rec_n1) x15776 slf_codegen_maker_lay_v1
      else
        codegen_maker_lay_v1_J2 n a1 b0 b0_1 b0_2 b0_3 l1 q15721 p15722 (codegen_maker_lay_v1_L1 n a1 b0 b0_1 b0_2 b0_3 l1 l15667 slf_codegen_maker_lay_v1 rec_n1) x15776 slf_codegen_maker_lay_v1
    else
      some q15721

def codegen_maker_lay_v1 : Nat → TreeTree → Str → (List ApiContact) → (List ApiCoil) → Str → (List Int) → (List ApiIns) → Option ((List ApiIns))
  | 0, _, _, _, _, _, _, _ => none
  | n + 1, a1, b0, b0_1, b0_2, b0_3, l1, l2 =>
  if (a1.Kind == 0) = true then
    (atI b0_1 a1.N).bind fun x15651 =>
    if x15651.Kind = 0 then
      (atI l1 a1.N).bind fun x15652 =>
      (codegen_maker_put_v1 n (⟨0, x15651.A, x15652⟩ : ApiIns) b0 b0_1 b0_2 b0_3 l1 l2).bind fun q15654 =>
      some q15654
    else
      if x15651.Kind = 1 then
        (atI l1 a1.N).bind fun x15655 =>
        (codegen_maker_put_v1 n (⟨1, x15651.A, x15655⟩ : ApiIns) b0 b0_1 b0_2 b0_3 l1 l2).bind fun q15657 =>
        some q15657
      else
        if x15651.Kind = 2 then
          (atI l1 a1.N).bind fun x15658 =>
          (codegen_maker_put_v1 n (⟨6, x15651.A, x15658⟩ : ApiIns) b0 b0_1 b0_2 b0_3 l1 l2).bind fun q15660 =>
          some q15660
        else
          if x15651.Kind = 3 then
            (atI l1 a1.N).bind fun x15661 =>
            (codegen_maker_put_v1 n (⟨7, x15651.A, x15661⟩ : ApiIns) b0 b0_1 b0_2 b0_3 l1 l2).bind fun q15663 =>
            some q15663
          else
            none
  else
    (atI a1.Kids 0).bind fun x15664 =>
    ((codegen_maker_lay_v1 n) x15664 b0 b0_1 b0_2 b0_3 l1 l2).bind fun q15666 =>
    if 0 ≤ 1 ∧ 1 ≤ (a1.Kids.length : Int) ∧ (a1.Kids.length : Int) ≤ (a1.Kids.length : Int) then
      (some (a1.Kids.drop 1)).bind fun l15667 =>
      codegen_maker_lay_v1_L1 n a1 b0 b0_1 b0_2 b0_3 l1 l15667 (codegen_maker_lay_v1 n) n q15666 0
    else none

def codegen_Tree_J1 (n : Nat) (r_0 : ApiRung) (t1 : TreeTree) (l15340 : List Int) : Option ((List ApiIns) × Int) :=
  (codegen_maker_lay_v1 n t1 r_0.Label r_0.Contacts r_0.Coils r_0.Jump l15340 ([] : List ApiIns)).bind fun q15830 =>
  some (q15830, 0)

def codegen_Tree_L2 (n : Nat) (r_0 : ApiRung) (t1 : TreeTree) : Nat → Int → Int → (List Int) → Option ((List ApiIns) × Int)
  | 0, _, _, _ => none
  | rec_n2 + 1, slot15836, p15837, l15838 =>
    if (decide (p15837 < (r_0.Contacts.length : Int))) = true then
      (atI r_0.Contacts p15837).bind fun x15844 =>
      (codegen_sees n x15844).bind fun r15846 =>
      if r15846 = true then
        (atI l15838 p15837).bind fun x15847 =>
        (some (l15838.set p15837.toNat slot15836)).bind fun l15848 =>
        (codegen_Tree_L2 n r_0 t1 rec_n2) (IntKind.i64.wrap (slot15836 + 1)) (IntKind.i64.wrap (p15837 + 1)) l15848
      else
        (codegen_Tree_L2 n r_0 t1 rec_n2) slot15836 (IntKind.i64.wrap (p15837 + 1)) l15838
    else
      codegen_Tree_J1 n r_0 t1 l15838

def codegen_Tree (n : Nat) (r_0 : ApiRung) (t1 : TreeTree) (slot2 : Int) : Option ((List ApiIns) × Int) :=
  (tree_Check n t1 (r_0.Contacts.length : Int)).bind fun r15304 =>
  if (r15304 != 0) = true then
    some ([], r15304)
  else
    (slices_ContainsFunc_api_Contact_c36 n r_0.Contacts).bind fun r15320 =>
    if r15320 = true then
      some ([], 8)
    else
      if (decide (slot2 < 0)) = true then
        some ([], 3)
      else
        if (decide (slot2 > 16384)) = true then
          some ([], 3)
        else
          if 0 ≤ (r_0.Contacts.length : Int) ∧ (r_0.Contacts.length : Int) ≤ (r_0.Contacts.length : Int) ∧ (r_0.Contacts.length : Int) ≤ 1000000000 then
            (some (List.replicate r_0.Contacts.length 0)).bind fun l15321 =>
            codegen_Tree_L2 n r_0 t1 n slot2 0 l15321
          else none

def codegen_contacts_J1 (n : Nat) (r_0 : ApiRung) (slot1 : Int) (r15164 : TreeTree) (l15184 : List Bool) : Option ((List ApiIns) × Int) :=
  (tree_StackDepth n r15164 l15184).bind fun ⟨r15299, r15300⟩ =>
  if (r15300 != 0) = true then
    some ([], r15300)
  else
    if (decide (r15299 > 64)) = true then
      some ([], 16)
    else
      (codegen_Tree n r_0 r15164 slot1).bind fun ⟨r15850, r15851⟩ =>
      some (r15850, r15851)

def codegen_contacts_L2 (n : Nat) (r_0 : ApiRung) (slot1 : Int) (r15164 : TreeTree) : Nat → Int → (List Bool) → Option ((List ApiIns) × Int)
  | 0, _, _ => none
  | rec_n2 + 1, p15857, l15858 =>
    if (decide (p15857 < (r_0.Contacts.length : Int))) = true then
      (atI r_0.Contacts p15857).bind fun x15864 =>
      (codegen_sees n x15864).bind fun r15866 =>
      (atI l15858 p15857).bind fun x15867 =>
      (some (l15858.set p15857.toNat r15866)).bind fun l15868 =>
      (codegen_contacts_L2 n r_0 slot1 r15164 rec_n2) (IntKind.i64.wrap (p15857 + 1)) l15868
    else
      codegen_contacts_J1 n r_0 slot1 r15164 l15858

def codegen_contacts (n : Nat) (r_0 : ApiRung) (slot1 : Int) : Option ((List ApiIns) × Int) :=
  (reduce_Reduce n r_0).bind fun ⟨r15164, r15165⟩ =>
  if (r15165 != 0) = true then
    some ([], r15165)
  else
    if 0 ≤ (r_0.Contacts.length : Int) ∧ (r_0.Contacts.length : Int) ≤ (r_0.Contacts.length : Int) ∧ (r_0.Contacts.length : Int) ≤ 1000000000 then
      (some (List.replicate r_0.Contacts.length false)).bind fun l15166 =>
      codegen_contacts_L2 n r_0 slot1 r15164 n 0 l15166
    else none

def codegen_Coils_L1 (r_0 : ApiRung) : Nat → Int → (List ApiIns) → Option ((List ApiIns) × Int)
  | 0, _, _ => none
  | rec_n1 + 1, p15881, p15882 =>
    if (decide (p15881 < (r_0.Coils.length : Int))) = true then
      (atI r_0.Coils p15881).bind fun x15888 =>
      if (decide (x15888.Kind < 0)) = true then
        some ([], 8)
      else
        if (decide (x15888.Kind ≥ 4)) = true then
          some ([], 8)
        else
          if x15888.Kind = 0 then
            if p15882.length + ([(⟨11, x15888.A, 0⟩ : ApiIns)]).length ≤ 1000000000 then
              (some (p15882 ++ ([(⟨11, x15888.A, 0⟩ : ApiIns)]))).bind fun l15889 =>
              (codegen_Coils_L1 r_0 rec_n1) (IntKind.i64.wrap (p15881 + 1)) l15889
            else none
          else
            if x15888.Kind = 1 then
              if p15882.length + ([(⟨12, x15888.A, 0⟩ : ApiIns)]).length ≤ 1000000000 then
                (some (p15882 ++ ([(⟨12, x15888.A, 0⟩ : ApiIns)]))).bind fun l15890 =>
                (codegen_Coils_L1 r_0 rec_n1) (IntKind.i64.wrap (p15881 + 1)) l15890
              else none
            else
              if x15888.Kind = 2 then
                if p15882.length + ([(⟨13, x15888.A, 0⟩ : ApiIns)]).length ≤ 1000000000 then
                  (some (p15882 ++ ([(⟨13, x15888.A, 0⟩ : ApiIns)]))).bind fun l15891 =>
                  (codegen_Coils_L1 r_0 rec_n1) (IntKind.i64.wrap (p15881 + 1)) l15891
                else none
              else
                if x15888.Kind = 3 then
                  if p15882.length + ([(⟨14, x15888.A, 0⟩ : ApiIns)]).length ≤ 1000000000 then
                    (some (p15882 ++ ([(⟨14, x15888.A, 0⟩ : ApiIns)]))).bind fun l15892 =>
                    (codegen_Coils_L1 r_0 rec_n1) (IntKind.i64.wrap (p15881 + 1)) l15892
                  else none
                else
                  none
    else
      some (p15882, 0)

def codegen_Coils (n : Nat) (r_0 : ApiRung) : Option ((List ApiIns) × Int) :=
  codegen_Coils_L1 r_0 n 0 ([])

def rungeval_sees (n : Nat) (c0 : ApiContact) : Option (Bool) :=
  if (c0.Kind == 2) = true then
    some true
  else
    some (c0.Kind == 3)

def rungeval_EdgeCount_L1 (n : Nat) (r_0 : ApiRung) : Nat → Int → Int → Option (Int)
  | 0, _, _ => none
  | rec_n1 + 1, p15900, p15901 =>
    if (decide (p15901 < (r_0.Contacts.length : Int))) = true then
      (atI r_0.Contacts p15901).bind fun x15905 =>
      (rungeval_sees n x15905).bind fun r15907 =>
      if r15907 = true then
        (rungeval_EdgeCount_L1 n r_0 rec_n1) (IntKind.i64.wrap (p15900 + 1)) (IntKind.i64.wrap (p15901 + 1))
      else
        (rungeval_EdgeCount_L1 n r_0 rec_n1) p15900 (IntKind.i64.wrap (p15901 + 1))
    else
      some p15900

def rungeval_EdgeCount (n : Nat) (r_0 : ApiRung) : Option (Int) :=
  rungeval_EdgeCount_L1 n r_0 n 0 0

def codegen_whole_J2 (_append0 : ApiLadder) (p15946 : Int) (p15947 : List ApiIns) (p15948 : List Int) : Option (ApiProgram × (List Int) × Int × Int) :=
  if p15948.length + ([(p15947.length : Int)]).length ≤ 1000000000 then
    (some (p15948 ++ ([(p15947.length : Int)]))).bind fun l15949 =>
    if p15947.length + ([(⟨16, (⟨0, 0⟩ : ApiAddr), 0⟩ : ApiIns)]).length ≤ 1000000000 then
      (some (p15947 ++ ([(⟨16, (⟨0, 0⟩ : ApiAddr), 0⟩ : ApiIns)]))).bind fun l15950 =>
      some ((⟨(⟨_append0.I, _append0.Q, _append0.M, p15946⟩ : ApiSize), l15950⟩ : ApiProgram), l15949, (_append0.Rungs.length : Int), 0)
    else none
  else none

def codegen_whole_L3 (_append0 : ApiLadder) (p15946 : Int) (p15947 : List ApiIns) (p15948 : List Int) : Nat → Option (ApiProgram × (List Int) × Int × Int)
  | 0 => none
  | rec_n3 + 1 =>
    codegen_whole_J2 _append0 p15946 p15947 p15948

def codegen_whole_J1 (n : Nat) (_append0 : ApiLadder) (p15944 : List (Str × Int)) (p15945 : List (Int × Str)) (p15946 : Int) (p15947 : List ApiIns) (p15948 : List Int) : Option (ApiProgram × (List Int) × Int × Int) :=
  if p15945 = [] then
    codegen_whole_L3 _append0 p15946 p15947 p15948 n 
  else none

def codegen_whole_L4 (n : Nat) (_append0 : ApiLadder) : Nat → (List (Str × Int)) → (List (Int × Str)) → Int → Int → (List ApiIns) → (List Int) → Option (ApiProgram × (List Int) × Int × Int)
  | 0, _, _, _, _, _, _ => none
  | rec_n4 + 1, p15963, p15964, p15965, p15966, p15967, p15968 =>
    if (decide (p15965 < (_append0.Rungs.length : Int))) = true then
      (atI _append0.Rungs p15965).bind fun x15982 =>
      (codegen_contacts n x15982 p15966).bind fun ⟨r15984, r15985⟩ =>
      if (r15985 != 0) = true then
        some ((⟨(⟨0, 0, 0, 0⟩ : ApiSize), []⟩ : ApiProgram), [], p15965, r15985)
      else
        (codegen_Coils n x15982).bind fun ⟨r15987, r15988⟩ =>
        if (r15988 != 0) = true then
          some ((⟨(⟨0, 0, 0, 0⟩ : ApiSize), []⟩ : ApiProgram), [], p15965, r15988)
        else
          if p15968.length + ([(p15967.length : Int)]).length ≤ 1000000000 then
            (some (p15968 ++ ([(p15967.length : Int)]))).bind fun l15989 =>
            (rungeval_EdgeCount n x15982).bind fun r15991 =>
            if p15967.length + r15984.length ≤ 1000000000 then
              (some (p15967 ++ r15984)).bind fun l15992 =>
              if l15992.length + r15987.length ≤ 1000000000 then
                (some (l15992 ++ r15987)).bind fun l15993 =>
                if (!(decide (x15982.Jump = (⟨#[]⟩ : Str)))) = true then
                  if l15993.length + ([(⟨15, (⟨0, 0⟩ : ApiAddr), 0⟩ : ApiIns)]).length ≤ 1000000000 then
                    (some (l15993 ++ ([(⟨15, (⟨0, 0⟩ : ApiAddr), 0⟩ : ApiIns)]))).bind fun l15994 =>
                    (codegen_whole_L4 n _append0 rec_n4) (mPut p15963 x15982.Label (p15967.length : Int)) (mPut p15964 (l15993.length : Int) x15982.Jump) (IntKind.i64.wrap (p15965 + 1)) (IntKind.i64.wrap (p15966 + r15991)) l15994 l15989
                  else none
                else
                  (codegen_whole_L4 n _append0 rec_n4) (mPut p15963 x15982.Label (p15967.length : Int)) p15964 (IntKind.i64.wrap (p15965 + 1)) (IntKind.i64.wrap (p15966 + r15991)) l15993 l15989
              else none
            else none
          else none
    else
      codegen_whole_J1 n _append0 p15963 p15964 p15966 p15967 p15968

def codegen_whole (n : Nat) (_append0 : ApiLadder) : Option (ApiProgram × (List Int) × Int × Int) :=
  (printer_Check n _append0).bind fun ⟨r10884, r10885⟩ =>
  if (r10885 != 0) = true then
    some ((⟨(⟨0, 0, 0, 0⟩ : ApiSize), []⟩ : ApiProgram), [], r10884, r10885)
  else
    codegen_whole_L4 n _append0 n ([]) ([]) 0 0 ([]) ([])

def codegen_Ladder (n : Nat) (l0 : ApiLadder) : Option (ApiProgram × Int × Int) :=
  (codegen_whole n l0).bind fun ⟨r15996, r15997, r15998, r15999⟩ =>
  some (r15996, r15998, r15999)

def slices_Equal_api_Ins_L1 (s10 : List ApiIns) (s21 : List ApiIns) : Nat → Int → Option (Bool)
  | 0, _ => none
  | rec_n1 + 1, p16007 =>
    if (decide (p16007 < (s10.length : Int))) = true then
      (atI s10 p16007).bind fun x16010 =>
      (atI s21 p16007).bind fun x16011 =>
      if (!((x16010.Op == x16011.Op) && ((x16010.A.Space == x16011.A.Space) && ((x16010.A.N == x16011.A.N) && (x16010.N == x16011.N))))) = true then
        some false
      else
        (slices_Equal_api_Ins_L1 s10 s21 rec_n1) (IntKind.i64.wrap (p16007 + 1))
    else
      some true

def slices_Equal_api_Ins (n : Nat) (s10 : List ApiIns) (s21 : List ApiIns) : Option (Bool) :=
  if ((s10.length : Int) != (s21.length : Int)) = true then
    some false
  else
    slices_Equal_api_Ins_L1 s10 s21 n 0

def law17_alive (n : Nat) : Option (Bool) :=
  (law17_example n ).bind fun r17 =>
  (some ([r17])).bind fun l18 =>
  (codegen_Ladder n (⟨2, 1, 0, l18⟩ : ApiLadder)).bind fun ⟨r16001, r16002, r16003⟩ =>
  if (r16003 == 0) = true then
    if (r16002 == 1) = true then
      (some ([(⟨0, (⟨0, 0⟩ : ApiAddr), 0⟩ : ApiIns), (⟨3, (⟨0, 1⟩ : ApiAddr), 0⟩ : ApiIns), (⟨11, (⟨1, 0⟩ : ApiAddr), 0⟩ : ApiIns), (⟨16, (⟨0, 0⟩ : ApiAddr), 0⟩ : ApiIns)])).bind fun l16004 =>
      (slices_Equal_api_Ins n r16001.Code l16004).bind fun r16013 =>
      some r16013
    else
      some false
  else
    some false

def law17_CodegenSlotOffset_J2 (r16035 : List ApiIns) (p16044 : Int) (loop_1_law17_CodegenSlotOffset : Int → Option (Bool)) (x16054 : ApiIns) (p16055 : Int) : Option (Bool) :=
  (atI r16035 p16044).bind fun x16056 =>
  if (!((x16056.Op == x16054.Op) && ((x16056.A.Space == x16054.A.Space) && ((x16056.A.N == x16054.A.N) && (x16056.N == p16055))))) = true then
    some false
  else
    loop_1_law17_CodegenSlotOffset (IntKind.i64.wrap (p16044 + 1))

def law17_CodegenSlotOffset_L1 (n : Nat) (a2 : Int) (r16032 : List ApiIns) (r16035 : List ApiIns) : Nat → Int → Option (Bool)
  | 0, _ => none
  | rec_n1 + 1, p16044 =>
    if (decide (p16044 < (r16032.length : Int))) = true then
      (atI r16032 p16044).bind fun x16054 =>
      if (x16054.Op == 6) = true then
        law17_CodegenSlotOffset_J2 r16035 p16044 (law17_CodegenSlotOffset_L1 n a2 r16032 r16035 rec_n1) x16054 (IntKind.i64.wrap (x16054.N + (IntKind.i64.wrap (a2))))
      else
        if (x16054.Op == 7) = true then
          law17_CodegenSlotOffset_J2 r16035 p16044 (law17_CodegenSlotOffset_L1 n a2 r16032 r16035 rec_n1) x16054 (IntKind.i64.wrap (x16054.N + (IntKind.i64.wrap (a2))))
        else
          law17_CodegenSlotOffset_J2 r16035 p16044 (law17_CodegenSlotOffset_L1 n a2 r16032 r16035 rec_n1) x16054 x16054.N
    else
      (law17_alive n ).bind fun r16058 =>
      some r16058

def law17_CodegenSlotOffset (n : Nat) (_append0 : ApiRung) (a1 : Int) (a2 : Int) : Option (Bool) :=
  (law12_TooLarge n _append0).bind fun r16019 =>
  if (decide (r16019 > 0)) = true then
    (law17_alive n ).bind fun r16021 =>
    some r16021
  else
    if (decide ((_append0.Contacts.length : Int) > 40)) = true then
      (law17_alive n ).bind fun r16023 =>
      some r16023
    else
      (reduce_Reduce n _append0).bind fun ⟨r16025, r16026⟩ =>
      if (r16026 != 0) = true then
        (law17_alive n ).bind fun r16030 =>
        some r16030
      else
        (codegen_Tree n _append0 r16025 (IntKind.i64.wrap (a1))).bind fun ⟨r16032, r16033⟩ =>
        (codegen_Tree n _append0 r16025 (IntKind.i64.wrap ((IntKind.i64.wrap (a1)) + (IntKind.i64.wrap (a2))))).bind fun ⟨r16035, r16036⟩ =>
        if (r16033 != r16036) = true then
          some false
        else
          if ((r16032.length : Int) != (r16035.length : Int)) = true then
            some false
          else
            law17_CodegenSlotOffset_L1 n a2 r16032 r16035 n 0

end Go.G
