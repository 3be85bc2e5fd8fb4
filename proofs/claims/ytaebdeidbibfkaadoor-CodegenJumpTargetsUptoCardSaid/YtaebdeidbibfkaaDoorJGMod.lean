/- Models of functions of the program. -/
import Derived.Test.YtaebdeidbibfkaaDoorJGTy
set_option linter.unusedSimpArgs false
set_option linter.unusedVariables false
set_option linter.unusedSectionVars false
namespace Go.G
open Go.Av
noncomputable section
def law11_TooLarge_J1 (l0 : ApiLadder) (p27 : Int) : Option (Int) :=
  if (decide ((l0.Rungs.length : Int) > 70)) = true then
    some 1
  else
    if (decide (p27 > 20000)) = true then
      some 1
    else
      some 0
def law11_TooLarge_L3 (p34 : Int) (loop_2_law11_TooLarge : Int → Int → Option (Int)) (x42 : ApiRung) : Nat → Int → Int → Option (Int)
  | 0, _, _ => none
  | rec_n3 + 1, p44, p45 =>
    if (decide (p45 < (x42.Contacts.length : Int))) = true then
      (atI x42.Contacts p45).bind fun x47 =>
      (law11_TooLarge_L3 p34 loop_2_law11_TooLarge x42 rec_n3) (IntKind.i64.wrap (p44 + (IntKind.i64.wrap ((x47.From.size : Int) + (x47.To.size : Int))))) (IntKind.i64.wrap (p45 + 1))
    else
      loop_2_law11_TooLarge (IntKind.i64.wrap (p34 + 1)) p44
def law11_TooLarge_L2 (n : Nat) (l0 : ApiLadder) : Nat → Int → Int → Option (Int)
  | 0, _, _ => none
  | rec_n2 + 1, p34, p35 =>
    if (decide (p34 < (l0.Rungs.length : Int))) = true then
      (atI l0.Rungs p34).bind fun x42 =>
      law11_TooLarge_L3 p34 (law11_TooLarge_L2 n l0 rec_n2) x42 n (IntKind.i64.wrap (p35 + (IntKind.i64.wrap ((IntKind.i64.wrap ((IntKind.i64.wrap ((x42.Contacts.length : Int) + (x42.Coils.length : Int))) + (x42.Label.size : Int))) + (x42.Jump.size : Int))))) 0
    else
      law11_TooLarge_J1 l0 p35
def law11_TooLarge (n : Nat) (l0 : ApiLadder) : Option (Int) :=
  law11_TooLarge_L2 n l0 n 0 0
def law17_TooLarge_J1 (n : Nat) (l0 : ApiLadder) (p6 : Int) : Option (Int) :=
  if (decide (p6 > 200)) = true then
    some 1
  else
    (law11_TooLarge n l0).bind fun r49 =>
    some r49
def law17_TooLarge_L2 (n : Nat) (l0 : ApiLadder) : Nat → Int → Int → Option (Int)
  | 0, _, _ => none
  | rec_n2 + 1, p51, p52 =>
    if (decide (p52 < (l0.Rungs.length : Int))) = true then
      (atI l0.Rungs p52).bind fun x54 =>
      if (decide ((x54.Contacts.length : Int) > 40)) = true then
        some 1
      else
        (law17_TooLarge_L2 n l0 rec_n2) (IntKind.i64.wrap (p51 + (x54.Contacts.length : Int))) (IntKind.i64.wrap (p52 + 1))
    else
      law17_TooLarge_J1 n l0 p51
def law17_TooLarge (n : Nat) (l0 : ApiLadder) : Option (Int) :=
  law17_TooLarge_L2 n l0 n 0 0
def law17_example (n : Nat) : Option (ApiRung) :=
  (some ([(⟨0, (⟨0, 0⟩ : ApiAddr), (⟨#[76]⟩ : Str), (⟨#[97]⟩ : Str)⟩ : ApiContact), (⟨1, (⟨0, 1⟩ : ApiAddr), (⟨#[97]⟩ : Str), (⟨#[82]⟩ : Str)⟩ : ApiContact)])).bind fun l57 =>
  (some ([(⟨0, (⟨1, 0⟩ : ApiAddr)⟩ : ApiCoil)])).bind fun l58 =>
  some (⟨(⟨#[]⟩ : Str), l57, l58, (⟨#[]⟩ : Str)⟩ : ApiRung)
def printer_sizes (n : Nat) (l0 : ApiLadder) : Option (ApiSize) :=
  some (⟨l0.I, l0.Q, l0.M, 0⟩ : ApiSize)
def addr_within (n : Nat) (n_0 : Int) (most1 : Int) : Option (Bool) :=
  if (decide (n_0 ≥ 0)) = true then
    some (decide (n_0 ≤ most1))
  else
    some false
def addr_CheckSize (n : Nat) (s0 : ApiSize) : Option (Int) :=
  (addr_within n s0.E 16384).bind fun r10724 =>
  if (!r10724) = true then
    some 3
  else
    (addr_within n s0.I 256).bind fun r10726 =>
    if (!r10726) = true then
      some 3
    else
      (addr_within n s0.Q 256).bind fun r10728 =>
      if (!r10728) = true then
        some 3
      else
        (addr_within n s0.M 256).bind fun r10730 =>
        if (!r10730) = true then
          some 3
        else
          some 0
def lex_letter (n : Nat) (c0 : Int) : Option (Bool) :=
  if (decide (c0 ≥ 97)) = true then
    if (decide (c0 ≤ 122)) = true then
      some true
    else
      if (decide (c0 ≥ 65)) = true then
        some (decide (c0 ≤ 90))
      else
        some false
  else
    if (decide (c0 ≥ 65)) = true then
      some (decide (c0 ≤ 90))
    else
      some false
def lex_IsName_L1 (n : Nat) (word0 : Str) : Nat → Nat → Option (Bool)
  | 0, _ => none
  | rec_n1 + 1, p10739 =>
    if (decide (p10739 < word0.size)) = true then
      (lex_letter n (((Utf8.decode word0 p10739).1 : Nat) : Int)).bind fun r10743 =>
      if (!r10743) = true then
        if ((p10739 : Int) == 0) = true then
          some false
        else
          if ((((Utf8.decode word0 p10739).1 : Nat) : Int) != 95) = true then
            if (decide ((((Utf8.decode word0 p10739).1 : Nat) : Int) < 48)) = true then
              some false
            else
              if (decide ((((Utf8.decode word0 p10739).1 : Nat) : Int) > 57)) = true then
                some false
              else
                (lex_IsName_L1 n word0 rec_n1) (p10739 + (Utf8.decode word0 p10739).2)
          else
            (lex_IsName_L1 n word0 rec_n1) (p10739 + (Utf8.decode word0 p10739).2)
      else
        (lex_IsName_L1 n word0 rec_n1) (p10739 + (Utf8.decode word0 p10739).2)
    else
      some true
def lex_IsName (n : Nat) (word0 : Str) : Option (Bool) :=
  if (decide (word0 = (⟨#[]⟩ : Str))) = true then
    some false
  else
    if (decide ((word0.size : Int) > 16)) = true then
      some false
    else
      lex_IsName_L1 n word0 n 0
def printer_rung_1 (n : Nat) (x_0 : ApiRung) (b0 : ApiRung) : Option (Bool) :=
  some (decide (x_0.Label = b0.Label))
def slices_IndexFunc_api_Rung_c117_L1 (n : Nat) (s0 : List ApiRung) (b0 : ApiRung) : Nat → Int → Option (Int)
  | 0, _ => none
  | rec_n1 + 1, p10759 =>
    if (decide (p10759 < (s0.length : Int))) = true then
      (atI s0 p10759).bind fun x10763 =>
      (printer_rung_1 n x10763 b0).bind fun r10765 =>
      if r10765 = true then
        some p10759
      else
        (slices_IndexFunc_api_Rung_c117_L1 n s0 b0 rec_n1) (IntKind.i64.wrap (p10759 + 1))
    else
      some (-1)
def slices_IndexFunc_api_Rung_c117 (n : Nat) (s0 : List ApiRung) (b0 : ApiRung) : Option (Int) :=
  slices_IndexFunc_api_Rung_c117_L1 n s0 b0 n 0
def slices_ContainsFunc_api_Rung_c117 (n : Nat) (s0 : List ApiRung) (b0 : ApiRung) : Option (Bool) :=
  (slices_IndexFunc_api_Rung_c117 n s0 b0).bind fun r10769 =>
  some (decide (r10769 ≥ 0))
def addr_Width (n : Nat) (s0 : ApiSize) (space1 : Int) : Option (Int) :=
  if (space1 == 0) = true then
    some s0.I
  else
    if (space1 == 1) = true then
      some s0.Q
    else
      if (space1 == 2) = true then
        some s0.M
      else
        some 0
def addr_CheckAddr (n : Nat) (s0 : ApiSize) (a1 : ApiAddr) : Option (Int) :=
  (addr_within n a1.Space 2).bind fun r10774 =>
  if (!r10774) = true then
    some 8
  else
    (addr_Width n s0 a1.Space).bind fun r10776 =>
    (addr_within n a1.N (IntKind.i64.wrap (r10776 - 1))).bind fun r10778 =>
    if (!r10778) = true then
      some 3
    else
      some 0
def printer_part (n : Nat) (s0 : ApiSize) (kind1 : Int) (a2 : ApiAddr) : Option (Int) :=
  if (decide (kind1 < 0)) = true then
    some 8
  else
    if (decide (kind1 ≥ 4)) = true then
      some 8
    else
      (addr_CheckAddr n s0 a2).bind fun r10780 =>
      some r10780
def printer_rung_J3 (n : Nat) (a2 : ApiRung) : Option (Int) :=
  if (!(decide (a2.Jump = (⟨#[]⟩ : Str)))) = true then
    (lex_IsName n a2.Jump).bind fun r10819 =>
    if (!r10819) = true then
      some 6
    else
      some 0
  else
    some 0
def printer_rung_L4 (n : Nat) (_append0 : ApiSize) (a2 : ApiRung) : Nat → Int → Option (Int)
  | 0, _ => none
  | rec_n4 + 1, p10823 =>
    if (decide (p10823 < (a2.Coils.length : Int))) = true then
      (atI a2.Coils p10823).bind fun x10827 =>
      (printer_part n _append0 x10827.Kind x10827.A).bind fun r10829 =>
      if (r10829 != 0) = true then
        some r10829
      else
        if (x10827.A.Space == 0) = true then
          some 2
        else
          (printer_rung_L4 n _append0 a2 rec_n4) (IntKind.i64.wrap (p10823 + 1))
    else
      printer_rung_J3 n a2
def printer_rung_J2 (n : Nat) (_append0 : ApiSize) (a2 : ApiRung) : Option (Int) :=
  if (decide ((a2.Coils.length : Int) > 16)) = true then
    some 10
  else
    printer_rung_L4 n _append0 a2 n 0
def printer_rung_L5 (n : Nat) (_append0 : ApiSize) (a2 : ApiRung) : Nat → Int → Option (Int)
  | 0, _ => none
  | rec_n5 + 1, p10839 =>
    if (decide (p10839 < (a2.Contacts.length : Int))) = true then
      (atI a2.Contacts p10839).bind fun x10849 =>
      (printer_part n _append0 x10849.Kind x10849.A).bind fun r10853 =>
      if (r10853 != 0) = true then
        some r10853
      else
        (lex_IsName n x10849.From).bind fun r10855 =>
        if (!r10855) = true then
          some 6
        else
          (lex_IsName n x10849.To).bind fun r10857 =>
          if (!r10857) = true then
            some 6
          else
            (printer_rung_L5 n _append0 a2 rec_n5) (IntKind.i64.wrap (p10839 + 1))
    else
      printer_rung_J2 n _append0 a2
def printer_rung_J1 (n : Nat) (_append0 : ApiSize) (a2 : ApiRung) : Option (Int) :=
  if (decide ((a2.Contacts.length : Int) > 256)) = true then
    some 10
  else
    printer_rung_L5 n _append0 a2 n 0
def printer_rung (n : Nat) (_append0 : ApiSize) (a1 : List ApiRung) (a2 : ApiRung) : Option (Int) :=
  if (!(decide (a2.Label = (⟨#[]⟩ : Str)))) = true then
    (lex_IsName n a2.Label).bind fun r10859 =>
    if (!r10859) = true then
      some 6
    else
      (slices_ContainsFunc_api_Rung_c117 n a1 a2).bind fun r10861 =>
      if r10861 = true then
        some 9
      else
        printer_rung_J1 n _append0 a2
  else
    printer_rung_J1 n _append0 a2
def printer_Check_1 (n : Nat) (x_0 : ApiRung) (b0 : ApiRung) : Option (Bool) :=
  some (decide (x_0.Label = b0.Jump))
def slices_IndexFunc_api_Rung_c90_L1 (n : Nat) (s0 : List ApiRung) (b0 : ApiRung) : Nat → Int → Option (Int)
  | 0, _ => none
  | rec_n1 + 1, p10888 =>
    if (decide (p10888 < (s0.length : Int))) = true then
      (atI s0 p10888).bind fun x10892 =>
      (printer_Check_1 n x10892 b0).bind fun r10894 =>
      if r10894 = true then
        some p10888
      else
        (slices_IndexFunc_api_Rung_c90_L1 n s0 b0 rec_n1) (IntKind.i64.wrap (p10888 + 1))
    else
      some (-1)
def slices_IndexFunc_api_Rung_c90 (n : Nat) (s0 : List ApiRung) (b0 : ApiRung) : Option (Int) :=
  slices_IndexFunc_api_Rung_c90_L1 n s0 b0 n 0
def slices_ContainsFunc_api_Rung_c90 (n : Nat) (s0 : List ApiRung) (b0 : ApiRung) : Option (Bool) :=
  (slices_IndexFunc_api_Rung_c90 n s0 b0).bind fun r10898 =>
  some (decide (r10898 ≥ 0))
def printer_Check_L2 (n : Nat) (_append0 : ApiLadder) : Nat → Int → Option (Int × Int)
  | 0, _ => none
  | rec_n2 + 1, p10901 =>
    if (decide (p10901 < (_append0.Rungs.length : Int))) = true then
      (atI _append0.Rungs p10901).bind fun x10906 =>
      if (!(decide (x10906.Jump = (⟨#[]⟩ : Str)))) = true then
        if 0 ≤ (IntKind.i64.wrap (p10901 + 1)) ∧ (IntKind.i64.wrap (p10901 + 1)) ≤ (_append0.Rungs.length : Int) ∧ (_append0.Rungs.length : Int) ≤ (_append0.Rungs.length : Int) then
          (some (_append0.Rungs.drop (IntKind.i64.wrap (p10901 + 1)).toNat)).bind fun l10907 =>
          (slices_ContainsFunc_api_Rung_c90 n l10907 x10906).bind fun r10909 =>
          if (!r10909) = true then
            some (p10901, 15)
          else
            (printer_Check_L2 n _append0 rec_n2) (IntKind.i64.wrap (p10901 + 1))
        else none
      else
        (printer_Check_L2 n _append0 rec_n2) (IntKind.i64.wrap (p10901 + 1))
    else
      some ((_append0.Rungs.length : Int), 0)
def printer_Check_J1 (n : Nat) (_append0 : ApiLadder) : Option (Int × Int) :=
  printer_Check_L2 n _append0 n 0
def printer_Check_L3 (n : Nat) (_append0 : ApiLadder) (r10722 : ApiSize) : Nat → Int → Option (Int × Int)
  | 0, _ => none
  | rec_n3 + 1, p10914 =>
    if (decide (p10914 < (_append0.Rungs.length : Int))) = true then
      (atI _append0.Rungs p10914).bind fun x10919 =>
      if 0 ≤ 0 ∧ 0 ≤ p10914 ∧ p10914 ≤ (_append0.Rungs.length : Int) then
        (some (_append0.Rungs.take p10914.toNat)).bind fun l10920 =>
        (printer_rung n r10722 l10920 x10919).bind fun r10922 =>
        if (r10922 != 0) = true then
          some (p10914, r10922)
        else
          (printer_Check_L3 n _append0 r10722 rec_n3) (IntKind.i64.wrap (p10914 + 1))
      else none
    else
      printer_Check_J1 n _append0
def printer_Check (n : Nat) (_append0 : ApiLadder) : Option (Int × Int) :=
  (printer_sizes n _append0).bind fun r10722 =>
  (addr_CheckSize n r10722).bind fun r10734 =>
  if (r10734 != 0) = true then
    some (0, 3)
  else
    if (decide ((_append0.Rungs.length : Int) > 64)) = true then
      some (0, 10)
    else
      printer_Check_L3 n _append0 r10722 n 0
def graph_Nodes_o0_L2 (p13143 : Int) (loop_1_graph_Nodes_o0 : Int → (List Str) → (List (Str × Bool)) → Option ((List Str))) (l13158 : List Str) : Nat → Int → (List Str) → (List (Str × Bool)) → Option ((List Str))
  | 0, _, _, _ => none
  | rec_n2 + 1, p13161, l13162, p13163 =>
    if (decide (p13161 < (l13158.length : Int))) = true then
      (atI l13158 p13161).bind fun x13166 =>
      if (!((mGet p13163 x13166).getD false)) = true then
        if l13162.length + ([x13166]).length ≤ 1000000000 then
          (some (l13162 ++ ([x13166]))).bind fun l13167 =>
          (graph_Nodes_o0_L2 p13143 loop_1_graph_Nodes_o0 l13158 rec_n2) (IntKind.i64.wrap (p13161 + 1)) l13167 (mPut p13163 x13166 true)
        else none
      else
        (graph_Nodes_o0_L2 p13143 loop_1_graph_Nodes_o0 l13158 rec_n2) (IntKind.i64.wrap (p13161 + 1)) l13162 p13163
    else
      loop_1_graph_Nodes_o0 (IntKind.i64.wrap (p13143 + 1)) l13162 p13163
def graph_Nodes_o0_L1 (n : Nat) (r_0 : ApiRung) : Nat → Int → (List Str) → (List (Str × Bool)) → Option ((List Str))
  | 0, _, _, _ => none
  | rec_n1 + 1, p13143, l13144, p13145 =>
    if (decide (p13143 < (r_0.Contacts.length : Int))) = true then
      (atI r_0.Contacts p13143).bind fun x13157 =>
      (some ([x13157.From, x13157.To])).bind fun l13158 =>
      graph_Nodes_o0_L2 p13143 (graph_Nodes_o0_L1 n r_0 rec_n1) l13158 n 0 l13144 p13145
    else
      some l13144
def graph_Nodes_o0 (n : Nat) (r_0 : ApiRung) : Option ((List Str)) :=
  (some ([(⟨#[76]⟩ : Str), (⟨#[82]⟩ : Str)])).bind fun l13131 =>
  graph_Nodes_o0_L1 n r_0 n 0 l13131 (mPut (mPut ([]) (⟨#[76]⟩ : Str) true) (⟨#[82]⟩ : Str) true)
def graph_Incoming_1 (n : Nat) (c0 : ApiContact) (b0 : Str) : Option (Bool) :=
  some (decide (c0.To = b0))
def graph_numbers_c99_L1 (n : Nat) (r_0 : ApiRung) (b0 : Str) : Nat → Int → (List Int) → Option ((List Int))
  | 0, _, _ => none
  | rec_n1 + 1, p13197, p13198 =>
    if (decide (p13197 < (r_0.Contacts.length : Int))) = true then
      (atI r_0.Contacts p13197).bind fun x13203 =>
      (graph_Incoming_1 n x13203 b0).bind fun r13205 =>
      if r13205 = true then
        if p13198.length + ([p13197]).length ≤ 1000000000 then
          (some (p13198 ++ ([p13197]))).bind fun l13206 =>
          (graph_numbers_c99_L1 n r_0 b0 rec_n1) (IntKind.i64.wrap (p13197 + 1)) l13206
        else none
      else
        (graph_numbers_c99_L1 n r_0 b0 rec_n1) (IntKind.i64.wrap (p13197 + 1)) p13198
    else
      some p13198
def graph_numbers_c99 (n : Nat) (r_0 : ApiRung) (b0 : Str) : Option ((List Int)) :=
  graph_numbers_c99_L1 n r_0 b0 n 0 ([])
def graph_Incoming (n : Nat) (r_0 : ApiRung) (node1 : Str) : Option ((List Int)) :=
  (graph_numbers_c99 n r_0 node1).bind fun r13208 =>
  some r13208
def graph_TopoSort_1_1 (n : Nat) (i_0 : Int) (m1 : List (Str × Bool)) (b2 : ApiRung) : Option (Bool) :=
  (atI b2.Contacts i_0).bind fun x13213 =>
  some (!((mGet m1 x13213.From).getD false))
def slices_IndexFunc_int_c75_L1 (n : Nat) (s0 : List Int) (m1 : List (Str × Bool)) (b2 : ApiRung) : Nat → Int → Option (Int)
  | 0, _ => none
  | rec_n1 + 1, p13226 =>
    if (decide (p13226 < (s0.length : Int))) = true then
      (atI s0 p13226).bind fun x13230 =>
      (graph_TopoSort_1_1 n x13230 m1 b2).bind fun r13232 =>
      if r13232 = true then
        some p13226
      else
        (slices_IndexFunc_int_c75_L1 n s0 m1 b2 rec_n1) (IntKind.i64.wrap (p13226 + 1))
    else
      some (-1)
def slices_IndexFunc_int_c75 (n : Nat) (s0 : List Int) (m1 : List (Str × Bool)) (b2 : ApiRung) : Option (Int) :=
  slices_IndexFunc_int_c75_L1 n s0 m1 b2 n 0
def slices_ContainsFunc_int_c75 (n : Nat) (s0 : List Int) (m1 : List (Str × Bool)) (b2 : ApiRung) : Option (Bool) :=
  (slices_IndexFunc_int_c75 n s0 m1 b2).bind fun r13236 =>
  some (decide (r13236 ≥ 0))
def graph_TopoSort_1 (n : Nat) (n_0 : Str) (b0 : ApiRung) (m2 : List (Str × Bool)) : Option (Bool) :=
  (graph_Incoming n b0 n_0).bind fun r13240 =>
  (slices_ContainsFunc_int_c75 n r13240 m2 b0).bind fun r13242 =>
  some (!r13242)
def slices_IndexFunc_string_c72_v1_L1 (n : Nat) (l0 : List Str) (b1 : ApiRung) (m3 : List (Str × Bool)) : Nat → Int → Option (Int)
  | 0, _ => none
  | rec_n1 + 1, p13255 =>
    if (decide (p13255 < (l0.length : Int))) = true then
      (atI l0 p13255).bind fun x13259 =>
      (graph_TopoSort_1 n x13259 b1 m3).bind fun r13261 =>
      if r13261 = true then
        some p13255
      else
        (slices_IndexFunc_string_c72_v1_L1 n l0 b1 m3 rec_n1) (IntKind.i64.wrap (p13255 + 1))
    else
      some (-1)
def slices_IndexFunc_string_c72_v1 (n : Nat) (l0 : List Str) (b1 : ApiRung) (m3 : List (Str × Bool)) : Option (Int) :=
  slices_IndexFunc_string_c72_v1_L1 n l0 b1 m3 n 0
def slices_Delete_string_v1 (n : Nat) (i_1 : Int) (j2 : Int) (l0 : List Str) : Option ((List Str)) :=
  if 0 ≤ i_1 ∧ i_1 ≤ j2 ∧ j2 ≤ (l0.length : Int) ∧ (l0.length : Int) ≤ (l0.length : Int) then
    if (i_1 == j2) = true then
      some l0
    else
      if 0 ≤ 0 ∧ 0 ≤ i_1 ∧ i_1 ≤ (l0.length : Int) then
        if 0 ≤ j2 ∧ j2 ≤ (l0.length : Int) ∧ (l0.length : Int) ≤ (l0.length : Int) then
          if i_1.toNat + (l0.length - j2.toNat) ≤ l0.length then
            (some (l0.take i_1.toNat ++ ((l0.drop j2.toNat) ++ l0.drop (i_1.toNat + (l0.length - j2.toNat))))).bind fun l13268 =>
            if 0 ≤ (((i_1.toNat + (l0.length - j2.toNat)) : Nat) : Int) ∧ (((i_1.toNat + (l0.length - j2.toNat)) : Nat) : Int) ≤ (l0.length : Int) ∧ (l0.length : Int) ≤ l13268.length then
              if ((i_1.toNat + (l0.length - j2.toNat)) + (l0.length - (i_1.toNat + (l0.length - j2.toNat)))) ≤ l13268.length then
                some (l13268.take (i_1.toNat + (l0.length - j2.toNat)))
              else none
            else none
          else none
        else none
      else none
  else none
def graph_TopoSort_L1 (n : Nat) (r_0 : ApiRung) : Nat → (List Str) → (List (Str × Bool)) → (List Str) → Option ((List Str) × Int)
  | 0, _, _, _ => none
  | rec_n1 + 1, r13271, p13272, p13273 =>
    if (decide ((r13271.length : Int) > 0)) = true then
      (slices_IndexFunc_string_c72_v1 n r13271 r_0 p13272).bind fun r13281 =>
      if (decide (r13281 < 0)) = true then
        some ([], 12)
      else
        (atI r13271 r13281).bind fun x13282 =>
        if p13273.length + ([x13282]).length ≤ 1000000000 then
          (some (p13273 ++ ([x13282]))).bind fun l13283 =>
          (slices_Delete_string_v1 n r13281 (IntKind.i64.wrap (r13281 + 1)) r13271).bind fun q13285 =>
          (graph_TopoSort_L1 n r_0 rec_n1) q13285 (mPut p13272 x13282 true) l13283
        else none
    else
      some (p13273, 0)
def graph_TopoSort (n : Nat) (r_0 : ApiRung) : Option ((List Str) × Int) :=
  (graph_Nodes_o0 n r_0).bind fun r13169 =>
  graph_TopoSort_L1 n r_0 n r13169 ([]) ([])
def slices_Index_string_L1 (s0 : List Str) (v1 : Str) : Nat → Int → Option (Int)
  | 0, _ => none
  | rec_n1 + 1, p14192 =>
    if (decide (p14192 < (s0.length : Int))) = true then
      (atI s0 p14192).bind fun x14194 =>
      if (decide (v1 = x14194)) = true then
        some p14192
      else
        (slices_Index_string_L1 s0 v1 rec_n1) (IntKind.i64.wrap (p14192 + 1))
    else
      some (-1)
def slices_Index_string (n : Nat) (s0 : List Str) (v1 : Str) : Option (Int) :=
  slices_Index_string_L1 s0 v1 n 0
def slices_Contains_string (n : Nat) (s0 : List Str) (v1 : Str) : Option (Bool) :=
  (slices_Index_string n s0 v1).bind fun r14196 =>
  some (decide (r14196 ≥ 0))
def graph_Outgoing_1 (n : Nat) (c0 : ApiContact) (b0 : Str) : Option (Bool) :=
  some (decide (c0.From = b0))
def graph_numbers_c129_L1 (n : Nat) (r_0 : ApiRung) (b0 : Str) : Nat → Int → (List Int) → Option ((List Int))
  | 0, _, _ => none
  | rec_n1 + 1, p14273, p14274 =>
    if (decide (p14273 < (r_0.Contacts.length : Int))) = true then
      (atI r_0.Contacts p14273).bind fun x14279 =>
      (graph_Outgoing_1 n x14279 b0).bind fun r14281 =>
      if r14281 = true then
        if p14274.length + ([p14273]).length ≤ 1000000000 then
          (some (p14274 ++ ([p14273]))).bind fun l14282 =>
          (graph_numbers_c129_L1 n r_0 b0 rec_n1) (IntKind.i64.wrap (p14273 + 1)) l14282
        else none
      else
        (graph_numbers_c129_L1 n r_0 b0 rec_n1) (IntKind.i64.wrap (p14273 + 1)) p14274
    else
      some p14274
def graph_numbers_c129 (n : Nat) (r_0 : ApiRung) (b0 : Str) : Option ((List Int)) :=
  graph_numbers_c129_L1 n r_0 b0 n 0 ([])
def graph_Outgoing (n : Nat) (r_0 : ApiRung) (node1 : Str) : Option ((List Int)) :=
  (graph_numbers_c129 n r_0 node1).bind fun r14284 =>
  some r14284
def graph_Reachable_1_L1 (b0 : ApiRung) (r14299 : List Int) : Nat → Int → (List Str) → Option ((List Str))
  | 0, _, _ => none
  | rec_n1 + 1, p14303, p14304 =>
    if (decide (p14303 < (r14299.length : Int))) = true then
      (atI r14299 p14303).bind fun x14308 =>
      (atI b0.Contacts x14308).bind fun x14309 =>
      if p14304.length + ([x14309.To]).length ≤ 1000000000 then
        (some (p14304 ++ ([x14309.To]))).bind fun l14310 =>
        (graph_Reachable_1_L1 b0 r14299 rec_n1) (IntKind.i64.wrap (p14303 + 1)) l14310
      else none
    else
      some p14304
def graph_Reachable_1 (n : Nat) (n_0 : Str) (b0 : ApiRung) : Option ((List Str)) :=
  (graph_Outgoing n b0 n_0).bind fun r14299 =>
  graph_Reachable_1_L1 b0 r14299 n 0 ([])
def graph_gather_1_c101_127_L1 (b3 : ApiRung) (r14331 : List Str) (slf_graph_gather_1_c101_127 : Str → (List (Str × Bool)) → ApiRung → Option ((List (Str × Bool)))) : Nat → (List (Str × Bool)) → Int → Option ((List (Str × Bool)))
  | 0, _, _ => none
  | rec_n1 + 1, p14335, p14336 =>
    if (decide (p14336 < (r14331.length : Int))) = true then
      (atI r14331 p14336).bind fun x14340 =>
      (slf_graph_gather_1_c101_127 x14340 p14335 b3).bind fun q14342 =>
      (graph_gather_1_c101_127_L1 b3 r14331 slf_graph_gather_1_c101_127 rec_n1) q14342 (IntKind.i64.wrap (p14336 + 1))
    else
      some p14335
def graph_gather_1_c101_127 : Nat → Str → (List (Str × Bool)) → ApiRung → Option ((List (Str × Bool)))
  | 0, _, _, _ => none
  | n + 1, n_0, m1, b3 =>
  if ((mGet m1 n_0).getD false) = true then
    some m1
  else
    (graph_Reachable_1 n n_0 b3).bind fun r14331 =>
    graph_gather_1_c101_127_L1 b3 r14331 (graph_gather_1_c101_127 n) n (mPut m1 n_0 true) 0
def graph_gather_2 (n : Nat) (n_0 : Str) (m1 : List (Str × Bool)) : Option (Bool) :=
  some (!((mGet m1 n_0).getD false))
def slices_IndexFunc_string_c128_v1_L1 (n : Nat) (l0 : List Str) (m2 : List (Str × Bool)) : Nat → Int → Option (Int)
  | 0, _ => none
  | rec_n1 + 1, p14380 =>
    if (decide (p14380 < (l0.length : Int))) = true then
      (atI l0 p14380).bind fun x14384 =>
      (graph_gather_2 n x14384 m2).bind fun r14386 =>
      if r14386 = true then
        some p14380
      else
        (slices_IndexFunc_string_c128_v1_L1 n l0 m2 rec_n1) (IntKind.i64.wrap (p14380 + 1))
    else
      some (-1)
def slices_IndexFunc_string_c128_v1 (n : Nat) (l0 : List Str) (m2 : List (Str × Bool)) : Option (Int) :=
  slices_IndexFunc_string_c128_v1_L1 n l0 m2 n 0
def slices_DeleteFunc_string_c128_v1_L1 (n : Nat) (m2 : List (Str × Bool)) : Nat → (List Str) → Int → Int → Option ((List Str))
  | 0, _, _, _ => none
  | rec_n1 + 1, l14415, r14416, p14417 =>
    if (decide (p14417 < (l14415.length : Int))) = true then
      (atI l14415 p14417).bind fun x14423 =>
      (graph_gather_2 n x14423 m2).bind fun r14425 =>
      if (!r14425) = true then
        (atI l14415 r14416).bind fun x14426 =>
        (some (l14415.set r14416.toNat x14423)).bind fun l14427 =>
        (slices_DeleteFunc_string_c128_v1_L1 n m2 rec_n1) l14427 (IntKind.i64.wrap (r14416 + 1)) (IntKind.i64.wrap (p14417 + 1))
      else
        (slices_DeleteFunc_string_c128_v1_L1 n m2 rec_n1) l14415 r14416 (IntKind.i64.wrap (p14417 + 1))
    else
      if 0 ≤ r14416 ∧ r14416 ≤ (l14415.length : Int) ∧ (l14415.length : Int) ≤ (l14415.length : Int) then
        if (r14416.toNat + (l14415.length - r14416.toNat)) ≤ l14415.length then
          if 0 ≤ 0 ∧ 0 ≤ r14416 ∧ r14416 ≤ (l14415.length : Int) then
            some (l14415.take r14416.toNat)
          else none
        else none
      else none
def slices_DeleteFunc_string_c128_v1 (n : Nat) (l0 : List Str) (m2 : List (Str × Bool)) : Option ((List Str)) :=
  (slices_IndexFunc_string_c128_v1 n l0 m2).bind fun r14409 =>
  if (r14409 == (-1)) = true then
    some l0
  else
    slices_DeleteFunc_string_c128_v1_L1 n m2 n l0 r14409 (IntKind.i64.wrap (r14409 + 1))
def graph_gather_c101 (n : Nat) (r_0 : ApiRung) (node1 : Str) (b0 : ApiRung) : Option ((List Str)) :=
  (graph_Nodes_o0 n r_0).bind fun r14431 =>
  (slices_Contains_string n r14431 node1).bind fun r14435 =>
  if (!r14435) = true then
    some ([])
  else
    (graph_gather_1_c101_127 n node1 ([]) b0).bind fun q14437 =>
    (slices_DeleteFunc_string_c128_v1 n r14431 q14437).bind fun q14439 =>
    some q14439
def graph_Reachable (n : Nat) (r_0 : ApiRung) (node1 : Str) : Option ((List Str)) :=
  (graph_gather_c101 n r_0 node1 r_0).bind fun r14441 =>
  some r14441
def graph_Ancestors_1_L1 (b0 : ApiRung) (r14587 : List Int) : Nat → Int → (List Str) → Option ((List Str))
  | 0, _, _ => none
  | rec_n1 + 1, p14591, p14592 =>
    if (decide (p14591 < (r14587.length : Int))) = true then
      (atI r14587 p14591).bind fun x14596 =>
      (atI b0.Contacts x14596).bind fun x14597 =>
      if p14592.length + ([x14597.From]).length ≤ 1000000000 then
        (some (p14592 ++ ([x14597.From]))).bind fun l14598 =>
        (graph_Ancestors_1_L1 b0 r14587 rec_n1) (IntKind.i64.wrap (p14591 + 1)) l14598
      else none
    else
      some p14592
def graph_Ancestors_1 (n : Nat) (n_0 : Str) (b0 : ApiRung) : Option ((List Str)) :=
  (graph_Incoming n b0 n_0).bind fun r14587 =>
  graph_Ancestors_1_L1 b0 r14587 n 0 ([])
def graph_gather_1_c103_127_L1 (b3 : ApiRung) (r14619 : List Str) (slf_graph_gather_1_c103_127 : Str → (List (Str × Bool)) → ApiRung → Option ((List (Str × Bool)))) : Nat → (List (Str × Bool)) → Int → Option ((List (Str × Bool)))
  | 0, _, _ => none
  | rec_n1 + 1, p14623, p14624 =>
    if (decide (p14624 < (r14619.length : Int))) = true then
      (atI r14619 p14624).bind fun x14628 =>
      (slf_graph_gather_1_c103_127 x14628 p14623 b3).bind fun q14630 =>
      (graph_gather_1_c103_127_L1 b3 r14619 slf_graph_gather_1_c103_127 rec_n1) q14630 (IntKind.i64.wrap (p14624 + 1))
    else
      some p14623
def graph_gather_1_c103_127 : Nat → Str → (List (Str × Bool)) → ApiRung → Option ((List (Str × Bool)))
  | 0, _, _, _ => none
  | n + 1, n_0, m1, b3 =>
  if ((mGet m1 n_0).getD false) = true then
    some m1
  else
    (graph_Ancestors_1 n n_0 b3).bind fun r14619 =>
    graph_gather_1_c103_127_L1 b3 r14619 (graph_gather_1_c103_127 n) n (mPut m1 n_0 true) 0
def graph_gather_c103 (n : Nat) (r_0 : ApiRung) (node1 : Str) (b0 : ApiRung) : Option ((List Str)) :=
  (graph_Nodes_o0 n r_0).bind fun r14636 =>
  (slices_Contains_string n r14636 node1).bind fun r14640 =>
  if (!r14640) = true then
    some ([])
  else
    (graph_gather_1_c103_127 n node1 ([]) b0).bind fun q14642 =>
    (slices_DeleteFunc_string_c128_v1 n r14636 q14642).bind fun q14644 =>
    some q14644
def graph_Ancestors (n : Nat) (r_0 : ApiRung) (node1 : Str) : Option ((List Str)) :=
  (graph_gather_c103 n r_0 node1 r_0).bind fun r14646 =>
  some r14646
def flow_DeadNodes_1 (n : Nat) (n_0 : Str) (b0 : List Str) (b1 : List Str) : Option (Bool) :=
  (slices_Contains_string n b0 n_0).bind fun r14687 =>
  if r14687 = true then
    (slices_Contains_string n b1 n_0).bind fun r14689 =>
    some r14689
  else
    some false
def slices_IndexFunc_string_c80_v1_L1 (n : Nat) (l0 : List Str) (b1 : List Str) (b2 : List Str) : Nat → Int → Option (Int)
  | 0, _ => none
  | rec_n1 + 1, p14702 =>
    if (decide (p14702 < (l0.length : Int))) = true then
      (atI l0 p14702).bind fun x14706 =>
      (flow_DeadNodes_1 n x14706 b1 b2).bind fun r14708 =>
      if r14708 = true then
        some p14702
      else
        (slices_IndexFunc_string_c80_v1_L1 n l0 b1 b2 rec_n1) (IntKind.i64.wrap (p14702 + 1))
    else
      some (-1)
def slices_IndexFunc_string_c80_v1 (n : Nat) (l0 : List Str) (b1 : List Str) (b2 : List Str) : Option (Int) :=
  slices_IndexFunc_string_c80_v1_L1 n l0 b1 b2 n 0
def slices_DeleteFunc_string_c80_L1 (n : Nat) (b1 : List Str) (b2 : List Str) : Nat → (List Str) → Int → Int → Option ((List Str))
  | 0, _, _, _ => none
  | rec_n1 + 1, l14737, r14738, p14739 =>
    if (decide (p14739 < (l14737.length : Int))) = true then
      (atI l14737 p14739).bind fun x14745 =>
      (flow_DeadNodes_1 n x14745 b1 b2).bind fun r14747 =>
      if (!r14747) = true then
        (atI l14737 r14738).bind fun x14748 =>
        (some (l14737.set r14738.toNat x14745)).bind fun l14749 =>
        (slices_DeleteFunc_string_c80_L1 n b1 b2 rec_n1) l14749 (IntKind.i64.wrap (r14738 + 1)) (IntKind.i64.wrap (p14739 + 1))
      else
        (slices_DeleteFunc_string_c80_L1 n b1 b2 rec_n1) l14737 r14738 (IntKind.i64.wrap (p14739 + 1))
    else
      if 0 ≤ r14738 ∧ r14738 ≤ (l14737.length : Int) ∧ (l14737.length : Int) ≤ (l14737.length : Int) then
        if (r14738.toNat + (l14737.length - r14738.toNat)) ≤ l14737.length then
          if 0 ≤ 0 ∧ 0 ≤ r14738 ∧ r14738 ≤ (l14737.length : Int) then
            some (l14737.take r14738.toNat)
          else none
        else none
      else none
def slices_DeleteFunc_string_c80 (n : Nat) (l0 : List Str) (b1 : List Str) (b2 : List Str) : Option ((List Str)) :=
  (slices_IndexFunc_string_c80_v1 n l0 b1 b2).bind fun r14731 =>
  if (r14731 == (-1)) = true then
    some l0
  else
    slices_DeleteFunc_string_c80_L1 n b1 b2 n l0 r14731 (IntKind.i64.wrap (r14731 + 1))
def flow_DeadNodes (n : Nat) (r_0 : ApiRung) : Option ((List Str)) :=
  (graph_Reachable n r_0 (⟨#[76]⟩ : Str)).bind fun r14443 =>
  (graph_Ancestors n r_0 (⟨#[82]⟩ : Str)).bind fun r14648 =>
  (graph_Nodes_o0 n r_0).bind fun r14650 =>
  (slices_DeleteFunc_string_c80 n r14650 r14443 r14648).bind fun q14751 =>
  some q14751
def flow_Check (n : Nat) (r_0 : ApiRung) : Option (Int) :=
  if ((r_0.Contacts.length : Int) == 0) = true then
    some 4
  else
    (graph_TopoSort n r_0).bind fun ⟨r13290, r13291⟩ =>
    if (r13291 != 0) = true then
      some r13291
    else
      (flow_DeadNodes n r_0).bind fun r14753 =>
      if (decide ((r14753.length : Int) > 0)) = true then
        some 13
      else
        some 0
def reduce_parallel_1 (n : Nat) (y0 : ReduceEdge) (b0 : ReduceEdge) : Option (Bool) :=
  some ((decide (y0.pair.from_ = b0.pair.from_)) && (decide (y0.pair.to_ = b0.pair.to_)))
def slices_IndexFunc_reduce_edge_c50_v1_L1 (n : Nat) (s0 : Nat) (l0 : List ReduceEdge) (b1 : ReduceEdge) : Nat → Int → Option (Int)
  | 0, _ => none
  | rec_n1 + 1, p14781 =>
    if (decide (p14781 < (((l0.length - s0) : Nat) : Int))) = true then
      (atI (l0.drop s0) p14781).bind fun x14785 =>
      (reduce_parallel_1 n x14785 b1).bind fun r14787 =>
      if r14787 = true then
        some p14781
      else
        (slices_IndexFunc_reduce_edge_c50_v1_L1 n s0 l0 b1 rec_n1) (IntKind.i64.wrap (p14781 + 1))
    else
      some (-1)
def slices_IndexFunc_reduce_edge_c50_v1 (n : Nat) (s0 : Nat) (l0 : List ReduceEdge) (b1 : ReduceEdge) : Option (Int) :=
  slices_IndexFunc_reduce_edge_c50_v1_L1 n s0 l0 b1 n 0
def reduce_join_L1 (kind0 : Int) (l14800 : List TreeTree) : Nat → Int → (List TreeTree) → Option (TreeTree)
  | 0, _, _ => none
  | rec_n1 + 1, p14803, p14804 =>
    if (decide (p14803 < (l14800.length : Int))) = true then
      (atI l14800 p14803).bind fun x14808 =>
      if (x14808.Kind == kind0) = true then
        if p14804.length + x14808.Kids.length ≤ 1000000000 then
          (some (p14804 ++ x14808.Kids)).bind fun l14809 =>
          (reduce_join_L1 kind0 l14800 rec_n1) (IntKind.i64.wrap (p14803 + 1)) l14809
        else none
      else
        if p14804.length + ([x14808]).length ≤ 1000000000 then
          (some (p14804 ++ ([x14808]))).bind fun l14810 =>
          (reduce_join_L1 kind0 l14800 rec_n1) (IntKind.i64.wrap (p14803 + 1)) l14810
        else none
    else
      some (⟨kind0, 0, p14804⟩ : TreeTree)
def reduce_join (n : Nat) (kind0 : Int) (a1 : TreeTree) (b2 : TreeTree) : Option (TreeTree) :=
  (some ([a1, b2])).bind fun l14800 =>
  reduce_join_L1 kind0 l14800 n 0 ([])
def slices_Delete_reduce_edge_v1 (n : Nat) (i_1 : Int) (j2 : Int) (l0 : List ReduceEdge) : Option ((List ReduceEdge)) :=
  if 0 ≤ i_1 ∧ i_1 ≤ j2 ∧ j2 ≤ (l0.length : Int) ∧ (l0.length : Int) ≤ (l0.length : Int) then
    if (i_1 == j2) = true then
      some l0
    else
      if 0 ≤ 0 ∧ 0 ≤ i_1 ∧ i_1 ≤ (l0.length : Int) then
        if 0 ≤ j2 ∧ j2 ≤ (l0.length : Int) ∧ (l0.length : Int) ≤ (l0.length : Int) then
          if i_1.toNat + (l0.length - j2.toNat) ≤ l0.length then
            (some (l0.take i_1.toNat ++ ((l0.drop j2.toNat) ++ l0.drop (i_1.toNat + (l0.length - j2.toNat))))).bind fun l14816 =>
            if 0 ≤ (((i_1.toNat + (l0.length - j2.toNat)) : Nat) : Int) ∧ (((i_1.toNat + (l0.length - j2.toNat)) : Nat) : Int) ≤ (l0.length : Int) ∧ (l0.length : Int) ≤ l14816.length then
              if ((i_1.toNat + (l0.length - j2.toNat)) + (l0.length - (i_1.toNat + (l0.length - j2.toNat)))) ≤ l14816.length then
                some (l14816.take (i_1.toNat + (l0.length - j2.toNat)))
              else none
            else none
          else none
        else none
      else none
  else none
def reduce_parallel_v1_L1 (n : Nat) (l0 : List ReduceEdge) : Nat → Int → Option (Bool × (List ReduceEdge))
  | 0, _ => none
  | rec_n1 + 1, p14848 =>
    if (decide (p14848 < (l0.length : Int))) = true then
      (atI l0 p14848).bind fun x14858 =>
      if 0 ≤ (IntKind.i64.wrap (p14848 + 1)) ∧ (IntKind.i64.wrap (p14848 + 1)) ≤ (l0.length : Int) ∧ (l0.length : Int) ≤ (l0.length : Int) then
        (slices_IndexFunc_reduce_edge_c50_v1 n ((IntKind.i64.wrap (p14848 + 1)).toNat) l0 x14858).bind fun r14860 =>
        if (decide (r14860 ≥ 0)) = true then
          (atI l0 (IntKind.i64.wrap ((IntKind.i64.wrap (p14848 + 1)) + r14860))).bind fun x14861 =>
          (reduce_join n 2 x14858.t_ x14861.t_).bind fun r14863 =>
          (some (l0.set p14848.toNat (⟨x14858.pair, r14863⟩ : ReduceEdge))).bind fun l14864 =>
          (slices_Delete_reduce_edge_v1 n (IntKind.i64.wrap ((IntKind.i64.wrap (p14848 + 1)) + r14860)) (IntKind.i64.wrap ((IntKind.i64.wrap (p14848 + 2)) + r14860)) l14864).bind fun q14866 =>
          some (true, q14866)
        else
          (reduce_parallel_v1_L1 n l0 rec_n1) (IntKind.i64.wrap (p14848 + 1))
      else none
    else
      some (false, l0)
def reduce_parallel_v1 (n : Nat) (l0 : List ReduceEdge) : Option (Bool × (List ReduceEdge)) :=
  reduce_parallel_v1_L1 n l0 n 0
def reduce_series_v1_J2 (n : Nat) (l0 : List ReduceEdge) (p15004 : Int) (loop_1_reduce_series_v1 : Int → Option (Bool × (List ReduceEdge))) (x15039 : ReduceEdge) (p15052 : Int) (p15053 : Int) (p15054 : Int) : Option (Bool × (List ReduceEdge)) :=
  if (p15052 == 1) = true then
    if (p15053 == 1) = true then
      (atI l0 p15054).bind fun x15055 =>
      (reduce_join n 1 x15039.t_ x15055.t_).bind fun r15057 =>
      (some (l0.set p15004.toNat (⟨(⟨x15039.pair.from_, x15055.pair.to_⟩ : ReducePair), r15057⟩ : ReduceEdge))).bind fun l15058 =>
      (slices_Delete_reduce_edge_v1 n p15054 (IntKind.i64.wrap (p15054 + 1)) l15058).bind fun q15060 =>
      some (true, q15060)
    else
      loop_1_reduce_series_v1 (IntKind.i64.wrap (p15004 + 1))
  else
    loop_1_reduce_series_v1 (IntKind.i64.wrap (p15004 + 1))
def reduce_series_v1_J4 (x15039 : ReduceEdge) (p15063 : Int) (p15065 : Int) (p15068 : Int) (loop_3_reduce_series_v1 : Int → Int → Int → Int → Option (Bool × (List ReduceEdge))) (x15071 : ReduceEdge) (p15072 : Int) : Option (Bool × (List ReduceEdge)) :=
  if (decide (x15071.pair.from_ = x15039.pair.to_)) = true then
    loop_3_reduce_series_v1 (IntKind.i64.wrap (p15063 + 1)) p15072 (IntKind.i64.wrap (p15065 + 1)) p15063
  else
    loop_3_reduce_series_v1 (IntKind.i64.wrap (p15063 + 1)) p15072 p15065 p15068
def reduce_series_v1_L3 (n : Nat) (l0 : List ReduceEdge) (p15004 : Int) (loop_1_reduce_series_v1 : Int → Option (Bool × (List ReduceEdge))) (x15039 : ReduceEdge) : Nat → Int → Int → Int → Int → Option (Bool × (List ReduceEdge))
  | 0, _, _, _, _ => none
  | rec_n3 + 1, p15063, p15064, p15065, p15068 =>
    if (decide (p15063 < (l0.length : Int))) = true then
      (atI l0 p15063).bind fun x15071 =>
      if (decide (x15071.pair.to_ = x15039.pair.to_)) = true then
        reduce_series_v1_J4 x15039 p15063 p15065 p15068 (reduce_series_v1_L3 n l0 p15004 loop_1_reduce_series_v1 x15039 rec_n3) x15071 (IntKind.i64.wrap (p15064 + 1))
      else
        reduce_series_v1_J4 x15039 p15063 p15065 p15068 (reduce_series_v1_L3 n l0 p15004 loop_1_reduce_series_v1 x15039 rec_n3) x15071 p15064
    else
      reduce_series_v1_J2 n l0 p15004 loop_1_reduce_series_v1 x15039 p15064 p15065 p15068
def reduce_series_v1_L1 (n : Nat) (l0 : List ReduceEdge) : Nat → Int → Option (Bool × (List ReduceEdge))
  | 0, _ => none
  | rec_n1 + 1, p15004 =>
    if (decide (p15004 < (l0.length : Int))) = true then
      (atI l0 p15004).bind fun x15039 =>
      if (decide (x15039.pair.to_ = (⟨#[76]⟩ : Str))) = true then
        (reduce_series_v1_L1 n l0 rec_n1) (IntKind.i64.wrap (p15004 + 1))
      else
        if (decide (x15039.pair.to_ = (⟨#[82]⟩ : Str))) = true then
          (reduce_series_v1_L1 n l0 rec_n1) (IntKind.i64.wrap (p15004 + 1))
        else
          reduce_series_v1_L3 n l0 p15004 (reduce_series_v1_L1 n l0 rec_n1) x15039 n 0 0 0 0
    else
      some (false, l0)
def reduce_series_v1 (n : Nat) (l0 : List ReduceEdge) : Option (Bool × (List ReduceEdge)) :=
  reduce_series_v1_L1 n l0 n 0
def tree_Leaves_L2 (t0 : TreeTree) (slf_tree_Leaves : TreeTree → Option ((List Int))) : Nat → Int → (List Int) → Option ((List Int))
  | 0, _, _ => none
  | rec_n2 + 1, p15130, p15131 =>
    if (decide (p15130 < (t0.Kids.length : Int))) = true then
      (atI t0.Kids p15130).bind fun x15136 =>
      (slf_tree_Leaves x15136).bind fun r15138 =>
      if p15131.length + r15138.length ≤ 1000000000 then
        (some (p15131 ++ r15138)).bind fun l15139 =>
        (tree_Leaves_L2 t0 slf_tree_Leaves rec_n2) (IntKind.i64.wrap (p15130 + 1)) l15139
      else none
    else
      some p15131
def tree_Leaves_J1 (n : Nat) (t0 : TreeTree) (slf_tree_Leaves : TreeTree → Option ((List Int))) (p15126 : Bool) : Option ((List Int)) :=
  if p15126 = true then
    tree_Leaves_L2 t0 slf_tree_Leaves n 0 ([])
  else
    some ([])
def tree_Leaves : Nat → TreeTree → Option ((List Int))
  | 0, _ => none
  | n + 1, t0 =>
  if (t0.Kind == 0) = true then
    (some ([t0.N])).bind fun l15125 =>
    some l15125
  else
    if (t0.Kind == 1) = true then
      tree_Leaves_J1 n t0 (tree_Leaves n) (t0.Kind == 1)
    else
      tree_Leaves_J1 n t0 (tree_Leaves n) (t0.Kind == 2)
def slices_Min_int_L1 (x_0 : List Int) : Nat → Int → Int → Option (Int)
  | 0, _, _ => none
  | rec_n1 + 1, x15144, p15145 =>
    if (decide (p15145 < (x_0.length : Int))) = true then
      (atI x_0 p15145).bind fun x15147 =>
      (slices_Min_int_L1 x_0 rec_n1) (imin x15144 x15147) (IntKind.i64.wrap (p15145 + 1))
    else
      some x15144
def slices_Min_int (n : Nat) (x_0 : List Int) : Option (Int) :=
  if (decide ((x_0.length : Int) < 1)) = true then
    none
  else
    (atI x_0 0).bind fun x15142 =>
    slices_Min_int_L1 x_0 n x15142 1
def cmp_isNaN_int (n : Nat) (x_0 : Int) : Option (Bool) :=
  some (x_0 != x_0)
def cmp_Compare_int (n : Nat) (x_0 : Int) (y1 : Int) : Option (Int) :=
  (cmp_isNaN_int n x_0).bind fun r15155 =>
  (cmp_isNaN_int n y1).bind fun r15157 =>
  if r15155 = true then
    if r15157 = true then
      some 0
    else
      some (-1)
  else
    if r15157 = true then
      some 1
    else
      if (decide (x_0 < y1)) = true then
        some (-1)
      else
        if (decide (x_0 > y1)) = true then
          some 1
        else
          some 0
def reduce_sorted_1 (n : Nat) (a0 : TreeTree) (b1 : TreeTree) : Option (Int) :=
  (tree_Leaves n a0).bind fun r15141 =>
  (slices_Min_int n r15141).bind fun r15149 =>
  (tree_Leaves n b1).bind fun r15151 =>
  (slices_Min_int n r15151).bind fun r15153 =>
  (cmp_Compare_int n r15149 r15153).bind fun r15159 =>
  some r15159
def slices_SortFunc_tree_Tree_c54 (n : Nat) (l0 : List TreeTree) : Option (List TreeTree) := sortM (fun a b => reduce_sorted_1 n a b) l0
def reduce_sorted_J1 (n : Nat) (t0 : TreeTree) (p15114 : List TreeTree) : Option (TreeTree) :=
  if (t0.Kind == 2) = true then
    (slices_SortFunc_tree_Tree_c54 n p15114).bind fun q15161 =>
    some (⟨t0.Kind, t0.N, q15161⟩ : TreeTree)
  else
    some (⟨t0.Kind, t0.N, p15114⟩ : TreeTree)
def reduce_sorted_L2 (n : Nat) (t0 : TreeTree) (slf_reduce_sorted : TreeTree → Option (TreeTree)) : Nat → Int → (List TreeTree) → Option (TreeTree)
  | 0, _, _ => none
  | rec_n2 + 1, p15166, p15167 =>
    if (decide (p15166 < (t0.Kids.length : Int))) = true then
      (atI t0.Kids p15166).bind fun x15172 =>
      (slf_reduce_sorted x15172).bind fun r15174 =>
      if p15167.length + ([r15174]).length ≤ 1000000000 then
        (some (p15167 ++ ([r15174]))).bind fun l15175 =>
        (reduce_sorted_L2 n t0 slf_reduce_sorted rec_n2) (IntKind.i64.wrap (p15166 + 1)) l15175
      else none
    else
      reduce_sorted_J1 n t0 p15167
def reduce_sorted : Nat → TreeTree → Option (TreeTree)
  | 0, _ => none
  | n + 1, t0 =>
  reduce_sorted_L2 n t0 (reduce_sorted n) n 0 ([])
def reduce_Reduce_J2 (n : Nat) (p15090 : List ReduceEdge) : Option (TreeTree × Int) :=
  if ((p15090.length : Int) != 1) = true then
    some ((⟨0, 0, []⟩ : TreeTree), 14)
  else
    (atI p15090 0).bind fun x15091 =>
    if (!((decide (x15091.pair.from_ = (⟨#[76]⟩ : Str))) && (decide (x15091.pair.to_ = (⟨#[82]⟩ : Str))))) = true then
      some ((⟨0, 0, []⟩ : TreeTree), 14)
    else
      (reduce_sorted n x15091.t_).bind fun r15177 =>
      some (r15177, 0)
def reduce_Reduce_L3 (n : Nat) : Nat → (List ReduceEdge) → Bool → Option (TreeTree × Int)
  | 0, _, _ => none
  | rec_n3 + 1, p15184, true15185 =>
    if true15185 = true then
      (reduce_parallel_v1 n p15184).bind fun ⟨r15193, q15194⟩ =>
      (reduce_series_v1 n q15194).bind fun ⟨r15196, q15197⟩ =>
      if r15193 = true then
        (reduce_Reduce_L3 n rec_n3) q15197 true
      else
        (reduce_Reduce_L3 n rec_n3) q15197 r15196
    else
      reduce_Reduce_J2 n p15184
def reduce_Reduce_J1 (n : Nat) (p14766 : List ReduceEdge) : Option (TreeTree × Int) :=
  reduce_Reduce_L3 n n p14766 true
def reduce_Reduce_L4 (n : Nat) (_append0 : ApiRung) : Nat → Int → (List ReduceEdge) → Option (TreeTree × Int)
  | 0, _, _ => none
  | rec_n4 + 1, p15200, p15201 =>
    if (decide (p15200 < (_append0.Contacts.length : Int))) = true then
      (atI _append0.Contacts p15200).bind fun x15204 =>
      if p15201.length + ([(⟨(⟨x15204.From, x15204.To⟩ : ReducePair), (⟨0, p15200, ([] : List TreeTree)⟩ : TreeTree)⟩ : ReduceEdge)]).length ≤ 1000000000 then
        (some (p15201 ++ ([(⟨(⟨x15204.From, x15204.To⟩ : ReducePair), (⟨0, p15200, ([] : List TreeTree)⟩ : TreeTree)⟩ : ReduceEdge)]))).bind fun l15205 =>
        (reduce_Reduce_L4 n _append0 rec_n4) (IntKind.i64.wrap (p15200 + 1)) l15205
      else none
    else
      reduce_Reduce_J1 n p15201
def reduce_Reduce (n : Nat) (_append0 : ApiRung) : Option (TreeTree × Int) :=
  (flow_Check n _append0).bind fun r14757 =>
  if (r14757 != 0) = true then
    some ((⟨0, 0, []⟩ : TreeTree), r14757)
  else
    reduce_Reduce_L4 n _append0 n 0 ([])
def codegen_sees (n : Nat) (c0 : ApiContact) : Option (Bool) :=
  if (c0.Kind == 2) = true then
    some true
  else
    some (c0.Kind == 3)
def tree_Tree_check_1 (n : Nat) (k0 : TreeTree) (b0 : TreeTree) : Option (Bool) :=
  some (k0.Kind == b0.Kind)
def slices_IndexFunc_tree_Tree_c66_L1 (n : Nat) (s0 : List TreeTree) (b0 : TreeTree) : Nat → Int → Option (Int)
  | 0, _ => none
  | rec_n1 + 1, p15241 =>
    if (decide (p15241 < (s0.length : Int))) = true then
      (atI s0 p15241).bind fun x15245 =>
      (tree_Tree_check_1 n x15245 b0).bind fun r15247 =>
      if r15247 = true then
        some p15241
      else
        (slices_IndexFunc_tree_Tree_c66_L1 n s0 b0 rec_n1) (IntKind.i64.wrap (p15241 + 1))
    else
      some (-1)
def slices_IndexFunc_tree_Tree_c66 (n : Nat) (s0 : List TreeTree) (b0 : TreeTree) : Option (Int) :=
  slices_IndexFunc_tree_Tree_c66_L1 n s0 b0 n 0
def slices_ContainsFunc_tree_Tree_c66 (n : Nat) (s0 : List TreeTree) (b0 : TreeTree) : Option (Bool) :=
  (slices_IndexFunc_tree_Tree_c66 n s0 b0).bind fun r15251 =>
  some (decide (r15251 ≥ 0))
def tree_Tree_check_L2 (_append0 : TreeTree) (a1 : Int) (slf_tree_Tree_check : TreeTree → Int → (List (Int × Bool)) → Option (Int × (List (Int × Bool)))) : Nat → (List (Int × Bool)) → Int → Option (Int × (List (Int × Bool)))
  | 0, _, _ => none
  | rec_n2 + 1, m15294, p15295 =>
    if (decide (p15295 < (_append0.Kids.length : Int))) = true then
      (atI _append0.Kids p15295).bind fun x15300 =>
      (slf_tree_Tree_check x15300 a1 m15294).bind fun ⟨r15302, q15303⟩ =>
      if (r15302 != 0) = true then
        some (r15302, q15303)
      else
        (tree_Tree_check_L2 _append0 a1 slf_tree_Tree_check rec_n2) q15303 (IntKind.i64.wrap (p15295 + 1))
    else
      some (0, m15294)
def tree_Tree_check_J1 (n : Nat) (_append0 : TreeTree) (a1 : Int) (m0 : List (Int × Bool)) (slf_tree_Tree_check : TreeTree → Int → (List (Int × Bool)) → Option (Int × (List (Int × Bool)))) : Option (Int × (List (Int × Bool))) :=
  tree_Tree_check_L2 _append0 a1 slf_tree_Tree_check n m0 0
def tree_Tree_check : Nat → TreeTree → Int → (List (Int × Bool)) → Option (Int × (List (Int × Bool)))
  | 0, _, _, _ => none
  | n + 1, _append0, a1, m0 =>
  if (decide (_append0.Kind < 0)) = true then
    some (8, m0)
  else
    if (decide (_append0.Kind > 2)) = true then
      some (8, m0)
    else
      if (_append0.Kind == 0) = true then
        if (decide ((_append0.Kids.length : Int) > 0)) = true then
          some (2, m0)
        else
          if (_append0.Kind != 0) = true then
            if (_append0.N != 0) = true then
              some (2, m0)
            else
              if (decide (_append0.N < 0)) = true then
                some (3, m0)
              else
                if (decide (_append0.N ≥ a1)) = true then
                  some (3, m0)
                else
                  if ((mGet m0 _append0.N).getD false) = true then
                    some (9, m0)
                  else
                    some (0, (mPut m0 _append0.N true))
          else
            if (decide (_append0.N < 0)) = true then
              some (3, m0)
            else
              if (decide (_append0.N ≥ a1)) = true then
                some (3, m0)
              else
                if ((mGet m0 _append0.N).getD false) = true then
                  some (9, m0)
                else
                  some (0, (mPut m0 _append0.N true))
      else
        if (_append0.Kind != 0) = true then
          if (_append0.N != 0) = true then
            some (2, m0)
          else
            if (decide ((_append0.Kids.length : Int) < 2)) = true then
              some (5, m0)
            else
              (slices_ContainsFunc_tree_Tree_c66 n _append0.Kids _append0).bind fun r15305 =>
              if r15305 = true then
                some (14, m0)
              else
                tree_Tree_check_J1 n _append0 a1 m0 (tree_Tree_check n)
        else
          if (decide ((_append0.Kids.length : Int) < 2)) = true then
            some (5, m0)
          else
            (slices_ContainsFunc_tree_Tree_c66 n _append0.Kids _append0).bind fun r15307 =>
            if r15307 = true then
              some (14, m0)
            else
              tree_Tree_check_J1 n _append0 a1 m0 (tree_Tree_check n)
def tree_Check (n : Nat) (t0 : TreeTree) (many1 : Int) : Option (Int) :=
  (tree_Tree_check n t0 many1 ([])).bind fun ⟨r15309, q15310⟩ =>
  if (r15309 == 0) = true then
    if (((q15310.length : Nat) : Int) != (imax 0 many1)) = true then
      some 4
    else
      some r15309
  else
    some r15309
def tree_Tree_depth_L1 (t0 : TreeTree) (edge1 : List Bool) (slf_tree_Tree_depth : TreeTree → (List Bool) → Option (Int)) : Nat → Int → Int → Option (Int)
  | 0, _, _ => none
  | rec_n1 + 1, p15321, p15322 =>
    if (decide (p15321 < (t0.Kids.length : Int))) = true then
      (atI t0.Kids p15321).bind fun x15331 =>
      if (p15321 == 0) = true then
        (slf_tree_Tree_depth x15331 edge1).bind fun r15333 =>
        (tree_Tree_depth_L1 t0 edge1 slf_tree_Tree_depth rec_n1) (IntKind.i64.wrap (p15321 + 1)) r15333
      else
        if (x15331.Kind != 0) = true then
          (slf_tree_Tree_depth x15331 edge1).bind fun r15335 =>
          (tree_Tree_depth_L1 t0 edge1 slf_tree_Tree_depth rec_n1) (IntKind.i64.wrap (p15321 + 1)) (imax p15322 (IntKind.i64.wrap (1 + r15335)))
        else
          (atI edge1 x15331.N).bind fun x15336 =>
          if x15336 = true then
            (slf_tree_Tree_depth x15331 edge1).bind fun r15338 =>
            (tree_Tree_depth_L1 t0 edge1 slf_tree_Tree_depth rec_n1) (IntKind.i64.wrap (p15321 + 1)) (imax p15322 (IntKind.i64.wrap (1 + r15338)))
          else
            (tree_Tree_depth_L1 t0 edge1 slf_tree_Tree_depth rec_n1) (IntKind.i64.wrap (p15321 + 1)) p15322
    else
      some p15322
def tree_Tree_depth : Nat → TreeTree → (List Bool) → Option (Int)
  | 0, _, _ => none
  | n + 1, t0, edge1 =>
  tree_Tree_depth_L1 t0 edge1 (tree_Tree_depth n) n 0 0
def tree_StackDepth (n : Nat) (t0 : TreeTree) (edge1 : List Bool) : Option (Int × Int) :=
  (tree_Check n t0 (edge1.length : Int)).bind fun r15312 =>
  if (r15312 != 0) = true then
    some (0, r15312)
  else
    (tree_Tree_depth n t0 edge1).bind fun r15340 =>
    some (r15340, 0)
def codegen_Tree_1 (n : Nat) (c0 : ApiContact) : Option (Bool) :=
  if (decide (c0.Kind < 0)) = true then
    some true
  else
    some (decide (c0.Kind ≥ 4))
def slices_IndexFunc_api_Contact_c36_L1 (n : Nat) (s0 : List ApiContact) : Nat → Int → Option (Int)
  | 0, _ => none
  | rec_n1 + 1, p15351 =>
    if (decide (p15351 < (s0.length : Int))) = true then
      (atI s0 p15351).bind fun x15355 =>
      (codegen_Tree_1 n x15355).bind fun r15357 =>
      if r15357 = true then
        some p15351
      else
        (slices_IndexFunc_api_Contact_c36_L1 n s0 rec_n1) (IntKind.i64.wrap (p15351 + 1))
    else
      some (-1)
def slices_IndexFunc_api_Contact_c36 (n : Nat) (s0 : List ApiContact) : Option (Int) :=
  slices_IndexFunc_api_Contact_c36_L1 n s0 n 0
def slices_ContainsFunc_api_Contact_c36 (n : Nat) (s0 : List ApiContact) : Option (Bool) :=
  (slices_IndexFunc_api_Contact_c36 n s0).bind fun r15359 =>
  some (decide (r15359 ≥ 0))
def codegen_maker_put_v1 (n : Nat) (x_1 : ApiIns) (b0 : Str) (b0_1 : List ApiContact) (b0_2 : List ApiCoil) (b0_3 : Str) (l1 : List Int) (l2 : List ApiIns) : Option ((List ApiIns)) :=
  if l2.length + ([x_1]).length ≤ 1000000000 then
    (some (l2 ++ ([x_1]))).bind fun l15462 =>
    some l15462
  else none
def codegen_maker_lay_v1_J2 (n : Nat) (a1 : TreeTree) (b0 : Str) (b0_1 : List ApiContact) (b0_2 : List ApiCoil) (b0_3 : Str) (l1 : List Int) (q15764 : List ApiIns) (p15765 : Int) (loop_1_codegen_maker_lay_v1 : (List ApiIns) → Int → Option ((List ApiIns))) (x15819 : TreeTree) (slf_codegen_maker_lay_v1 : TreeTree → Str → (List ApiContact) → (List ApiCoil) → Str → (List Int) → (List ApiIns) → Option ((List ApiIns))) : Option ((List ApiIns)) :=
  (codegen_maker_put_v1 n (⟨8, (⟨0, 0⟩ : ApiAddr), 0⟩ : ApiIns) b0 b0_1 b0_2 b0_3 l1 q15764).bind fun q15848 =>
  (slf_codegen_maker_lay_v1 x15819 b0 b0_1 b0_2 b0_3 l1 q15848).bind fun q15850 =>
  if a1.Kind = 0 then
    (codegen_maker_put_v1 n (⟨0, (⟨0, 0⟩ : ApiAddr), 0⟩ : ApiIns) b0 b0_1 b0_2 b0_3 l1 q15850).bind fun q15852 =>
    loop_1_codegen_maker_lay_v1 q15852 (IntKind.i64.wrap (p15765 + 1))
  else
    if a1.Kind = 1 then
      (codegen_maker_put_v1 n (⟨9, (⟨0, 0⟩ : ApiAddr), 0⟩ : ApiIns) b0 b0_1 b0_2 b0_3 l1 q15850).bind fun q15854 =>
      loop_1_codegen_maker_lay_v1 q15854 (IntKind.i64.wrap (p15765 + 1))
    else
      if a1.Kind = 2 then
        (codegen_maker_put_v1 n (⟨10, (⟨0, 0⟩ : ApiAddr), 0⟩ : ApiIns) b0 b0_1 b0_2 b0_3 l1 q15850).bind fun q15856 =>
        loop_1_codegen_maker_lay_v1 q15856 (IntKind.i64.wrap (p15765 + 1))
      else
        none
def codegen_maker_lay_v1_L1 (n : Nat) (a1 : TreeTree) (b0 : Str) (b0_1 : List ApiContact) (b0_2 : List ApiCoil) (b0_3 : Str) (l1 : List Int) (l15710 : List TreeTree) (slf_codegen_maker_lay_v1 : TreeTree → Str → (List ApiContact) → (List ApiCoil) → Str → (List Int) → (List ApiIns) → Option ((List ApiIns))) : Nat → (List ApiIns) → Int → Option ((List ApiIns))
  | 0, _, _ => none
  | rec_n1 + 1, q15764, p15765 =>
    if (decide (p15765 < (l15710.length : Int))) = true then
      (atI l15710 p15765).bind fun x15819 =>
      if (x15819.Kind == 0) = true then
        (atI b0_1 x15819.N).bind fun x15857 =>
        (codegen_sees n x15857).bind fun r15859 =>
        if (!r15859) = true then
          if a1.Kind = 0 then
            if x15857.Kind = 0 then
              (codegen_maker_put_v1 n (⟨0, x15857.A, 0⟩ : ApiIns) b0 b0_1 b0_2 b0_3 l1 q15764).bind fun q15861 =>
              (codegen_maker_lay_v1_L1 n a1 b0 b0_1 b0_2 b0_3 l1 l15710 slf_codegen_maker_lay_v1 rec_n1) q15861 (IntKind.i64.wrap (p15765 + 1))
            else
              if x15857.Kind = 1 then
                (codegen_maker_put_v1 n (⟨0, x15857.A, 0⟩ : ApiIns) b0 b0_1 b0_2 b0_3 l1 q15764).bind fun q15863 =>
                (codegen_maker_lay_v1_L1 n a1 b0 b0_1 b0_2 b0_3 l1 l15710 slf_codegen_maker_lay_v1 rec_n1) q15863 (IntKind.i64.wrap (p15765 + 1))
              else
                none
          else
            if a1.Kind = 1 then
              if x15857.Kind = 0 then
                (codegen_maker_put_v1 n (⟨2, x15857.A, 0⟩ : ApiIns) b0 b0_1 b0_2 b0_3 l1 q15764).bind fun q15865 =>
                (codegen_maker_lay_v1_L1 n a1 b0 b0_1 b0_2 b0_3 l1 l15710 slf_codegen_maker_lay_v1 rec_n1) q15865 (IntKind.i64.wrap (p15765 + 1))
              else
                if x15857.Kind = 1 then
                  (codegen_maker_put_v1 n (⟨3, x15857.A, 0⟩ : ApiIns) b0 b0_1 b0_2 b0_3 l1 q15764).bind fun q15867 =>
                  (codegen_maker_lay_v1_L1 n a1 b0 b0_1 b0_2 b0_3 l1 l15710 slf_codegen_maker_lay_v1 rec_n1) q15867 (IntKind.i64.wrap (p15765 + 1))
                else
                  none
            else
              if a1.Kind = 2 then
                if x15857.Kind = 0 then
                  (codegen_maker_put_v1 n (⟨4, x15857.A, 0⟩ : ApiIns) b0 b0_1 b0_2 b0_3 l1 q15764).bind fun q15869 =>
                  (codegen_maker_lay_v1_L1 n a1 b0 b0_1 b0_2 b0_3 l1 l15710 slf_codegen_maker_lay_v1 rec_n1) q15869 (IntKind.i64.wrap (p15765 + 1))
                else
                  if x15857.Kind = 1 then
                    (codegen_maker_put_v1 n (⟨5, x15857.A, 0⟩ : ApiIns) b0 b0_1 b0_2 b0_3 l1 q15764).bind fun q15871 =>
                    (codegen_maker_lay_v1_L1 n a1 b0 b0_1 b0_2 b0_3 l1 l15710 slf_codegen_maker_lay_v1 rec_n1) q15871 (IntKind.i64.wrap (p15765 + 1))
                  else
                    none
              else
                none
        else
          codegen_maker_lay_v1_J2 n a1 b0 b0_1 b0_2 b0_3 l1 q15764 p15765 (codegen_maker_lay_v1_L1 n a1 b0 b0_1 b0_2 b0_3 l1 l15710 slf_codegen_maker_lay_v1 rec_n1) x15819 slf_codegen_maker_lay_v1
      else
        codegen_maker_lay_v1_J2 n a1 b0 b0_1 b0_2 b0_3 l1 q15764 p15765 (codegen_maker_lay_v1_L1 n a1 b0 b0_1 b0_2 b0_3 l1 l15710 slf_codegen_maker_lay_v1 rec_n1) x15819 slf_codegen_maker_lay_v1
    else
      some q15764
def codegen_maker_lay_v1 : Nat → TreeTree → Str → (List ApiContact) → (List ApiCoil) → Str → (List Int) → (List ApiIns) → Option ((List ApiIns))
  | 0, _, _, _, _, _, _, _ => none
  | n + 1, a1, b0, b0_1, b0_2, b0_3, l1, l2 =>
  if (a1.Kind == 0) = true then
    (atI b0_1 a1.N).bind fun x15694 =>
    if x15694.Kind = 0 then
      (atI l1 a1.N).bind fun x15695 =>
      (codegen_maker_put_v1 n (⟨0, x15694.A, x15695⟩ : ApiIns) b0 b0_1 b0_2 b0_3 l1 l2).bind fun q15697 =>
      some q15697
    else
      if x15694.Kind = 1 then
        (atI l1 a1.N).bind fun x15698 =>
        (codegen_maker_put_v1 n (⟨1, x15694.A, x15698⟩ : ApiIns) b0 b0_1 b0_2 b0_3 l1 l2).bind fun q15700 =>
        some q15700
      else
        if x15694.Kind = 2 then
          (atI l1 a1.N).bind fun x15701 =>
          (codegen_maker_put_v1 n (⟨6, x15694.A, x15701⟩ : ApiIns) b0 b0_1 b0_2 b0_3 l1 l2).bind fun q15703 =>
          some q15703
        else
          if x15694.Kind = 3 then
            (atI l1 a1.N).bind fun x15704 =>
            (codegen_maker_put_v1 n (⟨7, x15694.A, x15704⟩ : ApiIns) b0 b0_1 b0_2 b0_3 l1 l2).bind fun q15706 =>
            some q15706
          else
            none
  else
    (atI a1.Kids 0).bind fun x15707 =>
    ((codegen_maker_lay_v1 n) x15707 b0 b0_1 b0_2 b0_3 l1 l2).bind fun q15709 =>
    if 0 ≤ 1 ∧ 1 ≤ (a1.Kids.length : Int) ∧ (a1.Kids.length : Int) ≤ (a1.Kids.length : Int) then
      (some (a1.Kids.drop 1)).bind fun l15710 =>
      codegen_maker_lay_v1_L1 n a1 b0 b0_1 b0_2 b0_3 l1 l15710 (codegen_maker_lay_v1 n) n q15709 0
    else none
def codegen_Tree_J1 (n : Nat) (r_0 : ApiRung) (t1 : TreeTree) (l15383 : List Int) : Option ((List ApiIns) × Int) :=
  (codegen_maker_lay_v1 n t1 r_0.Label r_0.Contacts r_0.Coils r_0.Jump l15383 ([] : List ApiIns)).bind fun q15873 =>
  some (q15873, 0)
def codegen_Tree_L2 (n : Nat) (r_0 : ApiRung) (t1 : TreeTree) : Nat → Int → Int → (List Int) → Option ((List ApiIns) × Int)
  | 0, _, _, _ => none
  | rec_n2 + 1, slot15879, p15880, l15881 =>
    if (decide (p15880 < (r_0.Contacts.length : Int))) = true then
      (atI r_0.Contacts p15880).bind fun x15887 =>
      (codegen_sees n x15887).bind fun r15889 =>
      if r15889 = true then
        (atI l15881 p15880).bind fun x15890 =>
        (some (l15881.set p15880.toNat slot15879)).bind fun l15891 =>
        (codegen_Tree_L2 n r_0 t1 rec_n2) (IntKind.i64.wrap (slot15879 + 1)) (IntKind.i64.wrap (p15880 + 1)) l15891
      else
        (codegen_Tree_L2 n r_0 t1 rec_n2) slot15879 (IntKind.i64.wrap (p15880 + 1)) l15881
    else
      codegen_Tree_J1 n r_0 t1 l15881
def codegen_Tree (n : Nat) (r_0 : ApiRung) (t1 : TreeTree) (slot2 : Int) : Option ((List ApiIns) × Int) :=
  (tree_Check n t1 (r_0.Contacts.length : Int)).bind fun r15347 =>
  if (r15347 != 0) = true then
    some ([], r15347)
  else
    (slices_ContainsFunc_api_Contact_c36 n r_0.Contacts).bind fun r15363 =>
    if r15363 = true then
      some ([], 8)
    else
      if (decide (slot2 < 0)) = true then
        some ([], 3)
      else
        if (decide (slot2 > 16384)) = true then
          some ([], 3)
        else
          if 0 ≤ (r_0.Contacts.length : Int) ∧ (r_0.Contacts.length : Int) ≤ (r_0.Contacts.length : Int) ∧ (r_0.Contacts.length : Int) ≤ 1000000000 then
            (some (List.replicate r_0.Contacts.length 0)).bind fun l15364 =>
            codegen_Tree_L2 n r_0 t1 n slot2 0 l15364
          else none
def codegen_contacts_J1 (n : Nat) (r_0 : ApiRung) (slot1 : Int) (r15207 : TreeTree) (l15227 : List Bool) : Option ((List ApiIns) × Int) :=
  (tree_StackDepth n r15207 l15227).bind fun ⟨r15342, r15343⟩ =>
  if (r15343 != 0) = true then
    some ([], r15343)
  else
    if (decide (r15342 > 64)) = true then
      some ([], 16)
    else
      (codegen_Tree n r_0 r15207 slot1).bind fun ⟨r15893, r15894⟩ =>
      some (r15893, r15894)
def codegen_contacts_L2 (n : Nat) (r_0 : ApiRung) (slot1 : Int) (r15207 : TreeTree) : Nat → Int → (List Bool) → Option ((List ApiIns) × Int)
  | 0, _, _ => none
  | rec_n2 + 1, p15900, l15901 =>
    if (decide (p15900 < (r_0.Contacts.length : Int))) = true then
      (atI r_0.Contacts p15900).bind fun x15907 =>
      (codegen_sees n x15907).bind fun r15909 =>
      (atI l15901 p15900).bind fun x15910 =>
      (some (l15901.set p15900.toNat r15909)).bind fun l15911 =>
      (codegen_contacts_L2 n r_0 slot1 r15207 rec_n2) (IntKind.i64.wrap (p15900 + 1)) l15911
    else
      codegen_contacts_J1 n r_0 slot1 r15207 l15901
def codegen_contacts (n : Nat) (r_0 : ApiRung) (slot1 : Int) : Option ((List ApiIns) × Int) :=
  (reduce_Reduce n r_0).bind fun ⟨r15207, r15208⟩ =>
  if (r15208 != 0) = true then
    some ([], r15208)
  else
    if 0 ≤ (r_0.Contacts.length : Int) ∧ (r_0.Contacts.length : Int) ≤ (r_0.Contacts.length : Int) ∧ (r_0.Contacts.length : Int) ≤ 1000000000 then
      (some (List.replicate r_0.Contacts.length false)).bind fun l15209 =>
      codegen_contacts_L2 n r_0 slot1 r15207 n 0 l15209
    else none
def codegen_Coils_L1 (r_0 : ApiRung) : Nat → Int → (List ApiIns) → Option ((List ApiIns) × Int)
  | 0, _, _ => none
  | rec_n1 + 1, p15924, p15925 =>
    if (decide (p15924 < (r_0.Coils.length : Int))) = true then
      (atI r_0.Coils p15924).bind fun x15931 =>
      if (decide (x15931.Kind < 0)) = true then
        some ([], 8)
      else
        if (decide (x15931.Kind ≥ 4)) = true then
          some ([], 8)
        else
          if x15931.Kind = 0 then
            if p15925.length + ([(⟨11, x15931.A, 0⟩ : ApiIns)]).length ≤ 1000000000 then
              (some (p15925 ++ ([(⟨11, x15931.A, 0⟩ : ApiIns)]))).bind fun l15932 =>
              (codegen_Coils_L1 r_0 rec_n1) (IntKind.i64.wrap (p15924 + 1)) l15932
            else none
          else
            if x15931.Kind = 1 then
              if p15925.length + ([(⟨12, x15931.A, 0⟩ : ApiIns)]).length ≤ 1000000000 then
                (some (p15925 ++ ([(⟨12, x15931.A, 0⟩ : ApiIns)]))).bind fun l15933 =>
                (codegen_Coils_L1 r_0 rec_n1) (IntKind.i64.wrap (p15924 + 1)) l15933
              else none
            else
              if x15931.Kind = 2 then
                if p15925.length + ([(⟨13, x15931.A, 0⟩ : ApiIns)]).length ≤ 1000000000 then
                  (some (p15925 ++ ([(⟨13, x15931.A, 0⟩ : ApiIns)]))).bind fun l15934 =>
                  (codegen_Coils_L1 r_0 rec_n1) (IntKind.i64.wrap (p15924 + 1)) l15934
                else none
              else
                if x15931.Kind = 3 then
                  if p15925.length + ([(⟨14, x15931.A, 0⟩ : ApiIns)]).length ≤ 1000000000 then
                    (some (p15925 ++ ([(⟨14, x15931.A, 0⟩ : ApiIns)]))).bind fun l15935 =>
                    (codegen_Coils_L1 r_0 rec_n1) (IntKind.i64.wrap (p15924 + 1)) l15935
                  else none
                else
                  none
    else
      some (p15925, 0)
def codegen_Coils (n : Nat) (r_0 : ApiRung) : Option ((List ApiIns) × Int) :=
  codegen_Coils_L1 r_0 n 0 ([])
def rungeval_sees (n : Nat) (c0 : ApiContact) : Option (Bool) :=
  if (c0.Kind == 2) = true then
    some true
  else
    some (c0.Kind == 3)
def rungeval_EdgeCount_L1 (n : Nat) (r_0 : ApiRung) : Nat → Int → Int → Option (Int)
  | 0, _, _ => none
  | rec_n1 + 1, p15943, p15944 =>
    if (decide (p15944 < (r_0.Contacts.length : Int))) = true then
      (atI r_0.Contacts p15944).bind fun x15948 =>
      (rungeval_sees n x15948).bind fun r15950 =>
      if r15950 = true then
        (rungeval_EdgeCount_L1 n r_0 rec_n1) (IntKind.i64.wrap (p15943 + 1)) (IntKind.i64.wrap (p15944 + 1))
      else
        (rungeval_EdgeCount_L1 n r_0 rec_n1) p15943 (IntKind.i64.wrap (p15944 + 1))
    else
      some p15943
def rungeval_EdgeCount (n : Nat) (r_0 : ApiRung) : Option (Int) :=
  rungeval_EdgeCount_L1 n r_0 n 0 0
def codegen_whole_J2 (_append0 : ApiLadder) (p15989 : Int) (p15991 : List Int) (p16006 : List ApiIns) : Option (ApiProgram × (List Int) × Int × Int) :=
  if p15991.length + ([(p16006.length : Int)]).length ≤ 1000000000 then
    (some (p15991 ++ ([(p16006.length : Int)]))).bind fun l16007 =>
    if p16006.length + ([(⟨16, (⟨0, 0⟩ : ApiAddr), 0⟩ : ApiIns)]).length ≤ 1000000000 then
      (some (p16006 ++ ([(⟨16, (⟨0, 0⟩ : ApiAddr), 0⟩ : ApiIns)]))).bind fun l16008 =>
      some ((⟨(⟨_append0.I, _append0.Q, _append0.M, p15989⟩ : ApiSize), l16008⟩ : ApiProgram), l16007, (_append0.Rungs.length : Int), 0)
    else none
  else none
def codegen_whole_L3 (_append0 : ApiLadder) (p15987 : List (Str × Int)) (p15989 : Int) (p15991 : List Int) : Nat → (List (Int × Str)) → (List ApiIns) → Option (ApiProgram × (List Int) × Int × Int)
  | 0, _, _ => none
  | rec_n3 + 1, p16013, p16014 =>
    if (p16013.isEmpty) = true then
      codegen_whole_J2 _append0 p15989 p15991 p16014
    else
      Agr p16013 fun e16019 m16020 =>
      (atI p16014 e16019.1).bind fun x16021 =>
      (some (p16014.set e16019.1.toNat (⟨x16021.Op, x16021.A, ((mGet p15987 e16019.2).getD 0)⟩ : ApiIns))).bind fun l16022 =>
      (codegen_whole_L3 _append0 p15987 p15989 p15991 rec_n3) m16020 l16022
def codegen_whole_J1 (n : Nat) (_append0 : ApiLadder) (p15987 : List (Str × Int)) (p15988 : List (Int × Str)) (p15989 : Int) (p15990 : List ApiIns) (p15991 : List Int) : Option (ApiProgram × (List Int) × Int × Int) :=
  codegen_whole_L3 _append0 p15987 p15989 p15991 n p15988 p15990
def codegen_whole_L4 (n : Nat) (_append0 : ApiLadder) : Nat → (List (Str × Int)) → (List (Int × Str)) → Int → Int → (List ApiIns) → (List Int) → Option (ApiProgram × (List Int) × Int × Int)
  | 0, _, _, _, _, _, _ => none
  | rec_n4 + 1, p16035, p16036, p16037, p16038, p16039, p16040 =>
    if (decide (p16037 < (_append0.Rungs.length : Int))) = true then
      (atI _append0.Rungs p16037).bind fun x16054 =>
      (codegen_contacts n x16054 p16038).bind fun ⟨r16056, r16057⟩ =>
      if (r16057 != 0) = true then
        some ((⟨(⟨0, 0, 0, 0⟩ : ApiSize), []⟩ : ApiProgram), [], p16037, r16057)
      else
        (codegen_Coils n x16054).bind fun ⟨r16059, r16060⟩ =>
        if (r16060 != 0) = true then
          some ((⟨(⟨0, 0, 0, 0⟩ : ApiSize), []⟩ : ApiProgram), [], p16037, r16060)
        else
          if p16040.length + ([(p16039.length : Int)]).length ≤ 1000000000 then
            (some (p16040 ++ ([(p16039.length : Int)]))).bind fun l16061 =>
            (rungeval_EdgeCount n x16054).bind fun r16063 =>
            if p16039.length + r16056.length ≤ 1000000000 then
              (some (p16039 ++ r16056)).bind fun l16064 =>
              if l16064.length + r16059.length ≤ 1000000000 then
                (some (l16064 ++ r16059)).bind fun l16065 =>
                if (!(decide (x16054.Jump = (⟨#[]⟩ : Str)))) = true then
                  if l16065.length + ([(⟨15, (⟨0, 0⟩ : ApiAddr), 0⟩ : ApiIns)]).length ≤ 1000000000 then
                    (some (l16065 ++ ([(⟨15, (⟨0, 0⟩ : ApiAddr), 0⟩ : ApiIns)]))).bind fun l16066 =>
                    (codegen_whole_L4 n _append0 rec_n4) (mPut p16035 x16054.Label (p16039.length : Int)) (mPut p16036 (l16065.length : Int) x16054.Jump) (IntKind.i64.wrap (p16037 + 1)) (IntKind.i64.wrap (p16038 + r16063)) l16066 l16061
                  else none
                else
                  (codegen_whole_L4 n _append0 rec_n4) (mPut p16035 x16054.Label (p16039.length : Int)) p16036 (IntKind.i64.wrap (p16037 + 1)) (IntKind.i64.wrap (p16038 + r16063)) l16065 l16061
              else none
            else none
          else none
    else
      codegen_whole_J1 n _append0 p16035 p16036 p16038 p16039 p16040
def codegen_whole (n : Nat) (_append0 : ApiLadder) : Option (ApiProgram × (List Int) × Int × Int) :=
  (printer_Check n _append0).bind fun ⟨r10927, r10928⟩ =>
  if (r10928 != 0) = true then
    some ((⟨(⟨0, 0, 0, 0⟩ : ApiSize), []⟩ : ApiProgram), [], r10927, r10928)
  else
    codegen_whole_L4 n _append0 n ([]) ([]) 0 0 ([]) ([])
def codegen_Ladder (n : Nat) (l0 : ApiLadder) : Option (ApiProgram × Int × Int) :=
  (codegen_whole n l0).bind fun ⟨r16068, r16069, r16070, r16071⟩ =>
  some (r16068, r16070, r16071)
def slices_Equal_api_Ins_L1 (s10 : List ApiIns) (s21 : List ApiIns) : Nat → Int → Option (Bool)
  | 0, _ => none
  | rec_n1 + 1, p16079 =>
    if (decide (p16079 < (s10.length : Int))) = true then
      (atI s10 p16079).bind fun x16082 =>
      (atI s21 p16079).bind fun x16083 =>
      if (!((x16082.Op == x16083.Op) && ((x16082.A.Space == x16083.A.Space) && ((x16082.A.N == x16083.A.N) && (x16082.N == x16083.N))))) = true then
        some false
      else
        (slices_Equal_api_Ins_L1 s10 s21 rec_n1) (IntKind.i64.wrap (p16079 + 1))
    else
      some true
def slices_Equal_api_Ins (n : Nat) (s10 : List ApiIns) (s21 : List ApiIns) : Option (Bool) :=
  if ((s10.length : Int) != (s21.length : Int)) = true then
    some false
  else
    slices_Equal_api_Ins_L1 s10 s21 n 0
def law17_alive (n : Nat) : Option (Bool) :=
  (law17_example n ).bind fun r60 =>
  (some ([r60])).bind fun l61 =>
  (codegen_Ladder n (⟨2, 1, 0, l61⟩ : ApiLadder)).bind fun ⟨r16073, r16074, r16075⟩ =>
  if (r16075 == 0) = true then
    if (r16074 == 1) = true then
      (some ([(⟨0, (⟨0, 0⟩ : ApiAddr), 0⟩ : ApiIns), (⟨3, (⟨0, 1⟩ : ApiAddr), 0⟩ : ApiIns), (⟨11, (⟨1, 0⟩ : ApiAddr), 0⟩ : ApiIns), (⟨16, (⟨0, 0⟩ : ApiAddr), 0⟩ : ApiIns)])).bind fun l16076 =>
      (slices_Equal_api_Ins n r16073.Code l16076).bind fun r16085 =>
      some r16085
    else
      some false
  else
    some false
def codegen_Starts (n : Nat) (l0 : ApiLadder) : Option ((List Int) × Int) :=
  (codegen_whole n l0).bind fun ⟨r16097, r16098, r16099, r16100⟩ =>
  some (r16098, r16100)
def law17_CodegenJumpTargets_L2 (_append0 : ApiLadder) (r16102 : List Int) (p16125 : Int) (loop_1_law17_CodegenJumpTargets : Int → Option (Bool)) (x16144 : ApiRung) (x16149 : ApiIns) : Nat → Int → Option (Bool)
  | 0, _ => none
  | rec_n2 + 1, p16152 =>
    if (decide (p16152 < (_append0.Rungs.length : Int))) = true then
      if (!(decide (x16144.Jump = (⟨#[]⟩ : Str)))) = true then
        (atI _append0.Rungs p16152).bind fun x16155 =>
        if (decide (x16155.Label = x16144.Jump)) = true then
          (atI r16102 p16152).bind fun x16156 =>
          if (x16149.N != x16156) = true then
            some false
          else
            (law17_CodegenJumpTargets_L2 _append0 r16102 p16125 loop_1_law17_CodegenJumpTargets x16144 x16149 rec_n2) (IntKind.i64.wrap (p16152 + 1))
        else
          (law17_CodegenJumpTargets_L2 _append0 r16102 p16125 loop_1_law17_CodegenJumpTargets x16144 x16149 rec_n2) (IntKind.i64.wrap (p16152 + 1))
      else
        (law17_CodegenJumpTargets_L2 _append0 r16102 p16125 loop_1_law17_CodegenJumpTargets x16144 x16149 rec_n2) (IntKind.i64.wrap (p16152 + 1))
    else
      loop_1_law17_CodegenJumpTargets (IntKind.i64.wrap (p16125 + 1))
def law17_CodegenJumpTargets_L1 (n : Nat) (_append0 : ApiLadder) (r16093 : ApiProgram) (r16102 : List Int) : Nat → Int → Option (Bool)
  | 0, _ => none
  | rec_n1 + 1, p16125 =>
    if (decide (p16125 < (_append0.Rungs.length : Int))) = true then
      (atI _append0.Rungs p16125).bind fun x16144 =>
      (atI r16102 (IntKind.i64.wrap (p16125 + 1))).bind fun x16147 =>
      (atI r16102 p16125).bind fun x16148 =>
      if (decide (x16147 ≤ x16148)) = true then
        some false
      else
        if (decide (x16147 > (r16093.Code.length : Int))) = true then
          some false
        else
          (atI r16093.Code (IntKind.i64.wrap (x16147 - 1))).bind fun x16149 =>
          if (!((x16149.Op == 15) == (!(decide (x16144.Jump = (⟨#[]⟩ : Str)))))) = true then
            some false
          else
            law17_CodegenJumpTargets_L2 _append0 r16102 p16125 (law17_CodegenJumpTargets_L1 n _append0 r16093 r16102 rec_n1) x16144 x16149 n 0
    else
      (law17_alive n ).bind fun r16158 =>
      some r16158
def law17_CodegenJumpTargets (n : Nat) (_append0 : ApiLadder) : Option (Bool) :=
  (law17_TooLarge n _append0).bind fun r16089 =>
  if (decide (r16089 > 0)) = true then
    (law17_alive n ).bind fun r16091 =>
    some r16091
  else
    (codegen_Ladder n _append0).bind fun ⟨r16093, r16094, r16095⟩ =>
    (codegen_Starts n _append0).bind fun ⟨r16102, r16103⟩ =>
    if (r16095 != r16103) = true then
      some false
    else
      if (r16095 != 0) = true then
        (law17_alive n ).bind fun r16107 =>
        if r16107 = true then
          some ((r16102.length : Int) == 0)
        else
          some false
      else
        if ((r16102.length : Int) != (IntKind.i64.wrap ((_append0.Rungs.length : Int) + 1))) = true then
          some false
        else
          (atI r16102 0).bind fun x16110 =>
          if (x16110 != 0) = true then
            some false
          else
            (atI r16102 (IntKind.i64.wrap ((r16102.length : Int) - 1))).bind fun x16111 =>
            if (x16111 != (IntKind.i64.wrap ((r16093.Code.length : Int) - 1))) = true then
              some false
            else
              law17_CodegenJumpTargets_L1 n _append0 r16093 r16102 n 0
end
end Go.G
