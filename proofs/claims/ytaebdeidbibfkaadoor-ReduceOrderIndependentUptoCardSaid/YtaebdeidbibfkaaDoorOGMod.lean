/- Models of functions of the program. -/
import Derived.Test.YtaebdeidbibfkaaDoorOGTy
set_option linter.unusedSimpArgs false
set_option linter.unusedVariables false
set_option linter.unusedSectionVars false
namespace Go.G
open Go.Av
def law12_TooLarge_J1 (r_0 : ApiRung) (p9476 : Int) : Option (Int) :=
  if (decide (p9476 > 2000)) = true then
    some 1
  else
    if (decide ((r_0.Contacts.length : Int) > 60)) = true then
      some 1
    else
      some 0

def law12_TooLarge_L2 (r_0 : ApiRung) : Nat → Int → Int → Option (Int)
  | 0, _, _ => none
  | rec_n2 + 1, p9478, p9479 =>
    if (decide (p9479 < (r_0.Contacts.length : Int))) = true then
      (atI r_0.Contacts p9479).bind fun x9481 =>
      (law12_TooLarge_L2 r_0 rec_n2) (IntKind.i64.wrap (p9478 + (IntKind.i64.wrap ((IntKind.i64.wrap (1 + (x9481.From.size : Int))) + (x9481.To.size : Int))))) (IntKind.i64.wrap (p9479 + 1))
    else
      law12_TooLarge_J1 r_0 p9478

def law12_TooLarge (n : Nat) (r_0 : ApiRung) : Option (Int) :=
  law12_TooLarge_L2 r_0 n 0 0

def law15_rung_L1 (l0 : List Str) : Nat → (List ApiContact) → Int → Option (ApiRung)
  | 0, _, _ => none
  | rec_n1 + 1, p9494, p9495 =>
    if (decide ((IntKind.i64.wrap (p9495 + 1)) < (l0.length : Int))) = true then
      (atI l0 p9495).bind fun x9499 =>
      (atI l0 (IntKind.i64.wrap (p9495 + 1))).bind fun x9500 =>
      if p9494.length + ([(⟨0, (⟨0, 0⟩ : ApiAddr), x9499, x9500⟩ : ApiContact)]).length ≤ 1000000000 then
        (some (p9494 ++ ([(⟨0, (⟨0, 0⟩ : ApiAddr), x9499, x9500⟩ : ApiContact)]))).bind fun l9501 =>
        (law15_rung_L1 l0 rec_n1) l9501 (IntKind.i64.wrap (p9495 + 2))
      else none
    else
      some (⟨(⟨#[]⟩ : Str), p9494, [], (⟨#[]⟩ : Str)⟩ : ApiRung)

def law15_rung (n : Nat) (l0 : List Str) : Option (ApiRung) :=
  law15_rung_L1 l0 n ([]) 0

def graph_Nodes_o0_L2 (p11717 : Int) (loop_1_graph_Nodes_o0 : Int → (List Str) → (List (Str × Bool)) → Option ((List Str))) (l11732 : List Str) : Nat → Int → (List Str) → (List (Str × Bool)) → Option ((List Str))
  | 0, _, _, _ => none
  | rec_n2 + 1, p11735, l11736, p11737 =>
    if (decide (p11735 < (l11732.length : Int))) = true then
      (atI l11732 p11735).bind fun x11740 =>
      if (!((mGet p11737 x11740).getD false)) = true then
        if l11736.length + ([x11740]).length ≤ 1000000000 then
          (some (l11736 ++ ([x11740]))).bind fun l11741 =>
          (graph_Nodes_o0_L2 p11717 loop_1_graph_Nodes_o0 l11732 rec_n2) (IntKind.i64.wrap (p11735 + 1)) l11741 (mPut p11737 x11740 true)
        else none
      else
        (graph_Nodes_o0_L2 p11717 loop_1_graph_Nodes_o0 l11732 rec_n2) (IntKind.i64.wrap (p11735 + 1)) l11736 p11737
    else
      loop_1_graph_Nodes_o0 (IntKind.i64.wrap (p11717 + 1)) l11736 p11737

def graph_Nodes_o0_L1 (n : Nat) (r_0 : ApiRung) : Nat → Int → (List Str) → (List (Str × Bool)) → Option ((List Str))
  | 0, _, _, _ => none
  | rec_n1 + 1, p11717, l11718, p11719 =>
    if (decide (p11717 < (r_0.Contacts.length : Int))) = true then
      (atI r_0.Contacts p11717).bind fun x11731 =>
      (some ([x11731.From, x11731.To])).bind fun l11732 =>
      graph_Nodes_o0_L2 p11717 (graph_Nodes_o0_L1 n r_0 rec_n1) l11732 n 0 l11718 p11719
    else
      some l11718

def graph_Nodes_o0 (n : Nat) (r_0 : ApiRung) : Option ((List Str)) :=
  (some ([(⟨#[76]⟩ : Str), (⟨#[82]⟩ : Str)])).bind fun l11705 =>
  graph_Nodes_o0_L1 n r_0 n 0 l11705 (mPut (mPut ([]) (⟨#[76]⟩ : Str) true) (⟨#[82]⟩ : Str) true)

def graph_Incoming_1 (n : Nat) (c0 : ApiContact) (b0 : Str) : Option (Bool) :=
  some (decide (c0.To = b0))

def graph_numbers_c99_L1 (n : Nat) (r_0 : ApiRung) (b0 : Str) : Nat → Int → (List Int) → Option ((List Int))
  | 0, _, _ => none
  | rec_n1 + 1, p11771, p11772 =>
    if (decide (p11771 < (r_0.Contacts.length : Int))) = true then
      (atI r_0.Contacts p11771).bind fun x11777 =>
      (graph_Incoming_1 n x11777 b0).bind fun r11779 =>
      if r11779 = true then
        if p11772.length + ([p11771]).length ≤ 1000000000 then
          (some (p11772 ++ ([p11771]))).bind fun l11780 =>
          (graph_numbers_c99_L1 n r_0 b0 rec_n1) (IntKind.i64.wrap (p11771 + 1)) l11780
        else none
      else
        (graph_numbers_c99_L1 n r_0 b0 rec_n1) (IntKind.i64.wrap (p11771 + 1)) p11772
    else
      some p11772

def graph_numbers_c99 (n : Nat) (r_0 : ApiRung) (b0 : Str) : Option ((List Int)) :=
  graph_numbers_c99_L1 n r_0 b0 n 0 ([])

def graph_Incoming (n : Nat) (r_0 : ApiRung) (node1 : Str) : Option ((List Int)) :=
  (graph_numbers_c99 n r_0 node1).bind fun r11782 =>
  some r11782

def graph_TopoSort_1_1 (n : Nat) (i_0 : Int) (m1 : List (Str × Bool)) (b2 : ApiRung) : Option (Bool) :=
  (atI b2.Contacts i_0).bind fun x11787 =>
  some (!((mGet m1 x11787.From).getD false))

def slices_IndexFunc_int_c75_L1 (n : Nat) (s0 : List Int) (m1 : List (Str × Bool)) (b2 : ApiRung) : Nat → Int → Option (Int)
  | 0, _ => none
  | rec_n1 + 1, p11800 =>
    if (decide (p11800 < (s0.length : Int))) = true then
      (atI s0 p11800).bind fun x11804 =>
      (graph_TopoSort_1_1 n x11804 m1 b2).bind fun r11806 =>
      if r11806 = true then
        some p11800
      else
        (slices_IndexFunc_int_c75_L1 n s0 m1 b2 rec_n1) (IntKind.i64.wrap (p11800 + 1))
    else
      some (-1)

def slices_IndexFunc_int_c75 (n : Nat) (s0 : List Int) (m1 : List (Str × Bool)) (b2 : ApiRung) : Option (Int) :=
  slices_IndexFunc_int_c75_L1 n s0 m1 b2 n 0

def slices_ContainsFunc_int_c75 (n : Nat) (s0 : List Int) (m1 : List (Str × Bool)) (b2 : ApiRung) : Option (Bool) :=
  (slices_IndexFunc_int_c75 n s0 m1 b2).bind fun r11810 =>
  some (decide (r11810 ≥ 0))

def graph_TopoSort_1 (n : Nat) (n_0 : Str) (b0 : ApiRung) (m2 : List (Str × Bool)) : Option (Bool) :=
  (graph_Incoming n b0 n_0).bind fun r11814 =>
  (slices_ContainsFunc_int_c75 n r11814 m2 b0).bind fun r11816 =>
  some (!r11816)

def slices_IndexFunc_string_c72_v1_L1 (n : Nat) (l0 : List Str) (b1 : ApiRung) (m3 : List (Str × Bool)) : Nat → Int → Option (Int)
  | 0, _ => none
  | rec_n1 + 1, p11829 =>
    if (decide (p11829 < (l0.length : Int))) = true then
      (atI l0 p11829).bind fun x11833 =>
      (graph_TopoSort_1 n x11833 b1 m3).bind fun r11835 =>
      if r11835 = true then
        some p11829
      else
        (slices_IndexFunc_string_c72_v1_L1 n l0 b1 m3 rec_n1) (IntKind.i64.wrap (p11829 + 1))
    else
      some (-1)

def slices_IndexFunc_string_c72_v1 (n : Nat) (l0 : List Str) (b1 : ApiRung) (m3 : List (Str × Bool)) : Option (Int) :=
  slices_IndexFunc_string_c72_v1_L1 n l0 b1 m3 n 0

def slices_Delete_string_v1 (n : Nat) (i_1 : Int) (j2 : Int) (l0 : List Str) : Option ((List Str)) :=
  if 0 ≤ i_1 ∧ i_1 ≤ j2 ∧ j2 ≤ (l0.length : Int) ∧ (l0.length : Int) ≤ (l0.length : Int) then
    if (i_1 == j2) = true then
      some l0
    else
      if 0 ≤ 0 ∧ 0 ≤ i_1 ∧ i_1 ≤ (l0.length : Int) then
        if 0 ≤ j2 ∧ j2 ≤ (l0.length : Int) ∧ (l0.length : Int) ≤ (l0.length : Int) then
          if i_1.toNat + (l0.length - j2.toNat) ≤ l0.length then
            (some (l0.take i_1.toNat ++ ((l0.drop j2.toNat) ++ l0.drop (i_1.toNat + (l0.length - j2.toNat))))).bind fun l11842 =>
            if 0 ≤ (((i_1.toNat + (l0.length - j2.toNat)) : Nat) : Int) ∧ (((i_1.toNat + (l0.length - j2.toNat)) : Nat) : Int) ≤ (l0.length : Int) ∧ (l0.length : Int) ≤ l11842.length then
              if ((i_1.toNat + (l0.length - j2.toNat)) + (l0.length - (i_1.toNat + (l0.length - j2.toNat)))) ≤ l11842.length then
                some (l11842.take (i_1.toNat + (l0.length - j2.toNat)))
              else none
            else none
          else none
        else none
      else none
  else none

def graph_TopoSort_L1 (n : Nat) (r_0 : ApiRung) : Nat → (List Str) → (List (Str × Bool)) → (List Str) → Option ((List Str) × Int)
  | 0, _, _, _ => none
  | rec_n1 + 1, r11845, p11846, p11847 =>
    if (decide ((r11845.length : Int) > 0)) = true then
      (slices_IndexFunc_string_c72_v1 n r11845 r_0 p11846).bind fun r11855 =>
      if (decide (r11855 < 0)) = true then
        some ([], 12)
      else
        (atI r11845 r11855).bind fun x11856 =>
        if p11847.length + ([x11856]).length ≤ 1000000000 then
          (some (p11847 ++ ([x11856]))).bind fun l11857 =>
          (slices_Delete_string_v1 n r11855 (IntKind.i64.wrap (r11855 + 1)) r11845).bind fun q11859 =>
          (graph_TopoSort_L1 n r_0 rec_n1) q11859 (mPut p11846 x11856 true) l11857
        else none
    else
      some (p11847, 0)

def graph_TopoSort (n : Nat) (r_0 : ApiRung) : Option ((List Str) × Int) :=
  (graph_Nodes_o0 n r_0).bind fun r11743 =>
  graph_TopoSort_L1 n r_0 n r11743 ([]) ([])

def slices_Index_string_L1 (s0 : List Str) (v1 : Str) : Nat → Int → Option (Int)
  | 0, _ => none
  | rec_n1 + 1, p12766 =>
    if (decide (p12766 < (s0.length : Int))) = true then
      (atI s0 p12766).bind fun x12768 =>
      if (decide (v1 = x12768)) = true then
        some p12766
      else
        (slices_Index_string_L1 s0 v1 rec_n1) (IntKind.i64.wrap (p12766 + 1))
    else
      some (-1)

def slices_Index_string (n : Nat) (s0 : List Str) (v1 : Str) : Option (Int) :=
  slices_Index_string_L1 s0 v1 n 0

def slices_Contains_string (n : Nat) (s0 : List Str) (v1 : Str) : Option (Bool) :=
  (slices_Index_string n s0 v1).bind fun r12770 =>
  some (decide (r12770 ≥ 0))

def graph_Outgoing_1 (n : Nat) (c0 : ApiContact) (b0 : Str) : Option (Bool) :=
  some (decide (c0.From = b0))

def graph_numbers_c129_L1 (n : Nat) (r_0 : ApiRung) (b0 : Str) : Nat → Int → (List Int) → Option ((List Int))
  | 0, _, _ => none
  | rec_n1 + 1, p12847, p12848 =>
    if (decide (p12847 < (r_0.Contacts.length : Int))) = true then
      (atI r_0.Contacts p12847).bind fun x12853 =>
      (graph_Outgoing_1 n x12853 b0).bind fun r12855 =>
      if r12855 = true then
        if p12848.length + ([p12847]).length ≤ 1000000000 then
          (some (p12848 ++ ([p12847]))).bind fun l12856 =>
          (graph_numbers_c129_L1 n r_0 b0 rec_n1) (IntKind.i64.wrap (p12847 + 1)) l12856
        else none
      else
        (graph_numbers_c129_L1 n r_0 b0 rec_n1) (IntKind.i64.wrap (p12847 + 1)) p12848
    else
      some p12848

def graph_numbers_c129 (n : Nat) (r_0 : ApiRung) (b0 : Str) : Option ((List Int)) :=
  graph_numbers_c129_L1 n r_0 b0 n 0 ([])

def graph_Outgoing (n : Nat) (r_0 : ApiRung) (node1 : Str) : Option ((List Int)) :=
  (graph_numbers_c129 n r_0 node1).bind fun r12858 =>
  some r12858

def graph_Reachable_1_L1 (b0 : ApiRung) (r12873 : List Int) : Nat → Int → (List Str) → Option ((List Str))
  | 0, _, _ => none
  | rec_n1 + 1, p12877, p12878 =>
    if (decide (p12877 < (r12873.length : Int))) = true then
      (atI r12873 p12877).bind fun x12882 =>
      (atI b0.Contacts x12882).bind fun x12883 =>
      if p12878.length + ([x12883.To]).length ≤ 1000000000 then
        (some (p12878 ++ ([x12883.To]))).bind fun l12884 =>
        (graph_Reachable_1_L1 b0 r12873 rec_n1) (IntKind.i64.wrap (p12877 + 1)) l12884
      else none
    else
      some p12878

def graph_Reachable_1 (n : Nat) (n_0 : Str) (b0 : ApiRung) : Option ((List Str)) :=
  (graph_Outgoing n b0 n_0).bind fun r12873 =>
  graph_Reachable_1_L1 b0 r12873 n 0 ([])

def graph_gather_1_c101_127_L1 (b3 : ApiRung) (r12905 : List Str) (slf_graph_gather_1_c101_127 : Str → (List (Str × Bool)) → ApiRung → Option ((List (Str × Bool)))) : Nat → (List (Str × Bool)) → Int → Option ((List (Str × Bool)))
  | 0, _, _ => none
  | rec_n1 + 1, p12909, p12910 =>
    if (decide (p12910 < (r12905.length : Int))) = true then
      (atI r12905 p12910).bind fun x12914 =>
      (slf_graph_gather_1_c101_127 x12914 p12909 b3).bind fun q12916 =>
      (graph_gather_1_c101_127_L1 b3 r12905 slf_graph_gather_1_c101_127 rec_n1) q12916 (IntKind.i64.wrap (p12910 + 1))
    else
      some p12909

def graph_gather_1_c101_127 : Nat → Str → (List (Str × Bool)) → ApiRung → Option ((List (Str × Bool)))
  | 0, _, _, _ => none
  | n + 1, n_0, m1, b3 =>
  if ((mGet m1 n_0).getD false) = true then
    some m1
  else
    (graph_Reachable_1 n n_0 b3).bind fun r12905 =>
    graph_gather_1_c101_127_L1 b3 r12905 (graph_gather_1_c101_127 n) n (mPut m1 n_0 true) 0

def graph_gather_2 (n : Nat) (n_0 : Str) (m1 : List (Str × Bool)) : Option (Bool) :=
  some (!((mGet m1 n_0).getD false))

def slices_IndexFunc_string_c128_v1_L1 (n : Nat) (l0 : List Str) (m2 : List (Str × Bool)) : Nat → Int → Option (Int)
  | 0, _ => none
  | rec_n1 + 1, p12954 =>
    if (decide (p12954 < (l0.length : Int))) = true then
      (atI l0 p12954).bind fun x12958 =>
      (graph_gather_2 n x12958 m2).bind fun r12960 =>
      if r12960 = true then
        some p12954
      else
        (slices_IndexFunc_string_c128_v1_L1 n l0 m2 rec_n1) (IntKind.i64.wrap (p12954 + 1))
    else
      some (-1)

def slices_IndexFunc_string_c128_v1 (n : Nat) (l0 : List Str) (m2 : List (Str × Bool)) : Option (Int) :=
  slices_IndexFunc_string_c128_v1_L1 n l0 m2 n 0

def slices_DeleteFunc_string_c128_v1_L1 (n : Nat) (m2 : List (Str × Bool)) : Nat → (List Str) → Int → Int → Option ((List Str))
  | 0, _, _, _ => none
  | rec_n1 + 1, l12989, r12990, p12991 =>
    if (decide (p12991 < (l12989.length : Int))) = true then
      (atI l12989 p12991).bind fun x12997 =>
      (graph_gather_2 n x12997 m2).bind fun r12999 =>
      if (!r12999) = true then
        (atI l12989 r12990).bind fun x13000 =>
        (some (l12989.set r12990.toNat x12997)).bind fun l13001 =>
        (slices_DeleteFunc_string_c128_v1_L1 n m2 rec_n1) l13001 (IntKind.i64.wrap (r12990 + 1)) (IntKind.i64.wrap (p12991 + 1))
      else
        (slices_DeleteFunc_string_c128_v1_L1 n m2 rec_n1) l12989 r12990 (IntKind.i64.wrap (p12991 + 1))
    else
      if 0 ≤ r12990 ∧ r12990 ≤ (l12989.length : Int) ∧ (l12989.length : Int) ≤ (l12989.length : Int) then
        if (r12990.toNat + (l12989.length - r12990.toNat)) ≤ l12989.length then
          if 0 ≤ 0 ∧ 0 ≤ r12990 ∧ r12990 ≤ (l12989.length : Int) then
            some (l12989.take r12990.toNat)
          else none
        else none
      else none

def slices_DeleteFunc_string_c128_v1 (n : Nat) (l0 : List Str) (m2 : List (Str × Bool)) : Option ((List Str)) :=
  (slices_IndexFunc_string_c128_v1 n l0 m2).bind fun r12983 =>
  if (r12983 == (-1)) = true then
    some l0
  else
    slices_DeleteFunc_string_c128_v1_L1 n m2 n l0 r12983 (IntKind.i64.wrap (r12983 + 1))

def graph_gather_c101 (n : Nat) (r_0 : ApiRung) (node1 : Str) (b0 : ApiRung) : Option ((List Str)) :=
  (graph_Nodes_o0 n r_0).bind fun r13005 =>
  (slices_Contains_string n r13005 node1).bind fun r13009 =>
  if (!r13009) = true then
    some ([])
  else
    (graph_gather_1_c101_127 n node1 ([]) b0).bind fun q13011 =>
    (slices_DeleteFunc_string_c128_v1 n r13005 q13011).bind fun q13013 =>
    some q13013

def graph_Reachable (n : Nat) (r_0 : ApiRung) (node1 : Str) : Option ((List Str)) :=
  (graph_gather_c101 n r_0 node1 r_0).bind fun r13015 =>
  some r13015

def graph_Ancestors_1_L1 (b0 : ApiRung) (r13161 : List Int) : Nat → Int → (List Str) → Option ((List Str))
  | 0, _, _ => none
  | rec_n1 + 1, p13165, p13166 =>
    if (decide (p13165 < (r13161.length : Int))) = true then
      (atI r13161 p13165).bind fun x13170 =>
      (atI b0.Contacts x13170).bind fun x13171 =>
      if p13166.length + ([x13171.From]).length ≤ 1000000000 then
        (some (p13166 ++ ([x13171.From]))).bind fun l13172 =>
        (graph_Ancestors_1_L1 b0 r13161 rec_n1) (IntKind.i64.wrap (p13165 + 1)) l13172
      else none
    else
      some p13166

def graph_Ancestors_1 (n : Nat) (n_0 : Str) (b0 : ApiRung) : Option ((List Str)) :=
  (graph_Incoming n b0 n_0).bind fun r13161 =>
  graph_Ancestors_1_L1 b0 r13161 n 0 ([])

def graph_gather_1_c103_127_L1 (b3 : ApiRung) (r13193 : List Str) (slf_graph_gather_1_c103_127 : Str → (List (Str × Bool)) → ApiRung → Option ((List (Str × Bool)))) : Nat → (List (Str × Bool)) → Int → Option ((List (Str × Bool)))
  | 0, _, _ => none
  | rec_n1 + 1, p13197, p13198 =>
    if (decide (p13198 < (r13193.length : Int))) = true then
      (atI r13193 p13198).bind fun x13202 =>
      (slf_graph_gather_1_c103_127 x13202 p13197 b3).bind fun q13204 =>
      (graph_gather_1_c103_127_L1 b3 r13193 slf_graph_gather_1_c103_127 rec_n1) q13204 (IntKind.i64.wrap (p13198 + 1))
    else
      some p13197

def graph_gather_1_c103_127 : Nat → Str → (List (Str × Bool)) → ApiRung → Option ((List (Str × Bool)))
  | 0, _, _, _ => none
  | n + 1, n_0, m1, b3 =>
  if ((mGet m1 n_0).getD false) = true then
    some m1
  else
    (graph_Ancestors_1 n n_0 b3).bind fun r13193 =>
    graph_gather_1_c103_127_L1 b3 r13193 (graph_gather_1_c103_127 n) n (mPut m1 n_0 true) 0

def graph_gather_c103 (n : Nat) (r_0 : ApiRung) (node1 : Str) (b0 : ApiRung) : Option ((List Str)) :=
  (graph_Nodes_o0 n r_0).bind fun r13210 =>
  (slices_Contains_string n r13210 node1).bind fun r13214 =>
  if (!r13214) = true then
    some ([])
  else
    (graph_gather_1_c103_127 n node1 ([]) b0).bind fun q13216 =>
    (slices_DeleteFunc_string_c128_v1 n r13210 q13216).bind fun q13218 =>
    some q13218

def graph_Ancestors (n : Nat) (r_0 : ApiRung) (node1 : Str) : Option ((List Str)) :=
  (graph_gather_c103 n r_0 node1 r_0).bind fun r13220 =>
  some r13220

def flow_DeadNodes_1 (n : Nat) (n_0 : Str) (b0 : List Str) (b1 : List Str) : Option (Bool) :=
  (slices_Contains_string n b0 n_0).bind fun r13261 =>
  if r13261 = true then
    (slices_Contains_string n b1 n_0).bind fun r13263 =>
    some r13263
  else
    some false

def slices_IndexFunc_string_c80_v1_L1 (n : Nat) (l0 : List Str) (b1 : List Str) (b2 : List Str) : Nat → Int → Option (Int)
  | 0, _ => none
  | rec_n1 + 1, p13276 =>
    if (decide (p13276 < (l0.length : Int))) = true then
      (atI l0 p13276).bind fun x13280 =>
      (flow_DeadNodes_1 n x13280 b1 b2).bind fun r13282 =>
      if r13282 = true then
        some p13276
      else
        (slices_IndexFunc_string_c80_v1_L1 n l0 b1 b2 rec_n1) (IntKind.i64.wrap (p13276 + 1))
    else
      some (-1)

def slices_IndexFunc_string_c80_v1 (n : Nat) (l0 : List Str) (b1 : List Str) (b2 : List Str) : Option (Int) :=
  slices_IndexFunc_string_c80_v1_L1 n l0 b1 b2 n 0

def slices_DeleteFunc_string_c80_L1 (n : Nat) (b1 : List Str) (b2 : List Str) : Nat → (List Str) → Int → Int → Option ((List Str))
  | 0, _, _, _ => none
  | rec_n1 + 1, l13311, r13312, p13313 =>
    if (decide (p13313 < (l13311.length : Int))) = true then
      (atI l13311 p13313).bind fun x13319 =>
      (flow_DeadNodes_1 n x13319 b1 b2).bind fun r13321 =>
      if (!r13321) = true then
        (atI l13311 r13312).bind fun x13322 =>
        (some (l13311.set r13312.toNat x13319)).bind fun l13323 =>
        (slices_DeleteFunc_string_c80_L1 n b1 b2 rec_n1) l13323 (IntKind.i64.wrap (r13312 + 1)) (IntKind.i64.wrap (p13313 + 1))
      else
        (slices_DeleteFunc_string_c80_L1 n b1 b2 rec_n1) l13311 r13312 (IntKind.i64.wrap (p13313 + 1))
    else
      if 0 ≤ r13312 ∧ r13312 ≤ (l13311.length : Int) ∧ (l13311.length : Int) ≤ (l13311.length : Int) then
        if (r13312.toNat + (l13311.length - r13312.toNat)) ≤ l13311.length then
          if 0 ≤ 0 ∧ 0 ≤ r13312 ∧ r13312 ≤ (l13311.length : Int) then
            some (l13311.take r13312.toNat)
          else none
        else none
      else none

def slices_DeleteFunc_string_c80 (n : Nat) (l0 : List Str) (b1 : List Str) (b2 : List Str) : Option ((List Str)) :=
  (slices_IndexFunc_string_c80_v1 n l0 b1 b2).bind fun r13305 =>
  if (r13305 == (-1)) = true then
    some l0
  else
    slices_DeleteFunc_string_c80_L1 n b1 b2 n l0 r13305 (IntKind.i64.wrap (r13305 + 1))

def flow_DeadNodes (n : Nat) (r_0 : ApiRung) : Option ((List Str)) :=
  (graph_Reachable n r_0 (⟨#[76]⟩ : Str)).bind fun r13017 =>
  (graph_Ancestors n r_0 (⟨#[82]⟩ : Str)).bind fun r13222 =>
  (graph_Nodes_o0 n r_0).bind fun r13224 =>
  (slices_DeleteFunc_string_c80 n r13224 r13017 r13222).bind fun q13325 =>
  some q13325

def flow_Check (n : Nat) (r_0 : ApiRung) : Option (Int) :=
  if ((r_0.Contacts.length : Int) == 0) = true then
    some 4
  else
    (graph_TopoSort n r_0).bind fun ⟨r11864, r11865⟩ =>
    if (r11865 != 0) = true then
      some r11865
    else
      (flow_DeadNodes n r_0).bind fun r13327 =>
      if (decide ((r13327.length : Int) > 0)) = true then
        some 13
      else
        some 0

def reduce_parallel_1 (n : Nat) (y0 : ReduceEdge) (b0 : ReduceEdge) : Option (Bool) :=
  some ((decide (y0.pair.from_ = b0.pair.from_)) && (decide (y0.pair.to_ = b0.pair.to_)))

def slices_IndexFunc_reduce_edge_c50_v1_L1 (n : Nat) (s0 : Nat) (l0 : List ReduceEdge) (b1 : ReduceEdge) : Nat → Int → Option (Int)
  | 0, _ => none
  | rec_n1 + 1, p13355 =>
    if (decide (p13355 < (((l0.length - s0) : Nat) : Int))) = true then
      (atI (l0.drop s0) p13355).bind fun x13359 =>
      (reduce_parallel_1 n x13359 b1).bind fun r13361 =>
      if r13361 = true then
        some p13355
      else
        (slices_IndexFunc_reduce_edge_c50_v1_L1 n s0 l0 b1 rec_n1) (IntKind.i64.wrap (p13355 + 1))
    else
      some (-1)

def slices_IndexFunc_reduce_edge_c50_v1 (n : Nat) (s0 : Nat) (l0 : List ReduceEdge) (b1 : ReduceEdge) : Option (Int) :=
  slices_IndexFunc_reduce_edge_c50_v1_L1 n s0 l0 b1 n 0

def reduce_join_L1 (kind0 : Int) (l13374 : List TreeTree) : Nat → Int → (List TreeTree) → Option (TreeTree)
  | 0, _, _ => none
  | rec_n1 + 1, p13377, p13378 =>
    if (decide (p13377 < (l13374.length : Int))) = true then
      (atI l13374 p13377).bind fun x13382 =>
      if (x13382.Kind == kind0) = true then
        if p13378.length + x13382.Kids.length ≤ 1000000000 then
          (some (p13378 ++ x13382.Kids)).bind fun l13383 =>
          (reduce_join_L1 kind0 l13374 rec_n1) (IntKind.i64.wrap (p13377 + 1)) l13383
        else none
      else
        if p13378.length + ([x13382]).length ≤ 1000000000 then
          (some (p13378 ++ ([x13382]))).bind fun l13384 =>
          (reduce_join_L1 kind0 l13374 rec_n1) (IntKind.i64.wrap (p13377 + 1)) l13384
        else none
    else
      some (⟨kind0, 0, p13378⟩ : TreeTree)

def reduce_join (n : Nat) (kind0 : Int) (a1 : TreeTree) (b2 : TreeTree) : Option (TreeTree) :=
  (some ([a1, b2])).bind fun l13374 =>
  reduce_join_L1 kind0 l13374 n 0 ([])

def slices_Delete_reduce_edge_v1 (n : Nat) (i_1 : Int) (j2 : Int) (l0 : List ReduceEdge) : Option ((List ReduceEdge)) :=
  if 0 ≤ i_1 ∧ i_1 ≤ j2 ∧ j2 ≤ (l0.length : Int) ∧ (l0.length : Int) ≤ (l0.length : Int) then
    if (i_1 == j2) = true then
      some l0
    else
      if 0 ≤ 0 ∧ 0 ≤ i_1 ∧ i_1 ≤ (l0.length : Int) then
        if 0 ≤ j2 ∧ j2 ≤ (l0.length : Int) ∧ (l0.length : Int) ≤ (l0.length : Int) then
          if i_1.toNat + (l0.length - j2.toNat) ≤ l0.length then
            (some (l0.take i_1.toNat ++ ((l0.drop j2.toNat) ++ l0.drop (i_1.toNat + (l0.length - j2.toNat))))).bind fun l13390 =>
            if 0 ≤ (((i_1.toNat + (l0.length - j2.toNat)) : Nat) : Int) ∧ (((i_1.toNat + (l0.length - j2.toNat)) : Nat) : Int) ≤ (l0.length : Int) ∧ (l0.length : Int) ≤ l13390.length then
              if ((i_1.toNat + (l0.length - j2.toNat)) + (l0.length - (i_1.toNat + (l0.length - j2.toNat)))) ≤ l13390.length then
                some (l13390.take (i_1.toNat + (l0.length - j2.toNat)))
              else none
            else none
          else none
        else none
      else none
  else none

def reduce_parallel_v1_L1 (n : Nat) (l0 : List ReduceEdge) : Nat → Int → Option (Bool × (List ReduceEdge))
  | 0, _ => none
  | rec_n1 + 1, p13422 =>
    if (decide (p13422 < (l0.length : Int))) = true then
      (atI l0 p13422).bind fun x13432 =>
      if 0 ≤ (IntKind.i64.wrap (p13422 + 1)) ∧ (IntKind.i64.wrap (p13422 + 1)) ≤ (l0.length : Int) ∧ (l0.length : Int) ≤ (l0.length : Int) then
        (slices_IndexFunc_reduce_edge_c50_v1 n ((IntKind.i64.wrap (p13422 + 1)).toNat) l0 x13432).bind fun r13434 =>
        if (decide (r13434 ≥ 0)) = true then
          (atI l0 (IntKind.i64.wrap ((IntKind.i64.wrap (p13422 + 1)) + r13434))).bind fun x13435 =>
          (reduce_join n 2 x13432.t_ x13435.t_).bind fun r13437 =>
          (some (l0.set p13422.toNat (⟨x13432.pair, r13437⟩ : ReduceEdge))).bind fun l13438 =>
          (slices_Delete_reduce_edge_v1 n (IntKind.i64.wrap ((IntKind.i64.wrap (p13422 + 1)) + r13434)) (IntKind.i64.wrap ((IntKind.i64.wrap (p13422 + 2)) + r13434)) l13438).bind fun q13440 =>
          some (true, q13440)
        else
          (reduce_parallel_v1_L1 n l0 rec_n1) (IntKind.i64.wrap (p13422 + 1))
      else none
    else
      some (false, l0)

def reduce_parallel_v1 (n : Nat) (l0 : List ReduceEdge) : Option (Bool × (List ReduceEdge)) :=
  reduce_parallel_v1_L1 n l0 n 0

def reduce_series_v1_J2 (n : Nat) (l0 : List ReduceEdge) (p13578 : Int) (loop_1_reduce_series_v1 : Int → Option (Bool × (List ReduceEdge))) (x13613 : ReduceEdge) (p13626 : Int) (p13627 : Int) (p13628 : Int) : Option (Bool × (List ReduceEdge)) :=
  if (p13626 == 1) = true then
    if (p13627 == 1) = true then
      (atI l0 p13628).bind fun x13629 =>
      (reduce_join n 1 x13613.t_ x13629.t_).bind fun r13631 =>
      (some (l0.set p13578.toNat (⟨(⟨x13613.pair.from_, x13629.pair.to_⟩ : ReducePair), r13631⟩ : ReduceEdge))).bind fun l13632 =>
      (slices_Delete_reduce_edge_v1 n p13628 (IntKind.i64.wrap (p13628 + 1)) l13632).bind fun q13634 =>
      some (true, q13634)
    else
      loop_1_reduce_series_v1 (IntKind.i64.wrap (p13578 + 1))
  else
    loop_1_reduce_series_v1 (IntKind.i64.wrap (p13578 + 1))

def reduce_series_v1_J4 (x13613 : ReduceEdge) (p13637 : Int) (p13639 : Int) (p13642 : Int) (loop_3_reduce_series_v1 : Int → Int → Int → Int → Option (Bool × (List ReduceEdge))) (x13645 : ReduceEdge) (p13646 : Int) : Option (Bool × (List ReduceEdge)) :=
  if (decide (x13645.pair.from_ = x13613.pair.to_)) = true then
    loop_3_reduce_series_v1 (IntKind.i64.wrap (p13637 + 1)) p13646 (IntKind.i64.wrap (p13639 + 1)) p13637
  else
    loop_3_reduce_series_v1 (IntKind.i64.wrap (p13637 + 1)) p13646 p13639 p13642

def reduce_series_v1_L3 (n : Nat) (l0 : List ReduceEdge) (p13578 : Int) (loop_1_reduce_series_v1 : Int → Option (Bool × (List ReduceEdge))) (x13613 : ReduceEdge) : Nat → Int → Int → Int → Int → Option (Bool × (List ReduceEdge))
  | 0, _, _, _, _ => none
  | rec_n3 + 1, p13637, p13638, p13639, p13642 =>
    if (decide (p13637 < (l0.length : Int))) = true then
      (atI l0 p13637).bind fun x13645 =>
      if (decide (x13645.pair.to_ = x13613.pair.to_)) = true then
        reduce_series_v1_J4 x13613 p13637 p13639 p13642 (reduce_series_v1_L3 n l0 p13578 loop_1_reduce_series_v1 x13613 rec_n3) x13645 (IntKind.i64.wrap (p13638 + 1))
      else
        reduce_series_v1_J4 x13613 p13637 p13639 p13642 (reduce_series_v1_L3 n l0 p13578 loop_1_reduce_series_v1 x13613 rec_n3) x13645 p13638
    else
      reduce_series_v1_J2 n l0 p13578 loop_1_reduce_series_v1 x13613 p13638 p13639 p13642

def reduce_series_v1_L1 (n : Nat) (l0 : List ReduceEdge) : Nat → Int → Option (Bool × (List ReduceEdge))
  | 0, _ => none
  | rec_n1 + 1, p13578 =>
    if (decide (p13578 < (l0.length : Int))) = true then
      (atI l0 p13578).bind fun x13613 =>
      if (decide (x13613.pair.to_ = (⟨#[76]⟩ : Str))) = true then
        (reduce_series_v1_L1 n l0 rec_n1) (IntKind.i64.wrap (p13578 + 1))
      else
        if (decide (x13613.pair.to_ = (⟨#[82]⟩ : Str))) = true then
          (reduce_series_v1_L1 n l0 rec_n1) (IntKind.i64.wrap (p13578 + 1))
        else
          reduce_series_v1_L3 n l0 p13578 (reduce_series_v1_L1 n l0 rec_n1) x13613 n 0 0 0 0
    else
      some (false, l0)

def reduce_series_v1 (n : Nat) (l0 : List ReduceEdge) : Option (Bool × (List ReduceEdge)) :=
  reduce_series_v1_L1 n l0 n 0

def tree_Leaves_L2 (t0 : TreeTree) (slf_tree_Leaves : TreeTree → Option ((List Int))) : Nat → Int → (List Int) → Option ((List Int))
  | 0, _, _ => none
  | rec_n2 + 1, p13704, p13705 =>
    if (decide (p13704 < (t0.Kids.length : Int))) = true then
      (atI t0.Kids p13704).bind fun x13710 =>
      (slf_tree_Leaves x13710).bind fun r13712 =>
      if p13705.length + r13712.length ≤ 1000000000 then
        (some (p13705 ++ r13712)).bind fun l13713 =>
        (tree_Leaves_L2 t0 slf_tree_Leaves rec_n2) (IntKind.i64.wrap (p13704 + 1)) l13713
      else none
    else
      some p13705

def tree_Leaves_J1 (n : Nat) (t0 : TreeTree) (slf_tree_Leaves : TreeTree → Option ((List Int))) (p13700 : Bool) : Option ((List Int)) :=
  if p13700 = true then
    tree_Leaves_L2 t0 slf_tree_Leaves n 0 ([])
  else
    some ([])

def tree_Leaves : Nat → TreeTree → Option ((List Int))
  | 0, _ => none
  | n + 1, t0 =>
  if (t0.Kind == 0) = true then
    (some ([t0.N])).bind fun l13699 =>
    some l13699
  else
    if (t0.Kind == 1) = true then
      tree_Leaves_J1 n t0 (tree_Leaves n) (t0.Kind == 1)
    else
      tree_Leaves_J1 n t0 (tree_Leaves n) (t0.Kind == 2)

def slices_Min_int_L1 (x_0 : List Int) : Nat → Int → Int → Option (Int)
  | 0, _, _ => none
  | rec_n1 + 1, x13718, p13719 =>
    if (decide (p13719 < (x_0.length : Int))) = true then
      (atI x_0 p13719).bind fun x13721 =>
      (slices_Min_int_L1 x_0 rec_n1) (imin x13718 x13721) (IntKind.i64.wrap (p13719 + 1))
    else
      some x13718

def slices_Min_int (n : Nat) (x_0 : List Int) : Option (Int) :=
  if (decide ((x_0.length : Int) < 1)) = true then
    none
  else
    (atI x_0 0).bind fun x13716 =>
    slices_Min_int_L1 x_0 n x13716 1

def cmp_isNaN_int (n : Nat) (x_0 : Int) : Option (Bool) :=
  some (x_0 != x_0)

def cmp_Compare_int (n : Nat) (x_0 : Int) (y1 : Int) : Option (Int) :=
  (cmp_isNaN_int n x_0).bind fun r13729 =>
  (cmp_isNaN_int n y1).bind fun r13731 =>
  if r13729 = true then
    if r13731 = true then
      some 0
    else
      some (-1)
  else
    if r13731 = true then
      some 1
    else
      if (decide (x_0 < y1)) = true then
        some (-1)
      else
        if (decide (x_0 > y1)) = true then
          some 1
        else
          some 0

def reduce_sorted_1 (n : Nat) (a0 : TreeTree) (b1 : TreeTree) : Option (Int) :=
  (tree_Leaves n a0).bind fun r13715 =>
  (slices_Min_int n r13715).bind fun r13723 =>
  (tree_Leaves n b1).bind fun r13725 =>
  (slices_Min_int n r13725).bind fun r13727 =>
  (cmp_Compare_int n r13723 r13727).bind fun r13733 =>
  some r13733

def slices_SortFunc_tree_Tree_c54 (n : Nat) (l0 : List TreeTree) : Option (List TreeTree) := sortM (fun a b => reduce_sorted_1 n a b) l0

def reduce_sorted_J1 (n : Nat) (t0 : TreeTree) (p13688 : List TreeTree) : Option (TreeTree) :=
  if (t0.Kind == 2) = true then
    (slices_SortFunc_tree_Tree_c54 n p13688).bind fun q13735 =>
    some (⟨t0.Kind, t0.N, q13735⟩ : TreeTree)
  else
    some (⟨t0.Kind, t0.N, p13688⟩ : TreeTree)

def reduce_sorted_L2 (n : Nat) (t0 : TreeTree) (slf_reduce_sorted : TreeTree → Option (TreeTree)) : Nat → Int → (List TreeTree) → Option (TreeTree)
  | 0, _, _ => none
  | rec_n2 + 1, p13740, p13741 =>
    if (decide (p13740 < (t0.Kids.length : Int))) = true then
      (atI t0.Kids p13740).bind fun x13746 =>
      (slf_reduce_sorted x13746).bind fun r13748 =>
      if p13741.length + ([r13748]).length ≤ 1000000000 then
        (some (p13741 ++ ([r13748]))).bind fun l13749 =>
        (reduce_sorted_L2 n t0 slf_reduce_sorted rec_n2) (IntKind.i64.wrap (p13740 + 1)) l13749
      else none
    else
      reduce_sorted_J1 n t0 p13741

def reduce_sorted : Nat → TreeTree → Option (TreeTree)
  | 0, _ => none
  | n + 1, t0 =>
  reduce_sorted_L2 n t0 (reduce_sorted n) n 0 ([])

def reduce_Reduce_J2 (n : Nat) (p13664 : List ReduceEdge) : Option (TreeTree × Int) :=
  if ((p13664.length : Int) != 1) = true then
    some ((⟨0, 0, []⟩ : TreeTree), 14)
  else
    (atI p13664 0).bind fun x13665 =>
    if (!((decide (x13665.pair.from_ = (⟨#[76]⟩ : Str))) && (decide (x13665.pair.to_ = (⟨#[82]⟩ : Str))))) = true then
      some ((⟨0, 0, []⟩ : TreeTree), 14)
    else
      (reduce_sorted n x13665.t_).bind fun r13751 =>
      some (r13751, 0)

def reduce_Reduce_L3 (n : Nat) : Nat → (List ReduceEdge) → Bool → Option (TreeTree × Int)
  | 0, _, _ => none
  | rec_n3 + 1, p13758, true13759 =>
    if true13759 = true then
      (reduce_parallel_v1 n p13758).bind fun ⟨r13767, q13768⟩ =>
      (reduce_series_v1 n q13768).bind fun ⟨r13770, q13771⟩ =>
      if r13767 = true then
        (reduce_Reduce_L3 n rec_n3) q13771 true
      else
        (reduce_Reduce_L3 n rec_n3) q13771 r13770
    else
      reduce_Reduce_J2 n p13758

def reduce_Reduce_J1 (n : Nat) (p13340 : List ReduceEdge) : Option (TreeTree × Int) :=
  reduce_Reduce_L3 n n p13340 true

def reduce_Reduce_L4 (n : Nat) (_append0 : ApiRung) : Nat → Int → (List ReduceEdge) → Option (TreeTree × Int)
  | 0, _, _ => none
  | rec_n4 + 1, p13774, p13775 =>
    if (decide (p13774 < (_append0.Contacts.length : Int))) = true then
      (atI _append0.Contacts p13774).bind fun x13778 =>
      if p13775.length + ([(⟨(⟨x13778.From, x13778.To⟩ : ReducePair), (⟨0, p13774, ([] : List TreeTree)⟩ : TreeTree)⟩ : ReduceEdge)]).length ≤ 1000000000 then
        (some (p13775 ++ ([(⟨(⟨x13778.From, x13778.To⟩ : ReducePair), (⟨0, p13774, ([] : List TreeTree)⟩ : TreeTree)⟩ : ReduceEdge)]))).bind fun l13779 =>
        (reduce_Reduce_L4 n _append0 rec_n4) (IntKind.i64.wrap (p13774 + 1)) l13779
      else none
    else
      reduce_Reduce_J1 n p13775

def reduce_Reduce (n : Nat) (_append0 : ApiRung) : Option (TreeTree × Int) :=
  (flow_Check n _append0).bind fun r13331 =>
  if (r13331 != 0) = true then
    some ((⟨0, 0, []⟩ : TreeTree), r13331)
  else
    reduce_Reduce_L4 n _append0 n 0 ([])

def strconv_Itoa (n : Nat) (i : Int) : Option Str := if 0 ≤ i ∧ i < 100 then some (dec2 i.toNat) else none

def strings_Join (n : Nat) (l : List Str) (sep : Str) : Option Str := if l.length ≤ 140737488355328 ∧ (joinS l sep).size ≤ 140737488355328 then some (joinS l sep) else none

def tree_Format_J2 (n : Nat) (p13819 : List Str) : Option (Str) :=
  (strings_Join n p13819 (⟨#[32]⟩ : Str)).bind fun r13821 =>
  if (Utf8.encode 0).size + r13821.size ≤ 1000000000 then
    if ((Utf8.encode 0) ++ r13821).size + (Utf8.encode 0).size ≤ 1000000000 then
      some (((Utf8.encode 0) ++ r13821) ++ (Utf8.encode 0))
    else none
  else none

def tree_Format_L3 (n : Nat) (t0 : TreeTree) (slf_tree_Format : TreeTree → Option (Str)) : Nat → Int → (List Str) → Option (Str)
  | 0, _, _ => none
  | rec_n3 + 1, p13826, p13827 =>
    if (decide (p13826 < (t0.Kids.length : Int))) = true then
      (atI t0.Kids p13826).bind fun x13832 =>
      (slf_tree_Format x13832).bind fun r13834 =>
      if p13827.length + ([r13834]).length ≤ 1000000000 then
        (some (p13827 ++ ([r13834]))).bind fun l13835 =>
        (tree_Format_L3 n t0 slf_tree_Format rec_n3) (IntKind.i64.wrap (p13826 + 1)) l13835
      else none
    else
      tree_Format_J2 n p13827

def tree_Format_J4 (n : Nat) (p13850 : List Str) : Option (Str) :=
  (strings_Join n p13850 (⟨#[32]⟩ : Str)).bind fun r13852 =>
  if (Utf8.encode 91).size + r13852.size ≤ 1000000000 then
    if ((Utf8.encode 91) ++ r13852).size + (Utf8.encode 93).size ≤ 1000000000 then
      some (((Utf8.encode 91) ++ r13852) ++ (Utf8.encode 93))
    else none
  else none

def tree_Format_L5 (n : Nat) (t0 : TreeTree) (slf_tree_Format : TreeTree → Option (Str)) : Nat → Int → (List Str) → Option (Str)
  | 0, _, _ => none
  | rec_n5 + 1, p13857, p13858 =>
    if (decide (p13857 < (t0.Kids.length : Int))) = true then
      (atI t0.Kids p13857).bind fun x13863 =>
      (slf_tree_Format x13863).bind fun r13865 =>
      if p13858.length + ([r13865]).length ≤ 1000000000 then
        (some (p13858 ++ ([r13865]))).bind fun l13866 =>
        (tree_Format_L5 n t0 slf_tree_Format rec_n5) (IntKind.i64.wrap (p13857 + 1)) l13866
      else none
    else
      tree_Format_J4 n p13858

def tree_Format_J6 (n : Nat) (p13881 : List Str) : Option (Str) :=
  (strings_Join n p13881 (⟨#[32]⟩ : Str)).bind fun r13883 =>
  if (Utf8.encode 123).size + r13883.size ≤ 1000000000 then
    if ((Utf8.encode 123) ++ r13883).size + (Utf8.encode 125).size ≤ 1000000000 then
      some (((Utf8.encode 123) ++ r13883) ++ (Utf8.encode 125))
    else none
  else none

def tree_Format_L7 (n : Nat) (t0 : TreeTree) (slf_tree_Format : TreeTree → Option (Str)) : Nat → Int → (List Str) → Option (Str)
  | 0, _, _ => none
  | rec_n7 + 1, p13888, p13889 =>
    if (decide (p13888 < (t0.Kids.length : Int))) = true then
      (atI t0.Kids p13888).bind fun x13894 =>
      (slf_tree_Format x13894).bind fun r13896 =>
      if p13889.length + ([r13896]).length ≤ 1000000000 then
        (some (p13889 ++ ([r13896]))).bind fun l13897 =>
        (tree_Format_L7 n t0 slf_tree_Format rec_n7) (IntKind.i64.wrap (p13888 + 1)) l13897
      else none
    else
      tree_Format_J6 n p13889

def tree_Format_J1 (n : Nat) (t0 : TreeTree) (slf_tree_Format : TreeTree → Option (Str)) : Option (Str) :=
  if t0.Kind = 0 then
    tree_Format_L3 n t0 slf_tree_Format n 0 ([])
  else
    if t0.Kind = 1 then
      tree_Format_L5 n t0 slf_tree_Format n 0 ([])
    else
      if t0.Kind = 2 then
        tree_Format_L7 n t0 slf_tree_Format n 0 ([])
      else
        none

def tree_Format : Nat → TreeTree → Option (Str)
  | 0, _ => none
  | n + 1, t0 =>
  if (t0.Kind == 0) = true then
    (strconv_Itoa n t0.N).bind fun r13804 =>
    some r13804
  else
    if (t0.Kind != 1) = true then
      if (t0.Kind != 2) = true then
        some (⟨#[]⟩ : Str)
      else
        tree_Format_J1 n t0 (tree_Format n)
    else
      tree_Format_J1 n t0 (tree_Format n)

def law15_alive (n : Nat) : Option (Bool) :=
  (some ([(⟨#[76]⟩ : Str), (⟨#[97]⟩ : Str), (⟨#[97]⟩ : Str), (⟨#[82]⟩ : Str), (⟨#[76]⟩ : Str), (⟨#[82]⟩ : Str)])).bind fun l9484 =>
  (law15_rung n l9484).bind fun r9503 =>
  (reduce_Reduce n r9503).bind fun ⟨r13781, r13782⟩ =>
  (some ([(⟨#[76]⟩ : Str), (⟨#[97]⟩ : Str), (⟨#[97]⟩ : Str), (⟨#[82]⟩ : Str), (⟨#[76]⟩ : Str), (⟨#[98]⟩ : Str), (⟨#[98]⟩ : Str), (⟨#[82]⟩ : Str), (⟨#[97]⟩ : Str), (⟨#[98]⟩ : Str)])).bind fun l13783 =>
  (law15_rung n l13783).bind fun r13785 =>
  (reduce_Reduce n r13785).bind fun ⟨r13787, r13788⟩ =>
  if (r13782 == 0) = true then
    (tree_Format n r13781).bind fun r13899 =>
    if (decide (r13899 = (⟨#[123, 91, 48, 32, 49, 93, 32, 50, 125]⟩ : Str))) = true then
      some (r13788 == 14)
    else
      some false
  else
    some false

def law14_Of_L1 (t0 : TreeTree) (slf_law14_Of : TreeTree → Option (Ref14Tree)) : Nat → Int → (List Ref14Tree) → Option (Ref14Tree)
  | 0, _, _ => none
  | rec_n1 + 1, p13988, p13989 =>
    if (decide (p13988 < (t0.Kids.length : Int))) = true then
      (atI t0.Kids p13988).bind fun x13994 =>
      (slf_law14_Of x13994).bind fun r13996 =>
      if p13989.length + ([r13996]).length ≤ 1000000000 then
        (some (p13989 ++ ([r13996]))).bind fun l13997 =>
        (law14_Of_L1 t0 slf_law14_Of rec_n1) (IntKind.i64.wrap (p13988 + 1)) l13997
      else none
    else
      some (⟨t0.Kind, t0.N, p13989⟩ : Ref14Tree)

def law14_Of : Nat → TreeTree → Option (Ref14Tree)
  | 0, _ => none
  | n + 1, t0 =>
  law14_Of_L1 t0 (law14_Of n) n 0 ([])

def law15_named_L2 (t0 : Ref14Tree) (at1 : List Int) (x14011 : Int) (slf_law15_named : Ref14Tree → (List Int) → Option (Ref14Tree)) : Nat → Int → (List Ref14Tree) → Option (Ref14Tree)
  | 0, _, _ => none
  | rec_n2 + 1, p14016, p14017 =>
    if (decide (p14016 < (t0.Kids.length : Int))) = true then
      (atI t0.Kids p14016).bind fun x14022 =>
      (slf_law15_named x14022 at1).bind fun r14024 =>
      if p14017.length + ([r14024]).length ≤ 1000000000 then
        (some (p14017 ++ ([r14024]))).bind fun l14025 =>
        (law15_named_L2 t0 at1 x14011 slf_law15_named rec_n2) (IntKind.i64.wrap (p14016 + 1)) l14025
      else none
    else
      some (⟨t0.Kind, x14011, p14017⟩ : Ref14Tree)

def law15_named_J1 (n : Nat) (t0 : Ref14Tree) (at1 : List Int) (slf_law15_named : Ref14Tree → (List Int) → Option (Ref14Tree)) (x14011 : Int) : Option (Ref14Tree) :=
  law15_named_L2 t0 at1 x14011 slf_law15_named n 0 ([])

def law15_named : Nat → Ref14Tree → (List Int) → Option (Ref14Tree)
  | 0, _, _ => none
  | n + 1, t0, at1 =>
  if (t0.Kind == 0) = true then
    if (decide (t0.N ≥ 0)) = true then
      if (decide (t0.N < (at1.length : Int))) = true then
        (atI at1 t0.N).bind fun x14026 =>
        law15_named_J1 n t0 at1 (law15_named n) x14026
      else
        law15_named_J1 n t0 at1 (law15_named n) 0
    else
      law15_named_J1 n t0 at1 (law15_named n) 0
  else
    law15_named_J1 n t0 at1 (law15_named n) 0

def ref14_Leaves_L2 (t0 : Ref14Tree) (slf_ref14_Leaves : Ref14Tree → Option ((List Int))) : Nat → (List Int) → Int → Option ((List Int))
  | 0, _, _ => none
  | rec_n2 + 1, p14110, p14111 =>
    if (decide (p14111 < (t0.Kids.length : Int))) = true then
      (atI t0.Kids p14111).bind fun x14116 =>
      (slf_ref14_Leaves x14116).bind fun r14118 =>
      if p14110.length + r14118.length ≤ 1000000000 then
        (some (p14110 ++ r14118)).bind fun l14119 =>
        (ref14_Leaves_L2 t0 slf_ref14_Leaves rec_n2) l14119 (IntKind.i64.wrap (p14111 + 1))
      else none
    else
      some p14110

def ref14_Leaves_J1 (n : Nat) (t0 : Ref14Tree) (slf_ref14_Leaves : Ref14Tree → Option ((List Int))) : Option ((List Int)) :=
  ref14_Leaves_L2 t0 slf_ref14_Leaves n ([]) 0

def ref14_Leaves : Nat → Ref14Tree → Option ((List Int))
  | 0, _ => none
  | n + 1, t0 =>
  if (t0.Kind == 0) = true then
    (some ([t0.N])).bind fun l14106 =>
    some l14106
  else
    if (t0.Kind != 1) = true then
      if (t0.Kind != 2) = true then
        some ([])
      else
        ref14_Leaves_J1 n t0 (ref14_Leaves n)
    else
      ref14_Leaves_J1 n t0 (ref14_Leaves n)

def ref15_least_L1 (r14121 : List Int) : Nat → Int → Int → Option (Int)
  | 0, _, _ => none
  | rec_n1 + 1, p14123, x14125 =>
    if (decide (p14123 < (r14121.length : Int))) = true then
      (atI r14121 p14123).bind fun x14127 =>
      if (decide (x14127 < x14125)) = true then
        (ref15_least_L1 r14121 rec_n1) (IntKind.i64.wrap (p14123 + 1)) x14127
      else
        (ref15_least_L1 r14121 rec_n1) (IntKind.i64.wrap (p14123 + 1)) x14125
    else
      some x14125

def ref15_least (n : Nat) (t0 : Ref14Tree) : Option (Int) :=
  (ref14_Leaves n t0).bind fun r14121 =>
  (atI r14121 0).bind fun x14122 =>
  ref15_least_L1 r14121 n 0 x14122

def ref15_join_J3 (p14087 : List Ref14Tree) (p14092 : List Ref14Tree) (p14093 : Int) (loop_2_ref15_join : (List Ref14Tree) → Int → Option (Ref14Tree)) (p14207 : Int) : Option (Ref14Tree) :=
  if 0 ≤ 0 ∧ 0 ≤ p14207 ∧ p14207 ≤ (p14092.length : Int) then
    if (p14092.take p14207.toNat).length ≤ 1000000000 then
      (some (p14092.take p14207.toNat)).bind fun l14208 =>
      (atI p14087 p14093).bind fun x14209 =>
      if l14208.length + ([x14209]).length ≤ 1000000000 then
        (some (l14208 ++ ([x14209]))).bind fun l14210 =>
        if 0 ≤ p14207 ∧ p14207 ≤ (p14092.length : Int) ∧ (p14092.length : Int) ≤ (p14092.length : Int) then
          if l14210.length + (p14092.drop p14207.toNat).length ≤ 1000000000 then
            (some (l14210 ++ (p14092.drop p14207.toNat))).bind fun l14211 =>
            loop_2_ref15_join l14211 (IntKind.i64.wrap (p14093 + 1))
          else none
        else none
      else none
    else none
  else none

def ref15_join_L4 (n : Nat) (p14087 : List Ref14Tree) (p14092 : List Ref14Tree) (p14093 : Int) (loop_2_ref15_join : (List Ref14Tree) → Int → Option (Ref14Tree)) : Nat → Int → Option (Ref14Tree)
  | 0, _ => none
  | rec_n4 + 1, p14218 =>
    if (decide (p14218 < (p14092.length : Int))) = true then
      (atI p14092 p14218).bind fun x14225 =>
      (ref15_least n x14225).bind fun r14227 =>
      (atI p14087 p14093).bind fun x14228 =>
      (ref15_least n x14228).bind fun r14230 =>
      if (decide (r14227 < r14230)) = true then
        (ref15_join_L4 n p14087 p14092 p14093 loop_2_ref15_join rec_n4) (IntKind.i64.wrap (p14218 + 1))
      else
        ref15_join_J3 p14087 p14092 p14093 loop_2_ref15_join p14218
    else
      ref15_join_J3 p14087 p14092 p14093 loop_2_ref15_join p14218

def ref15_join_L2 (n : Nat) (p14087 : List Ref14Tree) : Nat → (List Ref14Tree) → Int → Option (Ref14Tree)
  | 0, _, _ => none
  | rec_n2 + 1, p14092, p14093 =>
    if (decide (p14093 < (p14087.length : Int))) = true then
      ref15_join_L4 n p14087 p14092 p14093 (ref15_join_L2 n p14087 rec_n2) n 0
    else
      some (⟨2, 0, p14092⟩ : Ref14Tree)

def ref15_join_J1 (n : Nat) (_append0 : Int) (p14087 : List Ref14Tree) : Option (Ref14Tree) :=
  if (_append0 == 1) = true then
    some (⟨1, 0, p14087⟩ : Ref14Tree)
  else
    ref15_join_L2 n p14087 n ([]) 0

def ref15_join_L5 (n : Nat) (_append0 : Int) (l14076 : List Ref14Tree) : Nat → (List Ref14Tree) → Int → Option (Ref14Tree)
  | 0, _, _ => none
  | rec_n5 + 1, p14233, p14234 =>
    if (decide (p14234 < 2)) = true then
      (atI l14076 p14234).bind fun x14238 =>
      if (x14238.Kind == _append0) = true then
        if p14233.length + x14238.Kids.length ≤ 1000000000 then
          (some (p14233 ++ x14238.Kids)).bind fun l14239 =>
          (ref15_join_L5 n _append0 l14076 rec_n5) l14239 (IntKind.i64.wrap (p14234 + 1))
        else none
      else
        if p14233.length + ([x14238]).length ≤ 1000000000 then
          (some (p14233 ++ ([x14238]))).bind fun l14240 =>
          (ref15_join_L5 n _append0 l14076 rec_n5) l14240 (IntKind.i64.wrap (p14234 + 1))
        else none
    else
      ref15_join_J1 n _append0 p14233

def ref15_join (n : Nat) (_append0 : Int) (a1 : Ref14Tree) (a2 : Ref14Tree) : Option (Ref14Tree) :=
  (some ([a1, a2])).bind fun l14076 =>
  ref15_join_L5 n _append0 l14076 n ([]) 0

def ref15_Sorted_L2 (n : Nat) (p14051 : List Ref14Tree) : Nat → Int → Int → (List Ref14Tree) → Int → Option (Ref14Tree)
  | 0, _, _, _, _ => none
  | rec_n2 + 1, p14246, p14247, p14248, p14249 =>
    if (decide (p14249 < (p14051.length : Int))) = true then
      (atI p14051 p14249).bind fun x14253 =>
      (ref15_join n 2 (⟨p14246, p14247, p14248⟩ : Ref14Tree) x14253).bind fun r14255 =>
      (ref15_Sorted_L2 n p14051 rec_n2) r14255.Kind r14255.N r14255.Kids (IntKind.i64.wrap (p14249 + 1))
    else
      some (⟨p14246, p14247, p14248⟩ : Ref14Tree)

def ref15_Sorted_J1 (n : Nat) (t0 : Ref14Tree) (p14051 : List Ref14Tree) : Option (Ref14Tree) :=
  if (t0.Kind == 1) = true then
    some (⟨1, 0, p14051⟩ : Ref14Tree)
  else
    (atI p14051 0).bind fun x14052 =>
    (atI p14051 1).bind fun x14053 =>
    (ref15_join n 2 x14052 x14053).bind fun r14242 =>
    ref15_Sorted_L2 n p14051 n r14242.Kind r14242.N r14242.Kids 2

def ref15_Sorted_L3 (n : Nat) (t0 : Ref14Tree) (slf_ref15_Sorted : Ref14Tree → Option (Ref14Tree)) : Nat → (List Ref14Tree) → Int → Option (Ref14Tree)
  | 0, _, _ => none
  | rec_n3 + 1, p14260, p14261 =>
    if (decide (p14261 < (t0.Kids.length : Int))) = true then
      (atI t0.Kids p14261).bind fun x14266 =>
      (slf_ref15_Sorted x14266).bind fun r14268 =>
      if p14260.length + ([r14268]).length ≤ 1000000000 then
        (some (p14260 ++ ([r14268]))).bind fun l14269 =>
        (ref15_Sorted_L3 n t0 slf_ref15_Sorted rec_n3) l14269 (IntKind.i64.wrap (p14261 + 1))
      else none
    else
      ref15_Sorted_J1 n t0 p14260

def ref15_Sorted : Nat → Ref14Tree → Option (Ref14Tree)
  | 0, _ => none
  | n + 1, t0 =>
  if (t0.Kind == 0) = true then
    some t0
  else
    ref15_Sorted_L3 n t0 (ref15_Sorted n) n ([]) 0

def ref14_Equal_L1 (a0 : Ref14Tree) (b1 : Ref14Tree) (slf_ref14_Equal : Ref14Tree → Ref14Tree → Option (Bool)) : Nat → Int → Option (Bool)
  | 0, _ => none
  | rec_n1 + 1, p14278 =>
    if (decide (p14278 < (a0.Kids.length : Int))) = true then
      (atI a0.Kids p14278).bind fun x14283 =>
      (atI b1.Kids p14278).bind fun x14284 =>
      (slf_ref14_Equal x14283 x14284).bind fun r14286 =>
      if (!r14286) = true then
        some false
      else
        (ref14_Equal_L1 a0 b1 slf_ref14_Equal rec_n1) (IntKind.i64.wrap (p14278 + 1))
    else
      some true

def ref14_Equal : Nat → Ref14Tree → Ref14Tree → Option (Bool)
  | 0, _, _ => none
  | n + 1, a0, b1 =>
  if (a0.Kind != b1.Kind) = true then
    some false
  else
    if (a0.N != b1.N) = true then
      some false
    else
      if ((a0.Kids.length : Int) != (b1.Kids.length : Int)) = true then
        some false
      else
        ref14_Equal_L1 a0 b1 (ref14_Equal n) n 0

def law15_rung_o1_L1 (l0 : List Str) : Nat → (List ApiContact) → Int → Option (ApiRung)
  | 0, _, _ => none
  | rec_n1 + 1, p14303, p14304 =>
    if (decide ((IntKind.i64.wrap (p14304 + 1)) < (l0.length : Int))) = true then
      (atI l0 p14304).bind fun x14308 =>
      (atI l0 (IntKind.i64.wrap (p14304 + 1))).bind fun x14309 =>
      if p14303.length + ([(⟨0, (⟨0, 0⟩ : ApiAddr), x14308, x14309⟩ : ApiContact)]).length ≤ 1000000000 then
        (some (p14303 ++ ([(⟨0, (⟨0, 0⟩ : ApiAddr), x14308, x14309⟩ : ApiContact)]))).bind fun l14310 =>
        (law15_rung_o1_L1 l0 rec_n1) l14310 (IntKind.i64.wrap (p14304 + 2))
      else none
    else
      some (⟨(⟨#[]⟩ : Str), p14303, [], (⟨#[]⟩ : Str)⟩ : ApiRung)

def law15_rung_o1 (n : Nat) (l0 : List Str) : Option (ApiRung) :=
  law15_rung_o1_L1 l0 n ([]) 0

def law15_ReduceOrderIndependent_J3 (n : Nat) (r14312 : ApiRung) (l14313 : List ApiContact) : Option (Bool) :=
  (reduce_Reduce n (⟨r14312.Label, l14313, r14312.Coils, r14312.Jump⟩ : ApiRung)).bind fun ⟨r14370, r14371⟩ =>
  (law15_alive n ).bind fun r14373 =>
  if r14373 = true then
    some (r14371 == 14)
  else
    some false

def law15_ReduceOrderIndependent_L5 (n : Nat) (p14392 : Int) (loop_4_law15_ReduceOrderIndependent : Int → Option (Bool)) (l14412 : List Str) : Nat → Int → Option (Bool)
  | 0, _ => none
  | rec_n5 + 1, p14418 =>
    if (decide (p14418 < (l14412.length : Int))) = true then
      (atI l14412 p14418).bind fun x14424 =>
      if (decide (x14424 = (⟨#[120, 49]⟩ : Str))) = true then
        (law15_alive n ).bind fun r14426 =>
        some r14426
      else
        if (decide (x14424 = (⟨#[120, 50]⟩ : Str))) = true then
          (law15_alive n ).bind fun r14428 =>
          some r14428
        else
          (law15_ReduceOrderIndependent_L5 n p14392 loop_4_law15_ReduceOrderIndependent l14412 rec_n5) (IntKind.i64.wrap (p14418 + 1))
    else
      loop_4_law15_ReduceOrderIndependent (IntKind.i64.wrap (p14392 + 1))

def law15_ReduceOrderIndependent_L4 (n : Nat) (_append0 : ApiRung) (r14312 : ApiRung) (l14313 : List ApiContact) : Nat → Int → Option (Bool)
  | 0, _ => none
  | rec_n4 + 1, p14392 =>
    if (decide (p14392 < (_append0.Contacts.length : Int))) = true then
      (atI _append0.Contacts p14392).bind fun x14411 =>
      (some ([x14411.From, x14411.To])).bind fun l14412 =>
      law15_ReduceOrderIndependent_L5 n p14392 (law15_ReduceOrderIndependent_L4 n _append0 r14312 l14313 rec_n4) l14412 n 0
    else
      law15_ReduceOrderIndependent_J3 n r14312 l14313

def law15_ReduceOrderIndependent_J2 (n : Nat) (_append0 : ApiRung) (r13919 : TreeTree) (r13920 : Int) (p13967 : List ApiContact) (l13968 : List Int) : Option (Bool) :=
  (reduce_Reduce n (⟨(⟨#[]⟩ : Str), p13967, [], (⟨#[]⟩ : Str)⟩ : ApiRung)).bind fun ⟨r13970, r13971⟩ =>
  if (r13920 != r13971) = true then
    some false
  else
    if (r13920 != 0) = true then
      (law15_alive n ).bind fun r13975 =>
      some r13975
    else
      (law14_Of n r13970).bind fun r13999 =>
      (law15_named n r13999 l13968).bind fun r14028 =>
      (ref15_Sorted n r14028).bind fun r14290 =>
      (law14_Of n r13919).bind fun r14292 =>
      (ref14_Equal n r14290 r14292).bind fun r14294 =>
      if (!r14294) = true then
        some false
      else
        (some ([(⟨#[76]⟩ : Str), (⟨#[120, 49]⟩ : Str), (⟨#[120, 49]⟩ : Str), (⟨#[82]⟩ : Str), (⟨#[76]⟩ : Str), (⟨#[120, 50]⟩ : Str), (⟨#[120, 50]⟩ : Str), (⟨#[82]⟩ : Str), (⟨#[120, 49]⟩ : Str), (⟨#[120, 50]⟩ : Str)])).bind fun l14295 =>
        (law15_rung_o1 n l14295).bind fun r14312 =>
        if r14312.Contacts.length + _append0.Contacts.length ≤ 1000000000 then
          (some (r14312.Contacts ++ _append0.Contacts)).bind fun l14313 =>
          law15_ReduceOrderIndependent_L4 n _append0 r14312 l14313 n 0
        else none

def law15_ReduceOrderIndependent_L6 (n : Nat) (_append0 : ApiRung) (a1 : List Int) (r13919 : TreeTree) (r13920 : Int) : Nat → (List ApiContact) → Int → (List Int) → Option (Bool)
  | 0, _, _, _ => none
  | rec_n6 + 1, p14440, p14441, l14442 =>
    if (decide (p14441 < (a1.length : Int))) = true then
      (atI a1 p14441).bind fun x14454 =>
      if (l14442.length : Int) ≠ 0 then
        if (l14442.length : Int) ≠ 0 then
          (atI p14440 ((IntKind.i64.wrap (x14454)).tmod (l14442.length : Int))).bind fun x14455 =>
          (atI p14440 (p14441.tmod (l14442.length : Int))).bind fun x14456 =>
          (some (p14440.set ((p14441.tmod (l14442.length : Int)).toNat) x14455)).bind fun l14457 =>
          (atI l14457 ((IntKind.i64.wrap (x14454)).tmod (l14442.length : Int))).bind fun x14458 =>
          (some (l14457.set (((IntKind.i64.wrap (x14454)).tmod (l14442.length : Int)).toNat) x14456)).bind fun l14459 =>
          (atI l14442 ((IntKind.i64.wrap (x14454)).tmod (l14442.length : Int))).bind fun x14460 =>
          (atI l14442 (p14441.tmod (l14442.length : Int))).bind fun x14461 =>
          (some (l14442.set ((p14441.tmod (l14442.length : Int)).toNat) x14460)).bind fun l14462 =>
          (atI l14462 ((IntKind.i64.wrap (x14454)).tmod (l14442.length : Int))).bind fun x14463 =>
          (some (l14462.set (((IntKind.i64.wrap (x14454)).tmod (l14442.length : Int)).toNat) x14461)).bind fun l14464 =>
          (law15_ReduceOrderIndependent_L6 n _append0 a1 r13919 r13920 rec_n6) l14459 (IntKind.i64.wrap (p14441 + 1)) l14464
        else none
      else none
    else
      law15_ReduceOrderIndependent_J2 n _append0 r13919 r13920 p14440 l14442

def law15_ReduceOrderIndependent_J1 (n : Nat) (_append0 : ApiRung) (a1 : List Int) (r13919 : TreeTree) (r13920 : Int) (l13930 : List Int) : Option (Bool) :=
  law15_ReduceOrderIndependent_L6 n _append0 a1 r13919 r13920 n _append0.Contacts 0 l13930

def law15_ReduceOrderIndependent_L7 (n : Nat) (_append0 : ApiRung) (a1 : List Int) (r13919 : TreeTree) (r13920 : Int) : Nat → Int → (List Int) → Option (Bool)
  | 0, _, _ => none
  | rec_n7 + 1, p14467, l14468 =>
    if (decide (p14467 < (_append0.Contacts.length : Int))) = true then
      (atI l14468 p14467).bind fun x14471 =>
      (some (l14468.set p14467.toNat p14467)).bind fun l14472 =>
      (law15_ReduceOrderIndependent_L7 n _append0 a1 r13919 r13920 rec_n7) (IntKind.i64.wrap (p14467 + 1)) l14472
    else
      law15_ReduceOrderIndependent_J1 n _append0 a1 r13919 r13920 l14468

def law15_ReduceOrderIndependent (n : Nat) (_append0 : ApiRung) (a1 : List Int) : Option (Bool) :=
  (law12_TooLarge n _append0).bind fun r13909 =>
  if (decide (r13909 > 0)) = true then
    (law15_alive n ).bind fun r13911 =>
    some r13911
  else
    if (decide ((_append0.Contacts.length : Int) > 20)) = true then
      (law15_alive n ).bind fun r13913 =>
      some r13913
    else
      if (decide ((a1.length : Int) > 50)) = true then
        (law15_alive n ).bind fun r13915 =>
        some r13915
      else
        if ((_append0.Contacts.length : Int) == 0) = true then
          (law15_alive n ).bind fun r13917 =>
          some r13917
        else
          (reduce_Reduce n _append0).bind fun ⟨r13919, r13920⟩ =>
          if _append0.Contacts.length ≤ 1000000000 then
            if 0 ≤ (_append0.Contacts.length : Int) ∧ (_append0.Contacts.length : Int) ≤ (_append0.Contacts.length : Int) ∧ (_append0.Contacts.length : Int) ≤ 1000000000 then
              (some (List.replicate _append0.Contacts.length 0)).bind fun l13921 =>
              law15_ReduceOrderIndependent_L7 n _append0 a1 r13919 r13920 n 0 l13921
            else none
          else none

def slices_Equal_int_L1 (s10 : List Int) (s21 : List Int) : Nat → Int → Option (Bool)
  | 0, _ => none
  | rec_n1 + 1, p14545 =>
    if (decide (p14545 < (s10.length : Int))) = true then
      (atI s10 p14545).bind fun x14548 =>
      (atI s21 p14545).bind fun x14549 =>
      if (x14548 != x14549) = true then
        some false
      else
        (slices_Equal_int_L1 s10 s21 rec_n1) (IntKind.i64.wrap (p14545 + 1))
    else
      some true

def slices_Equal_int (n : Nat) (s10 : List Int) (s21 : List Int) : Option (Bool) :=
  if ((s10.length : Int) != (s21.length : Int)) = true then
    some false
  else
    slices_Equal_int_L1 s10 s21 n 0

def law15_ReduceChains_J2 (n : Nat) (_append0 : Int) (a1 : Int × Int) (r14526 : TreeTree) (r14527 : Int) (r14529 : TreeTree) (r14530 : Int) (l14540 : List Int) : Option (Bool) :=
  (tree_Leaves n r14529).bind fun r14553 =>
  (slices_Equal_int n r14553 l14540).bind fun r14555 =>
  if (!r14555) = true then
    some false
  else
    (atI l14540 ((IntKind.i64.wrap (a1.2)).tmod (IntKind.i64.wrap (2 + (IntKind.i64.wrap ((_append0.tmod 30))))))).bind fun x14556 =>
    (atI l14540 ((IntKind.i64.wrap (a1.1)).tmod (IntKind.i64.wrap (2 + (IntKind.i64.wrap ((_append0.tmod 30))))))).bind fun x14557 =>
    (some (l14540.set (((IntKind.i64.wrap (a1.1)).tmod (IntKind.i64.wrap (2 + (IntKind.i64.wrap ((_append0.tmod 30)))))).toNat) x14556)).bind fun l14558 =>
    (atI l14558 ((IntKind.i64.wrap (a1.2)).tmod (IntKind.i64.wrap (2 + (IntKind.i64.wrap ((_append0.tmod 30))))))).bind fun x14559 =>
    (some (l14558.set (((IntKind.i64.wrap (a1.2)).tmod (IntKind.i64.wrap (2 + (IntKind.i64.wrap ((_append0.tmod 30)))))).toNat) x14557)).bind fun l14560 =>
    (law15_alive n ).bind fun r14562 =>
    if r14562 = true then
      if (r14527 == 0) = true then
        if (r14530 == 0) = true then
          if (r14526.Kind == 1) = true then
            if (r14529.Kind == 2) = true then
              if ((r14526.Kids.length : Int) == (IntKind.i64.wrap (2 + (IntKind.i64.wrap ((_append0.tmod 30)))))) = true then
                if ((r14529.Kids.length : Int) == (IntKind.i64.wrap (2 + (IntKind.i64.wrap ((_append0.tmod 30)))))) = true then
                  (tree_Leaves n r14526).bind fun r14564 =>
                  (slices_Equal_int n r14564 l14560).bind fun r14566 =>
                  some r14566
                else
                  some false
              else
                some false
            else
              some false
          else
            some false
        else
          some false
      else
        some false
    else
      some false

def law15_ReduceChains_L3 (n : Nat) (_append0 : Int) (a1 : Int × Int) (r14526 : TreeTree) (r14527 : Int) (r14529 : TreeTree) (r14530 : Int) : Nat → Int → (List Int) → Option (Bool)
  | 0, _, _ => none
  | rec_n3 + 1, p14569, l14570 =>
    if (decide (p14569 < (((IntKind.i64.wrap (2 + (IntKind.i64.wrap ((_append0.tmod 30))))).toNat : Nat) : Int))) = true then
      (atI l14570 p14569).bind fun x14573 =>
      (some (l14570.set p14569.toNat p14569)).bind fun l14574 =>
      (law15_ReduceChains_L3 n _append0 a1 r14526 r14527 r14529 r14530 rec_n3) (IntKind.i64.wrap (p14569 + 1)) l14574
    else
      law15_ReduceChains_J2 n _append0 a1 r14526 r14527 r14529 r14530 l14570

def law15_ReduceChains_J1 (n : Nat) (_append0 : Int) (a1 : Int × Int) (p14518 : List ApiContact) (p14519 : List ApiContact) : Option (Bool) :=
  if (IntKind.i64.wrap (2 + (IntKind.i64.wrap ((_append0.tmod 30))))) ≠ 0 then
    if (IntKind.i64.wrap (2 + (IntKind.i64.wrap ((_append0.tmod 30))))) ≠ 0 then
      (atI p14518 ((IntKind.i64.wrap (a1.2)).tmod (IntKind.i64.wrap (2 + (IntKind.i64.wrap ((_append0.tmod 30))))))).bind fun x14520 =>
      (atI p14518 ((IntKind.i64.wrap (a1.1)).tmod (IntKind.i64.wrap (2 + (IntKind.i64.wrap ((_append0.tmod 30))))))).bind fun x14521 =>
      (some (p14518.set (((IntKind.i64.wrap (a1.1)).tmod (IntKind.i64.wrap (2 + (IntKind.i64.wrap ((_append0.tmod 30)))))).toNat) x14520)).bind fun l14522 =>
      (atI l14522 ((IntKind.i64.wrap (a1.2)).tmod (IntKind.i64.wrap (2 + (IntKind.i64.wrap ((_append0.tmod 30))))))).bind fun x14523 =>
      (some (l14522.set (((IntKind.i64.wrap (a1.2)).tmod (IntKind.i64.wrap (2 + (IntKind.i64.wrap ((_append0.tmod 30)))))).toNat) x14521)).bind fun l14524 =>
      (reduce_Reduce n (⟨(⟨#[]⟩ : Str), l14524, [], (⟨#[]⟩ : Str)⟩ : ApiRung)).bind fun ⟨r14526, r14527⟩ =>
      (reduce_Reduce n (⟨(⟨#[]⟩ : Str), p14519, [], (⟨#[]⟩ : Str)⟩ : ApiRung)).bind fun ⟨r14529, r14530⟩ =>
      if 0 ≤ (IntKind.i64.wrap (2 + (IntKind.i64.wrap ((_append0.tmod 30))))) ∧ (IntKind.i64.wrap (2 + (IntKind.i64.wrap ((_append0.tmod 30))))) ≤ (IntKind.i64.wrap (2 + (IntKind.i64.wrap ((_append0.tmod 30))))) ∧ (IntKind.i64.wrap (2 + (IntKind.i64.wrap ((_append0.tmod 30))))) ≤ 1000000000 then
        (some (List.replicate (IntKind.i64.wrap (2 + (IntKind.i64.wrap ((_append0.tmod 30))))).toNat 0)).bind fun l14531 =>
        law15_ReduceChains_L3 n _append0 a1 r14526 r14527 r14529 r14530 n 0 l14531
      else none
    else none
  else none

def law15_ReduceChains_J6 (p14581 : Int) (p14582 : List ApiContact) (p14583 : List ApiContact) (loop_4_law15_ReduceChains : Int → (List ApiContact) → (List ApiContact) → Option (Bool)) (p14592 : Str) (p14593 : Str) : Option (Bool) :=
  if p14582.length + ([(⟨0, (⟨0, 0⟩ : ApiAddr), p14592, p14593⟩ : ApiContact)]).length ≤ 1000000000 then
    (some (p14582 ++ ([(⟨0, (⟨0, 0⟩ : ApiAddr), p14592, p14593⟩ : ApiContact)]))).bind fun l14594 =>
    if p14583.length + ([(⟨0, (⟨0, 0⟩ : ApiAddr), (⟨#[76]⟩ : Str), (⟨#[82]⟩ : Str)⟩ : ApiContact)]).length ≤ 1000000000 then
      (some (p14583 ++ ([(⟨0, (⟨0, 0⟩ : ApiAddr), (⟨#[76]⟩ : Str), (⟨#[82]⟩ : Str)⟩ : ApiContact)]))).bind fun l14595 =>
      loop_4_law15_ReduceChains (IntKind.i64.wrap (p14581 + 1)) l14594 l14595
    else none
  else none

def law15_ReduceChains_J5 (_append0 : Int) (p14581 : Int) (p14582 : List ApiContact) (p14583 : List ApiContact) (loop_4_law15_ReduceChains : Int → (List ApiContact) → (List ApiContact) → Option (Bool)) (l14591 : List Int) (p14592 : Str) : Option (Bool) :=
  if (p14581 == (IntKind.i64.wrap ((IntKind.i64.wrap (2 + (IntKind.i64.wrap ((_append0.tmod 30))))) - 1))) = true then
    law15_ReduceChains_J6 p14581 p14582 p14583 loop_4_law15_ReduceChains p14592 (⟨#[82]⟩ : Str)
  else
    law15_ReduceChains_J6 p14581 p14582 p14583 loop_4_law15_ReduceChains p14592 ((⟨#[120]⟩ : Str) ++ (bytesS l14591))

def law15_ReduceChains_L4 (n : Nat) (_append0 : Int) (a1 : Int × Int) : Nat → Int → (List ApiContact) → (List ApiContact) → Option (Bool)
  | 0, _, _, _ => none
  | rec_n4 + 1, p14581, p14582, p14583 =>
    if (decide (p14581 < (IntKind.i64.wrap (2 + (IntKind.i64.wrap ((_append0.tmod 30))))))) = true then
      (some ([(IntKind.u8.wrap ((IntKind.i64.wrap (97 + p14581))))])).bind fun l14590 =>
      if (⟨#[120]⟩ : Str).size + (bytesS l14590).size ≤ 1000000000 then
        (some ([(IntKind.u8.wrap ((IntKind.i64.wrap ((IntKind.i64.wrap (97 + p14581)) + 1))))])).bind fun l14591 =>
        if (⟨#[120]⟩ : Str).size + (bytesS l14591).size ≤ 1000000000 then
          if (p14581 == 0) = true then
            law15_ReduceChains_J5 _append0 p14581 p14582 p14583 (law15_ReduceChains_L4 n _append0 a1 rec_n4) l14591 (⟨#[76]⟩ : Str)
          else
            law15_ReduceChains_J5 _append0 p14581 p14582 p14583 (law15_ReduceChains_L4 n _append0 a1 rec_n4) l14591 ((⟨#[120]⟩ : Str) ++ (bytesS l14590))
        else none
      else none
    else
      law15_ReduceChains_J1 n _append0 a1 p14582 p14583

def law15_ReduceChains (n : Nat) (_append0 : Int) (a1 : Int × Int) : Option (Bool) :=
  law15_ReduceChains_L4 n _append0 a1 n 0 ([]) ([])

end Go.G
