/- Models of functions of the program. -/
import Derived.Test.YtaebdeidbibfkaaDoorXGTy
set_option linter.unusedSimpArgs false
set_option linter.unusedVariables false
set_option linter.unusedSectionVars false
namespace Go.G
open Go.Av
def law12_TooLarge_J1 (r_0 : ApiRung) (p6 : Int) : Option (Int) :=
  if (decide (p6 > 2000)) = true then
    some 1
  else
    if (decide ((r_0.Contacts.length : Int) > 60)) = true then
      some 1
    else
      some 0

def law12_TooLarge_L2 (r_0 : ApiRung) : Nat → Int → Int → Option (Int)
  | 0, _, _ => none
  | rec_n2 + 1, p8, p9 =>
    if (decide (p9 < (r_0.Contacts.length : Int))) = true then
      (atI r_0.Contacts p9).bind fun x11 =>
      (law12_TooLarge_L2 r_0 rec_n2) (IntKind.i64.wrap (p8 + (IntKind.i64.wrap ((IntKind.i64.wrap (1 + (x11.From.size : Int))) + (x11.To.size : Int))))) (IntKind.i64.wrap (p9 + 1))
    else
      law12_TooLarge_J1 r_0 p8

def law12_TooLarge (n : Nat) (r_0 : ApiRung) : Option (Int) :=
  law12_TooLarge_L2 r_0 n 0 0

def law15_rung_L1 (l0 : List Str) : Nat → (List ApiContact) → Int → Option (ApiRung)
  | 0, _, _ => none
  | rec_n1 + 1, p24, p25 =>
    if (decide ((IntKind.i64.wrap (p25 + 1)) < (l0.length : Int))) = true then
      (atI l0 p25).bind fun x29 =>
      (atI l0 (IntKind.i64.wrap (p25 + 1))).bind fun x30 =>
      if p24.length + ([(⟨0, (⟨0, 0⟩ : ApiAddr), x29, x30⟩ : ApiContact)]).length ≤ 1000000000 then
        (some (p24 ++ ([(⟨0, (⟨0, 0⟩ : ApiAddr), x29, x30⟩ : ApiContact)]))).bind fun l31 =>
        (law15_rung_L1 l0 rec_n1) l31 (IntKind.i64.wrap (p25 + 2))
      else none
    else
      some (⟨(⟨#[]⟩ : Str), p24, [], (⟨#[]⟩ : Str)⟩ : ApiRung)

def law15_rung (n : Nat) (l0 : List Str) : Option (ApiRung) :=
  law15_rung_L1 l0 n ([]) 0

def graph_Nodes_o0_L2 (p2338 : Int) (loop_1_graph_Nodes_o0 : Int → (List Str) → (List (Str × Bool)) → Option ((List Str))) (l2353 : List Str) : Nat → Int → (List Str) → (List (Str × Bool)) → Option ((List Str))
  | 0, _, _, _ => none
  | rec_n2 + 1, p2356, l2357, p2358 =>
    if (decide (p2356 < (l2353.length : Int))) = true then
      (atI l2353 p2356).bind fun x2361 =>
      if (!((mGet p2358 x2361).getD false)) = true then
        if l2357.length + ([x2361]).length ≤ 1000000000 then
          (some (l2357 ++ ([x2361]))).bind fun l2362 =>
          (graph_Nodes_o0_L2 p2338 loop_1_graph_Nodes_o0 l2353 rec_n2) (IntKind.i64.wrap (p2356 + 1)) l2362 (mPut p2358 x2361 true)
        else none
      else
        (graph_Nodes_o0_L2 p2338 loop_1_graph_Nodes_o0 l2353 rec_n2) (IntKind.i64.wrap (p2356 + 1)) l2357 p2358
    else
      loop_1_graph_Nodes_o0 (IntKind.i64.wrap (p2338 + 1)) l2357 p2358

def graph_Nodes_o0_L1 (n : Nat) (r_0 : ApiRung) : Nat → Int → (List Str) → (List (Str × Bool)) → Option ((List Str))
  | 0, _, _, _ => none
  | rec_n1 + 1, p2338, l2339, p2340 =>
    if (decide (p2338 < (r_0.Contacts.length : Int))) = true then
      (atI r_0.Contacts p2338).bind fun x2352 =>
      (some ([x2352.From, x2352.To])).bind fun l2353 =>
      graph_Nodes_o0_L2 p2338 (graph_Nodes_o0_L1 n r_0 rec_n1) l2353 n 0 l2339 p2340
    else
      some l2339

def graph_Nodes_o0 (n : Nat) (r_0 : ApiRung) : Option ((List Str)) :=
  (some ([(⟨#[76]⟩ : Str), (⟨#[82]⟩ : Str)])).bind fun l2326 =>
  graph_Nodes_o0_L1 n r_0 n 0 l2326 (mPut (mPut ([]) (⟨#[76]⟩ : Str) true) (⟨#[82]⟩ : Str) true)

def graph_Incoming_1 (n : Nat) (c0 : ApiContact) (b0 : Str) : Option (Bool) :=
  some (decide (c0.To = b0))

def graph_numbers_c99_L1 (n : Nat) (r_0 : ApiRung) (b0 : Str) : Nat → Int → (List Int) → Option ((List Int))
  | 0, _, _ => none
  | rec_n1 + 1, p2392, p2393 =>
    if (decide (p2392 < (r_0.Contacts.length : Int))) = true then
      (atI r_0.Contacts p2392).bind fun x2398 =>
      (graph_Incoming_1 n x2398 b0).bind fun r2400 =>
      if r2400 = true then
        if p2393.length + ([p2392]).length ≤ 1000000000 then
          (some (p2393 ++ ([p2392]))).bind fun l2401 =>
          (graph_numbers_c99_L1 n r_0 b0 rec_n1) (IntKind.i64.wrap (p2392 + 1)) l2401
        else none
      else
        (graph_numbers_c99_L1 n r_0 b0 rec_n1) (IntKind.i64.wrap (p2392 + 1)) p2393
    else
      some p2393

def graph_numbers_c99 (n : Nat) (r_0 : ApiRung) (b0 : Str) : Option ((List Int)) :=
  graph_numbers_c99_L1 n r_0 b0 n 0 ([])

def graph_Incoming (n : Nat) (r_0 : ApiRung) (node1 : Str) : Option ((List Int)) :=
  (graph_numbers_c99 n r_0 node1).bind fun r2403 =>
  some r2403

def graph_TopoSort_1_1 (n : Nat) (i_0 : Int) (m1 : List (Str × Bool)) (b2 : ApiRung) : Option (Bool) :=
  (atI b2.Contacts i_0).bind fun x2408 =>
  some (!((mGet m1 x2408.From).getD false))

def slices_IndexFunc_int_c75_L1 (n : Nat) (s0 : List Int) (m1 : List (Str × Bool)) (b2 : ApiRung) : Nat → Int → Option (Int)
  | 0, _ => none
  | rec_n1 + 1, p2421 =>
    if (decide (p2421 < (s0.length : Int))) = true then
      (atI s0 p2421).bind fun x2425 =>
      (graph_TopoSort_1_1 n x2425 m1 b2).bind fun r2427 =>
      if r2427 = true then
        some p2421
      else
        (slices_IndexFunc_int_c75_L1 n s0 m1 b2 rec_n1) (IntKind.i64.wrap (p2421 + 1))
    else
      some (-1)

def slices_IndexFunc_int_c75 (n : Nat) (s0 : List Int) (m1 : List (Str × Bool)) (b2 : ApiRung) : Option (Int) :=
  slices_IndexFunc_int_c75_L1 n s0 m1 b2 n 0

def slices_ContainsFunc_int_c75 (n : Nat) (s0 : List Int) (m1 : List (Str × Bool)) (b2 : ApiRung) : Option (Bool) :=
  (slices_IndexFunc_int_c75 n s0 m1 b2).bind fun r2431 =>
  some (decide (r2431 ≥ 0))

def graph_TopoSort_1 (n : Nat) (n_0 : Str) (b0 : ApiRung) (m2 : List (Str × Bool)) : Option (Bool) :=
  (graph_Incoming n b0 n_0).bind fun r2435 =>
  (slices_ContainsFunc_int_c75 n r2435 m2 b0).bind fun r2437 =>
  some (!r2437)

def slices_IndexFunc_string_c72_v1_L1 (n : Nat) (l0 : List Str) (b1 : ApiRung) (m3 : List (Str × Bool)) : Nat → Int → Option (Int)
  | 0, _ => none
  | rec_n1 + 1, p2450 =>
    if (decide (p2450 < (l0.length : Int))) = true then
      (atI l0 p2450).bind fun x2454 =>
      (graph_TopoSort_1 n x2454 b1 m3).bind fun r2456 =>
      if r2456 = true then
        some p2450
      else
        (slices_IndexFunc_string_c72_v1_L1 n l0 b1 m3 rec_n1) (IntKind.i64.wrap (p2450 + 1))
    else
      some (-1)

def slices_IndexFunc_string_c72_v1 (n : Nat) (l0 : List Str) (b1 : ApiRung) (m3 : List (Str × Bool)) : Option (Int) :=
  slices_IndexFunc_string_c72_v1_L1 n l0 b1 m3 n 0

def slices_Delete_string_v1 (n : Nat) (i_1 : Int) (j2 : Int) (l0 : List Str) : Option ((List Str)) :=
  if 0 ≤ i_1 ∧ i_1 ≤ j2 ∧ j2 ≤ (l0.length : Int) ∧ (l0.length : Int) ≤ (l0.length : Int) then
    if (i_1 == j2) = true then
      some l0
    else
      if 0 ≤ 0 ∧ 0 ≤ i_1 ∧ i_1 ≤ (l0.length : Int) then
        if 0 ≤ j2 ∧ j2 ≤ (l0.length : Int) ∧ (l0.length : Int) ≤ (l0.length : Int) then
          if i_1.toNat + (l0.length - j2.toNat) ≤ l0.length then
            (some (l0.take i_1.toNat ++ ((l0.drop j2.toNat) ++ l0.drop (i_1.toNat + (l0.length - j2.toNat))))).bind fun l2463 =>
            if 0 ≤ (((i_1.toNat + (l0.length - j2.toNat)) : Nat) : Int) ∧ (((i_1.toNat + (l0.length - j2.toNat)) : Nat) : Int) ≤ (l0.length : Int) ∧ (l0.length : Int) ≤ l2463.length then
              if ((i_1.toNat + (l0.length - j2.toNat)) + (l0.length - (i_1.toNat + (l0.length - j2.toNat)))) ≤ l2463.length then
                some (l2463.take (i_1.toNat + (l0.length - j2.toNat)))
              else none
            else none
          else none
        else none
      else none
  else none

def graph_TopoSort_L1 (n : Nat) (r_0 : ApiRung) : Nat → (List Str) → (List (Str × Bool)) → (List Str) → Option ((List Str) × Int)
  | 0, _, _, _ => none
  | rec_n1 + 1, r2466, p2467, p2468 =>
    if (decide ((r2466.length : Int) > 0)) = true then
      (slices_IndexFunc_string_c72_v1 n r2466 r_0 p2467).bind fun r2476 =>
      if (decide (r2476 < 0)) = true then
        some ([], 12)
      else
        (atI r2466 r2476).bind fun x2477 =>
        if p2468.length + ([x2477]).length ≤ 1000000000 then
          (some (p2468 ++ ([x2477]))).bind fun l2478 =>
          (slices_Delete_string_v1 n r2476 (IntKind.i64.wrap (r2476 + 1)) r2466).bind fun q2480 =>
          (graph_TopoSort_L1 n r_0 rec_n1) q2480 (mPut p2467 x2477 true) l2478
        else none
    else
      some (p2468, 0)

def graph_TopoSort (n : Nat) (r_0 : ApiRung) : Option ((List Str) × Int) :=
  (graph_Nodes_o0 n r_0).bind fun r2364 =>
  graph_TopoSort_L1 n r_0 n r2364 ([]) ([])

def slices_Index_string_L1 (s0 : List Str) (v1 : Str) : Nat → Int → Option (Int)
  | 0, _ => none
  | rec_n1 + 1, p3387 =>
    if (decide (p3387 < (s0.length : Int))) = true then
      (atI s0 p3387).bind fun x3389 =>
      if (decide (v1 = x3389)) = true then
        some p3387
      else
        (slices_Index_string_L1 s0 v1 rec_n1) (IntKind.i64.wrap (p3387 + 1))
    else
      some (-1)

def slices_Index_string (n : Nat) (s0 : List Str) (v1 : Str) : Option (Int) :=
  slices_Index_string_L1 s0 v1 n 0

def slices_Contains_string (n : Nat) (s0 : List Str) (v1 : Str) : Option (Bool) :=
  (slices_Index_string n s0 v1).bind fun r3391 =>
  some (decide (r3391 ≥ 0))

def graph_Outgoing_1 (n : Nat) (c0 : ApiContact) (b0 : Str) : Option (Bool) :=
  some (decide (c0.From = b0))

def graph_numbers_c129_L1 (n : Nat) (r_0 : ApiRung) (b0 : Str) : Nat → Int → (List Int) → Option ((List Int))
  | 0, _, _ => none
  | rec_n1 + 1, p3468, p3469 =>
    if (decide (p3468 < (r_0.Contacts.length : Int))) = true then
      (atI r_0.Contacts p3468).bind fun x3474 =>
      (graph_Outgoing_1 n x3474 b0).bind fun r3476 =>
      if r3476 = true then
        if p3469.length + ([p3468]).length ≤ 1000000000 then
          (some (p3469 ++ ([p3468]))).bind fun l3477 =>
          (graph_numbers_c129_L1 n r_0 b0 rec_n1) (IntKind.i64.wrap (p3468 + 1)) l3477
        else none
      else
        (graph_numbers_c129_L1 n r_0 b0 rec_n1) (IntKind.i64.wrap (p3468 + 1)) p3469
    else
      some p3469

def graph_numbers_c129 (n : Nat) (r_0 : ApiRung) (b0 : Str) : Option ((List Int)) :=
  graph_numbers_c129_L1 n r_0 b0 n 0 ([])

def graph_Outgoing (n : Nat) (r_0 : ApiRung) (node1 : Str) : Option ((List Int)) :=
  (graph_numbers_c129 n r_0 node1).bind fun r3479 =>
  some r3479

def graph_Reachable_1_L1 (b0 : ApiRung) (r3494 : List Int) : Nat → Int → (List Str) → Option ((List Str))
  | 0, _, _ => none
  | rec_n1 + 1, p3498, p3499 =>
    if (decide (p3498 < (r3494.length : Int))) = true then
      (atI r3494 p3498).bind fun x3503 =>
      (atI b0.Contacts x3503).bind fun x3504 =>
      if p3499.length + ([x3504.To]).length ≤ 1000000000 then
        (some (p3499 ++ ([x3504.To]))).bind fun l3505 =>
        (graph_Reachable_1_L1 b0 r3494 rec_n1) (IntKind.i64.wrap (p3498 + 1)) l3505
      else none
    else
      some p3499

def graph_Reachable_1 (n : Nat) (n_0 : Str) (b0 : ApiRung) : Option ((List Str)) :=
  (graph_Outgoing n b0 n_0).bind fun r3494 =>
  graph_Reachable_1_L1 b0 r3494 n 0 ([])

def graph_gather_1_c101_127_L1 (b3 : ApiRung) (r3526 : List Str) (slf_graph_gather_1_c101_127 : Str → (List (Str × Bool)) → ApiRung → Option ((List (Str × Bool)))) : Nat → (List (Str × Bool)) → Int → Option ((List (Str × Bool)))
  | 0, _, _ => none
  | rec_n1 + 1, p3530, p3531 =>
    if (decide (p3531 < (r3526.length : Int))) = true then
      (atI r3526 p3531).bind fun x3535 =>
      (slf_graph_gather_1_c101_127 x3535 p3530 b3).bind fun q3537 =>
      (graph_gather_1_c101_127_L1 b3 r3526 slf_graph_gather_1_c101_127 rec_n1) q3537 (IntKind.i64.wrap (p3531 + 1))
    else
      some p3530

def graph_gather_1_c101_127 : Nat → Str → (List (Str × Bool)) → ApiRung → Option ((List (Str × Bool)))
  | 0, _, _, _ => none
  | n + 1, n_0, m1, b3 =>
  if ((mGet m1 n_0).getD false) = true then
    some m1
  else
    (graph_Reachable_1 n n_0 b3).bind fun r3526 =>
    graph_gather_1_c101_127_L1 b3 r3526 (graph_gather_1_c101_127 n) n (mPut m1 n_0 true) 0

def graph_gather_2 (n : Nat) (n_0 : Str) (m1 : List (Str × Bool)) : Option (Bool) :=
  some (!((mGet m1 n_0).getD false))

def slices_IndexFunc_string_c128_v1_L1 (n : Nat) (l0 : List Str) (m2 : List (Str × Bool)) : Nat → Int → Option (Int)
  | 0, _ => none
  | rec_n1 + 1, p3575 =>
    if (decide (p3575 < (l0.length : Int))) = true then
      (atI l0 p3575).bind fun x3579 =>
      (graph_gather_2 n x3579 m2).bind fun r3581 =>
      if r3581 = true then
        some p3575
      else
        (slices_IndexFunc_string_c128_v1_L1 n l0 m2 rec_n1) (IntKind.i64.wrap (p3575 + 1))
    else
      some (-1)

def slices_IndexFunc_string_c128_v1 (n : Nat) (l0 : List Str) (m2 : List (Str × Bool)) : Option (Int) :=
  slices_IndexFunc_string_c128_v1_L1 n l0 m2 n 0

def slices_DeleteFunc_string_c128_v1_L1 (n : Nat) (m2 : List (Str × Bool)) : Nat → (List Str) → Int → Int → Option ((List Str))
  | 0, _, _, _ => none
  | rec_n1 + 1, l3610, r3611, p3612 =>
    if (decide (p3612 < (l3610.length : Int))) = true then
      (atI l3610 p3612).bind fun x3618 =>
      (graph_gather_2 n x3618 m2).bind fun r3620 =>
      if (!r3620) = true then
        (atI l3610 r3611).bind fun x3621 =>
        (some (l3610.set r3611.toNat x3618)).bind fun l3622 =>
        (slices_DeleteFunc_string_c128_v1_L1 n m2 rec_n1) l3622 (IntKind.i64.wrap (r3611 + 1)) (IntKind.i64.wrap (p3612 + 1))
      else
        (slices_DeleteFunc_string_c128_v1_L1 n m2 rec_n1) l3610 r3611 (IntKind.i64.wrap (p3612 + 1))
    else
      if 0 ≤ r3611 ∧ r3611 ≤ (l3610.length : Int) ∧ (l3610.length : Int) ≤ (l3610.length : Int) then
        if (r3611.toNat + (l3610.length - r3611.toNat)) ≤ l3610.length then
          if 0 ≤ 0 ∧ 0 ≤ r3611 ∧ r3611 ≤ (l3610.length : Int) then
            some (l3610.take r3611.toNat)
          else none
        else none
      else none

def slices_DeleteFunc_string_c128_v1 (n : Nat) (l0 : List Str) (m2 : List (Str × Bool)) : Option ((List Str)) :=
  (slices_IndexFunc_string_c128_v1 n l0 m2).bind fun r3604 =>
  if (r3604 == (-1)) = true then
    some l0
  else
    slices_DeleteFunc_string_c128_v1_L1 n m2 n l0 r3604 (IntKind.i64.wrap (r3604 + 1))

def graph_gather_c101 (n : Nat) (r_0 : ApiRung) (node1 : Str) (b0 : ApiRung) : Option ((List Str)) :=
  (graph_Nodes_o0 n r_0).bind fun r3626 =>
  (slices_Contains_string n r3626 node1).bind fun r3630 =>
  if (!r3630) = true then
    some ([])
  else
    (graph_gather_1_c101_127 n node1 ([]) b0).bind fun q3632 =>
    (slices_DeleteFunc_string_c128_v1 n r3626 q3632).bind fun q3634 =>
    some q3634

def graph_Reachable (n : Nat) (r_0 : ApiRung) (node1 : Str) : Option ((List Str)) :=
  (graph_gather_c101 n r_0 node1 r_0).bind fun r3636 =>
  some r3636

def graph_Ancestors_1_L1 (b0 : ApiRung) (r3782 : List Int) : Nat → Int → (List Str) → Option ((List Str))
  | 0, _, _ => none
  | rec_n1 + 1, p3786, p3787 =>
    if (decide (p3786 < (r3782.length : Int))) = true then
      (atI r3782 p3786).bind fun x3791 =>
      (atI b0.Contacts x3791).bind fun x3792 =>
      if p3787.length + ([x3792.From]).length ≤ 1000000000 then
        (some (p3787 ++ ([x3792.From]))).bind fun l3793 =>
        (graph_Ancestors_1_L1 b0 r3782 rec_n1) (IntKind.i64.wrap (p3786 + 1)) l3793
      else none
    else
      some p3787

def graph_Ancestors_1 (n : Nat) (n_0 : Str) (b0 : ApiRung) : Option ((List Str)) :=
  (graph_Incoming n b0 n_0).bind fun r3782 =>
  graph_Ancestors_1_L1 b0 r3782 n 0 ([])

def graph_gather_1_c103_127_L1 (b3 : ApiRung) (r3814 : List Str) (slf_graph_gather_1_c103_127 : Str → (List (Str × Bool)) → ApiRung → Option ((List (Str × Bool)))) : Nat → (List (Str × Bool)) → Int → Option ((List (Str × Bool)))
  | 0, _, _ => none
  | rec_n1 + 1, p3818, p3819 =>
    if (decide (p3819 < (r3814.length : Int))) = true then
      (atI r3814 p3819).bind fun x3823 =>
      (slf_graph_gather_1_c103_127 x3823 p3818 b3).bind fun q3825 =>
      (graph_gather_1_c103_127_L1 b3 r3814 slf_graph_gather_1_c103_127 rec_n1) q3825 (IntKind.i64.wrap (p3819 + 1))
    else
      some p3818

def graph_gather_1_c103_127 : Nat → Str → (List (Str × Bool)) → ApiRung → Option ((List (Str × Bool)))
  | 0, _, _, _ => none
  | n + 1, n_0, m1, b3 =>
  if ((mGet m1 n_0).getD false) = true then
    some m1
  else
    (graph_Ancestors_1 n n_0 b3).bind fun r3814 =>
    graph_gather_1_c103_127_L1 b3 r3814 (graph_gather_1_c103_127 n) n (mPut m1 n_0 true) 0

def graph_gather_c103 (n : Nat) (r_0 : ApiRung) (node1 : Str) (b0 : ApiRung) : Option ((List Str)) :=
  (graph_Nodes_o0 n r_0).bind fun r3831 =>
  (slices_Contains_string n r3831 node1).bind fun r3835 =>
  if (!r3835) = true then
    some ([])
  else
    (graph_gather_1_c103_127 n node1 ([]) b0).bind fun q3837 =>
    (slices_DeleteFunc_string_c128_v1 n r3831 q3837).bind fun q3839 =>
    some q3839

def graph_Ancestors (n : Nat) (r_0 : ApiRung) (node1 : Str) : Option ((List Str)) :=
  (graph_gather_c103 n r_0 node1 r_0).bind fun r3841 =>
  some r3841

def flow_DeadNodes_1 (n : Nat) (n_0 : Str) (b0 : List Str) (b1 : List Str) : Option (Bool) :=
  (slices_Contains_string n b0 n_0).bind fun r3882 =>
  if r3882 = true then
    (slices_Contains_string n b1 n_0).bind fun r3884 =>
    some r3884
  else
    some false

def slices_IndexFunc_string_c80_v1_L1 (n : Nat) (l0 : List Str) (b1 : List Str) (b2 : List Str) : Nat → Int → Option (Int)
  | 0, _ => none
  | rec_n1 + 1, p3897 =>
    if (decide (p3897 < (l0.length : Int))) = true then
      (atI l0 p3897).bind fun x3901 =>
      (flow_DeadNodes_1 n x3901 b1 b2).bind fun r3903 =>
      if r3903 = true then
        some p3897
      else
        (slices_IndexFunc_string_c80_v1_L1 n l0 b1 b2 rec_n1) (IntKind.i64.wrap (p3897 + 1))
    else
      some (-1)

def slices_IndexFunc_string_c80_v1 (n : Nat) (l0 : List Str) (b1 : List Str) (b2 : List Str) : Option (Int) :=
  slices_IndexFunc_string_c80_v1_L1 n l0 b1 b2 n 0

def slices_DeleteFunc_string_c80_L1 (n : Nat) (b1 : List Str) (b2 : List Str) : Nat → (List Str) → Int → Int → Option ((List Str))
  | 0, _, _, _ => none
  | rec_n1 + 1, l3932, r3933, p3934 =>
    if (decide (p3934 < (l3932.length : Int))) = true then
      (atI l3932 p3934).bind fun x3940 =>
      (flow_DeadNodes_1 n x3940 b1 b2).bind fun r3942 =>
      if (!r3942) = true then
        (atI l3932 r3933).bind fun x3943 =>
        (some (l3932.set r3933.toNat x3940)).bind fun l3944 =>
        (slices_DeleteFunc_string_c80_L1 n b1 b2 rec_n1) l3944 (IntKind.i64.wrap (r3933 + 1)) (IntKind.i64.wrap (p3934 + 1))
      else
        (slices_DeleteFunc_string_c80_L1 n b1 b2 rec_n1) l3932 r3933 (IntKind.i64.wrap (p3934 + 1))
    else
      if 0 ≤ r3933 ∧ r3933 ≤ (l3932.length : Int) ∧ (l3932.length : Int) ≤ (l3932.length : Int) then
        if (r3933.toNat + (l3932.length - r3933.toNat)) ≤ l3932.length then
          if 0 ≤ 0 ∧ 0 ≤ r3933 ∧ r3933 ≤ (l3932.length : Int) then
            some (l3932.take r3933.toNat)
          else none
        else none
      else none

def slices_DeleteFunc_string_c80 (n : Nat) (l0 : List Str) (b1 : List Str) (b2 : List Str) : Option ((List Str)) :=
  (slices_IndexFunc_string_c80_v1 n l0 b1 b2).bind fun r3926 =>
  if (r3926 == (-1)) = true then
    some l0
  else
    slices_DeleteFunc_string_c80_L1 n b1 b2 n l0 r3926 (IntKind.i64.wrap (r3926 + 1))

def flow_DeadNodes (n : Nat) (r_0 : ApiRung) : Option ((List Str)) :=
  (graph_Reachable n r_0 (⟨#[76]⟩ : Str)).bind fun r3638 =>
  (graph_Ancestors n r_0 (⟨#[82]⟩ : Str)).bind fun r3843 =>
  (graph_Nodes_o0 n r_0).bind fun r3845 =>
  (slices_DeleteFunc_string_c80 n r3845 r3638 r3843).bind fun q3946 =>
  some q3946

def flow_Check (n : Nat) (r_0 : ApiRung) : Option (Int) :=
  if ((r_0.Contacts.length : Int) == 0) = true then
    some 4
  else
    (graph_TopoSort n r_0).bind fun ⟨r2485, r2486⟩ =>
    if (r2486 != 0) = true then
      some r2486
    else
      (flow_DeadNodes n r_0).bind fun r3948 =>
      if (decide ((r3948.length : Int) > 0)) = true then
        some 13
      else
        some 0

def reduce_parallel_1 (n : Nat) (y0 : ReduceEdge) (b0 : ReduceEdge) : Option (Bool) :=
  some ((decide (y0.pair.from_ = b0.pair.from_)) && (decide (y0.pair.to_ = b0.pair.to_)))

def slices_IndexFunc_reduce_edge_c50_L1 (n : Nat) (s0 : List ReduceEdge) (b0 : ReduceEdge) : Nat → Int → Option (Int)
  | 0, _ => none
  | rec_n1 + 1, p4023 =>
    if (decide (p4023 < (s0.length : Int))) = true then
      (atI s0 p4023).bind fun x4027 =>
      (reduce_parallel_1 n x4027 b0).bind fun r4029 =>
      if r4029 = true then
        some p4023
      else
        (slices_IndexFunc_reduce_edge_c50_L1 n s0 b0 rec_n1) (IntKind.i64.wrap (p4023 + 1))
    else
      some (-1)

def slices_IndexFunc_reduce_edge_c50 (n : Nat) (s0 : List ReduceEdge) (b0 : ReduceEdge) : Option (Int) :=
  slices_IndexFunc_reduce_edge_c50_L1 n s0 b0 n 0

def slices_IndexFunc_reduce_edge_c50_v1_L1 (n : Nat) (s0 : Nat) (l0 : List ReduceEdge) (b1 : ReduceEdge) : Nat → Int → Option (Int)
  | 0, _ => none
  | rec_n1 + 1, p4043 =>
    if (decide (p4043 < (((l0.length - s0) : Nat) : Int))) = true then
      (atI (l0.drop s0) p4043).bind fun x4047 =>
      (reduce_parallel_1 n x4047 b1).bind fun r4049 =>
      if r4049 = true then
        some p4043
      else
        (slices_IndexFunc_reduce_edge_c50_v1_L1 n s0 l0 b1 rec_n1) (IntKind.i64.wrap (p4043 + 1))
    else
      some (-1)

def slices_IndexFunc_reduce_edge_c50_v1 (n : Nat) (s0 : Nat) (l0 : List ReduceEdge) (b1 : ReduceEdge) : Option (Int) :=
  slices_IndexFunc_reduce_edge_c50_v1_L1 n s0 l0 b1 n 0

def reduce_join_L1 (kind0 : Int) (l4064 : List TreeTree) : Nat → Int → (List TreeTree) → Option (TreeTree)
  | 0, _, _ => none
  | rec_n1 + 1, p4067, p4068 =>
    if (decide (p4067 < (l4064.length : Int))) = true then
      (atI l4064 p4067).bind fun x4072 =>
      if (x4072.Kind == kind0) = true then
        if p4068.length + x4072.Kids.length ≤ 1000000000 then
          (some (p4068 ++ x4072.Kids)).bind fun l4073 =>
          (reduce_join_L1 kind0 l4064 rec_n1) (IntKind.i64.wrap (p4067 + 1)) l4073
        else none
      else
        if p4068.length + ([x4072]).length ≤ 1000000000 then
          (some (p4068 ++ ([x4072]))).bind fun l4074 =>
          (reduce_join_L1 kind0 l4064 rec_n1) (IntKind.i64.wrap (p4067 + 1)) l4074
        else none
    else
      some (⟨kind0, 0, p4068⟩ : TreeTree)

def reduce_join (n : Nat) (kind0 : Int) (a1 : TreeTree) (b2 : TreeTree) : Option (TreeTree) :=
  (some ([a1, b2])).bind fun l4064 =>
  reduce_join_L1 kind0 l4064 n 0 ([])

def slices_Delete_reduce_edge_v1 (n : Nat) (i_1 : Int) (j2 : Int) (l0 : List ReduceEdge) : Option ((List ReduceEdge)) :=
  if 0 ≤ i_1 ∧ i_1 ≤ j2 ∧ j2 ≤ (l0.length : Int) ∧ (l0.length : Int) ≤ (l0.length : Int) then
    if (i_1 == j2) = true then
      some l0
    else
      if 0 ≤ 0 ∧ 0 ≤ i_1 ∧ i_1 ≤ (l0.length : Int) then
        if 0 ≤ j2 ∧ j2 ≤ (l0.length : Int) ∧ (l0.length : Int) ≤ (l0.length : Int) then
          if i_1.toNat + (l0.length - j2.toNat) ≤ l0.length then
            (some (l0.take i_1.toNat ++ ((l0.drop j2.toNat) ++ l0.drop (i_1.toNat + (l0.length - j2.toNat))))).bind fun l4082 =>
            if 0 ≤ (((i_1.toNat + (l0.length - j2.toNat)) : Nat) : Int) ∧ (((i_1.toNat + (l0.length - j2.toNat)) : Nat) : Int) ≤ (l0.length : Int) ∧ (l0.length : Int) ≤ l4082.length then
              if ((i_1.toNat + (l0.length - j2.toNat)) + (l0.length - (i_1.toNat + (l0.length - j2.toNat)))) ≤ l4082.length then
                some (l4082.take (i_1.toNat + (l0.length - j2.toNat)))
              else none
            else none
          else none
        else none
      else none
  else none

def reduce_parallel_v1_L1 (n : Nat) (l0 : List ReduceEdge) : Nat → Int → Option (Bool × (List ReduceEdge))
  | 0, _ => none
  | rec_n1 + 1, p4114 =>
    if (decide (p4114 < (l0.length : Int))) = true then
      (atI l0 p4114).bind fun x4124 =>
      if 0 ≤ (IntKind.i64.wrap (p4114 + 1)) ∧ (IntKind.i64.wrap (p4114 + 1)) ≤ (l0.length : Int) ∧ (l0.length : Int) ≤ (l0.length : Int) then
        (slices_IndexFunc_reduce_edge_c50_v1 n ((IntKind.i64.wrap (p4114 + 1)).toNat) l0 x4124).bind fun r4126 =>
        if (decide (r4126 ≥ 0)) = true then
          (atI l0 (IntKind.i64.wrap ((IntKind.i64.wrap (p4114 + 1)) + r4126))).bind fun x4127 =>
          (reduce_join n 2 x4124.t_ x4127.t_).bind fun r4129 =>
          (some (l0.set p4114.toNat (⟨x4124.pair, r4129⟩ : ReduceEdge))).bind fun l4130 =>
          (slices_Delete_reduce_edge_v1 n (IntKind.i64.wrap ((IntKind.i64.wrap (p4114 + 1)) + r4126)) (IntKind.i64.wrap ((IntKind.i64.wrap (p4114 + 2)) + r4126)) l4130).bind fun q4132 =>
          some (true, q4132)
        else
          (reduce_parallel_v1_L1 n l0 rec_n1) (IntKind.i64.wrap (p4114 + 1))
      else none
    else
      some (false, l0)

def reduce_parallel_v1 (n : Nat) (l0 : List ReduceEdge) : Option (Bool × (List ReduceEdge)) :=
  reduce_parallel_v1_L1 n l0 n 0

def reduce_series_v1_J2 (n : Nat) (l0 : List ReduceEdge) (p4288 : Int) (loop_1_reduce_series_v1 : Int → Option (Bool × (List ReduceEdge))) (x4323 : ReduceEdge) (p4336 : Int) (p4337 : Int) (p4338 : Int) : Option (Bool × (List ReduceEdge)) :=
  if (p4336 == 1) = true then
    if (p4337 == 1) = true then
      (atI l0 p4338).bind fun x4339 =>
      (reduce_join n 1 x4323.t_ x4339.t_).bind fun r4341 =>
      (some (l0.set p4288.toNat (⟨(⟨x4323.pair.from_, x4339.pair.to_⟩ : ReducePair), r4341⟩ : ReduceEdge))).bind fun l4342 =>
      (slices_Delete_reduce_edge_v1 n p4338 (IntKind.i64.wrap (p4338 + 1)) l4342).bind fun q4344 =>
      some (true, q4344)
    else
      loop_1_reduce_series_v1 (IntKind.i64.wrap (p4288 + 1))
  else
    loop_1_reduce_series_v1 (IntKind.i64.wrap (p4288 + 1))

def reduce_series_v1_J4 (x4323 : ReduceEdge) (p4347 : Int) (p4349 : Int) (p4352 : Int) (loop_3_reduce_series_v1 : Int → Int → Int → Int → Option (Bool × (List ReduceEdge))) (x4355 : ReduceEdge) (p4356 : Int) : Option (Bool × (List ReduceEdge)) :=
  if (decide (x4355.pair.from_ = x4323.pair.to_)) = true then
    loop_3_reduce_series_v1 (IntKind.i64.wrap (p4347 + 1)) p4356 (IntKind.i64.wrap (p4349 + 1)) p4347
  else
    loop_3_reduce_series_v1 (IntKind.i64.wrap (p4347 + 1)) p4356 p4349 p4352

def reduce_series_v1_L3 (n : Nat) (l0 : List ReduceEdge) (p4288 : Int) (loop_1_reduce_series_v1 : Int → Option (Bool × (List ReduceEdge))) (x4323 : ReduceEdge) : Nat → Int → Int → Int → Int → Option (Bool × (List ReduceEdge))
  | 0, _, _, _, _ => none
  | rec_n3 + 1, p4347, p4348, p4349, p4352 =>
    if (decide (p4347 < (l0.length : Int))) = true then
      (atI l0 p4347).bind fun x4355 =>
      if (decide (x4355.pair.to_ = x4323.pair.to_)) = true then
        reduce_series_v1_J4 x4323 p4347 p4349 p4352 (reduce_series_v1_L3 n l0 p4288 loop_1_reduce_series_v1 x4323 rec_n3) x4355 (IntKind.i64.wrap (p4348 + 1))
      else
        reduce_series_v1_J4 x4323 p4347 p4349 p4352 (reduce_series_v1_L3 n l0 p4288 loop_1_reduce_series_v1 x4323 rec_n3) x4355 p4348
    else
      reduce_series_v1_J2 n l0 p4288 loop_1_reduce_series_v1 x4323 p4348 p4349 p4352

def reduce_series_v1_L1 (n : Nat) (l0 : List ReduceEdge) : Nat → Int → Option (Bool × (List ReduceEdge))
  | 0, _ => none
  | rec_n1 + 1, p4288 =>
    if (decide (p4288 < (l0.length : Int))) = true then
      (atI l0 p4288).bind fun x4323 =>
      if (decide (x4323.pair.to_ = (⟨#[76]⟩ : Str))) = true then
        (reduce_series_v1_L1 n l0 rec_n1) (IntKind.i64.wrap (p4288 + 1))
      else
        if (decide (x4323.pair.to_ = (⟨#[82]⟩ : Str))) = true then
          (reduce_series_v1_L1 n l0 rec_n1) (IntKind.i64.wrap (p4288 + 1))
        else
          reduce_series_v1_L3 n l0 p4288 (reduce_series_v1_L1 n l0 rec_n1) x4323 n 0 0 0 0
    else
      some (false, l0)

def reduce_series_v1 (n : Nat) (l0 : List ReduceEdge) : Option (Bool × (List ReduceEdge)) :=
  reduce_series_v1_L1 n l0 n 0

def tree_Leaves_L2 (t0 : TreeTree) (slf_tree_Leaves : TreeTree → Option ((List Int))) : Nat → Int → (List Int) → Option ((List Int))
  | 0, _, _ => none
  | rec_n2 + 1, p4414, p4415 =>
    if (decide (p4414 < (t0.Kids.length : Int))) = true then
      (atI t0.Kids p4414).bind fun x4420 =>
      (slf_tree_Leaves x4420).bind fun r4422 =>
      if p4415.length + r4422.length ≤ 1000000000 then
        (some (p4415 ++ r4422)).bind fun l4423 =>
        (tree_Leaves_L2 t0 slf_tree_Leaves rec_n2) (IntKind.i64.wrap (p4414 + 1)) l4423
      else none
    else
      some p4415

def tree_Leaves_J1 (n : Nat) (t0 : TreeTree) (slf_tree_Leaves : TreeTree → Option ((List Int))) (p4410 : Bool) : Option ((List Int)) :=
  if p4410 = true then
    tree_Leaves_L2 t0 slf_tree_Leaves n 0 ([])
  else
    some ([])

def tree_Leaves : Nat → TreeTree → Option ((List Int))
  | 0, _ => none
  | n + 1, t0 =>
  if (t0.Kind == 0) = true then
    (some ([t0.N])).bind fun l4409 =>
    some l4409
  else
    if (t0.Kind == 1) = true then
      tree_Leaves_J1 n t0 (tree_Leaves n) (t0.Kind == 1)
    else
      tree_Leaves_J1 n t0 (tree_Leaves n) (t0.Kind == 2)

def slices_Min_int_L1 (x_0 : List Int) : Nat → Int → Int → Option (Int)
  | 0, _, _ => none
  | rec_n1 + 1, x4428, p4429 =>
    if (decide (p4429 < (x_0.length : Int))) = true then
      (atI x_0 p4429).bind fun x4431 =>
      (slices_Min_int_L1 x_0 rec_n1) (imin x4428 x4431) (IntKind.i64.wrap (p4429 + 1))
    else
      some x4428

def slices_Min_int (n : Nat) (x_0 : List Int) : Option (Int) :=
  if (decide ((x_0.length : Int) < 1)) = true then
    none
  else
    (atI x_0 0).bind fun x4426 =>
    slices_Min_int_L1 x_0 n x4426 1

def cmp_isNaN_int (n : Nat) (x_0 : Int) : Option (Bool) :=
  some (x_0 != x_0)

def cmp_Compare_int (n : Nat) (x_0 : Int) (y1 : Int) : Option (Int) :=
  (cmp_isNaN_int n x_0).bind fun r4439 =>
  (cmp_isNaN_int n y1).bind fun r4441 =>
  if r4439 = true then
    if r4441 = true then
      some 0
    else
      some (-1)
  else
    if r4441 = true then
      some 1
    else
      if (decide (x_0 < y1)) = true then
        some (-1)
      else
        if (decide (x_0 > y1)) = true then
          some 1
        else
          some 0

def reduce_sorted_1 (n : Nat) (a0 : TreeTree) (b1 : TreeTree) : Option (Int) :=
  (tree_Leaves n a0).bind fun r4425 =>
  (slices_Min_int n r4425).bind fun r4433 =>
  (tree_Leaves n b1).bind fun r4435 =>
  (slices_Min_int n r4435).bind fun r4437 =>
  (cmp_Compare_int n r4433 r4437).bind fun r4443 =>
  some r4443

def slices_SortFunc_tree_Tree_c54 (n : Nat) (l0 : List TreeTree) : Option (List TreeTree) := sortM (fun a b => reduce_sorted_1 n a b) l0

def reduce_sorted_J1 (n : Nat) (t0 : TreeTree) (p4398 : List TreeTree) : Option (TreeTree) :=
  if (t0.Kind == 2) = true then
    (slices_SortFunc_tree_Tree_c54 n p4398).bind fun q4445 =>
    some (⟨t0.Kind, t0.N, q4445⟩ : TreeTree)
  else
    some (⟨t0.Kind, t0.N, p4398⟩ : TreeTree)

def reduce_sorted_L2 (n : Nat) (t0 : TreeTree) (slf_reduce_sorted : TreeTree → Option (TreeTree)) : Nat → Int → (List TreeTree) → Option (TreeTree)
  | 0, _, _ => none
  | rec_n2 + 1, p4450, p4451 =>
    if (decide (p4450 < (t0.Kids.length : Int))) = true then
      (atI t0.Kids p4450).bind fun x4456 =>
      (slf_reduce_sorted x4456).bind fun r4458 =>
      if p4451.length + ([r4458]).length ≤ 1000000000 then
        (some (p4451 ++ ([r4458]))).bind fun l4459 =>
        (reduce_sorted_L2 n t0 slf_reduce_sorted rec_n2) (IntKind.i64.wrap (p4450 + 1)) l4459
      else none
    else
      reduce_sorted_J1 n t0 p4451

def reduce_sorted : Nat → TreeTree → Option (TreeTree)
  | 0, _ => none
  | n + 1, t0 =>
  reduce_sorted_L2 n t0 (reduce_sorted n) n 0 ([])

def reduce_Reduce_J2 (n : Nat) (p4374 : List ReduceEdge) : Option (TreeTree × Int) :=
  if ((p4374.length : Int) != 1) = true then
    some ((⟨0, 0, []⟩ : TreeTree), 14)
  else
    (atI p4374 0).bind fun x4375 =>
    if (!((decide (x4375.pair.from_ = (⟨#[76]⟩ : Str))) && (decide (x4375.pair.to_ = (⟨#[82]⟩ : Str))))) = true then
      some ((⟨0, 0, []⟩ : TreeTree), 14)
    else
      (reduce_sorted n x4375.t_).bind fun r4461 =>
      some (r4461, 0)

def reduce_Reduce_L3 (n : Nat) : Nat → (List ReduceEdge) → Bool → Option (TreeTree × Int)
  | 0, _, _ => none
  | rec_n3 + 1, p4468, true4469 =>
    if true4469 = true then
      (reduce_parallel_v1 n p4468).bind fun ⟨r4477, q4478⟩ =>
      (reduce_series_v1 n q4478).bind fun ⟨r4480, q4481⟩ =>
      if r4477 = true then
        (reduce_Reduce_L3 n rec_n3) q4481 true
      else
        (reduce_Reduce_L3 n rec_n3) q4481 r4480
    else
      reduce_Reduce_J2 n p4468

def reduce_Reduce_J1 (n : Nat) (p3961 : List ReduceEdge) : Option (TreeTree × Int) :=
  reduce_Reduce_L3 n n p3961 true

def reduce_Reduce_L4 (n : Nat) (_append0 : ApiRung) : Nat → Int → (List ReduceEdge) → Option (TreeTree × Int)
  | 0, _, _ => none
  | rec_n4 + 1, p4484, p4485 =>
    if (decide (p4484 < (_append0.Contacts.length : Int))) = true then
      (atI _append0.Contacts p4484).bind fun x4488 =>
      if p4485.length + ([(⟨(⟨x4488.From, x4488.To⟩ : ReducePair), (⟨0, p4484, ([] : List TreeTree)⟩ : TreeTree)⟩ : ReduceEdge)]).length ≤ 1000000000 then
        (some (p4485 ++ ([(⟨(⟨x4488.From, x4488.To⟩ : ReducePair), (⟨0, p4484, ([] : List TreeTree)⟩ : TreeTree)⟩ : ReduceEdge)]))).bind fun l4489 =>
        (reduce_Reduce_L4 n _append0 rec_n4) (IntKind.i64.wrap (p4484 + 1)) l4489
      else none
    else
      reduce_Reduce_J1 n p4485

def reduce_Reduce (n : Nat) (_append0 : ApiRung) : Option (TreeTree × Int) :=
  (flow_Check n _append0).bind fun r3952 =>
  if (r3952 != 0) = true then
    some ((⟨0, 0, []⟩ : TreeTree), r3952)
  else
    reduce_Reduce_L4 n _append0 n 0 ([])

def strconv_Itoa (n : Nat) (i : Int) : Option Str := if 0 ≤ i ∧ i < 100 then some (dec2 i.toNat) else none

def strings_Join (n : Nat) (l : List Str) (sep : Str) : Option Str := if l.length ≤ 140737488355328 ∧ (joinS l sep).size ≤ 140737488355328 then some (joinS l sep) else none

def tree_Format_J2 (n : Nat) (p4529 : List Str) : Option (Str) :=
  (strings_Join n p4529 (⟨#[32]⟩ : Str)).bind fun r4531 =>
  if (Utf8.encode 0).size + r4531.size ≤ 1000000000 then
    if ((Utf8.encode 0) ++ r4531).size + (Utf8.encode 0).size ≤ 1000000000 then
      some (((Utf8.encode 0) ++ r4531) ++ (Utf8.encode 0))
    else none
  else none

def tree_Format_L3 (n : Nat) (t0 : TreeTree) (slf_tree_Format : TreeTree → Option (Str)) : Nat → Int → (List Str) → Option (Str)
  | 0, _, _ => none
  | rec_n3 + 1, p4536, p4537 =>
    if (decide (p4536 < (t0.Kids.length : Int))) = true then
      (atI t0.Kids p4536).bind fun x4542 =>
      (slf_tree_Format x4542).bind fun r4544 =>
      if p4537.length + ([r4544]).length ≤ 1000000000 then
        (some (p4537 ++ ([r4544]))).bind fun l4545 =>
        (tree_Format_L3 n t0 slf_tree_Format rec_n3) (IntKind.i64.wrap (p4536 + 1)) l4545
      else none
    else
      tree_Format_J2 n p4537

def tree_Format_J4 (n : Nat) (p4560 : List Str) : Option (Str) :=
  (strings_Join n p4560 (⟨#[32]⟩ : Str)).bind fun r4562 =>
  if (Utf8.encode 91).size + r4562.size ≤ 1000000000 then
    if ((Utf8.encode 91) ++ r4562).size + (Utf8.encode 93).size ≤ 1000000000 then
      some (((Utf8.encode 91) ++ r4562) ++ (Utf8.encode 93))
    else none
  else none

def tree_Format_L5 (n : Nat) (t0 : TreeTree) (slf_tree_Format : TreeTree → Option (Str)) : Nat → Int → (List Str) → Option (Str)
  | 0, _, _ => none
  | rec_n5 + 1, p4567, p4568 =>
    if (decide (p4567 < (t0.Kids.length : Int))) = true then
      (atI t0.Kids p4567).bind fun x4573 =>
      (slf_tree_Format x4573).bind fun r4575 =>
      if p4568.length + ([r4575]).length ≤ 1000000000 then
        (some (p4568 ++ ([r4575]))).bind fun l4576 =>
        (tree_Format_L5 n t0 slf_tree_Format rec_n5) (IntKind.i64.wrap (p4567 + 1)) l4576
      else none
    else
      tree_Format_J4 n p4568

def tree_Format_J6 (n : Nat) (p4591 : List Str) : Option (Str) :=
  (strings_Join n p4591 (⟨#[32]⟩ : Str)).bind fun r4593 =>
  if (Utf8.encode 123).size + r4593.size ≤ 1000000000 then
    if ((Utf8.encode 123) ++ r4593).size + (Utf8.encode 125).size ≤ 1000000000 then
      some (((Utf8.encode 123) ++ r4593) ++ (Utf8.encode 125))
    else none
  else none

def tree_Format_L7 (n : Nat) (t0 : TreeTree) (slf_tree_Format : TreeTree → Option (Str)) : Nat → Int → (List Str) → Option (Str)
  | 0, _, _ => none
  | rec_n7 + 1, p4598, p4599 =>
    if (decide (p4598 < (t0.Kids.length : Int))) = true then
      (atI t0.Kids p4598).bind fun x4604 =>
      (slf_tree_Format x4604).bind fun r4606 =>
      if p4599.length + ([r4606]).length ≤ 1000000000 then
        (some (p4599 ++ ([r4606]))).bind fun l4607 =>
        (tree_Format_L7 n t0 slf_tree_Format rec_n7) (IntKind.i64.wrap (p4598 + 1)) l4607
      else none
    else
      tree_Format_J6 n p4599

def tree_Format_J1 (n : Nat) (t0 : TreeTree) (slf_tree_Format : TreeTree → Option (Str)) : Option (Str) :=
  if t0.Kind = 0 then
    tree_Format_L3 n t0 slf_tree_Format n 0 ([])
  else
    if t0.Kind = 1 then
      tree_Format_L5 n t0 slf_tree_Format n 0 ([])
    else
      if t0.Kind = 2 then
        tree_Format_L7 n t0 slf_tree_Format n 0 ([])
      else
        none

def tree_Format : Nat → TreeTree → Option (Str)
  | 0, _ => none
  | n + 1, t0 =>
  if (t0.Kind == 0) = true then
    (strconv_Itoa n t0.N).bind fun r4514 =>
    some r4514
  else
    if (t0.Kind != 1) = true then
      if (t0.Kind != 2) = true then
        some (⟨#[]⟩ : Str)
      else
        tree_Format_J1 n t0 (tree_Format n)
    else
      tree_Format_J1 n t0 (tree_Format n)

def law15_alive (n : Nat) : Option (Bool) :=
  (some ([(⟨#[76]⟩ : Str), (⟨#[97]⟩ : Str), (⟨#[97]⟩ : Str), (⟨#[82]⟩ : Str), (⟨#[76]⟩ : Str), (⟨#[82]⟩ : Str)])).bind fun l14 =>
  (law15_rung n l14).bind fun r33 =>
  (reduce_Reduce n r33).bind fun ⟨r4491, r4492⟩ =>
  (some ([(⟨#[76]⟩ : Str), (⟨#[97]⟩ : Str), (⟨#[97]⟩ : Str), (⟨#[82]⟩ : Str), (⟨#[76]⟩ : Str), (⟨#[98]⟩ : Str), (⟨#[98]⟩ : Str), (⟨#[82]⟩ : Str), (⟨#[97]⟩ : Str), (⟨#[98]⟩ : Str)])).bind fun l4493 =>
  (law15_rung n l4493).bind fun r4495 =>
  (reduce_Reduce n r4495).bind fun ⟨r4497, r4498⟩ =>
  if (r4492 == 0) = true then
    (tree_Format n r4491).bind fun r4609 =>
    if (decide (r4609 = (⟨#[123, 91, 48, 32, 49, 93, 32, 50, 125]⟩ : Str))) = true then
      some (r4498 == 14)
    else
      some false
  else
    some false

def slices_EqualFunc_tree_Tree_c24_L1 (s10 : List TreeTree) (s21 : List TreeTree) (slf_tree_Equal : TreeTree → TreeTree → Option (Bool)) : Nat → Int → Option (Bool)
  | 0, _ => none
  | rec_n1 + 1, p4629 =>
    if (decide (p4629 < (s10.length : Int))) = true then
      (atI s10 p4629).bind fun x4634 =>
      (atI s21 p4629).bind fun x4635 =>
      (slf_tree_Equal x4634 x4635).bind fun r4637 =>
      if (!r4637) = true then
        some false
      else
        (slices_EqualFunc_tree_Tree_c24_L1 s10 s21 slf_tree_Equal rec_n1) (IntKind.i64.wrap (p4629 + 1))
    else
      some true

def slices_EqualFunc_tree_Tree_c24 (slf_tree_Equal : TreeTree → TreeTree → Option (Bool)) (n : Nat) (s10 : List TreeTree) (s21 : List TreeTree) : Option (Bool) :=
  if ((s10.length : Int) != (s21.length : Int)) = true then
    some false
  else
    slices_EqualFunc_tree_Tree_c24_L1 s10 s21 slf_tree_Equal n 0

def tree_Equal : Nat → TreeTree → TreeTree → Option (Bool)
  | 0, _, _ => none
  | n + 1, a0, b1 =>
  if (a0.Kind == b1.Kind) = true then
    if (a0.N == b1.N) = true then
      (slices_EqualFunc_tree_Tree_c24 (tree_Equal n) n a0.Kids b1.Kids).bind fun r4639 =>
      some r4639
    else
      some false
  else
    some false

def tree_Tree_check_1 (n : Nat) (k0 : TreeTree) (b0 : TreeTree) : Option (Bool) :=
  some (k0.Kind == b0.Kind)

def slices_IndexFunc_tree_Tree_c66_L1 (n : Nat) (s0 : List TreeTree) (b0 : TreeTree) : Nat → Int → Option (Int)
  | 0, _ => none
  | rec_n1 + 1, p4751 =>
    if (decide (p4751 < (s0.length : Int))) = true then
      (atI s0 p4751).bind fun x4755 =>
      (tree_Tree_check_1 n x4755 b0).bind fun r4757 =>
      if r4757 = true then
        some p4751
      else
        (slices_IndexFunc_tree_Tree_c66_L1 n s0 b0 rec_n1) (IntKind.i64.wrap (p4751 + 1))
    else
      some (-1)

def slices_IndexFunc_tree_Tree_c66 (n : Nat) (s0 : List TreeTree) (b0 : TreeTree) : Option (Int) :=
  slices_IndexFunc_tree_Tree_c66_L1 n s0 b0 n 0

def slices_ContainsFunc_tree_Tree_c66 (n : Nat) (s0 : List TreeTree) (b0 : TreeTree) : Option (Bool) :=
  (slices_IndexFunc_tree_Tree_c66 n s0 b0).bind fun r4761 =>
  some (decide (r4761 ≥ 0))

def tree_Tree_check_L2 (_append0 : TreeTree) (a1 : Int) (slf_tree_Tree_check : TreeTree → Int → (List (Int × Bool)) → Option (Int × (List (Int × Bool)))) : Nat → (List (Int × Bool)) → Int → Option (Int × (List (Int × Bool)))
  | 0, _, _ => none
  | rec_n2 + 1, m4804, p4805 =>
    if (decide (p4805 < (_append0.Kids.length : Int))) = true then
      (atI _append0.Kids p4805).bind fun x4810 =>
      (slf_tree_Tree_check x4810 a1 m4804).bind fun ⟨r4812, q4813⟩ =>
      if (r4812 != 0) = true then
        some (r4812, q4813)
      else
        (tree_Tree_check_L2 _append0 a1 slf_tree_Tree_check rec_n2) q4813 (IntKind.i64.wrap (p4805 + 1))
    else
      some (0, m4804)

def tree_Tree_check_J1 (n : Nat) (_append0 : TreeTree) (a1 : Int) (m0 : List (Int × Bool)) (slf_tree_Tree_check : TreeTree → Int → (List (Int × Bool)) → Option (Int × (List (Int × Bool)))) : Option (Int × (List (Int × Bool))) :=
  tree_Tree_check_L2 _append0 a1 slf_tree_Tree_check n m0 0

def tree_Tree_check : Nat → TreeTree → Int → (List (Int × Bool)) → Option (Int × (List (Int × Bool)))
  | 0, _, _, _ => none
  | n + 1, _append0, a1, m0 =>
  if (decide (_append0.Kind < 0)) = true then
    some (8, m0)
  else
    if (decide (_append0.Kind > 2)) = true then
      some (8, m0)
    else
      if (_append0.Kind == 0) = true then
        if (decide ((_append0.Kids.length : Int) > 0)) = true then
          some (2, m0)
        else
          if (_append0.Kind != 0) = true then
            if (_append0.N != 0) = true then
              some (2, m0)
            else
              if (decide (_append0.N < 0)) = true then
                some (3, m0)
              else
                if (decide (_append0.N ≥ a1)) = true then
                  some (3, m0)
                else
                  if ((mGet m0 _append0.N).getD false) = true then
                    some (9, m0)
                  else
                    some (0, (mPut m0 _append0.N true))
          else
            if (decide (_append0.N < 0)) = true then
              some (3, m0)
            else
              if (decide (_append0.N ≥ a1)) = true then
                some (3, m0)
              else
                if ((mGet m0 _append0.N).getD false) = true then
                  some (9, m0)
                else
                  some (0, (mPut m0 _append0.N true))
      else
        if (_append0.Kind != 0) = true then
          if (_append0.N != 0) = true then
            some (2, m0)
          else
            if (decide ((_append0.Kids.length : Int) < 2)) = true then
              some (5, m0)
            else
              (slices_ContainsFunc_tree_Tree_c66 n _append0.Kids _append0).bind fun r4815 =>
              if r4815 = true then
                some (14, m0)
              else
                tree_Tree_check_J1 n _append0 a1 m0 (tree_Tree_check n)
        else
          if (decide ((_append0.Kids.length : Int) < 2)) = true then
            some (5, m0)
          else
            (slices_ContainsFunc_tree_Tree_c66 n _append0.Kids _append0).bind fun r4817 =>
            if r4817 = true then
              some (14, m0)
            else
              tree_Tree_check_J1 n _append0 a1 m0 (tree_Tree_check n)

def tree_Check (n : Nat) (t0 : TreeTree) (many1 : Int) : Option (Int) :=
  (tree_Tree_check n t0 many1 ([])).bind fun ⟨r4819, q4820⟩ =>
  if (r4819 == 0) = true then
    if (((q4820.length : Nat) : Int) != (imax 0 many1)) = true then
      some 4
    else
      some r4819
  else
    some r4819

def slices_Clone_api_Contact_o0 (n : Nat) (s0 : List ApiContact) : Option ((List ApiContact)) :=
  isnilM s0 (
    some ([])) (
    if s0.length ≤ 1000000000 then
      some s0
    else none)

def reduce_Expand_1_c43_v1_L1 (_append0 : TreeTree) (a1 : ReducePair) (slf_reduce_Expand_1_c43_v1 : TreeTree → ReducePair → (List ApiContact) → Int → Option ((List ApiContact) × Int)) : Nat → (List ApiContact) → Int → Int → Option ((List ApiContact) × Int)
  | 0, _, _, _ => none
  | rec_n1 + 1, l5061, b5062, p5063 =>
    if (decide (p5063 < (_append0.Kids.length : Int))) = true then
      (atI _append0.Kids p5063).bind fun x5068 =>
      (slf_reduce_Expand_1_c43_v1 x5068 a1 l5061 b5062).bind fun ⟨q5070, q5071⟩ =>
      (reduce_Expand_1_c43_v1_L1 _append0 a1 slf_reduce_Expand_1_c43_v1 rec_n1) q5070 q5071 (IntKind.i64.wrap (p5063 + 1))
    else
      some (l5061, b5062)

def reduce_Expand_1_c43_v1_J2 (_append0 : TreeTree) (a1 : ReducePair) (slf_reduce_Expand_1_c43_v1 : TreeTree → ReducePair → (List ApiContact) → Int → Option ((List ApiContact) × Int)) (l5095 : List ApiContact) (b5096 : Int) (p5097 : Str) : Option ((List ApiContact) × Int) :=
  (atI _append0.Kids (IntKind.i64.wrap ((_append0.Kids.length : Int) - 1))).bind fun x5098 =>
  (slf_reduce_Expand_1_c43_v1 x5098 (⟨p5097, a1.to_⟩ : ReducePair) l5095 b5096).bind fun ⟨q5100, q5101⟩ =>
  some (q5100, q5101)

def reduce_Expand_1_c43_v1_L3 (n : Nat) (_append0 : TreeTree) (a1 : ReducePair) (slf_reduce_Expand_1_c43_v1 : TreeTree → ReducePair → (List ApiContact) → Int → Option ((List ApiContact) × Int)) (l5102 : List TreeTree) : Nat → (List ApiContact) → Int → Int → Str → Option ((List ApiContact) × Int)
  | 0, _, _, _, _ => none
  | rec_n3 + 1, l5109, b5110, p5111, p5112 =>
    if (decide (p5111 < (l5102.length : Int))) = true then
      (atI l5102 p5111).bind fun x5119 =>
      (strconv_Itoa n (IntKind.i64.wrap (b5110 + 1))).bind fun r5121 =>
      if (⟨#[110]⟩ : Str).size + r5121.size ≤ 1000000000 then
        (slf_reduce_Expand_1_c43_v1 x5119 (⟨p5112, ((⟨#[110]⟩ : Str) ++ r5121)⟩ : ReducePair) l5109 (IntKind.i64.wrap (b5110 + 1))).bind fun ⟨q5123, q5124⟩ =>
        (reduce_Expand_1_c43_v1_L3 n _append0 a1 slf_reduce_Expand_1_c43_v1 l5102 rec_n3) q5123 q5124 (IntKind.i64.wrap (p5111 + 1)) ((⟨#[110]⟩ : Str) ++ r5121)
      else none
    else
      reduce_Expand_1_c43_v1_J2 _append0 a1 slf_reduce_Expand_1_c43_v1 l5109 b5110 p5112

def reduce_Expand_1_c43_v1 : Nat → TreeTree → ReducePair → (List ApiContact) → Int → Option ((List ApiContact) × Int)
  | 0, _, _, _, _ => none
  | n + 1, _append0, a1, l1, b3 =>
  if (_append0.Kind == 0) = true then
    (atI l1 _append0.N).bind fun x5053 =>
    (some (l1.set _append0.N.toNat (⟨x5053.Kind, x5053.A, a1.from_, x5053.To⟩ : ApiContact))).bind fun l5054 =>
    (atI l5054 _append0.N).bind fun x5055 =>
    (some (l5054.set _append0.N.toNat (⟨x5055.Kind, x5055.A, x5055.From, a1.to_⟩ : ApiContact))).bind fun l5056 =>
    some (l5056, b3)
  else
    if (_append0.Kind == 2) = true then
      reduce_Expand_1_c43_v1_L1 _append0 a1 (reduce_Expand_1_c43_v1 n) n l1 b3 0
    else
      if 0 ≤ 0 ∧ 0 ≤ (IntKind.i64.wrap ((_append0.Kids.length : Int) - 1)) ∧ (IntKind.i64.wrap ((_append0.Kids.length : Int) - 1)) ≤ (_append0.Kids.length : Int) then
        (some (_append0.Kids.take (IntKind.i64.wrap ((_append0.Kids.length : Int) - 1)).toNat)).bind fun l5102 =>
        reduce_Expand_1_c43_v1_L3 n _append0 a1 (reduce_Expand_1_c43_v1 n) l5102 n l1 b3 0 a1.from_
      else none

def reduce_Expand (n : Nat) (t0 : TreeTree) (l1 : List ApiContact) : Option (ApiRung × Int) :=
  (tree_Check n t0 (l1.length : Int)).bind fun r4824 =>
  if (r4824 != 0) = true then
    some ((⟨(⟨#[]⟩ : Str), [], [], (⟨#[]⟩ : Str)⟩ : ApiRung), r4824)
  else
    (slices_Clone_api_Contact_o0 n l1).bind fun r4830 =>
    (reduce_Expand_1_c43_v1 n t0 (⟨(⟨#[76]⟩ : Str), (⟨#[82]⟩ : Str)⟩ : ReducePair) r4830 0).bind fun ⟨q5126, q5127⟩ =>
    some ((⟨(⟨#[]⟩ : Str), q5126, [], (⟨#[]⟩ : Str)⟩ : ApiRung), 0)

def law15_ReduceIsStable (n : Nat) (_append0 : ApiRung) : Option (Bool) :=
  (law12_TooLarge n _append0).bind fun r4615 =>
  if (decide (r4615 > 0)) = true then
    (law15_alive n ).bind fun r4617 =>
    some r4617
  else
    if (decide ((_append0.Contacts.length : Int) > 30)) = true then
      (law15_alive n ).bind fun r4619 =>
      some r4619
    else
      (reduce_Reduce n _append0).bind fun ⟨r4621, r4622⟩ =>
      if (r4622 != 0) = true then
        (law15_alive n ).bind fun r4643 =>
        if r4643 = true then
          (tree_Equal n r4621 (⟨0, 0, []⟩ : TreeTree)).bind fun r4645 =>
          some r4645
        else
          some false
      else
        (reduce_Expand n r4621 _append0.Contacts).bind fun ⟨r5129, r5130⟩ =>
        (reduce_Reduce n r5129).bind fun ⟨r5132, r5133⟩ =>
        (law15_alive n ).bind fun r5135 =>
        if r5135 = true then
          if (r5130 == 0) = true then
            if (r5133 == 0) = true then
              (tree_Equal n r4621 r5132).bind fun r5137 =>
              if r5137 = true then
                (tree_Check n r4621 (_append0.Contacts.length : Int)).bind fun r5139 =>
                if (r5139 == 0) = true then
                  some ((r5129.Contacts.length : Int) == (_append0.Contacts.length : Int))
                else
                  some false
              else
                some false
            else
              some false
          else
            some false
        else
          some false

end Go.G
