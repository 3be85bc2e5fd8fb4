/- Models of functions of the program. -/
import Derived.Test.YtaebdeidbibfkaaGreatDoorUGTy
set_option linter.unusedSimpArgs false
set_option linter.unusedVariables false
set_option linter.unusedSectionVars false
namespace Go.G
open Go.Av
def law12_TooLarge_J1 (r_0 : ApiRung) (p6 : Int) : Option (Int) :=
  if (decide (p6 > 2000)) = true then
    some 1
  else
    if (decide ((r_0.Contacts.length : Int) > 60)) = true then
      some 1
    else
      some 0

def law12_TooLarge_L2 (r_0 : ApiRung) : Nat → Int → Int → Option (Int)
  | 0, _, _ => none
  | rec_n2 + 1, p8, p9 =>
    if (decide (p9 < (r_0.Contacts.length : Int))) = true then
      (atI r_0.Contacts p9).bind fun x11 =>
      (law12_TooLarge_L2 r_0 rec_n2) (IntKind.i64.wrap (p8 + (IntKind.i64.wrap ((IntKind.i64.wrap (1 + (x11.From.size : Int))) + (x11.To.size : Int))))) (IntKind.i64.wrap (p9 + 1))
    else
      law12_TooLarge_J1 r_0 p8

def law12_TooLarge (n : Nat) (r_0 : ApiRung) : Option (Int) :=
  law12_TooLarge_L2 r_0 n 0 0

def law15_rung_L1 (l0 : List Str) : Nat → (List ApiContact) → Int → Option (ApiRung)
  | 0, _, _ => none
  | rec_n1 + 1, p24, p25 =>
    if (decide ((IntKind.i64.wrap (p25 + 1)) < (l0.length : Int))) = true then
      (atI l0 p25).bind fun x29 =>
      (atI l0 (IntKind.i64.wrap (p25 + 1))).bind fun x30 =>
      if p24.length + ([(⟨0, (⟨0, 0⟩ : ApiAddr), x29, x30⟩ : ApiContact)]).length ≤ 1000000000 then
        (some (p24 ++ ([(⟨0, (⟨0, 0⟩ : ApiAddr), x29, x30⟩ : ApiContact)]))).bind fun l31 =>
        (law15_rung_L1 l0 rec_n1) l31 (IntKind.i64.wrap (p25 + 2))
      else none
    else
      some (⟨(⟨#[]⟩ : Str), p24, [], (⟨#[]⟩ : Str)⟩ : ApiRung)

def law15_rung (n : Nat) (l0 : List Str) : Option (ApiRung) :=
  law15_rung_L1 l0 n ([]) 0

def graph_Nodes_o0_L2 (p2338 : Int) (loop_1_graph_Nodes_o0 : Int → (List Str) → (List (Str × Bool)) → Option ((List Str))) (l2353 : List Str) : Nat → Int → (List Str) → (List (Str × Bool)) → Option ((List Str))
  | 0, _, _, _ => none
  | rec_n2 + 1, p2356, l2357, p2358 =>
    if (decide (p2356 < (l2353.length : Int))) = true then
      (atI l2353 p2356).bind fun x2361 =>
      if (!((mGet p2358 x2361).getD false)) = true then
        if l2357.length + ([x2361]).length ≤ 1000000000 then
          (some (l2357 ++ ([x2361]))).bind fun l2362 =>
          (graph_Nodes_o0_L2 p2338 loop_1_graph_Nodes_o0 l2353 rec_n2) (IntKind.i64.wrap (p2356 + 1)) l2362 (mPut p2358 x2361 true)
        else none
      else
        (graph_Nodes_o0_L2 p2338 loop_1_graph_Nodes_o0 l2353 rec_n2) (IntKind.i64.wrap (p2356 + 1)) l2357 p2358
    else
      loop_1_graph_Nodes_o0 (IntKind.i64.wrap (p2338 + 1)) l2357 p2358

def graph_Nodes_o0_L1 (n : Nat) (r_0 : ApiRung) : Nat → Int → (List Str) → (List (Str × Bool)) → Option ((List Str))
  | 0, _, _, _ => none
  | rec_n1 + 1, p2338, l2339, p2340 =>
    if (decide (p2338 < (r_0.Contacts.length : Int))) = true then
      (atI r_0.Contacts p2338).bind fun x2352 =>
      (some ([x2352.From, x2352.To])).bind fun l2353 =>
      graph_Nodes_o0_L2 p2338 (graph_Nodes_o0_L1 n r_0 rec_n1) l2353 n 0 l2339 p2340
    else
      some l2339

def graph_Nodes_o0 (n : Nat) (r_0 : ApiRung) : Option ((List Str)) :=
  (some ([(⟨#[76]⟩ : Str), (⟨#[82]⟩ : Str)])).bind fun l2326 =>
  graph_Nodes_o0_L1 n r_0 n 0 l2326 (mPut (mPut ([]) (⟨#[76]⟩ : Str) true) (⟨#[82]⟩ : Str) true)

def graph_Incoming_1 (n : Nat) (c0 : ApiContact) (b0 : Str) : Option (Bool) :=
  some (decide (c0.To = b0))

def graph_numbers_c134_L1 (n : Nat) (r_0 : ApiRung) (b0 : Str) : Nat → Int → (List Int) → Option ((List Int))
  | 0, _, _ => none
  | rec_n1 + 1, p2392, p2393 =>
    if (decide (p2392 < (r_0.Contacts.length : Int))) = true then
      (atI r_0.Contacts p2392).bind fun x2398 =>
      (graph_Incoming_1 n x2398 b0).bind fun r2400 =>
      if r2400 = true then
        if p2393.length + ([p2392]).length ≤ 1000000000 then
          (some (p2393 ++ ([p2392]))).bind fun l2401 =>
          (graph_numbers_c134_L1 n r_0 b0 rec_n1) (IntKind.i64.wrap (p2392 + 1)) l2401
        else none
      else
        (graph_numbers_c134_L1 n r_0 b0 rec_n1) (IntKind.i64.wrap (p2392 + 1)) p2393
    else
      some p2393

def graph_numbers_c134 (n : Nat) (r_0 : ApiRung) (b0 : Str) : Option ((List Int)) :=
  graph_numbers_c134_L1 n r_0 b0 n 0 ([])

def graph_Incoming (n : Nat) (r_0 : ApiRung) (node1 : Str) : Option ((List Int)) :=
  (graph_numbers_c134 n r_0 node1).bind fun r2403 =>
  some r2403

def graph_TopoSort_1_1 (n : Nat) (i_0 : Int) (m1 : List (Str × Bool)) (b2 : ApiRung) : Option (Bool) :=
  (atI b2.Contacts i_0).bind fun x2408 =>
  some (!((mGet m1 x2408.From).getD false))

def slices_IndexFunc_int_c102_L1 (n : Nat) (s0 : List Int) (m1 : List (Str × Bool)) (b2 : ApiRung) : Nat → Int → Option (Int)
  | 0, _ => none
  | rec_n1 + 1, p2421 =>
    if (decide (p2421 < (s0.length : Int))) = true then
      (atI s0 p2421).bind fun x2425 =>
      (graph_TopoSort_1_1 n x2425 m1 b2).bind fun r2427 =>
      if r2427 = true then
        some p2421
      else
        (slices_IndexFunc_int_c102_L1 n s0 m1 b2 rec_n1) (IntKind.i64.wrap (p2421 + 1))
    else
      some (-1)

def slices_IndexFunc_int_c102 (n : Nat) (s0 : List Int) (m1 : List (Str × Bool)) (b2 : ApiRung) : Option (Int) :=
  slices_IndexFunc_int_c102_L1 n s0 m1 b2 n 0

def slices_ContainsFunc_int_c102 (n : Nat) (s0 : List Int) (m1 : List (Str × Bool)) (b2 : ApiRung) : Option (Bool) :=
  (slices_IndexFunc_int_c102 n s0 m1 b2).bind fun r2431 =>
  some (decide (r2431 ≥ 0))

def graph_TopoSort_1 (n : Nat) (n_0 : Str) (b0 : ApiRung) (m2 : List (Str × Bool)) : Option (Bool) :=
  (graph_Incoming n b0 n_0).bind fun r2435 =>
  (slices_ContainsFunc_int_c102 n r2435 m2 b0).bind fun r2437 =>
  some (!r2437)

def slices_IndexFunc_string_c99_v1_L1 (n : Nat) (l0 : List Str) (b1 : ApiRung) (m3 : List (Str × Bool)) : Nat → Int → Option (Int)
  | 0, _ => none
  | rec_n1 + 1, p2450 =>
    if (decide (p2450 < (l0.length : Int))) = true then
      (atI l0 p2450).bind fun x2454 =>
      (graph_TopoSort_1 n x2454 b1 m3).bind fun r2456 =>
      if r2456 = true then
        some p2450
      else
        (slices_IndexFunc_string_c99_v1_L1 n l0 b1 m3 rec_n1) (IntKind.i64.wrap (p2450 + 1))
    else
      some (-1)

def slices_IndexFunc_string_c99_v1 (n : Nat) (l0 : List Str) (b1 : ApiRung) (m3 : List (Str × Bool)) : Option (Int) :=
  slices_IndexFunc_string_c99_v1_L1 n l0 b1 m3 n 0

def slices_Delete_string_v1 (n : Nat) (i_1 : Int) (j2 : Int) (l0 : List Str) : Option ((List Str)) :=
  if 0 ≤ i_1 ∧ i_1 ≤ j2 ∧ j2 ≤ (l0.length : Int) ∧ (l0.length : Int) ≤ (l0.length : Int) then
    if (i_1 == j2) = true then
      some l0
    else
      if 0 ≤ 0 ∧ 0 ≤ i_1 ∧ i_1 ≤ (l0.length : Int) then
        if 0 ≤ j2 ∧ j2 ≤ (l0.length : Int) ∧ (l0.length : Int) ≤ (l0.length : Int) then
          if i_1.toNat + (l0.length - j2.toNat) ≤ l0.length then
            (some (l0.take i_1.toNat ++ ((l0.drop j2.toNat) ++ l0.drop (i_1.toNat + (l0.length - j2.toNat))))).bind fun l2463 =>
            if 0 ≤ (((i_1.toNat + (l0.length - j2.toNat)) : Nat) : Int) ∧ (((i_1.toNat + (l0.length - j2.toNat)) : Nat) : Int) ≤ (l0.length : Int) ∧ (l0.length : Int) ≤ l2463.length then
              if ((i_1.toNat + (l0.length - j2.toNat)) + (l0.length - (i_1.toNat + (l0.length - j2.toNat)))) ≤ l2463.length then
                some (l2463.take (i_1.toNat + (l0.length - j2.toNat)))
              else none
            else none
          else none
        else none
      else none
  else none

def graph_TopoSort_L1 (n : Nat) (r_0 : ApiRung) : Nat → (List Str) → (List (Str × Bool)) → (List Str) → Option ((List Str) × Int)
  | 0, _, _, _ => none
  | rec_n1 + 1, r2466, p2467, p2468 =>
    if (decide ((r2466.length : Int) > 0)) = true then
      (slices_IndexFunc_string_c99_v1 n r2466 r_0 p2467).bind fun r2476 =>
      if (decide (r2476 < 0)) = true then
        some ([], 12)
      else
        (atI r2466 r2476).bind fun x2477 =>
        if p2468.length + ([x2477]).length ≤ 1000000000 then
          (some (p2468 ++ ([x2477]))).bind fun l2478 =>
          (slices_Delete_string_v1 n r2476 (IntKind.i64.wrap (r2476 + 1)) r2466).bind fun q2480 =>
          (graph_TopoSort_L1 n r_0 rec_n1) q2480 (mPut p2467 x2477 true) l2478
        else none
    else
      some (p2468, 0)

def graph_TopoSort (n : Nat) (r_0 : ApiRung) : Option ((List Str) × Int) :=
  (graph_Nodes_o0 n r_0).bind fun r2364 =>
  graph_TopoSort_L1 n r_0 n r2364 ([]) ([])

def slices_Index_string_L1 (s0 : List Str) (v1 : Str) : Nat → Int → Option (Int)
  | 0, _ => none
  | rec_n1 + 1, p3387 =>
    if (decide (p3387 < (s0.length : Int))) = true then
      (atI s0 p3387).bind fun x3389 =>
      if (decide (v1 = x3389)) = true then
        some p3387
      else
        (slices_Index_string_L1 s0 v1 rec_n1) (IntKind.i64.wrap (p3387 + 1))
    else
      some (-1)

def slices_Index_string (n : Nat) (s0 : List Str) (v1 : Str) : Option (Int) :=
  slices_Index_string_L1 s0 v1 n 0

def slices_Contains_string (n : Nat) (s0 : List Str) (v1 : Str) : Option (Bool) :=
  (slices_Index_string n s0 v1).bind fun r3391 =>
  some (decide (r3391 ≥ 0))

def graph_Outgoing_1 (n : Nat) (c0 : ApiContact) (b0 : Str) : Option (Bool) :=
  some (decide (c0.From = b0))

def graph_numbers_c168_L1 (n : Nat) (r_0 : ApiRung) (b0 : Str) : Nat → Int → (List Int) → Option ((List Int))
  | 0, _, _ => none
  | rec_n1 + 1, p3468, p3469 =>
    if (decide (p3468 < (r_0.Contacts.length : Int))) = true then
      (atI r_0.Contacts p3468).bind fun x3474 =>
      (graph_Outgoing_1 n x3474 b0).bind fun r3476 =>
      if r3476 = true then
        if p3469.length + ([p3468]).length ≤ 1000000000 then
          (some (p3469 ++ ([p3468]))).bind fun l3477 =>
          (graph_numbers_c168_L1 n r_0 b0 rec_n1) (IntKind.i64.wrap (p3468 + 1)) l3477
        else none
      else
        (graph_numbers_c168_L1 n r_0 b0 rec_n1) (IntKind.i64.wrap (p3468 + 1)) p3469
    else
      some p3469

def graph_numbers_c168 (n : Nat) (r_0 : ApiRung) (b0 : Str) : Option ((List Int)) :=
  graph_numbers_c168_L1 n r_0 b0 n 0 ([])

def graph_Outgoing (n : Nat) (r_0 : ApiRung) (node1 : Str) : Option ((List Int)) :=
  (graph_numbers_c168 n r_0 node1).bind fun r3479 =>
  some r3479

def graph_Reachable_1_L1 (b0 : ApiRung) (r3494 : List Int) : Nat → Int → (List Str) → Option ((List Str))
  | 0, _, _ => none
  | rec_n1 + 1, p3498, p3499 =>
    if (decide (p3498 < (r3494.length : Int))) = true then
      (atI r3494 p3498).bind fun x3503 =>
      (atI b0.Contacts x3503).bind fun x3504 =>
      if p3499.length + ([x3504.To]).length ≤ 1000000000 then
        (some (p3499 ++ ([x3504.To]))).bind fun l3505 =>
        (graph_Reachable_1_L1 b0 r3494 rec_n1) (IntKind.i64.wrap (p3498 + 1)) l3505
      else none
    else
      some p3499

def graph_Reachable_1 (n : Nat) (n_0 : Str) (b0 : ApiRung) : Option ((List Str)) :=
  (graph_Outgoing n b0 n_0).bind fun r3494 =>
  graph_Reachable_1_L1 b0 r3494 n 0 ([])

def graph_gather_1_c136_166_L1 (b3 : ApiRung) (r3526 : List Str) (slf_graph_gather_1_c136_166 : Str → (List (Str × Bool)) → ApiRung → Option ((List (Str × Bool)))) : Nat → (List (Str × Bool)) → Int → Option ((List (Str × Bool)))
  | 0, _, _ => none
  | rec_n1 + 1, p3530, p3531 =>
    if (decide (p3531 < (r3526.length : Int))) = true then
      (atI r3526 p3531).bind fun x3535 =>
      (slf_graph_gather_1_c136_166 x3535 p3530 b3).bind fun q3537 =>
      (graph_gather_1_c136_166_L1 b3 r3526 slf_graph_gather_1_c136_166 rec_n1) q3537 (IntKind.i64.wrap (p3531 + 1))
    else
      some p3530

def graph_gather_1_c136_166 : Nat → Str → (List (Str × Bool)) → ApiRung → Option ((List (Str × Bool)))
  | 0, _, _, _ => none
  | n + 1, n_0, m1, b3 =>
  if ((mGet m1 n_0).getD false) = true then
    some m1
  else
    (graph_Reachable_1 n n_0 b3).bind fun r3526 =>
    graph_gather_1_c136_166_L1 b3 r3526 (graph_gather_1_c136_166 n) n (mPut m1 n_0 true) 0

def graph_gather_2 (n : Nat) (n_0 : Str) (m1 : List (Str × Bool)) : Option (Bool) :=
  some (!((mGet m1 n_0).getD false))

def slices_IndexFunc_string_c167_v1_L1 (n : Nat) (l0 : List Str) (m2 : List (Str × Bool)) : Nat → Int → Option (Int)
  | 0, _ => none
  | rec_n1 + 1, p3575 =>
    if (decide (p3575 < (l0.length : Int))) = true then
      (atI l0 p3575).bind fun x3579 =>
      (graph_gather_2 n x3579 m2).bind fun r3581 =>
      if r3581 = true then
        some p3575
      else
        (slices_IndexFunc_string_c167_v1_L1 n l0 m2 rec_n1) (IntKind.i64.wrap (p3575 + 1))
    else
      some (-1)

def slices_IndexFunc_string_c167_v1 (n : Nat) (l0 : List Str) (m2 : List (Str × Bool)) : Option (Int) :=
  slices_IndexFunc_string_c167_v1_L1 n l0 m2 n 0

def slices_DeleteFunc_string_c167_v1_L1 (n : Nat) (m2 : List (Str × Bool)) : Nat → (List Str) → Int → Int → Option ((List Str))
  | 0, _, _, _ => none
  | rec_n1 + 1, l3610, r3611, p3612 =>
    if (decide (p3612 < (l3610.length : Int))) = true then
      (atI l3610 p3612).bind fun x3618 =>
      (graph_gather_2 n x3618 m2).bind fun r3620 =>
      if (!r3620) = true then
        (atI l3610 r3611).bind fun x3621 =>
        (some (l3610.set r3611.toNat x3618)).bind fun l3622 =>
        (slices_DeleteFunc_string_c167_v1_L1 n m2 rec_n1) l3622 (IntKind.i64.wrap (r3611 + 1)) (IntKind.i64.wrap (p3612 + 1))
      else
        (slices_DeleteFunc_string_c167_v1_L1 n m2 rec_n1) l3610 r3611 (IntKind.i64.wrap (p3612 + 1))
    else
      if 0 ≤ r3611 ∧ r3611 ≤ (l3610.length : Int) ∧ (l3610.length : Int) ≤ (l3610.length : Int) then
        if (r3611.toNat + (l3610.length - r3611.toNat)) ≤ l3610.length then
          if 0 ≤ 0 ∧ 0 ≤ r3611 ∧ r3611 ≤ (l3610.length : Int) then
            some (l3610.take r3611.toNat)
          else none
        else none
      else none

def slices_DeleteFunc_string_c167_v1 (n : Nat) (l0 : List Str) (m2 : List (Str × Bool)) : Option ((List Str)) :=
  (slices_IndexFunc_string_c167_v1 n l0 m2).bind fun r3604 =>
  if (r3604 == (-1)) = true then
    some l0
  else
    slices_DeleteFunc_string_c167_v1_L1 n m2 n l0 r3604 (IntKind.i64.wrap (r3604 + 1))

def graph_gather_c136 (n : Nat) (r_0 : ApiRung) (node1 : Str) (b0 : ApiRung) : Option ((List Str)) :=
  (graph_Nodes_o0 n r_0).bind fun r3626 =>
  (slices_Contains_string n r3626 node1).bind fun r3630 =>
  if (!r3630) = true then
    some ([])
  else
    (graph_gather_1_c136_166 n node1 ([]) b0).bind fun q3632 =>
    (slices_DeleteFunc_string_c167_v1 n r3626 q3632).bind fun q3634 =>
    some q3634

def graph_Reachable (n : Nat) (r_0 : ApiRung) (node1 : Str) : Option ((List Str)) :=
  (graph_gather_c136 n r_0 node1 r_0).bind fun r3636 =>
  some r3636

def graph_Ancestors_1_L1 (b0 : ApiRung) (r3782 : List Int) : Nat → Int → (List Str) → Option ((List Str))
  | 0, _, _ => none
  | rec_n1 + 1, p3786, p3787 =>
    if (decide (p3786 < (r3782.length : Int))) = true then
      (atI r3782 p3786).bind fun x3791 =>
      (atI b0.Contacts x3791).bind fun x3792 =>
      if p3787.length + ([x3792.From]).length ≤ 1000000000 then
        (some (p3787 ++ ([x3792.From]))).bind fun l3793 =>
        (graph_Ancestors_1_L1 b0 r3782 rec_n1) (IntKind.i64.wrap (p3786 + 1)) l3793
      else none
    else
      some p3787

def graph_Ancestors_1 (n : Nat) (n_0 : Str) (b0 : ApiRung) : Option ((List Str)) :=
  (graph_Incoming n b0 n_0).bind fun r3782 =>
  graph_Ancestors_1_L1 b0 r3782 n 0 ([])

def graph_gather_1_c138_166_L1 (b3 : ApiRung) (r3814 : List Str) (slf_graph_gather_1_c138_166 : Str → (List (Str × Bool)) → ApiRung → Option ((List (Str × Bool)))) : Nat → (List (Str × Bool)) → Int → Option ((List (Str × Bool)))
  | 0, _, _ => none
  | rec_n1 + 1, p3818, p3819 =>
    if (decide (p3819 < (r3814.length : Int))) = true then
      (atI r3814 p3819).bind fun x3823 =>
      (slf_graph_gather_1_c138_166 x3823 p3818 b3).bind fun q3825 =>
      (graph_gather_1_c138_166_L1 b3 r3814 slf_graph_gather_1_c138_166 rec_n1) q3825 (IntKind.i64.wrap (p3819 + 1))
    else
      some p3818

def graph_gather_1_c138_166 : Nat → Str → (List (Str × Bool)) → ApiRung → Option ((List (Str × Bool)))
  | 0, _, _, _ => none
  | n + 1, n_0, m1, b3 =>
  if ((mGet m1 n_0).getD false) = true then
    some m1
  else
    (graph_Ancestors_1 n n_0 b3).bind fun r3814 =>
    graph_gather_1_c138_166_L1 b3 r3814 (graph_gather_1_c138_166 n) n (mPut m1 n_0 true) 0

def graph_gather_c138 (n : Nat) (r_0 : ApiRung) (node1 : Str) (b0 : ApiRung) : Option ((List Str)) :=
  (graph_Nodes_o0 n r_0).bind fun r3831 =>
  (slices_Contains_string n r3831 node1).bind fun r3835 =>
  if (!r3835) = true then
    some ([])
  else
    (graph_gather_1_c138_166 n node1 ([]) b0).bind fun q3837 =>
    (slices_DeleteFunc_string_c167_v1 n r3831 q3837).bind fun q3839 =>
    some q3839

def graph_Ancestors (n : Nat) (r_0 : ApiRung) (node1 : Str) : Option ((List Str)) :=
  (graph_gather_c138 n r_0 node1 r_0).bind fun r3841 =>
  some r3841

def flow_DeadNodes_1 (n : Nat) (n_0 : Str) (b0 : List Str) (b1 : List Str) : Option (Bool) :=
  (slices_Contains_string n b0 n_0).bind fun r3882 =>
  if r3882 = true then
    (slices_Contains_string n b1 n_0).bind fun r3884 =>
    some r3884
  else
    some false

def slices_IndexFunc_string_c107_v1_L1 (n : Nat) (l0 : List Str) (b1 : List Str) (b2 : List Str) : Nat → Int → Option (Int)
  | 0, _ => none
  | rec_n1 + 1, p3897 =>
    if (decide (p3897 < (l0.length : Int))) = true then
      (atI l0 p3897).bind fun x3901 =>
      (flow_DeadNodes_1 n x3901 b1 b2).bind fun r3903 =>
      if r3903 = true then
        some p3897
      else
        (slices_IndexFunc_string_c107_v1_L1 n l0 b1 b2 rec_n1) (IntKind.i64.wrap (p3897 + 1))
    else
      some (-1)

def slices_IndexFunc_string_c107_v1 (n : Nat) (l0 : List Str) (b1 : List Str) (b2 : List Str) : Option (Int) :=
  slices_IndexFunc_string_c107_v1_L1 n l0 b1 b2 n 0

def slices_DeleteFunc_string_c107_L1 (n : Nat) (b1 : List Str) (b2 : List Str) : Nat → (List Str) → Int → Int → Option ((List Str))
  | 0, _, _, _ => none
  | rec_n1 + 1, l3932, r3933, p3934 =>
    if (decide (p3934 < (l3932.length : Int))) = true then
      (atI l3932 p3934).bind fun x3940 =>
      (flow_DeadNodes_1 n x3940 b1 b2).bind fun r3942 =>
      if (!r3942) = true then
        (atI l3932 r3933).bind fun x3943 =>
        (some (l3932.set r3933.toNat x3940)).bind fun l3944 =>
        (slices_DeleteFunc_string_c107_L1 n b1 b2 rec_n1) l3944 (IntKind.i64.wrap (r3933 + 1)) (IntKind.i64.wrap (p3934 + 1))
      else
        (slices_DeleteFunc_string_c107_L1 n b1 b2 rec_n1) l3932 r3933 (IntKind.i64.wrap (p3934 + 1))
    else
      if 0 ≤ r3933 ∧ r3933 ≤ (l3932.length : Int) ∧ (l3932.length : Int) ≤ (l3932.length : Int) then
        if (r3933.toNat + (l3932.length - r3933.toNat)) ≤ l3932.length then
          if 0 ≤ 0 ∧ 0 ≤ r3933 ∧ r3933 ≤ (l3932.length : Int) then
            some (l3932.take r3933.toNat)
          else none
        else none
      else none

def slices_DeleteFunc_string_c107 (n : Nat) (l0 : List Str) (b1 : List Str) (b2 : List Str) : Option ((List Str)) :=
  (slices_IndexFunc_string_c107_v1 n l0 b1 b2).bind fun r3926 =>
  if (r3926 == (-1)) = true then
    some l0
  else
    slices_DeleteFunc_string_c107_L1 n b1 b2 n l0 r3926 (IntKind.i64.wrap (r3926 + 1))

def flow_DeadNodes (n : Nat) (r_0 : ApiRung) : Option ((List Str)) :=
  (graph_Reachable n r_0 (⟨#[76]⟩ : Str)).bind fun r3638 =>
  (graph_Ancestors n r_0 (⟨#[82]⟩ : Str)).bind fun r3843 =>
  (graph_Nodes_o0 n r_0).bind fun r3845 =>
  (slices_DeleteFunc_string_c107 n r3845 r3638 r3843).bind fun q3946 =>
  some q3946

def flow_Check (n : Nat) (r_0 : ApiRung) : Option (Int) :=
  if ((r_0.Contacts.length : Int) == 0) = true then
    some 4
  else
    (graph_TopoSort n r_0).bind fun ⟨r2485, r2486⟩ =>
    if (r2486 != 0) = true then
      some r2486
    else
      (flow_DeadNodes n r_0).bind fun r3948 =>
      if (decide ((r3948.length : Int) > 0)) = true then
        some 13
      else
        some 0

def reduce_parallel_1 (n : Nat) (y0 : ReduceEdge) (b0 : ReduceEdge) : Option (Bool) :=
  some ((decide (y0.pair.from_ = b0.pair.from_)) && (decide (y0.pair.to_ = b0.pair.to_)))

def slices_IndexFunc_reduce_edge_c66_L1 (n : Nat) (s0 : List ReduceEdge) (b0 : ReduceEdge) : Nat → Int → Option (Int)
  | 0, _ => none
  | rec_n1 + 1, p4023 =>
    if (decide (p4023 < (s0.length : Int))) = true then
      (atI s0 p4023).bind fun x4027 =>
      (reduce_parallel_1 n x4027 b0).bind fun r4029 =>
      if r4029 = true then
        some p4023
      else
        (slices_IndexFunc_reduce_edge_c66_L1 n s0 b0 rec_n1) (IntKind.i64.wrap (p4023 + 1))
    else
      some (-1)

def slices_IndexFunc_reduce_edge_c66 (n : Nat) (s0 : List ReduceEdge) (b0 : ReduceEdge) : Option (Int) :=
  slices_IndexFunc_reduce_edge_c66_L1 n s0 b0 n 0

def slices_IndexFunc_reduce_edge_c66_v1_L1 (n : Nat) (s0 : Nat) (l0 : List ReduceEdge) (b1 : ReduceEdge) : Nat → Int → Option (Int)
  | 0, _ => none
  | rec_n1 + 1, p4043 =>
    if (decide (p4043 < (((l0.length - s0) : Nat) : Int))) = true then
      (atI (l0.drop s0) p4043).bind fun x4047 =>
      (reduce_parallel_1 n x4047 b1).bind fun r4049 =>
      if r4049 = true then
        some p4043
      else
        (slices_IndexFunc_reduce_edge_c66_v1_L1 n s0 l0 b1 rec_n1) (IntKind.i64.wrap (p4043 + 1))
    else
      some (-1)

def slices_IndexFunc_reduce_edge_c66_v1 (n : Nat) (s0 : Nat) (l0 : List ReduceEdge) (b1 : ReduceEdge) : Option (Int) :=
  slices_IndexFunc_reduce_edge_c66_v1_L1 n s0 l0 b1 n 0

def reduce_join_L1 (kind0 : Int) (l4064 : List TreeTree) : Nat → Int → (List TreeTree) → Option (TreeTree)
  | 0, _, _ => none
  | rec_n1 + 1, p4067, p4068 =>
    if (decide (p4067 < (l4064.length : Int))) = true then
      (atI l4064 p4067).bind fun x4072 =>
      if (x4072.Kind == kind0) = true then
        if p4068.length + x4072.Kids.length ≤ 1000000000 then
          (some (p4068 ++ x4072.Kids)).bind fun l4073 =>
          (reduce_join_L1 kind0 l4064 rec_n1) (IntKind.i64.wrap (p4067 + 1)) l4073
        else none
      else
        if p4068.length + ([x4072]).length ≤ 1000000000 then
          (some (p4068 ++ ([x4072]))).bind fun l4074 =>
          (reduce_join_L1 kind0 l4064 rec_n1) (IntKind.i64.wrap (p4067 + 1)) l4074
        else none
    else
      some (⟨kind0, 0, p4068⟩ : TreeTree)

def reduce_join (n : Nat) (kind0 : Int) (a1 : TreeTree) (b2 : TreeTree) : Option (TreeTree) :=
  (some ([a1, b2])).bind fun l4064 =>
  reduce_join_L1 kind0 l4064 n 0 ([])

def slices_Delete_reduce_edge_v1 (n : Nat) (i_1 : Int) (j2 : Int) (l0 : List ReduceEdge) : Option ((List ReduceEdge)) :=
  if 0 ≤ i_1 ∧ i_1 ≤ j2 ∧ j2 ≤ (l0.length : Int) ∧ (l0.length : Int) ≤ (l0.length : Int) then
    if (i_1 == j2) = true then
      some l0
    else
      if 0 ≤ 0 ∧ 0 ≤ i_1 ∧ i_1 ≤ (l0.length : Int) then
        if 0 ≤ j2 ∧ j2 ≤ (l0.length : Int) ∧ (l0.length : Int) ≤ (l0.length : Int) then
          if i_1.toNat + (l0.length - j2.toNat) ≤ l0.length then
            (some (l0.take i_1.toNat ++ ((l0.drop j2.toNat) ++ l0.drop (i_1.toNat + (l0.length - j2.toNat))))).bind fun l4082 =>
            if 0 ≤ (((i_1.toNat + (l0.length - j2.toNat)) : Nat) : Int) ∧ (((i_1.toNat + (l0.length - j2.toNat)) : Nat) : Int) ≤ (l0.length : Int) ∧ (l0.length : Int) ≤ l4082.length then
              if ((i_1.toNat + (l0.length - j2.toNat)) + (l0.length - (i_1.toNat + (l0.length - j2.toNat)))) ≤ l4082.length then
                some (l4082.take (i_1.toNat + (l0.length - j2.toNat)))
              else none
            else none
          else none
        else none
      else none
  else none

def reduce_parallel_v1_L1 (n : Nat) (l0 : List ReduceEdge) : Nat → Int → Option (Bool × (List ReduceEdge))
  | 0, _ => none
  | rec_n1 + 1, p4114 =>
    if (decide (p4114 < (l0.length : Int))) = true then
      (atI l0 p4114).bind fun x4124 =>
      if 0 ≤ (IntKind.i64.wrap (p4114 + 1)) ∧ (IntKind.i64.wrap (p4114 + 1)) ≤ (l0.length : Int) ∧ (l0.length : Int) ≤ (l0.length : Int) then
        (slices_IndexFunc_reduce_edge_c66_v1 n ((IntKind.i64.wrap (p4114 + 1)).toNat) l0 x4124).bind fun r4126 =>
        if (decide (r4126 ≥ 0)) = true then
          (atI l0 (IntKind.i64.wrap ((IntKind.i64.wrap (p4114 + 1)) + r4126))).bind fun x4127 =>
          (reduce_join n 2 x4124.t_ x4127.t_).bind fun r4129 =>
          (some (l0.set p4114.toNat (⟨x4124.pair, r4129⟩ : ReduceEdge))).bind fun l4130 =>
          (slices_Delete_reduce_edge_v1 n (IntKind.i64.wrap ((IntKind.i64.wrap (p4114 + 1)) + r4126)) (IntKind.i64.wrap ((IntKind.i64.wrap (p4114 + 2)) + r4126)) l4130).bind fun q4132 =>
          some (true, q4132)
        else
          (reduce_parallel_v1_L1 n l0 rec_n1) (IntKind.i64.wrap (p4114 + 1))
      else none
    else
      some (false, l0)

def reduce_parallel_v1 (n : Nat) (l0 : List ReduceEdge) : Option (Bool × (List ReduceEdge)) :=
  reduce_parallel_v1_L1 n l0 n 0

def reduce_series_v1_J2 (n : Nat) (l0 : List ReduceEdge) (p4288 : Int) (loop_1_reduce_series_v1 : Int → Option (Bool × (List ReduceEdge))) (x4323 : ReduceEdge) (p4336 : Int) (p4337 : Int) (p4338 : Int) : Option (Bool × (List ReduceEdge)) :=
  if (p4336 == 1) = true then
    if (p4337 == 1) = true then
      (atI l0 p4338).bind fun x4339 =>
      (reduce_join n 1 x4323.t_ x4339.t_).bind fun r4341 =>
      (some (l0.set p4288.toNat (⟨(⟨x4323.pair.from_, x4339.pair.to_⟩ : ReducePair), r4341⟩ : ReduceEdge))).bind fun l4342 =>
      (slices_Delete_reduce_edge_v1 n p4338 (IntKind.i64.wrap (p4338 + 1)) l4342).bind fun q4344 =>
      some (true, q4344)
    else
      loop_1_reduce_series_v1 (IntKind.i64.wrap (p4288 + 1))
  else
    loop_1_reduce_series_v1 (IntKind.i64.wrap (p4288 + 1))

def reduce_series_v1_J4 (x4323 : ReduceEdge) (p4347 : Int) (p4349 : Int) (p4352 : Int) (loop_3_reduce_series_v1 : Int → Int → Int → Int → Option (Bool × (List ReduceEdge))) (x4355 : ReduceEdge) (p4356 : Int) : Option (Bool × (List ReduceEdge)) :=
  if (decide (x4355.pair.from_ = x4323.pair.to_)) = true then
    loop_3_reduce_series_v1 (IntKind.i64.wrap (p4347 + 1)) p4356 (IntKind.i64.wrap (p4349 + 1)) p4347
  else
    loop_3_reduce_series_v1 (IntKind.i64.wrap (p4347 + 1)) p4356 p4349 p4352

def reduce_series_v1_L3 (n : Nat) (l0 : List ReduceEdge) (p4288 : Int) (loop_1_reduce_series_v1 : Int → Option (Bool × (List ReduceEdge))) (x4323 : ReduceEdge) : Nat → Int → Int → Int → Int → Option (Bool × (List ReduceEdge))
  | 0, _, _, _, _ => none
  | rec_n3 + 1, p4347, p4348, p4349, p4352 =>
    if (decide (p4347 < (l0.length : Int))) = true then
      (atI l0 p4347).bind fun x4355 =>
      if (decide (x4355.pair.to_ = x4323.pair.to_)) = true then
        reduce_series_v1_J4 x4323 p4347 p4349 p4352 (reduce_series_v1_L3 n l0 p4288 loop_1_reduce_series_v1 x4323 rec_n3) x4355 (IntKind.i64.wrap (p4348 + 1))
      else
        reduce_series_v1_J4 x4323 p4347 p4349 p4352 (reduce_series_v1_L3 n l0 p4288 loop_1_reduce_series_v1 x4323 rec_n3) x4355 p4348
    else
      reduce_series_v1_J2 n l0 p4288 loop_1_reduce_series_v1 x4323 p4348 p4349 p4352

def reduce_series_v1_L1 (n : Nat) (l0 : List ReduceEdge) : Nat → Int → Option (Bool × (List ReduceEdge))
  | 0, _ => none
  | rec_n1 + 1, p4288 =>
    if (decide (p4288 < (l0.length : Int))) = true then
      (atI l0 p4288).bind fun x4323 =>
      if (decide (x4323.pair.to_ = (⟨#[76]⟩ : Str))) = true then
        (reduce_series_v1_L1 n l0 rec_n1) (IntKind.i64.wrap (p4288 + 1))
      else
        if (decide (x4323.pair.to_ = (⟨#[82]⟩ : Str))) = true then
          (reduce_series_v1_L1 n l0 rec_n1) (IntKind.i64.wrap (p4288 + 1))
        else
          reduce_series_v1_L3 n l0 p4288 (reduce_series_v1_L1 n l0 rec_n1) x4323 n 0 0 0 0
    else
      some (false, l0)

def reduce_series_v1 (n : Nat) (l0 : List ReduceEdge) : Option (Bool × (List ReduceEdge)) :=
  reduce_series_v1_L1 n l0 n 0

def tree_Leaves_L2 (t0 : TreeTree) (slf_tree_Leaves : TreeTree → Option ((List Int))) : Nat → Int → (List Int) → Option ((List Int))
  | 0, _, _ => none
  | rec_n2 + 1, p4414, p4415 =>
    if (decide (p4414 < (t0.Kids.length : Int))) = true then
      (atI t0.Kids p4414).bind fun x4420 =>
      (slf_tree_Leaves x4420).bind fun r4422 =>
      if p4415.length + r4422.length ≤ 1000000000 then
        (some (p4415 ++ r4422)).bind fun l4423 =>
        (tree_Leaves_L2 t0 slf_tree_Leaves rec_n2) (IntKind.i64.wrap (p4414 + 1)) l4423
      else none
    else
      some p4415

def tree_Leaves_J1 (n : Nat) (t0 : TreeTree) (slf_tree_Leaves : TreeTree → Option ((List Int))) (p4410 : Bool) : Option ((List Int)) :=
  if p4410 = true then
    tree_Leaves_L2 t0 slf_tree_Leaves n 0 ([])
  else
    some ([])

def tree_Leaves : Nat → TreeTree → Option ((List Int))
  | 0, _ => none
  | n + 1, t0 =>
  if (t0.Kind == 0) = true then
    (some ([t0.N])).bind fun l4409 =>
    some l4409
  else
    if (t0.Kind == 1) = true then
      tree_Leaves_J1 n t0 (tree_Leaves n) (t0.Kind == 1)
    else
      tree_Leaves_J1 n t0 (tree_Leaves n) (t0.Kind == 2)

def slices_Min_int_L1 (x_0 : List Int) : Nat → Int → Int → Option (Int)
  | 0, _, _ => none
  | rec_n1 + 1, x4428, p4429 =>
    if (decide (p4429 < (x_0.length : Int))) = true then
      (atI x_0 p4429).bind fun x4431 =>
      (slices_Min_int_L1 x_0 rec_n1) (imin x4428 x4431) (IntKind.i64.wrap (p4429 + 1))
    else
      some x4428

def slices_Min_int (n : Nat) (x_0 : List Int) : Option (Int) :=
  if (decide ((x_0.length : Int) < 1)) = true then
    none
  else
    (atI x_0 0).bind fun x4426 =>
    slices_Min_int_L1 x_0 n x4426 1

def cmp_isNaN_int (n : Nat) (x_0 : Int) : Option (Bool) :=
  some (x_0 != x_0)

def cmp_Compare_int (n : Nat) (x_0 : Int) (y1 : Int) : Option (Int) :=
  (cmp_isNaN_int n x_0).bind fun r4439 =>
  (cmp_isNaN_int n y1).bind fun r4441 =>
  if r4439 = true then
    if r4441 = true then
      some 0
    else
      some (-1)
  else
    if r4441 = true then
      some 1
    else
      if (decide (x_0 < y1)) = true then
        some (-1)
      else
        if (decide (x_0 > y1)) = true then
          some 1
        else
          some 0

def reduce_sorted_1 (n : Nat) (a0 : TreeTree) (b1 : TreeTree) : Option (Int) :=
  (tree_Leaves n a0).bind fun r4425 =>
  (slices_Min_int n r4425).bind fun r4433 =>
  (tree_Leaves n b1).bind fun r4435 =>
  (slices_Min_int n r4435).bind fun r4437 =>
  (cmp_Compare_int n r4433 r4437).bind fun r4443 =>
  some r4443

def slices_SortFunc_tree_Tree_c70 (n : Nat) (l0 : List TreeTree) : Option (List TreeTree) := sortM (fun a b => reduce_sorted_1 n a b) l0

def reduce_sorted_J1 (n : Nat) (t0 : TreeTree) (p4398 : List TreeTree) : Option (TreeTree) :=
  if (t0.Kind == 2) = true then
    (slices_SortFunc_tree_Tree_c70 n p4398).bind fun q4445 =>
    some (⟨t0.Kind, t0.N, q4445⟩ : TreeTree)
  else
    some (⟨t0.Kind, t0.N, p4398⟩ : TreeTree)

def reduce_sorted_L2 (n : Nat) (t0 : TreeTree) (slf_reduce_sorted : TreeTree → Option (TreeTree)) : Nat → Int → (List TreeTree) → Option (TreeTree)
  | 0, _, _ => none
  | rec_n2 + 1, p4450, p4451 =>
    if (decide (p4450 < (t0.Kids.length : Int))) = true then
      (atI t0.Kids p4450).bind fun x4456 =>
      (slf_reduce_sorted x4456).bind fun r4458 =>
      if p4451.length + ([r4458]).length ≤ 1000000000 then
        (some (p4451 ++ ([r4458]))).bind fun l4459 =>
        (reduce_sorted_L2 n t0 slf_reduce_sorted rec_n2) (IntKind.i64.wrap (p4450 + 1)) l4459
      else none
    else
      reduce_sorted_J1 n t0 p4451

def reduce_sorted : Nat → TreeTree → Option (TreeTree)
  | 0, _ => none
  | n + 1, t0 =>
  reduce_sorted_L2 n t0 (reduce_sorted n) n 0 ([])

def reduce_Reduce_J2 (n : Nat) (p4374 : List ReduceEdge) : Option (TreeTree × Int) :=
  if ((p4374.length : Int) != 1) = true then
    some ((⟨0, 0, []⟩ : TreeTree), 14)
  else
    (atI p4374 0).bind fun x4375 =>
    if (!((decide (x4375.pair.from_ = (⟨#[76]⟩ : Str))) && (decide (x4375.pair.to_ = (⟨#[82]⟩ : Str))))) = true then
      some ((⟨0, 0, []⟩ : TreeTree), 14)
    else
      (reduce_sorted n x4375.t_).bind fun r4461 =>
      some (r4461, 0)

def reduce_Reduce_L3 (n : Nat) : Nat → (List ReduceEdge) → Bool → Option (TreeTree × Int)
  | 0, _, _ => none
  | rec_n3 + 1, p4468, true4469 =>
    if true4469 = true then
      (reduce_parallel_v1 n p4468).bind fun ⟨r4477, q4478⟩ =>
      (reduce_series_v1 n q4478).bind fun ⟨r4480, q4481⟩ =>
      if r4477 = true then
        (reduce_Reduce_L3 n rec_n3) q4481 true
      else
        (reduce_Reduce_L3 n rec_n3) q4481 r4480
    else
      reduce_Reduce_J2 n p4468

def reduce_Reduce_J1 (n : Nat) (p3961 : List ReduceEdge) : Option (TreeTree × Int) :=
  reduce_Reduce_L3 n n p3961 true

def reduce_Reduce_L4 (n : Nat) (_append0 : ApiRung) : Nat → Int → (List ReduceEdge) → Option (TreeTree × Int)
  | 0, _, _ => none
  | rec_n4 + 1, p4484, p4485 =>
    if (decide (p4484 < (_append0.Contacts.length : Int))) = true then
      (atI _append0.Contacts p4484).bind fun x4488 =>
      if p4485.length + ([(⟨(⟨x4488.From, x4488.To⟩ : ReducePair), (⟨0, p4484, ([] : List TreeTree)⟩ : TreeTree)⟩ : ReduceEdge)]).length ≤ 1000000000 then
        (some (p4485 ++ ([(⟨(⟨x4488.From, x4488.To⟩ : ReducePair), (⟨0, p4484, ([] : List TreeTree)⟩ : TreeTree)⟩ : ReduceEdge)]))).bind fun l4489 =>
        (reduce_Reduce_L4 n _append0 rec_n4) (IntKind.i64.wrap (p4484 + 1)) l4489
      else none
    else
      reduce_Reduce_J1 n p4485

def reduce_Reduce (n : Nat) (_append0 : ApiRung) : Option (TreeTree × Int) :=
  (flow_Check n _append0).bind fun r3952 =>
  if (r3952 != 0) = true then
    some ((⟨0, 0, []⟩ : TreeTree), r3952)
  else
    reduce_Reduce_L4 n _append0 n 0 ([])

def strconv_Itoa (n : Nat) (i : Int) : Option Str := if 0 ≤ i ∧ i < 100 then some (dec2 i.toNat) else none

def strings_Join (n : Nat) (l : List Str) (sep : Str) : Option Str := if l.length ≤ 140737488355328 ∧ (joinS l sep).size ≤ 140737488355328 then some (joinS l sep) else none

def tree_Format_J2 (n : Nat) (p4529 : List Str) : Option (Str) :=
  (strings_Join n p4529 (⟨#[32]⟩ : Str)).bind fun r4531 =>
  if (Utf8.encode 0).size + r4531.size ≤ 1000000000 then
    if ((Utf8.encode 0) ++ r4531).size + (Utf8.encode 0).size ≤ 1000000000 then
      some (((Utf8.encode 0) ++ r4531) ++ (Utf8.encode 0))
    else none
  else none

def tree_Format_L3 (n : Nat) (t0 : TreeTree) (slf_tree_Format : TreeTree → Option (Str)) : Nat → Int → (List Str) → Option (Str)
  | 0, _, _ => none
  | rec_n3 + 1, p4536, p4537 =>
    if (decide (p4536 < (t0.Kids.length : Int))) = true then
      (atI t0.Kids p4536).bind fun x4542 =>
      (slf_tree_Format x4542).bind fun r4544 =>
      if p4537.length + ([r4544]).length ≤ 1000000000 then
        (some (p4537 ++ ([r4544]))).bind fun l4545 =>
        (tree_Format_L3 n t0 slf_tree_Format rec_n3) (IntKind.i64.wrap (p4536 + 1)) l4545
      else none
    else
      tree_Format_J2 n p4537

def tree_Format_J4 (n : Nat) (p4560 : List Str) : Option (Str) :=
  (strings_Join n p4560 (⟨#[32]⟩ : Str)).bind fun r4562 =>
  if (Utf8.encode 91).size + r4562.size ≤ 1000000000 then
    if ((Utf8.encode 91) ++ r4562).size + (Utf8.encode 93).size ≤ 1000000000 then
      some (((Utf8.encode 91) ++ r4562) ++ (Utf8.encode 93))
    else none
  else none

def tree_Format_L5 (n : Nat) (t0 : TreeTree) (slf_tree_Format : TreeTree → Option (Str)) : Nat → Int → (List Str) → Option (Str)
  | 0, _, _ => none
  | rec_n5 + 1, p4567, p4568 =>
    if (decide (p4567 < (t0.Kids.length : Int))) = true then
      (atI t0.Kids p4567).bind fun x4573 =>
      (slf_tree_Format x4573).bind fun r4575 =>
      if p4568.length + ([r4575]).length ≤ 1000000000 then
        (some (p4568 ++ ([r4575]))).bind fun l4576 =>
        (tree_Format_L5 n t0 slf_tree_Format rec_n5) (IntKind.i64.wrap (p4567 + 1)) l4576
      else none
    else
      tree_Format_J4 n p4568

def tree_Format_J6 (n : Nat) (p4591 : List Str) : Option (Str) :=
  (strings_Join n p4591 (⟨#[32]⟩ : Str)).bind fun r4593 =>
  if (Utf8.encode 123).size + r4593.size ≤ 1000000000 then
    if ((Utf8.encode 123) ++ r4593).size + (Utf8.encode 125).size ≤ 1000000000 then
      some (((Utf8.encode 123) ++ r4593) ++ (Utf8.encode 125))
    else none
  else none

def tree_Format_L7 (n : Nat) (t0 : TreeTree) (slf_tree_Format : TreeTree → Option (Str)) : Nat → Int → (List Str) → Option (Str)
  | 0, _, _ => none
  | rec_n7 + 1, p4598, p4599 =>
    if (decide (p4598 < (t0.Kids.length : Int))) = true then
      (atI t0.Kids p4598).bind fun x4604 =>
      (slf_tree_Format x4604).bind fun r4606 =>
      if p4599.length + ([r4606]).length ≤ 1000000000 then
        (some (p4599 ++ ([r4606]))).bind fun l4607 =>
        (tree_Format_L7 n t0 slf_tree_Format rec_n7) (IntKind.i64.wrap (p4598 + 1)) l4607
      else none
    else
      tree_Format_J6 n p4599

def tree_Format_J1 (n : Nat) (t0 : TreeTree) (slf_tree_Format : TreeTree → Option (Str)) : Option (Str) :=
  if t0.Kind = 0 then
    tree_Format_L3 n t0 slf_tree_Format n 0 ([])
  else
    if t0.Kind = 1 then
      tree_Format_L5 n t0 slf_tree_Format n 0 ([])
    else
      if t0.Kind = 2 then
        tree_Format_L7 n t0 slf_tree_Format n 0 ([])
      else
        none

def tree_Format : Nat → TreeTree → Option (Str)
  | 0, _ => none
  | n + 1, t0 =>
  if (t0.Kind == 0) = true then
    (strconv_Itoa n t0.N).bind fun r4514 =>
    some r4514
  else
    if (t0.Kind != 1) = true then
      if (t0.Kind != 2) = true then
        some (⟨#[]⟩ : Str)
      else
        tree_Format_J1 n t0 (tree_Format n)
    else
      tree_Format_J1 n t0 (tree_Format n)

def law15_alive (n : Nat) : Option (Bool) :=
  (some ([(⟨#[76]⟩ : Str), (⟨#[97]⟩ : Str), (⟨#[97]⟩ : Str), (⟨#[82]⟩ : Str), (⟨#[76]⟩ : Str), (⟨#[82]⟩ : Str)])).bind fun l14 =>
  (law15_rung n l14).bind fun r33 =>
  (reduce_Reduce n r33).bind fun ⟨r4491, r4492⟩ =>
  (some ([(⟨#[76]⟩ : Str), (⟨#[97]⟩ : Str), (⟨#[97]⟩ : Str), (⟨#[82]⟩ : Str), (⟨#[76]⟩ : Str), (⟨#[98]⟩ : Str), (⟨#[98]⟩ : Str), (⟨#[82]⟩ : Str), (⟨#[97]⟩ : Str), (⟨#[98]⟩ : Str)])).bind fun l4493 =>
  (law15_rung n l4493).bind fun r4495 =>
  (reduce_Reduce n r4495).bind fun ⟨r4497, r4498⟩ =>
  if (r4492 == 0) = true then
    (tree_Format n r4491).bind fun r4609 =>
    if (decide (r4609 = (⟨#[123, 91, 48, 32, 49, 93, 32, 50, 125]⟩ : Str))) = true then
      some (r4498 == 14)
    else
      some false
  else
    some false

def ref12_has_L1 (l0 : List Str) (s1 : Str) : Nat → Int → Option (Bool)
  | 0, _ => none
  | rec_n1 + 1, p7444 =>
    if (decide (p7444 < (l0.length : Int))) = true then
      (atI l0 p7444).bind fun x7446 =>
      if (decide (x7446 = s1)) = true then
        some true
      else
        (ref12_has_L1 l0 s1 rec_n1) (IntKind.i64.wrap (p7444 + 1))
    else
      some false

def ref12_has (n : Nat) (l0 : List Str) (s1 : Str) : Option (Bool) :=
  ref12_has_L1 l0 s1 n 0

def ref12_Nodes_J2 (n : Nat) (r_0 : ApiRung) (p7460 : Int) (loop_1_ref12_Nodes : (List Str) → Int → Option ((List Str))) (l7478 : List Str) : Option ((List Str)) :=
  (atI r_0.Contacts p7460).bind fun x7479 =>
  (ref12_has n l7478 x7479.To).bind fun r7481 =>
  if (!r7481) = true then
    if l7478.length + ([x7479.To]).length ≤ 1000000000 then
      (some (l7478 ++ ([x7479.To]))).bind fun l7482 =>
      loop_1_ref12_Nodes l7482 (IntKind.i64.wrap (p7460 + 1))
    else none
  else
    loop_1_ref12_Nodes l7478 (IntKind.i64.wrap (p7460 + 1))

def ref12_Nodes_L1 (n : Nat) (r_0 : ApiRung) : Nat → (List Str) → Int → Option ((List Str))
  | 0, _, _ => none
  | rec_n1 + 1, l7459, p7460 =>
    if (decide (p7460 < (r_0.Contacts.length : Int))) = true then
      (atI r_0.Contacts p7460).bind fun x7483 =>
      (ref12_has n l7459 x7483.From).bind fun r7485 =>
      if (!r7485) = true then
        if l7459.length + ([x7483.From]).length ≤ 1000000000 then
          (some (l7459 ++ ([x7483.From]))).bind fun l7486 =>
          ref12_Nodes_J2 n r_0 p7460 (ref12_Nodes_L1 n r_0 rec_n1) l7486
        else none
      else
        ref12_Nodes_J2 n r_0 p7460 (ref12_Nodes_L1 n r_0 rec_n1) l7459
    else
      some l7459

def ref12_Nodes (n : Nat) (r_0 : ApiRung) : Option ((List Str)) :=
  (some ([(⟨#[76]⟩ : Str), (⟨#[82]⟩ : Str)])).bind fun l7441 =>
  ref12_Nodes_L1 n r_0 n l7441 0

def ref12_TopoSort_J2 (r7488 : List Str) (p7606 : List Str) (loop_1_ref12_TopoSort : (List Str) → Option ((List Str) × Int)) (p7778 : Int) : Option ((List Str) × Int) :=
  if (decide (p7778 < 0)) = true then
    some ([], 12)
  else
    (atI r7488 p7778).bind fun x7779 =>
    if p7606.length + ([x7779]).length ≤ 1000000000 then
      (some (p7606 ++ ([x7779]))).bind fun l7780 =>
      loop_1_ref12_TopoSort l7780
    else none

def ref12_TopoSort_L4 (n : Nat) (_append0 : ApiRung) (r7488 : List Str) (p7606 : List Str) (p7799 : Int) (p7800 : Int) (loop_3_ref12_TopoSort : Int → Int → Option ((List Str) × Int)) : Nat → Bool → Int → Option ((List Str) × Int)
  | 0, _, _ => none
  | rec_n4 + 1, true7828, p7829 =>
    if (decide (p7829 < (_append0.Contacts.length : Int))) = true then
      (atI _append0.Contacts p7829).bind fun x7833 =>
      (atI r7488 p7799).bind fun x7834 =>
      if (decide (x7833.To = x7834)) = true then
        (ref12_has n p7606 x7833.From).bind fun r7836 =>
        if (!r7836) = true then
          (ref12_TopoSort_L4 n _append0 r7488 p7606 p7799 p7800 loop_3_ref12_TopoSort rec_n4) false (IntKind.i64.wrap (p7829 + 1))
        else
          (ref12_TopoSort_L4 n _append0 r7488 p7606 p7799 p7800 loop_3_ref12_TopoSort rec_n4) true7828 (IntKind.i64.wrap (p7829 + 1))
      else
        (ref12_TopoSort_L4 n _append0 r7488 p7606 p7799 p7800 loop_3_ref12_TopoSort rec_n4) true7828 (IntKind.i64.wrap (p7829 + 1))
    else
      if true7828 = true then
        loop_3_ref12_TopoSort (IntKind.i64.wrap (p7799 + 1)) p7799
      else
        loop_3_ref12_TopoSort (IntKind.i64.wrap (p7799 + 1)) p7800

def ref12_TopoSort_L3 (n : Nat) (_append0 : ApiRung) (r7488 : List Str) (p7606 : List Str) (loop_1_ref12_TopoSort : (List Str) → Option ((List Str) × Int)) : Nat → Int → Int → Option ((List Str) × Int)
  | 0, _, _ => none
  | rec_n3 + 1, p7799, p7800 =>
    if (decide (p7799 < (r7488.length : Int))) = true then
      if (decide (p7800 < 0)) = true then
        (atI r7488 p7799).bind fun x7822 =>
        (ref12_has n p7606 x7822).bind fun r7824 =>
        if r7824 = true then
          (ref12_TopoSort_L3 n _append0 r7488 p7606 loop_1_ref12_TopoSort rec_n3) (IntKind.i64.wrap (p7799 + 1)) p7800
        else
          ref12_TopoSort_L4 n _append0 r7488 p7606 p7799 p7800 (ref12_TopoSort_L3 n _append0 r7488 p7606 loop_1_ref12_TopoSort rec_n3) n true 0
      else
        ref12_TopoSort_J2 r7488 p7606 loop_1_ref12_TopoSort p7800
    else
      ref12_TopoSort_J2 r7488 p7606 loop_1_ref12_TopoSort p7800

def ref12_TopoSort_L1 (n : Nat) (_append0 : ApiRung) (r7488 : List Str) : Nat → (List Str) → Option ((List Str) × Int)
  | 0, _ => none
  | rec_n1 + 1, p7606 =>
    if (decide ((p7606.length : Int) < (r7488.length : Int))) = true then
      ref12_TopoSort_L3 n _append0 r7488 p7606 (ref12_TopoSort_L1 n _append0 r7488 rec_n1) n 0 (-1)
    else
      some (p7606, 0)

def ref12_TopoSort (n : Nat) (_append0 : ApiRung) : Option ((List Str) × Int) :=
  (ref12_Nodes n _append0).bind fun r7488 =>
  ref12_TopoSort_L1 n _append0 r7488 n ([])

def ref12_spread_L2 (n : Nat) (r8269 : List Str) (l8355 : List Str) : Nat → (List Str) → Int → Option ((List Str))
  | 0, _, _ => none
  | rec_n2 + 1, p8360, p8361 =>
    if (decide (p8361 < (r8269.length : Int))) = true then
      (atI r8269 p8361).bind fun x8366 =>
      (ref12_has n l8355 x8366).bind fun r8368 =>
      if r8368 = true then
        if p8360.length + ([x8366]).length ≤ 1000000000 then
          (some (p8360 ++ ([x8366]))).bind fun l8369 =>
          (ref12_spread_L2 n r8269 l8355 rec_n2) l8369 (IntKind.i64.wrap (p8361 + 1))
        else none
      else
        (ref12_spread_L2 n r8269 l8355 rec_n2) p8360 (IntKind.i64.wrap (p8361 + 1))
    else
      some p8360

def ref12_spread_J1 (n : Nat) (r8269 : List Str) (l8355 : List Str) : Option ((List Str)) :=
  ref12_spread_L2 n r8269 l8355 n ([]) 0

def ref12_spread_J5 (n : Nat) (p8432 : Int) (l8433 : List Str) (loop_4_ref12_spread : Int → (List Str) → Option ((List Str))) (p8443 : Str) (p8444 : Str) : Option ((List Str)) :=
  (ref12_has n l8433 p8443).bind fun r8446 =>
  if r8446 = true then
    (ref12_has n l8433 p8444).bind fun r8448 =>
    if (!r8448) = true then
      if l8433.length + ([p8444]).length ≤ 1000000000 then
        (some (l8433 ++ ([p8444]))).bind fun l8449 =>
        loop_4_ref12_spread (IntKind.i64.wrap (p8432 + 1)) l8449
      else none
    else
      loop_4_ref12_spread (IntKind.i64.wrap (p8432 + 1)) l8433
  else
    loop_4_ref12_spread (IntKind.i64.wrap (p8432 + 1)) l8433

def ref12_spread_L4 (n : Nat) (_append0 : ApiRung) (a2 : Bool) (p8396 : Int) (loop_3_ref12_spread : Int → (List Str) → Option ((List Str))) : Nat → Int → (List Str) → Option ((List Str))
  | 0, _, _ => none
  | rec_n4 + 1, p8432, l8433 =>
    if (decide (p8432 < (_append0.Contacts.length : Int))) = true then
      (atI _append0.Contacts p8432).bind fun x8442 =>
      if a2 = true then
        ref12_spread_J5 n p8432 l8433 (ref12_spread_L4 n _append0 a2 p8396 loop_3_ref12_spread rec_n4) x8442.To x8442.From
      else
        ref12_spread_J5 n p8432 l8433 (ref12_spread_L4 n _append0 a2 p8396 loop_3_ref12_spread rec_n4) x8442.From x8442.To
    else
      loop_3_ref12_spread (IntKind.i64.wrap (p8396 + 1)) l8433

def ref12_spread_L3 (n : Nat) (_append0 : ApiRung) (a2 : Bool) (r8269 : List Str) : Nat → Int → (List Str) → Option ((List Str))
  | 0, _, _ => none
  | rec_n3 + 1, p8396, l8397 =>
    if (decide (p8396 < (r8269.length : Int))) = true then
      ref12_spread_L4 n _append0 a2 p8396 (ref12_spread_L3 n _append0 a2 r8269 rec_n3) n 0 l8397
    else
      ref12_spread_J1 n r8269 l8397

def ref12_spread (n : Nat) (_append0 : ApiRung) (a1 : Str) (a2 : Bool) : Option ((List Str)) :=
  (ref12_Nodes n _append0).bind fun r8269 =>
  (ref12_has n r8269 a1).bind fun r8273 =>
  if (!r8273) = true then
    some ([])
  else
    (some ([a1])).bind fun l8274 =>
    ref12_spread_L3 n _append0 a2 r8269 n 0 l8274

def ref12_Reachable (n : Nat) (r_0 : ApiRung) (node1 : Str) : Option ((List Str)) :=
  (ref12_spread n r_0 node1 false).bind fun r8451 =>
  some r8451

def ref12_Ancestors (n : Nat) (r_0 : ApiRung) (node1 : Str) : Option ((List Str)) :=
  (ref12_spread n r_0 node1 true).bind fun r8455 =>
  some r8455

def ref13_has_L1 (l0 : List Str) (s1 : Str) : Nat → Int → Option (Bool)
  | 0, _ => none
  | rec_n1 + 1, p8460 =>
    if (decide (p8460 < (l0.length : Int))) = true then
      (atI l0 p8460).bind fun x8462 =>
      if (decide (x8462 = s1)) = true then
        some true
      else
        (ref13_has_L1 l0 s1 rec_n1) (IntKind.i64.wrap (p8460 + 1))
    else
      some false

def ref13_has (n : Nat) (l0 : List Str) (s1 : Str) : Option (Bool) :=
  ref13_has_L1 l0 s1 n 0

def ref13_DeadNodes_L1 (n : Nat) (r8157 : List Str) (r8453 : List Str) (r8457 : List Str) : Nat → (List Str) → Int → Option ((List Str))
  | 0, _, _ => none
  | rec_n1 + 1, p8469, p8470 =>
    if (decide (p8470 < (r8157.length : Int))) = true then
      (atI r8157 p8470).bind fun x8478 =>
      (ref13_has n r8453 x8478).bind fun r8480 =>
      if (!r8480) = true then
        if p8469.length + ([x8478]).length ≤ 1000000000 then
          (some (p8469 ++ ([x8478]))).bind fun l8481 =>
          (ref13_DeadNodes_L1 n r8157 r8453 r8457 rec_n1) l8481 (IntKind.i64.wrap (p8470 + 1))
        else none
      else
        (ref13_has n r8457 x8478).bind fun r8483 =>
        if (!r8483) = true then
          if p8469.length + ([x8478]).length ≤ 1000000000 then
            (some (p8469 ++ ([x8478]))).bind fun l8484 =>
            (ref13_DeadNodes_L1 n r8157 r8453 r8457 rec_n1) l8484 (IntKind.i64.wrap (p8470 + 1))
          else none
        else
          (ref13_DeadNodes_L1 n r8157 r8453 r8457 rec_n1) p8469 (IntKind.i64.wrap (p8470 + 1))
    else
      some p8469

def ref13_DeadNodes (n : Nat) (r_0 : ApiRung) : Option ((List Str)) :=
  (ref12_Nodes n r_0).bind fun r8157 =>
  (ref12_Reachable n r_0 (⟨#[76]⟩ : Str)).bind fun r8453 =>
  (ref12_Ancestors n r_0 (⟨#[82]⟩ : Str)).bind fun r8457 =>
  ref13_DeadNodes_L1 n r8157 r8453 r8457 n ([]) 0

def ref13_Check (n : Nat) (r_0 : ApiRung) : Option (Int) :=
  if ((r_0.Contacts.length : Int) == 0) = true then
    some 4
  else
    (ref12_TopoSort n r_0).bind fun ⟨r7838, r7839⟩ =>
    if (r7839 != 0) = true then
      some r7839
    else
      (ref13_DeadNodes n r_0).bind fun r8486 =>
      if (decide ((r8486.length : Int) > 0)) = true then
        some 13
      else
        some 0

def ref15_without_o0_L1 (l0 : List Ref15Edge) (i_1 : Int) (k2 : Int) : Nat → (List Ref15Edge) → Int → Option ((List Ref15Edge))
  | 0, _, _ => none
  | rec_n1 + 1, p9467, p9468 =>
    if (decide (p9468 < (l0.length : Int))) = true then
      if (p9468 != i_1) = true then
        if (p9468 != k2) = true then
          (atI l0 p9468).bind fun x9471 =>
          if p9467.length + ([x9471]).length ≤ 1000000000 then
            (some (p9467 ++ ([x9471]))).bind fun l9472 =>
            (ref15_without_o0_L1 l0 i_1 k2 rec_n1) l9472 (IntKind.i64.wrap (p9468 + 1))
          else none
        else
          (ref15_without_o0_L1 l0 i_1 k2 rec_n1) p9467 (IntKind.i64.wrap (p9468 + 1))
      else
        (ref15_without_o0_L1 l0 i_1 k2 rec_n1) p9467 (IntKind.i64.wrap (p9468 + 1))
    else
      some p9467

def ref15_without_o0 (n : Nat) (l0 : List Ref15Edge) (i_1 : Int) (k2 : Int) : Option ((List Ref15Edge)) :=
  ref15_without_o0_L1 l0 i_1 k2 n ([]) 0

def ref14_Leaves_L2 (t0 : Ref14Tree) (slf_ref14_Leaves : Ref14Tree → Option ((List Int))) : Nat → (List Int) → Int → Option ((List Int))
  | 0, _, _ => none
  | rec_n2 + 1, p9531, p9532 =>
    if (decide (p9532 < (t0.Kids.length : Int))) = true then
      (atI t0.Kids p9532).bind fun x9537 =>
      (slf_ref14_Leaves x9537).bind fun r9539 =>
      if p9531.length + r9539.length ≤ 1000000000 then
        (some (p9531 ++ r9539)).bind fun l9540 =>
        (ref14_Leaves_L2 t0 slf_ref14_Leaves rec_n2) l9540 (IntKind.i64.wrap (p9532 + 1))
      else none
    else
      some p9531

def ref14_Leaves_J1 (n : Nat) (t0 : Ref14Tree) (slf_ref14_Leaves : Ref14Tree → Option ((List Int))) : Option ((List Int)) :=
  ref14_Leaves_L2 t0 slf_ref14_Leaves n ([]) 0

def ref14_Leaves : Nat → Ref14Tree → Option ((List Int))
  | 0, _ => none
  | n + 1, t0 =>
  if (t0.Kind == 0) = true then
    (some ([t0.N])).bind fun l9527 =>
    some l9527
  else
    if (t0.Kind != 1) = true then
      if (t0.Kind != 2) = true then
        some ([])
      else
        ref14_Leaves_J1 n t0 (ref14_Leaves n)
    else
      ref14_Leaves_J1 n t0 (ref14_Leaves n)

def ref15_least_L1 (r9542 : List Int) : Nat → Int → Int → Option (Int)
  | 0, _, _ => none
  | rec_n1 + 1, p9544, x9546 =>
    if (decide (p9544 < (r9542.length : Int))) = true then
      (atI r9542 p9544).bind fun x9548 =>
      if (decide (x9548 < x9546)) = true then
        (ref15_least_L1 r9542 rec_n1) (IntKind.i64.wrap (p9544 + 1)) x9548
      else
        (ref15_least_L1 r9542 rec_n1) (IntKind.i64.wrap (p9544 + 1)) x9546
    else
      some x9546

def ref15_least (n : Nat) (t0 : Ref14Tree) : Option (Int) :=
  (ref14_Leaves n t0).bind fun r9542 =>
  (atI r9542 0).bind fun x9543 =>
  ref15_least_L1 r9542 n 0 x9543

def ref15_join_J3 (p9508 : List Ref14Tree) (p9513 : List Ref14Tree) (p9514 : Int) (loop_2_ref15_join : (List Ref14Tree) → Int → Option (Ref14Tree)) (p9628 : Int) : Option (Ref14Tree) :=
  if 0 ≤ 0 ∧ 0 ≤ p9628 ∧ p9628 ≤ (p9513.length : Int) then
    if (p9513.take p9628.toNat).length ≤ 1000000000 then
      (some (p9513.take p9628.toNat)).bind fun l9629 =>
      (atI p9508 p9514).bind fun x9630 =>
      if l9629.length + ([x9630]).length ≤ 1000000000 then
        (some (l9629 ++ ([x9630]))).bind fun l9631 =>
        if 0 ≤ p9628 ∧ p9628 ≤ (p9513.length : Int) ∧ (p9513.length : Int) ≤ (p9513.length : Int) then
          if l9631.length + (p9513.drop p9628.toNat).length ≤ 1000000000 then
            (some (l9631 ++ (p9513.drop p9628.toNat))).bind fun l9632 =>
            loop_2_ref15_join l9632 (IntKind.i64.wrap (p9514 + 1))
          else none
        else none
      else none
    else none
  else none

def ref15_join_L4 (n : Nat) (p9508 : List Ref14Tree) (p9513 : List Ref14Tree) (p9514 : Int) (loop_2_ref15_join : (List Ref14Tree) → Int → Option (Ref14Tree)) : Nat → Int → Option (Ref14Tree)
  | 0, _ => none
  | rec_n4 + 1, p9639 =>
    if (decide (p9639 < (p9513.length : Int))) = true then
      (atI p9513 p9639).bind fun x9646 =>
      (ref15_least n x9646).bind fun r9648 =>
      (atI p9508 p9514).bind fun x9649 =>
      (ref15_least n x9649).bind fun r9651 =>
      if (decide (r9648 < r9651)) = true then
        (ref15_join_L4 n p9508 p9513 p9514 loop_2_ref15_join rec_n4) (IntKind.i64.wrap (p9639 + 1))
      else
        ref15_join_J3 p9508 p9513 p9514 loop_2_ref15_join p9639
    else
      ref15_join_J3 p9508 p9513 p9514 loop_2_ref15_join p9639

def ref15_join_L2 (n : Nat) (p9508 : List Ref14Tree) : Nat → (List Ref14Tree) → Int → Option (Ref14Tree)
  | 0, _, _ => none
  | rec_n2 + 1, p9513, p9514 =>
    if (decide (p9514 < (p9508.length : Int))) = true then
      ref15_join_L4 n p9508 p9513 p9514 (ref15_join_L2 n p9508 rec_n2) n 0
    else
      some (⟨2, 0, p9513⟩ : Ref14Tree)

def ref15_join_J1 (n : Nat) (_append0 : Int) (p9508 : List Ref14Tree) : Option (Ref14Tree) :=
  if (_append0 == 1) = true then
    some (⟨1, 0, p9508⟩ : Ref14Tree)
  else
    ref15_join_L2 n p9508 n ([]) 0

def ref15_join_L5 (n : Nat) (_append0 : Int) (l9497 : List Ref14Tree) : Nat → (List Ref14Tree) → Int → Option (Ref14Tree)
  | 0, _, _ => none
  | rec_n5 + 1, p9654, p9655 =>
    if (decide (p9655 < 2)) = true then
      (atI l9497 p9655).bind fun x9659 =>
      if (x9659.Kind == _append0) = true then
        if p9654.length + x9659.Kids.length ≤ 1000000000 then
          (some (p9654 ++ x9659.Kids)).bind fun l9660 =>
          (ref15_join_L5 n _append0 l9497 rec_n5) l9660 (IntKind.i64.wrap (p9655 + 1))
        else none
      else
        if p9654.length + ([x9659]).length ≤ 1000000000 then
          (some (p9654 ++ ([x9659]))).bind fun l9661 =>
          (ref15_join_L5 n _append0 l9497 rec_n5) l9661 (IntKind.i64.wrap (p9655 + 1))
        else none
    else
      ref15_join_J1 n _append0 p9654

def ref15_join (n : Nat) (_append0 : Int) (a1 : Ref14Tree) (a2 : Ref14Tree) : Option (Ref14Tree) :=
  (some ([a1, a2])).bind fun l9497 =>
  ref15_join_L5 n _append0 l9497 n ([]) 0

def ref15_many_J2 (l0 : List Ref15Edge) (node1 : Str) (p9716 : Int) (p9717 : Int) (loop_1_ref15_many : Int → Int → Int → Option (Int × Int)) (p9723 : Int) : Option (Int × Int) :=
  (atI l0 p9717).bind fun x9724 =>
  if (decide (x9724.From = node1)) = true then
    loop_1_ref15_many p9723 (IntKind.i64.wrap (p9716 + 1)) (IntKind.i64.wrap (p9717 + 1))
  else
    loop_1_ref15_many p9723 p9716 (IntKind.i64.wrap (p9717 + 1))

def ref15_many_L1 (l0 : List Ref15Edge) (node1 : Str) : Nat → Int → Int → Int → Option (Int × Int)
  | 0, _, _, _ => none
  | rec_n1 + 1, p9715, p9716, p9717 =>
    if (decide (p9717 < (l0.length : Int))) = true then
      (atI l0 p9717).bind fun x9725 =>
      if (decide (x9725.To = node1)) = true then
        ref15_many_J2 l0 node1 p9716 p9717 (ref15_many_L1 l0 node1 rec_n1) (IntKind.i64.wrap (p9715 + 1))
      else
        ref15_many_J2 l0 node1 p9716 p9717 (ref15_many_L1 l0 node1 rec_n1) p9715
    else
      some (p9715, p9716)

def ref15_many (n : Nat) (l0 : List Ref15Edge) (node1 : Str) : Option (Int × Int) :=
  ref15_many_L1 l0 node1 n 0 0 0

def ref15_step_J3 (n : Nat) (_append0 : List Ref15Edge) (p9881 : Int) (p10163 : Int) (loop_2_ref15_step : Int → Option ((List Ref15Edge) × Bool)) : Option ((List Ref15Edge) × Bool) :=
  if (p10163 == p9881) = true then
    loop_2_ref15_step (IntKind.i64.wrap (p10163 + 1))
  else
    (atI _append0 p9881).bind fun x10287 =>
    (atI _append0 p10163).bind fun x10288 =>
    if (!(decide (x10287.To = x10288.From))) = true then
      loop_2_ref15_step (IntKind.i64.wrap (p10163 + 1))
    else
      if (decide (x10287.To = (⟨#[76]⟩ : Str))) = true then
        loop_2_ref15_step (IntKind.i64.wrap (p10163 + 1))
      else
        if (decide (x10287.To = (⟨#[82]⟩ : Str))) = true then
          loop_2_ref15_step (IntKind.i64.wrap (p10163 + 1))
        else
          (ref15_many n _append0 x10287.To).bind fun ⟨r10290, r10291⟩ =>
          if (r10290 == 1) = true then
            if (r10291 == 1) = true then
              (ref15_without_o0 n _append0 p9881 p10163).bind fun r10293 =>
              (ref15_join n 1 x10287.T x10288.T).bind fun r10295 =>
              if r10293.length + ([(⟨x10287.From, x10288.To, r10295⟩ : Ref15Edge)]).length ≤ 1000000000 then
                (some (r10293 ++ ([(⟨x10287.From, x10288.To, r10295⟩ : Ref15Edge)]))).bind fun l10296 =>
                some (l10296, true)
              else none
            else
              loop_2_ref15_step (IntKind.i64.wrap (p10163 + 1))
          else
            loop_2_ref15_step (IntKind.i64.wrap (p10163 + 1))

def ref15_step_L2 (n : Nat) (_append0 : List Ref15Edge) (p9881 : Int) (loop_1_ref15_step : Int → Option ((List Ref15Edge) × Bool)) : Nat → Int → Option ((List Ref15Edge) × Bool)
  | 0, _ => none
  | rec_n2 + 1, p10163 =>
    if (decide (p10163 < (_append0.length : Int))) = true then
      if (decide (p10163 > p9881)) = true then
        (atI _append0 p9881).bind fun x10297 =>
        (atI _append0 p10163).bind fun x10298 =>
        if (decide (x10297.From = x10298.From)) = true then
          if (decide (x10297.To = x10298.To)) = true then
            (ref15_without_o0 n _append0 p9881 p10163).bind fun r10300 =>
            (ref15_join n 2 x10297.T x10298.T).bind fun r10302 =>
            if r10300.length + ([(⟨x10297.From, x10297.To, r10302⟩ : Ref15Edge)]).length ≤ 1000000000 then
              (some (r10300 ++ ([(⟨x10297.From, x10297.To, r10302⟩ : Ref15Edge)]))).bind fun l10303 =>
              some (l10303, true)
            else none
          else
            ref15_step_J3 n _append0 p9881 p10163 (ref15_step_L2 n _append0 p9881 loop_1_ref15_step rec_n2)
        else
          ref15_step_J3 n _append0 p9881 p10163 (ref15_step_L2 n _append0 p9881 loop_1_ref15_step rec_n2)
      else
        ref15_step_J3 n _append0 p9881 p10163 (ref15_step_L2 n _append0 p9881 loop_1_ref15_step rec_n2)
    else
      loop_1_ref15_step (IntKind.i64.wrap (p9881 + 1))

def ref15_step_L1 (n : Nat) (_append0 : List Ref15Edge) : Nat → Int → Option ((List Ref15Edge) × Bool)
  | 0, _ => none
  | rec_n1 + 1, p9881 =>
    if (decide (p9881 < (_append0.length : Int))) = true then
      ref15_step_L2 n _append0 p9881 (ref15_step_L1 n _append0 rec_n1) n 0
    else
      some (_append0, false)

def ref15_step (n : Nat) (_append0 : List Ref15Edge) : Option ((List Ref15Edge) × Bool) :=
  ref15_step_L1 n _append0 n 0

def ref15_Reduce_J2 (p10317 : List Ref15Edge) : Option (Ref14Tree × Int) :=
  if ((p10317.length : Int) != 1) = true then
    some ((⟨0, 0, []⟩ : Ref14Tree), 14)
  else
    (atI p10317 0).bind fun x10318 =>
    if (!(decide (x10318.From = (⟨#[76]⟩ : Str)))) = true then
      some ((⟨0, 0, []⟩ : Ref14Tree), 14)
    else
      if (!(decide (x10318.To = (⟨#[82]⟩ : Str)))) = true then
        some ((⟨0, 0, []⟩ : Ref14Tree), 14)
      else
        some (x10318.T, 0)

def ref15_Reduce_L3 (n : Nat) : Nat → (List Ref15Edge) → Option (Ref14Tree × Int)
  | 0, _ => none
  | rec_n3 + 1, p10325 =>
    (ref15_step n p10325).bind fun ⟨r10330, r10331⟩ =>
    if (!r10331) = true then
      ref15_Reduce_J2 p10325
    else
      (ref15_Reduce_L3 n rec_n3) r10330

def ref15_Reduce_J1 (n : Nat) (p8497 : List Ref15Edge) : Option (Ref14Tree × Int) :=
  ref15_Reduce_L3 n n p8497

def ref15_Reduce_L4 (n : Nat) (_append0 : ApiRung) : Nat → (List Ref15Edge) → Int → Option (Ref14Tree × Int)
  | 0, _, _ => none
  | rec_n4 + 1, p10334, p10335 =>
    if (decide (p10335 < (_append0.Contacts.length : Int))) = true then
      (atI _append0.Contacts p10335).bind fun x10338 =>
      if p10334.length + ([(⟨x10338.From, x10338.To, (⟨0, p10335, ([] : List Ref14Tree)⟩ : Ref14Tree)⟩ : Ref15Edge)]).length ≤ 1000000000 then
        (some (p10334 ++ ([(⟨x10338.From, x10338.To, (⟨0, p10335, ([] : List Ref14Tree)⟩ : Ref14Tree)⟩ : Ref15Edge)]))).bind fun l10339 =>
        (ref15_Reduce_L4 n _append0 rec_n4) l10339 (IntKind.i64.wrap (p10335 + 1))
      else none
    else
      ref15_Reduce_J1 n p10334

def ref15_Reduce (n : Nat) (_append0 : ApiRung) : Option (Ref14Tree × Int) :=
  (ref13_Check n _append0).bind fun r8488 =>
  if (r8488 != 0) = true then
    some ((⟨0, 0, []⟩ : Ref14Tree), r8488)
  else
    ref15_Reduce_L4 n _append0 n ([]) 0

def law14_Of_L1 (t0 : TreeTree) (slf_law14_Of : TreeTree → Option (Ref14Tree)) : Nat → Int → (List Ref14Tree) → Option (Ref14Tree)
  | 0, _, _ => none
  | rec_n1 + 1, p10357, p10358 =>
    if (decide (p10357 < (t0.Kids.length : Int))) = true then
      (atI t0.Kids p10357).bind fun x10363 =>
      (slf_law14_Of x10363).bind fun r10365 =>
      if p10358.length + ([r10365]).length ≤ 1000000000 then
        (some (p10358 ++ ([r10365]))).bind fun l10366 =>
        (law14_Of_L1 t0 slf_law14_Of rec_n1) (IntKind.i64.wrap (p10357 + 1)) l10366
      else none
    else
      some (⟨t0.Kind, t0.N, p10358⟩ : Ref14Tree)

def law14_Of : Nat → TreeTree → Option (Ref14Tree)
  | 0, _ => none
  | n + 1, t0 =>
  law14_Of_L1 t0 (law14_Of n) n 0 ([])

def ref14_Equal_L1 (a0 : Ref14Tree) (b1 : Ref14Tree) (slf_ref14_Equal : Ref14Tree → Ref14Tree → Option (Bool)) : Nat → Int → Option (Bool)
  | 0, _ => none
  | rec_n1 + 1, p10373 =>
    if (decide (p10373 < (a0.Kids.length : Int))) = true then
      (atI a0.Kids p10373).bind fun x10378 =>
      (atI b1.Kids p10373).bind fun x10379 =>
      (slf_ref14_Equal x10378 x10379).bind fun r10381 =>
      if (!r10381) = true then
        some false
      else
        (ref14_Equal_L1 a0 b1 slf_ref14_Equal rec_n1) (IntKind.i64.wrap (p10373 + 1))
    else
      some true

def ref14_Equal : Nat → Ref14Tree → Ref14Tree → Option (Bool)
  | 0, _, _ => none
  | n + 1, a0, b1 =>
  if (a0.Kind != b1.Kind) = true then
    some false
  else
    if (a0.N != b1.N) = true then
      some false
    else
      if ((a0.Kids.length : Int) != (b1.Kids.length : Int)) = true then
        some false
      else
        ref14_Equal_L1 a0 b1 (ref14_Equal n) n 0

def reduce_IsSeriesParallel (n : Nat) (r_0 : ApiRung) : Option (Bool) :=
  (reduce_Reduce n r_0).bind fun ⟨r10385, r10386⟩ =>
  some (r10386 == 0)

def law15_ReduceMatchesReference (n : Nat) (r_0 : ApiRung) : Option (Bool) :=
  (law12_TooLarge n r_0).bind fun r4615 =>
  if (decide (r4615 > 0)) = true then
    (law15_alive n ).bind fun r4617 =>
    some r4617
  else
    if (decide ((r_0.Contacts.length : Int) > 40)) = true then
      (law15_alive n ).bind fun r4619 =>
      some r4619
    else
      (reduce_Reduce n r_0).bind fun ⟨r4621, r4622⟩ =>
      (ref15_Reduce n r_0).bind fun ⟨r10341, r10342⟩ =>
      (law15_alive n ).bind fun r10344 =>
      if r10344 = true then
        (law14_Of n r4621).bind fun r10368 =>
        (ref14_Equal n r10368 r10341).bind fun r10383 =>
        if r10383 = true then
          if (r4622 == r10342) = true then
            (reduce_IsSeriesParallel n r_0).bind fun r10388 =>
            some (r10388 == (r10342 == 0))
          else
            some false
        else
          some false
      else
        some false

end Go.G
