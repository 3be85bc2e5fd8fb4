/- Models of functions of the program. -/
import Derived.Test.YtaebdeidbibfkaaGreatDoorWGTy
set_option linter.unusedSimpArgs false
set_option linter.unusedVariables false
set_option linter.unusedSectionVars false
namespace Go.G
open Go.Av
def law14_weight_L1 (t0 : TreeTree) (deep1 : Int) (slf_law14_weight : TreeTree → Int → Option (Int)) : Nat → Int → Int → Option (Int)
  | 0, _, _ => none
  | rec_n1 + 1, p4, p5 =>
    if (decide (p4 < (t0.Kids.length : Int))) = true then
      (atI t0.Kids p4).bind fun x9 =>
      (slf_law14_weight x9 (IntKind.i64.wrap (deep1 + 1))).bind fun r11 =>
      if (decide ((IntKind.i64.wrap (p5 + r11)) > 1000)) = true then
        some 1001
      else
        (law14_weight_L1 t0 deep1 slf_law14_weight rec_n1) (IntKind.i64.wrap (p4 + 1)) (IntKind.i64.wrap (p5 + r11))
    else
      some p5

def law14_weight : Nat → TreeTree → Int → Option (Int)
  | 0, _, _ => none
  | n + 1, t0, deep1 =>
  if (decide (deep1 > 40)) = true then
    some 1001
  else
    law14_weight_L1 t0 deep1 (law14_weight n) n 0 1

def law14_TooLarge (n : Nat) (t0 : TreeTree) : Option (Int) :=
  (law14_weight n t0 0).bind fun r13 =>
  if (decide (r13 > 1000)) = true then
    some 1
  else
    some 0

def law15_rung_L1 (l0 : List Str) : Nat → (List ApiContact) → Int → Option (ApiRung)
  | 0, _, _ => none
  | rec_n1 + 1, p26, p27 =>
    if (decide ((IntKind.i64.wrap (p27 + 1)) < (l0.length : Int))) = true then
      (atI l0 p27).bind fun x31 =>
      (atI l0 (IntKind.i64.wrap (p27 + 1))).bind fun x32 =>
      if p26.length + ([(⟨0, (⟨0, 0⟩ : ApiAddr), x31, x32⟩ : ApiContact)]).length ≤ 1000000000 then
        (some (p26 ++ ([(⟨0, (⟨0, 0⟩ : ApiAddr), x31, x32⟩ : ApiContact)]))).bind fun l33 =>
        (law15_rung_L1 l0 rec_n1) l33 (IntKind.i64.wrap (p27 + 2))
      else none
    else
      some (⟨(⟨#[]⟩ : Str), p26, [], (⟨#[]⟩ : Str)⟩ : ApiRung)

def law15_rung (n : Nat) (l0 : List Str) : Option (ApiRung) :=
  law15_rung_L1 l0 n ([]) 0

def graph_Nodes_o0_L2 (p2340 : Int) (loop_1_graph_Nodes_o0 : Int → (List Str) → (List (Str × Bool)) → Option ((List Str))) (l2355 : List Str) : Nat → Int → (List Str) → (List (Str × Bool)) → Option ((List Str))
  | 0, _, _, _ => none
  | rec_n2 + 1, p2358, l2359, p2360 =>
    if (decide (p2358 < (l2355.length : Int))) = true then
      (atI l2355 p2358).bind fun x2363 =>
      if (!((mGet p2360 x2363).getD false)) = true then
        if l2359.length + ([x2363]).length ≤ 1000000000 then
          (some (l2359 ++ ([x2363]))).bind fun l2364 =>
          (graph_Nodes_o0_L2 p2340 loop_1_graph_Nodes_o0 l2355 rec_n2) (IntKind.i64.wrap (p2358 + 1)) l2364 (mPut p2360 x2363 true)
        else none
      else
        (graph_Nodes_o0_L2 p2340 loop_1_graph_Nodes_o0 l2355 rec_n2) (IntKind.i64.wrap (p2358 + 1)) l2359 p2360
    else
      loop_1_graph_Nodes_o0 (IntKind.i64.wrap (p2340 + 1)) l2359 p2360

def graph_Nodes_o0_L1 (n : Nat) (r_0 : ApiRung) : Nat → Int → (List Str) → (List (Str × Bool)) → Option ((List Str))
  | 0, _, _, _ => none
  | rec_n1 + 1, p2340, l2341, p2342 =>
    if (decide (p2340 < (r_0.Contacts.length : Int))) = true then
      (atI r_0.Contacts p2340).bind fun x2354 =>
      (some ([x2354.From, x2354.To])).bind fun l2355 =>
      graph_Nodes_o0_L2 p2340 (graph_Nodes_o0_L1 n r_0 rec_n1) l2355 n 0 l2341 p2342
    else
      some l2341

def graph_Nodes_o0 (n : Nat) (r_0 : ApiRung) : Option ((List Str)) :=
  (some ([(⟨#[76]⟩ : Str), (⟨#[82]⟩ : Str)])).bind fun l2328 =>
  graph_Nodes_o0_L1 n r_0 n 0 l2328 (mPut (mPut ([]) (⟨#[76]⟩ : Str) true) (⟨#[82]⟩ : Str) true)

def graph_Incoming_1 (n : Nat) (c0 : ApiContact) (b0 : Str) : Option (Bool) :=
  some (decide (c0.To = b0))

def graph_numbers_c134_L1 (n : Nat) (r_0 : ApiRung) (b0 : Str) : Nat → Int → (List Int) → Option ((List Int))
  | 0, _, _ => none
  | rec_n1 + 1, p2394, p2395 =>
    if (decide (p2394 < (r_0.Contacts.length : Int))) = true then
      (atI r_0.Contacts p2394).bind fun x2400 =>
      (graph_Incoming_1 n x2400 b0).bind fun r2402 =>
      if r2402 = true then
        if p2395.length + ([p2394]).length ≤ 1000000000 then
          (some (p2395 ++ ([p2394]))).bind fun l2403 =>
          (graph_numbers_c134_L1 n r_0 b0 rec_n1) (IntKind.i64.wrap (p2394 + 1)) l2403
        else none
      else
        (graph_numbers_c134_L1 n r_0 b0 rec_n1) (IntKind.i64.wrap (p2394 + 1)) p2395
    else
      some p2395

def graph_numbers_c134 (n : Nat) (r_0 : ApiRung) (b0 : Str) : Option ((List Int)) :=
  graph_numbers_c134_L1 n r_0 b0 n 0 ([])

def graph_Incoming (n : Nat) (r_0 : ApiRung) (node1 : Str) : Option ((List Int)) :=
  (graph_numbers_c134 n r_0 node1).bind fun r2405 =>
  some r2405

def graph_TopoSort_1_1 (n : Nat) (i_0 : Int) (m1 : List (Str × Bool)) (b2 : ApiRung) : Option (Bool) :=
  (atI b2.Contacts i_0).bind fun x2410 =>
  some (!((mGet m1 x2410.From).getD false))

def slices_IndexFunc_int_c102_L1 (n : Nat) (s0 : List Int) (m1 : List (Str × Bool)) (b2 : ApiRung) : Nat → Int → Option (Int)
  | 0, _ => none
  | rec_n1 + 1, p2423 =>
    if (decide (p2423 < (s0.length : Int))) = true then
      (atI s0 p2423).bind fun x2427 =>
      (graph_TopoSort_1_1 n x2427 m1 b2).bind fun r2429 =>
      if r2429 = true then
        some p2423
      else
        (slices_IndexFunc_int_c102_L1 n s0 m1 b2 rec_n1) (IntKind.i64.wrap (p2423 + 1))
    else
      some (-1)

def slices_IndexFunc_int_c102 (n : Nat) (s0 : List Int) (m1 : List (Str × Bool)) (b2 : ApiRung) : Option (Int) :=
  slices_IndexFunc_int_c102_L1 n s0 m1 b2 n 0

def slices_ContainsFunc_int_c102 (n : Nat) (s0 : List Int) (m1 : List (Str × Bool)) (b2 : ApiRung) : Option (Bool) :=
  (slices_IndexFunc_int_c102 n s0 m1 b2).bind fun r2433 =>
  some (decide (r2433 ≥ 0))

def graph_TopoSort_1 (n : Nat) (n_0 : Str) (b0 : ApiRung) (m2 : List (Str × Bool)) : Option (Bool) :=
  (graph_Incoming n b0 n_0).bind fun r2437 =>
  (slices_ContainsFunc_int_c102 n r2437 m2 b0).bind fun r2439 =>
  some (!r2439)

def slices_IndexFunc_string_c99_v1_L1 (n : Nat) (l0 : List Str) (b1 : ApiRung) (m3 : List (Str × Bool)) : Nat → Int → Option (Int)
  | 0, _ => none
  | rec_n1 + 1, p2452 =>
    if (decide (p2452 < (l0.length : Int))) = true then
      (atI l0 p2452).bind fun x2456 =>
      (graph_TopoSort_1 n x2456 b1 m3).bind fun r2458 =>
      if r2458 = true then
        some p2452
      else
        (slices_IndexFunc_string_c99_v1_L1 n l0 b1 m3 rec_n1) (IntKind.i64.wrap (p2452 + 1))
    else
      some (-1)

def slices_IndexFunc_string_c99_v1 (n : Nat) (l0 : List Str) (b1 : ApiRung) (m3 : List (Str × Bool)) : Option (Int) :=
  slices_IndexFunc_string_c99_v1_L1 n l0 b1 m3 n 0

def slices_Delete_string_v1 (n : Nat) (i_1 : Int) (j2 : Int) (l0 : List Str) : Option ((List Str)) :=
  if 0 ≤ i_1 ∧ i_1 ≤ j2 ∧ j2 ≤ (l0.length : Int) ∧ (l0.length : Int) ≤ (l0.length : Int) then
    if (i_1 == j2) = true then
      some l0
    else
      if 0 ≤ 0 ∧ 0 ≤ i_1 ∧ i_1 ≤ (l0.length : Int) then
        if 0 ≤ j2 ∧ j2 ≤ (l0.length : Int) ∧ (l0.length : Int) ≤ (l0.length : Int) then
          if i_1.toNat + (l0.length - j2.toNat) ≤ l0.length then
            (some (l0.take i_1.toNat ++ ((l0.drop j2.toNat) ++ l0.drop (i_1.toNat + (l0.length - j2.toNat))))).bind fun l2465 =>
            if 0 ≤ (((i_1.toNat + (l0.length - j2.toNat)) : Nat) : Int) ∧ (((i_1.toNat + (l0.length - j2.toNat)) : Nat) : Int) ≤ (l0.length : Int) ∧ (l0.length : Int) ≤ l2465.length then
              if ((i_1.toNat + (l0.length - j2.toNat)) + (l0.length - (i_1.toNat + (l0.length - j2.toNat)))) ≤ l2465.length then
                some (l2465.take (i_1.toNat + (l0.length - j2.toNat)))
              else none
            else none
          else none
        else none
      else none
  else none

def graph_TopoSort_L1 (n : Nat) (r_0 : ApiRung) : Nat → (List Str) → (List (Str × Bool)) → (List Str) → Option ((List Str) × Int)
  | 0, _, _, _ => none
  | rec_n1 + 1, r2468, p2469, p2470 =>
    if (decide ((r2468.length : Int) > 0)) = true then
      (slices_IndexFunc_string_c99_v1 n r2468 r_0 p2469).bind fun r2478 =>
      if (decide (r2478 < 0)) = true then
        some ([], 12)
      else
        (atI r2468 r2478).bind fun x2479 =>
        if p2470.length + ([x2479]).length ≤ 1000000000 then
          (some (p2470 ++ ([x2479]))).bind fun l2480 =>
          (slices_Delete_string_v1 n r2478 (IntKind.i64.wrap (r2478 + 1)) r2468).bind fun q2482 =>
          (graph_TopoSort_L1 n r_0 rec_n1) q2482 (mPut p2469 x2479 true) l2480
        else none
    else
      some (p2470, 0)

def graph_TopoSort (n : Nat) (r_0 : ApiRung) : Option ((List Str) × Int) :=
  (graph_Nodes_o0 n r_0).bind fun r2366 =>
  graph_TopoSort_L1 n r_0 n r2366 ([]) ([])

def slices_Index_string_L1 (s0 : List Str) (v1 : Str) : Nat → Int → Option (Int)
  | 0, _ => none
  | rec_n1 + 1, p3389 =>
    if (decide (p3389 < (s0.length : Int))) = true then
      (atI s0 p3389).bind fun x3391 =>
      if (decide (v1 = x3391)) = true then
        some p3389
      else
        (slices_Index_string_L1 s0 v1 rec_n1) (IntKind.i64.wrap (p3389 + 1))
    else
      some (-1)

def slices_Index_string (n : Nat) (s0 : List Str) (v1 : Str) : Option (Int) :=
  slices_Index_string_L1 s0 v1 n 0

def slices_Contains_string (n : Nat) (s0 : List Str) (v1 : Str) : Option (Bool) :=
  (slices_Index_string n s0 v1).bind fun r3393 =>
  some (decide (r3393 ≥ 0))

def graph_Outgoing_1 (n : Nat) (c0 : ApiContact) (b0 : Str) : Option (Bool) :=
  some (decide (c0.From = b0))

def graph_numbers_c168_L1 (n : Nat) (r_0 : ApiRung) (b0 : Str) : Nat → Int → (List Int) → Option ((List Int))
  | 0, _, _ => none
  | rec_n1 + 1, p3470, p3471 =>
    if (decide (p3470 < (r_0.Contacts.length : Int))) = true then
      (atI r_0.Contacts p3470).bind fun x3476 =>
      (graph_Outgoing_1 n x3476 b0).bind fun r3478 =>
      if r3478 = true then
        if p3471.length + ([p3470]).length ≤ 1000000000 then
          (some (p3471 ++ ([p3470]))).bind fun l3479 =>
          (graph_numbers_c168_L1 n r_0 b0 rec_n1) (IntKind.i64.wrap (p3470 + 1)) l3479
        else none
      else
        (graph_numbers_c168_L1 n r_0 b0 rec_n1) (IntKind.i64.wrap (p3470 + 1)) p3471
    else
      some p3471

def graph_numbers_c168 (n : Nat) (r_0 : ApiRung) (b0 : Str) : Option ((List Int)) :=
  graph_numbers_c168_L1 n r_0 b0 n 0 ([])

def graph_Outgoing (n : Nat) (r_0 : ApiRung) (node1 : Str) : Option ((List Int)) :=
  (graph_numbers_c168 n r_0 node1).bind fun r3481 =>
  some r3481

def graph_Reachable_1_L1 (b0 : ApiRung) (r3496 : List Int) : Nat → Int → (List Str) → Option ((List Str))
  | 0, _, _ => none
  | rec_n1 + 1, p3500, p3501 =>
    if (decide (p3500 < (r3496.length : Int))) = true then
      (atI r3496 p3500).bind fun x3505 =>
      (atI b0.Contacts x3505).bind fun x3506 =>
      if p3501.length + ([x3506.To]).length ≤ 1000000000 then
        (some (p3501 ++ ([x3506.To]))).bind fun l3507 =>
        (graph_Reachable_1_L1 b0 r3496 rec_n1) (IntKind.i64.wrap (p3500 + 1)) l3507
      else none
    else
      some p3501

def graph_Reachable_1 (n : Nat) (n_0 : Str) (b0 : ApiRung) : Option ((List Str)) :=
  (graph_Outgoing n b0 n_0).bind fun r3496 =>
  graph_Reachable_1_L1 b0 r3496 n 0 ([])

def graph_gather_1_c136_166_L1 (b3 : ApiRung) (r3528 : List Str) (slf_graph_gather_1_c136_166 : Str → (List (Str × Bool)) → ApiRung → Option ((List (Str × Bool)))) : Nat → (List (Str × Bool)) → Int → Option ((List (Str × Bool)))
  | 0, _, _ => none
  | rec_n1 + 1, p3532, p3533 =>
    if (decide (p3533 < (r3528.length : Int))) = true then
      (atI r3528 p3533).bind fun x3537 =>
      (slf_graph_gather_1_c136_166 x3537 p3532 b3).bind fun q3539 =>
      (graph_gather_1_c136_166_L1 b3 r3528 slf_graph_gather_1_c136_166 rec_n1) q3539 (IntKind.i64.wrap (p3533 + 1))
    else
      some p3532

def graph_gather_1_c136_166 : Nat → Str → (List (Str × Bool)) → ApiRung → Option ((List (Str × Bool)))
  | 0, _, _, _ => none
  | n + 1, n_0, m1, b3 =>
  if ((mGet m1 n_0).getD false) = true then
    some m1
  else
    (graph_Reachable_1 n n_0 b3).bind fun r3528 =>
    graph_gather_1_c136_166_L1 b3 r3528 (graph_gather_1_c136_166 n) n (mPut m1 n_0 true) 0

def graph_gather_2 (n : Nat) (n_0 : Str) (m1 : List (Str × Bool)) : Option (Bool) :=
  some (!((mGet m1 n_0).getD false))

def slices_IndexFunc_string_c167_v1_L1 (n : Nat) (l0 : List Str) (m2 : List (Str × Bool)) : Nat → Int → Option (Int)
  | 0, _ => none
  | rec_n1 + 1, p3577 =>
    if (decide (p3577 < (l0.length : Int))) = true then
      (atI l0 p3577).bind fun x3581 =>
      (graph_gather_2 n x3581 m2).bind fun r3583 =>
      if r3583 = true then
        some p3577
      else
        (slices_IndexFunc_string_c167_v1_L1 n l0 m2 rec_n1) (IntKind.i64.wrap (p3577 + 1))
    else
      some (-1)

def slices_IndexFunc_string_c167_v1 (n : Nat) (l0 : List Str) (m2 : List (Str × Bool)) : Option (Int) :=
  slices_IndexFunc_string_c167_v1_L1 n l0 m2 n 0

def slices_DeleteFunc_string_c167_v1_L1 (n : Nat) (m2 : List (Str × Bool)) : Nat → (List Str) → Int → Int → Option ((List Str))
  | 0, _, _, _ => none
  | rec_n1 + 1, l3612, r3613, p3614 =>
    if (decide (p3614 < (l3612.length : Int))) = true then
      (atI l3612 p3614).bind fun x3620 =>
      (graph_gather_2 n x3620 m2).bind fun r3622 =>
      if (!r3622) = true then
        (atI l3612 r3613).bind fun x3623 =>
        (some (l3612.set r3613.toNat x3620)).bind fun l3624 =>
        (slices_DeleteFunc_string_c167_v1_L1 n m2 rec_n1) l3624 (IntKind.i64.wrap (r3613 + 1)) (IntKind.i64.wrap (p3614 + 1))
      else
        (slices_DeleteFunc_string_c167_v1_L1 n m2 rec_n1) l3612 r3613 (IntKind.i64.wrap (p3614 + 1))
    else
      if 0 ≤ r3613 ∧ r3613 ≤ (l3612.length : Int) ∧ (l3612.length : Int) ≤ (l3612.length : Int) then
        if (r3613.toNat + (l3612.length - r3613.toNat)) ≤ l3612.length then
          if 0 ≤ 0 ∧ 0 ≤ r3613 ∧ r3613 ≤ (l3612.length : Int) then
            some (l3612.take r3613.toNat)
          else none
        else none
      else none

def slices_DeleteFunc_string_c167_v1 (n : Nat) (l0 : List Str) (m2 : List (Str × Bool)) : Option ((List Str)) :=
  (slices_IndexFunc_string_c167_v1 n l0 m2).bind fun r3606 =>
  if (r3606 == (-1)) = true then
    some l0
  else
    slices_DeleteFunc_string_c167_v1_L1 n m2 n l0 r3606 (IntKind.i64.wrap (r3606 + 1))

def graph_gather_c136 (n : Nat) (r_0 : ApiRung) (node1 : Str) (b0 : ApiRung) : Option ((List Str)) :=
  (graph_Nodes_o0 n r_0).bind fun r3628 =>
  (slices_Contains_string n r3628 node1).bind fun r3632 =>
  if (!r3632) = true then
    some ([])
  else
    (graph_gather_1_c136_166 n node1 ([]) b0).bind fun q3634 =>
    (slices_DeleteFunc_string_c167_v1 n r3628 q3634).bind fun q3636 =>
    some q3636

def graph_Reachable (n : Nat) (r_0 : ApiRung) (node1 : Str) : Option ((List Str)) :=
  (graph_gather_c136 n r_0 node1 r_0).bind fun r3638 =>
  some r3638

def graph_Ancestors_1_L1 (b0 : ApiRung) (r3784 : List Int) : Nat → Int → (List Str) → Option ((List Str))
  | 0, _, _ => none
  | rec_n1 + 1, p3788, p3789 =>
    if (decide (p3788 < (r3784.length : Int))) = true then
      (atI r3784 p3788).bind fun x3793 =>
      (atI b0.Contacts x3793).bind fun x3794 =>
      if p3789.length + ([x3794.From]).length ≤ 1000000000 then
        (some (p3789 ++ ([x3794.From]))).bind fun l3795 =>
        (graph_Ancestors_1_L1 b0 r3784 rec_n1) (IntKind.i64.wrap (p3788 + 1)) l3795
      else none
    else
      some p3789

def graph_Ancestors_1 (n : Nat) (n_0 : Str) (b0 : ApiRung) : Option ((List Str)) :=
  (graph_Incoming n b0 n_0).bind fun r3784 =>
  graph_Ancestors_1_L1 b0 r3784 n 0 ([])

def graph_gather_1_c138_166_L1 (b3 : ApiRung) (r3816 : List Str) (slf_graph_gather_1_c138_166 : Str → (List (Str × Bool)) → ApiRung → Option ((List (Str × Bool)))) : Nat → (List (Str × Bool)) → Int → Option ((List (Str × Bool)))
  | 0, _, _ => none
  | rec_n1 + 1, p3820, p3821 =>
    if (decide (p3821 < (r3816.length : Int))) = true then
      (atI r3816 p3821).bind fun x3825 =>
      (slf_graph_gather_1_c138_166 x3825 p3820 b3).bind fun q3827 =>
      (graph_gather_1_c138_166_L1 b3 r3816 slf_graph_gather_1_c138_166 rec_n1) q3827 (IntKind.i64.wrap (p3821 + 1))
    else
      some p3820

def graph_gather_1_c138_166 : Nat → Str → (List (Str × Bool)) → ApiRung → Option ((List (Str × Bool)))
  | 0, _, _, _ => none
  | n + 1, n_0, m1, b3 =>
  if ((mGet m1 n_0).getD false) = true then
    some m1
  else
    (graph_Ancestors_1 n n_0 b3).bind fun r3816 =>
    graph_gather_1_c138_166_L1 b3 r3816 (graph_gather_1_c138_166 n) n (mPut m1 n_0 true) 0

def graph_gather_c138 (n : Nat) (r_0 : ApiRung) (node1 : Str) (b0 : ApiRung) : Option ((List Str)) :=
  (graph_Nodes_o0 n r_0).bind fun r3833 =>
  (slices_Contains_string n r3833 node1).bind fun r3837 =>
  if (!r3837) = true then
    some ([])
  else
    (graph_gather_1_c138_166 n node1 ([]) b0).bind fun q3839 =>
    (slices_DeleteFunc_string_c167_v1 n r3833 q3839).bind fun q3841 =>
    some q3841

def graph_Ancestors (n : Nat) (r_0 : ApiRung) (node1 : Str) : Option ((List Str)) :=
  (graph_gather_c138 n r_0 node1 r_0).bind fun r3843 =>
  some r3843

def flow_DeadNodes_1 (n : Nat) (n_0 : Str) (b0 : List Str) (b1 : List Str) : Option (Bool) :=
  (slices_Contains_string n b0 n_0).bind fun r3884 =>
  if r3884 = true then
    (slices_Contains_string n b1 n_0).bind fun r3886 =>
    some r3886
  else
    some false

def slices_IndexFunc_string_c107_v1_L1 (n : Nat) (l0 : List Str) (b1 : List Str) (b2 : List Str) : Nat → Int → Option (Int)
  | 0, _ => none
  | rec_n1 + 1, p3899 =>
    if (decide (p3899 < (l0.length : Int))) = true then
      (atI l0 p3899).bind fun x3903 =>
      (flow_DeadNodes_1 n x3903 b1 b2).bind fun r3905 =>
      if r3905 = true then
        some p3899
      else
        (slices_IndexFunc_string_c107_v1_L1 n l0 b1 b2 rec_n1) (IntKind.i64.wrap (p3899 + 1))
    else
      some (-1)

def slices_IndexFunc_string_c107_v1 (n : Nat) (l0 : List Str) (b1 : List Str) (b2 : List Str) : Option (Int) :=
  slices_IndexFunc_string_c107_v1_L1 n l0 b1 b2 n 0

def slices_DeleteFunc_string_c107_L1 (n : Nat) (b1 : List Str) (b2 : List Str) : Nat → (List Str) → Int → Int → Option ((List Str))
  | 0, _, _, _ => none
  | rec_n1 + 1, l3934, r3935, p3936 =>
    if (decide (p3936 < (l3934.length : Int))) = true then
      (atI l3934 p3936).bind fun x3942 =>
      (flow_DeadNodes_1 n x3942 b1 b2).bind fun r3944 =>
      if (!r3944) = true then
        (atI l3934 r3935).bind fun x3945 =>
        (some (l3934.set r3935.toNat x3942)).bind fun l3946 =>
        (slices_DeleteFunc_string_c107_L1 n b1 b2 rec_n1) l3946 (IntKind.i64.wrap (r3935 + 1)) (IntKind.i64.wrap (p3936 + 1))
      else
        (slices_DeleteFunc_string_c107_L1 n b1 b2 rec_n1) l3934 r3935 (IntKind.i64.wrap (p3936 + 1))
    else
      if 0 ≤ r3935 ∧ r3935 ≤ (l3934.length : Int) ∧ (l3934.length : Int) ≤ (l3934.length : Int) then
        if (r3935.toNat + (l3934.length - r3935.toNat)) ≤ l3934.length then
          if 0 ≤ 0 ∧ 0 ≤ r3935 ∧ r3935 ≤ (l3934.length : Int) then
            some (l3934.take r3935.toNat)
          else none
        else none
      else none

def slices_DeleteFunc_string_c107 (n : Nat) (l0 : List Str) (b1 : List Str) (b2 : List Str) : Option ((List Str)) :=
  (slices_IndexFunc_string_c107_v1 n l0 b1 b2).bind fun r3928 =>
  if (r3928 == (-1)) = true then
    some l0
  else
    slices_DeleteFunc_string_c107_L1 n b1 b2 n l0 r3928 (IntKind.i64.wrap (r3928 + 1))

def flow_DeadNodes (n : Nat) (r_0 : ApiRung) : Option ((List Str)) :=
  (graph_Reachable n r_0 (⟨#[76]⟩ : Str)).bind fun r3640 =>
  (graph_Ancestors n r_0 (⟨#[82]⟩ : Str)).bind fun r3845 =>
  (graph_Nodes_o0 n r_0).bind fun r3847 =>
  (slices_DeleteFunc_string_c107 n r3847 r3640 r3845).bind fun q3948 =>
  some q3948

def flow_Check (n : Nat) (r_0 : ApiRung) : Option (Int) :=
  if ((r_0.Contacts.length : Int) == 0) = true then
    some 4
  else
    (graph_TopoSort n r_0).bind fun ⟨r2487, r2488⟩ =>
    if (r2488 != 0) = true then
      some r2488
    else
      (flow_DeadNodes n r_0).bind fun r3950 =>
      if (decide ((r3950.length : Int) > 0)) = true then
        some 13
      else
        some 0

def reduce_parallel_1 (n : Nat) (y0 : ReduceEdge) (b0 : ReduceEdge) : Option (Bool) :=
  some ((decide (y0.pair.from_ = b0.pair.from_)) && (decide (y0.pair.to_ = b0.pair.to_)))

def slices_IndexFunc_reduce_edge_c66_L1 (n : Nat) (s0 : List ReduceEdge) (b0 : ReduceEdge) : Nat → Int → Option (Int)
  | 0, _ => none
  | rec_n1 + 1, p4025 =>
    if (decide (p4025 < (s0.length : Int))) = true then
      (atI s0 p4025).bind fun x4029 =>
      (reduce_parallel_1 n x4029 b0).bind fun r4031 =>
      if r4031 = true then
        some p4025
      else
        (slices_IndexFunc_reduce_edge_c66_L1 n s0 b0 rec_n1) (IntKind.i64.wrap (p4025 + 1))
    else
      some (-1)

def slices_IndexFunc_reduce_edge_c66 (n : Nat) (s0 : List ReduceEdge) (b0 : ReduceEdge) : Option (Int) :=
  slices_IndexFunc_reduce_edge_c66_L1 n s0 b0 n 0

def slices_IndexFunc_reduce_edge_c66_v1_L1 (n : Nat) (s0 : Nat) (l0 : List ReduceEdge) (b1 : ReduceEdge) : Nat → Int → Option (Int)
  | 0, _ => none
  | rec_n1 + 1, p4045 =>
    if (decide (p4045 < (((l0.length - s0) : Nat) : Int))) = true then
      (atI (l0.drop s0) p4045).bind fun x4049 =>
      (reduce_parallel_1 n x4049 b1).bind fun r4051 =>
      if r4051 = true then
        some p4045
      else
        (slices_IndexFunc_reduce_edge_c66_v1_L1 n s0 l0 b1 rec_n1) (IntKind.i64.wrap (p4045 + 1))
    else
      some (-1)

def slices_IndexFunc_reduce_edge_c66_v1 (n : Nat) (s0 : Nat) (l0 : List ReduceEdge) (b1 : ReduceEdge) : Option (Int) :=
  slices_IndexFunc_reduce_edge_c66_v1_L1 n s0 l0 b1 n 0

def reduce_join_L1 (kind0 : Int) (l4066 : List TreeTree) : Nat → Int → (List TreeTree) → Option (TreeTree)
  | 0, _, _ => none
  | rec_n1 + 1, p4069, p4070 =>
    if (decide (p4069 < (l4066.length : Int))) = true then
      (atI l4066 p4069).bind fun x4074 =>
      if (x4074.Kind == kind0) = true then
        if p4070.length + x4074.Kids.length ≤ 1000000000 then
          (some (p4070 ++ x4074.Kids)).bind fun l4075 =>
          (reduce_join_L1 kind0 l4066 rec_n1) (IntKind.i64.wrap (p4069 + 1)) l4075
        else none
      else
        if p4070.length + ([x4074]).length ≤ 1000000000 then
          (some (p4070 ++ ([x4074]))).bind fun l4076 =>
          (reduce_join_L1 kind0 l4066 rec_n1) (IntKind.i64.wrap (p4069 + 1)) l4076
        else none
    else
      some (⟨kind0, 0, p4070⟩ : TreeTree)

def reduce_join (n : Nat) (kind0 : Int) (a1 : TreeTree) (b2 : TreeTree) : Option (TreeTree) :=
  (some ([a1, b2])).bind fun l4066 =>
  reduce_join_L1 kind0 l4066 n 0 ([])

def slices_Delete_reduce_edge_v1 (n : Nat) (i_1 : Int) (j2 : Int) (l0 : List ReduceEdge) : Option ((List ReduceEdge)) :=
  if 0 ≤ i_1 ∧ i_1 ≤ j2 ∧ j2 ≤ (l0.length : Int) ∧ (l0.length : Int) ≤ (l0.length : Int) then
    if (i_1 == j2) = true then
      some l0
    else
      if 0 ≤ 0 ∧ 0 ≤ i_1 ∧ i_1 ≤ (l0.length : Int) then
        if 0 ≤ j2 ∧ j2 ≤ (l0.length : Int) ∧ (l0.length : Int) ≤ (l0.length : Int) then
          if i_1.toNat + (l0.length - j2.toNat) ≤ l0.length then
            (some (l0.take i_1.toNat ++ ((l0.drop j2.toNat) ++ l0.drop (i_1.toNat + (l0.length - j2.toNat))))).bind fun l4084 =>
            if 0 ≤ (((i_1.toNat + (l0.length - j2.toNat)) : Nat) : Int) ∧ (((i_1.toNat + (l0.length - j2.toNat)) : Nat) : Int) ≤ (l0.length : Int) ∧ (l0.length : Int) ≤ l4084.length then
              if ((i_1.toNat + (l0.length - j2.toNat)) + (l0.length - (i_1.toNat + (l0.length - j2.toNat)))) ≤ l4084.length then
                some (l4084.take (i_1.toNat + (l0.length - j2.toNat)))
              else none
            else none
          else none
        else none
      else none
  else none

def reduce_parallel_v1_L1 (n : Nat) (l0 : List ReduceEdge) : Nat → Int → Option (Bool × (List ReduceEdge))
  | 0, _ => none
  | rec_n1 + 1, p4116 =>
    if (decide (p4116 < (l0.length : Int))) = true then
      (atI l0 p4116).bind fun x4126 =>
      if 0 ≤ (IntKind.i64.wrap (p4116 + 1)) ∧ (IntKind.i64.wrap (p4116 + 1)) ≤ (l0.length : Int) ∧ (l0.length : Int) ≤ (l0.length : Int) then
        (slices_IndexFunc_reduce_edge_c66_v1 n ((IntKind.i64.wrap (p4116 + 1)).toNat) l0 x4126).bind fun r4128 =>
        if (decide (r4128 ≥ 0)) = true then
          (atI l0 (IntKind.i64.wrap ((IntKind.i64.wrap (p4116 + 1)) + r4128))).bind fun x4129 =>
          (reduce_join n 2 x4126.t_ x4129.t_).bind fun r4131 =>
          (some (l0.set p4116.toNat (⟨x4126.pair, r4131⟩ : ReduceEdge))).bind fun l4132 =>
          (slices_Delete_reduce_edge_v1 n (IntKind.i64.wrap ((IntKind.i64.wrap (p4116 + 1)) + r4128)) (IntKind.i64.wrap ((IntKind.i64.wrap (p4116 + 2)) + r4128)) l4132).bind fun q4134 =>
          some (true, q4134)
        else
          (reduce_parallel_v1_L1 n l0 rec_n1) (IntKind.i64.wrap (p4116 + 1))
      else none
    else
      some (false, l0)

def reduce_parallel_v1 (n : Nat) (l0 : List ReduceEdge) : Option (Bool × (List ReduceEdge)) :=
  reduce_parallel_v1_L1 n l0 n 0

def reduce_series_v1_J2 (n : Nat) (l0 : List ReduceEdge) (p4290 : Int) (loop_1_reduce_series_v1 : Int → Option (Bool × (List ReduceEdge))) (x4325 : ReduceEdge) (p4338 : Int) (p4339 : Int) (p4340 : Int) : Option (Bool × (List ReduceEdge)) :=
  if (p4338 == 1) = true then
    if (p4339 == 1) = true then
      (atI l0 p4340).bind fun x4341 =>
      (reduce_join n 1 x4325.t_ x4341.t_).bind fun r4343 =>
      (some (l0.set p4290.toNat (⟨(⟨x4325.pair.from_, x4341.pair.to_⟩ : ReducePair), r4343⟩ : ReduceEdge))).bind fun l4344 =>
      (slices_Delete_reduce_edge_v1 n p4340 (IntKind.i64.wrap (p4340 + 1)) l4344).bind fun q4346 =>
      some (true, q4346)
    else
      loop_1_reduce_series_v1 (IntKind.i64.wrap (p4290 + 1))
  else
    loop_1_reduce_series_v1 (IntKind.i64.wrap (p4290 + 1))

def reduce_series_v1_J4 (x4325 : ReduceEdge) (p4349 : Int) (p4351 : Int) (p4354 : Int) (loop_3_reduce_series_v1 : Int → Int → Int → Int → Option (Bool × (List ReduceEdge))) (x4357 : ReduceEdge) (p4358 : Int) : Option (Bool × (List ReduceEdge)) :=
  if (decide (x4357.pair.from_ = x4325.pair.to_)) = true then
    loop_3_reduce_series_v1 (IntKind.i64.wrap (p4349 + 1)) p4358 (IntKind.i64.wrap (p4351 + 1)) p4349
  else
    loop_3_reduce_series_v1 (IntKind.i64.wrap (p4349 + 1)) p4358 p4351 p4354

def reduce_series_v1_L3 (n : Nat) (l0 : List ReduceEdge) (p4290 : Int) (loop_1_reduce_series_v1 : Int → Option (Bool × (List ReduceEdge))) (x4325 : ReduceEdge) : Nat → Int → Int → Int → Int → Option (Bool × (List ReduceEdge))
  | 0, _, _, _, _ => none
  | rec_n3 + 1, p4349, p4350, p4351, p4354 =>
    if (decide (p4349 < (l0.length : Int))) = true then
      (atI l0 p4349).bind fun x4357 =>
      if (decide (x4357.pair.to_ = x4325.pair.to_)) = true then
        reduce_series_v1_J4 x4325 p4349 p4351 p4354 (reduce_series_v1_L3 n l0 p4290 loop_1_reduce_series_v1 x4325 rec_n3) x4357 (IntKind.i64.wrap (p4350 + 1))
      else
        reduce_series_v1_J4 x4325 p4349 p4351 p4354 (reduce_series_v1_L3 n l0 p4290 loop_1_reduce_series_v1 x4325 rec_n3) x4357 p4350
    else
      reduce_series_v1_J2 n l0 p4290 loop_1_reduce_series_v1 x4325 p4350 p4351 p4354

def reduce_series_v1_L1 (n : Nat) (l0 : List ReduceEdge) : Nat → Int → Option (Bool × (List ReduceEdge))
  | 0, _ => none
  | rec_n1 + 1, p4290 =>
    if (decide (p4290 < (l0.length : Int))) = true then
      (atI l0 p4290).bind fun x4325 =>
      if (decide (x4325.pair.to_ = (⟨#[76]⟩ : Str))) = true then
        (reduce_series_v1_L1 n l0 rec_n1) (IntKind.i64.wrap (p4290 + 1))
      else
        if (decide (x4325.pair.to_ = (⟨#[82]⟩ : Str))) = true then
          (reduce_series_v1_L1 n l0 rec_n1) (IntKind.i64.wrap (p4290 + 1))
        else
          reduce_series_v1_L3 n l0 p4290 (reduce_series_v1_L1 n l0 rec_n1) x4325 n 0 0 0 0
    else
      some (false, l0)

def reduce_series_v1 (n : Nat) (l0 : List ReduceEdge) : Option (Bool × (List ReduceEdge)) :=
  reduce_series_v1_L1 n l0 n 0

def tree_Leaves_L2 (t0 : TreeTree) (slf_tree_Leaves : TreeTree → Option ((List Int))) : Nat → Int → (List Int) → Option ((List Int))
  | 0, _, _ => none
  | rec_n2 + 1, p4416, p4417 =>
    if (decide (p4416 < (t0.Kids.length : Int))) = true then
      (atI t0.Kids p4416).bind fun x4422 =>
      (slf_tree_Leaves x4422).bind fun r4424 =>
      if p4417.length + r4424.length ≤ 1000000000 then
        (some (p4417 ++ r4424)).bind fun l4425 =>
        (tree_Leaves_L2 t0 slf_tree_Leaves rec_n2) (IntKind.i64.wrap (p4416 + 1)) l4425
      else none
    else
      some p4417

def tree_Leaves_J1 (n : Nat) (t0 : TreeTree) (slf_tree_Leaves : TreeTree → Option ((List Int))) (p4412 : Bool) : Option ((List Int)) :=
  if p4412 = true then
    tree_Leaves_L2 t0 slf_tree_Leaves n 0 ([])
  else
    some ([])

def tree_Leaves : Nat → TreeTree → Option ((List Int))
  | 0, _ => none
  | n + 1, t0 =>
  if (t0.Kind == 0) = true then
    (some ([t0.N])).bind fun l4411 =>
    some l4411
  else
    if (t0.Kind == 1) = true then
      tree_Leaves_J1 n t0 (tree_Leaves n) (t0.Kind == 1)
    else
      tree_Leaves_J1 n t0 (tree_Leaves n) (t0.Kind == 2)

def slices_Min_int_L1 (x_0 : List Int) : Nat → Int → Int → Option (Int)
  | 0, _, _ => none
  | rec_n1 + 1, x4430, p4431 =>
    if (decide (p4431 < (x_0.length : Int))) = true then
      (atI x_0 p4431).bind fun x4433 =>
      (slices_Min_int_L1 x_0 rec_n1) (imin x4430 x4433) (IntKind.i64.wrap (p4431 + 1))
    else
      some x4430

def slices_Min_int (n : Nat) (x_0 : List Int) : Option (Int) :=
  if (decide ((x_0.length : Int) < 1)) = true then
    none
  else
    (atI x_0 0).bind fun x4428 =>
    slices_Min_int_L1 x_0 n x4428 1

def cmp_isNaN_int (n : Nat) (x_0 : Int) : Option (Bool) :=
  some (x_0 != x_0)

def cmp_Compare_int (n : Nat) (x_0 : Int) (y1 : Int) : Option (Int) :=
  (cmp_isNaN_int n x_0).bind fun r4441 =>
  (cmp_isNaN_int n y1).bind fun r4443 =>
  if r4441 = true then
    if r4443 = true then
      some 0
    else
      some (-1)
  else
    if r4443 = true then
      some 1
    else
      if (decide (x_0 < y1)) = true then
        some (-1)
      else
        if (decide (x_0 > y1)) = true then
          some 1
        else
          some 0

def reduce_sorted_1 (n : Nat) (a0 : TreeTree) (b1 : TreeTree) : Option (Int) :=
  (tree_Leaves n a0).bind fun r4427 =>
  (slices_Min_int n r4427).bind fun r4435 =>
  (tree_Leaves n b1).bind fun r4437 =>
  (slices_Min_int n r4437).bind fun r4439 =>
  (cmp_Compare_int n r4435 r4439).bind fun r4445 =>
  some r4445

def slices_SortFunc_tree_Tree_c70 (n : Nat) (l0 : List TreeTree) : Option (List TreeTree) := sortM (fun a b => reduce_sorted_1 n a b) l0

def reduce_sorted_J1 (n : Nat) (t0 : TreeTree) (p4400 : List TreeTree) : Option (TreeTree) :=
  if (t0.Kind == 2) = true then
    (slices_SortFunc_tree_Tree_c70 n p4400).bind fun q4447 =>
    some (⟨t0.Kind, t0.N, q4447⟩ : TreeTree)
  else
    some (⟨t0.Kind, t0.N, p4400⟩ : TreeTree)

def reduce_sorted_L2 (n : Nat) (t0 : TreeTree) (slf_reduce_sorted : TreeTree → Option (TreeTree)) : Nat → Int → (List TreeTree) → Option (TreeTree)
  | 0, _, _ => none
  | rec_n2 + 1, p4452, p4453 =>
    if (decide (p4452 < (t0.Kids.length : Int))) = true then
      (atI t0.Kids p4452).bind fun x4458 =>
      (slf_reduce_sorted x4458).bind fun r4460 =>
      if p4453.length + ([r4460]).length ≤ 1000000000 then
        (some (p4453 ++ ([r4460]))).bind fun l4461 =>
        (reduce_sorted_L2 n t0 slf_reduce_sorted rec_n2) (IntKind.i64.wrap (p4452 + 1)) l4461
      else none
    else
      reduce_sorted_J1 n t0 p4453

def reduce_sorted : Nat → TreeTree → Option (TreeTree)
  | 0, _ => none
  | n + 1, t0 =>
  reduce_sorted_L2 n t0 (reduce_sorted n) n 0 ([])

def reduce_Reduce_J2 (n : Nat) (p4376 : List ReduceEdge) : Option (TreeTree × Int) :=
  if ((p4376.length : Int) != 1) = true then
    some ((⟨0, 0, []⟩ : TreeTree), 14)
  else
    (atI p4376 0).bind fun x4377 =>
    if (!((decide (x4377.pair.from_ = (⟨#[76]⟩ : Str))) && (decide (x4377.pair.to_ = (⟨#[82]⟩ : Str))))) = true then
      some ((⟨0, 0, []⟩ : TreeTree), 14)
    else
      (reduce_sorted n x4377.t_).bind fun r4463 =>
      some (r4463, 0)

def reduce_Reduce_L3 (n : Nat) : Nat → (List ReduceEdge) → Bool → Option (TreeTree × Int)
  | 0, _, _ => none
  | rec_n3 + 1, p4470, true4471 =>
    if true4471 = true then
      (reduce_parallel_v1 n p4470).bind fun ⟨r4479, q4480⟩ =>
      (reduce_series_v1 n q4480).bind fun ⟨r4482, q4483⟩ =>
      if r4479 = true then
        (reduce_Reduce_L3 n rec_n3) q4483 true
      else
        (reduce_Reduce_L3 n rec_n3) q4483 r4482
    else
      reduce_Reduce_J2 n p4470

def reduce_Reduce_J1 (n : Nat) (p3963 : List ReduceEdge) : Option (TreeTree × Int) :=
  reduce_Reduce_L3 n n p3963 true

def reduce_Reduce_L4 (n : Nat) (_append0 : ApiRung) : Nat → Int → (List ReduceEdge) → Option (TreeTree × Int)
  | 0, _, _ => none
  | rec_n4 + 1, p4486, p4487 =>
    if (decide (p4486 < (_append0.Contacts.length : Int))) = true then
      (atI _append0.Contacts p4486).bind fun x4490 =>
      if p4487.length + ([(⟨(⟨x4490.From, x4490.To⟩ : ReducePair), (⟨0, p4486, ([] : List TreeTree)⟩ : TreeTree)⟩ : ReduceEdge)]).length ≤ 1000000000 then
        (some (p4487 ++ ([(⟨(⟨x4490.From, x4490.To⟩ : ReducePair), (⟨0, p4486, ([] : List TreeTree)⟩ : TreeTree)⟩ : ReduceEdge)]))).bind fun l4491 =>
        (reduce_Reduce_L4 n _append0 rec_n4) (IntKind.i64.wrap (p4486 + 1)) l4491
      else none
    else
      reduce_Reduce_J1 n p4487

def reduce_Reduce (n : Nat) (_append0 : ApiRung) : Option (TreeTree × Int) :=
  (flow_Check n _append0).bind fun r3954 =>
  if (r3954 != 0) = true then
    some ((⟨0, 0, []⟩ : TreeTree), r3954)
  else
    reduce_Reduce_L4 n _append0 n 0 ([])

def strconv_Itoa (n : Nat) (i : Int) : Option Str := if 0 ≤ i ∧ i < 1000 then some (dec3 i.toNat) else none

def strings_Join (n : Nat) (l : List Str) (sep : Str) : Option Str := if l.length ≤ 140737488355328 ∧ (joinS l sep).size ≤ 140737488355328 then some (joinS l sep) else none

def tree_Format_J2 (n : Nat) (p4531 : List Str) : Option (Str) :=
  (strings_Join n p4531 (⟨#[32]⟩ : Str)).bind fun r4533 =>
  if (Utf8.encode 0).size + r4533.size ≤ 1000000000 then
    if ((Utf8.encode 0) ++ r4533).size + (Utf8.encode 0).size ≤ 1000000000 then
      some (((Utf8.encode 0) ++ r4533) ++ (Utf8.encode 0))
    else none
  else none

def tree_Format_L3 (n : Nat) (t0 : TreeTree) (slf_tree_Format : TreeTree → Option (Str)) : Nat → Int → (List Str) → Option (Str)
  | 0, _, _ => none
  | rec_n3 + 1, p4538, p4539 =>
    if (decide (p4538 < (t0.Kids.length : Int))) = true then
      (atI t0.Kids p4538).bind fun x4544 =>
      (slf_tree_Format x4544).bind fun r4546 =>
      if p4539.length + ([r4546]).length ≤ 1000000000 then
        (some (p4539 ++ ([r4546]))).bind fun l4547 =>
        (tree_Format_L3 n t0 slf_tree_Format rec_n3) (IntKind.i64.wrap (p4538 + 1)) l4547
      else none
    else
      tree_Format_J2 n p4539

def tree_Format_J4 (n : Nat) (p4562 : List Str) : Option (Str) :=
  (strings_Join n p4562 (⟨#[32]⟩ : Str)).bind fun r4564 =>
  if (Utf8.encode 91).size + r4564.size ≤ 1000000000 then
    if ((Utf8.encode 91) ++ r4564).size + (Utf8.encode 93).size ≤ 1000000000 then
      some (((Utf8.encode 91) ++ r4564) ++ (Utf8.encode 93))
    else none
  else none

def tree_Format_L5 (n : Nat) (t0 : TreeTree) (slf_tree_Format : TreeTree → Option (Str)) : Nat → Int → (List Str) → Option (Str)
  | 0, _, _ => none
  | rec_n5 + 1, p4569, p4570 =>
    if (decide (p4569 < (t0.Kids.length : Int))) = true then
      (atI t0.Kids p4569).bind fun x4575 =>
      (slf_tree_Format x4575).bind fun r4577 =>
      if p4570.length + ([r4577]).length ≤ 1000000000 then
        (some (p4570 ++ ([r4577]))).bind fun l4578 =>
        (tree_Format_L5 n t0 slf_tree_Format rec_n5) (IntKind.i64.wrap (p4569 + 1)) l4578
      else none
    else
      tree_Format_J4 n p4570

def tree_Format_J6 (n : Nat) (p4593 : List Str) : Option (Str) :=
  (strings_Join n p4593 (⟨#[32]⟩ : Str)).bind fun r4595 =>
  if (Utf8.encode 123).size + r4595.size ≤ 1000000000 then
    if ((Utf8.encode 123) ++ r4595).size + (Utf8.encode 125).size ≤ 1000000000 then
      some (((Utf8.encode 123) ++ r4595) ++ (Utf8.encode 125))
    else none
  else none

def tree_Format_L7 (n : Nat) (t0 : TreeTree) (slf_tree_Format : TreeTree → Option (Str)) : Nat → Int → (List Str) → Option (Str)
  | 0, _, _ => none
  | rec_n7 + 1, p4600, p4601 =>
    if (decide (p4600 < (t0.Kids.length : Int))) = true then
      (atI t0.Kids p4600).bind fun x4606 =>
      (slf_tree_Format x4606).bind fun r4608 =>
      if p4601.length + ([r4608]).length ≤ 1000000000 then
        (some (p4601 ++ ([r4608]))).bind fun l4609 =>
        (tree_Format_L7 n t0 slf_tree_Format rec_n7) (IntKind.i64.wrap (p4600 + 1)) l4609
      else none
    else
      tree_Format_J6 n p4601

def tree_Format_J1 (n : Nat) (t0 : TreeTree) (slf_tree_Format : TreeTree → Option (Str)) : Option (Str) :=
  if t0.Kind = 0 then
    tree_Format_L3 n t0 slf_tree_Format n 0 ([])
  else
    if t0.Kind = 1 then
      tree_Format_L5 n t0 slf_tree_Format n 0 ([])
    else
      if t0.Kind = 2 then
        tree_Format_L7 n t0 slf_tree_Format n 0 ([])
      else
        none

def tree_Format : Nat → TreeTree → Option (Str)
  | 0, _ => none
  | n + 1, t0 =>
  if (t0.Kind == 0) = true then
    (strconv_Itoa n t0.N).bind fun r4516 =>
    some r4516
  else
    if (t0.Kind != 1) = true then
      if (t0.Kind != 2) = true then
        some (⟨#[]⟩ : Str)
      else
        tree_Format_J1 n t0 (tree_Format n)
    else
      tree_Format_J1 n t0 (tree_Format n)

def law15_alive (n : Nat) : Option (Bool) :=
  (some ([(⟨#[76]⟩ : Str), (⟨#[97]⟩ : Str), (⟨#[97]⟩ : Str), (⟨#[82]⟩ : Str), (⟨#[76]⟩ : Str), (⟨#[82]⟩ : Str)])).bind fun l16 =>
  (law15_rung n l16).bind fun r35 =>
  (reduce_Reduce n r35).bind fun ⟨r4493, r4494⟩ =>
  (some ([(⟨#[76]⟩ : Str), (⟨#[97]⟩ : Str), (⟨#[97]⟩ : Str), (⟨#[82]⟩ : Str), (⟨#[76]⟩ : Str), (⟨#[98]⟩ : Str), (⟨#[98]⟩ : Str), (⟨#[82]⟩ : Str), (⟨#[97]⟩ : Str), (⟨#[98]⟩ : Str)])).bind fun l4495 =>
  (law15_rung n l4495).bind fun r4497 =>
  (reduce_Reduce n r4497).bind fun ⟨r4499, r4500⟩ =>
  if (r4494 == 0) = true then
    (tree_Format n r4493).bind fun r4611 =>
    if (decide (r4611 = (⟨#[123, 91, 48, 32, 49, 93, 32, 50, 125]⟩ : Str))) = true then
      some (r4500 == 14)
    else
      some false
  else
    some false

def tree_Tree_check_1 (n : Nat) (k0 : TreeTree) (b0 : TreeTree) : Option (Bool) :=
  some (k0.Kind == b0.Kind)

def slices_IndexFunc_tree_Tree_c92_L1 (n : Nat) (s0 : List TreeTree) (b0 : TreeTree) : Nat → Int → Option (Int)
  | 0, _ => none
  | rec_n1 + 1, p4727 =>
    if (decide (p4727 < (s0.length : Int))) = true then
      (atI s0 p4727).bind fun x4731 =>
      (tree_Tree_check_1 n x4731 b0).bind fun r4733 =>
      if r4733 = true then
        some p4727
      else
        (slices_IndexFunc_tree_Tree_c92_L1 n s0 b0 rec_n1) (IntKind.i64.wrap (p4727 + 1))
    else
      some (-1)

def slices_IndexFunc_tree_Tree_c92 (n : Nat) (s0 : List TreeTree) (b0 : TreeTree) : Option (Int) :=
  slices_IndexFunc_tree_Tree_c92_L1 n s0 b0 n 0

def slices_ContainsFunc_tree_Tree_c92 (n : Nat) (s0 : List TreeTree) (b0 : TreeTree) : Option (Bool) :=
  (slices_IndexFunc_tree_Tree_c92 n s0 b0).bind fun r4737 =>
  some (decide (r4737 ≥ 0))

def tree_Tree_check_L2 (_append0 : TreeTree) (a1 : Int) (slf_tree_Tree_check : TreeTree → Int → (List (Int × Bool)) → Option (Int × (List (Int × Bool)))) : Nat → (List (Int × Bool)) → Int → Option (Int × (List (Int × Bool)))
  | 0, _, _ => none
  | rec_n2 + 1, m4780, p4781 =>
    if (decide (p4781 < (_append0.Kids.length : Int))) = true then
      (atI _append0.Kids p4781).bind fun x4786 =>
      (slf_tree_Tree_check x4786 a1 m4780).bind fun ⟨r4788, q4789⟩ =>
      if (r4788 != 0) = true then
        some (r4788, q4789)
      else
        (tree_Tree_check_L2 _append0 a1 slf_tree_Tree_check rec_n2) q4789 (IntKind.i64.wrap (p4781 + 1))
    else
      some (0, m4780)

def tree_Tree_check_J1 (n : Nat) (_append0 : TreeTree) (a1 : Int) (m0 : List (Int × Bool)) (slf_tree_Tree_check : TreeTree → Int → (List (Int × Bool)) → Option (Int × (List (Int × Bool)))) : Option (Int × (List (Int × Bool))) :=
  tree_Tree_check_L2 _append0 a1 slf_tree_Tree_check n m0 0

def tree_Tree_check : Nat → TreeTree → Int → (List (Int × Bool)) → Option (Int × (List (Int × Bool)))
  | 0, _, _, _ => none
  | n + 1, _append0, a1, m0 =>
  if (decide (_append0.Kind < 0)) = true then
    some (8, m0)
  else
    if (decide (_append0.Kind > 2)) = true then
      some (8, m0)
    else
      if (_append0.Kind == 0) = true then
        if (decide ((_append0.Kids.length : Int) > 0)) = true then
          some (2, m0)
        else
          if (_append0.Kind != 0) = true then
            if (_append0.N != 0) = true then
              some (2, m0)
            else
              if (decide (_append0.N < 0)) = true then
                some (3, m0)
              else
                if (decide (_append0.N ≥ a1)) = true then
                  some (3, m0)
                else
                  if ((mGet m0 _append0.N).getD false) = true then
                    some (9, m0)
                  else
                    some (0, (mPut m0 _append0.N true))
          else
            if (decide (_append0.N < 0)) = true then
              some (3, m0)
            else
              if (decide (_append0.N ≥ a1)) = true then
                some (3, m0)
              else
                if ((mGet m0 _append0.N).getD false) = true then
                  some (9, m0)
                else
                  some (0, (mPut m0 _append0.N true))
      else
        if (_append0.Kind != 0) = true then
          if (_append0.N != 0) = true then
            some (2, m0)
          else
            if (decide ((_append0.Kids.length : Int) < 2)) = true then
              some (5, m0)
            else
              (slices_ContainsFunc_tree_Tree_c92 n _append0.Kids _append0).bind fun r4791 =>
              if r4791 = true then
                some (14, m0)
              else
                tree_Tree_check_J1 n _append0 a1 m0 (tree_Tree_check n)
        else
          if (decide ((_append0.Kids.length : Int) < 2)) = true then
            some (5, m0)
          else
            (slices_ContainsFunc_tree_Tree_c92 n _append0.Kids _append0).bind fun r4793 =>
            if r4793 = true then
              some (14, m0)
            else
              tree_Tree_check_J1 n _append0 a1 m0 (tree_Tree_check n)

def tree_Check (n : Nat) (t0 : TreeTree) (many1 : Int) : Option (Int) :=
  (tree_Tree_check n t0 many1 ([])).bind fun ⟨r4795, q4796⟩ =>
  if (r4795 == 0) = true then
    if (((q4796.length : Nat) : Int) != (imax 0 many1)) = true then
      some 4
    else
      some r4795
  else
    some r4795

def slices_Clone_api_Contact_o0 (n : Nat) (s0 : List ApiContact) : Option ((List ApiContact)) :=
  isnilM s0 (
    some ([])) (
    if s0.length ≤ 1000000000 then
      some s0
    else none)

def reduce_Expand_1_c56_v1_L1 (_append0 : TreeTree) (a1 : ReducePair) (slf_reduce_Expand_1_c56_v1 : TreeTree → ReducePair → (List ApiContact) → Int → Option ((List ApiContact) × Int)) : Nat → (List ApiContact) → Int → Int → Option ((List ApiContact) × Int)
  | 0, _, _, _ => none
  | rec_n1 + 1, l5037, b5038, p5039 =>
    if (decide (p5039 < (_append0.Kids.length : Int))) = true then
      (atI _append0.Kids p5039).bind fun x5044 =>
      (slf_reduce_Expand_1_c56_v1 x5044 a1 l5037 b5038).bind fun ⟨q5046, q5047⟩ =>
      (reduce_Expand_1_c56_v1_L1 _append0 a1 slf_reduce_Expand_1_c56_v1 rec_n1) q5046 q5047 (IntKind.i64.wrap (p5039 + 1))
    else
      some (l5037, b5038)

def reduce_Expand_1_c56_v1_J2 (_append0 : TreeTree) (a1 : ReducePair) (slf_reduce_Expand_1_c56_v1 : TreeTree → ReducePair → (List ApiContact) → Int → Option ((List ApiContact) × Int)) (l5071 : List ApiContact) (b5072 : Int) (p5073 : Str) : Option ((List ApiContact) × Int) :=
  (atI _append0.Kids (IntKind.i64.wrap ((_append0.Kids.length : Int) - 1))).bind fun x5074 =>
  (slf_reduce_Expand_1_c56_v1 x5074 (⟨p5073, a1.to_⟩ : ReducePair) l5071 b5072).bind fun ⟨q5076, q5077⟩ =>
  some (q5076, q5077)

def reduce_Expand_1_c56_v1_L3 (n : Nat) (_append0 : TreeTree) (a1 : ReducePair) (slf_reduce_Expand_1_c56_v1 : TreeTree → ReducePair → (List ApiContact) → Int → Option ((List ApiContact) × Int)) (l5078 : List TreeTree) : Nat → (List ApiContact) → Int → Int → Str → Option ((List ApiContact) × Int)
  | 0, _, _, _, _ => none
  | rec_n3 + 1, l5085, b5086, p5087, p5088 =>
    if (decide (p5087 < (l5078.length : Int))) = true then
      (atI l5078 p5087).bind fun x5095 =>
      (strconv_Itoa n (IntKind.i64.wrap (b5086 + 1))).bind fun r5097 =>
      if (⟨#[110]⟩ : Str).size + r5097.size ≤ 1000000000 then
        (slf_reduce_Expand_1_c56_v1 x5095 (⟨p5088, ((⟨#[110]⟩ : Str) ++ r5097)⟩ : ReducePair) l5085 (IntKind.i64.wrap (b5086 + 1))).bind fun ⟨q5099, q5100⟩ =>
        (reduce_Expand_1_c56_v1_L3 n _append0 a1 slf_reduce_Expand_1_c56_v1 l5078 rec_n3) q5099 q5100 (IntKind.i64.wrap (p5087 + 1)) ((⟨#[110]⟩ : Str) ++ r5097)
      else none
    else
      reduce_Expand_1_c56_v1_J2 _append0 a1 slf_reduce_Expand_1_c56_v1 l5085 b5086 p5088

def reduce_Expand_1_c56_v1 : Nat → TreeTree → ReducePair → (List ApiContact) → Int → Option ((List ApiContact) × Int)
  | 0, _, _, _, _ => none
  | n + 1, _append0, a1, l1, b3 =>
  if (_append0.Kind == 0) = true then
    (atI l1 _append0.N).bind fun x5029 =>
    (some (l1.set _append0.N.toNat (⟨x5029.Kind, x5029.A, a1.from_, x5029.To⟩ : ApiContact))).bind fun l5030 =>
    (atI l5030 _append0.N).bind fun x5031 =>
    (some (l5030.set _append0.N.toNat (⟨x5031.Kind, x5031.A, x5031.From, a1.to_⟩ : ApiContact))).bind fun l5032 =>
    some (l5032, b3)
  else
    if (_append0.Kind == 2) = true then
      reduce_Expand_1_c56_v1_L1 _append0 a1 (reduce_Expand_1_c56_v1 n) n l1 b3 0
    else
      if 0 ≤ 0 ∧ 0 ≤ (IntKind.i64.wrap ((_append0.Kids.length : Int) - 1)) ∧ (IntKind.i64.wrap ((_append0.Kids.length : Int) - 1)) ≤ (_append0.Kids.length : Int) then
        (some (_append0.Kids.take (IntKind.i64.wrap ((_append0.Kids.length : Int) - 1)).toNat)).bind fun l5078 =>
        reduce_Expand_1_c56_v1_L3 n _append0 a1 (reduce_Expand_1_c56_v1 n) l5078 n l1 b3 0 a1.from_
      else none

def reduce_Expand (n : Nat) (t0 : TreeTree) (l1 : List ApiContact) : Option (ApiRung × Int) :=
  (tree_Check n t0 (l1.length : Int)).bind fun r4800 =>
  if (r4800 != 0) = true then
    some ((⟨(⟨#[]⟩ : Str), [], [], (⟨#[]⟩ : Str)⟩ : ApiRung), r4800)
  else
    (slices_Clone_api_Contact_o0 n l1).bind fun r4806 =>
    (reduce_Expand_1_c56_v1 n t0 (⟨(⟨#[76]⟩ : Str), (⟨#[82]⟩ : Str)⟩ : ReducePair) r4806 0).bind fun ⟨q5102, q5103⟩ =>
    some ((⟨(⟨#[]⟩ : Str), q5102, [], (⟨#[]⟩ : Str)⟩ : ApiRung), 0)

def law14_Of_L1 (t0 : TreeTree) (slf_law14_Of : TreeTree → Option (Ref14Tree)) : Nat → Int → (List Ref14Tree) → Option (Ref14Tree)
  | 0, _, _ => none
  | rec_n1 + 1, p5119, p5120 =>
    if (decide (p5119 < (t0.Kids.length : Int))) = true then
      (atI t0.Kids p5119).bind fun x5125 =>
      (slf_law14_Of x5125).bind fun r5127 =>
      if p5120.length + ([r5127]).length ≤ 1000000000 then
        (some (p5120 ++ ([r5127]))).bind fun l5128 =>
        (law14_Of_L1 t0 slf_law14_Of rec_n1) (IntKind.i64.wrap (p5119 + 1)) l5128
      else none
    else
      some (⟨t0.Kind, t0.N, p5120⟩ : Ref14Tree)

def law14_Of : Nat → TreeTree → Option (Ref14Tree)
  | 0, _ => none
  | n + 1, t0 =>
  law14_Of_L1 t0 (law14_Of n) n 0 ([])

def ref14_check_v2_L1 (_append0 : Ref14Tree) (l0 : List Int) : Nat → Int → Option (Int × (List Int))
  | 0, _ => none
  | rec_n1 + 1, p5602 =>
    if (decide (p5602 < (l0.length : Int))) = true then
      (atI l0 p5602).bind fun x5607 =>
      if (x5607 == _append0.N) = true then
        some (9, l0)
      else
        (ref14_check_v2_L1 _append0 l0 rec_n1) (IntKind.i64.wrap (p5602 + 1))
    else
      if l0.length + ([_append0.N]).length ≤ 1000000000 then
        (some (l0 ++ ([_append0.N]))).bind fun l5608 =>
        some (0, l5608)
      else none

def ref14_check_v2_L3 (_append0 : Ref14Tree) (a1 : Int) (slf_ref14_check_v2 : Ref14Tree → Int → (List Int) → Option (Int × (List Int))) : Nat → Int → (List Int) → Option (Int × (List Int))
  | 0, _, _ => none
  | rec_n3 + 1, p5621, l5622 =>
    if (decide (p5621 < (_append0.Kids.length : Int))) = true then
      (atI _append0.Kids p5621).bind fun x5627 =>
      (slf_ref14_check_v2 x5627 a1 l5622).bind fun ⟨r5629, q5630⟩ =>
      if (r5629 != 0) = true then
        some (r5629, q5630)
      else
        (ref14_check_v2_L3 _append0 a1 slf_ref14_check_v2 rec_n3) (IntKind.i64.wrap (p5621 + 1)) q5630
    else
      some (0, l5622)

def ref14_check_v2_J2 (n : Nat) (_append0 : Ref14Tree) (a1 : Int) (l0 : List Int) (slf_ref14_check_v2 : Ref14Tree → Int → (List Int) → Option (Int × (List Int))) : Option (Int × (List Int)) :=
  ref14_check_v2_L3 _append0 a1 slf_ref14_check_v2 n 0 l0

def ref14_check_v2_L4 (n : Nat) (_append0 : Ref14Tree) (a1 : Int) (l0 : List Int) (slf_ref14_check_v2 : Ref14Tree → Int → (List Int) → Option (Int × (List Int))) : Nat → Int → Option (Int × (List Int))
  | 0, _ => none
  | rec_n4 + 1, p5632 =>
    if (decide (p5632 < (_append0.Kids.length : Int))) = true then
      (atI _append0.Kids p5632).bind fun x5634 =>
      if (x5634.Kind == _append0.Kind) = true then
        some (14, l0)
      else
        (ref14_check_v2_L4 n _append0 a1 l0 slf_ref14_check_v2 rec_n4) (IntKind.i64.wrap (p5632 + 1))
    else
      ref14_check_v2_J2 n _append0 a1 l0 slf_ref14_check_v2

def ref14_check_v2 : Nat → Ref14Tree → Int → (List Int) → Option (Int × (List Int))
  | 0, _, _, _ => none
  | n + 1, _append0, a1, l0 =>
  if (decide (_append0.Kind < 0)) = true then
    some (8, l0)
  else
    if (decide (_append0.Kind > 2)) = true then
      some (8, l0)
    else
      if (_append0.Kind == 0) = true then
        if (decide ((_append0.Kids.length : Int) > 0)) = true then
          some (2, l0)
        else
          if (decide (_append0.N < 0)) = true then
            some (3, l0)
          else
            if (decide (_append0.N ≥ a1)) = true then
              some (3, l0)
            else
              ref14_check_v2_L1 _append0 l0 n 0
      else
        if (_append0.N != 0) = true then
          some (2, l0)
        else
          if (decide ((_append0.Kids.length : Int) < 2)) = true then
            some (5, l0)
          else
            ref14_check_v2_L4 n _append0 a1 l0 (ref14_check_v2 n) n 0

def ref14_check_o1_v1_L1 (_append0 : Ref14Tree) (l0 : List Int) : Nat → Int → Option (Int × (List Int))
  | 0, _ => none
  | rec_n1 + 1, p5670 =>
    if (decide (p5670 < (l0.length : Int))) = true then
      (atI l0 p5670).bind fun x5675 =>
      if (x5675 == _append0.N) = true then
        some (9, l0)
      else
        (ref14_check_o1_v1_L1 _append0 l0 rec_n1) (IntKind.i64.wrap (p5670 + 1))
    else
      if l0.length + ([_append0.N]).length ≤ 1000000000 then
        (some (l0 ++ ([_append0.N]))).bind fun l5676 =>
        some (0, l5676)
      else none

def ref14_check_o1_v1_L3 (n : Nat) (_append0 : Ref14Tree) (a1 : Int) : Nat → Int → (List Int) → Option (Int × (List Int))
  | 0, _, _ => none
  | rec_n3 + 1, p5689, l5690 =>
    if (decide (p5689 < (_append0.Kids.length : Int))) = true then
      (atI _append0.Kids p5689).bind fun x5695 =>
      (ref14_check_v2 n x5695 a1 l5690).bind fun ⟨r5697, q5698⟩ =>
      if (r5697 != 0) = true then
        some (r5697, q5698)
      else
        (ref14_check_o1_v1_L3 n _append0 a1 rec_n3) (IntKind.i64.wrap (p5689 + 1)) q5698
    else
      some (0, l5690)

def ref14_check_o1_v1_J2 (n : Nat) (_append0 : Ref14Tree) (a1 : Int) (l0 : List Int) : Option (Int × (List Int)) :=
  ref14_check_o1_v1_L3 n _append0 a1 n 0 l0

def ref14_check_o1_v1_L4 (n : Nat) (_append0 : Ref14Tree) (a1 : Int) (l0 : List Int) : Nat → Int → Option (Int × (List Int))
  | 0, _ => none
  | rec_n4 + 1, p5700 =>
    if (decide (p5700 < (_append0.Kids.length : Int))) = true then
      (atI _append0.Kids p5700).bind fun x5702 =>
      if (x5702.Kind == _append0.Kind) = true then
        some (14, l0)
      else
        (ref14_check_o1_v1_L4 n _append0 a1 l0 rec_n4) (IntKind.i64.wrap (p5700 + 1))
    else
      ref14_check_o1_v1_J2 n _append0 a1 l0

def ref14_check_o1_v1 (n : Nat) (_append0 : Ref14Tree) (a1 : Int) (l0 : List Int) : Option (Int × (List Int)) :=
  if (decide (_append0.Kind < 0)) = true then
    some (8, l0)
  else
    if (decide (_append0.Kind > 2)) = true then
      some (8, l0)
    else
      if (_append0.Kind == 0) = true then
        if (decide ((_append0.Kids.length : Int) > 0)) = true then
          some (2, l0)
        else
          if (decide (_append0.N < 0)) = true then
            some (3, l0)
          else
            if (decide (_append0.N ≥ a1)) = true then
              some (3, l0)
            else
              ref14_check_o1_v1_L1 _append0 l0 n 0
      else
        if (_append0.N != 0) = true then
          some (2, l0)
        else
          if (decide ((_append0.Kids.length : Int) < 2)) = true then
            some (5, l0)
          else
            ref14_check_o1_v1_L4 n _append0 a1 l0 n 0

def ref14_check_o1_L1 (_append0 : Ref14Tree) : Nat → Option (Int × (List Int))
  | 0 => none
  | rec_n1 + 1 =>
    if (decide (0 < 0)) = true then
      none
    else
      if ([_append0.N]).length ≤ 1000000000 then
        (some ([_append0.N])).bind fun l5474 =>
        some (0, l5474)
      else none

def ref14_check_o1_L3 (n : Nat) (_append0 : Ref14Tree) (a1 : Int) : Nat → Int → (List Int) → Option (Int × (List Int))
  | 0, _, _ => none
  | rec_n3 + 1, p5483, p5484 =>
    if (decide (p5483 < (_append0.Kids.length : Int))) = true then
      (atI _append0.Kids p5483).bind fun x5706 =>
      (ref14_check_o1_v1 n x5706 a1 p5484).bind fun ⟨r5708, q5709⟩ =>
      if (r5708 != 0) = true then
        some (r5708, q5709)
      else
        (ref14_check_o1_L3 n _append0 a1 rec_n3) (IntKind.i64.wrap (p5483 + 1)) q5709
    else
      some (0, p5484)

def ref14_check_o1_J2 (n : Nat) (_append0 : Ref14Tree) (a1 : Int) : Option (Int × (List Int)) :=
  ref14_check_o1_L3 n _append0 a1 n 0 ([])

def ref14_check_o1_L4 (n : Nat) (_append0 : Ref14Tree) (a1 : Int) : Nat → Int → Option (Int × (List Int))
  | 0, _ => none
  | rec_n4 + 1, p5711 =>
    if (decide (p5711 < (_append0.Kids.length : Int))) = true then
      (atI _append0.Kids p5711).bind fun x5713 =>
      if (x5713.Kind == _append0.Kind) = true then
        some (14, [])
      else
        (ref14_check_o1_L4 n _append0 a1 rec_n4) (IntKind.i64.wrap (p5711 + 1))
    else
      ref14_check_o1_J2 n _append0 a1

def ref14_check_o1 : Nat → Ref14Tree → Int → Option (Int × (List Int))
  | 0, _, _ => none
  | n + 1, _append0, a1 =>
  if (decide (_append0.Kind < 0)) = true then
    some (8, [])
  else
    if (decide (_append0.Kind > 2)) = true then
      some (8, [])
    else
      if (_append0.Kind == 0) = true then
        if (decide ((_append0.Kids.length : Int) > 0)) = true then
          some (2, [])
        else
          if (decide (_append0.N < 0)) = true then
            some (3, [])
          else
            if (decide (_append0.N ≥ a1)) = true then
              some (3, [])
            else
              ref14_check_o1_L1 _append0 n 
      else
        if (_append0.N != 0) = true then
          some (2, [])
        else
          if (decide ((_append0.Kids.length : Int) < 2)) = true then
            some (5, [])
          else
            ref14_check_o1_L4 n _append0 a1 n 0

def ref14_check_v1_L1 (_append0 : Ref14Tree) : Nat → Option (Int × (List Int))
  | 0 => none
  | rec_n1 + 1 =>
    if (decide (0 < 0)) = true then
      none
    else
      if ([_append0.N]).length ≤ 1000000000 then
        some (0, [_append0.N])
      else none

def ref14_check_v1_L3 (n : Nat) (_append0 : Ref14Tree) (a1 : Int) : Nat → Int → (List Int) → Option (Int × (List Int))
  | 0, _, _ => none
  | rec_n3 + 1, p5717, p5718 =>
    if (decide (p5717 < (_append0.Kids.length : Int))) = true then
      (atI _append0.Kids p5717).bind fun x5723 =>
      (ref14_check_o1_v1 n x5723 a1 p5718).bind fun ⟨r5725, q5726⟩ =>
      if (r5725 != 0) = true then
        some (r5725, q5726)
      else
        (ref14_check_v1_L3 n _append0 a1 rec_n3) (IntKind.i64.wrap (p5717 + 1)) q5726
    else
      some (0, p5718)

def ref14_check_v1_J2 (n : Nat) (_append0 : Ref14Tree) (a1 : Int) : Option (Int × (List Int)) :=
  ref14_check_v1_L3 n _append0 a1 n 0 ([])

def ref14_check_v1_L4 (n : Nat) (_append0 : Ref14Tree) (a1 : Int) : Nat → Int → Option (Int × (List Int))
  | 0, _ => none
  | rec_n4 + 1, p5728 =>
    if (decide (p5728 < (_append0.Kids.length : Int))) = true then
      (atI _append0.Kids p5728).bind fun x5730 =>
      if (x5730.Kind == _append0.Kind) = true then
        some (14, [])
      else
        (ref14_check_v1_L4 n _append0 a1 rec_n4) (IntKind.i64.wrap (p5728 + 1))
    else
      ref14_check_v1_J2 n _append0 a1

def ref14_check_v1 : Nat → Ref14Tree → Int → Option (Int × (List Int))
  | 0, _, _ => none
  | n + 1, _append0, a1 =>
  if (decide (_append0.Kind < 0)) = true then
    some (8, [])
  else
    if (decide (_append0.Kind > 2)) = true then
      some (8, [])
    else
      if (_append0.Kind == 0) = true then
        if (decide ((_append0.Kids.length : Int) > 0)) = true then
          some (2, [])
        else
          if (decide (_append0.N < 0)) = true then
            some (3, [])
          else
            if (decide (_append0.N ≥ a1)) = true then
              some (3, [])
            else
              ref14_check_v1_L1 _append0 n 
      else
        if (_append0.N != 0) = true then
          some (2, [])
        else
          if (decide ((_append0.Kids.length : Int) < 2)) = true then
            some (5, [])
          else
            ref14_check_v1_L4 n _append0 a1 n 0

def ref14_Check_J1 (n : Nat) (t0 : Ref14Tree) (p5434 : Int) : Option (Int) :=
  (ref14_check_v1 n t0 p5434).bind fun ⟨r5732, r5733⟩ =>
  if (r5732 != 0) = true then
    some r5732
  else
    if ((r5733.length : Int) != p5434) = true then
      some 4
    else
      some 0

def ref14_Check (n : Nat) (t0 : Ref14Tree) (many1 : Int) : Option (Int) :=
  if (decide (many1 < 0)) = true then
    ref14_Check_J1 n t0 0
  else
    ref14_Check_J1 n t0 many1

def ref01_Decimal_J2 (p5747 : Int) (p5748 : Str) (loop_1_ref01_Decimal : Int → Str → Option (Str)) : Option (Str) :=
  (some ([(IntKind.u8.wrap ((IntKind.i64.wrap (48 + (p5747.tmod 10)))))])).bind fun l5750 =>
  if (bytesS l5750).size + p5748.size ≤ 1000000000 then
    loop_1_ref01_Decimal (IntKind.i64.wrap (p5747.tdiv 10)) ((bytesS l5750) ++ p5748)
  else none

def ref01_Decimal_L1 : Nat → Int → Str → Option (Str)
  | 0, _, _ => none
  | rec_n1 + 1, p5747, p5748 =>
    if (decide (p5747 > 0)) = true then
      ref01_Decimal_J2 p5747 p5748 (ref01_Decimal_L1 rec_n1)
    else
      if (decide (p5748 = (⟨#[]⟩ : Str))) = true then
        ref01_Decimal_J2 p5747 p5748 (ref01_Decimal_L1 rec_n1)
      else
        some p5748

def ref01_Decimal (n : Nat) (n_0 : Int) : Option (Str) :=
  ref01_Decimal_L1 n n_0 (⟨#[]⟩ : Str)

def ref14_Decimal (n : Nat) (n_0 : Int) : Option (Str) :=
  if (decide (n_0 < 0)) = true then
    some (⟨#[45]⟩ : Str)
  else
    (ref01_Decimal n n_0).bind fun r5752 =>
    some r5752

def ref15_lay_v1_J2 (_append0 : Ref14Tree) (l5863 : List ApiContact) (p5864 : Int) (a5866 : Str) (loop_1_ref15_lay_v1 : (List ApiContact) → Int → Int → Str → Option (Int × (List ApiContact))) (slf_ref15_lay_v1 : Ref14Tree → Str → Str → Int → (List ApiContact) → Option (Int × (List ApiContact))) (p5895 : Str) (p5896 : Int) : Option (Int × (List ApiContact)) :=
  (atI _append0.Kids p5864).bind fun x5897 =>
  (slf_ref15_lay_v1 x5897 a5866 p5895 p5896 l5863).bind fun ⟨r5899, q5900⟩ =>
  if q5900.length = l5863.length then
    loop_1_ref15_lay_v1 q5900 (IntKind.i64.wrap (p5864 + 1)) r5899 p5895
  else none

def ref15_lay_v1_L1 (n : Nat) (_append0 : Ref14Tree) (a2 : Str) (a3 : Str) (slf_ref15_lay_v1 : Ref14Tree → Str → Str → Int → (List ApiContact) → Option (Int × (List ApiContact))) : Nat → (List ApiContact) → Int → Int → Str → Option (Int × (List ApiContact))
  | 0, _, _, _, _ => none
  | rec_n1 + 1, l5863, p5864, a5865, a5866 =>
    if (decide (p5864 < (_append0.Kids.length : Int))) = true then
      if (_append0.Kind == 2) = true then
        (atI _append0.Kids p5864).bind fun x5889 =>
        (slf_ref15_lay_v1 x5889 a2 a3 a5865 l5863).bind fun ⟨r5891, q5892⟩ =>
        if q5892.length = l5863.length then
          (ref15_lay_v1_L1 n _append0 a2 a3 slf_ref15_lay_v1 rec_n1) q5892 (IntKind.i64.wrap (p5864 + 1)) r5891 a5866
        else none
      else
        if (decide (p5864 < (IntKind.i64.wrap ((_append0.Kids.length : Int) - 1)))) = true then
          (ref14_Decimal n (IntKind.i64.wrap (a5865 + 1))).bind fun r5902 =>
          if (⟨#[110]⟩ : Str).size + r5902.size ≤ 1000000000 then
            ref15_lay_v1_J2 _append0 l5863 p5864 a5866 (ref15_lay_v1_L1 n _append0 a2 a3 slf_ref15_lay_v1 rec_n1) slf_ref15_lay_v1 ((⟨#[110]⟩ : Str) ++ r5902) (IntKind.i64.wrap (a5865 + 1))
          else none
        else
          ref15_lay_v1_J2 _append0 l5863 p5864 a5866 (ref15_lay_v1_L1 n _append0 a2 a3 slf_ref15_lay_v1 rec_n1) slf_ref15_lay_v1 a3 a5865
    else
      some (a5865, l5863)

def ref15_lay_v1 : Nat → Ref14Tree → Str → Str → Int → (List ApiContact) → Option (Int × (List ApiContact))
  | 0, _, _, _, _, _ => none
  | n + 1, _append0, a2, a3, a4, l0 =>
  if (_append0.Kind == 0) = true then
    (atI l0 _append0.N).bind fun x5841 =>
    (some (l0.set _append0.N.toNat (⟨x5841.Kind, x5841.A, a2, x5841.To⟩ : ApiContact))).bind fun l5842 =>
    (atI l5842 _append0.N).bind fun x5843 =>
    (some (l5842.set _append0.N.toNat (⟨x5843.Kind, x5843.A, x5843.From, a3⟩ : ApiContact))).bind fun l5844 =>
    some (a4, l5844)
  else
    ref15_lay_v1_L1 n _append0 a2 a3 (ref15_lay_v1 n) n l0 0 a4 a2

def ref15_Expand (n : Nat) (t0 : Ref14Tree) (l1 : List ApiContact) : Option (ApiRung × Int) :=
  (ref14_Check n t0 (l1.length : Int)).bind fun r5735 =>
  if (r5735 != 0) = true then
    some ((⟨(⟨#[]⟩ : Str), [], [], (⟨#[]⟩ : Str)⟩ : ApiRung), r5735)
  else
    if l1.length ≤ 1000000000 then
      (ref15_lay_v1 n t0 (⟨#[76]⟩ : Str) (⟨#[82]⟩ : Str) 0 l1).bind fun ⟨r5904, q5905⟩ =>
      if q5905.length = l1.length then
        some ((⟨(⟨#[]⟩ : Str), q5905, [], (⟨#[]⟩ : Str)⟩ : ApiRung), 0)
      else none
    else none

def slices_Equal_api_Contact_L1 (s10 : List ApiContact) (s21 : List ApiContact) : Nat → Int → Option (Bool)
  | 0, _ => none
  | rec_n1 + 1, p5913 =>
    if (decide (p5913 < (s10.length : Int))) = true then
      (atI s10 p5913).bind fun x5916 =>
      (atI s21 p5913).bind fun x5917 =>
      if (!((x5916.Kind == x5917.Kind) && ((x5916.A.Space == x5917.A.Space) && ((x5916.A.N == x5917.A.N) && ((decide (x5916.From = x5917.From)) && (decide (x5916.To = x5917.To))))))) = true then
        some false
      else
        (slices_Equal_api_Contact_L1 s10 s21 rec_n1) (IntKind.i64.wrap (p5913 + 1))
    else
      some true

def slices_Equal_api_Contact (n : Nat) (s10 : List ApiContact) (s21 : List ApiContact) : Option (Bool) :=
  if ((s10.length : Int) != (s21.length : Int)) = true then
    some false
  else
    slices_Equal_api_Contact_L1 s10 s21 n 0

def law15_ReduceExpandMatchesReference (n : Nat) (t0 : TreeTree) (l1 : List ApiContact) : Option (Bool) :=
  (law14_TooLarge n t0).bind fun r4617 =>
  if (decide (r4617 > 0)) = true then
    (law15_alive n ).bind fun r4619 =>
    some r4619
  else
    if (decide ((l1.length : Int) > 300)) = true then
      (law15_alive n ).bind fun r4621 =>
      some r4621
    else
      (reduce_Expand n t0 l1).bind fun ⟨r5105, r5106⟩ =>
      (law14_Of n t0).bind fun r5130 =>
      (ref15_Expand n r5130 l1).bind fun ⟨r5907, r5908⟩ =>
      (law15_alive n ).bind fun r5910 =>
      if r5910 = true then
        (slices_Equal_api_Contact n r5105.Contacts r5907.Contacts).bind fun r5919 =>
        if r5919 = true then
          if (r5106 == r5908) = true then
            if (decide (r5105.Label = (⟨#[]⟩ : Str))) = true then
              if ((r5105.Coils.length : Int) == 0) = true then
                some (decide (r5105.Jump = (⟨#[]⟩ : Str)))
              else
                some false
            else
              some false
          else
            some false
        else
          some false
      else
        some false

end Go.G
