/- Models of functions of the program. -/
import Derived.Test.YtaebdeidbibfkaaGreatDoorZGTy
set_option linter.unusedSimpArgs false
set_option linter.unusedVariables false
set_option linter.unusedSectionVars false
namespace Go.G
open Go.Av
def law14_weight_L1 (t0 : TreeTree) (deep1 : Int) (slf_law14_weight : TreeTree → Int → Option (Int)) : Nat → Int → Int → Option (Int)
  | 0, _, _ => none
  | rec_n1 + 1, p4, p5 =>
    if (decide (p4 < (t0.Kids.length : Int))) = true then
      (atI t0.Kids p4).bind fun x9 =>
      (slf_law14_weight x9 (IntKind.i64.wrap (deep1 + 1))).bind fun r11 =>
      if (decide ((IntKind.i64.wrap (p5 + r11)) > 1000)) = true then
        some 1001
      else
        (law14_weight_L1 t0 deep1 slf_law14_weight rec_n1) (IntKind.i64.wrap (p4 + 1)) (IntKind.i64.wrap (p5 + r11))
    else
      some p5

def law14_weight : Nat → TreeTree → Int → Option (Int)
  | 0, _, _ => none
  | n + 1, t0, deep1 =>
  if (decide (deep1 > 40)) = true then
    some 1001
  else
    law14_weight_L1 t0 deep1 (law14_weight n) n 0 1

def law14_TooLarge (n : Nat) (t0 : TreeTree) : Option (Int) :=
  (law14_weight n t0 0).bind fun r13 =>
  if (decide (r13 > 1000)) = true then
    some 1
  else
    some 0

def law15_rung_L1 (l0 : List Str) : Nat → (List ApiContact) → Int → Option (ApiRung)
  | 0, _, _ => none
  | rec_n1 + 1, p26, p27 =>
    if (decide ((IntKind.i64.wrap (p27 + 1)) < (l0.length : Int))) = true then
      (atI l0 p27).bind fun x31 =>
      (atI l0 (IntKind.i64.wrap (p27 + 1))).bind fun x32 =>
      if p26.length + ([(⟨0, (⟨0, 0⟩ : ApiAddr), x31, x32⟩ : ApiContact)]).length ≤ 1000000000 then
        (some (p26 ++ ([(⟨0, (⟨0, 0⟩ : ApiAddr), x31, x32⟩ : ApiContact)]))).bind fun l33 =>
        (law15_rung_L1 l0 rec_n1) l33 (IntKind.i64.wrap (p27 + 2))
      else none
    else
      some (⟨(⟨#[]⟩ : Str), p26, [], (⟨#[]⟩ : Str)⟩ : ApiRung)

def law15_rung (n : Nat) (l0 : List Str) : Option (ApiRung) :=
  law15_rung_L1 l0 n ([]) 0

def graph_Nodes_o0_L2 (p2340 : Int) (loop_1_graph_Nodes_o0 : Int → (List Str) → (List (Str × Bool)) → Option ((List Str))) (l2355 : List Str) : Nat → Int → (List Str) → (List (Str × Bool)) → Option ((List Str))
  | 0, _, _, _ => none
  | rec_n2 + 1, p2358, l2359, p2360 =>
    if (decide (p2358 < (l2355.length : Int))) = true then
      (atI l2355 p2358).bind fun x2363 =>
      if (!((mGet p2360 x2363).getD false)) = true then
        if l2359.length + ([x2363]).length ≤ 1000000000 then
          (some (l2359 ++ ([x2363]))).bind fun l2364 =>
          (graph_Nodes_o0_L2 p2340 loop_1_graph_Nodes_o0 l2355 rec_n2) (IntKind.i64.wrap (p2358 + 1)) l2364 (mPut p2360 x2363 true)
        else none
      else
        (graph_Nodes_o0_L2 p2340 loop_1_graph_Nodes_o0 l2355 rec_n2) (IntKind.i64.wrap (p2358 + 1)) l2359 p2360
    else
      loop_1_graph_Nodes_o0 (IntKind.i64.wrap (p2340 + 1)) l2359 p2360

def graph_Nodes_o0_L1 (n : Nat) (r_0 : ApiRung) : Nat → Int → (List Str) → (List (Str × Bool)) → Option ((List Str))
  | 0, _, _, _ => none
  | rec_n1 + 1, p2340, l2341, p2342 =>
    if (decide (p2340 < (r_0.Contacts.length : Int))) = true then
      (atI r_0.Contacts p2340).bind fun x2354 =>
      (some ([x2354.From, x2354.To])).bind fun l2355 =>
      graph_Nodes_o0_L2 p2340 (graph_Nodes_o0_L1 n r_0 rec_n1) l2355 n 0 l2341 p2342
    else
      some l2341

def graph_Nodes_o0 (n : Nat) (r_0 : ApiRung) : Option ((List Str)) :=
  (some ([(⟨#[76]⟩ : Str), (⟨#[82]⟩ : Str)])).bind fun l2328 =>
  graph_Nodes_o0_L1 n r_0 n 0 l2328 (mPut (mPut ([]) (⟨#[76]⟩ : Str) true) (⟨#[82]⟩ : Str) true)

def graph_Incoming_1 (n : Nat) (c0 : ApiContact) (b0 : Str) : Option (Bool) :=
  some (decide (c0.To = b0))

def graph_numbers_c134_L1 (n : Nat) (r_0 : ApiRung) (b0 : Str) : Nat → Int → (List Int) → Option ((List Int))
  | 0, _, _ => none
  | rec_n1 + 1, p2394, p2395 =>
    if (decide (p2394 < (r_0.Contacts.length : Int))) = true then
      (atI r_0.Contacts p2394).bind fun x2400 =>
      (graph_Incoming_1 n x2400 b0).bind fun r2402 =>
      if r2402 = true then
        if p2395.length + ([p2394]).length ≤ 1000000000 then
          (some (p2395 ++ ([p2394]))).bind fun l2403 =>
          (graph_numbers_c134_L1 n r_0 b0 rec_n1) (IntKind.i64.wrap (p2394 + 1)) l2403
        else none
      else
        (graph_numbers_c134_L1 n r_0 b0 rec_n1) (IntKind.i64.wrap (p2394 + 1)) p2395
    else
      some p2395

def graph_numbers_c134 (n : Nat) (r_0 : ApiRung) (b0 : Str) : Option ((List Int)) :=
  graph_numbers_c134_L1 n r_0 b0 n 0 ([])

def graph_Incoming (n : Nat) (r_0 : ApiRung) (node1 : Str) : Option ((List Int)) :=
  (graph_numbers_c134 n r_0 node1).bind fun r2405 =>
  some r2405

def graph_TopoSort_1_1 (n : Nat) (i_0 : Int) (m1 : List (Str × Bool)) (b2 : ApiRung) : Option (Bool) :=
  (atI b2.Contacts i_0).bind fun x2410 =>
  some (!((mGet m1 x2410.From).getD false))

def slices_IndexFunc_int_c102_L1 (n : Nat) (s0 : List Int) (m1 : List (Str × Bool)) (b2 : ApiRung) : Nat → Int → Option (Int)
  | 0, _ => none
  | rec_n1 + 1, p2423 =>
    if (decide (p2423 < (s0.length : Int))) = true then
      (atI s0 p2423).bind fun x2427 =>
      (graph_TopoSort_1_1 n x2427 m1 b2).bind fun r2429 =>
      if r2429 = true then
        some p2423
      else
        (slices_IndexFunc_int_c102_L1 n s0 m1 b2 rec_n1) (IntKind.i64.wrap (p2423 + 1))
    else
      some (-1)

def slices_IndexFunc_int_c102 (n : Nat) (s0 : List Int) (m1 : List (Str × Bool)) (b2 : ApiRung) : Option (Int) :=
  slices_IndexFunc_int_c102_L1 n s0 m1 b2 n 0

def slices_ContainsFunc_int_c102 (n : Nat) (s0 : List Int) (m1 : List (Str × Bool)) (b2 : ApiRung) : Option (Bool) :=
  (slices_IndexFunc_int_c102 n s0 m1 b2).bind fun r2433 =>
  some (decide (r2433 ≥ 0))

def graph_TopoSort_1 (n : Nat) (n_0 : Str) (b0 : ApiRung) (m2 : List (Str × Bool)) : Option (Bool) :=
  (graph_Incoming n b0 n_0).bind fun r2437 =>
  (slices_ContainsFunc_int_c102 n r2437 m2 b0).bind fun r2439 =>
  some (!r2439)

def slices_IndexFunc_string_c99_v1_L1 (n : Nat) (l0 : List Str) (b1 : ApiRung) (m3 : List (Str × Bool)) : Nat → Int → Option (Int)
  | 0, _ => none
  | rec_n1 + 1, p2452 =>
    if (decide (p2452 < (l0.length : Int))) = true then
      (atI l0 p2452).bind fun x2456 =>
      (graph_TopoSort_1 n x2456 b1 m3).bind fun r2458 =>
      if r2458 = true then
        some p2452
      else
        (slices_IndexFunc_string_c99_v1_L1 n l0 b1 m3 rec_n1) (IntKind.i64.wrap (p2452 + 1))
    else
      some (-1)

def slices_IndexFunc_string_c99_v1 (n : Nat) (l0 : List Str) (b1 : ApiRung) (m3 : List (Str × Bool)) : Option (Int) :=
  slices_IndexFunc_string_c99_v1_L1 n l0 b1 m3 n 0

def slices_Delete_string_v1 (n : Nat) (i_1 : Int) (j2 : Int) (l0 : List Str) : Option ((List Str)) :=
  if 0 ≤ i_1 ∧ i_1 ≤ j2 ∧ j2 ≤ (l0.length : Int) ∧ (l0.length : Int) ≤ (l0.length : Int) then
    if (i_1 == j2) = true then
      some l0
    else
      if 0 ≤ 0 ∧ 0 ≤ i_1 ∧ i_1 ≤ (l0.length : Int) then
        if 0 ≤ j2 ∧ j2 ≤ (l0.length : Int) ∧ (l0.length : Int) ≤ (l0.length : Int) then
          if i_1.toNat + (l0.length - j2.toNat) ≤ l0.length then
            (some (l0.take i_1.toNat ++ ((l0.drop j2.toNat) ++ l0.drop (i_1.toNat + (l0.length - j2.toNat))))).bind fun l2465 =>
            if 0 ≤ (((i_1.toNat + (l0.length - j2.toNat)) : Nat) : Int) ∧ (((i_1.toNat + (l0.length - j2.toNat)) : Nat) : Int) ≤ (l0.length : Int) ∧ (l0.length : Int) ≤ l2465.length then
              if ((i_1.toNat + (l0.length - j2.toNat)) + (l0.length - (i_1.toNat + (l0.length - j2.toNat)))) ≤ l2465.length then
                some (l2465.take (i_1.toNat + (l0.length - j2.toNat)))
              else none
            else none
          else none
        else none
      else none
  else none

def graph_TopoSort_L1 (n : Nat) (r_0 : ApiRung) : Nat → (List Str) → (List (Str × Bool)) → (List Str) → Option ((List Str) × Int)
  | 0, _, _, _ => none
  | rec_n1 + 1, r2468, p2469, p2470 =>
    if (decide ((r2468.length : Int) > 0)) = true then
      (slices_IndexFunc_string_c99_v1 n r2468 r_0 p2469).bind fun r2478 =>
      if (decide (r2478 < 0)) = true then
        some ([], 12)
      else
        (atI r2468 r2478).bind fun x2479 =>
        if p2470.length + ([x2479]).length ≤ 1000000000 then
          (some (p2470 ++ ([x2479]))).bind fun l2480 =>
          (slices_Delete_string_v1 n r2478 (IntKind.i64.wrap (r2478 + 1)) r2468).bind fun q2482 =>
          (graph_TopoSort_L1 n r_0 rec_n1) q2482 (mPut p2469 x2479 true) l2480
        else none
    else
      some (p2470, 0)

def graph_TopoSort (n : Nat) (r_0 : ApiRung) : Option ((List Str) × Int) :=
  (graph_Nodes_o0 n r_0).bind fun r2366 =>
  graph_TopoSort_L1 n r_0 n r2366 ([]) ([])

def slices_Index_string_L1 (s0 : List Str) (v1 : Str) : Nat → Int → Option (Int)
  | 0, _ => none
  | rec_n1 + 1, p3389 =>
    if (decide (p3389 < (s0.length : Int))) = true then
      (atI s0 p3389).bind fun x3391 =>
      if (decide (v1 = x3391)) = true then
        some p3389
      else
        (slices_Index_string_L1 s0 v1 rec_n1) (IntKind.i64.wrap (p3389 + 1))
    else
      some (-1)

def slices_Index_string (n : Nat) (s0 : List Str) (v1 : Str) : Option (Int) :=
  slices_Index_string_L1 s0 v1 n 0

def slices_Contains_string (n : Nat) (s0 : List Str) (v1 : Str) : Option (Bool) :=
  (slices_Index_string n s0 v1).bind fun r3393 =>
  some (decide (r3393 ≥ 0))

def graph_Outgoing_1 (n : Nat) (c0 : ApiContact) (b0 : Str) : Option (Bool) :=
  some (decide (c0.From = b0))

def graph_numbers_c168_L1 (n : Nat) (r_0 : ApiRung) (b0 : Str) : Nat → Int → (List Int) → Option ((List Int))
  | 0, _, _ => none
  | rec_n1 + 1, p3470, p3471 =>
    if (decide (p3470 < (r_0.Contacts.length : Int))) = true then
      (atI r_0.Contacts p3470).bind fun x3476 =>
      (graph_Outgoing_1 n x3476 b0).bind fun r3478 =>
      if r3478 = true then
        if p3471.length + ([p3470]).length ≤ 1000000000 then
          (some (p3471 ++ ([p3470]))).bind fun l3479 =>
          (graph_numbers_c168_L1 n r_0 b0 rec_n1) (IntKind.i64.wrap (p3470 + 1)) l3479
        else none
      else
        (graph_numbers_c168_L1 n r_0 b0 rec_n1) (IntKind.i64.wrap (p3470 + 1)) p3471
    else
      some p3471

def graph_numbers_c168 (n : Nat) (r_0 : ApiRung) (b0 : Str) : Option ((List Int)) :=
  graph_numbers_c168_L1 n r_0 b0 n 0 ([])

def graph_Outgoing (n : Nat) (r_0 : ApiRung) (node1 : Str) : Option ((List Int)) :=
  (graph_numbers_c168 n r_0 node1).bind fun r3481 =>
  some r3481

def graph_Reachable_1_L1 (b0 : ApiRung) (r3496 : List Int) : Nat → Int → (List Str) → Option ((List Str))
  | 0, _, _ => none
  | rec_n1 + 1, p3500, p3501 =>
    if (decide (p3500 < (r3496.length : Int))) = true then
      (atI r3496 p3500).bind fun x3505 =>
      (atI b0.Contacts x3505).bind fun x3506 =>
      if p3501.length + ([x3506.To]).length ≤ 1000000000 then
        (some (p3501 ++ ([x3506.To]))).bind fun l3507 =>
        (graph_Reachable_1_L1 b0 r3496 rec_n1) (IntKind.i64.wrap (p3500 + 1)) l3507
      else none
    else
      some p3501

def graph_Reachable_1 (n : Nat) (n_0 : Str) (b0 : ApiRung) : Option ((List Str)) :=
  (graph_Outgoing n b0 n_0).bind fun r3496 =>
  graph_Reachable_1_L1 b0 r3496 n 0 ([])

def graph_gather_1_c136_166_L1 (b3 : ApiRung) (r3528 : List Str) (slf_graph_gather_1_c136_166 : Str → (List (Str × Bool)) → ApiRung → Option ((List (Str × Bool)))) : Nat → (List (Str × Bool)) → Int → Option ((List (Str × Bool)))
  | 0, _, _ => none
  | rec_n1 + 1, p3532, p3533 =>
    if (decide (p3533 < (r3528.length : Int))) = true then
      (atI r3528 p3533).bind fun x3537 =>
      (slf_graph_gather_1_c136_166 x3537 p3532 b3).bind fun q3539 =>
      (graph_gather_1_c136_166_L1 b3 r3528 slf_graph_gather_1_c136_166 rec_n1) q3539 (IntKind.i64.wrap (p3533 + 1))
    else
      some p3532

def graph_gather_1_c136_166 : Nat → Str → (List (Str × Bool)) → ApiRung → Option ((List (Str × Bool)))
  | 0, _, _, _ => none
  | n + 1, n_0, m1, b3 =>
  if ((mGet m1 n_0).getD false) = true then
    some m1
  else
    (graph_Reachable_1 n n_0 b3).bind fun r3528 =>
    graph_gather_1_c136_166_L1 b3 r3528 (graph_gather_1_c136_166 n) n (mPut m1 n_0 true) 0

def graph_gather_2 (n : Nat) (n_0 : Str) (m1 : List (Str × Bool)) : Option (Bool) :=
  some (!((mGet m1 n_0).getD false))

def slices_IndexFunc_string_c167_v1_L1 (n : Nat) (l0 : List Str) (m2 : List (Str × Bool)) : Nat → Int → Option (Int)
  | 0, _ => none
  | rec_n1 + 1, p3577 =>
    if (decide (p3577 < (l0.length : Int))) = true then
      (atI l0 p3577).bind fun x3581 =>
      (graph_gather_2 n x3581 m2).bind fun r3583 =>
      if r3583 = true then
        some p3577
      else
        (slices_IndexFunc_string_c167_v1_L1 n l0 m2 rec_n1) (IntKind.i64.wrap (p3577 + 1))
    else
      some (-1)

def slices_IndexFunc_string_c167_v1 (n : Nat) (l0 : List Str) (m2 : List (Str × Bool)) : Option (Int) :=
  slices_IndexFunc_string_c167_v1_L1 n l0 m2 n 0

def slices_DeleteFunc_string_c167_v1_L1 (n : Nat) (m2 : List (Str × Bool)) : Nat → (List Str) → Int → Int → Option ((List Str))
  | 0, _, _, _ => none
  | rec_n1 + 1, l3612, r3613, p3614 =>
    if (decide (p3614 < (l3612.length : Int))) = true then
      (atI l3612 p3614).bind fun x3620 =>
      (graph_gather_2 n x3620 m2).bind fun r3622 =>
      if (!r3622) = true then
        (atI l3612 r3613).bind fun x3623 =>
        (some (l3612.set r3613.toNat x3620)).bind fun l3624 =>
        (slices_DeleteFunc_string_c167_v1_L1 n m2 rec_n1) l3624 (IntKind.i64.wrap (r3613 + 1)) (IntKind.i64.wrap (p3614 + 1))
      else
        (slices_DeleteFunc_string_c167_v1_L1 n m2 rec_n1) l3612 r3613 (IntKind.i64.wrap (p3614 + 1))
    else
      if 0 ≤ r3613 ∧ r3613 ≤ (l3612.length : Int) ∧ (l3612.length : Int) ≤ (l3612.length : Int) then
        if (r3613.toNat + (l3612.length - r3613.toNat)) ≤ l3612.length then
          if 0 ≤ 0 ∧ 0 ≤ r3613 ∧ r3613 ≤ (l3612.length : Int) then
            some (l3612.take r3613.toNat)
          else none
        else none
      else none

def slices_DeleteFunc_string_c167_v1 (n : Nat) (l0 : List Str) (m2 : List (Str × Bool)) : Option ((List Str)) :=
  (slices_IndexFunc_string_c167_v1 n l0 m2).bind fun r3606 =>
  if (r3606 == (-1)) = true then
    some l0
  else
    slices_DeleteFunc_string_c167_v1_L1 n m2 n l0 r3606 (IntKind.i64.wrap (r3606 + 1))

def graph_gather_c136 (n : Nat) (r_0 : ApiRung) (node1 : Str) (b0 : ApiRung) : Option ((List Str)) :=
  (graph_Nodes_o0 n r_0).bind fun r3628 =>
  (slices_Contains_string n r3628 node1).bind fun r3632 =>
  if (!r3632) = true then
    some ([])
  else
    (graph_gather_1_c136_166 n node1 ([]) b0).bind fun q3634 =>
    (slices_DeleteFunc_string_c167_v1 n r3628 q3634).bind fun q3636 =>
    some q3636

def graph_Reachable (n : Nat) (r_0 : ApiRung) (node1 : Str) : Option ((List Str)) :=
  (graph_gather_c136 n r_0 node1 r_0).bind fun r3638 =>
  some r3638

def graph_Ancestors_1_L1 (b0 : ApiRung) (r3784 : List Int) : Nat → Int → (List Str) → Option ((List Str))
  | 0, _, _ => none
  | rec_n1 + 1, p3788, p3789 =>
    if (decide (p3788 < (r3784.length : Int))) = true then
      (atI r3784 p3788).bind fun x3793 =>
      (atI b0.Contacts x3793).bind fun x3794 =>
      if p3789.length + ([x3794.From]).length ≤ 1000000000 then
        (some (p3789 ++ ([x3794.From]))).bind fun l3795 =>
        (graph_Ancestors_1_L1 b0 r3784 rec_n1) (IntKind.i64.wrap (p3788 + 1)) l3795
      else none
    else
      some p3789

def graph_Ancestors_1 (n : Nat) (n_0 : Str) (b0 : ApiRung) : Option ((List Str)) :=
  (graph_Incoming n b0 n_0).bind fun r3784 =>
  graph_Ancestors_1_L1 b0 r3784 n 0 ([])

def graph_gather_1_c138_166_L1 (b3 : ApiRung) (r3816 : List Str) (slf_graph_gather_1_c138_166 : Str → (List (Str × Bool)) → ApiRung → Option ((List (Str × Bool)))) : Nat → (List (Str × Bool)) → Int → Option ((List (Str × Bool)))
  | 0, _, _ => none
  | rec_n1 + 1, p3820, p3821 =>
    if (decide (p3821 < (r3816.length : Int))) = true then
      (atI r3816 p3821).bind fun x3825 =>
      (slf_graph_gather_1_c138_166 x3825 p3820 b3).bind fun q3827 =>
      (graph_gather_1_c138_166_L1 b3 r3816 slf_graph_gather_1_c138_166 rec_n1) q3827 (IntKind.i64.wrap (p3821 + 1))
    else
      some p3820

def graph_gather_1_c138_166 : Nat → Str → (List (Str × Bool)) → ApiRung → Option ((List (Str × Bool)))
  | 0, _, _, _ => none
  | n + 1, n_0, m1, b3 =>
  if ((mGet m1 n_0).getD false) = true then
    some m1
  else
    (graph_Ancestors_1 n n_0 b3).bind fun r3816 =>
    graph_gather_1_c138_166_L1 b3 r3816 (graph_gather_1_c138_166 n) n (mPut m1 n_0 true) 0

def graph_gather_c138 (n : Nat) (r_0 : ApiRung) (node1 : Str) (b0 : ApiRung) : Option ((List Str)) :=
  (graph_Nodes_o0 n r_0).bind fun r3833 =>
  (slices_Contains_string n r3833 node1).bind fun r3837 =>
  if (!r3837) = true then
    some ([])
  else
    (graph_gather_1_c138_166 n node1 ([]) b0).bind fun q3839 =>
    (slices_DeleteFunc_string_c167_v1 n r3833 q3839).bind fun q3841 =>
    some q3841

def graph_Ancestors (n : Nat) (r_0 : ApiRung) (node1 : Str) : Option ((List Str)) :=
  (graph_gather_c138 n r_0 node1 r_0).bind fun r3843 =>
  some r3843

def flow_DeadNodes_1 (n : Nat) (n_0 : Str) (b0 : List Str) (b1 : List Str) : Option (Bool) :=
  (slices_Contains_string n b0 n_0).bind fun r3884 =>
  if r3884 = true then
    (slices_Contains_string n b1 n_0).bind fun r3886 =>
    some r3886
  else
    some false

def slices_IndexFunc_string_c107_v1_L1 (n : Nat) (l0 : List Str) (b1 : List Str) (b2 : List Str) : Nat → Int → Option (Int)
  | 0, _ => none
  | rec_n1 + 1, p3899 =>
    if (decide (p3899 < (l0.length : Int))) = true then
      (atI l0 p3899).bind fun x3903 =>
      (flow_DeadNodes_1 n x3903 b1 b2).bind fun r3905 =>
      if r3905 = true then
        some p3899
      else
        (slices_IndexFunc_string_c107_v1_L1 n l0 b1 b2 rec_n1) (IntKind.i64.wrap (p3899 + 1))
    else
      some (-1)

def slices_IndexFunc_string_c107_v1 (n : Nat) (l0 : List Str) (b1 : List Str) (b2 : List Str) : Option (Int) :=
  slices_IndexFunc_string_c107_v1_L1 n l0 b1 b2 n 0

def slices_DeleteFunc_string_c107_L1 (n : Nat) (b1 : List Str) (b2 : List Str) : Nat → (List Str) → Int → Int → Option ((List Str))
  | 0, _, _, _ => none
  | rec_n1 + 1, l3934, r3935, p3936 =>
    if (decide (p3936 < (l3934.length : Int))) = true then
      (atI l3934 p3936).bind fun x3942 =>
      (flow_DeadNodes_1 n x3942 b1 b2).bind fun r3944 =>
      if (!r3944) = true then
        (atI l3934 r3935).bind fun x3945 =>
        (some (l3934.set r3935.toNat x3942)).bind fun l3946 =>
        (slices_DeleteFunc_string_c107_L1 n b1 b2 rec_n1) l3946 (IntKind.i64.wrap (r3935 + 1)) (IntKind.i64.wrap (p3936 + 1))
      else
        (slices_DeleteFunc_string_c107_L1 n b1 b2 rec_n1) l3934 r3935 (IntKind.i64.wrap (p3936 + 1))
    else
      if 0 ≤ r3935 ∧ r3935 ≤ (l3934.length : Int) ∧ (l3934.length : Int) ≤ (l3934.length : Int) then
        if (r3935.toNat + (l3934.length - r3935.toNat)) ≤ l3934.length then
          if 0 ≤ 0 ∧ 0 ≤ r3935 ∧ r3935 ≤ (l3934.length : Int) then
            some (l3934.take r3935.toNat)
          else none
        else none
      else none

def slices_DeleteFunc_string_c107 (n : Nat) (l0 : List Str) (b1 : List Str) (b2 : List Str) : Option ((List Str)) :=
  (slices_IndexFunc_string_c107_v1 n l0 b1 b2).bind fun r3928 =>
  if (r3928 == (-1)) = true then
    some l0
  else
    slices_DeleteFunc_string_c107_L1 n b1 b2 n l0 r3928 (IntKind.i64.wrap (r3928 + 1))

def flow_DeadNodes (n : Nat) (r_0 : ApiRung) : Option ((List Str)) :=
  (graph_Reachable n r_0 (⟨#[76]⟩ : Str)).bind fun r3640 =>
  (graph_Ancestors n r_0 (⟨#[82]⟩ : Str)).bind fun r3845 =>
  (graph_Nodes_o0 n r_0).bind fun r3847 =>
  (slices_DeleteFunc_string_c107 n r3847 r3640 r3845).bind fun q3948 =>
  some q3948

def flow_Check (n : Nat) (r_0 : ApiRung) : Option (Int) :=
  if ((r_0.Contacts.length : Int) == 0) = true then
    some 4
  else
    (graph_TopoSort n r_0).bind fun ⟨r2487, r2488⟩ =>
    if (r2488 != 0) = true then
      some r2488
    else
      (flow_DeadNodes n r_0).bind fun r3950 =>
      if (decide ((r3950.length : Int) > 0)) = true then
        some 13
      else
        some 0

def reduce_parallel_1 (n : Nat) (y0 : ReduceEdge) (b0 : ReduceEdge) : Option (Bool) :=
  some ((decide (y0.pair.from_ = b0.pair.from_)) && (decide (y0.pair.to_ = b0.pair.to_)))

def slices_IndexFunc_reduce_edge_c66_L1 (n : Nat) (s0 : List ReduceEdge) (b0 : ReduceEdge) : Nat → Int → Option (Int)
  | 0, _ => none
  | rec_n1 + 1, p4025 =>
    if (decide (p4025 < (s0.length : Int))) = true then
      (atI s0 p4025).bind fun x4029 =>
      (reduce_parallel_1 n x4029 b0).bind fun r4031 =>
      if r4031 = true then
        some p4025
      else
        (slices_IndexFunc_reduce_edge_c66_L1 n s0 b0 rec_n1) (IntKind.i64.wrap (p4025 + 1))
    else
      some (-1)

def slices_IndexFunc_reduce_edge_c66 (n : Nat) (s0 : List ReduceEdge) (b0 : ReduceEdge) : Option (Int) :=
  slices_IndexFunc_reduce_edge_c66_L1 n s0 b0 n 0

def slices_IndexFunc_reduce_edge_c66_v1_L1 (n : Nat) (s0 : Nat) (l0 : List ReduceEdge) (b1 : ReduceEdge) : Nat → Int → Option (Int)
  | 0, _ => none
  | rec_n1 + 1, p4045 =>
    if (decide (p4045 < (((l0.length - s0) : Nat) : Int))) = true then
      (atI (l0.drop s0) p4045).bind fun x4049 =>
      (reduce_parallel_1 n x4049 b1).bind fun r4051 =>
      if r4051 = true then
        some p4045
      else
        (slices_IndexFunc_reduce_edge_c66_v1_L1 n s0 l0 b1 rec_n1) (IntKind.i64.wrap (p4045 + 1))
    else
      some (-1)

def slices_IndexFunc_reduce_edge_c66_v1 (n : Nat) (s0 : Nat) (l0 : List ReduceEdge) (b1 : ReduceEdge) : Option (Int) :=
  slices_IndexFunc_reduce_edge_c66_v1_L1 n s0 l0 b1 n 0

def reduce_join_L1 (kind0 : Int) (l4066 : List TreeTree) : Nat → Int → (List TreeTree) → Option (TreeTree)
  | 0, _, _ => none
  | rec_n1 + 1, p4069, p4070 =>
    if (decide (p4069 < (l4066.length : Int))) = true then
      (atI l4066 p4069).bind fun x4074 =>
      if (x4074.Kind == kind0) = true then
        if p4070.length + x4074.Kids.length ≤ 1000000000 then
          (some (p4070 ++ x4074.Kids)).bind fun l4075 =>
          (reduce_join_L1 kind0 l4066 rec_n1) (IntKind.i64.wrap (p4069 + 1)) l4075
        else none
      else
        if p4070.length + ([x4074]).length ≤ 1000000000 then
          (some (p4070 ++ ([x4074]))).bind fun l4076 =>
          (reduce_join_L1 kind0 l4066 rec_n1) (IntKind.i64.wrap (p4069 + 1)) l4076
        else none
    else
      some (⟨kind0, 0, p4070⟩ : TreeTree)

def reduce_join (n : Nat) (kind0 : Int) (a1 : TreeTree) (b2 : TreeTree) : Option (TreeTree) :=
  (some ([a1, b2])).bind fun l4066 =>
  reduce_join_L1 kind0 l4066 n 0 ([])

def slices_Delete_reduce_edge_v1 (n : Nat) (i_1 : Int) (j2 : Int) (l0 : List ReduceEdge) : Option ((List ReduceEdge)) :=
  if 0 ≤ i_1 ∧ i_1 ≤ j2 ∧ j2 ≤ (l0.length : Int) ∧ (l0.length : Int) ≤ (l0.length : Int) then
    if (i_1 == j2) = true then
      some l0
    else
      if 0 ≤ 0 ∧ 0 ≤ i_1 ∧ i_1 ≤ (l0.length : Int) then
        if 0 ≤ j2 ∧ j2 ≤ (l0.length : Int) ∧ (l0.length : Int) ≤ (l0.length : Int) then
          if i_1.toNat + (l0.length - j2.toNat) ≤ l0.length then
            (some (l0.take i_1.toNat ++ ((l0.drop j2.toNat) ++ l0.drop (i_1.toNat + (l0.length - j2.toNat))))).bind fun l4084 =>
            if 0 ≤ (((i_1.toNat + (l0.length - j2.toNat)) : Nat) : Int) ∧ (((i_1.toNat + (l0.length - j2.toNat)) : Nat) : Int) ≤ (l0.length : Int) ∧ (l0.length : Int) ≤ l4084.length then
              if ((i_1.toNat + (l0.length - j2.toNat)) + (l0.length - (i_1.toNat + (l0.length - j2.toNat)))) ≤ l4084.length then
                some (l4084.take (i_1.toNat + (l0.length - j2.toNat)))
              else none
            else none
          else none
        else none
      else none
  else none

def reduce_parallel_v1_L1 (n : Nat) (l0 : List ReduceEdge) : Nat → Int → Option (Bool × (List ReduceEdge))
  | 0, _ => none
  | rec_n1 + 1, p4116 =>
    if (decide (p4116 < (l0.length : Int))) = true then
      (atI l0 p4116).bind fun x4126 =>
      if 0 ≤ (IntKind.i64.wrap (p4116 + 1)) ∧ (IntKind.i64.wrap (p4116 + 1)) ≤ (l0.length : Int) ∧ (l0.length : Int) ≤ (l0.length : Int) then
        (slices_IndexFunc_reduce_edge_c66_v1 n ((IntKind.i64.wrap (p4116 + 1)).toNat) l0 x4126).bind fun r4128 =>
        if (decide (r4128 ≥ 0)) = true then
          (atI l0 (IntKind.i64.wrap ((IntKind.i64.wrap (p4116 + 1)) + r4128))).bind fun x4129 =>
          (reduce_join n 2 x4126.t_ x4129.t_).bind fun r4131 =>
          (some (l0.set p4116.toNat (⟨x4126.pair, r4131⟩ : ReduceEdge))).bind fun l4132 =>
          (slices_Delete_reduce_edge_v1 n (IntKind.i64.wrap ((IntKind.i64.wrap (p4116 + 1)) + r4128)) (IntKind.i64.wrap ((IntKind.i64.wrap (p4116 + 2)) + r4128)) l4132).bind fun q4134 =>
          some (true, q4134)
        else
          (reduce_parallel_v1_L1 n l0 rec_n1) (IntKind.i64.wrap (p4116 + 1))
      else none
    else
      some (false, l0)

def reduce_parallel_v1 (n : Nat) (l0 : List ReduceEdge) : Option (Bool × (List ReduceEdge)) :=
  reduce_parallel_v1_L1 n l0 n 0

def reduce_series_v1_J2 (n : Nat) (l0 : List ReduceEdge) (p4290 : Int) (loop_1_reduce_series_v1 : Int → Option (Bool × (List ReduceEdge))) (x4325 : ReduceEdge) (p4338 : Int) (p4339 : Int) (p4340 : Int) : Option (Bool × (List ReduceEdge)) :=
  if (p4338 == 1) = true then
    if (p4339 == 1) = true then
      (atI l0 p4340).bind fun x4341 =>
      (reduce_join n 1 x4325.t_ x4341.t_).bind fun r4343 =>
      (some (l0.set p4290.toNat (⟨(⟨x4325.pair.from_, x4341.pair.to_⟩ : ReducePair), r4343⟩ : ReduceEdge))).bind fun l4344 =>
      (slices_Delete_reduce_edge_v1 n p4340 (IntKind.i64.wrap (p4340 + 1)) l4344).bind fun q4346 =>
      some (true, q4346)
    else
      loop_1_reduce_series_v1 (IntKind.i64.wrap (p4290 + 1))
  else
    loop_1_reduce_series_v1 (IntKind.i64.wrap (p4290 + 1))

def reduce_series_v1_J4 (x4325 : ReduceEdge) (p4349 : Int) (p4351 : Int) (p4354 : Int) (loop_3_reduce_series_v1 : Int → Int → Int → Int → Option (Bool × (List ReduceEdge))) (x4357 : ReduceEdge) (p4358 : Int) : Option (Bool × (List ReduceEdge)) :=
  if (decide (x4357.pair.from_ = x4325.pair.to_)) = true then
    loop_3_reduce_series_v1 (IntKind.i64.wrap (p4349 + 1)) p4358 (IntKind.i64.wrap (p4351 + 1)) p4349
  else
    loop_3_reduce_series_v1 (IntKind.i64.wrap (p4349 + 1)) p4358 p4351 p4354

def reduce_series_v1_L3 (n : Nat) (l0 : List ReduceEdge) (p4290 : Int) (loop_1_reduce_series_v1 : Int → Option (Bool × (List ReduceEdge))) (x4325 : ReduceEdge) : Nat → Int → Int → Int → Int → Option (Bool × (List ReduceEdge))
  | 0, _, _, _, _ => none
  | rec_n3 + 1, p4349, p4350, p4351, p4354 =>
    if (decide (p4349 < (l0.length : Int))) = true then
      (atI l0 p4349).bind fun x4357 =>
      if (decide (x4357.pair.to_ = x4325.pair.to_)) = true then
        reduce_series_v1_J4 x4325 p4349 p4351 p4354 (reduce_series_v1_L3 n l0 p4290 loop_1_reduce_series_v1 x4325 rec_n3) x4357 (IntKind.i64.wrap (p4350 + 1))
      else
        reduce_series_v1_J4 x4325 p4349 p4351 p4354 (reduce_series_v1_L3 n l0 p4290 loop_1_reduce_series_v1 x4325 rec_n3) x4357 p4350
    else
      reduce_series_v1_J2 n l0 p4290 loop_1_reduce_series_v1 x4325 p4350 p4351 p4354

def reduce_series_v1_L1 (n : Nat) (l0 : List ReduceEdge) : Nat → Int → Option (Bool × (List ReduceEdge))
  | 0, _ => none
  | rec_n1 + 1, p4290 =>
    if (decide (p4290 < (l0.length : Int))) = true then
      (atI l0 p4290).bind fun x4325 =>
      if (decide (x4325.pair.to_ = (⟨#[76]⟩ : Str))) = true then
        (reduce_series_v1_L1 n l0 rec_n1) (IntKind.i64.wrap (p4290 + 1))
      else
        if (decide (x4325.pair.to_ = (⟨#[82]⟩ : Str))) = true then
          (reduce_series_v1_L1 n l0 rec_n1) (IntKind.i64.wrap (p4290 + 1))
        else
          reduce_series_v1_L3 n l0 p4290 (reduce_series_v1_L1 n l0 rec_n1) x4325 n 0 0 0 0
    else
      some (false, l0)

def reduce_series_v1 (n : Nat) (l0 : List ReduceEdge) : Option (Bool × (List ReduceEdge)) :=
  reduce_series_v1_L1 n l0 n 0

def tree_Leaves_L2 (t0 : TreeTree) (slf_tree_Leaves : TreeTree → Option ((List Int))) : Nat → Int → (List Int) → Option ((List Int))
  | 0, _, _ => none
  | rec_n2 + 1, p4416, p4417 =>
    if (decide (p4416 < (t0.Kids.length : Int))) = true then
      (atI t0.Kids p4416).bind fun x4422 =>
      (slf_tree_Leaves x4422).bind fun r4424 =>
      if p4417.length + r4424.length ≤ 1000000000 then
        (some (p4417 ++ r4424)).bind fun l4425 =>
        (tree_Leaves_L2 t0 slf_tree_Leaves rec_n2) (IntKind.i64.wrap (p4416 + 1)) l4425
      else none
    else
      some p4417

def tree_Leaves_J1 (n : Nat) (t0 : TreeTree) (slf_tree_Leaves : TreeTree → Option ((List Int))) (p4412 : Bool) : Option ((List Int)) :=
  if p4412 = true then
    tree_Leaves_L2 t0 slf_tree_Leaves n 0 ([])
  else
    some ([])

def tree_Leaves : Nat → TreeTree → Option ((List Int))
  | 0, _ => none
  | n + 1, t0 =>
  if (t0.Kind == 0) = true then
    (some ([t0.N])).bind fun l4411 =>
    some l4411
  else
    if (t0.Kind == 1) = true then
      tree_Leaves_J1 n t0 (tree_Leaves n) (t0.Kind == 1)
    else
      tree_Leaves_J1 n t0 (tree_Leaves n) (t0.Kind == 2)

def slices_Min_int_L1 (x_0 : List Int) : Nat → Int → Int → Option (Int)
  | 0, _, _ => none
  | rec_n1 + 1, x4430, p4431 =>
    if (decide (p4431 < (x_0.length : Int))) = true then
      (atI x_0 p4431).bind fun x4433 =>
      (slices_Min_int_L1 x_0 rec_n1) (imin x4430 x4433) (IntKind.i64.wrap (p4431 + 1))
    else
      some x4430

def slices_Min_int (n : Nat) (x_0 : List Int) : Option (Int) :=
  if (decide ((x_0.length : Int) < 1)) = true then
    none
  else
    (atI x_0 0).bind fun x4428 =>
    slices_Min_int_L1 x_0 n x4428 1

def cmp_isNaN_int (n : Nat) (x_0 : Int) : Option (Bool) :=
  some (x_0 != x_0)

def cmp_Compare_int (n : Nat) (x_0 : Int) (y1 : Int) : Option (Int) :=
  (cmp_isNaN_int n x_0).bind fun r4441 =>
  (cmp_isNaN_int n y1).bind fun r4443 =>
  if r4441 = true then
    if r4443 = true then
      some 0
    else
      some (-1)
  else
    if r4443 = true then
      some 1
    else
      if (decide (x_0 < y1)) = true then
        some (-1)
      else
        if (decide (x_0 > y1)) = true then
          some 1
        else
          some 0

def reduce_sorted_1 (n : Nat) (a0 : TreeTree) (b1 : TreeTree) : Option (Int) :=
  (tree_Leaves n a0).bind fun r4427 =>
  (slices_Min_int n r4427).bind fun r4435 =>
  (tree_Leaves n b1).bind fun r4437 =>
  (slices_Min_int n r4437).bind fun r4439 =>
  (cmp_Compare_int n r4435 r4439).bind fun r4445 =>
  some r4445

def slices_SortFunc_tree_Tree_c70 (n : Nat) (l0 : List TreeTree) : Option (List TreeTree) := sortM (fun a b => reduce_sorted_1 n a b) l0

def reduce_sorted_J1 (n : Nat) (t0 : TreeTree) (p4400 : List TreeTree) : Option (TreeTree) :=
  if (t0.Kind == 2) = true then
    (slices_SortFunc_tree_Tree_c70 n p4400).bind fun q4447 =>
    some (⟨t0.Kind, t0.N, q4447⟩ : TreeTree)
  else
    some (⟨t0.Kind, t0.N, p4400⟩ : TreeTree)

def reduce_sorted_L2 (n : Nat) (t0 : TreeTree) (slf_reduce_sorted : TreeTree → Option (TreeTree)) : Nat → Int → (List TreeTree) → Option (TreeTree)
  | 0, _, _ => none
  | rec_n2 + 1, p4452, p4453 =>
    if (decide (p4452 < (t0.Kids.length : Int))) = true then
      (atI t0.Kids p4452).bind fun x4458 =>
      (slf_reduce_sorted x4458).bind fun r4460 =>
      if p4453.length + ([r4460]).length ≤ 1000000000 then
        (some (p4453 ++ ([r4460]))).bind fun l4461 =>
        (reduce_sorted_L2 n t0 slf_reduce_sorted rec_n2) (IntKind.i64.wrap (p4452 + 1)) l4461
      else none
    else
      reduce_sorted_J1 n t0 p4453

def reduce_sorted : Nat → TreeTree → Option (TreeTree)
  | 0, _ => none
  | n + 1, t0 =>
  reduce_sorted_L2 n t0 (reduce_sorted n) n 0 ([])

def reduce_Reduce_J2 (n : Nat) (p4376 : List ReduceEdge) : Option (TreeTree × Int) :=
  if ((p4376.length : Int) != 1) = true then
    some ((⟨0, 0, []⟩ : TreeTree), 14)
  else
    (atI p4376 0).bind fun x4377 =>
    if (!((decide (x4377.pair.from_ = (⟨#[76]⟩ : Str))) && (decide (x4377.pair.to_ = (⟨#[82]⟩ : Str))))) = true then
      some ((⟨0, 0, []⟩ : TreeTree), 14)
    else
      (reduce_sorted n x4377.t_).bind fun r4463 =>
      some (r4463, 0)

def reduce_Reduce_L3 (n : Nat) : Nat → (List ReduceEdge) → Bool → Option (TreeTree × Int)
  | 0, _, _ => none
  | rec_n3 + 1, p4470, true4471 =>
    if true4471 = true then
      (reduce_parallel_v1 n p4470).bind fun ⟨r4479, q4480⟩ =>
      (reduce_series_v1 n q4480).bind fun ⟨r4482, q4483⟩ =>
      if r4479 = true then
        (reduce_Reduce_L3 n rec_n3) q4483 true
      else
        (reduce_Reduce_L3 n rec_n3) q4483 r4482
    else
      reduce_Reduce_J2 n p4470

def reduce_Reduce_J1 (n : Nat) (p3963 : List ReduceEdge) : Option (TreeTree × Int) :=
  reduce_Reduce_L3 n n p3963 true

def reduce_Reduce_L4 (n : Nat) (_append0 : ApiRung) : Nat → Int → (List ReduceEdge) → Option (TreeTree × Int)
  | 0, _, _ => none
  | rec_n4 + 1, p4486, p4487 =>
    if (decide (p4486 < (_append0.Contacts.length : Int))) = true then
      (atI _append0.Contacts p4486).bind fun x4490 =>
      if p4487.length + ([(⟨(⟨x4490.From, x4490.To⟩ : ReducePair), (⟨0, p4486, ([] : List TreeTree)⟩ : TreeTree)⟩ : ReduceEdge)]).length ≤ 1000000000 then
        (some (p4487 ++ ([(⟨(⟨x4490.From, x4490.To⟩ : ReducePair), (⟨0, p4486, ([] : List TreeTree)⟩ : TreeTree)⟩ : ReduceEdge)]))).bind fun l4491 =>
        (reduce_Reduce_L4 n _append0 rec_n4) (IntKind.i64.wrap (p4486 + 1)) l4491
      else none
    else
      reduce_Reduce_J1 n p4487

def reduce_Reduce (n : Nat) (_append0 : ApiRung) : Option (TreeTree × Int) :=
  (flow_Check n _append0).bind fun r3954 =>
  if (r3954 != 0) = true then
    some ((⟨0, 0, []⟩ : TreeTree), r3954)
  else
    reduce_Reduce_L4 n _append0 n 0 ([])

def strconv_Itoa (n : Nat) (i : Int) : Option Str := if 0 ≤ i ∧ i < 100 then some (dec2 i.toNat) else none

def strings_Join (n : Nat) (l : List Str) (sep : Str) : Option Str := if l.length ≤ 140737488355328 ∧ (joinS l sep).size ≤ 140737488355328 then some (joinS l sep) else none

def tree_Format_J2 (n : Nat) (p4531 : List Str) : Option (Str) :=
  (strings_Join n p4531 (⟨#[32]⟩ : Str)).bind fun r4533 =>
  if (Utf8.encode 0).size + r4533.size ≤ 1000000000 then
    if ((Utf8.encode 0) ++ r4533).size + (Utf8.encode 0).size ≤ 1000000000 then
      some (((Utf8.encode 0) ++ r4533) ++ (Utf8.encode 0))
    else none
  else none

def tree_Format_L3 (n : Nat) (t0 : TreeTree) (slf_tree_Format : TreeTree → Option (Str)) : Nat → Int → (List Str) → Option (Str)
  | 0, _, _ => none
  | rec_n3 + 1, p4538, p4539 =>
    if (decide (p4538 < (t0.Kids.length : Int))) = true then
      (atI t0.Kids p4538).bind fun x4544 =>
      (slf_tree_Format x4544).bind fun r4546 =>
      if p4539.length + ([r4546]).length ≤ 1000000000 then
        (some (p4539 ++ ([r4546]))).bind fun l4547 =>
        (tree_Format_L3 n t0 slf_tree_Format rec_n3) (IntKind.i64.wrap (p4538 + 1)) l4547
      else none
    else
      tree_Format_J2 n p4539

def tree_Format_J4 (n : Nat) (p4562 : List Str) : Option (Str) :=
  (strings_Join n p4562 (⟨#[32]⟩ : Str)).bind fun r4564 =>
  if (Utf8.encode 91).size + r4564.size ≤ 1000000000 then
    if ((Utf8.encode 91) ++ r4564).size + (Utf8.encode 93).size ≤ 1000000000 then
      some (((Utf8.encode 91) ++ r4564) ++ (Utf8.encode 93))
    else none
  else none

def tree_Format_L5 (n : Nat) (t0 : TreeTree) (slf_tree_Format : TreeTree → Option (Str)) : Nat → Int → (List Str) → Option (Str)
  | 0, _, _ => none
  | rec_n5 + 1, p4569, p4570 =>
    if (decide (p4569 < (t0.Kids.length : Int))) = true then
      (atI t0.Kids p4569).bind fun x4575 =>
      (slf_tree_Format x4575).bind fun r4577 =>
      if p4570.length + ([r4577]).length ≤ 1000000000 then
        (some (p4570 ++ ([r4577]))).bind fun l4578 =>
        (tree_Format_L5 n t0 slf_tree_Format rec_n5) (IntKind.i64.wrap (p4569 + 1)) l4578
      else none
    else
      tree_Format_J4 n p4570

def tree_Format_J6 (n : Nat) (p4593 : List Str) : Option (Str) :=
  (strings_Join n p4593 (⟨#[32]⟩ : Str)).bind fun r4595 =>
  if (Utf8.encode 123).size + r4595.size ≤ 1000000000 then
    if ((Utf8.encode 123) ++ r4595).size + (Utf8.encode 125).size ≤ 1000000000 then
      some (((Utf8.encode 123) ++ r4595) ++ (Utf8.encode 125))
    else none
  else none

def tree_Format_L7 (n : Nat) (t0 : TreeTree) (slf_tree_Format : TreeTree → Option (Str)) : Nat → Int → (List Str) → Option (Str)
  | 0, _, _ => none
  | rec_n7 + 1, p4600, p4601 =>
    if (decide (p4600 < (t0.Kids.length : Int))) = true then
      (atI t0.Kids p4600).bind fun x4606 =>
      (slf_tree_Format x4606).bind fun r4608 =>
      if p4601.length + ([r4608]).length ≤ 1000000000 then
        (some (p4601 ++ ([r4608]))).bind fun l4609 =>
        (tree_Format_L7 n t0 slf_tree_Format rec_n7) (IntKind.i64.wrap (p4600 + 1)) l4609
      else none
    else
      tree_Format_J6 n p4601

def tree_Format_J1 (n : Nat) (t0 : TreeTree) (slf_tree_Format : TreeTree → Option (Str)) : Option (Str) :=
  if t0.Kind = 0 then
    tree_Format_L3 n t0 slf_tree_Format n 0 ([])
  else
    if t0.Kind = 1 then
      tree_Format_L5 n t0 slf_tree_Format n 0 ([])
    else
      if t0.Kind = 2 then
        tree_Format_L7 n t0 slf_tree_Format n 0 ([])
      else
        none

def tree_Format : Nat → TreeTree → Option (Str)
  | 0, _ => none
  | n + 1, t0 =>
  if (t0.Kind == 0) = true then
    (strconv_Itoa n t0.N).bind fun r4516 =>
    some r4516
  else
    if (t0.Kind != 1) = true then
      if (t0.Kind != 2) = true then
        some (⟨#[]⟩ : Str)
      else
        tree_Format_J1 n t0 (tree_Format n)
    else
      tree_Format_J1 n t0 (tree_Format n)

def law15_alive (n : Nat) : Option (Bool) :=
  (some ([(⟨#[76]⟩ : Str), (⟨#[97]⟩ : Str), (⟨#[97]⟩ : Str), (⟨#[82]⟩ : Str), (⟨#[76]⟩ : Str), (⟨#[82]⟩ : Str)])).bind fun l16 =>
  (law15_rung n l16).bind fun r35 =>
  (reduce_Reduce n r35).bind fun ⟨r4493, r4494⟩ =>
  (some ([(⟨#[76]⟩ : Str), (⟨#[97]⟩ : Str), (⟨#[97]⟩ : Str), (⟨#[82]⟩ : Str), (⟨#[76]⟩ : Str), (⟨#[98]⟩ : Str), (⟨#[98]⟩ : Str), (⟨#[82]⟩ : Str), (⟨#[97]⟩ : Str), (⟨#[98]⟩ : Str)])).bind fun l4495 =>
  (law15_rung n l4495).bind fun r4497 =>
  (reduce_Reduce n r4497).bind fun ⟨r4499, r4500⟩ =>
  if (r4494 == 0) = true then
    (tree_Format n r4493).bind fun r4611 =>
    if (decide (r4611 = (⟨#[123, 91, 48, 32, 49, 93, 32, 50, 125]⟩ : Str))) = true then
      some (r4500 == 14)
    else
      some false
  else
    some false

def law14_Of_L1 (t0 : TreeTree) (slf_law14_Of : TreeTree → Option (Ref14Tree)) : Nat → Int → (List Ref14Tree) → Option (Ref14Tree)
  | 0, _, _ => none
  | rec_n1 + 1, p4630, p4631 =>
    if (decide (p4630 < (t0.Kids.length : Int))) = true then
      (atI t0.Kids p4630).bind fun x4636 =>
      (slf_law14_Of x4636).bind fun r4638 =>
      if p4631.length + ([r4638]).length ≤ 1000000000 then
        (some (p4631 ++ ([r4638]))).bind fun l4639 =>
        (law14_Of_L1 t0 slf_law14_Of rec_n1) (IntKind.i64.wrap (p4630 + 1)) l4639
      else none
    else
      some (⟨t0.Kind, t0.N, p4631⟩ : Ref14Tree)

def law14_Of : Nat → TreeTree → Option (Ref14Tree)
  | 0, _ => none
  | n + 1, t0 =>
  law14_Of_L1 t0 (law14_Of n) n 0 ([])

def ref14_Leaves_L2 (t0 : Ref14Tree) (slf_ref14_Leaves : Ref14Tree → Option ((List Int))) : Nat → (List Int) → Int → Option ((List Int))
  | 0, _, _ => none
  | rec_n2 + 1, p4657, p4658 =>
    if (decide (p4658 < (t0.Kids.length : Int))) = true then
      (atI t0.Kids p4658).bind fun x4663 =>
      (slf_ref14_Leaves x4663).bind fun r4665 =>
      if p4657.length + r4665.length ≤ 1000000000 then
        (some (p4657 ++ r4665)).bind fun l4666 =>
        (ref14_Leaves_L2 t0 slf_ref14_Leaves rec_n2) l4666 (IntKind.i64.wrap (p4658 + 1))
      else none
    else
      some p4657

def ref14_Leaves_J1 (n : Nat) (t0 : Ref14Tree) (slf_ref14_Leaves : Ref14Tree → Option ((List Int))) : Option ((List Int)) :=
  ref14_Leaves_L2 t0 slf_ref14_Leaves n ([]) 0

def ref14_Leaves : Nat → Ref14Tree → Option ((List Int))
  | 0, _ => none
  | n + 1, t0 =>
  if (t0.Kind == 0) = true then
    (some ([t0.N])).bind fun l4653 =>
    some l4653
  else
    if (t0.Kind != 1) = true then
      if (t0.Kind != 2) = true then
        some ([])
      else
        ref14_Leaves_J1 n t0 (ref14_Leaves n)
    else
      ref14_Leaves_J1 n t0 (ref14_Leaves n)

def tree_Tree_check_1 (n : Nat) (k0 : TreeTree) (b0 : TreeTree) : Option (Bool) :=
  some (k0.Kind == b0.Kind)

def slices_IndexFunc_tree_Tree_c92_L1 (n : Nat) (s0 : List TreeTree) (b0 : TreeTree) : Nat → Int → Option (Int)
  | 0, _ => none
  | rec_n1 + 1, p4684 =>
    if (decide (p4684 < (s0.length : Int))) = true then
      (atI s0 p4684).bind fun x4688 =>
      (tree_Tree_check_1 n x4688 b0).bind fun r4690 =>
      if r4690 = true then
        some p4684
      else
        (slices_IndexFunc_tree_Tree_c92_L1 n s0 b0 rec_n1) (IntKind.i64.wrap (p4684 + 1))
    else
      some (-1)

def slices_IndexFunc_tree_Tree_c92 (n : Nat) (s0 : List TreeTree) (b0 : TreeTree) : Option (Int) :=
  slices_IndexFunc_tree_Tree_c92_L1 n s0 b0 n 0

def slices_ContainsFunc_tree_Tree_c92 (n : Nat) (s0 : List TreeTree) (b0 : TreeTree) : Option (Bool) :=
  (slices_IndexFunc_tree_Tree_c92 n s0 b0).bind fun r4694 =>
  some (decide (r4694 ≥ 0))

def tree_Tree_check_L2 (_append0 : TreeTree) (a1 : Int) (slf_tree_Tree_check : TreeTree → Int → (List (Int × Bool)) → Option (Int × (List (Int × Bool)))) : Nat → (List (Int × Bool)) → Int → Option (Int × (List (Int × Bool)))
  | 0, _, _ => none
  | rec_n2 + 1, m4737, p4738 =>
    if (decide (p4738 < (_append0.Kids.length : Int))) = true then
      (atI _append0.Kids p4738).bind fun x4743 =>
      (slf_tree_Tree_check x4743 a1 m4737).bind fun ⟨r4745, q4746⟩ =>
      if (r4745 != 0) = true then
        some (r4745, q4746)
      else
        (tree_Tree_check_L2 _append0 a1 slf_tree_Tree_check rec_n2) q4746 (IntKind.i64.wrap (p4738 + 1))
    else
      some (0, m4737)

def tree_Tree_check_J1 (n : Nat) (_append0 : TreeTree) (a1 : Int) (m0 : List (Int × Bool)) (slf_tree_Tree_check : TreeTree → Int → (List (Int × Bool)) → Option (Int × (List (Int × Bool)))) : Option (Int × (List (Int × Bool))) :=
  tree_Tree_check_L2 _append0 a1 slf_tree_Tree_check n m0 0

def tree_Tree_check : Nat → TreeTree → Int → (List (Int × Bool)) → Option (Int × (List (Int × Bool)))
  | 0, _, _, _ => none
  | n + 1, _append0, a1, m0 =>
  if (decide (_append0.Kind < 0)) = true then
    some (8, m0)
  else
    if (decide (_append0.Kind > 2)) = true then
      some (8, m0)
    else
      if (_append0.Kind == 0) = true then
        if (decide ((_append0.Kids.length : Int) > 0)) = true then
          some (2, m0)
        else
          if (_append0.Kind != 0) = true then
            if (_append0.N != 0) = true then
              some (2, m0)
            else
              if (decide (_append0.N < 0)) = true then
                some (3, m0)
              else
                if (decide (_append0.N ≥ a1)) = true then
                  some (3, m0)
                else
                  if ((mGet m0 _append0.N).getD false) = true then
                    some (9, m0)
                  else
                    some (0, (mPut m0 _append0.N true))
          else
            if (decide (_append0.N < 0)) = true then
              some (3, m0)
            else
              if (decide (_append0.N ≥ a1)) = true then
                some (3, m0)
              else
                if ((mGet m0 _append0.N).getD false) = true then
                  some (9, m0)
                else
                  some (0, (mPut m0 _append0.N true))
      else
        if (_append0.Kind != 0) = true then
          if (_append0.N != 0) = true then
            some (2, m0)
          else
            if (decide ((_append0.Kids.length : Int) < 2)) = true then
              some (5, m0)
            else
              (slices_ContainsFunc_tree_Tree_c92 n _append0.Kids _append0).bind fun r4748 =>
              if r4748 = true then
                some (14, m0)
              else
                tree_Tree_check_J1 n _append0 a1 m0 (tree_Tree_check n)
        else
          if (decide ((_append0.Kids.length : Int) < 2)) = true then
            some (5, m0)
          else
            (slices_ContainsFunc_tree_Tree_c92 n _append0.Kids _append0).bind fun r4750 =>
            if r4750 = true then
              some (14, m0)
            else
              tree_Tree_check_J1 n _append0 a1 m0 (tree_Tree_check n)

def tree_Check (n : Nat) (t0 : TreeTree) (many1 : Int) : Option (Int) :=
  (tree_Tree_check n t0 many1 ([])).bind fun ⟨r4752, q4753⟩ =>
  if (r4752 == 0) = true then
    if (((q4753.length : Nat) : Int) != (imax 0 many1)) = true then
      some 4
    else
      some r4752
  else
    some r4752

def slices_Clone_api_Contact_o0 (n : Nat) (s0 : List ApiContact) : Option ((List ApiContact)) :=
  isnilM s0 (
    some ([])) (
    if s0.length ≤ 1000000000 then
      some s0
    else none)

def reduce_Expand_1_c56_v1_L1 (_append0 : TreeTree) (a1 : ReducePair) (slf_reduce_Expand_1_c56_v1 : TreeTree → ReducePair → (List ApiContact) → Int → Option ((List ApiContact) × Int)) : Nat → (List ApiContact) → Int → Int → Option ((List ApiContact) × Int)
  | 0, _, _, _ => none
  | rec_n1 + 1, l5023, b5024, p5025 =>
    if (decide (p5025 < (_append0.Kids.length : Int))) = true then
      (atI _append0.Kids p5025).bind fun x5030 =>
      (slf_reduce_Expand_1_c56_v1 x5030 a1 l5023 b5024).bind fun ⟨q5032, q5033⟩ =>
      (reduce_Expand_1_c56_v1_L1 _append0 a1 slf_reduce_Expand_1_c56_v1 rec_n1) q5032 q5033 (IntKind.i64.wrap (p5025 + 1))
    else
      some (l5023, b5024)

def reduce_Expand_1_c56_v1_J2 (_append0 : TreeTree) (a1 : ReducePair) (slf_reduce_Expand_1_c56_v1 : TreeTree → ReducePair → (List ApiContact) → Int → Option ((List ApiContact) × Int)) (l5057 : List ApiContact) (b5058 : Int) (p5059 : Str) : Option ((List ApiContact) × Int) :=
  (atI _append0.Kids (IntKind.i64.wrap ((_append0.Kids.length : Int) - 1))).bind fun x5060 =>
  (slf_reduce_Expand_1_c56_v1 x5060 (⟨p5059, a1.to_⟩ : ReducePair) l5057 b5058).bind fun ⟨q5062, q5063⟩ =>
  some (q5062, q5063)

def reduce_Expand_1_c56_v1_L3 (n : Nat) (_append0 : TreeTree) (a1 : ReducePair) (slf_reduce_Expand_1_c56_v1 : TreeTree → ReducePair → (List ApiContact) → Int → Option ((List ApiContact) × Int)) (l5064 : List TreeTree) : Nat → (List ApiContact) → Int → Int → Str → Option ((List ApiContact) × Int)
  | 0, _, _, _, _ => none
  | rec_n3 + 1, l5071, b5072, p5073, p5074 =>
    if (decide (p5073 < (l5064.length : Int))) = true then
      (atI l5064 p5073).bind fun x5081 =>
      (strconv_Itoa n (IntKind.i64.wrap (b5072 + 1))).bind fun r5083 =>
      if (⟨#[110]⟩ : Str).size + r5083.size ≤ 1000000000 then
        (slf_reduce_Expand_1_c56_v1 x5081 (⟨p5074, ((⟨#[110]⟩ : Str) ++ r5083)⟩ : ReducePair) l5071 (IntKind.i64.wrap (b5072 + 1))).bind fun ⟨q5085, q5086⟩ =>
        (reduce_Expand_1_c56_v1_L3 n _append0 a1 slf_reduce_Expand_1_c56_v1 l5064 rec_n3) q5085 q5086 (IntKind.i64.wrap (p5073 + 1)) ((⟨#[110]⟩ : Str) ++ r5083)
      else none
    else
      reduce_Expand_1_c56_v1_J2 _append0 a1 slf_reduce_Expand_1_c56_v1 l5071 b5072 p5074

def reduce_Expand_1_c56_v1 : Nat → TreeTree → ReducePair → (List ApiContact) → Int → Option ((List ApiContact) × Int)
  | 0, _, _, _, _ => none
  | n + 1, _append0, a1, l1, b3 =>
  if (_append0.Kind == 0) = true then
    (atI l1 _append0.N).bind fun x5015 =>
    (some (l1.set _append0.N.toNat (⟨x5015.Kind, x5015.A, a1.from_, x5015.To⟩ : ApiContact))).bind fun l5016 =>
    (atI l5016 _append0.N).bind fun x5017 =>
    (some (l5016.set _append0.N.toNat (⟨x5017.Kind, x5017.A, x5017.From, a1.to_⟩ : ApiContact))).bind fun l5018 =>
    some (l5018, b3)
  else
    if (_append0.Kind == 2) = true then
      reduce_Expand_1_c56_v1_L1 _append0 a1 (reduce_Expand_1_c56_v1 n) n l1 b3 0
    else
      if 0 ≤ 0 ∧ 0 ≤ (IntKind.i64.wrap ((_append0.Kids.length : Int) - 1)) ∧ (IntKind.i64.wrap ((_append0.Kids.length : Int) - 1)) ≤ (_append0.Kids.length : Int) then
        (some (_append0.Kids.take (IntKind.i64.wrap ((_append0.Kids.length : Int) - 1)).toNat)).bind fun l5064 =>
        reduce_Expand_1_c56_v1_L3 n _append0 a1 (reduce_Expand_1_c56_v1 n) l5064 n l1 b3 0 a1.from_
      else none

def reduce_Expand (n : Nat) (t0 : TreeTree) (l1 : List ApiContact) : Option (ApiRung × Int) :=
  (tree_Check n t0 (l1.length : Int)).bind fun r4786 =>
  if (r4786 != 0) = true then
    some ((⟨(⟨#[]⟩ : Str), [], [], (⟨#[]⟩ : Str)⟩ : ApiRung), r4786)
  else
    (slices_Clone_api_Contact_o0 n l1).bind fun r4792 =>
    (reduce_Expand_1_c56_v1 n t0 (⟨(⟨#[76]⟩ : Str), (⟨#[82]⟩ : Str)⟩ : ReducePair) r4792 0).bind fun ⟨q5088, q5089⟩ =>
    some ((⟨(⟨#[]⟩ : Str), q5088, [], (⟨#[]⟩ : Str)⟩ : ApiRung), 0)

def ref15_least_L1 (r5171 : List Int) : Nat → Int → Int → Option (Int)
  | 0, _, _ => none
  | rec_n1 + 1, p5173, x5175 =>
    if (decide (p5173 < (r5171.length : Int))) = true then
      (atI r5171 p5173).bind fun x5177 =>
      if (decide (x5177 < x5175)) = true then
        (ref15_least_L1 r5171 rec_n1) (IntKind.i64.wrap (p5173 + 1)) x5177
      else
        (ref15_least_L1 r5171 rec_n1) (IntKind.i64.wrap (p5173 + 1)) x5175
    else
      some x5175

def ref15_least (n : Nat) (t0 : Ref14Tree) : Option (Int) :=
  (ref14_Leaves n t0).bind fun r5171 =>
  (atI r5171 0).bind fun x5172 =>
  ref15_least_L1 r5171 n 0 x5172

def ref15_join_J3 (p5162 : List Ref14Tree) (p5167 : List Ref14Tree) (p5168 : Int) (loop_2_ref15_join : (List Ref14Tree) → Int → Option (Ref14Tree)) (p5257 : Int) : Option (Ref14Tree) :=
  if 0 ≤ 0 ∧ 0 ≤ p5257 ∧ p5257 ≤ (p5167.length : Int) then
    if (p5167.take p5257.toNat).length ≤ 1000000000 then
      (some (p5167.take p5257.toNat)).bind fun l5258 =>
      (atI p5162 p5168).bind fun x5259 =>
      if l5258.length + ([x5259]).length ≤ 1000000000 then
        (some (l5258 ++ ([x5259]))).bind fun l5260 =>
        if 0 ≤ p5257 ∧ p5257 ≤ (p5167.length : Int) ∧ (p5167.length : Int) ≤ (p5167.length : Int) then
          if l5260.length + (p5167.drop p5257.toNat).length ≤ 1000000000 then
            (some (l5260 ++ (p5167.drop p5257.toNat))).bind fun l5261 =>
            loop_2_ref15_join l5261 (IntKind.i64.wrap (p5168 + 1))
          else none
        else none
      else none
    else none
  else none

def ref15_join_L4 (n : Nat) (p5162 : List Ref14Tree) (p5167 : List Ref14Tree) (p5168 : Int) (loop_2_ref15_join : (List Ref14Tree) → Int → Option (Ref14Tree)) : Nat → Int → Option (Ref14Tree)
  | 0, _ => none
  | rec_n4 + 1, p5268 =>
    if (decide (p5268 < (p5167.length : Int))) = true then
      (atI p5167 p5268).bind fun x5275 =>
      (ref15_least n x5275).bind fun r5277 =>
      (atI p5162 p5168).bind fun x5278 =>
      (ref15_least n x5278).bind fun r5280 =>
      if (decide (r5277 < r5280)) = true then
        (ref15_join_L4 n p5162 p5167 p5168 loop_2_ref15_join rec_n4) (IntKind.i64.wrap (p5268 + 1))
      else
        ref15_join_J3 p5162 p5167 p5168 loop_2_ref15_join p5268
    else
      ref15_join_J3 p5162 p5167 p5168 loop_2_ref15_join p5268

def ref15_join_L2 (n : Nat) (p5162 : List Ref14Tree) : Nat → (List Ref14Tree) → Int → Option (Ref14Tree)
  | 0, _, _ => none
  | rec_n2 + 1, p5167, p5168 =>
    if (decide (p5168 < (p5162.length : Int))) = true then
      ref15_join_L4 n p5162 p5167 p5168 (ref15_join_L2 n p5162 rec_n2) n 0
    else
      some (⟨2, 0, p5167⟩ : Ref14Tree)

def ref15_join_J1 (n : Nat) (_append0 : Int) (p5162 : List Ref14Tree) : Option (Ref14Tree) :=
  if (_append0 == 1) = true then
    some (⟨1, 0, p5162⟩ : Ref14Tree)
  else
    ref15_join_L2 n p5162 n ([]) 0

def ref15_join_L5 (n : Nat) (_append0 : Int) (l5151 : List Ref14Tree) : Nat → (List Ref14Tree) → Int → Option (Ref14Tree)
  | 0, _, _ => none
  | rec_n5 + 1, p5283, p5284 =>
    if (decide (p5284 < 2)) = true then
      (atI l5151 p5284).bind fun x5288 =>
      if (x5288.Kind == _append0) = true then
        if p5283.length + x5288.Kids.length ≤ 1000000000 then
          (some (p5283 ++ x5288.Kids)).bind fun l5289 =>
          (ref15_join_L5 n _append0 l5151 rec_n5) l5289 (IntKind.i64.wrap (p5284 + 1))
        else none
      else
        if p5283.length + ([x5288]).length ≤ 1000000000 then
          (some (p5283 ++ ([x5288]))).bind fun l5290 =>
          (ref15_join_L5 n _append0 l5151 rec_n5) l5290 (IntKind.i64.wrap (p5284 + 1))
        else none
    else
      ref15_join_J1 n _append0 p5283

def ref15_join (n : Nat) (_append0 : Int) (a1 : Ref14Tree) (a2 : Ref14Tree) : Option (Ref14Tree) :=
  (some ([a1, a2])).bind fun l5151 =>
  ref15_join_L5 n _append0 l5151 n ([]) 0

def ref15_Sorted_L2 (n : Nat) (p5126 : List Ref14Tree) : Nat → Int → Int → (List Ref14Tree) → Int → Option (Ref14Tree)
  | 0, _, _, _, _ => none
  | rec_n2 + 1, p5296, p5297, p5298, p5299 =>
    if (decide (p5299 < (p5126.length : Int))) = true then
      (atI p5126 p5299).bind fun x5303 =>
      (ref15_join n 2 (⟨p5296, p5297, p5298⟩ : Ref14Tree) x5303).bind fun r5305 =>
      (ref15_Sorted_L2 n p5126 rec_n2) r5305.Kind r5305.N r5305.Kids (IntKind.i64.wrap (p5299 + 1))
    else
      some (⟨p5296, p5297, p5298⟩ : Ref14Tree)

def ref15_Sorted_J1 (n : Nat) (t0 : Ref14Tree) (p5126 : List Ref14Tree) : Option (Ref14Tree) :=
  if (t0.Kind == 1) = true then
    some (⟨1, 0, p5126⟩ : Ref14Tree)
  else
    (atI p5126 0).bind fun x5127 =>
    (atI p5126 1).bind fun x5128 =>
    (ref15_join n 2 x5127 x5128).bind fun r5292 =>
    ref15_Sorted_L2 n p5126 n r5292.Kind r5292.N r5292.Kids 2

def ref15_Sorted_L3 (n : Nat) (t0 : Ref14Tree) (slf_ref15_Sorted : Ref14Tree → Option (Ref14Tree)) : Nat → (List Ref14Tree) → Int → Option (Ref14Tree)
  | 0, _, _ => none
  | rec_n3 + 1, p5310, p5311 =>
    if (decide (p5311 < (t0.Kids.length : Int))) = true then
      (atI t0.Kids p5311).bind fun x5316 =>
      (slf_ref15_Sorted x5316).bind fun r5318 =>
      if p5310.length + ([r5318]).length ≤ 1000000000 then
        (some (p5310 ++ ([r5318]))).bind fun l5319 =>
        (ref15_Sorted_L3 n t0 slf_ref15_Sorted rec_n3) l5319 (IntKind.i64.wrap (p5311 + 1))
      else none
    else
      ref15_Sorted_J1 n t0 p5310

def ref15_Sorted : Nat → Ref14Tree → Option (Ref14Tree)
  | 0, _ => none
  | n + 1, t0 =>
  if (t0.Kind == 0) = true then
    some t0
  else
    ref15_Sorted_L3 n t0 (ref15_Sorted n) n ([]) 0

def slices_EqualFunc_tree_Tree_c35_L1 (s10 : List TreeTree) (s21 : List TreeTree) (slf_tree_Equal : TreeTree → TreeTree → Option (Bool)) : Nat → Int → Option (Bool)
  | 0, _ => none
  | rec_n1 + 1, p5328 =>
    if (decide (p5328 < (s10.length : Int))) = true then
      (atI s10 p5328).bind fun x5333 =>
      (atI s21 p5328).bind fun x5334 =>
      (slf_tree_Equal x5333 x5334).bind fun r5336 =>
      if (!r5336) = true then
        some false
      else
        (slices_EqualFunc_tree_Tree_c35_L1 s10 s21 slf_tree_Equal rec_n1) (IntKind.i64.wrap (p5328 + 1))
    else
      some true

def slices_EqualFunc_tree_Tree_c35 (slf_tree_Equal : TreeTree → TreeTree → Option (Bool)) (n : Nat) (s10 : List TreeTree) (s21 : List TreeTree) : Option (Bool) :=
  if ((s10.length : Int) != (s21.length : Int)) = true then
    some false
  else
    slices_EqualFunc_tree_Tree_c35_L1 s10 s21 slf_tree_Equal n 0

def tree_Equal : Nat → TreeTree → TreeTree → Option (Bool)
  | 0, _, _ => none
  | n + 1, a0, b1 =>
  if (a0.Kind == b1.Kind) = true then
    if (a0.N == b1.N) = true then
      (slices_EqualFunc_tree_Tree_c35 (tree_Equal n) n a0.Kids b1.Kids).bind fun r5338 =>
      some r5338
    else
      some false
  else
    some false

def ref14_Equal_L1 (a0 : Ref14Tree) (b1 : Ref14Tree) (slf_ref14_Equal : Ref14Tree → Ref14Tree → Option (Bool)) : Nat → Int → Option (Bool)
  | 0, _ => none
  | rec_n1 + 1, p5347 =>
    if (decide (p5347 < (a0.Kids.length : Int))) = true then
      (atI a0.Kids p5347).bind fun x5352 =>
      (atI b1.Kids p5347).bind fun x5353 =>
      (slf_ref14_Equal x5352 x5353).bind fun r5355 =>
      if (!r5355) = true then
        some false
      else
        (ref14_Equal_L1 a0 b1 slf_ref14_Equal rec_n1) (IntKind.i64.wrap (p5347 + 1))
    else
      some true

def ref14_Equal : Nat → Ref14Tree → Ref14Tree → Option (Bool)
  | 0, _, _ => none
  | n + 1, a0, b1 =>
  if (a0.Kind != b1.Kind) = true then
    some false
  else
    if (a0.N != b1.N) = true then
      some false
    else
      if ((a0.Kids.length : Int) != (b1.Kids.length : Int)) = true then
        some false
      else
        ref14_Equal_L1 a0 b1 (ref14_Equal n) n 0

def law15_ReduceInvertsExpand_J1 (n : Nat) (_append0 : TreeTree) (l4773 : List ApiContact) : Option (Bool) :=
  (reduce_Expand n _append0 l4773).bind fun ⟨r5091, r5092⟩ =>
  (reduce_Reduce n r5091).bind fun ⟨r5094, r5095⟩ =>
  (reduce_Expand n r5094 l4773).bind fun ⟨r5097, r5098⟩ =>
  (reduce_Reduce n r5097).bind fun ⟨r5100, r5101⟩ =>
  (law14_Of n _append0).bind fun r5103 =>
  (ref15_Sorted n r5103).bind fun r5321 =>
  (law15_alive n ).bind fun r5323 =>
  if r5323 = true then
    if (r5092 == 0) = true then
      if (r5095 == 0) = true then
        if (r5098 == 0) = true then
          if (r5101 == 0) = true then
            (tree_Equal n r5094 r5100).bind fun r5340 =>
            if r5340 = true then
              (law14_Of n r5094).bind fun r5342 =>
              (ref14_Equal n r5342 r5321).bind fun r5357 =>
              some r5357
            else
              some false
          else
            some false
        else
          some false
      else
        some false
    else
      some false
  else
    some false

def law15_ReduceInvertsExpand_L2 (n : Nat) (_append0 : TreeTree) (a1 : Int) (r4668 : List Int) : Nat → Int → (List ApiContact) → Option (Bool)
  | 0, _, _ => none
  | rec_n2 + 1, p5360, l5361 =>
    if (decide (p5360 < (r4668.length : Int))) = true then
      (atI l5361 p5360).bind fun x5364 =>
      (some (l5361.set p5360.toNat (⟨((IntKind.i64.wrap (a1)).tmod 4), (⟨0, p5360⟩ : ApiAddr), (⟨#[]⟩ : Str), (⟨#[]⟩ : Str)⟩ : ApiContact))).bind fun l5365 =>
      (law15_ReduceInvertsExpand_L2 n _append0 a1 r4668 rec_n2) (IntKind.i64.wrap (p5360 + 1)) l5365
    else
      law15_ReduceInvertsExpand_J1 n _append0 l5361

def law15_ReduceInvertsExpand (n : Nat) (_append0 : TreeTree) (a1 : Int) : Option (Bool) :=
  (law14_TooLarge n _append0).bind fun r4615 =>
  if (decide (r4615 > 0)) = true then
    (law15_alive n ).bind fun r4617 =>
    some r4617
  else
    (law14_Of n _append0).bind fun r4641 =>
    (ref14_Leaves n r4641).bind fun r4668 =>
    if (decide ((r4668.length : Int) > 40)) = true then
      (law15_alive n ).bind fun r4759 =>
      some r4759
    else
      (tree_Check n _append0 (r4668.length : Int)).bind fun r4761 =>
      if (r4761 != 0) = true then
        (law15_alive n ).bind fun r4763 =>
        some r4763
      else
        if 0 ≤ (r4668.length : Int) ∧ (r4668.length : Int) ≤ (r4668.length : Int) ∧ (r4668.length : Int) ≤ 1000000000 then
          (some (List.replicate r4668.length (⟨0, (⟨0, 0⟩ : ApiAddr), (⟨#[]⟩ : Str), (⟨#[]⟩ : Str)⟩ : ApiContact))).bind fun l4764 =>
          law15_ReduceInvertsExpand_L2 n _append0 a1 r4668 n 0 l4764
        else none

end Go.G
