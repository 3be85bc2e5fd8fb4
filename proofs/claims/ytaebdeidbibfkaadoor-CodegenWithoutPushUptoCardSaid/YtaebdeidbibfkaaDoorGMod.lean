/- Models of functions of the program. -/
import Derived.Test.YtaebdeidbibfkaaDoorGTy
set_option linter.unusedSimpArgs false
set_option linter.unusedVariables false
set_option linter.unusedSectionVars false
namespace Go.G
open Go.Av
def law17_example (n : Nat) : Option (ApiRung) :=
  (some ([(⟨0, (⟨0, 0⟩ : ApiAddr), (⟨#[76]⟩ : Str), (⟨#[97]⟩ : Str)⟩ : ApiContact), (⟨1, (⟨0, 1⟩ : ApiAddr), (⟨#[97]⟩ : Str), (⟨#[82]⟩ : Str)⟩ : ApiContact)])).bind fun l31565 =>
  (some ([(⟨0, (⟨1, 0⟩ : ApiAddr)⟩ : ApiCoil)])).bind fun l31566 =>
  some (⟨(⟨#[]⟩ : Str), l31565, l31566, (⟨#[]⟩ : Str)⟩ : ApiRung)

def printer_sizes (n : Nat) (l0 : ApiLadder) : Option (ApiSize) :=
  some (⟨l0.I, l0.Q, l0.M, 0⟩ : ApiSize)

def addr_within (n : Nat) (n_0 : Int) (most1 : Int) : Option (Bool) :=
  if (decide (n_0 ≥ 0)) = true then
    some (decide (n_0 ≤ most1))
  else
    some false

def addr_CheckSize (n : Nat) (s0 : ApiSize) : Option (Int) :=
  (addr_within n s0.E 16384).bind fun r41956 =>
  if (!r41956) = true then
    some 3
  else
    (addr_within n s0.I 256).bind fun r41958 =>
    if (!r41958) = true then
      some 3
    else
      (addr_within n s0.Q 256).bind fun r41960 =>
      if (!r41960) = true then
        some 3
      else
        (addr_within n s0.M 256).bind fun r41962 =>
        if (!r41962) = true then
          some 3
        else
          some 0

def lex_letter (n : Nat) (c0 : Int) : Option (Bool) :=
  if (decide (c0 ≥ 97)) = true then
    if (decide (c0 ≤ 122)) = true then
      some true
    else
      if (decide (c0 ≥ 65)) = true then
        some (decide (c0 ≤ 90))
      else
        some false
  else
    if (decide (c0 ≥ 65)) = true then
      some (decide (c0 ≤ 90))
    else
      some false

def lex_IsName_L1 (n : Nat) (word0 : Str) : Nat → Nat → Option (Bool)
  | 0, _ => none
  | rec_n1 + 1, p41971 =>
    if (decide (p41971 < word0.size)) = true then
      (lex_letter n (((Utf8.decode word0 p41971).1 : Nat) : Int)).bind fun r41975 =>
      if (!r41975) = true then
        if ((p41971 : Int) == 0) = true then
          some false
        else
          if ((((Utf8.decode word0 p41971).1 : Nat) : Int) != 95) = true then
            if (decide ((((Utf8.decode word0 p41971).1 : Nat) : Int) < 48)) = true then
              some false
            else
              if (decide ((((Utf8.decode word0 p41971).1 : Nat) : Int) > 57)) = true then
                some false
              else
                (lex_IsName_L1 n word0 rec_n1) (p41971 + (Utf8.decode word0 p41971).2)
          else
            (lex_IsName_L1 n word0 rec_n1) (p41971 + (Utf8.decode word0 p41971).2)
      else
        (lex_IsName_L1 n word0 rec_n1) (p41971 + (Utf8.decode word0 p41971).2)
    else
      some true

def lex_IsName (n : Nat) (word0 : Str) : Option (Bool) :=
  if (decide (word0 = (⟨#[]⟩ : Str))) = true then
    some false
  else
    if (decide ((word0.size : Int) > 16)) = true then
      some false
    else
      lex_IsName_L1 n word0 n 0

def printer_rung_1 (n : Nat) (x_0 : ApiRung) (b0 : ApiRung) : Option (Bool) :=
  some (decide (x_0.Label = b0.Label))

def slices_IndexFunc_api_Rung_c117_L1 (n : Nat) (s0 : List ApiRung) (b0 : ApiRung) : Nat → Int → Option (Int)
  | 0, _ => none
  | rec_n1 + 1, p41991 =>
    if (decide (p41991 < (s0.length : Int))) = true then
      (atI s0 p41991).bind fun x41995 =>
      (printer_rung_1 n x41995 b0).bind fun r41997 =>
      if r41997 = true then
        some p41991
      else
        (slices_IndexFunc_api_Rung_c117_L1 n s0 b0 rec_n1) (IntKind.i64.wrap (p41991 + 1))
    else
      some (-1)

def slices_IndexFunc_api_Rung_c117 (n : Nat) (s0 : List ApiRung) (b0 : ApiRung) : Option (Int) :=
  slices_IndexFunc_api_Rung_c117_L1 n s0 b0 n 0

def slices_ContainsFunc_api_Rung_c117 (n : Nat) (s0 : List ApiRung) (b0 : ApiRung) : Option (Bool) :=
  (slices_IndexFunc_api_Rung_c117 n s0 b0).bind fun r42001 =>
  some (decide (r42001 ≥ 0))

def addr_Width (n : Nat) (s0 : ApiSize) (space1 : Int) : Option (Int) :=
  if (space1 == 0) = true then
    some s0.I
  else
    if (space1 == 1) = true then
      some s0.Q
    else
      if (space1 == 2) = true then
        some s0.M
      else
        some 0

def addr_CheckAddr (n : Nat) (s0 : ApiSize) (a1 : ApiAddr) : Option (Int) :=
  (addr_within n a1.Space 2).bind fun r42006 =>
  if (!r42006) = true then
    some 8
  else
    (addr_Width n s0 a1.Space).bind fun r42008 =>
    (addr_within n a1.N (IntKind.i64.wrap (r42008 - 1))).bind fun r42010 =>
    if (!r42010) = true then
      some 3
    else
      some 0

def printer_part (n : Nat) (s0 : ApiSize) (kind1 : Int) (a2 : ApiAddr) : Option (Int) :=
  if (decide (kind1 < 0)) = true then
    some 8
  else
    if (decide (kind1 ≥ 4)) = true then
      some 8
    else
      (addr_CheckAddr n s0 a2).bind fun r42012 =>
      some r42012

def printer_rung_J3 (n : Nat) (a2 : ApiRung) : Option (Int) :=
  if (!(decide (a2.Jump = (⟨#[]⟩ : Str)))) = true then
    (lex_IsName n a2.Jump).bind fun r42051 =>
    if (!r42051) = true then
      some 6
    else
      some 0
  else
    some 0

def printer_rung_L4 (n : Nat) (_append0 : ApiSize) (a2 : ApiRung) : Nat → Int → Option (Int)
  | 0, _ => none
  | rec_n4 + 1, p42055 =>
    if (decide (p42055 < (a2.Coils.length : Int))) = true then
      (atI a2.Coils p42055).bind fun x42059 =>
      (printer_part n _append0 x42059.Kind x42059.A).bind fun r42061 =>
      if (r42061 != 0) = true then
        some r42061
      else
        if (x42059.A.Space == 0) = true then
          some 2
        else
          (printer_rung_L4 n _append0 a2 rec_n4) (IntKind.i64.wrap (p42055 + 1))
    else
      printer_rung_J3 n a2

def printer_rung_J2 (n : Nat) (_append0 : ApiSize) (a2 : ApiRung) : Option (Int) :=
  if (decide ((a2.Coils.length : Int) > 16)) = true then
    some 10
  else
    printer_rung_L4 n _append0 a2 n 0

def printer_rung_L5 (n : Nat) (_append0 : ApiSize) (a2 : ApiRung) : Nat → Int → Option (Int)
  | 0, _ => none
  | rec_n5 + 1, p42071 =>
    if (decide (p42071 < (a2.Contacts.length : Int))) = true then
      (atI a2.Contacts p42071).bind fun x42081 =>
      (printer_part n _append0 x42081.Kind x42081.A).bind fun r42085 =>
      if (r42085 != 0) = true then
        some r42085
      else
        (lex_IsName n x42081.From).bind fun r42087 =>
        if (!r42087) = true then
          some 6
        else
          (lex_IsName n x42081.To).bind fun r42089 =>
          if (!r42089) = true then
            some 6
          else
            (printer_rung_L5 n _append0 a2 rec_n5) (IntKind.i64.wrap (p42071 + 1))
    else
      printer_rung_J2 n _append0 a2

def printer_rung_J1 (n : Nat) (_append0 : ApiSize) (a2 : ApiRung) : Option (Int) :=
  if (decide ((a2.Contacts.length : Int) > 256)) = true then
    some 10
  else
    printer_rung_L5 n _append0 a2 n 0

def printer_rung (n : Nat) (_append0 : ApiSize) (a1 : List ApiRung) (a2 : ApiRung) : Option (Int) :=
  if (!(decide (a2.Label = (⟨#[]⟩ : Str)))) = true then
    (lex_IsName n a2.Label).bind fun r42091 =>
    if (!r42091) = true then
      some 6
    else
      (slices_ContainsFunc_api_Rung_c117 n a1 a2).bind fun r42093 =>
      if r42093 = true then
        some 9
      else
        printer_rung_J1 n _append0 a2
  else
    printer_rung_J1 n _append0 a2

def printer_Check_1 (n : Nat) (x_0 : ApiRung) (b0 : ApiRung) : Option (Bool) :=
  some (decide (x_0.Label = b0.Jump))

def slices_IndexFunc_api_Rung_c90_L1 (n : Nat) (s0 : List ApiRung) (b0 : ApiRung) : Nat → Int → Option (Int)
  | 0, _ => none
  | rec_n1 + 1, p42120 =>
    if (decide (p42120 < (s0.length : Int))) = true then
      (atI s0 p42120).bind fun x42124 =>
      (printer_Check_1 n x42124 b0).bind fun r42126 =>
      if r42126 = true then
        some p42120
      else
        (slices_IndexFunc_api_Rung_c90_L1 n s0 b0 rec_n1) (IntKind.i64.wrap (p42120 + 1))
    else
      some (-1)

def slices_IndexFunc_api_Rung_c90 (n : Nat) (s0 : List ApiRung) (b0 : ApiRung) : Option (Int) :=
  slices_IndexFunc_api_Rung_c90_L1 n s0 b0 n 0

def slices_ContainsFunc_api_Rung_c90 (n : Nat) (s0 : List ApiRung) (b0 : ApiRung) : Option (Bool) :=
  (slices_IndexFunc_api_Rung_c90 n s0 b0).bind fun r42130 =>
  some (decide (r42130 ≥ 0))

def printer_Check_L2 (n : Nat) (_append0 : ApiLadder) : Nat → Int → Option (Int × Int)
  | 0, _ => none
  | rec_n2 + 1, p42133 =>
    if (decide (p42133 < (_append0.Rungs.length : Int))) = true then
      (atI _append0.Rungs p42133).bind fun x42138 =>
      if (!(decide (x42138.Jump = (⟨#[]⟩ : Str)))) = true then
        if 0 ≤ (IntKind.i64.wrap (p42133 + 1)) ∧ (IntKind.i64.wrap (p42133 + 1)) ≤ (_append0.Rungs.length : Int) ∧ (_append0.Rungs.length : Int) ≤ (_append0.Rungs.length : Int) then
          (some (_append0.Rungs.drop (IntKind.i64.wrap (p42133 + 1)).toNat)).bind fun l42139 =>
          (slices_ContainsFunc_api_Rung_c90 n l42139 x42138).bind fun r42141 =>
          if (!r42141) = true then
            some (p42133, 15)
          else
            (printer_Check_L2 n _append0 rec_n2) (IntKind.i64.wrap (p42133 + 1))
        else none
      else
        (printer_Check_L2 n _append0 rec_n2) (IntKind.i64.wrap (p42133 + 1))
    else
      some ((_append0.Rungs.length : Int), 0)

def printer_Check_J1 (n : Nat) (_append0 : ApiLadder) : Option (Int × Int) :=
  printer_Check_L2 n _append0 n 0

def printer_Check_L3 (n : Nat) (_append0 : ApiLadder) (r41954 : ApiSize) : Nat → Int → Option (Int × Int)
  | 0, _ => none
  | rec_n3 + 1, p42146 =>
    if (decide (p42146 < (_append0.Rungs.length : Int))) = true then
      (atI _append0.Rungs p42146).bind fun x42151 =>
      if 0 ≤ 0 ∧ 0 ≤ p42146 ∧ p42146 ≤ (_append0.Rungs.length : Int) then
        (some (_append0.Rungs.take p42146.toNat)).bind fun l42152 =>
        (printer_rung n r41954 l42152 x42151).bind fun r42154 =>
        if (r42154 != 0) = true then
          some (p42146, r42154)
        else
          (printer_Check_L3 n _append0 r41954 rec_n3) (IntKind.i64.wrap (p42146 + 1))
      else none
    else
      printer_Check_J1 n _append0

def printer_Check (n : Nat) (_append0 : ApiLadder) : Option (Int × Int) :=
  (printer_sizes n _append0).bind fun r41954 =>
  (addr_CheckSize n r41954).bind fun r41966 =>
  if (r41966 != 0) = true then
    some (0, 3)
  else
    if (decide ((_append0.Rungs.length : Int) > 64)) = true then
      some (0, 10)
    else
      printer_Check_L3 n _append0 r41954 n 0

def graph_Nodes_o0_L2 (p44375 : Int) (loop_1_graph_Nodes_o0 : Int → (List Str) → (List (Str × Bool)) → Option ((List Str))) (l44390 : List Str) : Nat → Int → (List Str) → (List (Str × Bool)) → Option ((List Str))
  | 0, _, _, _ => none
  | rec_n2 + 1, p44393, l44394, p44395 =>
    if (decide (p44393 < (l44390.length : Int))) = true then
      (atI l44390 p44393).bind fun x44398 =>
      if (!((mGet p44395 x44398).getD false)) = true then
        if l44394.length + ([x44398]).length ≤ 1000000000 then
          (some (l44394 ++ ([x44398]))).bind fun l44399 =>
          (graph_Nodes_o0_L2 p44375 loop_1_graph_Nodes_o0 l44390 rec_n2) (IntKind.i64.wrap (p44393 + 1)) l44399 (mPut p44395 x44398 true)
        else none
      else
        (graph_Nodes_o0_L2 p44375 loop_1_graph_Nodes_o0 l44390 rec_n2) (IntKind.i64.wrap (p44393 + 1)) l44394 p44395
    else
      loop_1_graph_Nodes_o0 (IntKind.i64.wrap (p44375 + 1)) l44394 p44395

def graph_Nodes_o0_L1 (n : Nat) (r_0 : ApiRung) : Nat → Int → (List Str) → (List (Str × Bool)) → Option ((List Str))
  | 0, _, _, _ => none
  | rec_n1 + 1, p44375, l44376, p44377 =>
    if (decide (p44375 < (r_0.Contacts.length : Int))) = true then
      (atI r_0.Contacts p44375).bind fun x44389 =>
      (some ([x44389.From, x44389.To])).bind fun l44390 =>
      graph_Nodes_o0_L2 p44375 (graph_Nodes_o0_L1 n r_0 rec_n1) l44390 n 0 l44376 p44377
    else
      some l44376

def graph_Nodes_o0 (n : Nat) (r_0 : ApiRung) : Option ((List Str)) :=
  (some ([(⟨#[76]⟩ : Str), (⟨#[82]⟩ : Str)])).bind fun l44363 =>
  graph_Nodes_o0_L1 n r_0 n 0 l44363 (mPut (mPut ([]) (⟨#[76]⟩ : Str) true) (⟨#[82]⟩ : Str) true)

def graph_Incoming_1 (n : Nat) (c0 : ApiContact) (b0 : Str) : Option (Bool) :=
  some (decide (c0.To = b0))

def graph_numbers_c99_L1 (n : Nat) (r_0 : ApiRung) (b0 : Str) : Nat → Int → (List Int) → Option ((List Int))
  | 0, _, _ => none
  | rec_n1 + 1, p44429, p44430 =>
    if (decide (p44429 < (r_0.Contacts.length : Int))) = true then
      (atI r_0.Contacts p44429).bind fun x44435 =>
      (graph_Incoming_1 n x44435 b0).bind fun r44437 =>
      if r44437 = true then
        if p44430.length + ([p44429]).length ≤ 1000000000 then
          (some (p44430 ++ ([p44429]))).bind fun l44438 =>
          (graph_numbers_c99_L1 n r_0 b0 rec_n1) (IntKind.i64.wrap (p44429 + 1)) l44438
        else none
      else
        (graph_numbers_c99_L1 n r_0 b0 rec_n1) (IntKind.i64.wrap (p44429 + 1)) p44430
    else
      some p44430

def graph_numbers_c99 (n : Nat) (r_0 : ApiRung) (b0 : Str) : Option ((List Int)) :=
  graph_numbers_c99_L1 n r_0 b0 n 0 ([])

def graph_Incoming (n : Nat) (r_0 : ApiRung) (node1 : Str) : Option ((List Int)) :=
  (graph_numbers_c99 n r_0 node1).bind fun r44440 =>
  some r44440

def graph_TopoSort_1_1 (n : Nat) (i_0 : Int) (m1 : List (Str × Bool)) (b2 : ApiRung) : Option (Bool) :=
  (atI b2.Contacts i_0).bind fun x44445 =>
  some (!((mGet m1 x44445.From).getD false))

def slices_IndexFunc_int_c75_L1 (n : Nat) (s0 : List Int) (m1 : List (Str × Bool)) (b2 : ApiRung) : Nat → Int → Option (Int)
  | 0, _ => none
  | rec_n1 + 1, p44458 =>
    if (decide (p44458 < (s0.length : Int))) = true then
      (atI s0 p44458).bind fun x44462 =>
      (graph_TopoSort_1_1 n x44462 m1 b2).bind fun r44464 =>
      if r44464 = true then
        some p44458
      else
        (slices_IndexFunc_int_c75_L1 n s0 m1 b2 rec_n1) (IntKind.i64.wrap (p44458 + 1))
    else
      some (-1)

def slices_IndexFunc_int_c75 (n : Nat) (s0 : List Int) (m1 : List (Str × Bool)) (b2 : ApiRung) : Option (Int) :=
  slices_IndexFunc_int_c75_L1 n s0 m1 b2 n 0

def slices_ContainsFunc_int_c75 (n : Nat) (s0 : List Int) (m1 : List (Str × Bool)) (b2 : ApiRung) : Option (Bool) :=
  (slices_IndexFunc_int_c75 n s0 m1 b2).bind fun r44468 =>
  some (decide (r44468 ≥ 0))

def graph_TopoSort_1 (n : Nat) (n_0 : Str) (b0 : ApiRung) (m2 : List (Str × Bool)) : Option (Bool) :=
  (graph_Incoming n b0 n_0).bind fun r44472 =>
  (slices_ContainsFunc_int_c75 n r44472 m2 b0).bind fun r44474 =>
  some (!r44474)

def slices_IndexFunc_string_c72_v1_L1 (n : Nat) (l0 : List Str) (b1 : ApiRung) (m3 : List (Str × Bool)) : Nat → Int → Option (Int)
  | 0, _ => none
  | rec_n1 + 1, p44487 =>
    if (decide (p44487 < (l0.length : Int))) = true then
      (atI l0 p44487).bind fun x44491 =>
      (graph_TopoSort_1 n x44491 b1 m3).bind fun r44493 =>
      if r44493 = true then
        some p44487
      else
        (slices_IndexFunc_string_c72_v1_L1 n l0 b1 m3 rec_n1) (IntKind.i64.wrap (p44487 + 1))
    else
      some (-1)

def slices_IndexFunc_string_c72_v1 (n : Nat) (l0 : List Str) (b1 : ApiRung) (m3 : List (Str × Bool)) : Option (Int) :=
  slices_IndexFunc_string_c72_v1_L1 n l0 b1 m3 n 0

def slices_Delete_string_v1 (n : Nat) (i_1 : Int) (j2 : Int) (l0 : List Str) : Option ((List Str)) :=
  if 0 ≤ i_1 ∧ i_1 ≤ j2 ∧ j2 ≤ (l0.length : Int) ∧ (l0.length : Int) ≤ (l0.length : Int) then
    if (i_1 == j2) = true then
      some l0
    else
      if 0 ≤ 0 ∧ 0 ≤ i_1 ∧ i_1 ≤ (l0.length : Int) then
        if 0 ≤ j2 ∧ j2 ≤ (l0.length : Int) ∧ (l0.length : Int) ≤ (l0.length : Int) then
          if i_1.toNat + (l0.length - j2.toNat) ≤ l0.length then
            (some (l0.take i_1.toNat ++ ((l0.drop j2.toNat) ++ l0.drop (i_1.toNat + (l0.length - j2.toNat))))).bind fun l44500 =>
            if 0 ≤ (((i_1.toNat + (l0.length - j2.toNat)) : Nat) : Int) ∧ (((i_1.toNat + (l0.length - j2.toNat)) : Nat) : Int) ≤ (l0.length : Int) ∧ (l0.length : Int) ≤ l44500.length then
              if ((i_1.toNat + (l0.length - j2.toNat)) + (l0.length - (i_1.toNat + (l0.length - j2.toNat)))) ≤ l44500.length then
                some (l44500.take (i_1.toNat + (l0.length - j2.toNat)))
              else none
            else none
          else none
        else none
      else none
  else none

def graph_TopoSort_L1 (n : Nat) (r_0 : ApiRung) : Nat → (List Str) → (List (Str × Bool)) → (List Str) → Option ((List Str) × Int)
  | 0, _, _, _ => none
  | rec_n1 + 1, r44503, p44504, p44505 =>
    if (decide ((r44503.length : Int) > 0)) = true then
      (slices_IndexFunc_string_c72_v1 n r44503 r_0 p44504).bind fun r44513 =>
      if (decide (r44513 < 0)) = true then
        some ([], 12)
      else
        (atI r44503 r44513).bind fun x44514 =>
        if p44505.length + ([x44514]).length ≤ 1000000000 then
          (some (p44505 ++ ([x44514]))).bind fun l44515 =>
          (slices_Delete_string_v1 n r44513 (IntKind.i64.wrap (r44513 + 1)) r44503).bind fun q44517 =>
          (graph_TopoSort_L1 n r_0 rec_n1) q44517 (mPut p44504 x44514 true) l44515
        else none
    else
      some (p44505, 0)

def graph_TopoSort (n : Nat) (r_0 : ApiRung) : Option ((List Str) × Int) :=
  (graph_Nodes_o0 n r_0).bind fun r44401 =>
  graph_TopoSort_L1 n r_0 n r44401 ([]) ([])

def slices_Index_string_L1 (s0 : List Str) (v1 : Str) : Nat → Int → Option (Int)
  | 0, _ => none
  | rec_n1 + 1, p45424 =>
    if (decide (p45424 < (s0.length : Int))) = true then
      (atI s0 p45424).bind fun x45426 =>
      if (decide (v1 = x45426)) = true then
        some p45424
      else
        (slices_Index_string_L1 s0 v1 rec_n1) (IntKind.i64.wrap (p45424 + 1))
    else
      some (-1)

def slices_Index_string (n : Nat) (s0 : List Str) (v1 : Str) : Option (Int) :=
  slices_Index_string_L1 s0 v1 n 0

def slices_Contains_string (n : Nat) (s0 : List Str) (v1 : Str) : Option (Bool) :=
  (slices_Index_string n s0 v1).bind fun r45428 =>
  some (decide (r45428 ≥ 0))

def graph_Outgoing_1 (n : Nat) (c0 : ApiContact) (b0 : Str) : Option (Bool) :=
  some (decide (c0.From = b0))

def graph_numbers_c129_L1 (n : Nat) (r_0 : ApiRung) (b0 : Str) : Nat → Int → (List Int) → Option ((List Int))
  | 0, _, _ => none
  | rec_n1 + 1, p45505, p45506 =>
    if (decide (p45505 < (r_0.Contacts.length : Int))) = true then
      (atI r_0.Contacts p45505).bind fun x45511 =>
      (graph_Outgoing_1 n x45511 b0).bind fun r45513 =>
      if r45513 = true then
        if p45506.length + ([p45505]).length ≤ 1000000000 then
          (some (p45506 ++ ([p45505]))).bind fun l45514 =>
          (graph_numbers_c129_L1 n r_0 b0 rec_n1) (IntKind.i64.wrap (p45505 + 1)) l45514
        else none
      else
        (graph_numbers_c129_L1 n r_0 b0 rec_n1) (IntKind.i64.wrap (p45505 + 1)) p45506
    else
      some p45506

def graph_numbers_c129 (n : Nat) (r_0 : ApiRung) (b0 : Str) : Option ((List Int)) :=
  graph_numbers_c129_L1 n r_0 b0 n 0 ([])

def graph_Outgoing (n : Nat) (r_0 : ApiRung) (node1 : Str) : Option ((List Int)) :=
  (graph_numbers_c129 n r_0 node1).bind fun r45516 =>
  some r45516

def graph_Reachable_1_L1 (b0 : ApiRung) (r45531 : List Int) : Nat → Int → (List Str) → Option ((List Str))
  | 0, _, _ => none
  | rec_n1 + 1, p45535, p45536 =>
    if (decide (p45535 < (r45531.length : Int))) = true then
      (atI r45531 p45535).bind fun x45540 =>
      (atI b0.Contacts x45540).bind fun x45541 =>
      if p45536.length + ([x45541.To]).length ≤ 1000000000 then
        (some (p45536 ++ ([x45541.To]))).bind fun l45542 =>
        (graph_Reachable_1_L1 b0 r45531 rec_n1) (IntKind.i64.wrap (p45535 + 1)) l45542
      else none
    else
      some p45536

def graph_Reachable_1 (n : Nat) (n_0 : Str) (b0 : ApiRung) : Option ((List Str)) :=
  (graph_Outgoing n b0 n_0).bind fun r45531 =>
  graph_Reachable_1_L1 b0 r45531 n 0 ([])

def graph_gather_1_c101_127_L1 (b3 : ApiRung) (r45563 : List Str) (slf_graph_gather_1_c101_127 : Str → (List (Str × Bool)) → ApiRung → Option ((List (Str × Bool)))) : Nat → (List (Str × Bool)) → Int → Option ((List (Str × Bool)))
  | 0, _, _ => none
  | rec_n1 + 1, p45567, p45568 =>
    if (decide (p45568 < (r45563.length : Int))) = true then
      (atI r45563 p45568).bind fun x45572 =>
      (slf_graph_gather_1_c101_127 x45572 p45567 b3).bind fun q45574 =>
      (graph_gather_1_c101_127_L1 b3 r45563 slf_graph_gather_1_c101_127 rec_n1) q45574 (IntKind.i64.wrap (p45568 + 1))
    else
      some p45567

def graph_gather_1_c101_127 : Nat → Str → (List (Str × Bool)) → ApiRung → Option ((List (Str × Bool)))
  | 0, _, _, _ => none
  | n + 1, n_0, m1, b3 =>
  if ((mGet m1 n_0).getD false) = true then
    some m1
  else
    (graph_Reachable_1 n n_0 b3).bind fun r45563 =>
    graph_gather_1_c101_127_L1 b3 r45563 (graph_gather_1_c101_127 n) n (mPut m1 n_0 true) 0

def graph_gather_2 (n : Nat) (n_0 : Str) (m1 : List (Str × Bool)) : Option (Bool) :=
  some (!((mGet m1 n_0).getD false))

def slices_IndexFunc_string_c128_v1_L1 (n : Nat) (l0 : List Str) (m2 : List (Str × Bool)) : Nat → Int → Option (Int)
  | 0, _ => none
  | rec_n1 + 1, p45612 =>
    if (decide (p45612 < (l0.length : Int))) = true then
      (atI l0 p45612).bind fun x45616 =>
      (graph_gather_2 n x45616 m2).bind fun r45618 =>
      if r45618 = true then
        some p45612
      else
        (slices_IndexFunc_string_c128_v1_L1 n l0 m2 rec_n1) (IntKind.i64.wrap (p45612 + 1))
    else
      some (-1)

def slices_IndexFunc_string_c128_v1 (n : Nat) (l0 : List Str) (m2 : List (Str × Bool)) : Option (Int) :=
  slices_IndexFunc_string_c128_v1_L1 n l0 m2 n 0

def slices_DeleteFunc_string_c128_v1_L1 (n : Nat) (m2 : List (Str × Bool)) : Nat → (List Str) → Int → Int → Option ((List Str))
  | 0, _, _, _ => none
  | rec_n1 + 1, l45647, r45648, p45649 =>
    if (decide (p45649 < (l45647.length : Int))) = true then
      (atI l45647 p45649).bind fun x45655 =>
      (graph_gather_2 n x45655 m2).bind fun r45657 =>
      if (!r45657) = true then
        (atI l45647 r45648).bind fun x45658 =>
        (some (l45647.set r45648.toNat x45655)).bind fun l45659 =>
        (slices_DeleteFunc_string_c128_v1_L1 n m2 rec_n1) l45659 (IntKind.i64.wrap (r45648 + 1)) (IntKind.i64.wrap (p45649 + 1))
      else
        (slices_DeleteFunc_string_c128_v1_L1 n m2 rec_n1) l45647 r45648 (IntKind.i64.wrap (p45649 + 1))
    else
      if 0 ≤ r45648 ∧ r45648 ≤ (l45647.length : Int) ∧ (l45647.length : Int) ≤ (l45647.length : Int) then
        if (r45648.toNat + (l45647.length - r45648.toNat)) ≤ l45647.length then
          if 0 ≤ 0 ∧ 0 ≤ r45648 ∧ r45648 ≤ (l45647.length : Int) then
            some (l45647.take r45648.toNat)
          else none
        else none
      else none

def slices_DeleteFunc_string_c128_v1 (n : Nat) (l0 : List Str) (m2 : List (Str × Bool)) : Option ((List Str)) :=
  (slices_IndexFunc_string_c128_v1 n l0 m2).bind fun r45641 =>
  if (r45641 == (-1)) = true then
    some l0
  else
    slices_DeleteFunc_string_c128_v1_L1 n m2 n l0 r45641 (IntKind.i64.wrap (r45641 + 1))

def graph_gather_c101 (n : Nat) (r_0 : ApiRung) (node1 : Str) (b0 : ApiRung) : Option ((List Str)) :=
  (graph_Nodes_o0 n r_0).bind fun r45663 =>
  (slices_Contains_string n r45663 node1).bind fun r45667 =>
  if (!r45667) = true then
    some ([])
  else
    (graph_gather_1_c101_127 n node1 ([]) b0).bind fun q45669 =>
    (slices_DeleteFunc_string_c128_v1 n r45663 q45669).bind fun q45671 =>
    some q45671

def graph_Reachable (n : Nat) (r_0 : ApiRung) (node1 : Str) : Option ((List Str)) :=
  (graph_gather_c101 n r_0 node1 r_0).bind fun r45673 =>
  some r45673

def graph_Ancestors_1_L1 (b0 : ApiRung) (r45819 : List Int) : Nat → Int → (List Str) → Option ((List Str))
  | 0, _, _ => none
  | rec_n1 + 1, p45823, p45824 =>
    if (decide (p45823 < (r45819.length : Int))) = true then
      (atI r45819 p45823).bind fun x45828 =>
      (atI b0.Contacts x45828).bind fun x45829 =>
      if p45824.length + ([x45829.From]).length ≤ 1000000000 then
        (some (p45824 ++ ([x45829.From]))).bind fun l45830 =>
        (graph_Ancestors_1_L1 b0 r45819 rec_n1) (IntKind.i64.wrap (p45823 + 1)) l45830
      else none
    else
      some p45824

def graph_Ancestors_1 (n : Nat) (n_0 : Str) (b0 : ApiRung) : Option ((List Str)) :=
  (graph_Incoming n b0 n_0).bind fun r45819 =>
  graph_Ancestors_1_L1 b0 r45819 n 0 ([])

def graph_gather_1_c103_127_L1 (b3 : ApiRung) (r45851 : List Str) (slf_graph_gather_1_c103_127 : Str → (List (Str × Bool)) → ApiRung → Option ((List (Str × Bool)))) : Nat → (List (Str × Bool)) → Int → Option ((List (Str × Bool)))
  | 0, _, _ => none
  | rec_n1 + 1, p45855, p45856 =>
    if (decide (p45856 < (r45851.length : Int))) = true then
      (atI r45851 p45856).bind fun x45860 =>
      (slf_graph_gather_1_c103_127 x45860 p45855 b3).bind fun q45862 =>
      (graph_gather_1_c103_127_L1 b3 r45851 slf_graph_gather_1_c103_127 rec_n1) q45862 (IntKind.i64.wrap (p45856 + 1))
    else
      some p45855

def graph_gather_1_c103_127 : Nat → Str → (List (Str × Bool)) → ApiRung → Option ((List (Str × Bool)))
  | 0, _, _, _ => none
  | n + 1, n_0, m1, b3 =>
  if ((mGet m1 n_0).getD false) = true then
    some m1
  else
    (graph_Ancestors_1 n n_0 b3).bind fun r45851 =>
    graph_gather_1_c103_127_L1 b3 r45851 (graph_gather_1_c103_127 n) n (mPut m1 n_0 true) 0

def graph_gather_c103 (n : Nat) (r_0 : ApiRung) (node1 : Str) (b0 : ApiRung) : Option ((List Str)) :=
  (graph_Nodes_o0 n r_0).bind fun r45868 =>
  (slices_Contains_string n r45868 node1).bind fun r45872 =>
  if (!r45872) = true then
    some ([])
  else
    (graph_gather_1_c103_127 n node1 ([]) b0).bind fun q45874 =>
    (slices_DeleteFunc_string_c128_v1 n r45868 q45874).bind fun q45876 =>
    some q45876

def graph_Ancestors (n : Nat) (r_0 : ApiRung) (node1 : Str) : Option ((List Str)) :=
  (graph_gather_c103 n r_0 node1 r_0).bind fun r45878 =>
  some r45878

def flow_DeadNodes_1 (n : Nat) (n_0 : Str) (b0 : List Str) (b1 : List Str) : Option (Bool) :=
  (slices_Contains_string n b0 n_0).bind fun r45919 =>
  if r45919 = true then
    (slices_Contains_string n b1 n_0).bind fun r45921 =>
    some r45921
  else
    some false

def slices_IndexFunc_string_c80_v1_L1 (n : Nat) (l0 : List Str) (b1 : List Str) (b2 : List Str) : Nat → Int → Option (Int)
  | 0, _ => none
  | rec_n1 + 1, p45934 =>
    if (decide (p45934 < (l0.length : Int))) = true then
      (atI l0 p45934).bind fun x45938 =>
      (flow_DeadNodes_1 n x45938 b1 b2).bind fun r45940 =>
      if r45940 = true then
        some p45934
      else
        (slices_IndexFunc_string_c80_v1_L1 n l0 b1 b2 rec_n1) (IntKind.i64.wrap (p45934 + 1))
    else
      some (-1)

def slices_IndexFunc_string_c80_v1 (n : Nat) (l0 : List Str) (b1 : List Str) (b2 : List Str) : Option (Int) :=
  slices_IndexFunc_string_c80_v1_L1 n l0 b1 b2 n 0

def slices_DeleteFunc_string_c80_L1 (n : Nat) (b1 : List Str) (b2 : List Str) : Nat → (List Str) → Int → Int → Option ((List Str))
  | 0, _, _, _ => none
  | rec_n1 + 1, l45969, r45970, p45971 =>
    if (decide (p45971 < (l45969.length : Int))) = true then
      (atI l45969 p45971).bind fun x45977 =>
      (flow_DeadNodes_1 n x45977 b1 b2).bind fun r45979 =>
      if (!r45979) = true then
        (atI l45969 r45970).bind fun x45980 =>
        (some (l45969.set r45970.toNat x45977)).bind fun l45981 =>
        (slices_DeleteFunc_string_c80_L1 n b1 b2 rec_n1) l45981 (IntKind.i64.wrap (r45970 + 1)) (IntKind.i64.wrap (p45971 + 1))
      else
        (slices_DeleteFunc_string_c80_L1 n b1 b2 rec_n1) l45969 r45970 (IntKind.i64.wrap (p45971 + 1))
    else
      if 0 ≤ r45970 ∧ r45970 ≤ (l45969.length : Int) ∧ (l45969.length : Int) ≤ (l45969.length : Int) then
        if (r45970.toNat + (l45969.length - r45970.toNat)) ≤ l45969.length then
          if 0 ≤ 0 ∧ 0 ≤ r45970 ∧ r45970 ≤ (l45969.length : Int) then
            some (l45969.take r45970.toNat)
          else none
        else none
      else none

def slices_DeleteFunc_string_c80 (n : Nat) (l0 : List Str) (b1 : List Str) (b2 : List Str) : Option ((List Str)) :=
  (slices_IndexFunc_string_c80_v1 n l0 b1 b2).bind fun r45963 =>
  if (r45963 == (-1)) = true then
    some l0
  else
    slices_DeleteFunc_string_c80_L1 n b1 b2 n l0 r45963 (IntKind.i64.wrap (r45963 + 1))

def flow_DeadNodes (n : Nat) (r_0 : ApiRung) : Option ((List Str)) :=
  (graph_Reachable n r_0 (⟨#[76]⟩ : Str)).bind fun r45675 =>
  (graph_Ancestors n r_0 (⟨#[82]⟩ : Str)).bind fun r45880 =>
  (graph_Nodes_o0 n r_0).bind fun r45882 =>
  (slices_DeleteFunc_string_c80 n r45882 r45675 r45880).bind fun q45983 =>
  some q45983

def flow_Check (n : Nat) (r_0 : ApiRung) : Option (Int) :=
  if ((r_0.Contacts.length : Int) == 0) = true then
    some 4
  else
    (graph_TopoSort n r_0).bind fun ⟨r44522, r44523⟩ =>
    if (r44523 != 0) = true then
      some r44523
    else
      (flow_DeadNodes n r_0).bind fun r45985 =>
      if (decide ((r45985.length : Int) > 0)) = true then
        some 13
      else
        some 0

def reduce_parallel_1 (n : Nat) (y0 : ReduceEdge) (b0 : ReduceEdge) : Option (Bool) :=
  some ((decide (y0.pair.from_ = b0.pair.from_)) && (decide (y0.pair.to_ = b0.pair.to_)))

def slices_IndexFunc_reduce_edge_c50_v1_L1 (n : Nat) (s0 : Nat) (l0 : List ReduceEdge) (b1 : ReduceEdge) : Nat → Int → Option (Int)
  | 0, _ => none
  | rec_n1 + 1, p46013 =>
    if (decide (p46013 < (((l0.length - s0) : Nat) : Int))) = true then
      (atI (l0.drop s0) p46013).bind fun x46017 =>
      (reduce_parallel_1 n x46017 b1).bind fun r46019 =>
      if r46019 = true then
        some p46013
      else
        (slices_IndexFunc_reduce_edge_c50_v1_L1 n s0 l0 b1 rec_n1) (IntKind.i64.wrap (p46013 + 1))
    else
      some (-1)

def slices_IndexFunc_reduce_edge_c50_v1 (n : Nat) (s0 : Nat) (l0 : List ReduceEdge) (b1 : ReduceEdge) : Option (Int) :=
  slices_IndexFunc_reduce_edge_c50_v1_L1 n s0 l0 b1 n 0

def reduce_join_L1 (kind0 : Int) (l46032 : List TreeTree) : Nat → Int → (List TreeTree) → Option (TreeTree)
  | 0, _, _ => none
  | rec_n1 + 1, p46035, p46036 =>
    if (decide (p46035 < (l46032.length : Int))) = true then
      (atI l46032 p46035).bind fun x46040 =>
      if (x46040.Kind == kind0) = true then
        if p46036.length + x46040.Kids.length ≤ 1000000000 then
          (some (p46036 ++ x46040.Kids)).bind fun l46041 =>
          (reduce_join_L1 kind0 l46032 rec_n1) (IntKind.i64.wrap (p46035 + 1)) l46041
        else none
      else
        if p46036.length + ([x46040]).length ≤ 1000000000 then
          (some (p46036 ++ ([x46040]))).bind fun l46042 =>
          (reduce_join_L1 kind0 l46032 rec_n1) (IntKind.i64.wrap (p46035 + 1)) l46042
        else none
    else
      some (⟨kind0, 0, p46036⟩ : TreeTree)

def reduce_join (n : Nat) (kind0 : Int) (a1 : TreeTree) (b2 : TreeTree) : Option (TreeTree) :=
  (some ([a1, b2])).bind fun l46032 =>
  reduce_join_L1 kind0 l46032 n 0 ([])

def slices_Delete_reduce_edge_v1 (n : Nat) (i_1 : Int) (j2 : Int) (l0 : List ReduceEdge) : Option ((List ReduceEdge)) :=
  if 0 ≤ i_1 ∧ i_1 ≤ j2 ∧ j2 ≤ (l0.length : Int) ∧ (l0.length : Int) ≤ (l0.length : Int) then
    if (i_1 == j2) = true then
      some l0
    else
      if 0 ≤ 0 ∧ 0 ≤ i_1 ∧ i_1 ≤ (l0.length : Int) then
        if 0 ≤ j2 ∧ j2 ≤ (l0.length : Int) ∧ (l0.length : Int) ≤ (l0.length : Int) then
          if i_1.toNat + (l0.length - j2.toNat) ≤ l0.length then
            (some (l0.take i_1.toNat ++ ((l0.drop j2.toNat) ++ l0.drop (i_1.toNat + (l0.length - j2.toNat))))).bind fun l46048 =>
            if 0 ≤ (((i_1.toNat + (l0.length - j2.toNat)) : Nat) : Int) ∧ (((i_1.toNat + (l0.length - j2.toNat)) : Nat) : Int) ≤ (l0.length : Int) ∧ (l0.length : Int) ≤ l46048.length then
              if ((i_1.toNat + (l0.length - j2.toNat)) + (l0.length - (i_1.toNat + (l0.length - j2.toNat)))) ≤ l46048.length then
                some (l46048.take (i_1.toNat + (l0.length - j2.toNat)))
              else none
            else none
          else none
        else none
      else none
  else none

def reduce_parallel_v1_L1 (n : Nat) (l0 : List ReduceEdge) : Nat → Int → Option (Bool × (List ReduceEdge))
  | 0, _ => none
  | rec_n1 + 1, p46080 =>
    if (decide (p46080 < (l0.length : Int))) = true then
      (atI l0 p46080).bind fun x46090 =>
      if 0 ≤ (IntKind.i64.wrap (p46080 + 1)) ∧ (IntKind.i64.wrap (p46080 + 1)) ≤ (l0.length : Int) ∧ (l0.length : Int) ≤ (l0.length : Int) then
        (slices_IndexFunc_reduce_edge_c50_v1 n ((IntKind.i64.wrap (p46080 + 1)).toNat) l0 x46090).bind fun r46092 =>
        if (decide (r46092 ≥ 0)) = true then
          (atI l0 (IntKind.i64.wrap ((IntKind.i64.wrap (p46080 + 1)) + r46092))).bind fun x46093 =>
          (reduce_join n 2 x46090.t_ x46093.t_).bind fun r46095 =>
          (some (l0.set p46080.toNat (⟨x46090.pair, r46095⟩ : ReduceEdge))).bind fun l46096 =>
          (slices_Delete_reduce_edge_v1 n (IntKind.i64.wrap ((IntKind.i64.wrap (p46080 + 1)) + r46092)) (IntKind.i64.wrap ((IntKind.i64.wrap (p46080 + 2)) + r46092)) l46096).bind fun q46098 =>
          some (true, q46098)
        else
          (reduce_parallel_v1_L1 n l0 rec_n1) (IntKind.i64.wrap (p46080 + 1))
      else none
    else
      some (false, l0)

def reduce_parallel_v1 (n : Nat) (l0 : List ReduceEdge) : Option (Bool × (List ReduceEdge)) :=
  reduce_parallel_v1_L1 n l0 n 0

def reduce_series_v1_J2 (n : Nat) (l0 : List ReduceEdge) (p46236 : Int) (loop_1_reduce_series_v1 : Int → Option (Bool × (List ReduceEdge))) (x46271 : ReduceEdge) (p46284 : Int) (p46285 : Int) (p46286 : Int) : Option (Bool × (List ReduceEdge)) :=
  if (p46284 == 1) = true then
    if (p46285 == 1) = true then
      (atI l0 p46286).bind fun x46287 =>
      (reduce_join n 1 x46271.t_ x46287.t_).bind fun r46289 =>
      (some (l0.set p46236.toNat (⟨(⟨x46271.pair.from_, x46287.pair.to_⟩ : ReducePair), r46289⟩ : ReduceEdge))).bind fun l46290 =>
      (slices_Delete_reduce_edge_v1 n p46286 (IntKind.i64.wrap (p46286 + 1)) l46290).bind fun q46292 =>
      some (true, q46292)
    else
      loop_1_reduce_series_v1 (IntKind.i64.wrap (p46236 + 1))
  else
    loop_1_reduce_series_v1 (IntKind.i64.wrap (p46236 + 1))

def reduce_series_v1_J4 (x46271 : ReduceEdge) (p46295 : Int) (p46297 : Int) (p46300 : Int) (loop_3_reduce_series_v1 : Int → Int → Int → Int → Option (Bool × (List ReduceEdge))) (x46303 : ReduceEdge) (p46304 : Int) : Option (Bool × (List ReduceEdge)) :=
  if (decide (x46303.pair.from_ = x46271.pair.to_)) = true then
    loop_3_reduce_series_v1 (IntKind.i64.wrap (p46295 + 1)) p46304 (IntKind.i64.wrap (p46297 + 1)) p46295
  else
    loop_3_reduce_series_v1 (IntKind.i64.wrap (p46295 + 1)) p46304 p46297 p46300

def reduce_series_v1_L3 (n : Nat) (l0 : List ReduceEdge) (p46236 : Int) (loop_1_reduce_series_v1 : Int → Option (Bool × (List ReduceEdge))) (x46271 : ReduceEdge) : Nat → Int → Int → Int → Int → Option (Bool × (List ReduceEdge))
  | 0, _, _, _, _ => none
  | rec_n3 + 1, p46295, p46296, p46297, p46300 =>
    if (decide (p46295 < (l0.length : Int))) = true then
      (atI l0 p46295).bind fun x46303 =>
      if (decide (x46303.pair.to_ = x46271.pair.to_)) = true then
        reduce_series_v1_J4 x46271 p46295 p46297 p46300 (reduce_series_v1_L3 n l0 p46236 loop_1_reduce_series_v1 x46271 rec_n3) x46303 (IntKind.i64.wrap (p46296 + 1))
      else
        reduce_series_v1_J4 x46271 p46295 p46297 p46300 (reduce_series_v1_L3 n l0 p46236 loop_1_reduce_series_v1 x46271 rec_n3) x46303 p46296
    else
      reduce_series_v1_J2 n l0 p46236 loop_1_reduce_series_v1 x46271 p46296 p46297 p46300

def reduce_series_v1_L1 (n : Nat) (l0 : List ReduceEdge) : Nat → Int → Option (Bool × (List ReduceEdge))
  | 0, _ => none
  | rec_n1 + 1, p46236 =>
    if (decide (p46236 < (l0.length : Int))) = true then
      (atI l0 p46236).bind fun x46271 =>
      if (decide (x46271.pair.to_ = (⟨#[76]⟩ : Str))) = true then
        (reduce_series_v1_L1 n l0 rec_n1) (IntKind.i64.wrap (p46236 + 1))
      else
        if (decide (x46271.pair.to_ = (⟨#[82]⟩ : Str))) = true then
          (reduce_series_v1_L1 n l0 rec_n1) (IntKind.i64.wrap (p46236 + 1))
        else
          reduce_series_v1_L3 n l0 p46236 (reduce_series_v1_L1 n l0 rec_n1) x46271 n 0 0 0 0
    else
      some (false, l0)

def reduce_series_v1 (n : Nat) (l0 : List ReduceEdge) : Option (Bool × (List ReduceEdge)) :=
  reduce_series_v1_L1 n l0 n 0

def reduce_sorted_J1 (t0 : TreeTree) (p46346 : List TreeTree) : Option (TreeTree) :=
  if (t0.Kind == 2) = true then
    none
  else
    some (⟨t0.Kind, t0.N, p46346⟩ : TreeTree)

def reduce_sorted_L2 (t0 : TreeTree) (slf_reduce_sorted : TreeTree → Option (TreeTree)) : Nat → Int → (List TreeTree) → Option (TreeTree)
  | 0, _, _ => none
  | rec_n2 + 1, p46351, p46352 =>
    if (decide (p46351 < (t0.Kids.length : Int))) = true then
      (atI t0.Kids p46351).bind fun x46357 =>
      (slf_reduce_sorted x46357).bind fun r46359 =>
      if p46352.length + ([r46359]).length ≤ 1000000000 then
        (some (p46352 ++ ([r46359]))).bind fun l46360 =>
        (reduce_sorted_L2 t0 slf_reduce_sorted rec_n2) (IntKind.i64.wrap (p46351 + 1)) l46360
      else none
    else
      reduce_sorted_J1 t0 p46352

def reduce_sorted : Nat → TreeTree → Option (TreeTree)
  | 0, _ => none
  | n + 1, t0 =>
  reduce_sorted_L2 t0 (reduce_sorted n) n 0 ([])

def reduce_Reduce_J2 (n : Nat) (p46322 : List ReduceEdge) : Option (TreeTree × Int) :=
  if ((p46322.length : Int) != 1) = true then
    some ((⟨0, 0, []⟩ : TreeTree), 14)
  else
    (atI p46322 0).bind fun x46323 =>
    if (!((decide (x46323.pair.from_ = (⟨#[76]⟩ : Str))) && (decide (x46323.pair.to_ = (⟨#[82]⟩ : Str))))) = true then
      some ((⟨0, 0, []⟩ : TreeTree), 14)
    else
      (reduce_sorted n x46323.t_).bind fun r46362 =>
      some (r46362, 0)

def reduce_Reduce_L3 (n : Nat) : Nat → (List ReduceEdge) → Bool → Option (TreeTree × Int)
  | 0, _, _ => none
  | rec_n3 + 1, p46369, true46370 =>
    if true46370 = true then
      (reduce_parallel_v1 n p46369).bind fun ⟨r46378, q46379⟩ =>
      (reduce_series_v1 n q46379).bind fun ⟨r46381, q46382⟩ =>
      if r46378 = true then
        (reduce_Reduce_L3 n rec_n3) q46382 true
      else
        (reduce_Reduce_L3 n rec_n3) q46382 r46381
    else
      reduce_Reduce_J2 n p46369

def reduce_Reduce_J1 (n : Nat) (p45998 : List ReduceEdge) : Option (TreeTree × Int) :=
  reduce_Reduce_L3 n n p45998 true

def reduce_Reduce_L4 (n : Nat) (_append0 : ApiRung) : Nat → Int → (List ReduceEdge) → Option (TreeTree × Int)
  | 0, _, _ => none
  | rec_n4 + 1, p46385, p46386 =>
    if (decide (p46385 < (_append0.Contacts.length : Int))) = true then
      (atI _append0.Contacts p46385).bind fun x46389 =>
      if p46386.length + ([(⟨(⟨x46389.From, x46389.To⟩ : ReducePair), (⟨0, p46385, ([] : List TreeTree)⟩ : TreeTree)⟩ : ReduceEdge)]).length ≤ 1000000000 then
        (some (p46386 ++ ([(⟨(⟨x46389.From, x46389.To⟩ : ReducePair), (⟨0, p46385, ([] : List TreeTree)⟩ : TreeTree)⟩ : ReduceEdge)]))).bind fun l46390 =>
        (reduce_Reduce_L4 n _append0 rec_n4) (IntKind.i64.wrap (p46385 + 1)) l46390
      else none
    else
      reduce_Reduce_J1 n p46386

def reduce_Reduce (n : Nat) (_append0 : ApiRung) : Option (TreeTree × Int) :=
  (flow_Check n _append0).bind fun r45989 =>
  if (r45989 != 0) = true then
    some ((⟨0, 0, []⟩ : TreeTree), r45989)
  else
    reduce_Reduce_L4 n _append0 n 0 ([])

def codegen_sees (n : Nat) (c0 : ApiContact) : Option (Bool) :=
  if (c0.Kind == 2) = true then
    some true
  else
    some (c0.Kind == 3)

def tree_Tree_check_1 (n : Nat) (k0 : TreeTree) (b0 : TreeTree) : Option (Bool) :=
  some (k0.Kind == b0.Kind)

def slices_IndexFunc_tree_Tree_c66_L1 (n : Nat) (s0 : List TreeTree) (b0 : TreeTree) : Nat → Int → Option (Int)
  | 0, _ => none
  | rec_n1 + 1, p46426 =>
    if (decide (p46426 < (s0.length : Int))) = true then
      (atI s0 p46426).bind fun x46430 =>
      (tree_Tree_check_1 n x46430 b0).bind fun r46432 =>
      if r46432 = true then
        some p46426
      else
        (slices_IndexFunc_tree_Tree_c66_L1 n s0 b0 rec_n1) (IntKind.i64.wrap (p46426 + 1))
    else
      some (-1)

def slices_IndexFunc_tree_Tree_c66 (n : Nat) (s0 : List TreeTree) (b0 : TreeTree) : Option (Int) :=
  slices_IndexFunc_tree_Tree_c66_L1 n s0 b0 n 0

def slices_ContainsFunc_tree_Tree_c66 (n : Nat) (s0 : List TreeTree) (b0 : TreeTree) : Option (Bool) :=
  (slices_IndexFunc_tree_Tree_c66 n s0 b0).bind fun r46436 =>
  some (decide (r46436 ≥ 0))

def tree_Tree_check_L2 (_append0 : TreeTree) (a1 : Int) (slf_tree_Tree_check : TreeTree → Int → (List (Int × Bool)) → Option (Int × (List (Int × Bool)))) : Nat → (List (Int × Bool)) → Int → Option (Int × (List (Int × Bool)))
  | 0, _, _ => none
  | rec_n2 + 1, m46479, p46480 =>
    if (decide (p46480 < (_append0.Kids.length : Int))) = true then
      (atI _append0.Kids p46480).bind fun x46485 =>
      (slf_tree_Tree_check x46485 a1 m46479).bind fun ⟨r46487, q46488⟩ =>
      if (r46487 != 0) = true then
        some (r46487, q46488)
      else
        (tree_Tree_check_L2 _append0 a1 slf_tree_Tree_check rec_n2) q46488 (IntKind.i64.wrap (p46480 + 1))
    else
      some (0, m46479)

def tree_Tree_check_J1 (n : Nat) (_append0 : TreeTree) (a1 : Int) (m0 : List (Int × Bool)) (slf_tree_Tree_check : TreeTree → Int → (List (Int × Bool)) → Option (Int × (List (Int × Bool)))) : Option (Int × (List (Int × Bool))) :=
  tree_Tree_check_L2 _append0 a1 slf_tree_Tree_check n m0 0

def tree_Tree_check : Nat → TreeTree → Int → (List (Int × Bool)) → Option (Int × (List (Int × Bool)))
  | 0, _, _, _ => none
  | n + 1, _append0, a1, m0 =>
  if (decide (_append0.Kind < 0)) = true then
    some (8, m0)
  else
    if (decide (_append0.Kind > 2)) = true then
      some (8, m0)
    else
      if (_append0.Kind == 0) = true then
        if (decide ((_append0.Kids.length : Int) > 0)) = true then
          some (2, m0)
        else
          if (_append0.Kind != 0) = true then
            if (_append0.N != 0) = true then
              some (2, m0)
            else
              if (decide (_append0.N < 0)) = true then
                some (3, m0)
              else
                if (decide (_append0.N ≥ a1)) = true then
                  some (3, m0)
                else
                  if ((mGet m0 _append0.N).getD false) = true then
                    some (9, m0)
                  else
                    some (0, (mPut m0 _append0.N true))
          else
            if (decide (_append0.N < 0)) = true then
              some (3, m0)
            else
              if (decide (_append0.N ≥ a1)) = true then
                some (3, m0)
              else
                if ((mGet m0 _append0.N).getD false) = true then
                  some (9, m0)
                else
                  some (0, (mPut m0 _append0.N true))
      else
        if (_append0.Kind != 0) = true then
          if (_append0.N != 0) = true then
            some (2, m0)
          else
            if (decide ((_append0.Kids.length : Int) < 2)) = true then
              some (5, m0)
            else
              (slices_ContainsFunc_tree_Tree_c66 n _append0.Kids _append0).bind fun r46490 =>
              if r46490 = true then
                some (14, m0)
              else
                tree_Tree_check_J1 n _append0 a1 m0 (tree_Tree_check n)
        else
          if (decide ((_append0.Kids.length : Int) < 2)) = true then
            some (5, m0)
          else
            (slices_ContainsFunc_tree_Tree_c66 n _append0.Kids _append0).bind fun r46492 =>
            if r46492 = true then
              some (14, m0)
            else
              tree_Tree_check_J1 n _append0 a1 m0 (tree_Tree_check n)

def tree_Check (n : Nat) (t0 : TreeTree) (many1 : Int) : Option (Int) :=
  (tree_Tree_check n t0 many1 ([])).bind fun ⟨r46494, q46495⟩ =>
  if (r46494 == 0) = true then
    if (((q46495.length : Nat) : Int) != (imax 0 many1)) = true then
      some 4
    else
      some r46494
  else
    some r46494

def tree_Tree_depth_L1 (t0 : TreeTree) (edge1 : List Bool) (slf_tree_Tree_depth : TreeTree → (List Bool) → Option (Int)) : Nat → Int → Int → Option (Int)
  | 0, _, _ => none
  | rec_n1 + 1, p46506, p46507 =>
    if (decide (p46506 < (t0.Kids.length : Int))) = true then
      (atI t0.Kids p46506).bind fun x46516 =>
      if (p46506 == 0) = true then
        (slf_tree_Tree_depth x46516 edge1).bind fun r46518 =>
        (tree_Tree_depth_L1 t0 edge1 slf_tree_Tree_depth rec_n1) (IntKind.i64.wrap (p46506 + 1)) r46518
      else
        if (x46516.Kind != 0) = true then
          (slf_tree_Tree_depth x46516 edge1).bind fun r46520 =>
          (tree_Tree_depth_L1 t0 edge1 slf_tree_Tree_depth rec_n1) (IntKind.i64.wrap (p46506 + 1)) (imax p46507 (IntKind.i64.wrap (1 + r46520)))
        else
          (atI edge1 x46516.N).bind fun x46521 =>
          if x46521 = true then
            (slf_tree_Tree_depth x46516 edge1).bind fun r46523 =>
            (tree_Tree_depth_L1 t0 edge1 slf_tree_Tree_depth rec_n1) (IntKind.i64.wrap (p46506 + 1)) (imax p46507 (IntKind.i64.wrap (1 + r46523)))
          else
            (tree_Tree_depth_L1 t0 edge1 slf_tree_Tree_depth rec_n1) (IntKind.i64.wrap (p46506 + 1)) p46507
    else
      some p46507

def tree_Tree_depth : Nat → TreeTree → (List Bool) → Option (Int)
  | 0, _, _ => none
  | n + 1, t0, edge1 =>
  tree_Tree_depth_L1 t0 edge1 (tree_Tree_depth n) n 0 0

def tree_StackDepth (n : Nat) (t0 : TreeTree) (edge1 : List Bool) : Option (Int × Int) :=
  (tree_Check n t0 (edge1.length : Int)).bind fun r46497 =>
  if (r46497 != 0) = true then
    some (0, r46497)
  else
    (tree_Tree_depth n t0 edge1).bind fun r46525 =>
    some (r46525, 0)

def codegen_Tree_1 (n : Nat) (c0 : ApiContact) : Option (Bool) :=
  if (decide (c0.Kind < 0)) = true then
    some true
  else
    some (decide (c0.Kind ≥ 4))

def slices_IndexFunc_api_Contact_c36_L1 (n : Nat) (s0 : List ApiContact) : Nat → Int → Option (Int)
  | 0, _ => none
  | rec_n1 + 1, p46536 =>
    if (decide (p46536 < (s0.length : Int))) = true then
      (atI s0 p46536).bind fun x46540 =>
      (codegen_Tree_1 n x46540).bind fun r46542 =>
      if r46542 = true then
        some p46536
      else
        (slices_IndexFunc_api_Contact_c36_L1 n s0 rec_n1) (IntKind.i64.wrap (p46536 + 1))
    else
      some (-1)

def slices_IndexFunc_api_Contact_c36 (n : Nat) (s0 : List ApiContact) : Option (Int) :=
  slices_IndexFunc_api_Contact_c36_L1 n s0 n 0

def slices_ContainsFunc_api_Contact_c36 (n : Nat) (s0 : List ApiContact) : Option (Bool) :=
  (slices_IndexFunc_api_Contact_c36 n s0).bind fun r46544 =>
  some (decide (r46544 ≥ 0))

def codegen_maker_put_v1 (n : Nat) (x_1 : ApiIns) (b0 : Str) (b0_1 : List ApiContact) (b0_2 : List ApiCoil) (b0_3 : Str) (l1 : List Int) (l2 : List ApiIns) : Option ((List ApiIns)) :=
  if l2.length + ([x_1]).length ≤ 1000000000 then
    (some (l2 ++ ([x_1]))).bind fun l46647 =>
    some l46647
  else none

def codegen_maker_lay_v1_J2 (n : Nat) (a1 : TreeTree) (b0 : Str) (b0_1 : List ApiContact) (b0_2 : List ApiCoil) (b0_3 : Str) (l1 : List Int) (q46949 : List ApiIns) (p46950 : Int) (loop_1_codegen_maker_lay_v1 : (List ApiIns) → Int → Option ((List ApiIns))) (x47004 : TreeTree) (slf_codegen_maker_lay_v1 : TreeTree → Str → (List ApiContact) → (List ApiCoil) → Str → (List Int) → (List ApiIns) → Option ((List ApiIns))) : Option ((List ApiIns)) :=
  (codegen_maker_put_v1 n (⟨8, (⟨0, 0⟩ : ApiAddr), 0⟩ : ApiIns) b0 b0_1 b0_2 b0_3 l1 q46949).bind fun q47033 =>
  (slf_codegen_maker_lay_v1 x47004 b0 b0_1 b0_2 b0_3 l1 q47033).bind fun q47035 =>
  if a1.Kind = 0 then
    (codegen_maker_put_v1 n (⟨0, (⟨0, 0⟩ : ApiAddr), 0⟩ : ApiIns) b0 b0_1 b0_2 b0_3 l1 q47035).bind fun q47037 =>
    loop_1_codegen_maker_lay_v1 q47037 (IntKind.i64.wrap (p46950 + 1))
  else
    if a1.Kind = 1 then
      (codegen_maker_put_v1 n (⟨9, (⟨0, 0⟩ : ApiAddr), 0⟩ : ApiIns) b0 b0_1 b0_2 b0_3 l1 q47035).bind fun q47039 =>
      loop_1_codegen_maker_lay_v1 q47039 (IntKind.i64.wrap (p46950 + 1))
    else
      if a1.Kind = 2 then
        (codegen_maker_put_v1 n (⟨10, (⟨0, 0⟩ : ApiAddr), 0⟩ : ApiIns) b0 b0_1 b0_2 b0_3 l1 q47035).bind fun q47041 =>
        loop_1_codegen_maker_lay_v1 q47041 (IntKind.i64.wrap (p46950 + 1))
      else
        none

def codegen_maker_lay_v1_L1 (n : Nat) (a1 : TreeTree) (b0 : Str) (b0_1 : List ApiContact) (b0_2 : List ApiCoil) (b0_3 : Str) (l1 : List Int) (l46895 : List TreeTree) (slf_codegen_maker_lay_v1 : TreeTree → Str → (List ApiContact) → (List ApiCoil) → Str → (List Int) → (List ApiIns) → Option ((List ApiIns))) : Nat → (List ApiIns) → Int → Option ((List ApiIns))
  | 0, _, _ => none
  | rec_n1 + 1, q46949, p46950 =>
    if (decide (p46950 < (l46895.length : Int))) = true then
      (atI l46895 p46950).bind fun x47004 =>
      if (x47004.Kind == 0) = true then
        (atI b0_1 x47004.N).bind fun x47042 =>
        (codegen_sees n x47042).bind fun r47044 =>
        if (!r47044) = true then
          if a1.Kind = 0 then
            if x47042.Kind = 0 then
              (codegen_maker_put_v1 n (⟨0, x47042.A, 0⟩ : ApiIns) b0 b0_1 b0_2 b0_3 l1 q46949).bind fun q47046 =>
              (codegen_maker_lay_v1_L1 n a1 b0 b0_1 b0_2 b0_3 l1 l46895 slf_codegen_maker_lay_v1 rec_n1) q47046 (IntKind.i64.wrap (p46950 + 1))
            else
              if x47042.Kind = 1 then
                (codegen_maker_put_v1 n (⟨0, x47042.A, 0⟩ : ApiIns) b0 b0_1 b0_2 b0_3 l1 q46949).bind fun q47048 =>
                (codegen_maker_lay_v1_L1 n a1 b0 b0_1 b0_2 b0_3 l1 l46895 slf_codegen_maker_lay_v1 rec_n1) q47048 (IntKind.i64.wrap (p46950 + 1))
              else
                none
          else
            if a1.Kind = 1 then
              if x47042.Kind = 0 then
                (codegen_maker_put_v1 n (⟨2, x47042.A, 0⟩ : ApiIns) b0 b0_1 b0_2 b0_3 l1 q46949).bind fun q47050 =>
                (codegen_maker_lay_v1_L1 n a1 b0 b0_1 b0_2 b0_3 l1 l46895 slf_codegen_maker_lay_v1 rec_n1) q47050 (IntKind.i64.wrap (p46950 + 1))
              else
                if x47042.Kind = 1 then
                  (codegen_maker_put_v1 n (⟨3, x47042.A, 0⟩ : ApiIns) b0 b0_1 b0_2 b0_3 l1 q46949).bind fun q47052 =>
                  (codegen_maker_lay_v1_L1 n a1 b0 b0_1 b0_2 b0_3 l1 l46895 slf_codegen_maker_lay_v1 rec_n1) q47052 (IntKind.i64.wrap (p46950 + 1))
                else
                  none
            else
              if a1.Kind = 2 then
                if x47042.Kind = 0 then
                  (codegen_maker_put_v1 n (⟨4, x47042.A, 0⟩ : ApiIns) b0 b0_1 b0_2 b0_3 l1 q46949).bind fun q47054 =>
                  (codegen_maker_lay_v1_L1 n a1 b0 b0_1 b0_2 b0_3 l1 l46895 slf_codegen_maker_lay_v1 rec_n1) q47054 (IntKind.i64.wrap (p46950 + 1))
                else
                  if x47042.Kind = 1 then
                    (codegen_maker_put_v1 n (⟨5, x47042.A, 0⟩ : ApiIns) b0 b0_1 b0_2 b0_3 l1 q46949).bind fun q47056 =>
                    (codegen_maker_lay_v1_L1 n a1 b0 b0_1 b0_2 b0_3 l1 l46895 slf_codegen_maker_lay_v1 rec_n1) q47056 (IntKind.i64.wrap (p46950 + 1))
                  else
                    none
              else
                none
        else
          codegen_maker_lay_v1_J2 n a1 b0 b0_1 b0_2 b0_3 l1 q46949 p46950 (codegen_maker_lay_v1_L1 n a1 b0 b0_1 b0_2 b0_3 l1 l46895 slf_codegen_maker_lay_v1 rec_n1) x47004 slf_codegen_maker_lay_v1
      else
        codegen_maker_lay_v1_J2 n a1 b0 b0_1 b0_2 b0_3 l1 q46949 p46950 (codegen_maker_lay_v1_L1 n a1 b0 b0_1 b0_2 b0_3 l1 l46895 slf_codegen_maker_lay_v1 rec_n1) x47004 slf_codegen_maker_lay_v1
    else
      some q46949

def codegen_maker_lay_v1 : Nat → TreeTree → Str → (List ApiContact) → (List ApiCoil) → Str → (List Int) → (List ApiIns) → Option ((List ApiIns))
  | 0, _, _, _, _, _, _, _ => none
  | n + 1, a1, b0, b0_1, b0_2, b0_3, l1, l2 =>
  if (a1.Kind == 0) = true then
    (atI b0_1 a1.N).bind fun x46879 =>
    if x46879.Kind = 0 then
      (atI l1 a1.N).bind fun x46880 =>
      (codegen_maker_put_v1 n (⟨0, x46879.A, x46880⟩ : ApiIns) b0 b0_1 b0_2 b0_3 l1 l2).bind fun q46882 =>
      some q46882
    else
      if x46879.Kind = 1 then
        (atI l1 a1.N).bind fun x46883 =>
        (codegen_maker_put_v1 n (⟨1, x46879.A, x46883⟩ : ApiIns) b0 b0_1 b0_2 b0_3 l1 l2).bind fun q46885 =>
        some q46885
      else
        if x46879.Kind = 2 then
          (atI l1 a1.N).bind fun x46886 =>
          (codegen_maker_put_v1 n (⟨6, x46879.A, x46886⟩ : ApiIns) b0 b0_1 b0_2 b0_3 l1 l2).bind fun q46888 =>
          some q46888
        else
          if x46879.Kind = 3 then
            (atI l1 a1.N).bind fun x46889 =>
            (codegen_maker_put_v1 n (⟨7, x46879.A, x46889⟩ : ApiIns) b0 b0_1 b0_2 b0_3 l1 l2).bind fun q46891 =>
            some q46891
          else
            none
  else
    (atI a1.Kids 0).bind fun x46892 =>
    ((codegen_maker_lay_v1 n) x46892 b0 b0_1 b0_2 b0_3 l1 l2).bind fun q46894 =>
    if 0 ≤ 1 ∧ 1 ≤ (a1.Kids.length : Int) ∧ (a1.Kids.length : Int) ≤ (a1.Kids.length : Int) then
      (some (a1.Kids.drop 1)).bind fun l46895 =>
      codegen_maker_lay_v1_L1 n a1 b0 b0_1 b0_2 b0_3 l1 l46895 (codegen_maker_lay_v1 n) n q46894 0
    else none

def codegen_Tree_J1 (n : Nat) (r_0 : ApiRung) (t1 : TreeTree) (l46568 : List Int) : Option ((List ApiIns) × Int) :=
  (codegen_maker_lay_v1 n t1 r_0.Label r_0.Contacts r_0.Coils r_0.Jump l46568 ([] : List ApiIns)).bind fun q47058 =>
  some (q47058, 0)

def codegen_Tree_L2 (n : Nat) (r_0 : ApiRung) (t1 : TreeTree) : Nat → Int → Int → (List Int) → Option ((List ApiIns) × Int)
  | 0, _, _, _ => none
  | rec_n2 + 1, slot47064, p47065, l47066 =>
    if (decide (p47065 < (r_0.Contacts.length : Int))) = true then
      (atI r_0.Contacts p47065).bind fun x47072 =>
      (codegen_sees n x47072).bind fun r47074 =>
      if r47074 = true then
        (atI l47066 p47065).bind fun x47075 =>
        (some (l47066.set p47065.toNat slot47064)).bind fun l47076 =>
        (codegen_Tree_L2 n r_0 t1 rec_n2) (IntKind.i64.wrap (slot47064 + 1)) (IntKind.i64.wrap (p47065 + 1)) l47076
      else
        (codegen_Tree_L2 n r_0 t1 rec_n2) slot47064 (IntKind.i64.wrap (p47065 + 1)) l47066
    else
      codegen_Tree_J1 n r_0 t1 l47066

def codegen_Tree (n : Nat) (r_0 : ApiRung) (t1 : TreeTree) (slot2 : Int) : Option ((List ApiIns) × Int) :=
  (tree_Check n t1 (r_0.Contacts.length : Int)).bind fun r46532 =>
  if (r46532 != 0) = true then
    some ([], r46532)
  else
    (slices_ContainsFunc_api_Contact_c36 n r_0.Contacts).bind fun r46548 =>
    if r46548 = true then
      some ([], 8)
    else
      if (decide (slot2 < 0)) = true then
        some ([], 3)
      else
        if (decide (slot2 > 16384)) = true then
          some ([], 3)
        else
          if 0 ≤ (r_0.Contacts.length : Int) ∧ (r_0.Contacts.length : Int) ≤ (r_0.Contacts.length : Int) ∧ (r_0.Contacts.length : Int) ≤ 1000000000 then
            (some (List.replicate r_0.Contacts.length 0)).bind fun l46549 =>
            codegen_Tree_L2 n r_0 t1 n slot2 0 l46549
          else none

def codegen_contacts_J1 (n : Nat) (r_0 : ApiRung) (slot1 : Int) (r46392 : TreeTree) (l46412 : List Bool) : Option ((List ApiIns) × Int) :=
  (tree_StackDepth n r46392 l46412).bind fun ⟨r46527, r46528⟩ =>
  if (r46528 != 0) = true then
    some ([], r46528)
  else
    if (decide (r46527 > 64)) = true then
      some ([], 16)
    else
      (codegen_Tree n r_0 r46392 slot1).bind fun ⟨r47078, r47079⟩ =>
      some (r47078, r47079)

def codegen_contacts_L2 (n : Nat) (r_0 : ApiRung) (slot1 : Int) (r46392 : TreeTree) : Nat → Int → (List Bool) → Option ((List ApiIns) × Int)
  | 0, _, _ => none
  | rec_n2 + 1, p47085, l47086 =>
    if (decide (p47085 < (r_0.Contacts.length : Int))) = true then
      (atI r_0.Contacts p47085).bind fun x47092 =>
      (codegen_sees n x47092).bind fun r47094 =>
      (atI l47086 p47085).bind fun x47095 =>
      (some (l47086.set p47085.toNat r47094)).bind fun l47096 =>
      (codegen_contacts_L2 n r_0 slot1 r46392 rec_n2) (IntKind.i64.wrap (p47085 + 1)) l47096
    else
      codegen_contacts_J1 n r_0 slot1 r46392 l47086

def codegen_contacts (n : Nat) (r_0 : ApiRung) (slot1 : Int) : Option ((List ApiIns) × Int) :=
  (reduce_Reduce n r_0).bind fun ⟨r46392, r46393⟩ =>
  if (r46393 != 0) = true then
    some ([], r46393)
  else
    if 0 ≤ (r_0.Contacts.length : Int) ∧ (r_0.Contacts.length : Int) ≤ (r_0.Contacts.length : Int) ∧ (r_0.Contacts.length : Int) ≤ 1000000000 then
      (some (List.replicate r_0.Contacts.length false)).bind fun l46394 =>
      codegen_contacts_L2 n r_0 slot1 r46392 n 0 l46394
    else none

def codegen_Coils_L1 (r_0 : ApiRung) : Nat → Int → (List ApiIns) → Option ((List ApiIns) × Int)
  | 0, _, _ => none
  | rec_n1 + 1, p47109, p47110 =>
    if (decide (p47109 < (r_0.Coils.length : Int))) = true then
      (atI r_0.Coils p47109).bind fun x47116 =>
      if (decide (x47116.Kind < 0)) = true then
        some ([], 8)
      else
        if (decide (x47116.Kind ≥ 4)) = true then
          some ([], 8)
        else
          if x47116.Kind = 0 then
            if p47110.length + ([(⟨11, x47116.A, 0⟩ : ApiIns)]).length ≤ 1000000000 then
              (some (p47110 ++ ([(⟨11, x47116.A, 0⟩ : ApiIns)]))).bind fun l47117 =>
              (codegen_Coils_L1 r_0 rec_n1) (IntKind.i64.wrap (p47109 + 1)) l47117
            else none
          else
            if x47116.Kind = 1 then
              if p47110.length + ([(⟨12, x47116.A, 0⟩ : ApiIns)]).length ≤ 1000000000 then
                (some (p47110 ++ ([(⟨12, x47116.A, 0⟩ : ApiIns)]))).bind fun l47118 =>
                (codegen_Coils_L1 r_0 rec_n1) (IntKind.i64.wrap (p47109 + 1)) l47118
              else none
            else
              if x47116.Kind = 2 then
                if p47110.length + ([(⟨13, x47116.A, 0⟩ : ApiIns)]).length ≤ 1000000000 then
                  (some (p47110 ++ ([(⟨13, x47116.A, 0⟩ : ApiIns)]))).bind fun l47119 =>
                  (codegen_Coils_L1 r_0 rec_n1) (IntKind.i64.wrap (p47109 + 1)) l47119
                else none
              else
                if x47116.Kind = 3 then
                  if p47110.length + ([(⟨14, x47116.A, 0⟩ : ApiIns)]).length ≤ 1000000000 then
                    (some (p47110 ++ ([(⟨14, x47116.A, 0⟩ : ApiIns)]))).bind fun l47120 =>
                    (codegen_Coils_L1 r_0 rec_n1) (IntKind.i64.wrap (p47109 + 1)) l47120
                  else none
                else
                  none
    else
      some (p47110, 0)

def codegen_Coils (n : Nat) (r_0 : ApiRung) : Option ((List ApiIns) × Int) :=
  codegen_Coils_L1 r_0 n 0 ([])

def rungeval_sees (n : Nat) (c0 : ApiContact) : Option (Bool) :=
  if (c0.Kind == 2) = true then
    some true
  else
    some (c0.Kind == 3)

def rungeval_EdgeCount_L1 (n : Nat) (r_0 : ApiRung) : Nat → Int → Int → Option (Int)
  | 0, _, _ => none
  | rec_n1 + 1, p47128, p47129 =>
    if (decide (p47129 < (r_0.Contacts.length : Int))) = true then
      (atI r_0.Contacts p47129).bind fun x47133 =>
      (rungeval_sees n x47133).bind fun r47135 =>
      if r47135 = true then
        (rungeval_EdgeCount_L1 n r_0 rec_n1) (IntKind.i64.wrap (p47128 + 1)) (IntKind.i64.wrap (p47129 + 1))
      else
        (rungeval_EdgeCount_L1 n r_0 rec_n1) p47128 (IntKind.i64.wrap (p47129 + 1))
    else
      some p47128

def rungeval_EdgeCount (n : Nat) (r_0 : ApiRung) : Option (Int) :=
  rungeval_EdgeCount_L1 n r_0 n 0 0

def codegen_whole_J2 (_append0 : ApiLadder) (p47174 : Int) (p47175 : List ApiIns) (p47176 : List Int) : Option (ApiProgram × (List Int) × Int × Int) :=
  if p47176.length + ([(p47175.length : Int)]).length ≤ 1000000000 then
    (some (p47176 ++ ([(p47175.length : Int)]))).bind fun l47177 =>
    if p47175.length + ([(⟨16, (⟨0, 0⟩ : ApiAddr), 0⟩ : ApiIns)]).length ≤ 1000000000 then
      (some (p47175 ++ ([(⟨16, (⟨0, 0⟩ : ApiAddr), 0⟩ : ApiIns)]))).bind fun l47178 =>
      some ((⟨(⟨_append0.I, _append0.Q, _append0.M, p47174⟩ : ApiSize), l47178⟩ : ApiProgram), l47177, (_append0.Rungs.length : Int), 0)
    else none
  else none

def codegen_whole_L3 (_append0 : ApiLadder) (p47174 : Int) (p47175 : List ApiIns) (p47176 : List Int) : Nat → Option (ApiProgram × (List Int) × Int × Int)
  | 0 => none
  | rec_n3 + 1 =>
    codegen_whole_J2 _append0 p47174 p47175 p47176

def codegen_whole_J1 (n : Nat) (_append0 : ApiLadder) (p47172 : List (Str × Int)) (p47173 : List (Int × Str)) (p47174 : Int) (p47175 : List ApiIns) (p47176 : List Int) : Option (ApiProgram × (List Int) × Int × Int) :=
  if p47173 = [] then
    codegen_whole_L3 _append0 p47174 p47175 p47176 n 
  else none

def codegen_whole_L4 (n : Nat) (_append0 : ApiLadder) : Nat → (List (Str × Int)) → (List (Int × Str)) → Int → Int → (List ApiIns) → (List Int) → Option (ApiProgram × (List Int) × Int × Int)
  | 0, _, _, _, _, _, _ => none
  | rec_n4 + 1, p47191, p47192, p47193, p47194, p47195, p47196 =>
    if (decide (p47193 < (_append0.Rungs.length : Int))) = true then
      (atI _append0.Rungs p47193).bind fun x47210 =>
      (codegen_contacts n x47210 p47194).bind fun ⟨r47212, r47213⟩ =>
      if (r47213 != 0) = true then
        some ((⟨(⟨0, 0, 0, 0⟩ : ApiSize), []⟩ : ApiProgram), [], p47193, r47213)
      else
        (codegen_Coils n x47210).bind fun ⟨r47215, r47216⟩ =>
        if (r47216 != 0) = true then
          some ((⟨(⟨0, 0, 0, 0⟩ : ApiSize), []⟩ : ApiProgram), [], p47193, r47216)
        else
          if p47196.length + ([(p47195.length : Int)]).length ≤ 1000000000 then
            (some (p47196 ++ ([(p47195.length : Int)]))).bind fun l47217 =>
            (rungeval_EdgeCount n x47210).bind fun r47219 =>
            if p47195.length + r47212.length ≤ 1000000000 then
              (some (p47195 ++ r47212)).bind fun l47220 =>
              if l47220.length + r47215.length ≤ 1000000000 then
                (some (l47220 ++ r47215)).bind fun l47221 =>
                if (!(decide (x47210.Jump = (⟨#[]⟩ : Str)))) = true then
                  if l47221.length + ([(⟨15, (⟨0, 0⟩ : ApiAddr), 0⟩ : ApiIns)]).length ≤ 1000000000 then
                    (some (l47221 ++ ([(⟨15, (⟨0, 0⟩ : ApiAddr), 0⟩ : ApiIns)]))).bind fun l47222 =>
                    (codegen_whole_L4 n _append0 rec_n4) (mPut p47191 x47210.Label (p47195.length : Int)) (mPut p47192 (l47221.length : Int) x47210.Jump) (IntKind.i64.wrap (p47193 + 1)) (IntKind.i64.wrap (p47194 + r47219)) l47222 l47217
                  else none
                else
                  (codegen_whole_L4 n _append0 rec_n4) (mPut p47191 x47210.Label (p47195.length : Int)) p47192 (IntKind.i64.wrap (p47193 + 1)) (IntKind.i64.wrap (p47194 + r47219)) l47221 l47217
              else none
            else none
          else none
    else
      codegen_whole_J1 n _append0 p47191 p47192 p47194 p47195 p47196

def codegen_whole (n : Nat) (_append0 : ApiLadder) : Option (ApiProgram × (List Int) × Int × Int) :=
  (printer_Check n _append0).bind fun ⟨r42159, r42160⟩ =>
  if (r42160 != 0) = true then
    some ((⟨(⟨0, 0, 0, 0⟩ : ApiSize), []⟩ : ApiProgram), [], r42159, r42160)
  else
    codegen_whole_L4 n _append0 n ([]) ([]) 0 0 ([]) ([])

def codegen_Ladder (n : Nat) (l0 : ApiLadder) : Option (ApiProgram × Int × Int) :=
  (codegen_whole n l0).bind fun ⟨r47224, r47225, r47226, r47227⟩ =>
  some (r47224, r47226, r47227)

def slices_Equal_api_Ins_L1 (s10 : List ApiIns) (s21 : List ApiIns) : Nat → Int → Option (Bool)
  | 0, _ => none
  | rec_n1 + 1, p47235 =>
    if (decide (p47235 < (s10.length : Int))) = true then
      (atI s10 p47235).bind fun x47238 =>
      (atI s21 p47235).bind fun x47239 =>
      if (!((x47238.Op == x47239.Op) && ((x47238.A.Space == x47239.A.Space) && ((x47238.A.N == x47239.A.N) && (x47238.N == x47239.N))))) = true then
        some false
      else
        (slices_Equal_api_Ins_L1 s10 s21 rec_n1) (IntKind.i64.wrap (p47235 + 1))
    else
      some true

def slices_Equal_api_Ins (n : Nat) (s10 : List ApiIns) (s21 : List ApiIns) : Option (Bool) :=
  if ((s10.length : Int) != (s21.length : Int)) = true then
    some false
  else
    slices_Equal_api_Ins_L1 s10 s21 n 0

def law17_alive (n : Nat) : Option (Bool) :=
  (law17_example n ).bind fun r31568 =>
  (some ([r31568])).bind fun l31569 =>
  (codegen_Ladder n (⟨2, 1, 0, l31569⟩ : ApiLadder)).bind fun ⟨r47229, r47230, r47231⟩ =>
  if (r47231 == 0) = true then
    if (r47230 == 1) = true then
      (some ([(⟨0, (⟨0, 0⟩ : ApiAddr), 0⟩ : ApiIns), (⟨3, (⟨0, 1⟩ : ApiAddr), 0⟩ : ApiIns), (⟨11, (⟨1, 0⟩ : ApiAddr), 0⟩ : ApiIns), (⟨16, (⟨0, 0⟩ : ApiAddr), 0⟩ : ApiIns)])).bind fun l47232 =>
      (slices_Equal_api_Ins n r47229.Code l47232).bind fun r47241 =>
      some r47241
    else
      some false
  else
    some false

def law17_CodegenWithoutPush_L2 (n : Nat) (_append0 : List Int) (a1 : Bool) (r47265 : List ApiIns) : Nat → Int → Option (Bool)
  | 0, _ => none
  | rec_n2 + 1, p47273 =>
    if (decide (p47273 < (r47265.length : Int))) = true then
      (atI r47265 p47273).bind fun x47282 =>
      (atI _append0 p47273).bind fun x47283 =>
      if (decide (p47273 > 0)) = true then
        if (!((x47282.Op == (IntKind.i64.wrap ((IntKind.i64.wrap ((x47283.tmod 2))) + ((mGet (mPut (mPut ([]) false 2) true 4) a1).getD 0)))) && ((x47282.A.Space == 0) && ((x47282.A.N == p47273) && (x47282.N == 0))))) = true then
          some false
        else
          (law17_CodegenWithoutPush_L2 n _append0 a1 r47265 rec_n2) (IntKind.i64.wrap (p47273 + 1))
      else
        if (!((x47282.Op == (IntKind.i64.wrap ((x47283.tmod 2)))) && ((x47282.A.Space == 0) && ((x47282.A.N == p47273) && (x47282.N == 0))))) = true then
          some false
        else
          (law17_CodegenWithoutPush_L2 n _append0 a1 r47265 rec_n2) (IntKind.i64.wrap (p47273 + 1))
    else
      (law17_alive n ).bind fun r47285 =>
      some r47285

def law17_CodegenWithoutPush_J1 (n : Nat) (_append0 : List Int) (a1 : Bool) (p47262 : List TreeTree) (p47263 : List ApiContact) : Option (Bool) :=
  (codegen_Tree n (⟨(⟨#[]⟩ : Str), p47263, [], (⟨#[]⟩ : Str)⟩ : ApiRung) (⟨((mGet (mPut (mPut ([]) false 1) true 2) a1).getD 0), 0, p47262⟩ : TreeTree) 0).bind fun ⟨r47265, r47266⟩ =>
  if (r47266 != 0) = true then
    some false
  else
    if ((r47265.length : Int) != (_append0.length : Int)) = true then
      some false
    else
      law17_CodegenWithoutPush_L2 n _append0 a1 r47265 n 0

def law17_CodegenWithoutPush_L3 (n : Nat) (_append0 : List Int) (a1 : Bool) : Nat → Int → (List TreeTree) → (List ApiContact) → Option (Bool)
  | 0, _, _, _ => none
  | rec_n3 + 1, p47289, p47290, p47291 =>
    if (decide (p47289 < (_append0.length : Int))) = true then
      (atI _append0 p47289).bind fun x47295 =>
      if p47290.length + ([(⟨0, p47289, ([] : List TreeTree)⟩ : TreeTree)]).length ≤ 1000000000 then
        (some (p47290 ++ ([(⟨0, p47289, ([] : List TreeTree)⟩ : TreeTree)]))).bind fun l47296 =>
        if p47291.length + ([(⟨(IntKind.i64.wrap ((x47295.tmod 2))), (⟨0, p47289⟩ : ApiAddr), (⟨#[]⟩ : Str), (⟨#[]⟩ : Str)⟩ : ApiContact)]).length ≤ 1000000000 then
          (some (p47291 ++ ([(⟨(IntKind.i64.wrap ((x47295.tmod 2))), (⟨0, p47289⟩ : ApiAddr), (⟨#[]⟩ : Str), (⟨#[]⟩ : Str)⟩ : ApiContact)]))).bind fun l47297 =>
          (law17_CodegenWithoutPush_L3 n _append0 a1 rec_n3) (IntKind.i64.wrap (p47289 + 1)) l47296 l47297
        else none
      else none
    else
      law17_CodegenWithoutPush_J1 n _append0 a1 p47290 p47291

def law17_CodegenWithoutPush (n : Nat) (_append0 : List Int) (a1 : Bool) : Option (Bool) :=
  if (decide ((_append0.length : Int) < 2)) = true then
    (law17_alive n ).bind fun r47247 =>
    some r47247
  else
    if (decide ((_append0.length : Int) > 60)) = true then
      (law17_alive n ).bind fun r47249 =>
      some r47249
    else
      law17_CodegenWithoutPush_L3 n _append0 a1 n 0 ([]) ([])

end Go.G
