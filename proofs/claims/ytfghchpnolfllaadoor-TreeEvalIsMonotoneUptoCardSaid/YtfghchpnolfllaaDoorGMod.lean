/- Models of functions of the program. -/
import Derived.Test.YtfghchpnolfllaaDoorGTy
set_option linter.unusedSimpArgs false
set_option linter.unusedVariables false
set_option linter.unusedSectionVars false
namespace Go.G
open Go.Av
def law14_weight_L1 (t0 : TreeTree) (deep1 : Int) (slf_law14_weight : TreeTree → Int → Option (Int)) : Nat → Int → Int → Option (Int)
  | 0, _, _ => none
  | rec_n1 + 1, p4, p5 =>
    if (decide (p4 < (t0.Kids.length : Int))) = true then
      (atI t0.Kids p4).bind fun x9 =>
      (slf_law14_weight x9 (IntKind.i64.wrap (deep1 + 1))).bind fun r11 =>
      if (decide ((IntKind.i64.wrap (p5 + r11)) > 1000)) = true then
        some 1001
      else
        (law14_weight_L1 t0 deep1 slf_law14_weight rec_n1) (IntKind.i64.wrap (p4 + 1)) (IntKind.i64.wrap (p5 + r11))
    else
      some p5

def law14_weight : Nat → TreeTree → Int → Option (Int)
  | 0, _, _ => none
  | n + 1, t0, deep1 =>
  if (decide (deep1 > 40)) = true then
    some 1001
  else
    law14_weight_L1 t0 deep1 (law14_weight n) n 0 1

def law14_TooLarge (n : Nat) (t0 : TreeTree) : Option (Int) :=
  (law14_weight n t0 0).bind fun r13 =>
  if (decide (r13 > 1000)) = true then
    some 1
  else
    some 0

def law14_example (n : Nat) : Option (TreeTree) :=
  (some ([(⟨0, 1, ([] : List TreeTree)⟩ : TreeTree), (⟨0, 2, ([] : List TreeTree)⟩ : TreeTree)])).bind fun l181 =>
  (some ([(⟨0, 0, ([] : List TreeTree)⟩ : TreeTree), (⟨2, 0, l181⟩ : TreeTree), (⟨0, 3, ([] : List TreeTree)⟩ : TreeTree)])).bind fun l182 =>
  some (⟨1, 0, l182⟩ : TreeTree)

def tree_Tree_check_1 (n : Nat) (k0 : TreeTree) (b0 : TreeTree) : Option (Bool) :=
  some (k0.Kind == b0.Kind)

def slices_IndexFunc_tree_Tree_c37_L1 (n : Nat) (s0 : List TreeTree) (b0 : TreeTree) : Nat → Int → Option (Int)
  | 0, _ => none
  | rec_n1 + 1, p199 =>
    if (decide (p199 < (s0.length : Int))) = true then
      (atI s0 p199).bind fun x203 =>
      (tree_Tree_check_1 n x203 b0).bind fun r205 =>
      if r205 = true then
        some p199
      else
        (slices_IndexFunc_tree_Tree_c37_L1 n s0 b0 rec_n1) (IntKind.i64.wrap (p199 + 1))
    else
      some (-1)

def slices_IndexFunc_tree_Tree_c37 (n : Nat) (s0 : List TreeTree) (b0 : TreeTree) : Option (Int) :=
  slices_IndexFunc_tree_Tree_c37_L1 n s0 b0 n 0

def slices_ContainsFunc_tree_Tree_c37 (n : Nat) (s0 : List TreeTree) (b0 : TreeTree) : Option (Bool) :=
  (slices_IndexFunc_tree_Tree_c37 n s0 b0).bind fun r209 =>
  some (decide (r209 ≥ 0))

def tree_Tree_check_L2 (_append0 : TreeTree) (a1 : Int) (slf_tree_Tree_check : TreeTree → Int → (List (Int × Bool)) → Option (Int × (List (Int × Bool)))) : Nat → (List (Int × Bool)) → Int → Option (Int × (List (Int × Bool)))
  | 0, _, _ => none
  | rec_n2 + 1, m252, p253 =>
    if (decide (p253 < (_append0.Kids.length : Int))) = true then
      (atI _append0.Kids p253).bind fun x258 =>
      (slf_tree_Tree_check x258 a1 m252).bind fun ⟨r260, q261⟩ =>
      if (r260 != 0) = true then
        some (r260, q261)
      else
        (tree_Tree_check_L2 _append0 a1 slf_tree_Tree_check rec_n2) q261 (IntKind.i64.wrap (p253 + 1))
    else
      some (0, m252)

def tree_Tree_check_J1 (n : Nat) (_append0 : TreeTree) (a1 : Int) (m0 : List (Int × Bool)) (slf_tree_Tree_check : TreeTree → Int → (List (Int × Bool)) → Option (Int × (List (Int × Bool)))) : Option (Int × (List (Int × Bool))) :=
  tree_Tree_check_L2 _append0 a1 slf_tree_Tree_check n m0 0

def tree_Tree_check : Nat → TreeTree → Int → (List (Int × Bool)) → Option (Int × (List (Int × Bool)))
  | 0, _, _, _ => none
  | n + 1, _append0, a1, m0 =>
  if (decide (_append0.Kind < 0)) = true then
    some (8, m0)
  else
    if (decide (_append0.Kind > 2)) = true then
      some (8, m0)
    else
      if (_append0.Kind == 0) = true then
        if (decide ((_append0.Kids.length : Int) > 0)) = true then
          some (2, m0)
        else
          if (_append0.Kind != 0) = true then
            if (_append0.N != 0) = true then
              some (2, m0)
            else
              if (decide (_append0.N < 0)) = true then
                some (3, m0)
              else
                if (decide (_append0.N ≥ a1)) = true then
                  some (3, m0)
                else
                  if ((mGet m0 _append0.N).getD false) = true then
                    some (9, m0)
                  else
                    some (0, (mPut m0 _append0.N true))
          else
            if (decide (_append0.N < 0)) = true then
              some (3, m0)
            else
              if (decide (_append0.N ≥ a1)) = true then
                some (3, m0)
              else
                if ((mGet m0 _append0.N).getD false) = true then
                  some (9, m0)
                else
                  some (0, (mPut m0 _append0.N true))
      else
        if (_append0.Kind != 0) = true then
          if (_append0.N != 0) = true then
            some (2, m0)
          else
            if (decide ((_append0.Kids.length : Int) < 2)) = true then
              some (5, m0)
            else
              (slices_ContainsFunc_tree_Tree_c37 n _append0.Kids _append0).bind fun r263 =>
              if r263 = true then
                some (14, m0)
              else
                tree_Tree_check_J1 n _append0 a1 m0 (tree_Tree_check n)
        else
          if (decide ((_append0.Kids.length : Int) < 2)) = true then
            some (5, m0)
          else
            (slices_ContainsFunc_tree_Tree_c37 n _append0.Kids _append0).bind fun r265 =>
            if r265 = true then
              some (14, m0)
            else
              tree_Tree_check_J1 n _append0 a1 m0 (tree_Tree_check n)

def tree_Check (n : Nat) (t0 : TreeTree) (many1 : Int) : Option (Int) :=
  (tree_Tree_check n t0 many1 ([])).bind fun ⟨r267, q268⟩ =>
  if (r267 == 0) = true then
    if (((q268.length : Nat) : Int) != (imax 0 many1)) = true then
      some 4
    else
      some r267
  else
    some r267

def tree_Tree_eval_1 (slf_tree_Tree_eval : TreeTree → (List Bool) → Option (Bool)) (n : Nat) (k0 : TreeTree) (b0 : List Bool) : Option (Bool) :=
  (slf_tree_Tree_eval k0 b0).bind fun r275 =>
  some r275

def tree_Tree_eval_2_c34 (slf_tree_Tree_eval : TreeTree → (List Bool) → Option (Bool)) (n : Nat) (k0 : TreeTree) (b1 : List Bool) : Option (Bool) :=
  (tree_Tree_eval_1 slf_tree_Tree_eval n k0 b1).bind fun r279 =>
  some (!r279)

def slices_IndexFunc_tree_Tree_c36_34_L1 (n : Nat) (s0 : List TreeTree) (b1 : List Bool) (slf_tree_Tree_eval : TreeTree → (List Bool) → Option (Bool)) : Nat → Int → Option (Int)
  | 0, _ => none
  | rec_n1 + 1, p292 =>
    if (decide (p292 < (s0.length : Int))) = true then
      (atI s0 p292).bind fun x296 =>
      (tree_Tree_eval_2_c34 slf_tree_Tree_eval n x296 b1).bind fun r298 =>
      if r298 = true then
        some p292
      else
        (slices_IndexFunc_tree_Tree_c36_34_L1 n s0 b1 slf_tree_Tree_eval rec_n1) (IntKind.i64.wrap (p292 + 1))
    else
      some (-1)

def slices_IndexFunc_tree_Tree_c36_34 (slf_tree_Tree_eval : TreeTree → (List Bool) → Option (Bool)) (n : Nat) (s0 : List TreeTree) (b1 : List Bool) : Option (Int) :=
  slices_IndexFunc_tree_Tree_c36_34_L1 n s0 b1 slf_tree_Tree_eval n 0

def slices_ContainsFunc_tree_Tree_c36_34 (slf_tree_Tree_eval : TreeTree → (List Bool) → Option (Bool)) (n : Nat) (s0 : List TreeTree) (b1 : List Bool) : Option (Bool) :=
  (slices_IndexFunc_tree_Tree_c36_34 slf_tree_Tree_eval n s0 b1).bind fun r302 =>
  some (decide (r302 ≥ 0))

def slices_IndexFunc_tree_Tree_c34_L1 (n : Nat) (s0 : List TreeTree) (b0 : List Bool) (slf_tree_Tree_eval : TreeTree → (List Bool) → Option (Bool)) : Nat → Int → Option (Int)
  | 0, _ => none
  | rec_n1 + 1, p318 =>
    if (decide (p318 < (s0.length : Int))) = true then
      (atI s0 p318).bind fun x322 =>
      (tree_Tree_eval_1 slf_tree_Tree_eval n x322 b0).bind fun r324 =>
      if r324 = true then
        some p318
      else
        (slices_IndexFunc_tree_Tree_c34_L1 n s0 b0 slf_tree_Tree_eval rec_n1) (IntKind.i64.wrap (p318 + 1))
    else
      some (-1)

def slices_IndexFunc_tree_Tree_c34 (slf_tree_Tree_eval : TreeTree → (List Bool) → Option (Bool)) (n : Nat) (s0 : List TreeTree) (b0 : List Bool) : Option (Int) :=
  slices_IndexFunc_tree_Tree_c34_L1 n s0 b0 slf_tree_Tree_eval n 0

def slices_ContainsFunc_tree_Tree_c34 (slf_tree_Tree_eval : TreeTree → (List Bool) → Option (Bool)) (n : Nat) (s0 : List TreeTree) (b0 : List Bool) : Option (Bool) :=
  (slices_IndexFunc_tree_Tree_c34 slf_tree_Tree_eval n s0 b0).bind fun r328 =>
  some (decide (r328 ≥ 0))

def tree_Tree_eval : Nat → TreeTree → (List Bool) → Option (Bool)
  | 0, _, _ => none
  | n + 1, t0, on1 =>
  if (t0.Kind == 1) = true then
    (slices_ContainsFunc_tree_Tree_c36_34 (tree_Tree_eval n) n t0.Kids on1).bind fun r304 =>
    some (!r304)
  else
    if (t0.Kind == 2) = true then
      (slices_ContainsFunc_tree_Tree_c34 (tree_Tree_eval n) n t0.Kids on1).bind fun r330 =>
      some r330
    else
      (atI on1 t0.N).bind fun x331 =>
      some x331

def tree_Eval (n : Nat) (t0 : TreeTree) (on1 : List Bool) : Option (Bool × Int) :=
  (tree_Check n t0 (on1.length : Int)).bind fun r270 =>
  if (r270 != 0) = true then
    some (false, r270)
  else
    (tree_Tree_eval n t0 on1).bind fun r333 =>
    some (r333, 0)

def tree_Tree_depth_L1 (t0 : TreeTree) (edge1 : List Bool) (slf_tree_Tree_depth : TreeTree → (List Bool) → Option (Int)) : Nat → Int → Int → Option (Int)
  | 0, _, _ => none
  | rec_n1 + 1, p356, p357 =>
    if (decide (p356 < (t0.Kids.length : Int))) = true then
      (atI t0.Kids p356).bind fun x366 =>
      if (p356 == 0) = true then
        (slf_tree_Tree_depth x366 edge1).bind fun r368 =>
        (tree_Tree_depth_L1 t0 edge1 slf_tree_Tree_depth rec_n1) (IntKind.i64.wrap (p356 + 1)) r368
      else
        if (x366.Kind != 0) = true then
          (slf_tree_Tree_depth x366 edge1).bind fun r370 =>
          (tree_Tree_depth_L1 t0 edge1 slf_tree_Tree_depth rec_n1) (IntKind.i64.wrap (p356 + 1)) (imax p357 (IntKind.i64.wrap (1 + r370)))
        else
          (atI edge1 x366.N).bind fun x371 =>
          if x371 = true then
            (slf_tree_Tree_depth x366 edge1).bind fun r373 =>
            (tree_Tree_depth_L1 t0 edge1 slf_tree_Tree_depth rec_n1) (IntKind.i64.wrap (p356 + 1)) (imax p357 (IntKind.i64.wrap (1 + r373)))
          else
            (tree_Tree_depth_L1 t0 edge1 slf_tree_Tree_depth rec_n1) (IntKind.i64.wrap (p356 + 1)) p357
    else
      some p357

def tree_Tree_depth : Nat → TreeTree → (List Bool) → Option (Int)
  | 0, _, _ => none
  | n + 1, t0, edge1 =>
  tree_Tree_depth_L1 t0 edge1 (tree_Tree_depth n) n 0 0

def tree_StackDepth (n : Nat) (t0 : TreeTree) (edge1 : List Bool) : Option (Int × Int) :=
  (tree_Check n t0 (edge1.length : Int)).bind fun r347 =>
  if (r347 != 0) = true then
    some (0, r347)
  else
    (tree_Tree_depth n t0 edge1).bind fun r375 =>
    some (r375, 0)

def strconv_Itoa (n : Nat) (i : Int) : Option Str := if 0 ≤ i ∧ i < 100 then some (dec2 i.toNat) else none

def strings_Join (n : Nat) (l : List Str) (sep : Str) : Option Str := if l.length ≤ 140737488355328 ∧ (joinS l sep).size ≤ 140737488355328 then some (joinS l sep) else none

def tree_Format_J2 (n : Nat) (p411 : List Str) : Option (Str) :=
  (strings_Join n p411 (⟨#[32]⟩ : Str)).bind fun r413 =>
  if (Utf8.encode 0).size + r413.size ≤ 1000000000 then
    if ((Utf8.encode 0) ++ r413).size + (Utf8.encode 0).size ≤ 1000000000 then
      some (((Utf8.encode 0) ++ r413) ++ (Utf8.encode 0))
    else none
  else none

def tree_Format_L3 (n : Nat) (t0 : TreeTree) (slf_tree_Format : TreeTree → Option (Str)) : Nat → Int → (List Str) → Option (Str)
  | 0, _, _ => none
  | rec_n3 + 1, p418, p419 =>
    if (decide (p418 < (t0.Kids.length : Int))) = true then
      (atI t0.Kids p418).bind fun x424 =>
      (slf_tree_Format x424).bind fun r426 =>
      if p419.length + ([r426]).length ≤ 1000000000 then
        (some (p419 ++ ([r426]))).bind fun l427 =>
        (tree_Format_L3 n t0 slf_tree_Format rec_n3) (IntKind.i64.wrap (p418 + 1)) l427
      else none
    else
      tree_Format_J2 n p419

def tree_Format_J4 (n : Nat) (p442 : List Str) : Option (Str) :=
  (strings_Join n p442 (⟨#[32]⟩ : Str)).bind fun r444 =>
  if (Utf8.encode 91).size + r444.size ≤ 1000000000 then
    if ((Utf8.encode 91) ++ r444).size + (Utf8.encode 93).size ≤ 1000000000 then
      some (((Utf8.encode 91) ++ r444) ++ (Utf8.encode 93))
    else none
  else none

def tree_Format_L5 (n : Nat) (t0 : TreeTree) (slf_tree_Format : TreeTree → Option (Str)) : Nat → Int → (List Str) → Option (Str)
  | 0, _, _ => none
  | rec_n5 + 1, p449, p450 =>
    if (decide (p449 < (t0.Kids.length : Int))) = true then
      (atI t0.Kids p449).bind fun x455 =>
      (slf_tree_Format x455).bind fun r457 =>
      if p450.length + ([r457]).length ≤ 1000000000 then
        (some (p450 ++ ([r457]))).bind fun l458 =>
        (tree_Format_L5 n t0 slf_tree_Format rec_n5) (IntKind.i64.wrap (p449 + 1)) l458
      else none
    else
      tree_Format_J4 n p450

def tree_Format_J6 (n : Nat) (p473 : List Str) : Option (Str) :=
  (strings_Join n p473 (⟨#[32]⟩ : Str)).bind fun r475 =>
  if (Utf8.encode 123).size + r475.size ≤ 1000000000 then
    if ((Utf8.encode 123) ++ r475).size + (Utf8.encode 125).size ≤ 1000000000 then
      some (((Utf8.encode 123) ++ r475) ++ (Utf8.encode 125))
    else none
  else none

def tree_Format_L7 (n : Nat) (t0 : TreeTree) (slf_tree_Format : TreeTree → Option (Str)) : Nat → Int → (List Str) → Option (Str)
  | 0, _, _ => none
  | rec_n7 + 1, p480, p481 =>
    if (decide (p480 < (t0.Kids.length : Int))) = true then
      (atI t0.Kids p480).bind fun x486 =>
      (slf_tree_Format x486).bind fun r488 =>
      if p481.length + ([r488]).length ≤ 1000000000 then
        (some (p481 ++ ([r488]))).bind fun l489 =>
        (tree_Format_L7 n t0 slf_tree_Format rec_n7) (IntKind.i64.wrap (p480 + 1)) l489
      else none
    else
      tree_Format_J6 n p481

def tree_Format_J1 (n : Nat) (t0 : TreeTree) (slf_tree_Format : TreeTree → Option (Str)) : Option (Str) :=
  if t0.Kind = 0 then
    tree_Format_L3 n t0 slf_tree_Format n 0 ([])
  else
    if t0.Kind = 1 then
      tree_Format_L5 n t0 slf_tree_Format n 0 ([])
    else
      if t0.Kind = 2 then
        tree_Format_L7 n t0 slf_tree_Format n 0 ([])
      else
        none

def tree_Format : Nat → TreeTree → Option (Str)
  | 0, _ => none
  | n + 1, t0 =>
  if (t0.Kind == 0) = true then
    (strconv_Itoa n t0.N).bind fun r396 =>
    some r396
  else
    if (t0.Kind != 1) = true then
      if (t0.Kind != 2) = true then
        some (⟨#[]⟩ : Str)
      else
        tree_Format_J1 n t0 (tree_Format n)
    else
      tree_Format_J1 n t0 (tree_Format n)

def law14_alive (n : Nat) : Option (Bool) :=
  (law14_example n ).bind fun r184 =>
  (some ([true, false, true, true])).bind fun l185 =>
  (tree_Eval n r184 l185).bind fun ⟨r335, r336⟩ =>
  (law14_example n ).bind fun r338 =>
  (some ([true, false, false, true])).bind fun l339 =>
  (tree_Eval n r338 l339).bind fun ⟨r341, r342⟩ =>
  (law14_example n ).bind fun r344 =>
  if 0 ≤ 4 ∧ 4 ≤ 4 ∧ 4 ≤ 1000000000 then
    (some (List.replicate 4 false)).bind fun l345 =>
    (tree_StackDepth n r344 l345).bind fun ⟨r377, r378⟩ =>
    if (r336 == 0) = true then
      if r335 = true then
        if (r342 == 0) = true then
          if (!r341) = true then
            if (r378 == 0) = true then
              if (r377 == 1) = true then
                (law14_example n ).bind fun r380 =>
                (tree_Format n r380).bind fun r491 =>
                some (decide (r491 = (⟨#[91, 48, 32, 123, 49, 32, 50, 125, 32, 51, 93]⟩ : Str)))
              else
                some false
            else
              some false
          else
            some false
        else
          some false
      else
        some false
    else
      some false
  else none

def law14_Of_L1 (t0 : TreeTree) (slf_law14_Of : TreeTree → Option (Ref14Tree)) : Nat → Int → (List Ref14Tree) → Option (Ref14Tree)
  | 0, _, _ => none
  | rec_n1 + 1, p520, p521 =>
    if (decide (p520 < (t0.Kids.length : Int))) = true then
      (atI t0.Kids p520).bind fun x526 =>
      (slf_law14_Of x526).bind fun r528 =>
      if p521.length + ([r528]).length ≤ 1000000000 then
        (some (p521 ++ ([r528]))).bind fun l529 =>
        (law14_Of_L1 t0 slf_law14_Of rec_n1) (IntKind.i64.wrap (p520 + 1)) l529
      else none
    else
      some (⟨t0.Kind, t0.N, p521⟩ : Ref14Tree)

def law14_Of : Nat → TreeTree → Option (Ref14Tree)
  | 0, _ => none
  | n + 1, t0 =>
  law14_Of_L1 t0 (law14_Of n) n 0 ([])

def ref14_check_v2_L1 (_append0 : Ref14Tree) (l0 : List Int) : Nat → Int → Option (Int × (List Int))
  | 0, _ => none
  | rec_n1 + 1, p700 =>
    if (decide (p700 < (l0.length : Int))) = true then
      (atI l0 p700).bind fun x705 =>
      if (x705 == _append0.N) = true then
        some (9, l0)
      else
        (ref14_check_v2_L1 _append0 l0 rec_n1) (IntKind.i64.wrap (p700 + 1))
    else
      if l0.length + ([_append0.N]).length ≤ 1000000000 then
        (some (l0 ++ ([_append0.N]))).bind fun l706 =>
        some (0, l706)
      else none

def ref14_check_v2_L3 (_append0 : Ref14Tree) (a1 : Int) (slf_ref14_check_v2 : Ref14Tree → Int → (List Int) → Option (Int × (List Int))) : Nat → Int → (List Int) → Option (Int × (List Int))
  | 0, _, _ => none
  | rec_n3 + 1, p719, l720 =>
    if (decide (p719 < (_append0.Kids.length : Int))) = true then
      (atI _append0.Kids p719).bind fun x725 =>
      (slf_ref14_check_v2 x725 a1 l720).bind fun ⟨r727, q728⟩ =>
      if (r727 != 0) = true then
        some (r727, q728)
      else
        (ref14_check_v2_L3 _append0 a1 slf_ref14_check_v2 rec_n3) (IntKind.i64.wrap (p719 + 1)) q728
    else
      some (0, l720)

def ref14_check_v2_J2 (n : Nat) (_append0 : Ref14Tree) (a1 : Int) (l0 : List Int) (slf_ref14_check_v2 : Ref14Tree → Int → (List Int) → Option (Int × (List Int))) : Option (Int × (List Int)) :=
  ref14_check_v2_L3 _append0 a1 slf_ref14_check_v2 n 0 l0

def ref14_check_v2_L4 (n : Nat) (_append0 : Ref14Tree) (a1 : Int) (l0 : List Int) (slf_ref14_check_v2 : Ref14Tree → Int → (List Int) → Option (Int × (List Int))) : Nat → Int → Option (Int × (List Int))
  | 0, _ => none
  | rec_n4 + 1, p730 =>
    if (decide (p730 < (_append0.Kids.length : Int))) = true then
      (atI _append0.Kids p730).bind fun x732 =>
      if (x732.Kind == _append0.Kind) = true then
        some (14, l0)
      else
        (ref14_check_v2_L4 n _append0 a1 l0 slf_ref14_check_v2 rec_n4) (IntKind.i64.wrap (p730 + 1))
    else
      ref14_check_v2_J2 n _append0 a1 l0 slf_ref14_check_v2

def ref14_check_v2 : Nat → Ref14Tree → Int → (List Int) → Option (Int × (List Int))
  | 0, _, _, _ => none
  | n + 1, _append0, a1, l0 =>
  if (decide (_append0.Kind < 0)) = true then
    some (8, l0)
  else
    if (decide (_append0.Kind > 2)) = true then
      some (8, l0)
    else
      if (_append0.Kind == 0) = true then
        if (decide ((_append0.Kids.length : Int) > 0)) = true then
          some (2, l0)
        else
          if (decide (_append0.N < 0)) = true then
            some (3, l0)
          else
            if (decide (_append0.N ≥ a1)) = true then
              some (3, l0)
            else
              ref14_check_v2_L1 _append0 l0 n 0
      else
        if (_append0.N != 0) = true then
          some (2, l0)
        else
          if (decide ((_append0.Kids.length : Int) < 2)) = true then
            some (5, l0)
          else
            ref14_check_v2_L4 n _append0 a1 l0 (ref14_check_v2 n) n 0

def ref14_check_o1_v1_L1 (_append0 : Ref14Tree) (l0 : List Int) : Nat → Int → Option (Int × (List Int))
  | 0, _ => none
  | rec_n1 + 1, p768 =>
    if (decide (p768 < (l0.length : Int))) = true then
      (atI l0 p768).bind fun x773 =>
      if (x773 == _append0.N) = true then
        some (9, l0)
      else
        (ref14_check_o1_v1_L1 _append0 l0 rec_n1) (IntKind.i64.wrap (p768 + 1))
    else
      if l0.length + ([_append0.N]).length ≤ 1000000000 then
        (some (l0 ++ ([_append0.N]))).bind fun l774 =>
        some (0, l774)
      else none

def ref14_check_o1_v1_L3 (n : Nat) (_append0 : Ref14Tree) (a1 : Int) : Nat → Int → (List Int) → Option (Int × (List Int))
  | 0, _, _ => none
  | rec_n3 + 1, p787, l788 =>
    if (decide (p787 < (_append0.Kids.length : Int))) = true then
      (atI _append0.Kids p787).bind fun x793 =>
      (ref14_check_v2 n x793 a1 l788).bind fun ⟨r795, q796⟩ =>
      if (r795 != 0) = true then
        some (r795, q796)
      else
        (ref14_check_o1_v1_L3 n _append0 a1 rec_n3) (IntKind.i64.wrap (p787 + 1)) q796
    else
      some (0, l788)

def ref14_check_o1_v1_J2 (n : Nat) (_append0 : Ref14Tree) (a1 : Int) (l0 : List Int) : Option (Int × (List Int)) :=
  ref14_check_o1_v1_L3 n _append0 a1 n 0 l0

def ref14_check_o1_v1_L4 (n : Nat) (_append0 : Ref14Tree) (a1 : Int) (l0 : List Int) : Nat → Int → Option (Int × (List Int))
  | 0, _ => none
  | rec_n4 + 1, p798 =>
    if (decide (p798 < (_append0.Kids.length : Int))) = true then
      (atI _append0.Kids p798).bind fun x800 =>
      if (x800.Kind == _append0.Kind) = true then
        some (14, l0)
      else
        (ref14_check_o1_v1_L4 n _append0 a1 l0 rec_n4) (IntKind.i64.wrap (p798 + 1))
    else
      ref14_check_o1_v1_J2 n _append0 a1 l0

def ref14_check_o1_v1 (n : Nat) (_append0 : Ref14Tree) (a1 : Int) (l0 : List Int) : Option (Int × (List Int)) :=
  if (decide (_append0.Kind < 0)) = true then
    some (8, l0)
  else
    if (decide (_append0.Kind > 2)) = true then
      some (8, l0)
    else
      if (_append0.Kind == 0) = true then
        if (decide ((_append0.Kids.length : Int) > 0)) = true then
          some (2, l0)
        else
          if (decide (_append0.N < 0)) = true then
            some (3, l0)
          else
            if (decide (_append0.N ≥ a1)) = true then
              some (3, l0)
            else
              ref14_check_o1_v1_L1 _append0 l0 n 0
      else
        if (_append0.N != 0) = true then
          some (2, l0)
        else
          if (decide ((_append0.Kids.length : Int) < 2)) = true then
            some (5, l0)
          else
            ref14_check_o1_v1_L4 n _append0 a1 l0 n 0

def ref14_check_o1_L1 (_append0 : Ref14Tree) : Nat → Option (Int × (List Int))
  | 0 => none
  | rec_n1 + 1 =>
    if (decide (0 < 0)) = true then
      none
    else
      if ([_append0.N]).length ≤ 1000000000 then
        (some ([_append0.N])).bind fun l572 =>
        some (0, l572)
      else none

def ref14_check_o1_L3 (n : Nat) (_append0 : Ref14Tree) (a1 : Int) : Nat → Int → (List Int) → Option (Int × (List Int))
  | 0, _, _ => none
  | rec_n3 + 1, p581, p582 =>
    if (decide (p581 < (_append0.Kids.length : Int))) = true then
      (atI _append0.Kids p581).bind fun x804 =>
      (ref14_check_o1_v1 n x804 a1 p582).bind fun ⟨r806, q807⟩ =>
      if (r806 != 0) = true then
        some (r806, q807)
      else
        (ref14_check_o1_L3 n _append0 a1 rec_n3) (IntKind.i64.wrap (p581 + 1)) q807
    else
      some (0, p582)

def ref14_check_o1_J2 (n : Nat) (_append0 : Ref14Tree) (a1 : Int) : Option (Int × (List Int)) :=
  ref14_check_o1_L3 n _append0 a1 n 0 ([])

def ref14_check_o1_L4 (n : Nat) (_append0 : Ref14Tree) (a1 : Int) : Nat → Int → Option (Int × (List Int))
  | 0, _ => none
  | rec_n4 + 1, p809 =>
    if (decide (p809 < (_append0.Kids.length : Int))) = true then
      (atI _append0.Kids p809).bind fun x811 =>
      if (x811.Kind == _append0.Kind) = true then
        some (14, [])
      else
        (ref14_check_o1_L4 n _append0 a1 rec_n4) (IntKind.i64.wrap (p809 + 1))
    else
      ref14_check_o1_J2 n _append0 a1

def ref14_check_o1 : Nat → Ref14Tree → Int → Option (Int × (List Int))
  | 0, _, _ => none
  | n + 1, _append0, a1 =>
  if (decide (_append0.Kind < 0)) = true then
    some (8, [])
  else
    if (decide (_append0.Kind > 2)) = true then
      some (8, [])
    else
      if (_append0.Kind == 0) = true then
        if (decide ((_append0.Kids.length : Int) > 0)) = true then
          some (2, [])
        else
          if (decide (_append0.N < 0)) = true then
            some (3, [])
          else
            if (decide (_append0.N ≥ a1)) = true then
              some (3, [])
            else
              ref14_check_o1_L1 _append0 n 
      else
        if (_append0.N != 0) = true then
          some (2, [])
        else
          if (decide ((_append0.Kids.length : Int) < 2)) = true then
            some (5, [])
          else
            ref14_check_o1_L4 n _append0 a1 n 0

def ref14_check_v1_L1 (_append0 : Ref14Tree) : Nat → Option (Int × (List Int))
  | 0 => none
  | rec_n1 + 1 =>
    if (decide (0 < 0)) = true then
      none
    else
      if ([_append0.N]).length ≤ 1000000000 then
        some (0, [_append0.N])
      else none

def ref14_check_v1_L3 (n : Nat) (_append0 : Ref14Tree) (a1 : Int) : Nat → Int → (List Int) → Option (Int × (List Int))
  | 0, _, _ => none
  | rec_n3 + 1, p815, p816 =>
    if (decide (p815 < (_append0.Kids.length : Int))) = true then
      (atI _append0.Kids p815).bind fun x821 =>
      (ref14_check_o1_v1 n x821 a1 p816).bind fun ⟨r823, q824⟩ =>
      if (r823 != 0) = true then
        some (r823, q824)
      else
        (ref14_check_v1_L3 n _append0 a1 rec_n3) (IntKind.i64.wrap (p815 + 1)) q824
    else
      some (0, p816)

def ref14_check_v1_J2 (n : Nat) (_append0 : Ref14Tree) (a1 : Int) : Option (Int × (List Int)) :=
  ref14_check_v1_L3 n _append0 a1 n 0 ([])

def ref14_check_v1_L4 (n : Nat) (_append0 : Ref14Tree) (a1 : Int) : Nat → Int → Option (Int × (List Int))
  | 0, _ => none
  | rec_n4 + 1, p826 =>
    if (decide (p826 < (_append0.Kids.length : Int))) = true then
      (atI _append0.Kids p826).bind fun x828 =>
      if (x828.Kind == _append0.Kind) = true then
        some (14, [])
      else
        (ref14_check_v1_L4 n _append0 a1 rec_n4) (IntKind.i64.wrap (p826 + 1))
    else
      ref14_check_v1_J2 n _append0 a1

def ref14_check_v1 : Nat → Ref14Tree → Int → Option (Int × (List Int))
  | 0, _, _ => none
  | n + 1, _append0, a1 =>
  if (decide (_append0.Kind < 0)) = true then
    some (8, [])
  else
    if (decide (_append0.Kind > 2)) = true then
      some (8, [])
    else
      if (_append0.Kind == 0) = true then
        if (decide ((_append0.Kids.length : Int) > 0)) = true then
          some (2, [])
        else
          if (decide (_append0.N < 0)) = true then
            some (3, [])
          else
            if (decide (_append0.N ≥ a1)) = true then
              some (3, [])
            else
              ref14_check_v1_L1 _append0 n 
      else
        if (_append0.N != 0) = true then
          some (2, [])
        else
          if (decide ((_append0.Kids.length : Int) < 2)) = true then
            some (5, [])
          else
            ref14_check_v1_L4 n _append0 a1 n 0

def ref14_Check_J1 (n : Nat) (t0 : Ref14Tree) (p532 : Int) : Option (Int) :=
  (ref14_check_v1 n t0 p532).bind fun ⟨r830, r831⟩ =>
  if (r830 != 0) = true then
    some r830
  else
    if ((r831.length : Int) != p532) = true then
      some 4
    else
      some 0

def ref14_Check (n : Nat) (t0 : Ref14Tree) (many1 : Int) : Option (Int) :=
  if (decide (many1 < 0)) = true then
    ref14_Check_J1 n t0 0
  else
    ref14_Check_J1 n t0 many1

def ref14_Eval_J1 (t0 : Ref14Tree) (p855 : Int) : Option (Bool) :=
  if (t0.Kind == 1) = true then
    some (p855 == (t0.Kids.length : Int))
  else
    some (decide (p855 > 0))

def ref14_Eval_L2 (t0 : Ref14Tree) (on1 : List Bool) (slf_ref14_Eval : Ref14Tree → (List Bool) → Option (Bool)) : Nat → Int → Int → Option (Bool)
  | 0, _, _ => none
  | rec_n2 + 1, p859, p860 =>
    if (decide (p860 < (t0.Kids.length : Int))) = true then
      (atI t0.Kids p860).bind fun x864 =>
      (slf_ref14_Eval x864 on1).bind fun r866 =>
      if r866 = true then
        (ref14_Eval_L2 t0 on1 slf_ref14_Eval rec_n2) (IntKind.i64.wrap (p859 + 1)) (IntKind.i64.wrap (p860 + 1))
      else
        (ref14_Eval_L2 t0 on1 slf_ref14_Eval rec_n2) p859 (IntKind.i64.wrap (p860 + 1))
    else
      ref14_Eval_J1 t0 p859

def ref14_Eval : Nat → Ref14Tree → (List Bool) → Option (Bool)
  | 0, _, _ => none
  | n + 1, t0, on1 =>
  if (t0.Kind == 0) = true then
    (atI on1 t0.N).bind fun x843 =>
    some x843
  else
    ref14_Eval_L2 t0 on1 (ref14_Eval n) n 0 0

def ref14_StackDepth_J2 (edge1 : List Bool) (p880 : Int) (r881 : Int) (loop_1_ref14_StackDepth : Int → Int → Option (Int)) (x890 : Ref14Tree) (slf_ref14_StackDepth : Ref14Tree → (List Bool) → Option (Int)) : Option (Int) :=
  (slf_ref14_StackDepth x890 edge1).bind fun r896 =>
  if (decide ((IntKind.i64.wrap (1 + r896)) > r881)) = true then
    loop_1_ref14_StackDepth (IntKind.i64.wrap (p880 + 1)) (IntKind.i64.wrap (1 + r896))
  else
    loop_1_ref14_StackDepth (IntKind.i64.wrap (p880 + 1)) r881

def ref14_StackDepth_L1 (t0 : Ref14Tree) (edge1 : List Bool) (slf_ref14_StackDepth : Ref14Tree → (List Bool) → Option (Int)) : Nat → Int → Int → Option (Int)
  | 0, _, _ => none
  | rec_n1 + 1, p880, r881 =>
    if (decide (p880 < (t0.Kids.length : Int))) = true then
      (atI t0.Kids p880).bind fun x890 =>
      if (x890.Kind == 0) = true then
        (atI edge1 x890.N).bind fun x897 =>
        if (!x897) = true then
          (ref14_StackDepth_L1 t0 edge1 slf_ref14_StackDepth rec_n1) (IntKind.i64.wrap (p880 + 1)) r881
        else
          ref14_StackDepth_J2 edge1 p880 r881 (ref14_StackDepth_L1 t0 edge1 slf_ref14_StackDepth rec_n1) x890 slf_ref14_StackDepth
      else
        ref14_StackDepth_J2 edge1 p880 r881 (ref14_StackDepth_L1 t0 edge1 slf_ref14_StackDepth rec_n1) x890 slf_ref14_StackDepth
    else
      some r881

def ref14_StackDepth : Nat → Ref14Tree → (List Bool) → Option (Int)
  | 0, _, _ => none
  | n + 1, t0, edge1 =>
  if (t0.Kind == 0) = true then
    some 0
  else
    (atI t0.Kids 0).bind fun x869 =>
    ((ref14_StackDepth n) x869 edge1).bind fun r871 =>
    ref14_StackDepth_L1 t0 edge1 (ref14_StackDepth n) n 1 r871

def law14_TreeEvalMatchesReference (n : Nat) (_append0 : TreeTree) (a1 : List Bool) : Option (Bool) :=
  (law14_TooLarge n _append0).bind fun r497 =>
  if (decide (r497 > 0)) = true then
    (law14_alive n ).bind fun r499 =>
    some r499
  else
    if (decide ((a1.length : Int) > 1000)) = true then
      (law14_alive n ).bind fun r501 =>
      some r501
    else
      (tree_Eval n _append0 a1).bind fun ⟨r503, r504⟩ =>
      (tree_StackDepth n _append0 a1).bind fun ⟨r506, r507⟩ =>
      (law14_Of n _append0).bind fun r531 =>
      (ref14_Check n r531 (a1.length : Int)).bind fun r837 =>
      if (r837 != 0) = true then
        (law14_alive n ).bind fun r839 =>
        if r839 = true then
          if (!r503) = true then
            if (r506 == 0) = true then
              if (r504 == r837) = true then
                some (r507 == r837)
              else
                some false
            else
              some false
          else
            some false
        else
          some false
      else
        (law14_alive n ).bind fun r841 =>
        if r841 = true then
          if (r504 == 0) = true then
            if (r507 == 0) = true then
              (ref14_Eval n r531 a1).bind fun r868 =>
              if (r503 == r868) = true then
                (ref14_StackDepth n r531 a1).bind fun r899 =>
                some (r506 == r899)
              else
                some false
            else
              some false
          else
            some false
        else
          some false

def law14_TreeEvalIsMonotone_J1 (n : Nat) (_append0 : TreeTree) (a1 : List Bool) (r941 : Bool) (r950 : Bool) (r951 : Int) (r954 : Bool) (r955 : Int) (l964 : List Bool) : Option (Bool) :=
  (tree_Eval n _append0 l964).bind fun ⟨r966, r967⟩ =>
  (tree_StackDepth n _append0 a1).bind fun ⟨r969, r970⟩ =>
  (tree_StackDepth n _append0 l964).bind fun ⟨r972, r973⟩ =>
  (law14_alive n ).bind fun r975 =>
  if r975 = true then
    if (r951 == 0) = true then
      if (r955 == 0) = true then
        if (r967 == 0) = true then
          if (r970 == 0) = true then
            if (r973 == 0) = true then
              if (!r941) = true then
                if (!r954) = true then
                  if r966 = true then
                    if (decide (r969 ≤ r972)) = true then
                      if (decide (r972 < (a1.length : Int))) = true then
                        some (decide (r969 ≥ 0))
                      else
                        some false
                    else
                      some false
                  else
                    some false
                else
                  some false
              else
                if r950 = true then
                  if (!r954) = true then
                    if r966 = true then
                      if (decide (r969 ≤ r972)) = true then
                        if (decide (r972 < (a1.length : Int))) = true then
                          some (decide (r969 ≥ 0))
                        else
                          some false
                      else
                        some false
                    else
                      some false
                  else
                    some false
                else
                  some false
            else
              some false
          else
            some false
        else
          some false
      else
        some false
    else
      some false
  else
    some false

def law14_TreeEvalIsMonotone_L2 (n : Nat) (_append0 : TreeTree) (a1 : List Bool) (r941 : Bool) (r950 : Bool) (r951 : Int) (r954 : Bool) (r955 : Int) : Nat → (List Bool) → Int → Option (Bool)
  | 0, _, _ => none
  | rec_n2 + 1, l978, p979 =>
    if (decide (p979 < (a1.length : Int))) = true then
      (atI l978 p979).bind fun x982 =>
      (some (l978.set p979.toNat true)).bind fun l983 =>
      (law14_TreeEvalIsMonotone_L2 n _append0 a1 r941 r950 r951 r954 r955 rec_n2) l983 (IntKind.i64.wrap (p979 + 1))
    else
      law14_TreeEvalIsMonotone_J1 n _append0 a1 r941 r950 r951 r954 r955 l978

def law14_TreeEvalIsMonotone (n : Nat) (_append0 : TreeTree) (a1 : List Bool) (a2 : Int) : Option (Bool) :=
  (law14_TooLarge n _append0).bind fun r933 =>
  if (decide (r933 > 0)) = true then
    (law14_alive n ).bind fun r935 =>
    some r935
  else
    if (decide ((a1.length : Int) > 1000)) = true then
      (law14_alive n ).bind fun r937 =>
      some r937
    else
      if ((a1.length : Int) == 0) = true then
        (law14_alive n ).bind fun r939 =>
        some r939
      else
        (tree_Eval n _append0 a1).bind fun ⟨r941, r942⟩ =>
        if (r942 != 0) = true then
          (law14_alive n ).bind fun r946 =>
          some r946
        else
          if a1.length ≤ 1000000000 then
            if (a1.length : Int) ≠ 0 then
              (atI a1 ((IntKind.i64.wrap (a2)).tmod (a1.length : Int))).bind fun x947 =>
              (some (a1.set (((IntKind.i64.wrap (a2)).tmod (a1.length : Int)).toNat) true)).bind fun l948 =>
              (tree_Eval n _append0 l948).bind fun ⟨r950, r951⟩ =>
              if 0 ≤ (a1.length : Int) ∧ (a1.length : Int) ≤ (a1.length : Int) ∧ (a1.length : Int) ≤ 1000000000 then
                (some (List.replicate a1.length false)).bind fun l952 =>
                (tree_Eval n _append0 l952).bind fun ⟨r954, r955⟩ =>
                law14_TreeEvalIsMonotone_L2 n _append0 a1 r941 r950 r951 r954 r955 n l952 0
              else none
            else none
          else none

def law14_turned_L1 (t0 : TreeTree) (slf_law14_turned : TreeTree → Option (TreeTree)) : Nat → Int → (List TreeTree) → Option (TreeTree)
  | 0, _, _ => none
  | rec_n1 + 1, p1069, p1070 =>
    if (decide (p1069 < (t0.Kids.length : Int))) = true then
      (atI t0.Kids (IntKind.i64.wrap ((IntKind.i64.wrap ((t0.Kids.length : Int) - 1)) - p1069))).bind fun x1075 =>
      (slf_law14_turned x1075).bind fun r1077 =>
      if p1070.length + ([r1077]).length ≤ 1000000000 then
        (some (p1070 ++ ([r1077]))).bind fun l1078 =>
        (law14_turned_L1 t0 slf_law14_turned rec_n1) (IntKind.i64.wrap (p1069 + 1)) l1078
      else none
    else
      some (⟨t0.Kind, t0.N, p1070⟩ : TreeTree)

def law14_turned : Nat → TreeTree → Option (TreeTree)
  | 0, _ => none
  | n + 1, t0 =>
  law14_turned_L1 t0 (law14_turned n) n 0 ([])

def law14_TreeComposition_1 (n : Nat) (kind0 : Int) (b0 : TreeTree) (b1 : TreeTree) : Option (TreeTree) :=
  if (b0.Kind == kind0) = true then
    if b0.Kids.length ≤ 1000000000 then
      if b0.Kids.length + ([b1]).length ≤ 1000000000 then
        (some (b0.Kids ++ ([b1]))).bind fun l1087 =>
        some (⟨kind0, 0, l1087⟩ : TreeTree)
      else none
    else none
  else
    (some ([b0, b1])).bind fun l1088 =>
    some (⟨kind0, 0, l1088⟩ : TreeTree)

def law14_TreeComposition (n : Nat) (_append0 : TreeTree) (a1 : List Bool) (a2 : Bool) : Option (Bool) :=
  (law14_TooLarge n _append0).bind fun r1045 =>
  if (decide (r1045 > 0)) = true then
    (law14_alive n ).bind fun r1047 =>
    some r1047
  else
    if (decide ((a1.length : Int) > 500)) = true then
      (law14_alive n ).bind fun r1049 =>
      some r1049
    else
      (tree_Check n _append0 (a1.length : Int)).bind fun r1051 =>
      if (r1051 != 0) = true then
        (law14_alive n ).bind fun r1053 =>
        some r1053
      else
        (tree_Eval n _append0 a1).bind fun ⟨r1055, r1056⟩ =>
        (law14_turned n _append0).bind fun r1080 =>
        (tree_Eval n r1080 a1).bind fun ⟨r1082, r1083⟩ =>
        if a1.length ≤ 1000000000 then
          if a1.length + ([a2]).length ≤ 1000000000 then
            (some (a1 ++ ([a2]))).bind fun l1084 =>
            (law14_TreeComposition_1 n 2 _append0 (⟨0, (a1.length : Int), []⟩ : TreeTree)).bind fun r1090 =>
            (tree_Eval n r1090 l1084).bind fun ⟨r1092, r1093⟩ =>
            (law14_TreeComposition_1 n 1 _append0 (⟨0, (a1.length : Int), []⟩ : TreeTree)).bind fun r1095 =>
            (tree_Eval n r1095 l1084).bind fun ⟨r1097, r1098⟩ =>
            (law14_alive n ).bind fun r1100 =>
            if r1100 = true then
              if (r1056 == 0) = true then
                if (r1083 == 0) = true then
                  if (r1093 == 0) = true then
                    if (r1098 == 0) = true then
                      if (r1055 == r1082) = true then
                        if r1055 = true then
                          if r1092 = true then
                            some (r1097 == a2)
                          else
                            some false
                        else
                          if (r1092 == a2) = true then
                            some (!r1097)
                          else
                            some false
                      else
                        some false
                    else
                      some false
                  else
                    some false
                else
                  some false
              else
                some false
            else
              some false
          else none
        else none

def law14_TreeDepthBounds_J1 (n : Nat) (_append0 : TreeTree) (a1 : List Bool) (r1144 : Int) (r1145 : Int) (r1147 : Int) (r1148 : Int) (l1158 : List Bool) : Option (Bool) :=
  (tree_StackDepth n _append0 l1158).bind fun ⟨r1160, r1161⟩ =>
  (law14_alive n ).bind fun r1163 =>
  if r1163 = true then
    if (r1145 == 0) = true then
      if (r1148 == 0) = true then
        if (r1161 == 0) = true then
          if (decide (r1144 ≤ r1147)) = true then
            if (decide (r1147 ≤ r1160)) = true then
              if (decide (r1160 ≤ (IntKind.i64.wrap (r1144 + 1)))) = true then
                if (decide ((a1.length : Int) < 2)) = true then
                  some true
                else
                  some (decide (r1160 ≥ 1))
              else
                some false
            else
              some false
          else
            some false
        else
          some false
      else
        some false
    else
      some false
  else
    some false

def law14_TreeDepthBounds_L2 (n : Nat) (_append0 : TreeTree) (a1 : List Bool) (r1144 : Int) (r1145 : Int) (r1147 : Int) (r1148 : Int) : Nat → Int → (List Bool) → Option (Bool)
  | 0, _, _ => none
  | rec_n2 + 1, p1166, l1167 =>
    if (decide (p1166 < (a1.length : Int))) = true then
      (atI l1167 p1166).bind fun x1170 =>
      (some (l1167.set p1166.toNat true)).bind fun l1171 =>
      (law14_TreeDepthBounds_L2 n _append0 a1 r1144 r1145 r1147 r1148 rec_n2) (IntKind.i64.wrap (p1166 + 1)) l1171
    else
      law14_TreeDepthBounds_J1 n _append0 a1 r1144 r1145 r1147 r1148 l1167

def law14_TreeDepthBounds (n : Nat) (_append0 : TreeTree) (a1 : List Bool) : Option (Bool) :=
  (law14_TooLarge n _append0).bind fun r1133 =>
  if (decide (r1133 > 0)) = true then
    (law14_alive n ).bind fun r1135 =>
    some r1135
  else
    if (decide ((a1.length : Int) > 500)) = true then
      (law14_alive n ).bind fun r1137 =>
      some r1137
    else
      (tree_Check n _append0 (a1.length : Int)).bind fun r1139 =>
      if (r1139 != 0) = true then
        (law14_alive n ).bind fun r1141 =>
        some r1141
      else
        if 0 ≤ (a1.length : Int) ∧ (a1.length : Int) ≤ (a1.length : Int) ∧ (a1.length : Int) ≤ 1000000000 then
          (some (List.replicate a1.length false)).bind fun l1142 =>
          (tree_StackDepth n _append0 l1142).bind fun ⟨r1144, r1145⟩ =>
          (tree_StackDepth n _append0 a1).bind fun ⟨r1147, r1148⟩ =>
          if 0 ≤ (a1.length : Int) ∧ (a1.length : Int) ≤ (a1.length : Int) ∧ (a1.length : Int) ≤ 1000000000 then
            (some (List.replicate a1.length false)).bind fun l1149 =>
            law14_TreeDepthBounds_L2 n _append0 a1 r1144 r1145 r1147 r1148 n 0 l1149
          else none
        else none

def tree_Leaves_L2 (t0 : TreeTree) (slf_tree_Leaves : TreeTree → Option ((List Int))) : Nat → Int → (List Int) → Option ((List Int))
  | 0, _, _ => none
  | rec_n2 + 1, p1213, p1214 =>
    if (decide (p1213 < (t0.Kids.length : Int))) = true then
      (atI t0.Kids p1213).bind fun x1219 =>
      (slf_tree_Leaves x1219).bind fun r1221 =>
      if p1214.length + r1221.length ≤ 1000000000 then
        (some (p1214 ++ r1221)).bind fun l1222 =>
        (tree_Leaves_L2 t0 slf_tree_Leaves rec_n2) (IntKind.i64.wrap (p1213 + 1)) l1222
      else none
    else
      some p1214

def tree_Leaves_J1 (n : Nat) (t0 : TreeTree) (slf_tree_Leaves : TreeTree → Option ((List Int))) (p1209 : Bool) : Option ((List Int)) :=
  if p1209 = true then
    tree_Leaves_L2 t0 slf_tree_Leaves n 0 ([])
  else
    some ([])

def tree_Leaves : Nat → TreeTree → Option ((List Int))
  | 0, _ => none
  | n + 1, t0 =>
  if (t0.Kind == 0) = true then
    (some ([t0.N])).bind fun l1208 =>
    some l1208
  else
    if (t0.Kind == 1) = true then
      tree_Leaves_J1 n t0 (tree_Leaves n) (t0.Kind == 1)
    else
      tree_Leaves_J1 n t0 (tree_Leaves n) (t0.Kind == 2)

def ref14_Leaves_L2 (t0 : Ref14Tree) (slf_ref14_Leaves : Ref14Tree → Option ((List Int))) : Nat → (List Int) → Int → Option ((List Int))
  | 0, _, _ => none
  | rec_n2 + 1, p1240, p1241 =>
    if (decide (p1241 < (t0.Kids.length : Int))) = true then
      (atI t0.Kids p1241).bind fun x1246 =>
      (slf_ref14_Leaves x1246).bind fun r1248 =>
      if p1240.length + r1248.length ≤ 1000000000 then
        (some (p1240 ++ r1248)).bind fun l1249 =>
        (ref14_Leaves_L2 t0 slf_ref14_Leaves rec_n2) l1249 (IntKind.i64.wrap (p1241 + 1))
      else none
    else
      some p1240

def ref14_Leaves_J1 (n : Nat) (t0 : Ref14Tree) (slf_ref14_Leaves : Ref14Tree → Option ((List Int))) : Option ((List Int)) :=
  ref14_Leaves_L2 t0 slf_ref14_Leaves n ([]) 0

def ref14_Leaves : Nat → Ref14Tree → Option ((List Int))
  | 0, _ => none
  | n + 1, t0 =>
  if (t0.Kind == 0) = true then
    (some ([t0.N])).bind fun l1236 =>
    some l1236
  else
    if (t0.Kind != 1) = true then
      if (t0.Kind != 2) = true then
        some ([])
      else
        ref14_Leaves_J1 n t0 (ref14_Leaves n)
    else
      ref14_Leaves_J1 n t0 (ref14_Leaves n)

def slices_Equal_int_L1 (s10 : List Int) (s21 : List Int) : Nat → Int → Option (Bool)
  | 0, _ => none
  | rec_n1 + 1, p1254 =>
    if (decide (p1254 < (s10.length : Int))) = true then
      (atI s10 p1254).bind fun x1257 =>
      (atI s21 p1254).bind fun x1258 =>
      if (x1257 != x1258) = true then
        some false
      else
        (slices_Equal_int_L1 s10 s21 rec_n1) (IntKind.i64.wrap (p1254 + 1))
    else
      some true

def slices_Equal_int (n : Nat) (s10 : List Int) (s21 : List Int) : Option (Bool) :=
  if ((s10.length : Int) != (s21.length : Int)) = true then
    some false
  else
    slices_Equal_int_L1 s10 s21 n 0

def slices_EqualFunc_tree_Tree_c22_L1 (s10 : List TreeTree) (s21 : List TreeTree) (slf_tree_Equal : TreeTree → TreeTree → Option (Bool)) : Nat → Int → Option (Bool)
  | 0, _ => none
  | rec_n1 + 1, p1265 =>
    if (decide (p1265 < (s10.length : Int))) = true then
      (atI s10 p1265).bind fun x1270 =>
      (atI s21 p1265).bind fun x1271 =>
      (slf_tree_Equal x1270 x1271).bind fun r1273 =>
      if (!r1273) = true then
        some false
      else
        (slices_EqualFunc_tree_Tree_c22_L1 s10 s21 slf_tree_Equal rec_n1) (IntKind.i64.wrap (p1265 + 1))
    else
      some true

def slices_EqualFunc_tree_Tree_c22 (slf_tree_Equal : TreeTree → TreeTree → Option (Bool)) (n : Nat) (s10 : List TreeTree) (s21 : List TreeTree) : Option (Bool) :=
  if ((s10.length : Int) != (s21.length : Int)) = true then
    some false
  else
    slices_EqualFunc_tree_Tree_c22_L1 s10 s21 slf_tree_Equal n 0

def tree_Equal : Nat → TreeTree → TreeTree → Option (Bool)
  | 0, _, _ => none
  | n + 1, a0, b1 =>
  if (a0.Kind == b1.Kind) = true then
    if (a0.N == b1.N) = true then
      (slices_EqualFunc_tree_Tree_c22 (tree_Equal n) n a0.Kids b1.Kids).bind fun r1275 =>
      some r1275
    else
      some false
  else
    some false

def ref14_Equal_L1 (a0 : Ref14Tree) (b1 : Ref14Tree) (slf_ref14_Equal : Ref14Tree → Ref14Tree → Option (Bool)) : Nat → Int → Option (Bool)
  | 0, _ => none
  | rec_n1 + 1, p1282 =>
    if (decide (p1282 < (a0.Kids.length : Int))) = true then
      (atI a0.Kids p1282).bind fun x1287 =>
      (atI b1.Kids p1282).bind fun x1288 =>
      (slf_ref14_Equal x1287 x1288).bind fun r1290 =>
      if (!r1290) = true then
        some false
      else
        (ref14_Equal_L1 a0 b1 slf_ref14_Equal rec_n1) (IntKind.i64.wrap (p1282 + 1))
    else
      some true

def ref14_Equal : Nat → Ref14Tree → Ref14Tree → Option (Bool)
  | 0, _, _ => none
  | n + 1, a0, b1 =>
  if (a0.Kind != b1.Kind) = true then
    some false
  else
    if (a0.N != b1.N) = true then
      some false
    else
      if ((a0.Kids.length : Int) != (b1.Kids.length : Int)) = true then
        some false
      else
        ref14_Equal_L1 a0 b1 (ref14_Equal n) n 0

def law14_TreeCheckMatchesReference (n : Nat) (t0 : TreeTree) (u1 : TreeTree) (many2 : Int) : Option (Bool) :=
  (law14_TooLarge n t0).bind fun r1181 =>
  if (decide (r1181 > 0)) = true then
    (law14_alive n ).bind fun r1183 =>
    some r1183
  else
    (law14_TooLarge n u1).bind fun r1185 =>
    if (decide (r1185 > 0)) = true then
      (law14_alive n ).bind fun r1187 =>
      some r1187
    else
      (law14_Of n t0).bind fun r1189 =>
      (law14_Of n u1).bind fun r1191 =>
      (law14_alive n ).bind fun r1193 =>
      if r1193 = true then
        (tree_Check n t0 many2).bind fun r1195 =>
        (ref14_Check n r1189 many2).bind fun r1197 =>
        if (r1195 == r1197) = true then
          (tree_Leaves n t0).bind fun r1224 =>
          (ref14_Leaves n r1189).bind fun r1251 =>
          (slices_Equal_int n r1224 r1251).bind fun r1260 =>
          if r1260 = true then
            (tree_Equal n t0 u1).bind fun r1277 =>
            (ref14_Equal n r1189 r1191).bind fun r1292 =>
            if (r1277 == r1292) = true then
              (tree_Equal n t0 t0).bind fun r1294 =>
              some r1294
            else
              some false
          else
            some false
        else
          some false
      else
        some false

end Go.G
