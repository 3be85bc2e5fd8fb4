/- Models of functions of the program. -/
import Derived.Test.YtcpbhkplgnhmkaaGTy
set_option linter.unusedSimpArgs false
set_option linter.unusedVariables false
set_option linter.unusedSectionVars false
namespace Go.G
open Go.Av
def law12_TooLarge_J1 (r_0 : ApiRung) (p299 : Int) : Option (Int) :=
  if (decide (p299 > 2000)) = true then
    some 1
  else
    if (decide ((r_0.Contacts.length : Int) > 60)) = true then
      some 1
    else
      some 0

def law12_TooLarge_L2 (r_0 : ApiRung) : Nat → Int → Int → Option (Int)
  | 0, _, _ => none
  | rec_n2 + 1, p301, p302 =>
    if (decide (p302 < (r_0.Contacts.length : Int))) = true then
      (atI r_0.Contacts p302).bind fun x304 =>
      (law12_TooLarge_L2 r_0 rec_n2) (IntKind.i64.wrap (p301 + (IntKind.i64.wrap ((IntKind.i64.wrap (1 + (x304.From.size : Int))) + (x304.To.size : Int))))) (IntKind.i64.wrap (p302 + 1))
    else
      law12_TooLarge_J1 r_0 p301

def law12_TooLarge (n : Nat) (r_0 : ApiRung) : Option (Int) :=
  law12_TooLarge_L2 r_0 n 0 0

def slices_Clone_bool (n : Nat) (s0 : List Bool) : Option ((List Bool)) :=
  isnilM s0 (
    some ([])) (
    if s0.length ≤ 1000000000 then
      some s0
    else none)

def slices_Clone_bool_o0 (n : Nat) (s0 : List Bool) : Option ((List Bool)) :=
  isnilM s0 (
    some ([])) (
    if s0.length ≤ 1000000000 then
      some s0
    else none)

def state_Clone_o2 (n : Nat) (st0 : ApiState) : Option (ApiState) :=
  (slices_Clone_bool n st0.Q).bind fun r353 =>
  (slices_Clone_bool n st0.M).bind fun r355 =>
  (slices_Clone_bool_o0 n st0.E).bind fun r361 =>
  some (⟨r353, r355, r361⟩ : ApiState)

def image_is (n : Nat) (l0 : List Bool) (n_1 : Int) : Option (Bool) :=
  if (decide (n_1 ≥ 0)) = true then
    some (decide (n_1 < (l0.length : Int)))
  else
    some false

def image_Get (n : Nat) (l0 : List Bool) (n_1 : Int) : Option (Bool × Int) :=
  (image_is n l0 n_1).bind fun r367 =>
  if (!r367) = true then
    some (false, 3)
  else
    (atI l0 n_1).bind fun x368 =>
    some (x368, 0)

def state_Read (n : Nat) (in0 : List Bool) (st1 : ApiState) (a2 : ApiAddr) : Option (Bool × Int) :=
  if (decide (a2.Space < 0)) = true then
    some (false, 8)
  else
    if (decide (a2.Space ≥ 3)) = true then
      some (false, 8)
    else
      if a2.Space = 0 then
        (image_Get n in0 a2.N).bind fun ⟨r370, r371⟩ =>
        some (r370, r371)
      else
        if a2.Space = 1 then
          (image_Get n st1.Q a2.N).bind fun ⟨r373, r374⟩ =>
          some (r373, r374)
        else
          if a2.Space = 2 then
            (image_Get n st1.M a2.N).bind fun ⟨r376, r377⟩ =>
            some (r376, r377)
          else
            none

def rungeval_sees (n : Nat) (c0 : ApiContact) : Option (Bool) :=
  if (c0.Kind == 2) = true then
    some true
  else
    some (c0.Kind == 3)

def rungeval_conducting (n : Nat) (kind0 : Int) (v1 : Bool) (was2 : Bool) : Option (Bool) :=
  if v1 = true then
    if kind0 = 0 then
      some v1
    else
      if kind0 = 1 then
        some (!v1)
      else
        if kind0 = 2 then
          some (!was2)
        else
          if kind0 = 3 then
            some false
          else
            none
  else
    if kind0 = 0 then
      some v1
    else
      if kind0 = 1 then
        some (!v1)
      else
        if kind0 = 2 then
          some false
        else
          if kind0 = 3 then
            some was2
          else
            none

def rungeval_Contacts_J2 (n : Nat) (l397 : List Bool) (p398 : Int) (loop_1_rungeval_Contacts : (List Bool) → (List Bool) → Int → Int → Option ((List Bool) × ApiState × Int)) (x419 : ApiContact) (r421 : Bool) (l427 : List Bool) (x428 : Bool) (p429 : Int) : Option ((List Bool) × ApiState × Int) :=
  (rungeval_conducting n x419.Kind r421 x428).bind fun r431 =>
  (atI l397 p398).bind fun x432 =>
  (some (l397.set p398.toNat r431)).bind fun l433 =>
  loop_1_rungeval_Contacts l427 l433 (IntKind.i64.wrap (p398 + 1)) p429

def rungeval_Contacts_L1 (n : Nat) (_append0 : ApiRung) (a1 : List Bool) (a2 : ApiState) (r363 : ApiState) : Nat → (List Bool) → (List Bool) → Int → Int → Option ((List Bool) × ApiState × Int)
  | 0, _, _, _, _ => none
  | rec_n1 + 1, p396, l397, p398, a399 =>
    if (decide (p398 < (_append0.Contacts.length : Int))) = true then
      (atI _append0.Contacts p398).bind fun x419 =>
      if (decide (x419.Kind < 0)) = true then
        some ([], (⟨[], [], []⟩ : ApiState), 8)
      else
        if (decide (x419.Kind ≥ 4)) = true then
          some ([], (⟨[], [], []⟩ : ApiState), 8)
        else
          (state_Read n a1 a2 x419.A).bind fun ⟨r421, r422⟩ =>
          if (r422 != 0) = true then
            some ([], (⟨[], [], []⟩ : ApiState), r422)
          else
            (rungeval_sees n x419).bind fun r435 =>
            if r435 = true then
              if (decide (a399 < 0)) = true then
                some ([], (⟨[], [], []⟩ : ApiState), 3)
              else
                if (decide (a399 ≥ (p396.length : Int))) = true then
                  some ([], (⟨[], [], []⟩ : ApiState), 3)
                else
                  (atI p396 a399).bind fun x436 =>
                  (some (p396.set a399.toNat r421)).bind fun l437 =>
                  rungeval_Contacts_J2 n l397 p398 (rungeval_Contacts_L1 n _append0 a1 a2 r363 rec_n1) x419 r421 l437 x436 (IntKind.i64.wrap (a399 + 1))
            else
              rungeval_Contacts_J2 n l397 p398 (rungeval_Contacts_L1 n _append0 a1 a2 r363 rec_n1) x419 r421 p396 false a399
    else
      some (l397, (⟨r363.Q, r363.M, p396⟩ : ApiState), 0)

def rungeval_Contacts (n : Nat) (_append0 : ApiRung) (a1 : List Bool) (a2 : ApiState) (a3 : Int) : Option ((List Bool) × ApiState × Int) :=
  (state_Clone_o2 n a2).bind fun r363 =>
  if 0 ≤ (_append0.Contacts.length : Int) ∧ (_append0.Contacts.length : Int) ≤ (_append0.Contacts.length : Int) ∧ (_append0.Contacts.length : Int) ≤ 1000000000 then
    (some (List.replicate _append0.Contacts.length false)).bind fun l364 =>
    rungeval_Contacts_L1 n _append0 a1 a2 r363 n r363.E l364 0 a3
  else none

def rungeval_Conducts_L2 (r_0 : ApiRung) (on1 : List Bool) (loop_1_rungeval_Conducts : Nat → (List (Str × Bool)) → (List Str) → Option (Bool × Int)) (x479 : Str) : Nat → Int → (List (Str × Bool)) → (List Str) → Nat → Option (Bool × Int)
  | 0, _, _, _, _ => none
  | rec_n2 + 1, p483, p484, l485, p486 =>
    if (decide (p483 < (r_0.Contacts.length : Int))) = true then
      (atI r_0.Contacts p483).bind fun x490 =>
      (atI on1 p483).bind fun x491 =>
      if x491 = true then
        if (decide (x490.From = x479)) = true then
          if (!((mGet p484 x490.To).getD false)) = true then
            if (l485.length - p486) + ([x490.To]).length ≤ 1000000000 ∧ p486 ≤ l485.length then
              (some ((l485.drop p486) ++ ([x490.To]))).bind fun l492 =>
              (rungeval_Conducts_L2 r_0 on1 loop_1_rungeval_Conducts x479 rec_n2) (IntKind.i64.wrap (p483 + 1)) (mPut p484 x490.To true) l492 0
            else none
          else
            (rungeval_Conducts_L2 r_0 on1 loop_1_rungeval_Conducts x479 rec_n2) (IntKind.i64.wrap (p483 + 1)) p484 l485 p486
        else
          (rungeval_Conducts_L2 r_0 on1 loop_1_rungeval_Conducts x479 rec_n2) (IntKind.i64.wrap (p483 + 1)) p484 l485 p486
      else
        (rungeval_Conducts_L2 r_0 on1 loop_1_rungeval_Conducts x479 rec_n2) (IntKind.i64.wrap (p483 + 1)) p484 l485 p486
    else
      loop_1_rungeval_Conducts p486 p484 l485

def rungeval_Conducts_L1 (n : Nat) (r_0 : ApiRung) (on1 : List Bool) : Nat → Nat → (List (Str × Bool)) → (List Str) → Option (Bool × Int)
  | 0, _, _, _ => none
  | rec_n1 + 1, p462, p463, l464 =>
    if (decide ((((l464.length - p462) : Nat) : Int) > 0)) = true then
      (atI (l464.drop p462) 0).bind fun x479 =>
      if 0 ≤ 1 ∧ 1 ≤ (((l464.length - p462) : Nat) : Int) ∧ (((l464.length - p462) : Nat) : Int) ≤ (((l464.length - p462) : Nat) : Int) then
        rungeval_Conducts_L2 r_0 on1 (rungeval_Conducts_L1 n r_0 on1 rec_n1) x479 n 0 p463 l464 (p462 + 1)
      else none
    else
      some (((mGet p463 (⟨#[82]⟩ : Str)).getD false), 0)

def rungeval_Conducts (n : Nat) (r_0 : ApiRung) (on1 : List Bool) : Option (Bool × Int) :=
  if ((on1.length : Int) != (r_0.Contacts.length : Int)) = true then
    some (false, 2)
  else
    (some ([(⟨#[76]⟩ : Str)])).bind fun l447 =>
    rungeval_Conducts_L1 n r_0 on1 n 0 (mPut ([]) (⟨#[76]⟩ : Str) true) l447

def state_Clone (n : Nat) (st0 : ApiState) : Option (ApiState) :=
  (slices_Clone_bool n st0.Q).bind fun r497 =>
  (slices_Clone_bool n st0.M).bind fun r499 =>
  (slices_Clone_bool n st0.E).bind fun r501 =>
  some (⟨r497, r499, r501⟩ : ApiState)

def rungeval_writes (n : Nat) (kind0 : Int) (on1 : Bool) : Option (Bool × Bool) :=
  if kind0 = 0 then
    some (on1, true)
  else
    if kind0 = 1 then
      some ((!on1), true)
    else
      if kind0 = 2 then
        some (true, on1)
      else
        if kind0 = 3 then
          some (false, on1)
        else
          none

def image_Set (n : Nat) (l0 : List Bool) (n_1 : Int) (v2 : Bool) : Option ((List Bool) × Int) :=
  (image_is n l0 n_1).bind fun r513 =>
  if (!r513) = true then
    some ([], 3)
  else
    if 0 ≤ (l0.length : Int) ∧ (l0.length : Int) ≤ (l0.length : Int) ∧ (l0.length : Int) ≤ 1000000000 then
      (some (List.replicate l0.length false)).bind fun l514 =>
      (some (l0.take (min l0.length l0.length) ++ l514.drop (min l0.length l0.length))).bind fun l515 =>
      (atI l515 n_1).bind fun x516 =>
      (some (l515.set n_1.toNat v2)).bind fun l517 =>
      some (l517, 0)
    else none

def state_Write_J1 (r509 : ApiState) (r524 : List Bool) (r525 : Int) (p526 : List Bool) : Option (ApiState × Int) :=
  if (r525 != 0) = true then
    some ((⟨[], [], []⟩ : ApiState), r525)
  else
    some ((⟨r524, p526, r509.E⟩ : ApiState), 0)

def state_Write (n : Nat) (st0 : ApiState) (a1 : ApiAddr) (v2 : Bool) : Option (ApiState × Int) :=
  (state_Clone n st0).bind fun r509 =>
  if (a1.Space == 1) = true then
    (image_Set n st0.Q a1.N v2).bind fun ⟨r528, r529⟩ =>
    state_Write_J1 r509 r528 r529 r509.M
  else
    if (a1.Space == 2) = true then
      (image_Set n st0.M a1.N v2).bind fun ⟨r531, r532⟩ =>
      state_Write_J1 r509 r509.Q r532 r531
    else
      state_Write_J1 r509 r509.Q 8 r509.M

def rungeval_Coils_L1 (n : Nat) (r_0 : ApiRung) (on2 : Bool) : Nat → Int → (List Bool) → (List Bool) → (List Bool) → Option (ApiState × Int)
  | 0, _, _, _, _ => none
  | rec_n1 + 1, p536, p537, p538, p539 =>
    if (decide (p536 < (r_0.Coils.length : Int))) = true then
      (atI r_0.Coils p536).bind fun x547 =>
      if (decide (x547.Kind < 0)) = true then
        some ((⟨[], [], []⟩ : ApiState), 8)
      else
        if (decide (x547.Kind ≥ 4)) = true then
          some ((⟨[], [], []⟩ : ApiState), 8)
        else
          (rungeval_writes n x547.Kind on2).bind fun ⟨r549, r550⟩ =>
          (state_Write n (⟨p537, p538, p539⟩ : ApiState) x547.A r549).bind fun ⟨r552, r553⟩ =>
          if (r553 != 0) = true then
            some ((⟨[], [], []⟩ : ApiState), r553)
          else
            if r550 = true then
              (rungeval_Coils_L1 n r_0 on2 rec_n1) (IntKind.i64.wrap (p536 + 1)) r552.Q r552.M r552.E
            else
              (rungeval_Coils_L1 n r_0 on2 rec_n1) (IntKind.i64.wrap (p536 + 1)) p537 p538 p539
    else
      some ((⟨p537, p538, p539⟩ : ApiState), 0)

def rungeval_Coils (n : Nat) (r_0 : ApiRung) (st1 : ApiState) (on2 : Bool) : Option (ApiState × Int) :=
  (state_Clone n st1).bind fun r503 =>
  rungeval_Coils_L1 n r_0 on2 n 0 r503.Q r503.M r503.E

def rungeval_Scan (n : Nat) (r_0 : ApiRung) (in1 : List Bool) (st2 : ApiState) (slot3 : Int) : Option (ApiState × Bool × Int) :=
  (rungeval_Contacts n r_0 in1 st2 slot3).bind fun ⟨r439, r440, r441⟩ =>
  if (r441 != 0) = true then
    some ((⟨[], [], []⟩ : ApiState), false, r441)
  else
    (rungeval_Conducts n r_0 r439).bind fun ⟨r494, r495⟩ =>
    if (r495 != 0) = true then
      some ((⟨[], [], []⟩ : ApiState), false, r495)
    else
      (rungeval_Coils n r_0 r440 r494).bind fun ⟨r555, r556⟩ =>
      if (r556 != 0) = true then
        some ((⟨[], [], []⟩ : ApiState), false, r556)
      else
        some (r555, r494, 0)

def law16_alive (n : Nat) : Option (Bool) :=
  (some ([(⟨2, (⟨0, 0⟩ : ApiAddr), (⟨#[76]⟩ : Str), (⟨#[82]⟩ : Str)⟩ : ApiContact)])).bind fun l307 =>
  (some ([(⟨0, (⟨1, 0⟩ : ApiAddr)⟩ : ApiCoil)])).bind fun l308 =>
  (some ([true])).bind fun l309 =>
  (some ([false])).bind fun l310 =>
  (some ([false])).bind fun l311 =>
  (rungeval_Scan n (⟨(⟨#[]⟩ : Str), l307, l308, (⟨#[]⟩ : Str)⟩ : ApiRung) l309 (⟨l310, [], l311⟩ : ApiState) 0).bind fun ⟨r558, r559, r560⟩ =>
  (some ([true])).bind fun l561 =>
  (rungeval_Scan n (⟨(⟨#[]⟩ : Str), l307, l308, (⟨#[]⟩ : Str)⟩ : ApiRung) l561 r558 0).bind fun ⟨r563, r564, r565⟩ =>
  if (r560 == 0) = true then
    if r559 = true then
      if ((r558.Q.length : Int) == 1) = true then
        (atI r558.Q 0).bind fun x566 =>
        if x566 = true then
          if ((r558.E.length : Int) == 1) = true then
            (atI r558.E 0).bind fun x567 =>
            if x567 = true then
              if (r565 == 0) = true then
                if (!r564) = true then
                  if ((r563.Q.length : Int) == 1) = true then
                    (atI r563.Q 0).bind fun x568 =>
                    some (!x568)
                  else
                    some false
                else
                  some false
              else
                some false
            else
              some false
          else
            some false
        else
          some false
      else
        some false
    else
      some false
  else
    some false

def ref12_has_L1 (l0 : List Str) (s1 : Str) : Nat → Int → Option (Bool)
  | 0, _ => none
  | rec_n1 + 1, p832 =>
    if (decide (p832 < (l0.length : Int))) = true then
      (atI l0 p832).bind fun x834 =>
      if (decide (x834 = s1)) = true then
        some true
      else
        (ref12_has_L1 l0 s1 rec_n1) (IntKind.i64.wrap (p832 + 1))
    else
      some false

def ref12_has (n : Nat) (l0 : List Str) (s1 : Str) : Option (Bool) :=
  ref12_has_L1 l0 s1 n 0

def ref12_Nodes_J2 (n : Nat) (r_0 : ApiRung) (p848 : Int) (loop_1_ref12_Nodes : (List Str) → Int → Option ((List Str))) (l866 : List Str) : Option ((List Str)) :=
  (atI r_0.Contacts p848).bind fun x867 =>
  (ref12_has n l866 x867.To).bind fun r869 =>
  if (!r869) = true then
    if l866.length + ([x867.To]).length ≤ 1000000000 then
      (some (l866 ++ ([x867.To]))).bind fun l870 =>
      loop_1_ref12_Nodes l870 (IntKind.i64.wrap (p848 + 1))
    else none
  else
    loop_1_ref12_Nodes l866 (IntKind.i64.wrap (p848 + 1))

def ref12_Nodes_L1 (n : Nat) (r_0 : ApiRung) : Nat → (List Str) → Int → Option ((List Str))
  | 0, _, _ => none
  | rec_n1 + 1, l847, p848 =>
    if (decide (p848 < (r_0.Contacts.length : Int))) = true then
      (atI r_0.Contacts p848).bind fun x871 =>
      (ref12_has n l847 x871.From).bind fun r873 =>
      if (!r873) = true then
        if l847.length + ([x871.From]).length ≤ 1000000000 then
          (some (l847 ++ ([x871.From]))).bind fun l874 =>
          ref12_Nodes_J2 n r_0 p848 (ref12_Nodes_L1 n r_0 rec_n1) l874
        else none
      else
        ref12_Nodes_J2 n r_0 p848 (ref12_Nodes_L1 n r_0 rec_n1) l847
    else
      some l847

def ref12_Nodes (n : Nat) (r_0 : ApiRung) : Option ((List Str)) :=
  (some ([(⟨#[76]⟩ : Str), (⟨#[82]⟩ : Str)])).bind fun l829 =>
  ref12_Nodes_L1 n r_0 n l829 0

def ref12_spread_L2 (n : Nat) (r876 : List Str) (l962 : List Str) : Nat → (List Str) → Int → Option ((List Str))
  | 0, _, _ => none
  | rec_n2 + 1, p967, p968 =>
    if (decide (p968 < (r876.length : Int))) = true then
      (atI r876 p968).bind fun x973 =>
      (ref12_has n l962 x973).bind fun r975 =>
      if r975 = true then
        if p967.length + ([x973]).length ≤ 1000000000 then
          (some (p967 ++ ([x973]))).bind fun l976 =>
          (ref12_spread_L2 n r876 l962 rec_n2) l976 (IntKind.i64.wrap (p968 + 1))
        else none
      else
        (ref12_spread_L2 n r876 l962 rec_n2) p967 (IntKind.i64.wrap (p968 + 1))
    else
      some p967

def ref12_spread_J1 (n : Nat) (r876 : List Str) (l962 : List Str) : Option ((List Str)) :=
  ref12_spread_L2 n r876 l962 n ([]) 0

def ref12_spread_J5 (n : Nat) (p1039 : Int) (l1040 : List Str) (loop_4_ref12_spread : Int → (List Str) → Option ((List Str))) (p1050 : Str) (p1051 : Str) : Option ((List Str)) :=
  (ref12_has n l1040 p1050).bind fun r1053 =>
  if r1053 = true then
    (ref12_has n l1040 p1051).bind fun r1055 =>
    if (!r1055) = true then
      if l1040.length + ([p1051]).length ≤ 1000000000 then
        (some (l1040 ++ ([p1051]))).bind fun l1056 =>
        loop_4_ref12_spread (IntKind.i64.wrap (p1039 + 1)) l1056
      else none
    else
      loop_4_ref12_spread (IntKind.i64.wrap (p1039 + 1)) l1040
  else
    loop_4_ref12_spread (IntKind.i64.wrap (p1039 + 1)) l1040

def ref12_spread_L4 (n : Nat) (_append0 : ApiRung) (a2 : Bool) (p1003 : Int) (loop_3_ref12_spread : Int → (List Str) → Option ((List Str))) : Nat → Int → (List Str) → Option ((List Str))
  | 0, _, _ => none
  | rec_n4 + 1, p1039, l1040 =>
    if (decide (p1039 < (_append0.Contacts.length : Int))) = true then
      (atI _append0.Contacts p1039).bind fun x1049 =>
      if a2 = true then
        ref12_spread_J5 n p1039 l1040 (ref12_spread_L4 n _append0 a2 p1003 loop_3_ref12_spread rec_n4) x1049.To x1049.From
      else
        ref12_spread_J5 n p1039 l1040 (ref12_spread_L4 n _append0 a2 p1003 loop_3_ref12_spread rec_n4) x1049.From x1049.To
    else
      loop_3_ref12_spread (IntKind.i64.wrap (p1003 + 1)) l1040

def ref12_spread_L3 (n : Nat) (_append0 : ApiRung) (a2 : Bool) (r876 : List Str) : Nat → Int → (List Str) → Option ((List Str))
  | 0, _, _ => none
  | rec_n3 + 1, p1003, l1004 =>
    if (decide (p1003 < (r876.length : Int))) = true then
      ref12_spread_L4 n _append0 a2 p1003 (ref12_spread_L3 n _append0 a2 r876 rec_n3) n 0 l1004
    else
      ref12_spread_J1 n r876 l1004

def ref12_spread (n : Nat) (_append0 : ApiRung) (a1 : Str) (a2 : Bool) : Option ((List Str)) :=
  (ref12_Nodes n _append0).bind fun r876 =>
  (ref12_has n r876 a1).bind fun r880 =>
  if (!r880) = true then
    some ([])
  else
    (some ([a1])).bind fun l881 =>
    ref12_spread_L3 n _append0 a2 r876 n 0 l881

def ref12_Reachable (n : Nat) (r_0 : ApiRung) (node1 : Str) : Option ((List Str)) :=
  (ref12_spread n r_0 node1 false).bind fun r1058 =>
  some r1058

def slices_Index_string_L1 (s0 : List Str) (v1 : Str) : Nat → Int → Option (Int)
  | 0, _ => none
  | rec_n1 + 1, p1062 =>
    if (decide (p1062 < (s0.length : Int))) = true then
      (atI s0 p1062).bind fun x1064 =>
      if (decide (v1 = x1064)) = true then
        some p1062
      else
        (slices_Index_string_L1 s0 v1 rec_n1) (IntKind.i64.wrap (p1062 + 1))
    else
      some (-1)

def slices_Index_string (n : Nat) (s0 : List Str) (v1 : Str) : Option (Int) :=
  slices_Index_string_L1 s0 v1 n 0

def slices_Contains_string (n : Nat) (s0 : List Str) (v1 : Str) : Option (Bool) :=
  (slices_Index_string n s0 v1).bind fun r1066 =>
  some (decide (r1066 ≥ 0))

def graph_Nodes_o0_L2 (p3349 : Int) (loop_1_graph_Nodes_o0 : Int → (List Str) → (List (Str × Bool)) → Option ((List Str))) (l3364 : List Str) : Nat → Int → (List Str) → (List (Str × Bool)) → Option ((List Str))
  | 0, _, _, _ => none
  | rec_n2 + 1, p3367, l3368, p3369 =>
    if (decide (p3367 < (l3364.length : Int))) = true then
      (atI l3364 p3367).bind fun x3372 =>
      if (!((mGet p3369 x3372).getD false)) = true then
        if l3368.length + ([x3372]).length ≤ 1000000000 then
          (some (l3368 ++ ([x3372]))).bind fun l3373 =>
          (graph_Nodes_o0_L2 p3349 loop_1_graph_Nodes_o0 l3364 rec_n2) (IntKind.i64.wrap (p3367 + 1)) l3373 (mPut p3369 x3372 true)
        else none
      else
        (graph_Nodes_o0_L2 p3349 loop_1_graph_Nodes_o0 l3364 rec_n2) (IntKind.i64.wrap (p3367 + 1)) l3368 p3369
    else
      loop_1_graph_Nodes_o0 (IntKind.i64.wrap (p3349 + 1)) l3368 p3369

def graph_Nodes_o0_L1 (n : Nat) (r_0 : ApiRung) : Nat → Int → (List Str) → (List (Str × Bool)) → Option ((List Str))
  | 0, _, _, _ => none
  | rec_n1 + 1, p3349, l3350, p3351 =>
    if (decide (p3349 < (r_0.Contacts.length : Int))) = true then
      (atI r_0.Contacts p3349).bind fun x3363 =>
      (some ([x3363.From, x3363.To])).bind fun l3364 =>
      graph_Nodes_o0_L2 p3349 (graph_Nodes_o0_L1 n r_0 rec_n1) l3364 n 0 l3350 p3351
    else
      some l3350

def graph_Nodes_o0 (n : Nat) (r_0 : ApiRung) : Option ((List Str)) :=
  (some ([(⟨#[76]⟩ : Str), (⟨#[82]⟩ : Str)])).bind fun l3337 =>
  graph_Nodes_o0_L1 n r_0 n 0 l3337 (mPut (mPut ([]) (⟨#[76]⟩ : Str) true) (⟨#[82]⟩ : Str) true)

def graph_Incoming_1 (n : Nat) (c0 : ApiContact) (b0 : Str) : Option (Bool) :=
  some (decide (c0.To = b0))

def graph_numbers_c66_L1 (n : Nat) (r_0 : ApiRung) (b0 : Str) : Nat → Int → (List Int) → Option ((List Int))
  | 0, _, _ => none
  | rec_n1 + 1, p3403, p3404 =>
    if (decide (p3403 < (r_0.Contacts.length : Int))) = true then
      (atI r_0.Contacts p3403).bind fun x3409 =>
      (graph_Incoming_1 n x3409 b0).bind fun r3411 =>
      if r3411 = true then
        if p3404.length + ([p3403]).length ≤ 1000000000 then
          (some (p3404 ++ ([p3403]))).bind fun l3412 =>
          (graph_numbers_c66_L1 n r_0 b0 rec_n1) (IntKind.i64.wrap (p3403 + 1)) l3412
        else none
      else
        (graph_numbers_c66_L1 n r_0 b0 rec_n1) (IntKind.i64.wrap (p3403 + 1)) p3404
    else
      some p3404

def graph_numbers_c66 (n : Nat) (r_0 : ApiRung) (b0 : Str) : Option ((List Int)) :=
  graph_numbers_c66_L1 n r_0 b0 n 0 ([])

def graph_Incoming (n : Nat) (r_0 : ApiRung) (node1 : Str) : Option ((List Int)) :=
  (graph_numbers_c66 n r_0 node1).bind fun r3414 =>
  some r3414

def graph_TopoSort_1_1 (n : Nat) (i_0 : Int) (m1 : List (Str × Bool)) (b2 : ApiRung) : Option (Bool) :=
  (atI b2.Contacts i_0).bind fun x3419 =>
  some (!((mGet m1 x3419.From).getD false))

def slices_IndexFunc_int_c50_L1 (n : Nat) (s0 : List Int) (m1 : List (Str × Bool)) (b2 : ApiRung) : Nat → Int → Option (Int)
  | 0, _ => none
  | rec_n1 + 1, p3432 =>
    if (decide (p3432 < (s0.length : Int))) = true then
      (atI s0 p3432).bind fun x3436 =>
      (graph_TopoSort_1_1 n x3436 m1 b2).bind fun r3438 =>
      if r3438 = true then
        some p3432
      else
        (slices_IndexFunc_int_c50_L1 n s0 m1 b2 rec_n1) (IntKind.i64.wrap (p3432 + 1))
    else
      some (-1)

def slices_IndexFunc_int_c50 (n : Nat) (s0 : List Int) (m1 : List (Str × Bool)) (b2 : ApiRung) : Option (Int) :=
  slices_IndexFunc_int_c50_L1 n s0 m1 b2 n 0

def slices_ContainsFunc_int_c50 (n : Nat) (s0 : List Int) (m1 : List (Str × Bool)) (b2 : ApiRung) : Option (Bool) :=
  (slices_IndexFunc_int_c50 n s0 m1 b2).bind fun r3442 =>
  some (decide (r3442 ≥ 0))

def graph_TopoSort_1 (n : Nat) (n_0 : Str) (b0 : ApiRung) (m2 : List (Str × Bool)) : Option (Bool) :=
  (graph_Incoming n b0 n_0).bind fun r3446 =>
  (slices_ContainsFunc_int_c50 n r3446 m2 b0).bind fun r3448 =>
  some (!r3448)

def slices_IndexFunc_string_c47_v1_L1 (n : Nat) (l0 : List Str) (b1 : ApiRung) (m3 : List (Str × Bool)) : Nat → Int → Option (Int)
  | 0, _ => none
  | rec_n1 + 1, p3461 =>
    if (decide (p3461 < (l0.length : Int))) = true then
      (atI l0 p3461).bind fun x3465 =>
      (graph_TopoSort_1 n x3465 b1 m3).bind fun r3467 =>
      if r3467 = true then
        some p3461
      else
        (slices_IndexFunc_string_c47_v1_L1 n l0 b1 m3 rec_n1) (IntKind.i64.wrap (p3461 + 1))
    else
      some (-1)

def slices_IndexFunc_string_c47_v1 (n : Nat) (l0 : List Str) (b1 : ApiRung) (m3 : List (Str × Bool)) : Option (Int) :=
  slices_IndexFunc_string_c47_v1_L1 n l0 b1 m3 n 0

def slices_Delete_string_v1 (n : Nat) (i_1 : Int) (j2 : Int) (l0 : List Str) : Option ((List Str)) :=
  if 0 ≤ i_1 ∧ i_1 ≤ j2 ∧ j2 ≤ (l0.length : Int) ∧ (l0.length : Int) ≤ (l0.length : Int) then
    if (i_1 == j2) = true then
      some l0
    else
      if 0 ≤ 0 ∧ 0 ≤ i_1 ∧ i_1 ≤ (l0.length : Int) then
        if 0 ≤ j2 ∧ j2 ≤ (l0.length : Int) ∧ (l0.length : Int) ≤ (l0.length : Int) then
          if i_1.toNat + (l0.length - j2.toNat) ≤ l0.length then
            (some (l0.take i_1.toNat ++ ((l0.drop j2.toNat) ++ l0.drop (i_1.toNat + (l0.length - j2.toNat))))).bind fun l3474 =>
            if 0 ≤ (((i_1.toNat + (l0.length - j2.toNat)) : Nat) : Int) ∧ (((i_1.toNat + (l0.length - j2.toNat)) : Nat) : Int) ≤ (l0.length : Int) ∧ (l0.length : Int) ≤ l3474.length then
              if ((i_1.toNat + (l0.length - j2.toNat)) + (l0.length - (i_1.toNat + (l0.length - j2.toNat)))) ≤ l3474.length then
                some (l3474.take (i_1.toNat + (l0.length - j2.toNat)))
              else none
            else none
          else none
        else none
      else none
  else none

def graph_TopoSort_L1 (n : Nat) (r_0 : ApiRung) : Nat → (List Str) → (List (Str × Bool)) → (List Str) → Option ((List Str) × Int)
  | 0, _, _, _ => none
  | rec_n1 + 1, r3477, p3478, p3479 =>
    if (decide ((r3477.length : Int) > 0)) = true then
      (slices_IndexFunc_string_c47_v1 n r3477 r_0 p3478).bind fun r3487 =>
      if (decide (r3487 < 0)) = true then
        some ([], 12)
      else
        (atI r3477 r3487).bind fun x3488 =>
        if p3479.length + ([x3488]).length ≤ 1000000000 then
          (some (p3479 ++ ([x3488]))).bind fun l3489 =>
          (slices_Delete_string_v1 n r3487 (IntKind.i64.wrap (r3487 + 1)) r3477).bind fun q3491 =>
          (graph_TopoSort_L1 n r_0 rec_n1) q3491 (mPut p3478 x3488 true) l3489
        else none
    else
      some (p3479, 0)

def graph_TopoSort (n : Nat) (r_0 : ApiRung) : Option ((List Str) × Int) :=
  (graph_Nodes_o0 n r_0).bind fun r3375 =>
  graph_TopoSort_L1 n r_0 n r3375 ([]) ([])

def graph_Outgoing_1 (n : Nat) (c0 : ApiContact) (b0 : Str) : Option (Bool) :=
  some (decide (c0.From = b0))

def graph_numbers_c84_L1 (n : Nat) (r_0 : ApiRung) (b0 : Str) : Nat → Int → (List Int) → Option ((List Int))
  | 0, _, _ => none
  | rec_n1 + 1, p4455, p4456 =>
    if (decide (p4455 < (r_0.Contacts.length : Int))) = true then
      (atI r_0.Contacts p4455).bind fun x4461 =>
      (graph_Outgoing_1 n x4461 b0).bind fun r4463 =>
      if r4463 = true then
        if p4456.length + ([p4455]).length ≤ 1000000000 then
          (some (p4456 ++ ([p4455]))).bind fun l4464 =>
          (graph_numbers_c84_L1 n r_0 b0 rec_n1) (IntKind.i64.wrap (p4455 + 1)) l4464
        else none
      else
        (graph_numbers_c84_L1 n r_0 b0 rec_n1) (IntKind.i64.wrap (p4455 + 1)) p4456
    else
      some p4456

def graph_numbers_c84 (n : Nat) (r_0 : ApiRung) (b0 : Str) : Option ((List Int)) :=
  graph_numbers_c84_L1 n r_0 b0 n 0 ([])

def graph_Outgoing (n : Nat) (r_0 : ApiRung) (node1 : Str) : Option ((List Int)) :=
  (graph_numbers_c84 n r_0 node1).bind fun r4466 =>
  some r4466

def graph_Reachable_1_L1 (b0 : ApiRung) (r4481 : List Int) : Nat → Int → (List Str) → Option ((List Str))
  | 0, _, _ => none
  | rec_n1 + 1, p4485, p4486 =>
    if (decide (p4485 < (r4481.length : Int))) = true then
      (atI r4481 p4485).bind fun x4490 =>
      (atI b0.Contacts x4490).bind fun x4491 =>
      if p4486.length + ([x4491.To]).length ≤ 1000000000 then
        (some (p4486 ++ ([x4491.To]))).bind fun l4492 =>
        (graph_Reachable_1_L1 b0 r4481 rec_n1) (IntKind.i64.wrap (p4485 + 1)) l4492
      else none
    else
      some p4486

def graph_Reachable_1 (n : Nat) (n_0 : Str) (b0 : ApiRung) : Option ((List Str)) :=
  (graph_Outgoing n b0 n_0).bind fun r4481 =>
  graph_Reachable_1_L1 b0 r4481 n 0 ([])

def graph_gather_1_c68_82_L1 (b3 : ApiRung) (r4513 : List Str) (slf_graph_gather_1_c68_82 : Str → (List (Str × Bool)) → ApiRung → Option ((List (Str × Bool)))) : Nat → (List (Str × Bool)) → Int → Option ((List (Str × Bool)))
  | 0, _, _ => none
  | rec_n1 + 1, p4517, p4518 =>
    if (decide (p4518 < (r4513.length : Int))) = true then
      (atI r4513 p4518).bind fun x4522 =>
      (slf_graph_gather_1_c68_82 x4522 p4517 b3).bind fun q4524 =>
      (graph_gather_1_c68_82_L1 b3 r4513 slf_graph_gather_1_c68_82 rec_n1) q4524 (IntKind.i64.wrap (p4518 + 1))
    else
      some p4517

def graph_gather_1_c68_82 : Nat → Str → (List (Str × Bool)) → ApiRung → Option ((List (Str × Bool)))
  | 0, _, _, _ => none
  | n + 1, n_0, m1, b3 =>
  if ((mGet m1 n_0).getD false) = true then
    some m1
  else
    (graph_Reachable_1 n n_0 b3).bind fun r4513 =>
    graph_gather_1_c68_82_L1 b3 r4513 (graph_gather_1_c68_82 n) n (mPut m1 n_0 true) 0

def graph_gather_2 (n : Nat) (n_0 : Str) (m1 : List (Str × Bool)) : Option (Bool) :=
  some (!((mGet m1 n_0).getD false))

def slices_IndexFunc_string_c83_v1_L1 (n : Nat) (l0 : List Str) (m2 : List (Str × Bool)) : Nat → Int → Option (Int)
  | 0, _ => none
  | rec_n1 + 1, p4562 =>
    if (decide (p4562 < (l0.length : Int))) = true then
      (atI l0 p4562).bind fun x4566 =>
      (graph_gather_2 n x4566 m2).bind fun r4568 =>
      if r4568 = true then
        some p4562
      else
        (slices_IndexFunc_string_c83_v1_L1 n l0 m2 rec_n1) (IntKind.i64.wrap (p4562 + 1))
    else
      some (-1)

def slices_IndexFunc_string_c83_v1 (n : Nat) (l0 : List Str) (m2 : List (Str × Bool)) : Option (Int) :=
  slices_IndexFunc_string_c83_v1_L1 n l0 m2 n 0

def slices_DeleteFunc_string_c83_v1_L1 (n : Nat) (m2 : List (Str × Bool)) : Nat → (List Str) → Int → Int → Option ((List Str))
  | 0, _, _, _ => none
  | rec_n1 + 1, l4597, r4598, p4599 =>
    if (decide (p4599 < (l4597.length : Int))) = true then
      (atI l4597 p4599).bind fun x4605 =>
      (graph_gather_2 n x4605 m2).bind fun r4607 =>
      if (!r4607) = true then
        (atI l4597 r4598).bind fun x4608 =>
        (some (l4597.set r4598.toNat x4605)).bind fun l4609 =>
        (slices_DeleteFunc_string_c83_v1_L1 n m2 rec_n1) l4609 (IntKind.i64.wrap (r4598 + 1)) (IntKind.i64.wrap (p4599 + 1))
      else
        (slices_DeleteFunc_string_c83_v1_L1 n m2 rec_n1) l4597 r4598 (IntKind.i64.wrap (p4599 + 1))
    else
      if 0 ≤ r4598 ∧ r4598 ≤ (l4597.length : Int) ∧ (l4597.length : Int) ≤ (l4597.length : Int) then
        if (r4598.toNat + (l4597.length - r4598.toNat)) ≤ l4597.length then
          if 0 ≤ 0 ∧ 0 ≤ r4598 ∧ r4598 ≤ (l4597.length : Int) then
            some (l4597.take r4598.toNat)
          else none
        else none
      else none

def slices_DeleteFunc_string_c83_v1 (n : Nat) (l0 : List Str) (m2 : List (Str × Bool)) : Option ((List Str)) :=
  (slices_IndexFunc_string_c83_v1 n l0 m2).bind fun r4591 =>
  if (r4591 == (-1)) = true then
    some l0
  else
    slices_DeleteFunc_string_c83_v1_L1 n m2 n l0 r4591 (IntKind.i64.wrap (r4591 + 1))

def graph_gather_c68 (n : Nat) (r_0 : ApiRung) (node1 : Str) (b0 : ApiRung) : Option ((List Str)) :=
  (graph_Nodes_o0 n r_0).bind fun r4613 =>
  (slices_Contains_string n r4613 node1).bind fun r4617 =>
  if (!r4617) = true then
    some ([])
  else
    (graph_gather_1_c68_82 n node1 ([]) b0).bind fun q4619 =>
    (slices_DeleteFunc_string_c83_v1 n r4613 q4619).bind fun q4621 =>
    some q4621

def graph_Reachable (n : Nat) (r_0 : ApiRung) (node1 : Str) : Option ((List Str)) :=
  (graph_gather_c68 n r_0 node1 r_0).bind fun r4623 =>
  some r4623

def graph_Ancestors_1_L1 (b0 : ApiRung) (r4769 : List Int) : Nat → Int → (List Str) → Option ((List Str))
  | 0, _, _ => none
  | rec_n1 + 1, p4773, p4774 =>
    if (decide (p4773 < (r4769.length : Int))) = true then
      (atI r4769 p4773).bind fun x4778 =>
      (atI b0.Contacts x4778).bind fun x4779 =>
      if p4774.length + ([x4779.From]).length ≤ 1000000000 then
        (some (p4774 ++ ([x4779.From]))).bind fun l4780 =>
        (graph_Ancestors_1_L1 b0 r4769 rec_n1) (IntKind.i64.wrap (p4773 + 1)) l4780
      else none
    else
      some p4774

def graph_Ancestors_1 (n : Nat) (n_0 : Str) (b0 : ApiRung) : Option ((List Str)) :=
  (graph_Incoming n b0 n_0).bind fun r4769 =>
  graph_Ancestors_1_L1 b0 r4769 n 0 ([])

def graph_gather_1_c70_82_L1 (b3 : ApiRung) (r4801 : List Str) (slf_graph_gather_1_c70_82 : Str → (List (Str × Bool)) → ApiRung → Option ((List (Str × Bool)))) : Nat → (List (Str × Bool)) → Int → Option ((List (Str × Bool)))
  | 0, _, _ => none
  | rec_n1 + 1, p4805, p4806 =>
    if (decide (p4806 < (r4801.length : Int))) = true then
      (atI r4801 p4806).bind fun x4810 =>
      (slf_graph_gather_1_c70_82 x4810 p4805 b3).bind fun q4812 =>
      (graph_gather_1_c70_82_L1 b3 r4801 slf_graph_gather_1_c70_82 rec_n1) q4812 (IntKind.i64.wrap (p4806 + 1))
    else
      some p4805

def graph_gather_1_c70_82 : Nat → Str → (List (Str × Bool)) → ApiRung → Option ((List (Str × Bool)))
  | 0, _, _, _ => none
  | n + 1, n_0, m1, b3 =>
  if ((mGet m1 n_0).getD false) = true then
    some m1
  else
    (graph_Ancestors_1 n n_0 b3).bind fun r4801 =>
    graph_gather_1_c70_82_L1 b3 r4801 (graph_gather_1_c70_82 n) n (mPut m1 n_0 true) 0

def graph_gather_c70 (n : Nat) (r_0 : ApiRung) (node1 : Str) (b0 : ApiRung) : Option ((List Str)) :=
  (graph_Nodes_o0 n r_0).bind fun r4818 =>
  (slices_Contains_string n r4818 node1).bind fun r4822 =>
  if (!r4822) = true then
    some ([])
  else
    (graph_gather_1_c70_82 n node1 ([]) b0).bind fun q4824 =>
    (slices_DeleteFunc_string_c83_v1 n r4818 q4824).bind fun q4826 =>
    some q4826

def graph_Ancestors (n : Nat) (r_0 : ApiRung) (node1 : Str) : Option ((List Str)) :=
  (graph_gather_c70 n r_0 node1 r_0).bind fun r4828 =>
  some r4828

def flow_DeadNodes_1 (n : Nat) (n_0 : Str) (b0 : List Str) (b1 : List Str) : Option (Bool) :=
  (slices_Contains_string n b0 n_0).bind fun r4869 =>
  if r4869 = true then
    (slices_Contains_string n b1 n_0).bind fun r4871 =>
    some r4871
  else
    some false

def slices_IndexFunc_string_c55_v1_L1 (n : Nat) (l0 : List Str) (b1 : List Str) (b2 : List Str) : Nat → Int → Option (Int)
  | 0, _ => none
  | rec_n1 + 1, p4884 =>
    if (decide (p4884 < (l0.length : Int))) = true then
      (atI l0 p4884).bind fun x4888 =>
      (flow_DeadNodes_1 n x4888 b1 b2).bind fun r4890 =>
      if r4890 = true then
        some p4884
      else
        (slices_IndexFunc_string_c55_v1_L1 n l0 b1 b2 rec_n1) (IntKind.i64.wrap (p4884 + 1))
    else
      some (-1)

def slices_IndexFunc_string_c55_v1 (n : Nat) (l0 : List Str) (b1 : List Str) (b2 : List Str) : Option (Int) :=
  slices_IndexFunc_string_c55_v1_L1 n l0 b1 b2 n 0

def slices_DeleteFunc_string_c55_L1 (n : Nat) (b1 : List Str) (b2 : List Str) : Nat → (List Str) → Int → Int → Option ((List Str))
  | 0, _, _, _ => none
  | rec_n1 + 1, l4919, r4920, p4921 =>
    if (decide (p4921 < (l4919.length : Int))) = true then
      (atI l4919 p4921).bind fun x4927 =>
      (flow_DeadNodes_1 n x4927 b1 b2).bind fun r4929 =>
      if (!r4929) = true then
        (atI l4919 r4920).bind fun x4930 =>
        (some (l4919.set r4920.toNat x4927)).bind fun l4931 =>
        (slices_DeleteFunc_string_c55_L1 n b1 b2 rec_n1) l4931 (IntKind.i64.wrap (r4920 + 1)) (IntKind.i64.wrap (p4921 + 1))
      else
        (slices_DeleteFunc_string_c55_L1 n b1 b2 rec_n1) l4919 r4920 (IntKind.i64.wrap (p4921 + 1))
    else
      if 0 ≤ r4920 ∧ r4920 ≤ (l4919.length : Int) ∧ (l4919.length : Int) ≤ (l4919.length : Int) then
        if (r4920.toNat + (l4919.length - r4920.toNat)) ≤ l4919.length then
          if 0 ≤ 0 ∧ 0 ≤ r4920 ∧ r4920 ≤ (l4919.length : Int) then
            some (l4919.take r4920.toNat)
          else none
        else none
      else none

def slices_DeleteFunc_string_c55 (n : Nat) (l0 : List Str) (b1 : List Str) (b2 : List Str) : Option ((List Str)) :=
  (slices_IndexFunc_string_c55_v1 n l0 b1 b2).bind fun r4913 =>
  if (r4913 == (-1)) = true then
    some l0
  else
    slices_DeleteFunc_string_c55_L1 n b1 b2 n l0 r4913 (IntKind.i64.wrap (r4913 + 1))

def flow_DeadNodes (n : Nat) (r_0 : ApiRung) : Option ((List Str)) :=
  (graph_Reachable n r_0 (⟨#[76]⟩ : Str)).bind fun r4625 =>
  (graph_Ancestors n r_0 (⟨#[82]⟩ : Str)).bind fun r4830 =>
  (graph_Nodes_o0 n r_0).bind fun r4832 =>
  (slices_DeleteFunc_string_c55 n r4832 r4625 r4830).bind fun q4933 =>
  some q4933

def flow_Check (n : Nat) (r_0 : ApiRung) : Option (Int) :=
  if ((r_0.Contacts.length : Int) == 0) = true then
    some 4
  else
    (graph_TopoSort n r_0).bind fun ⟨r3496, r3497⟩ =>
    if (r3497 != 0) = true then
      some r3497
    else
      (flow_DeadNodes n r_0).bind fun r4935 =>
      if (decide ((r4935.length : Int) > 0)) = true then
        some 13
      else
        some 0

def reduce_parallel_1 (n : Nat) (y0 : ReduceEdge) (b0 : ReduceEdge) : Option (Bool) :=
  some ((decide (y0.pair.from_ = b0.pair.from_)) && (decide (y0.pair.to_ = b0.pair.to_)))

def slices_IndexFunc_reduce_edge_c27_L1 (n : Nat) (s0 : List ReduceEdge) (b0 : ReduceEdge) : Nat → Int → Option (Int)
  | 0, _ => none
  | rec_n1 + 1, p5010 =>
    if (decide (p5010 < (s0.length : Int))) = true then
      (atI s0 p5010).bind fun x5014 =>
      (reduce_parallel_1 n x5014 b0).bind fun r5016 =>
      if r5016 = true then
        some p5010
      else
        (slices_IndexFunc_reduce_edge_c27_L1 n s0 b0 rec_n1) (IntKind.i64.wrap (p5010 + 1))
    else
      some (-1)

def slices_IndexFunc_reduce_edge_c27 (n : Nat) (s0 : List ReduceEdge) (b0 : ReduceEdge) : Option (Int) :=
  slices_IndexFunc_reduce_edge_c27_L1 n s0 b0 n 0

def slices_IndexFunc_reduce_edge_c27_v1_L1 (n : Nat) (s0 : Nat) (l0 : List ReduceEdge) (b1 : ReduceEdge) : Nat → Int → Option (Int)
  | 0, _ => none
  | rec_n1 + 1, p5030 =>
    if (decide (p5030 < (((l0.length - s0) : Nat) : Int))) = true then
      (atI (l0.drop s0) p5030).bind fun x5034 =>
      (reduce_parallel_1 n x5034 b1).bind fun r5036 =>
      if r5036 = true then
        some p5030
      else
        (slices_IndexFunc_reduce_edge_c27_v1_L1 n s0 l0 b1 rec_n1) (IntKind.i64.wrap (p5030 + 1))
    else
      some (-1)

def slices_IndexFunc_reduce_edge_c27_v1 (n : Nat) (s0 : Nat) (l0 : List ReduceEdge) (b1 : ReduceEdge) : Option (Int) :=
  slices_IndexFunc_reduce_edge_c27_v1_L1 n s0 l0 b1 n 0

def reduce_join_L1 (kind0 : Int) (l5051 : List TreeTree) : Nat → Int → (List TreeTree) → Option (TreeTree)
  | 0, _, _ => none
  | rec_n1 + 1, p5054, p5055 =>
    if (decide (p5054 < (l5051.length : Int))) = true then
      (atI l5051 p5054).bind fun x5059 =>
      if (x5059.Kind == kind0) = true then
        if p5055.length + x5059.Kids.length ≤ 1000000000 then
          (some (p5055 ++ x5059.Kids)).bind fun l5060 =>
          (reduce_join_L1 kind0 l5051 rec_n1) (IntKind.i64.wrap (p5054 + 1)) l5060
        else none
      else
        if p5055.length + ([x5059]).length ≤ 1000000000 then
          (some (p5055 ++ ([x5059]))).bind fun l5061 =>
          (reduce_join_L1 kind0 l5051 rec_n1) (IntKind.i64.wrap (p5054 + 1)) l5061
        else none
    else
      some (⟨kind0, 0, p5055⟩ : TreeTree)

def reduce_join (n : Nat) (kind0 : Int) (a1 : TreeTree) (b2 : TreeTree) : Option (TreeTree) :=
  (some ([a1, b2])).bind fun l5051 =>
  reduce_join_L1 kind0 l5051 n 0 ([])

def slices_Delete_reduce_edge_v1 (n : Nat) (i_1 : Int) (j2 : Int) (l0 : List ReduceEdge) : Option ((List ReduceEdge)) :=
  if 0 ≤ i_1 ∧ i_1 ≤ j2 ∧ j2 ≤ (l0.length : Int) ∧ (l0.length : Int) ≤ (l0.length : Int) then
    if (i_1 == j2) = true then
      some l0
    else
      if 0 ≤ 0 ∧ 0 ≤ i_1 ∧ i_1 ≤ (l0.length : Int) then
        if 0 ≤ j2 ∧ j2 ≤ (l0.length : Int) ∧ (l0.length : Int) ≤ (l0.length : Int) then
          if i_1.toNat + (l0.length - j2.toNat) ≤ l0.length then
            (some (l0.take i_1.toNat ++ ((l0.drop j2.toNat) ++ l0.drop (i_1.toNat + (l0.length - j2.toNat))))).bind fun l5069 =>
            if 0 ≤ (((i_1.toNat + (l0.length - j2.toNat)) : Nat) : Int) ∧ (((i_1.toNat + (l0.length - j2.toNat)) : Nat) : Int) ≤ (l0.length : Int) ∧ (l0.length : Int) ≤ l5069.length then
              if ((i_1.toNat + (l0.length - j2.toNat)) + (l0.length - (i_1.toNat + (l0.length - j2.toNat)))) ≤ l5069.length then
                some (l5069.take (i_1.toNat + (l0.length - j2.toNat)))
              else none
            else none
          else none
        else none
      else none
  else none

def reduce_parallel_v1_L1 (n : Nat) (l0 : List ReduceEdge) : Nat → Int → Option (Bool × (List ReduceEdge))
  | 0, _ => none
  | rec_n1 + 1, p5101 =>
    if (decide (p5101 < (l0.length : Int))) = true then
      (atI l0 p5101).bind fun x5111 =>
      if 0 ≤ (IntKind.i64.wrap (p5101 + 1)) ∧ (IntKind.i64.wrap (p5101 + 1)) ≤ (l0.length : Int) ∧ (l0.length : Int) ≤ (l0.length : Int) then
        (slices_IndexFunc_reduce_edge_c27_v1 n ((IntKind.i64.wrap (p5101 + 1)).toNat) l0 x5111).bind fun r5113 =>
        if (decide (r5113 ≥ 0)) = true then
          (atI l0 (IntKind.i64.wrap ((IntKind.i64.wrap (p5101 + 1)) + r5113))).bind fun x5114 =>
          (reduce_join n 2 x5111.t_ x5114.t_).bind fun r5116 =>
          (some (l0.set p5101.toNat (⟨x5111.pair, r5116⟩ : ReduceEdge))).bind fun l5117 =>
          (slices_Delete_reduce_edge_v1 n (IntKind.i64.wrap ((IntKind.i64.wrap (p5101 + 1)) + r5113)) (IntKind.i64.wrap ((IntKind.i64.wrap (p5101 + 2)) + r5113)) l5117).bind fun q5119 =>
          some (true, q5119)
        else
          (reduce_parallel_v1_L1 n l0 rec_n1) (IntKind.i64.wrap (p5101 + 1))
      else none
    else
      some (false, l0)

def reduce_parallel_v1 (n : Nat) (l0 : List ReduceEdge) : Option (Bool × (List ReduceEdge)) :=
  reduce_parallel_v1_L1 n l0 n 0

def reduce_series_v1_J2 (n : Nat) (l0 : List ReduceEdge) (p5275 : Int) (loop_1_reduce_series_v1 : Int → Option (Bool × (List ReduceEdge))) (x5310 : ReduceEdge) (p5323 : Int) (p5324 : Int) (p5325 : Int) : Option (Bool × (List ReduceEdge)) :=
  if (p5323 == 1) = true then
    if (p5324 == 1) = true then
      (atI l0 p5325).bind fun x5326 =>
      (reduce_join n 1 x5310.t_ x5326.t_).bind fun r5328 =>
      (some (l0.set p5275.toNat (⟨(⟨x5310.pair.from_, x5326.pair.to_⟩ : ReducePair), r5328⟩ : ReduceEdge))).bind fun l5329 =>
      (slices_Delete_reduce_edge_v1 n p5325 (IntKind.i64.wrap (p5325 + 1)) l5329).bind fun q5331 =>
      some (true, q5331)
    else
      loop_1_reduce_series_v1 (IntKind.i64.wrap (p5275 + 1))
  else
    loop_1_reduce_series_v1 (IntKind.i64.wrap (p5275 + 1))

def reduce_series_v1_J4 (x5310 : ReduceEdge) (p5334 : Int) (p5336 : Int) (p5339 : Int) (loop_3_reduce_series_v1 : Int → Int → Int → Int → Option (Bool × (List ReduceEdge))) (x5342 : ReduceEdge) (p5343 : Int) : Option (Bool × (List ReduceEdge)) :=
  if (decide (x5342.pair.from_ = x5310.pair.to_)) = true then
    loop_3_reduce_series_v1 (IntKind.i64.wrap (p5334 + 1)) p5343 (IntKind.i64.wrap (p5336 + 1)) p5334
  else
    loop_3_reduce_series_v1 (IntKind.i64.wrap (p5334 + 1)) p5343 p5336 p5339

def reduce_series_v1_L3 (n : Nat) (l0 : List ReduceEdge) (p5275 : Int) (loop_1_reduce_series_v1 : Int → Option (Bool × (List ReduceEdge))) (x5310 : ReduceEdge) : Nat → Int → Int → Int → Int → Option (Bool × (List ReduceEdge))
  | 0, _, _, _, _ => none
  | rec_n3 + 1, p5334, p5335, p5336, p5339 =>
    if (decide (p5334 < (l0.length : Int))) = true then
      (atI l0 p5334).bind fun x5342 =>
      if (decide (x5342.pair.to_ = x5310.pair.to_)) = true then
        reduce_series_v1_J4 x5310 p5334 p5336 p5339 (reduce_series_v1_L3 n l0 p5275 loop_1_reduce_series_v1 x5310 rec_n3) x5342 (IntKind.i64.wrap (p5335 + 1))
      else
        reduce_series_v1_J4 x5310 p5334 p5336 p5339 (reduce_series_v1_L3 n l0 p5275 loop_1_reduce_series_v1 x5310 rec_n3) x5342 p5335
    else
      reduce_series_v1_J2 n l0 p5275 loop_1_reduce_series_v1 x5310 p5335 p5336 p5339

def reduce_series_v1_L1 (n : Nat) (l0 : List ReduceEdge) : Nat → Int → Option (Bool × (List ReduceEdge))
  | 0, _ => none
  | rec_n1 + 1, p5275 =>
    if (decide (p5275 < (l0.length : Int))) = true then
      (atI l0 p5275).bind fun x5310 =>
      if (decide (x5310.pair.to_ = (⟨#[76]⟩ : Str))) = true then
        (reduce_series_v1_L1 n l0 rec_n1) (IntKind.i64.wrap (p5275 + 1))
      else
        if (decide (x5310.pair.to_ = (⟨#[82]⟩ : Str))) = true then
          (reduce_series_v1_L1 n l0 rec_n1) (IntKind.i64.wrap (p5275 + 1))
        else
          reduce_series_v1_L3 n l0 p5275 (reduce_series_v1_L1 n l0 rec_n1) x5310 n 0 0 0 0
    else
      some (false, l0)

def reduce_series_v1 (n : Nat) (l0 : List ReduceEdge) : Option (Bool × (List ReduceEdge)) :=
  reduce_series_v1_L1 n l0 n 0

def tree_Leaves_L2 (t0 : TreeTree) (slf_tree_Leaves : TreeTree → Option ((List Int))) : Nat → Int → (List Int) → Option ((List Int))
  | 0, _, _ => none
  | rec_n2 + 1, p5401, p5402 =>
    if (decide (p5401 < (t0.Kids.length : Int))) = true then
      (atI t0.Kids p5401).bind fun x5407 =>
      (slf_tree_Leaves x5407).bind fun r5409 =>
      if p5402.length + r5409.length ≤ 1000000000 then
        (some (p5402 ++ r5409)).bind fun l5410 =>
        (tree_Leaves_L2 t0 slf_tree_Leaves rec_n2) (IntKind.i64.wrap (p5401 + 1)) l5410
      else none
    else
      some p5402

def tree_Leaves_J1 (n : Nat) (t0 : TreeTree) (slf_tree_Leaves : TreeTree → Option ((List Int))) (p5397 : Bool) : Option ((List Int)) :=
  if p5397 = true then
    tree_Leaves_L2 t0 slf_tree_Leaves n 0 ([])
  else
    some ([])

def tree_Leaves : Nat → TreeTree → Option ((List Int))
  | 0, _ => none
  | n + 1, t0 =>
  if (t0.Kind == 0) = true then
    (some ([t0.N])).bind fun l5396 =>
    some l5396
  else
    if (t0.Kind == 1) = true then
      tree_Leaves_J1 n t0 (tree_Leaves n) (t0.Kind == 1)
    else
      tree_Leaves_J1 n t0 (tree_Leaves n) (t0.Kind == 2)

def slices_Min_int_L1 (x_0 : List Int) : Nat → Int → Int → Option (Int)
  | 0, _, _ => none
  | rec_n1 + 1, x5415, p5416 =>
    if (decide (p5416 < (x_0.length : Int))) = true then
      (atI x_0 p5416).bind fun x5418 =>
      (slices_Min_int_L1 x_0 rec_n1) (imin x5415 x5418) (IntKind.i64.wrap (p5416 + 1))
    else
      some x5415

def slices_Min_int (n : Nat) (x_0 : List Int) : Option (Int) :=
  if (decide ((x_0.length : Int) < 1)) = true then
    none
  else
    (atI x_0 0).bind fun x5413 =>
    slices_Min_int_L1 x_0 n x5413 1

def cmp_isNaN_int (n : Nat) (x_0 : Int) : Option (Bool) :=
  some (x_0 != x_0)

def cmp_Compare_int (n : Nat) (x_0 : Int) (y1 : Int) : Option (Int) :=
  (cmp_isNaN_int n x_0).bind fun r5426 =>
  (cmp_isNaN_int n y1).bind fun r5428 =>
  if r5426 = true then
    if r5428 = true then
      some 0
    else
      some (-1)
  else
    if r5428 = true then
      some 1
    else
      if (decide (x_0 < y1)) = true then
        some (-1)
      else
        if (decide (x_0 > y1)) = true then
          some 1
        else
          some 0

def reduce_sorted_1 (n : Nat) (a0 : TreeTree) (b1 : TreeTree) : Option (Int) :=
  (tree_Leaves n a0).bind fun r5412 =>
  (slices_Min_int n r5412).bind fun r5420 =>
  (tree_Leaves n b1).bind fun r5422 =>
  (slices_Min_int n r5422).bind fun r5424 =>
  (cmp_Compare_int n r5420 r5424).bind fun r5430 =>
  some r5430

def slices_SortFunc_tree_Tree_c31 (n : Nat) (l0 : List TreeTree) : Option (List TreeTree) := sortM (fun a b => reduce_sorted_1 n a b) l0

def reduce_sorted_J1 (n : Nat) (t0 : TreeTree) (p5385 : List TreeTree) : Option (TreeTree) :=
  if (t0.Kind == 2) = true then
    (slices_SortFunc_tree_Tree_c31 n p5385).bind fun q5432 =>
    some (⟨t0.Kind, t0.N, q5432⟩ : TreeTree)
  else
    some (⟨t0.Kind, t0.N, p5385⟩ : TreeTree)

def reduce_sorted_L2 (n : Nat) (t0 : TreeTree) (slf_reduce_sorted : TreeTree → Option (TreeTree)) : Nat → Int → (List TreeTree) → Option (TreeTree)
  | 0, _, _ => none
  | rec_n2 + 1, p5437, p5438 =>
    if (decide (p5437 < (t0.Kids.length : Int))) = true then
      (atI t0.Kids p5437).bind fun x5443 =>
      (slf_reduce_sorted x5443).bind fun r5445 =>
      if p5438.length + ([r5445]).length ≤ 1000000000 then
        (some (p5438 ++ ([r5445]))).bind fun l5446 =>
        (reduce_sorted_L2 n t0 slf_reduce_sorted rec_n2) (IntKind.i64.wrap (p5437 + 1)) l5446
      else none
    else
      reduce_sorted_J1 n t0 p5438

def reduce_sorted : Nat → TreeTree → Option (TreeTree)
  | 0, _ => none
  | n + 1, t0 =>
  reduce_sorted_L2 n t0 (reduce_sorted n) n 0 ([])

def reduce_Reduce_J2 (n : Nat) (p5361 : List ReduceEdge) : Option (TreeTree × Int) :=
  if ((p5361.length : Int) != 1) = true then
    some ((⟨0, 0, []⟩ : TreeTree), 14)
  else
    (atI p5361 0).bind fun x5362 =>
    if (!((decide (x5362.pair.from_ = (⟨#[76]⟩ : Str))) && (decide (x5362.pair.to_ = (⟨#[82]⟩ : Str))))) = true then
      some ((⟨0, 0, []⟩ : TreeTree), 14)
    else
      (reduce_sorted n x5362.t_).bind fun r5448 =>
      some (r5448, 0)

def reduce_Reduce_L3 (n : Nat) : Nat → (List ReduceEdge) → Bool → Option (TreeTree × Int)
  | 0, _, _ => none
  | rec_n3 + 1, p5455, true5456 =>
    if true5456 = true then
      (reduce_parallel_v1 n p5455).bind fun ⟨r5464, q5465⟩ =>
      (reduce_series_v1 n q5465).bind fun ⟨r5467, q5468⟩ =>
      if r5464 = true then
        (reduce_Reduce_L3 n rec_n3) q5468 true
      else
        (reduce_Reduce_L3 n rec_n3) q5468 r5467
    else
      reduce_Reduce_J2 n p5455

def reduce_Reduce_J1 (n : Nat) (p4948 : List ReduceEdge) : Option (TreeTree × Int) :=
  reduce_Reduce_L3 n n p4948 true

def reduce_Reduce_L4 (n : Nat) (_append0 : ApiRung) : Nat → Int → (List ReduceEdge) → Option (TreeTree × Int)
  | 0, _, _ => none
  | rec_n4 + 1, p5471, p5472 =>
    if (decide (p5471 < (_append0.Contacts.length : Int))) = true then
      (atI _append0.Contacts p5471).bind fun x5475 =>
      if p5472.length + ([(⟨(⟨x5475.From, x5475.To⟩ : ReducePair), (⟨0, p5471, ([] : List TreeTree)⟩ : TreeTree)⟩ : ReduceEdge)]).length ≤ 1000000000 then
        (some (p5472 ++ ([(⟨(⟨x5475.From, x5475.To⟩ : ReducePair), (⟨0, p5471, ([] : List TreeTree)⟩ : TreeTree)⟩ : ReduceEdge)]))).bind fun l5476 =>
        (reduce_Reduce_L4 n _append0 rec_n4) (IntKind.i64.wrap (p5471 + 1)) l5476
      else none
    else
      reduce_Reduce_J1 n p5472

def reduce_Reduce (n : Nat) (_append0 : ApiRung) : Option (TreeTree × Int) :=
  (flow_Check n _append0).bind fun r4939 =>
  if (r4939 != 0) = true then
    some ((⟨0, 0, []⟩ : TreeTree), r4939)
  else
    reduce_Reduce_L4 n _append0 n 0 ([])

def tree_Tree_check_1 (n : Nat) (k0 : TreeTree) (b0 : TreeTree) : Option (Bool) :=
  some (k0.Kind == b0.Kind)

def slices_IndexFunc_tree_Tree_c59_L1 (n : Nat) (s0 : List TreeTree) (b0 : TreeTree) : Nat → Int → Option (Int)
  | 0, _ => none
  | rec_n1 + 1, p5497 =>
    if (decide (p5497 < (s0.length : Int))) = true then
      (atI s0 p5497).bind fun x5501 =>
      (tree_Tree_check_1 n x5501 b0).bind fun r5503 =>
      if r5503 = true then
        some p5497
      else
        (slices_IndexFunc_tree_Tree_c59_L1 n s0 b0 rec_n1) (IntKind.i64.wrap (p5497 + 1))
    else
      some (-1)

def slices_IndexFunc_tree_Tree_c59 (n : Nat) (s0 : List TreeTree) (b0 : TreeTree) : Option (Int) :=
  slices_IndexFunc_tree_Tree_c59_L1 n s0 b0 n 0

def slices_ContainsFunc_tree_Tree_c59 (n : Nat) (s0 : List TreeTree) (b0 : TreeTree) : Option (Bool) :=
  (slices_IndexFunc_tree_Tree_c59 n s0 b0).bind fun r5507 =>
  some (decide (r5507 ≥ 0))

def tree_Tree_check_L2 (_append0 : TreeTree) (a1 : Int) (slf_tree_Tree_check : TreeTree → Int → (List (Int × Bool)) → Option (Int × (List (Int × Bool)))) : Nat → (List (Int × Bool)) → Int → Option (Int × (List (Int × Bool)))
  | 0, _, _ => none
  | rec_n2 + 1, m5550, p5551 =>
    if (decide (p5551 < (_append0.Kids.length : Int))) = true then
      (atI _append0.Kids p5551).bind fun x5556 =>
      (slf_tree_Tree_check x5556 a1 m5550).bind fun ⟨r5558, q5559⟩ =>
      if (r5558 != 0) = true then
        some (r5558, q5559)
      else
        (tree_Tree_check_L2 _append0 a1 slf_tree_Tree_check rec_n2) q5559 (IntKind.i64.wrap (p5551 + 1))
    else
      some (0, m5550)

def tree_Tree_check_J1 (n : Nat) (_append0 : TreeTree) (a1 : Int) (m0 : List (Int × Bool)) (slf_tree_Tree_check : TreeTree → Int → (List (Int × Bool)) → Option (Int × (List (Int × Bool)))) : Option (Int × (List (Int × Bool))) :=
  tree_Tree_check_L2 _append0 a1 slf_tree_Tree_check n m0 0

def tree_Tree_check : Nat → TreeTree → Int → (List (Int × Bool)) → Option (Int × (List (Int × Bool)))
  | 0, _, _, _ => none
  | n + 1, _append0, a1, m0 =>
  if (decide (_append0.Kind < 0)) = true then
    some (8, m0)
  else
    if (decide (_append0.Kind > 2)) = true then
      some (8, m0)
    else
      if (_append0.Kind == 0) = true then
        if (decide ((_append0.Kids.length : Int) > 0)) = true then
          some (2, m0)
        else
          if (_append0.Kind != 0) = true then
            if (_append0.N != 0) = true then
              some (2, m0)
            else
              if (decide (_append0.N < 0)) = true then
                some (3, m0)
              else
                if (decide (_append0.N ≥ a1)) = true then
                  some (3, m0)
                else
                  if ((mGet m0 _append0.N).getD false) = true then
                    some (9, m0)
                  else
                    some (0, (mPut m0 _append0.N true))
          else
            if (decide (_append0.N < 0)) = true then
              some (3, m0)
            else
              if (decide (_append0.N ≥ a1)) = true then
                some (3, m0)
              else
                if ((mGet m0 _append0.N).getD false) = true then
                  some (9, m0)
                else
                  some (0, (mPut m0 _append0.N true))
      else
        if (_append0.Kind != 0) = true then
          if (_append0.N != 0) = true then
            some (2, m0)
          else
            if (decide ((_append0.Kids.length : Int) < 2)) = true then
              some (5, m0)
            else
              (slices_ContainsFunc_tree_Tree_c59 n _append0.Kids _append0).bind fun r5561 =>
              if r5561 = true then
                some (14, m0)
              else
                tree_Tree_check_J1 n _append0 a1 m0 (tree_Tree_check n)
        else
          if (decide ((_append0.Kids.length : Int) < 2)) = true then
            some (5, m0)
          else
            (slices_ContainsFunc_tree_Tree_c59 n _append0.Kids _append0).bind fun r5563 =>
            if r5563 = true then
              some (14, m0)
            else
              tree_Tree_check_J1 n _append0 a1 m0 (tree_Tree_check n)

def tree_Check (n : Nat) (t0 : TreeTree) (many1 : Int) : Option (Int) :=
  (tree_Tree_check n t0 many1 ([])).bind fun ⟨r5565, q5566⟩ =>
  if (r5565 == 0) = true then
    if (((q5566.length : Nat) : Int) != (imax 0 many1)) = true then
      some 4
    else
      some r5565
  else
    some r5565

def tree_Tree_eval_1 (slf_tree_Tree_eval : TreeTree → (List Bool) → Option (Bool)) (n : Nat) (k0 : TreeTree) (b0 : List Bool) : Option (Bool) :=
  (slf_tree_Tree_eval k0 b0).bind fun r5573 =>
  some r5573

def tree_Tree_eval_2_c36 (slf_tree_Tree_eval : TreeTree → (List Bool) → Option (Bool)) (n : Nat) (k0 : TreeTree) (b1 : List Bool) : Option (Bool) :=
  (tree_Tree_eval_1 slf_tree_Tree_eval n k0 b1).bind fun r5577 =>
  some (!r5577)

def slices_IndexFunc_tree_Tree_c38_36_L1 (n : Nat) (s0 : List TreeTree) (b1 : List Bool) (slf_tree_Tree_eval : TreeTree → (List Bool) → Option (Bool)) : Nat → Int → Option (Int)
  | 0, _ => none
  | rec_n1 + 1, p5590 =>
    if (decide (p5590 < (s0.length : Int))) = true then
      (atI s0 p5590).bind fun x5594 =>
      (tree_Tree_eval_2_c36 slf_tree_Tree_eval n x5594 b1).bind fun r5596 =>
      if r5596 = true then
        some p5590
      else
        (slices_IndexFunc_tree_Tree_c38_36_L1 n s0 b1 slf_tree_Tree_eval rec_n1) (IntKind.i64.wrap (p5590 + 1))
    else
      some (-1)

def slices_IndexFunc_tree_Tree_c38_36 (slf_tree_Tree_eval : TreeTree → (List Bool) → Option (Bool)) (n : Nat) (s0 : List TreeTree) (b1 : List Bool) : Option (Int) :=
  slices_IndexFunc_tree_Tree_c38_36_L1 n s0 b1 slf_tree_Tree_eval n 0

def slices_ContainsFunc_tree_Tree_c38_36 (slf_tree_Tree_eval : TreeTree → (List Bool) → Option (Bool)) (n : Nat) (s0 : List TreeTree) (b1 : List Bool) : Option (Bool) :=
  (slices_IndexFunc_tree_Tree_c38_36 slf_tree_Tree_eval n s0 b1).bind fun r5600 =>
  some (decide (r5600 ≥ 0))

def slices_IndexFunc_tree_Tree_c36_L1 (n : Nat) (s0 : List TreeTree) (b0 : List Bool) (slf_tree_Tree_eval : TreeTree → (List Bool) → Option (Bool)) : Nat → Int → Option (Int)
  | 0, _ => none
  | rec_n1 + 1, p5616 =>
    if (decide (p5616 < (s0.length : Int))) = true then
      (atI s0 p5616).bind fun x5620 =>
      (tree_Tree_eval_1 slf_tree_Tree_eval n x5620 b0).bind fun r5622 =>
      if r5622 = true then
        some p5616
      else
        (slices_IndexFunc_tree_Tree_c36_L1 n s0 b0 slf_tree_Tree_eval rec_n1) (IntKind.i64.wrap (p5616 + 1))
    else
      some (-1)

def slices_IndexFunc_tree_Tree_c36 (slf_tree_Tree_eval : TreeTree → (List Bool) → Option (Bool)) (n : Nat) (s0 : List TreeTree) (b0 : List Bool) : Option (Int) :=
  slices_IndexFunc_tree_Tree_c36_L1 n s0 b0 slf_tree_Tree_eval n 0

def slices_ContainsFunc_tree_Tree_c36 (slf_tree_Tree_eval : TreeTree → (List Bool) → Option (Bool)) (n : Nat) (s0 : List TreeTree) (b0 : List Bool) : Option (Bool) :=
  (slices_IndexFunc_tree_Tree_c36 slf_tree_Tree_eval n s0 b0).bind fun r5626 =>
  some (decide (r5626 ≥ 0))

def tree_Tree_eval : Nat → TreeTree → (List Bool) → Option (Bool)
  | 0, _, _ => none
  | n + 1, t0, on1 =>
  if (t0.Kind == 1) = true then
    (slices_ContainsFunc_tree_Tree_c38_36 (tree_Tree_eval n) n t0.Kids on1).bind fun r5602 =>
    some (!r5602)
  else
    if (t0.Kind == 2) = true then
      (slices_ContainsFunc_tree_Tree_c36 (tree_Tree_eval n) n t0.Kids on1).bind fun r5628 =>
      some r5628
    else
      (atI on1 t0.N).bind fun x5629 =>
      some x5629

def tree_Eval (n : Nat) (t0 : TreeTree) (on1 : List Bool) : Option (Bool × Int) :=
  (tree_Check n t0 (on1.length : Int)).bind fun r5568 =>
  if (r5568 != 0) = true then
    some (false, r5568)
  else
    (tree_Tree_eval n t0 on1).bind fun r5631 =>
    some (r5631, 0)

def law16_RungevalAgreesWithTree_J2 (n : Nat) (_append0 : ApiRung) (a1 : List Bool) (r584 : Bool) : Option (Bool) :=
  (reduce_Reduce n _append0).bind fun ⟨r5478, r5479⟩ =>
  if (r5479 != 0) = true then
    (law16_alive n ).bind fun r5483 =>
    some r5483
  else
    (tree_Eval n r5478 a1).bind fun ⟨r5633, r5634⟩ =>
    (law16_alive n ).bind fun r5636 =>
    if r5636 = true then
      if (r5634 == 0) = true then
        some (r584 == r5633)
      else
        some false
    else
      some false

def law16_RungevalAgreesWithTree_J1 (n : Nat) (_append0 : ApiRung) (a1 : List Bool) (r584 : Bool) (r585 : Int) (r588 : Bool) (r589 : Int) (l599 : List Bool) : Option (Bool) :=
  (rungeval_Conducts n _append0 l599).bind fun ⟨r601, r602⟩ =>
  if (r585 != 0) = true then
    some false
  else
    if (r589 != 0) = true then
      some false
    else
      if (r602 != 0) = true then
        some false
      else
        if r588 = true then
          some false
        else
          (ref12_Reachable n _append0 (⟨#[76]⟩ : Str)).bind fun r5638 =>
          (slices_Contains_string n r5638 (⟨#[82]⟩ : Str)).bind fun r5640 =>
          if (!(r601 == r5640)) = true then
            some false
          else
            if r584 = true then
              if (!r601) = true then
                some false
              else
                law16_RungevalAgreesWithTree_J2 n _append0 a1 r584
            else
              law16_RungevalAgreesWithTree_J2 n _append0 a1 r584

def law16_RungevalAgreesWithTree_L3 (n : Nat) (_append0 : ApiRung) (a1 : List Bool) (r584 : Bool) (r585 : Int) (r588 : Bool) (r589 : Int) : Nat → Int → (List Bool) → Option (Bool)
  | 0, _, _ => none
  | rec_n3 + 1, p5643, l5644 =>
    if (decide (p5643 < (a1.length : Int))) = true then
      (atI l5644 p5643).bind fun x5647 =>
      (some (l5644.set p5643.toNat true)).bind fun l5648 =>
      (law16_RungevalAgreesWithTree_L3 n _append0 a1 r584 r585 r588 r589 rec_n3) (IntKind.i64.wrap (p5643 + 1)) l5648
    else
      law16_RungevalAgreesWithTree_J1 n _append0 a1 r584 r585 r588 r589 l5644

def law16_RungevalAgreesWithTree (n : Nat) (_append0 : ApiRung) (a1 : List Bool) : Option (Bool) :=
  (law12_TooLarge n _append0).bind fun r576 =>
  if (decide (r576 > 0)) = true then
    (law16_alive n ).bind fun r578 =>
    some r578
  else
    if (decide ((_append0.Contacts.length : Int) > 30)) = true then
      (law16_alive n ).bind fun r580 =>
      some r580
    else
      if ((a1.length : Int) != (_append0.Contacts.length : Int)) = true then
        (law16_alive n ).bind fun r582 =>
        some r582
      else
        (rungeval_Conducts n _append0 a1).bind fun ⟨r584, r585⟩ =>
        if 0 ≤ (a1.length : Int) ∧ (a1.length : Int) ≤ (a1.length : Int) ∧ (a1.length : Int) ≤ 1000000000 then
          (some (List.replicate a1.length false)).bind fun l586 =>
          (rungeval_Conducts n _append0 l586).bind fun ⟨r588, r589⟩ =>
          if 0 ≤ (a1.length : Int) ∧ (a1.length : Int) ≤ (a1.length : Int) ∧ (a1.length : Int) ≤ 1000000000 then
            (some (List.replicate a1.length false)).bind fun l590 =>
            law16_RungevalAgreesWithTree_L3 n _append0 a1 r584 r585 r588 r589 n 0 l590
          else none
        else none

end Go.G
