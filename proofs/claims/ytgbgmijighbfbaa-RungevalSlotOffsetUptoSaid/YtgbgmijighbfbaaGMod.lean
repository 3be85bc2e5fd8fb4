/- Models of functions of the program. -/
import Derived.Test.YtgbgmijighbfbaaGTy
set_option linter.unusedSimpArgs false
set_option linter.unusedVariables false
set_option linter.unusedSectionVars false
namespace Go.G
open Go.Av
def image_is (n : Nat) (l0 : List Bool) (n_1 : Int) : Option (Bool) :=
  if (decide (n_1 ≥ 0)) = true then
    some (decide (n_1 < (l0.length : Int)))
  else
    some false

def image_Get (n : Nat) (l0 : List Bool) (n_1 : Int) : Option (Bool × Int) :=
  (image_is n l0 n_1).bind fun r2 =>
  if (!r2) = true then
    some (false, 3)
  else
    (atI l0 n_1).bind fun x5 =>
    some (x5, 0)

def image_Set (n : Nat) (l0 : List Bool) (n_1 : Int) (v2 : Bool) : Option ((List Bool) × Int) :=
  (image_is n l0 n_1).bind fun uu =>
  if (!uu) = true then
    some ([], 3)
  else
    if 0 ≤ (l0.length : Int) ∧ (l0.length : Int) ≤ (l0.length : Int) ∧ (l0.length : Int) ≤ 1000000000 then
      (some (List.replicate l0.length false)).bind fun uv =>
      (some (l0.take (min l0.length l0.length) ++ uv.drop (min l0.length l0.length))).bind fun pg =>
      (atI pg n_1).bind fun vv =>
      (some (pg.set n_1.toNat v2)).bind fun uw =>
      some (uw, 0)
    else none

def slices_Clone_bool (n : Nat) (s0 : List Bool) : Option ((List Bool)) :=
  isnilM s0 (
    some ([])) (
    if s0.length ≤ 1000000000 then
      some s0
    else none)

def slices_Index_bool_L1 (s0 : List Bool) (v1 : Bool) : Nat → Int → Option (Int)
  | 0, _ => none
  | rec_n1 + 1, du =>
    if (decide (du < (s0.length : Int))) = true then
      (atI s0 du).bind fun uy =>
      if (v1 == uy) = true then
        some du
      else
        (slices_Index_bool_L1 s0 v1 rec_n1) (IntKind.i64.wrap (du + 1))
    else
      some (-1)

def slices_Index_bool (n : Nat) (s0 : List Bool) (v1 : Bool) : Option (Int) :=
  slices_Index_bool_L1 s0 v1 n 0

def ref02_Set (n : Nat) (l0 : List Bool) (n_1 : Int) (v2 : Bool) : Option ((List Bool)) :=
  if l0.length ≤ 1000000000 then
    (atI l0 n_1).bind fun vw =>
    (some (l0.set n_1.toNat v2)).bind fun uz =>
    some uz
  else none

def ref03_Read_J1 (a2 : ApiAddr) (fb : List Bool) : Option (Bool × Int) :=
  if (decide (a2.N < 0)) = true then
    some (false, 3)
  else
    if (decide (a2.N ≥ (fb.length : Int))) = true then
      some (false, 3)
    else
      (atI fb a2.N).bind fun va =>
      some (va, 0)

def ref03_Read (n : Nat) (in0 : List Bool) (st1 : ApiState) (a2 : ApiAddr) : Option (Bool × Int) :=
  if (a2.Space == 0) = true then
    ref03_Read_J1 a2 in0
  else
    if (a2.Space == 1) = true then
      ref03_Read_J1 a2 st1.Q
    else
      if (a2.Space == 2) = true then
        ref03_Read_J1 a2 st1.M
      else
        some (false, 8)

def rungeval_conducting (n : Nat) (kind0 : Int) (v1 : Bool) (was2 : Bool) : Option (Bool) :=
  if v1 = true then
    if kind0 = 0 then
      some v1
    else
      if kind0 = 1 then
        some (!v1)
      else
        if kind0 = 2 then
          some (!was2)
        else
          if kind0 = 3 then
            some false
          else
            none
  else
    if kind0 = 0 then
      some v1
    else
      if kind0 = 1 then
        some (!v1)
      else
        if kind0 = 2 then
          some false
        else
          if kind0 = 3 then
            some was2
          else
            none

def rungeval_sees (n : Nat) (c0 : ApiContact) : Option (Bool) :=
  if (c0.Kind == 2) = true then
    some true
  else
    some (c0.Kind == 3)

def state_Read (n : Nat) (in0 : List Bool) (st1 : ApiState) (a2 : ApiAddr) : Option (Bool × Int) :=
  if (decide (a2.Space < 0)) = true then
    some (false, 8)
  else
    if (decide (a2.Space ≥ 3)) = true then
      some (false, 8)
    else
      if a2.Space = 0 then
        (image_Get n in0 a2.N).bind fun ⟨vb, vc⟩ =>
        some (vb, vc)
      else
        if a2.Space = 1 then
          (image_Get n st1.Q a2.N).bind fun ⟨vd, ve⟩ =>
          some (vd, ve)
        else
          if a2.Space = 2 then
            (image_Get n st1.M a2.N).bind fun ⟨vf, vg⟩ =>
            some (vf, vg)
          else
            none

def ref03_Clone (n : Nat) (st0 : ApiState) : Option (ApiState) :=
  if st0.Q.length ≤ 1000000000 then
    if st0.M.length ≤ 1000000000 then
      if st0.E.length ≤ 1000000000 then
        some st0
      else none
    else none
  else none

def ref03_Clone_o0 (n : Nat) (st0 : ApiState) : Option (ApiState) :=
  if st0.Q.length ≤ 1000000000 then
    if st0.M.length ≤ 1000000000 then
      if st0.E.length ≤ 1000000000 then
        some st0
      else none
    else none
  else none

def ref03_Clone_o0_1 (n : Nat) (st0 : ApiState) : Option (ApiState) :=
  if st0.Q.length ≤ 1000000000 then
    if st0.M.length ≤ 1000000000 then
      if st0.E.length ≤ 1000000000 then
        some st0
      else none
    else none
  else none

def ref03_Write (n : Nat) (st0 : ApiState) (a1 : ApiAddr) (v2 : Bool) : Option (ApiState × Int) :=
  (ref03_Clone_o0_1 n st0).bind fun y =>
  if (a1.Space == 1) = true then
    if (decide (a1.N < 0)) = true then
      some ((⟨[], [], []⟩ : ApiState), 3)
    else
      if (decide (a1.N ≥ (y.Q.length : Int))) = true then
        some ((⟨[], [], []⟩ : ApiState), 3)
      else
        (atI y.Q a1.N).bind fun vp =>
        (some (y.Q.set a1.N.toNat v2)).bind fun pi =>
        some ((⟨pi, y.M, y.E⟩ : ApiState), 0)
  else
    if (a1.Space == 2) = true then
      if (decide (a1.N < 0)) = true then
        some ((⟨[], [], []⟩ : ApiState), 3)
      else
        if (decide (a1.N ≥ (y.M.length : Int))) = true then
          some ((⟨[], [], []⟩ : ApiState), 3)
        else
          (atI y.M a1.N).bind fun vq =>
          (some (y.M.set a1.N.toNat v2)).bind fun pj =>
          some ((⟨y.Q, pj, y.E⟩ : ApiState), 0)
    else
      some ((⟨[], [], []⟩ : ApiState), 8)

def state_Clone (n : Nat) (st0 : ApiState) : Option (ApiState) :=
  (slices_Clone_bool n st0.Q).bind fun pk =>
  (slices_Clone_bool n st0.M).bind fun pm =>
  (slices_Clone_bool n st0.E).bind fun po =>
  some (⟨pk, pm, po⟩ : ApiState)

def state_Write_J1 (z : ApiState) (pp : List Bool) (fc : Int) (pq : List Bool) : Option (ApiState × Int) :=
  if (fc != 0) = true then
    some ((⟨[], [], []⟩ : ApiState), fc)
  else
    some ((⟨pp, pq, z.E⟩ : ApiState), 0)

def state_Write (n : Nat) (st0 : ApiState) (a1 : ApiAddr) (v2 : Bool) : Option (ApiState × Int) :=
  (state_Clone n st0).bind fun z =>
  if (a1.Space == 1) = true then
    (image_Set n st0.Q a1.N v2).bind fun ⟨pu, pv⟩ =>
    state_Write_J1 z pu pv z.M
  else
    if (a1.Space == 2) = true then
      (image_Set n st0.M a1.N v2).bind fun ⟨pw, py⟩ =>
      state_Write_J1 z z.Q py pw
    else
      state_Write_J1 z z.Q 8 z.M

def rungeval_writes (n : Nat) (kind0 : Int) (on1 : Bool) : Option (Bool × Bool) :=
  if kind0 = 0 then
    some (on1, true)
  else
    if kind0 = 1 then
      some ((!on1), true)
    else
      if kind0 = 2 then
        some (true, on1)
      else
        if kind0 = 3 then
          some (false, on1)
        else
          none

def ref02_Equal_L1 (a0 : List Bool) (b1 : List Bool) : Nat → Int → Option (Bool)
  | 0, _ => none
  | rec_n1 + 1, cf =>
    if (decide (cf < (a0.length : Int))) = true then
      (atI a0 cf).bind fun pz =>
      (atI b1 cf).bind fun qa =>
      if (!(pz == qa)) = true then
        some false
      else
        (ref02_Equal_L1 a0 b1 rec_n1) (IntKind.i64.wrap (cf + 1))
    else
      some true

def ref02_Equal (n : Nat) (a0 : List Bool) (b1 : List Bool) : Option (Bool) :=
  if ((a0.length : Int) != (b1.length : Int)) = true then
    some false
  else
    ref02_Equal_L1 a0 b1 n 0

def slices_Contains_bool (n : Nat) (s0 : List Bool) (v1 : Bool) : Option (Bool) :=
  (slices_Index_bool n s0 v1).bind fun qb =>
  some (decide (qb ≥ 0))

def ref16_EdgeCount_L1 (r_0 : ApiRung) : Nat → Int → Int → Option (Int)
  | 0, _, _ => none
  | rec_n1 + 1, cg, bz =>
    if (decide (bz < (r_0.Contacts.length : Int))) = true then
      (atI r_0.Contacts bz).bind fun fd =>
      if (fd.Kind == 2) = true then
        (ref16_EdgeCount_L1 r_0 rec_n1) (IntKind.i64.wrap (cg + 1)) (IntKind.i64.wrap (bz + 1))
      else
        if (fd.Kind == 3) = true then
          (ref16_EdgeCount_L1 r_0 rec_n1) (IntKind.i64.wrap (cg + 1)) (IntKind.i64.wrap (bz + 1))
        else
          (ref16_EdgeCount_L1 r_0 rec_n1) cg (IntKind.i64.wrap (bz + 1))
    else
      some cg

def ref16_EdgeCount (n : Nat) (r_0 : ApiRung) : Option (Int) :=
  ref16_EdgeCount_L1 r_0 n 0 0

def rungeval_EdgeCount_L1 (n : Nat) (r_0 : ApiRung) : Nat → Int → Int → Option (Int)
  | 0, _, _ => none
  | rec_n1 + 1, dd, ci =>
    if (decide (ci < (r_0.Contacts.length : Int))) = true then
      (atI r_0.Contacts ci).bind fun qc =>
      (rungeval_sees n qc).bind fun qd =>
      if qd = true then
        (rungeval_EdgeCount_L1 n r_0 rec_n1) (IntKind.i64.wrap (dd + 1)) (IntKind.i64.wrap (ci + 1))
      else
        (rungeval_EdgeCount_L1 n r_0 rec_n1) dd (IntKind.i64.wrap (ci + 1))
    else
      some dd

def rungeval_EdgeCount (n : Nat) (r_0 : ApiRung) : Option (Int) :=
  rungeval_EdgeCount_L1 n r_0 n 0 0

def ref16_Contacts_L1 (n : Nat) (_append0 : ApiRung) (a1 : List Bool) (a2 : ApiState) (a3 : Int) (ak : ApiState) : Nat → (List Bool) → Int → (List Bool) → Int → Option ((List Bool) × ApiState × Int)
  | 0, _, _, _, _ => none
  | rec_n1 + 1, ba, ca, cj, bb =>
    if (decide (ca < (_append0.Contacts.length : Int))) = true then
      (atI _append0.Contacts ca).bind fun am =>
      if (decide (am.Kind < 0)) = true then
        some ([], (⟨[], [], []⟩ : ApiState), 8)
      else
        if (decide (am.Kind > 3)) = true then
          some ([], (⟨[], [], []⟩ : ApiState), 8)
        else
          (ref03_Read n a1 a2 am.A).bind fun ⟨bc, fe⟩ =>
          if (fe != 0) = true then
            some ([], (⟨[], [], []⟩ : ApiState), fe)
          else
            if (decide (am.Kind < 2)) = true then
              if ba.length + ([(bc == (am.Kind == 0))]).length ≤ 1000000000 then
                (some (ba ++ ([(bc == (am.Kind == 0))]))).bind fun qe =>
                (ref16_Contacts_L1 n _append0 a1 a2 a3 ak rec_n1) qe (IntKind.i64.wrap (ca + 1)) cj bb
              else none
            else
              if (decide (a3 < 0)) = true then
                some ([], (⟨[], [], []⟩ : ApiState), 3)
              else
                if (decide (a3 ≥ (a2.E.length : Int))) = true then
                  some ([], (⟨[], [], []⟩ : ApiState), 3)
                else
                  if (decide (bb ≥ (IntKind.i64.wrap ((a2.E.length : Int) - a3)))) = true then
                    some ([], (⟨[], [], []⟩ : ApiState), 3)
                  else
                    (atI a2.E (IntKind.i64.wrap (a3 + bb))).bind fun qf =>
                    if (!(bc == qf)) = true then
                      if ba.length + ([(bc == (am.Kind == 2))]).length ≤ 1000000000 then
                        (some (ba ++ ([(bc == (am.Kind == 2))]))).bind fun qg =>
                        (ref02_Set n cj (IntKind.i64.wrap (a3 + bb)) bc).bind fun qi =>
                        (ref16_Contacts_L1 n _append0 a1 a2 a3 ak rec_n1) qg (IntKind.i64.wrap (ca + 1)) qi (IntKind.i64.wrap (bb + 1))
                      else none
                    else
                      if ba.length + ([false]).length ≤ 1000000000 then
                        (some (ba ++ ([false]))).bind fun qj =>
                        (ref02_Set n cj (IntKind.i64.wrap (a3 + bb)) bc).bind fun qk =>
                        (ref16_Contacts_L1 n _append0 a1 a2 a3 ak rec_n1) qj (IntKind.i64.wrap (ca + 1)) qk (IntKind.i64.wrap (bb + 1))
                      else none
    else
      some (ba, (⟨ak.Q, ak.M, cj⟩ : ApiState), 0)

def ref16_Contacts (n : Nat) (_append0 : ApiRung) (a1 : List Bool) (a2 : ApiState) (a3 : Int) : Option ((List Bool) × ApiState × Int) :=
  (ref03_Clone n a2).bind fun ak =>
  ref16_Contacts_L1 n _append0 a1 a2 a3 ak n ([]) 0 ak.E 0

def slices_Equal_bool_L1 (ce : List Bool) (da : List Bool) : Nat → Int → Option (Bool)
  | 0, _ => none
  | rec_n1 + 1, ck =>
    if (decide (ck < (ce.length : Int))) = true then
      (atI ce ck).bind fun qm =>
      (atI da ck).bind fun qo =>
      if (!(qm == qo)) = true then
        some false
      else
        (slices_Equal_bool_L1 ce da rec_n1) (IntKind.i64.wrap (ck + 1))
    else
      some true

def slices_Equal_bool (n : Nat) (ce : List Bool) (da : List Bool) : Option (Bool) :=
  if ((ce.length : Int) != (da.length : Int)) = true then
    some false
  else
    slices_Equal_bool_L1 ce da n 0

def law03_TooLarge_L1 (l0 : List ApiState) : Nat → Int → Option (Int)
  | 0, _ => none
  | rec_n1 + 1, de =>
    if (decide (de < (l0.length : Int))) = true then
      (atI l0 de).bind fun df =>
      if (decide ((df.Q.length : Int) > 1000)) = true then
        some 1
      else
        if (decide ((df.M.length : Int) > 1000)) = true then
          some 1
        else
          if (decide ((df.E.length : Int) > 1000)) = true then
            some 1
          else
            (law03_TooLarge_L1 l0 rec_n1) (IntKind.i64.wrap (de + 1))
    else
      some 0

def law03_TooLarge (n : Nat) (l0 : List ApiState) : Option (Int) :=
  law03_TooLarge_L1 l0 n 0

def slices_Clone_bool_o0 (n : Nat) (s0 : List Bool) : Option ((List Bool)) :=
  isnilM s0 (
    some ([])) (
    if s0.length ≤ 1000000000 then
      some s0
    else none)

def state_Clone_o2 (n : Nat) (st0 : ApiState) : Option (ApiState) :=
  (slices_Clone_bool n st0.Q).bind fun qp =>
  (slices_Clone_bool n st0.M).bind fun qq =>
  (slices_Clone_bool_o0 n st0.E).bind fun qu =>
  some (⟨qp, qq, qu⟩ : ApiState)

def rungeval_Contacts_J2 (n : Nat) (bq : List Bool) (ao : Int) (rec_rungeval_Contacts_L1 : Int → (List Bool) → (List Bool) → Int → Option ((List Bool) × ApiState × Int)) (ap : ApiContact) (cb : Bool) (qv : List Bool) (qw : Bool) (qy : Int) : Option ((List Bool) × ApiState × Int) :=
  (rungeval_conducting n ap.Kind cb qw).bind fun qz =>
  (atI bq ao).bind fun vu =>
  (some (bq.set ao.toNat qz)).bind fun ua =>
  rec_rungeval_Contacts_L1 qy qv ua (IntKind.i64.wrap (ao + 1))

def rungeval_Contacts_L1 (n : Nat) (_append0 : ApiRung) (a1 : List Bool) (a2 : ApiState) (bd : ApiState) : Nat → Int → (List Bool) → (List Bool) → Int → Option ((List Bool) × ApiState × Int)
  | 0, _, _, _, _ => none
  | rec_n1 + 1, bu, cc, bq, ao =>
    if (decide (ao < (_append0.Contacts.length : Int))) = true then
      (atI _append0.Contacts ao).bind fun ap =>
      if (decide (ap.Kind < 0)) = true then
        some ([], (⟨[], [], []⟩ : ApiState), 8)
      else
        if (decide (ap.Kind ≥ 4)) = true then
          some ([], (⟨[], [], []⟩ : ApiState), 8)
        else
          (state_Read n a1 a2 ap.A).bind fun ⟨cb, ff⟩ =>
          if (ff != 0) = true then
            some ([], (⟨[], [], []⟩ : ApiState), ff)
          else
            (rungeval_sees n ap).bind fun ub =>
            if ub = true then
              if (decide (bu < 0)) = true then
                some ([], (⟨[], [], []⟩ : ApiState), 3)
              else
                if (decide (bu ≥ (cc.length : Int))) = true then
                  some ([], (⟨[], [], []⟩ : ApiState), 3)
                else
                  (atI cc bu).bind fun uc =>
                  (some (cc.set bu.toNat cb)).bind fun ud =>
                  rungeval_Contacts_J2 n bq ao (rungeval_Contacts_L1 n _append0 a1 a2 bd rec_n1) ap cb ud uc (IntKind.i64.wrap (bu + 1))
            else
              rungeval_Contacts_J2 n bq ao (rungeval_Contacts_L1 n _append0 a1 a2 bd rec_n1) ap cb cc false bu
    else
      some (bq, (⟨bd.Q, bd.M, cc⟩ : ApiState), 0)

def rungeval_Contacts (n : Nat) (_append0 : ApiRung) (a1 : List Bool) (a2 : ApiState) (a3 : Int) : Option ((List Bool) × ApiState × Int) :=
  (state_Clone_o2 n a2).bind fun bd =>
  if 0 ≤ (_append0.Contacts.length : Int) ∧ (_append0.Contacts.length : Int) ≤ (_append0.Contacts.length : Int) ∧ (_append0.Contacts.length : Int) ≤ 1000000000 then
    (some (List.replicate _append0.Contacts.length false)).bind fun ue =>
    rungeval_Contacts_L1 n _append0 a1 a2 bd n a3 bd.E ue 0
  else none

def ref16_Coils_J3 (n : Nat) (a2 : Bool) (aa : List Bool) (ab : List Bool) (ac : List Bool) (p : Int) (rec_ref16_Coils_L1 : (List Bool) → (List Bool) → (List Bool) → Int → Option (ApiState × Int)) (i : ApiCoil) (dg : Bool) : Option (ApiState × Int) :=
  (ref03_Write n (⟨aa, ab, ac⟩ : ApiState) i.A dg).bind fun ⟨bv, fg⟩ =>
  if (fg != 0) = true then
    some ((⟨[], [], []⟩ : ApiState), fg)
  else
    if (decide (i.Kind < 2)) = true then
      rec_ref16_Coils_L1 bv.Q bv.M bv.E (IntKind.i64.wrap (p + 1))
    else
      if a2 = true then
        rec_ref16_Coils_L1 bv.Q bv.M bv.E (IntKind.i64.wrap (p + 1))
      else
        rec_ref16_Coils_L1 aa ab ac (IntKind.i64.wrap (p + 1))

def ref16_Coils_J2 (n : Nat) (a2 : Bool) (aa : List Bool) (ab : List Bool) (ac : List Bool) (p : Int) (rec_ref16_Coils_L1 : (List Bool) → (List Bool) → (List Bool) → Int → Option (ApiState × Int)) (i : ApiCoil) (uf : Bool) : Option (ApiState × Int) :=
  if (i.Kind == 3) = true then
    ref16_Coils_J3 n a2 aa ab ac p rec_ref16_Coils_L1 i false
  else
    ref16_Coils_J3 n a2 aa ab ac p rec_ref16_Coils_L1 i uf

def ref16_Coils_L1 (n : Nat) (_append0 : ApiRung) (a2 : Bool) : Nat → (List Bool) → (List Bool) → (List Bool) → Int → Option (ApiState × Int)
  | 0, _, _, _, _ => none
  | rec_n1 + 1, aa, ab, ac, p =>
    if (decide (p < (_append0.Coils.length : Int))) = true then
      (atI _append0.Coils p).bind fun i =>
      if (decide (i.Kind < 0)) = true then
        some ((⟨[], [], []⟩ : ApiState), 8)
      else
        if (decide (i.Kind > 3)) = true then
          some ((⟨[], [], []⟩ : ApiState), 8)
        else
          if (i.Kind == 1) = true then
            ref16_Coils_J2 n a2 aa ab ac p (ref16_Coils_L1 n _append0 a2 rec_n1) i (!a2)
          else
            ref16_Coils_J2 n a2 aa ab ac p (ref16_Coils_L1 n _append0 a2 rec_n1) i a2
    else
      some ((⟨aa, ab, ac⟩ : ApiState), 0)

def ref16_Coils (n : Nat) (_append0 : ApiRung) (a1 : ApiState) (a2 : Bool) : Option (ApiState × Int) :=
  (ref03_Clone n a1).bind fun di =>
  ref16_Coils_L1 n _append0 a2 n di.Q di.M di.E 0

def rungeval_Coils_L1 (n : Nat) (r_0 : ApiRung) (on2 : Bool) : Nat → (List Bool) → (List Bool) → (List Bool) → Int → Option (ApiState × Int)
  | 0, _, _, _, _ => none
  | rec_n1 + 1, dj, dk, dm, cm =>
    if (decide (cm < (r_0.Coils.length : Int))) = true then
      (atI r_0.Coils cm).bind fun co =>
      if (decide (co.Kind < 0)) = true then
        some ((⟨[], [], []⟩ : ApiState), 8)
      else
        if (decide (co.Kind ≥ 4)) = true then
          some ((⟨[], [], []⟩ : ApiState), 8)
        else
          (rungeval_writes n co.Kind on2).bind fun ⟨ug, ui⟩ =>
          (state_Write n (⟨dj, dk, dm⟩ : ApiState) co.A ug).bind fun ⟨dp, fi⟩ =>
          if (fi != 0) = true then
            some ((⟨[], [], []⟩ : ApiState), fi)
          else
            if ui = true then
              (rungeval_Coils_L1 n r_0 on2 rec_n1) dp.Q dp.M dp.E (IntKind.i64.wrap (cm + 1))
            else
              (rungeval_Coils_L1 n r_0 on2 rec_n1) dj dk dm (IntKind.i64.wrap (cm + 1))
    else
      some ((⟨dj, dk, dm⟩ : ApiState), 0)

def rungeval_Coils (n : Nat) (r_0 : ApiRung) (st1 : ApiState) (on2 : Bool) : Option (ApiState × Int) :=
  (state_Clone n st1).bind fun dq =>
  rungeval_Coils_L1 n r_0 on2 n dq.Q dq.M dq.E 0

def ref03_Equal (n : Nat) (a0 : ApiState) (b1 : ApiState) : Option (Bool) :=
  (ref02_Equal n a0.Q b1.Q).bind fun uj =>
  if uj = true then
    (ref02_Equal n a0.M b1.M).bind fun uk =>
    if uk = true then
      (ref02_Equal n a0.E b1.E).bind fun um =>
      some um
    else
      some false
  else
    some false

def ref16_Conducts_L2 (be : List Str) : Nat → Int → Option (Bool × Int)
  | 0, _ => none
  | rec_n2 + 1, cp =>
    if (decide (cp < (be.length : Int))) = true then
      (atI be cp).bind fun fk =>
      if (decide (fk = (⟨#[82]⟩ : Str))) = true then
        some (true, 0)
      else
        (ref16_Conducts_L2 be rec_n2) (IntKind.i64.wrap (cp + 1))
    else
      some (false, 0)

def ref16_Conducts_J1 (n : Nat) (be : List Str) : Option (Bool × Int) :=
  ref16_Conducts_L2 be n 0

def ref16_Conducts_J5 (_append0 : ApiRung) (a : Int) (b : List Str) (rec_ref16_Conducts_L4 : Int → (List Str) → Option (Bool × Int)) (db : Bool) (dc : Bool) : Option (Bool × Int) :=
  if db = true then
    if (!dc) = true then
      (atI _append0.Contacts a).bind fun dv =>
      if b.length + ([dv.To]).length ≤ 1000000000 then
        (some (b ++ ([dv.To]))).bind fun fm =>
        rec_ref16_Conducts_L4 (IntKind.i64.wrap (a + 1)) fm
      else none
    else
      rec_ref16_Conducts_L4 (IntKind.i64.wrap (a + 1)) b
  else
    rec_ref16_Conducts_L4 (IntKind.i64.wrap (a + 1)) b

def ref16_Conducts_J7 (_append0 : ApiRung) (a : Int) (b : List Str) (g : Bool) (q : Int) (rec_ref16_Conducts_L6 : Bool → Bool → Int → Option (Bool × Int)) (cd : Bool) : Option (Bool × Int) :=
  (atI b q).bind fun fo =>
  (atI _append0.Contacts a).bind fun fp =>
  if (decide (fo = fp.To)) = true then
    rec_ref16_Conducts_L6 cd true (IntKind.i64.wrap (q + 1))
  else
    rec_ref16_Conducts_L6 cd g (IntKind.i64.wrap (q + 1))

def ref16_Conducts_L6 (_append0 : ApiRung) (a : Int) (b : List Str) (rec_ref16_Conducts_L4 : Int → (List Str) → Option (Bool × Int)) : Nat → Bool → Bool → Int → Option (Bool × Int)
  | 0, _, _, _ => none
  | rec_n6 + 1, bw, g, q =>
    if (decide (q < (b.length : Int))) = true then
      (atI b q).bind fun fq =>
      (atI _append0.Contacts a).bind fun fu =>
      if (decide (fq = fu.From)) = true then
        ref16_Conducts_J7 _append0 a b g q (ref16_Conducts_L6 _append0 a b rec_ref16_Conducts_L4 rec_n6) true
      else
        ref16_Conducts_J7 _append0 a b g q (ref16_Conducts_L6 _append0 a b rec_ref16_Conducts_L4 rec_n6) bw
    else
      ref16_Conducts_J5 _append0 a b rec_ref16_Conducts_L4 bw g

def ref16_Conducts_L4 (n : Nat) (_append0 : ApiRung) (a1 : List Bool) (aq : Int) (rec_ref16_Conducts_L3 : Int → (List Str) → Option (Bool × Int)) : Nat → Int → (List Str) → Option (Bool × Int)
  | 0, _, _ => none
  | rec_n4 + 1, a, b =>
    if (decide (a < (a1.length : Int))) = true then
      (atI a1 a).bind fun fv =>
      if (!fv) = true then
        (ref16_Conducts_L4 n _append0 a1 aq rec_ref16_Conducts_L3 rec_n4) (IntKind.i64.wrap (a + 1)) b
      else
        ref16_Conducts_L6 _append0 a b (ref16_Conducts_L4 n _append0 a1 aq rec_ref16_Conducts_L3 rec_n4) n false false 0
    else
      rec_ref16_Conducts_L3 (IntKind.i64.wrap (aq + 1)) b

def ref16_Conducts_L3 (n : Nat) (_append0 : ApiRung) (a1 : List Bool) : Nat → Int → (List Str) → Option (Bool × Int)
  | 0, _, _ => none
  | rec_n3 + 1, aq, dw =>
    if (decide (aq ≤ (a1.length : Int))) = true then
      ref16_Conducts_L4 n _append0 a1 aq (ref16_Conducts_L3 n _append0 a1 rec_n3) n 0 dw
    else
      ref16_Conducts_J1 n dw

def ref16_Conducts (n : Nat) (_append0 : ApiRung) (a1 : List Bool) : Option (Bool × Int) :=
  if ((a1.length : Int) != (_append0.Contacts.length : Int)) = true then
    some (false, 2)
  else
    (some ([(⟨#[76]⟩ : Str)])).bind fun uo =>
    ref16_Conducts_L3 n _append0 a1 n 0 uo

def ref16_Scan (n : Nat) (r_0 : ApiRung) (in1 : List Bool) (st2 : ApiState) (slot3 : Int) : Option (ApiState × Bool × Int) :=
  (ref16_Contacts n r_0 in1 st2 slot3).bind fun ⟨up, uq, fj⟩ =>
  if (fj != 0) = true then
    some ((⟨[], [], []⟩ : ApiState), false, fj)
  else
    (ref16_Conducts n r_0 up).bind fun ⟨dy, vi⟩ =>
    (ref16_Coils n r_0 uq dy).bind fun ⟨fw, dz⟩ =>
    if (dz != 0) = true then
      some ((⟨[], [], []⟩ : ApiState), false, dz)
    else
      some (fw, dy, 0)

def rungeval_Conducts_L2 (r_0 : ApiRung) (on1 : List Bool) (rec_rungeval_Conducts_L1 : Nat → (List (Str × Bool)) → (List Str) → Option (Bool × Int)) (ad : Str) : Nat → (List (Str × Bool)) → (List Str) → Nat → Int → Option (Bool × Int)
  | 0, _, _, _, _ => none
  | rec_n2 + 1, au, ae, af, ag =>
    if (decide (ag < (r_0.Contacts.length : Int))) = true then
      (atI r_0.Contacts ag).bind fun bf =>
      (atI on1 ag).bind fun fy =>
      if fy = true then
        if (decide (bf.From = ad)) = true then
          if (!((mGet au bf.To).getD false)) = true then
            if (ae.length - af) + ([bf.To]).length ≤ 1000000000 ∧ af ≤ ae.length then
              (some ((ae.drop af) ++ ([bf.To]))).bind fun ga =>
              (rungeval_Conducts_L2 r_0 on1 rec_rungeval_Conducts_L1 ad rec_n2) (mPut au bf.To true) ga 0 (IntKind.i64.wrap (ag + 1))
            else none
          else
            (rungeval_Conducts_L2 r_0 on1 rec_rungeval_Conducts_L1 ad rec_n2) au ae af (IntKind.i64.wrap (ag + 1))
        else
          (rungeval_Conducts_L2 r_0 on1 rec_rungeval_Conducts_L1 ad rec_n2) au ae af (IntKind.i64.wrap (ag + 1))
      else
        (rungeval_Conducts_L2 r_0 on1 rec_rungeval_Conducts_L1 ad rec_n2) au ae af (IntKind.i64.wrap (ag + 1))
    else
      rec_rungeval_Conducts_L1 af au ae

def rungeval_Conducts_L1 (n : Nat) (r_0 : ApiRung) (on1 : List Bool) : Nat → Nat → (List (Str × Bool)) → (List Str) → Option (Bool × Int)
  | 0, _, _, _ => none
  | rec_n1 + 1, av, ea, aw =>
    if (decide ((((aw.length - av) : Nat) : Int) > 0)) = true then
      (atI (aw.drop av) 0).bind fun ad =>
      if 0 ≤ 1 ∧ 1 ≤ (((aw.length - av) : Nat) : Int) ∧ (((aw.length - av) : Nat) : Int) ≤ (((aw.length - av) : Nat) : Int) then
        rungeval_Conducts_L2 r_0 on1 (rungeval_Conducts_L1 n r_0 on1 rec_n1) ad n ea aw (av + 1) 0
      else none
    else
      some (((mGet ea (⟨#[82]⟩ : Str)).getD false), 0)

def rungeval_Conducts (n : Nat) (r_0 : ApiRung) (on1 : List Bool) : Option (Bool × Int) :=
  if ((on1.length : Int) != (r_0.Contacts.length : Int)) = true then
    some (false, 2)
  else
    (some ([(⟨#[76]⟩ : Str)])).bind fun gb =>
    rungeval_Conducts_L1 n r_0 on1 n 0 (mPut ([]) (⟨#[76]⟩ : Str) true) gb

def rungeval_Scan (n : Nat) (r_0 : ApiRung) (in1 : List Bool) (st2 : ApiState) (slot3 : Int) : Option (ApiState × Bool × Int) :=
  (rungeval_Contacts n r_0 in1 st2 slot3).bind fun ⟨gc, gd, eb⟩ =>
  if (eb != 0) = true then
    some ((⟨[], [], []⟩ : ApiState), false, eb)
  else
    (rungeval_Conducts n r_0 gc).bind fun ⟨ec, ed⟩ =>
    if (ed != 0) = true then
      some ((⟨[], [], []⟩ : ApiState), false, ed)
    else
      (rungeval_Coils n r_0 gd ec).bind fun ⟨ge, ee⟩ =>
      if (ee != 0) = true then
        some ((⟨[], [], []⟩ : ApiState), false, ee)
      else
        some (ge, ec, 0)

def law12_TooLarge_J1 (r_0 : ApiRung) (gf : Int) : Option (Int) :=
  if (decide (gf > 2000)) = true then
    some 1
  else
    if (decide ((r_0.Contacts.length : Int) > 60)) = true then
      some 1
    else
      some 0

def law12_TooLarge_L2 (r_0 : ApiRung) : Nat → Int → Int → Option (Int)
  | 0, _, _ => none
  | rec_n2 + 1, ef, cq =>
    if (decide (cq < (r_0.Contacts.length : Int))) = true then
      (atI r_0.Contacts cq).bind fun eg =>
      (law12_TooLarge_L2 r_0 rec_n2) (IntKind.i64.wrap (ef + (IntKind.i64.wrap ((IntKind.i64.wrap (1 + (eg.From.size : Int))) + (eg.To.size : Int))))) (IntKind.i64.wrap (cq + 1))
    else
      law12_TooLarge_J1 r_0 ef

def law12_TooLarge (n : Nat) (r_0 : ApiRung) : Option (Int) :=
  law12_TooLarge_L2 r_0 n 0 0

def law16_tooLarge (n : Nat) (r_0 : ApiRung) (in1 : List Bool) (st2 : ApiState) : Option (Bool) :=
  (law12_TooLarge n r_0).bind fun gg =>
  if (decide (gg > 0)) = true then
    some true
  else
    if (decide ((r_0.Coils.length : Int) > 100)) = true then
      some true
    else
      if (decide ((in1.length : Int) > 500)) = true then
        some true
      else
        (some ([st2])).bind fun gi =>
        (law03_TooLarge n gi).bind fun gj =>
        some (decide (gj > 0))

def law16_alive (n : Nat) : Option (Bool) :=
  (some ([(⟨2, (⟨0, 0⟩ : ApiAddr), (⟨#[76]⟩ : Str), (⟨#[82]⟩ : Str)⟩ : ApiContact)])).bind fun ei =>
  (some ([(⟨0, (⟨1, 0⟩ : ApiAddr)⟩ : ApiCoil)])).bind fun ej =>
  (some ([true])).bind fun gk =>
  (some ([false])).bind fun gm =>
  (some ([false])).bind fun go =>
  (rungeval_Scan n (⟨(⟨#[]⟩ : Str), ei, ej, (⟨#[]⟩ : Str)⟩ : ApiRung) gk (⟨gm, [], go⟩ : ApiState) 0).bind fun ⟨bg, gp, gq⟩ =>
  (some ([true])).bind fun gu =>
  (rungeval_Scan n (⟨(⟨#[]⟩ : Str), ei, ej, (⟨#[]⟩ : Str)⟩ : ApiRung) gu bg 0).bind fun ⟨ek, gv, gw⟩ =>
  if (gq == 0) = true then
    if gp = true then
      if ((bg.Q.length : Int) == 1) = true then
        (atI bg.Q 0).bind fun gy =>
        if gy = true then
          if ((bg.E.length : Int) == 1) = true then
            (atI bg.E 0).bind fun gz =>
            if gz = true then
              if (gw == 0) = true then
                if (!gv) = true then
                  if ((ek.Q.length : Int) == 1) = true then
                    (atI ek.Q 0).bind fun ia =>
                    some (!ia)
                  else
                    some false
                else
                  some false
              else
                some false
            else
              some false
          else
            some false
        else
          some false
      else
        some false
    else
      some false
  else
    some false

def law16_RungevalSlotOffset (n : Nat) (_append0 : ApiRung) (a1 : List Bool) (a2 : ApiState) : Option (Bool) :=
  (law16_tooLarge n _append0 a1 a2).bind fun ib =>
  if ib = true then
    (law16_alive n ).bind fun ic =>
    some ic
  else
    (rungeval_Contacts n _append0 a1 a2 0).bind fun ⟨ie, e, em⟩ =>
    if 0 ≤ (a1.length : Int) ∧ (a1.length : Int) ≤ (a1.length : Int) ∧ (a1.length : Int) ≤ 1000000000 then
      (some (List.replicate a1.length false)).bind fun ig =>
      if a1.length + a2.E.length ≤ 1000000000 then
        (some (ig ++ a2.E)).bind fun ii =>
        (rungeval_Contacts n _append0 a1 (⟨a2.Q, a2.M, ii⟩ : ApiState) (a1.length : Int)).bind fun ⟨ij, ai, ik⟩ =>
        if (em != ik) = true then
          some false
        else
          (slices_Equal_bool n ie ij).bind fun im =>
          if (!im) = true then
            some false
          else
            if (em != 0) = true then
              (law16_alive n ).bind fun io =>
              some io
            else
              (rungeval_EdgeCount n _append0).bind fun u =>
              if ((e.E.length : Int) != (a2.E.length : Int)) = true then
                some false
              else
                if ((ai.E.length : Int) != (IntKind.i64.wrap ((e.E.length : Int) + (a1.length : Int)))) = true then
                  some false
                else
                  if (decide (u < 0)) = true then
                    some false
                  else
                    if (decide (u > (e.E.length : Int))) = true then
                      some false
                    else
                      (law16_alive n ).bind fun ip =>
                      if ip = true then
                        if 0 ≤ (a1.length : Int) ∧ (a1.length : Int) ≤ (ai.E.length : Int) ∧ (ai.E.length : Int) ≤ (ai.E.length : Int) then
                          (some (ai.E.drop a1.length)).bind fun iq =>
                          (slices_Equal_bool n iq e.E).bind fun iu =>
                          if iu = true then
                            if 0 ≤ 0 ∧ 0 ≤ (a1.length : Int) ∧ (a1.length : Int) ≤ (ai.E.length : Int) then
                              (some (ai.E.take a1.length)).bind fun iv =>
                              (slices_Contains_bool n iv true).bind fun iw =>
                              if (!iw) = true then
                                if 0 ≤ u ∧ u ≤ (e.E.length : Int) ∧ (e.E.length : Int) ≤ (e.E.length : Int) then
                                  (some (e.E.drop u.toNat)).bind fun iy =>
                                  if 0 ≤ u ∧ u ≤ (a2.E.length : Int) ∧ (a2.E.length : Int) ≤ (a2.E.length : Int) then
                                    (some (a2.E.drop u.toNat)).bind fun iz =>
                                    (slices_Equal_bool n iy iz).bind fun ja =>
                                    if ja = true then
                                      (slices_Equal_bool n e.Q a2.Q).bind fun jb =>
                                      if jb = true then
                                        (slices_Equal_bool n e.M a2.M).bind fun jc =>
                                        some jc
                                      else
                                        some false
                                    else
                                      some false
                                  else none
                                else none
                              else
                                some false
                            else none
                          else
                            some false
                        else none
                      else
                        some false
      else none
    else none

def law16_RungevalContactsMatchReference_J1 (n : Nat) (_append0 : ApiRung) : Option (Bool) :=
  (law16_alive n ).bind fun jd =>
  if jd = true then
    (rungeval_EdgeCount n _append0).bind fun je =>
    (ref16_EdgeCount n _append0).bind fun jf =>
    some (je == jf)
  else
    some false

def law16_RungevalContactsMatchReference_L2 (n : Nat) (_append0 : ApiRung) (a1 : List Bool) (a2 : ApiState) (bi : List Int) : Nat → Int → Option (Bool)
  | 0, _ => none
  | rec_n2 + 1, cu =>
    if (decide (cu < (bi.length : Int))) = true then
      (atI bi cu).bind fun eo =>
      (rungeval_Contacts n _append0 a1 a2 eo).bind fun ⟨jg, ji, jj⟩ =>
      (ref16_Contacts n _append0 a1 a2 eo).bind fun ⟨jk, jm, jo⟩ =>
      (slices_Equal_bool n jg jk).bind fun jp =>
      if (!jp) = true then
        some false
      else
        (ref03_Equal n ji jm).bind fun jq =>
        if (!jq) = true then
          some false
        else
          if (jj != jo) = true then
            some false
          else
            (law16_RungevalContactsMatchReference_L2 n _append0 a1 a2 bi rec_n2) (IntKind.i64.wrap (cu + 1))
    else
      law16_RungevalContactsMatchReference_J1 n _append0

def law16_RungevalContactsMatchReference (n : Nat) (_append0 : ApiRung) (a1 : List Bool) (a2 : ApiState) : Option (Bool) :=
  (law16_tooLarge n _append0 a1 a2).bind fun ju =>
  if ju = true then
    (law16_alive n ).bind fun jv =>
    some jv
  else
    (some ([0, 1, (-1), (a2.E.length : Int), 4611686018427387904])).bind fun bi =>
    law16_RungevalContactsMatchReference_L2 n _append0 a1 a2 bi n 0

def law16_RungevalLastCoilWins_J2 (n : Nat) (a1 : ApiState) (c : ApiState) : Option (Bool) :=
  (law16_alive n ).bind fun jw =>
  if jw = true then
    (slices_Equal_bool n c.E a1.E).bind fun jy =>
    some jy
  else
    some false

def law16_RungevalLastCoilWins_L4 (j : List (ApiAddr × Bool)) (k : Int) (rec_law16_RungevalLastCoilWins_L3 : Int → Option (Bool)) (f : (List Bool) × (List Bool)) : Nat → Int → Option (Bool)
  | 0, _ => none
  | rec_n4 + 1, v =>
    if (decide (v < (f.1.length : Int))) = true then
      if (!((mGet j (⟨(IntKind.i64.wrap (k + 1)), v⟩ : ApiAddr)).isSome)) = true then
        (atI f.1 v).bind fun jz =>
        (atI f.2 v).bind fun ka =>
        if (!(ka == jz)) = true then
          some false
        else
          (law16_RungevalLastCoilWins_L4 j k rec_law16_RungevalLastCoilWins_L3 f rec_n4) (IntKind.i64.wrap (v + 1))
      else
        (atI f.2 v).bind fun kb =>
        if (!(kb == ((mGet j (⟨(IntKind.i64.wrap (k + 1)), v⟩ : ApiAddr)).getD false))) = true then
          some false
        else
          (law16_RungevalLastCoilWins_L4 j k rec_law16_RungevalLastCoilWins_L3 f rec_n4) (IntKind.i64.wrap (v + 1))
    else
      rec_law16_RungevalLastCoilWins_L3 (IntKind.i64.wrap (k + 1))

def law16_RungevalLastCoilWins_L3 (n : Nat) (a1 : ApiState) (c : ApiState) (j : List (ApiAddr × Bool)) (bj : List ((List Bool) × (List Bool))) : Nat → Int → Option (Bool)
  | 0, _ => none
  | rec_n3 + 1, k =>
    if (decide (k < (bj.length : Int))) = true then
      (atI bj k).bind fun f =>
      if ((f.1.length : Int) != (f.2.length : Int)) = true then
        some false
      else
        law16_RungevalLastCoilWins_L4 j k (law16_RungevalLastCoilWins_L3 n a1 c j bj rec_n3) f n 0
    else
      law16_RungevalLastCoilWins_J2 n a1 c

def law16_RungevalLastCoilWins_J1 (n : Nat) (a1 : ApiState) (c : ApiState) (j : List (ApiAddr × Bool)) : Option (Bool) :=
  (some ([(a1.Q, c.Q), (a1.M, c.M)])).bind fun bj =>
  law16_RungevalLastCoilWins_L3 n a1 c j bj n 0

def law16_RungevalLastCoilWins_L5 (n : Nat) (_append0 : ApiRung) (a1 : ApiState) (a2 : Bool) (c : ApiState) : Nat → (List (ApiAddr × Bool)) → Int → Option (Bool)
  | 0, _, _ => none
  | rec_n5 + 1, aj, w =>
    if (decide (w < (_append0.Coils.length : Int))) = true then
      (atI _append0.Coils w).bind fun m =>
      if (m.Kind == 0) = true then
        (law16_RungevalLastCoilWins_L5 n _append0 a1 a2 c rec_n5) (mPut aj m.A a2) (IntKind.i64.wrap (w + 1))
      else
        if a2 = true then
          if (m.Kind == 2) = true then
            (law16_RungevalLastCoilWins_L5 n _append0 a1 a2 c rec_n5) (mPut aj m.A a2) (IntKind.i64.wrap (w + 1))
          else
            if (m.Kind == 1) = true then
              (law16_RungevalLastCoilWins_L5 n _append0 a1 a2 c rec_n5) (mPut aj m.A (!a2)) (IntKind.i64.wrap (w + 1))
            else
              (law16_RungevalLastCoilWins_L5 n _append0 a1 a2 c rec_n5) (mPut aj m.A false) (IntKind.i64.wrap (w + 1))
        else
          if (m.Kind == 1) = true then
            (law16_RungevalLastCoilWins_L5 n _append0 a1 a2 c rec_n5) (mPut aj m.A (!a2)) (IntKind.i64.wrap (w + 1))
          else
            (law16_RungevalLastCoilWins_L5 n _append0 a1 a2 c rec_n5) aj (IntKind.i64.wrap (w + 1))
    else
      law16_RungevalLastCoilWins_J1 n a1 c aj

def law16_RungevalLastCoilWins (n : Nat) (_append0 : ApiRung) (a1 : ApiState) (a2 : Bool) : Option (Bool) :=
  (law12_TooLarge n _append0).bind fun kc =>
  if (decide (kc > 0)) = true then
    (law16_alive n ).bind fun kd =>
    some kd
  else
    if (decide ((_append0.Coils.length : Int) > 100)) = true then
      (law16_alive n ).bind fun ke =>
      some ke
    else
      (some ([a1])).bind fun kf =>
      (law03_TooLarge n kf).bind fun kg =>
      if (decide (kg > 0)) = true then
        (law16_alive n ).bind fun ki =>
        some ki
      else
        (rungeval_Coils n _append0 a1 a2).bind fun ⟨c, kj⟩ =>
        if (kj != 0) = true then
          (law16_alive n ).bind fun kk =>
          some kk
        else
          law16_RungevalLastCoilWins_L5 n _append0 a1 a2 c n ([]) 0

def law16_RungevalIsMonotone (n : Nat) (_append0 : ApiRung) (a1 : List Bool) (a2 : Int) : Option (Bool) :=
  (law12_TooLarge n _append0).bind fun km =>
  if (decide (km > 0)) = true then
    (law16_alive n ).bind fun ko =>
    some ko
  else
    if ((a1.length : Int) != (_append0.Contacts.length : Int)) = true then
      (law16_alive n ).bind fun kp =>
      some kp
    else
      if ((a1.length : Int) == 0) = true then
        (law16_alive n ).bind fun kq =>
        some kq
      else
        (rungeval_Conducts n _append0 a1).bind fun ⟨cv, ku⟩ =>
        if a1.length ≤ 1000000000 then
          if (a1.length : Int) ≠ 0 then
            (atI a1 ((IntKind.i64.wrap (a2)).tmod (a1.length : Int))).bind fun vj =>
            (some (a1.set (((IntKind.i64.wrap (a2)).tmod (a1.length : Int)).toNat) true)).bind fun kv =>
            (rungeval_Conducts n _append0 kv).bind fun ⟨kw, ky⟩ =>
            if _append0.Contacts.length ≤ 1000000000 then
              if _append0.Contacts.length + ([(⟨0, (⟨0, 0⟩ : ApiAddr), (⟨#[76]⟩ : Str), (⟨#[82]⟩ : Str)⟩ : ApiContact)]).length ≤ 1000000000 then
                (some (_append0.Contacts ++ ([(⟨0, (⟨0, 0⟩ : ApiAddr), (⟨#[76]⟩ : Str), (⟨#[82]⟩ : Str)⟩ : ApiContact)]))).bind fun ep =>
                if a1.length ≤ 1000000000 then
                  if a1.length + ([true]).length ≤ 1000000000 then
                    (some (a1 ++ ([true]))).bind fun kz =>
                    (rungeval_Conducts n (⟨(⟨#[]⟩ : Str), ep, [], (⟨#[]⟩ : Str)⟩ : ApiRung) kz).bind fun ⟨eq, ma⟩ =>
                    if a1.length ≤ 1000000000 then
                      if a1.length + ([false]).length ≤ 1000000000 then
                        (some (a1 ++ ([false]))).bind fun mb =>
                        (rungeval_Conducts n (⟨(⟨#[]⟩ : Str), ep, [], (⟨#[]⟩ : Str)⟩ : ApiRung) mb).bind fun ⟨eu, mc⟩ =>
                        (law16_alive n ).bind fun md =>
                        if md = true then
                          if (ku == 0) = true then
                            if (ky == 0) = true then
                              if (ma == 0) = true then
                                if (mc == 0) = true then
                                  if (!cv) = true then
                                    if eq = true then
                                      some (eu == cv)
                                    else
                                      some false
                                  else
                                    if kw = true then
                                      if eq = true then
                                        some (eu == cv)
                                      else
                                        some false
                                    else
                                      some false
                                else
                                  some false
                              else
                                some false
                            else
                              some false
                          else
                            some false
                        else
                          some false
                      else none
                    else none
                  else none
                else none
              else none
            else none
          else none
        else none

def law16_RungevalEdgesOnce_J2 (n : Nat) (_append0 : ApiRung) (a1 : List Bool) (o : ApiState) : Option (Bool) :=
  (rungeval_Scan n _append0 a1 o 0).bind fun ⟨ew, vk, me⟩ =>
  (rungeval_Scan n _append0 a1 ew 0).bind fun ⟨mf, vm, mg⟩ =>
  (law16_alive n ).bind fun mi =>
  if mi = true then
    if (me == 0) = true then
      if (mg == 0) = true then
        (ref03_Equal n ew mf).bind fun mj =>
        some mj
      else
        some false
    else
      some false
  else
    some false

def law16_RungevalEdgesOnce_L3 (n : Nat) (_append0 : ApiRung) (a1 : List Bool) (o : ApiState) (ay : List Bool) : Nat → Int → Option (Bool)
  | 0, _ => none
  | rec_n3 + 1, bk =>
    if (decide (bk < (_append0.Contacts.length : Int))) = true then
      (atI _append0.Contacts bk).bind fun mk =>
      if (decide (mk.Kind ≥ 2)) = true then
        (atI ay bk).bind fun mm =>
        if mm = true then
          some false
        else
          (law16_RungevalEdgesOnce_L3 n _append0 a1 o ay rec_n3) (IntKind.i64.wrap (bk + 1))
      else
        (law16_RungevalEdgesOnce_L3 n _append0 a1 o ay rec_n3) (IntKind.i64.wrap (bk + 1))
    else
      law16_RungevalEdgesOnce_J2 n _append0 a1 o

def law16_RungevalEdgesOnce_J1 (n : Nat) (_append0 : ApiRung) (a1 : List Bool) (a2 : ApiState) : Option (Bool) :=
  (rungeval_Scan n _append0 a1 a2 0).bind fun ⟨o, vo, mo⟩ =>
  if (mo != 0) = true then
    (law16_alive n ).bind fun mq =>
    some mq
  else
    (rungeval_Contacts n _append0 a1 o 0).bind fun ⟨ay, mu, mv⟩ =>
    if (mv != 0) = true then
      some false
    else
      (ref03_Equal n o mu).bind fun mw =>
      if (!mw) = true then
        some false
      else
        if ((ay.length : Int) != (_append0.Contacts.length : Int)) = true then
          some false
        else
          law16_RungevalEdgesOnce_L3 n _append0 a1 o ay n 0

def law16_RungevalEdgesOnce_L5 (n : Nat) (_append0 : ApiRung) (az : Int) (rec_law16_RungevalEdgesOnce_L4 : Int → Option (Bool)) (bm : ApiContact) : Nat → Int → Option (Bool)
  | 0, _ => none
  | rec_n5 + 1, cw =>
    if (decide (cw < (_append0.Coils.length : Int))) = true then
      (atI _append0.Coils cw).bind fun ey =>
      if ((bm.A.Space == ey.A.Space) && (bm.A.N == ey.A.N)) = true then
        (law16_alive n ).bind fun my =>
        some my
      else
        (law16_RungevalEdgesOnce_L5 n _append0 az rec_law16_RungevalEdgesOnce_L4 bm rec_n5) (IntKind.i64.wrap (cw + 1))
    else
      rec_law16_RungevalEdgesOnce_L4 (IntKind.i64.wrap (az + 1))

def law16_RungevalEdgesOnce_L4 (n : Nat) (_append0 : ApiRung) (a1 : List Bool) (a2 : ApiState) : Nat → Int → Option (Bool)
  | 0, _ => none
  | rec_n4 + 1, az =>
    if (decide (az < (_append0.Contacts.length : Int))) = true then
      (atI _append0.Contacts az).bind fun bm =>
      law16_RungevalEdgesOnce_L5 n _append0 az (law16_RungevalEdgesOnce_L4 n _append0 a1 a2 rec_n4) bm n 0
    else
      law16_RungevalEdgesOnce_J1 n _append0 a1 a2

def law16_RungevalEdgesOnce (n : Nat) (_append0 : ApiRung) (a1 : List Bool) (a2 : ApiState) : Option (Bool) :=
  (law16_tooLarge n _append0 a1 a2).bind fun mz =>
  if mz = true then
    (law16_alive n ).bind fun oa =>
    some oa
  else
    law16_RungevalEdgesOnce_L4 n _append0 a1 a2 n 0

def law16_RungevalScanMatchesReference_J2 (n : Nat) (a2 : ApiState) (d : ApiState) : Option (Bool) :=
  (law16_alive n ).bind fun ob =>
  if ob = true then
    (ref03_Equal n a2 d).bind fun oc =>
    some oc
  else
    some false

def law16_RungevalScanMatchesReference_L3 (n : Nat) (_append0 : ApiRung) (a2 : ApiState) (d : ApiState) (bo : List Bool) : Nat → Int → Option (Bool)
  | 0, _ => none
  | rec_n3 + 1, cy =>
    if (decide (cy < (bo.length : Int))) = true then
      (atI bo cy).bind fun ez =>
      (rungeval_Coils n _append0 a2 ez).bind fun ⟨od, oe⟩ =>
      (ref16_Coils n _append0 a2 ez).bind fun ⟨of, og⟩ =>
      (ref03_Equal n od of).bind fun oi =>
      if (!oi) = true then
        some false
      else
        if (oe != og) = true then
          some false
        else
          (law16_RungevalScanMatchesReference_L3 n _append0 a2 d bo rec_n3) (IntKind.i64.wrap (cy + 1))
    else
      law16_RungevalScanMatchesReference_J2 n a2 d

def law16_RungevalScanMatchesReference_J1 (n : Nat) (_append0 : ApiRung) (a2 : ApiState) (d : ApiState) : Option (Bool) :=
  (some ([false, true])).bind fun bo =>
  law16_RungevalScanMatchesReference_L3 n _append0 a2 d bo n 0

def law16_RungevalScanMatchesReference_L4 (n : Nat) (_append0 : ApiRung) (a1 : List Bool) (a2 : ApiState) (d : ApiState) (bp : List Int) : Nat → Int → Option (Bool)
  | 0, _ => none
  | rec_n4 + 1, cz =>
    if (decide (cz < (bp.length : Int))) = true then
      (atI bp cz).bind fun fa =>
      (rungeval_Scan n _append0 a1 a2 fa).bind fun ⟨oj, ok, om⟩ =>
      (ref16_Scan n _append0 a1 a2 fa).bind fun ⟨oo, op, oq⟩ =>
      (ref03_Equal n oj oo).bind fun ou =>
      if (!ou) = true then
        some false
      else
        if (!(ok == op)) = true then
          some false
        else
          if (om != oq) = true then
            some false
          else
            (law16_RungevalScanMatchesReference_L4 n _append0 a1 a2 d bp rec_n4) (IntKind.i64.wrap (cz + 1))
    else
      law16_RungevalScanMatchesReference_J1 n _append0 a2 d

def law16_RungevalScanMatchesReference (n : Nat) (_append0 : ApiRung) (a1 : List Bool) (a2 : ApiState) : Option (Bool) :=
  (law16_tooLarge n _append0 a1 a2).bind fun ov =>
  if ov = true then
    (law16_alive n ).bind fun ow =>
    some ow
  else
    (ref03_Clone n a2).bind fun d =>
    (some ([0, 1, (-1)])).bind fun bp =>
    law16_RungevalScanMatchesReference_L4 n _append0 a1 a2 d bp n 0

def law16_RungevalConductsMatchesReference (n : Nat) (r_0 : ApiRung) (on1 : List Bool) : Option (Bool) :=
  (law12_TooLarge n r_0).bind fun oy =>
  if (decide (oy > 0)) = true then
    (law16_alive n ).bind fun oz =>
    some oz
  else
    if (decide ((on1.length : Int) > 500)) = true then
      (law16_alive n ).bind fun pa =>
      some pa
    else
      (rungeval_Conducts n r_0 on1).bind fun ⟨pb, pc⟩ =>
      (ref16_Conducts n r_0 on1).bind fun ⟨pd, pe⟩ =>
      (law16_alive n ).bind fun pf =>
      if pf = true then
        if (pb == pd) = true then
          some (pc == pe)
        else
          some false
      else
        some false

end Go.G
