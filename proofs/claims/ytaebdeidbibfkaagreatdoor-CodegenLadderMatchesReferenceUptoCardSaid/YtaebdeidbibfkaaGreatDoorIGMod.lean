/- Models of functions of the program. -/
import Derived.Test.YtaebdeidbibfkaaGreatDoorIGTy
set_option linter.unusedSimpArgs false
set_option linter.unusedVariables false
set_option linter.unusedSectionVars false
namespace Go.G
open Go.Av
noncomputable section
def Z4M (l0:ApiLadder) (p27:Int):Option (Int) :=
 if (decide ((l0.Rungs.length:Int) > 70)) = true then
 some 1
 else
 if (decide (p27 > 20000)) = true then
 some 1
 else
 some 0
def Z2T (p34:Int) (lc:Int -> Int -> Option (Int)) (x42:ApiRung):Nat -> Int -> Int -> Option (Int)
 | 0,_,_=>none
 | rd + 1,p44,p45 =>
 if (decide (p45 < (x42.Contacts.length:Int))) = true then
 (atI x42.Contacts p45).bind fun x47 =>
 (Z2T p34 lc x42 rd) (IntKind.i64.wrap (p44 + (IntKind.i64.wrap ((x47.From.size:Int) + (x47.To.size:Int))))) (IntKind.i64.wrap (p45 + 1))
 else
 lc (IntKind.i64.wrap (p34 + 1)) p44
def Z1T (n:Nat) (l0:ApiLadder):Nat -> Int -> Int -> Option (Int)
 | 0,_,_=>none
 | re + 1,p34,p35 =>
 if (decide (p34 < (l0.Rungs.length:Int))) = true then
 (atI l0.Rungs p34).bind fun x42 =>
 Z2T p34 (Z1T n l0 re) x42 n (IntKind.i64.wrap (p35 + (IntKind.i64.wrap ((IntKind.i64.wrap ((IntKind.i64.wrap ((x42.Contacts.length:Int) + (x42.Coils.length:Int))) + (x42.Label.size:Int))) + (x42.Jump.size:Int))))) 0
 else
 Z4M l0 p35
def Z6b (n:Nat) (l0:ApiLadder):Option (Int) :=
 Z1T n l0 n 0 0
def Z4O (n:Nat) (l0:ApiLadder) (p6:Int):Option (Int) :=
 if (decide (p6 > 200)) = true then
 some 1
 else
 (Z6b n l0).bind fun r49 =>
 some r49
def Z2V (n:Nat) (l0:ApiLadder):Nat -> Int -> Int -> Option (Int)
 | 0,_,_=>none
 | re + 1,p51,p52 =>
 if (decide (p52 < (l0.Rungs.length:Int))) = true then
 (atI l0.Rungs p52).bind fun x54 =>
 if (decide ((x54.Contacts.length:Int) > 40)) = true then
 some 1
 else
 (Z2V n l0 re) (IntKind.i64.wrap (p51 + (x54.Contacts.length:Int))) (IntKind.i64.wrap (p52 + 1))
 else
 Z4O n l0 p51
def Z6e (n:Nat) (l0:ApiLadder):Option (Int) :=
 Z2V n l0 n 0 0
def Z84 (n:Nat):Option (ApiRung) :=
 (some ([(⟨0,(⟨0,0⟩:ApiAddr),(⟨#[76]⟩:Str),(⟨#[97]⟩:Str)⟩:ApiContact),(⟨1,(⟨0,1⟩:ApiAddr),(⟨#[97]⟩:Str),(⟨#[82]⟩:Str)⟩:ApiContact)])).bind fun l57 =>
 (some ([(⟨0,(⟨1,0⟩:ApiAddr)⟩:ApiCoil)])).bind fun l58 =>
 some (⟨(⟨#[]⟩:Str),l57,l58,(⟨#[]⟩:Str)⟩:ApiRung)
def Z6y (n:Nat) (l0:ApiLadder):Option (ApiSize) :=
 some (⟨l0.I,l0.Q,l0.M,0⟩:ApiSize)
def Z2G (n:Nat) (n_0:Int) (most1:Int):Option (Bool) :=
 if (decide (n_0 >= 0)) = true then
 some (decide (n_0 <= most1))
 else
 some false
def Z4Y (n:Nat) (s0:ApiSize):Option (Int) :=
 (Z2G n s0.E 16384).bind fun rf =>
 if (!rf) = true then
 some 3
 else
 (Z2G n s0.I 256).bind fun rh =>
 if (!rh) = true then
 some 3
 else
 (Z2G n s0.Q 256).bind fun ri =>
 if (!ri) = true then
 some 3
 else
 (Z2G n s0.M 256).bind fun rj =>
 if (!rj) = true then
 some 3
 else
 some 0
def Z77 (n:Nat) (c0:Int):Option (Bool) :=
 if (decide (c0 >= 97)) = true then
 if (decide (c0 <= 122)) = true then
 some true
 else
 if (decide (c0 >= 65)) = true then
 some (decide (c0 <= 90))
 else
 some false
 else
 if (decide (c0 >= 65)) = true then
 some (decide (c0 <= 90))
 else
 some false
def Z1L (n:Nat) (word0:Str):Nat -> Nat -> Option (Bool)
 | 0,_=>none
 | rm + 1,pn =>
 if (decide (pn < word0.size)) = true then
 (Z77 n (((Utf8.decode word0 pn).1:Nat):Int)).bind fun rp =>
 if (!rp) = true then
 if ((pn:Int) == 0) = true then
 some false
 else
 if ((((Utf8.decode word0 pn).1:Nat):Int) != 95) = true then
 if (decide ((((Utf8.decode word0 pn).1:Nat):Int) < 48)) = true then
 some false
 else
 if (decide ((((Utf8.decode word0 pn).1:Nat):Int) > 57)) = true then
 some false
 else
 (Z1L n word0 rm) (pn + (Utf8.decode word0 pn).2)
 else
 (Z1L n word0 rm) (pn + (Utf8.decode word0 pn).2)
 else
 (Z1L n word0 rm) (pn + (Utf8.decode word0 pn).2)
 else
 some true
def Z4B (n:Nat) (word0:Str):Option (Bool) :=
 if (decide (word0 = (⟨#[]⟩:Str))) = true then
 some false
 else
 if (decide ((word0.size:Int) > 16)) = true then
 some false
 else
 Z1L n word0 n 0
def Z64 (n:Nat) (x_0:ApiRung) (b0:ApiRung):Option (Bool) :=
 some (decide (x_0.Label = b0.Label))
def ZO (n:Nat) (s0:List ApiRung) (b0:ApiRung):Nat -> Int -> Option (Int)
 | 0,_=>none
 | rm + 1,pq =>
 if (decide (pq < (s0.length:Int))) = true then
 (atI s0 pq).bind fun xr =>
 (Z64 n xr b0).bind fun rt =>
 if rt = true then
 some pq
 else
 (ZO n s0 b0 rm) (IntKind.i64.wrap (pq + 1))
 else
 some (-1)
def Z23 (n:Nat) (s0:List ApiRung) (b0:ApiRung):Option (Int) :=
 ZO n s0 b0 n 0
def Z1a (n:Nat) (s0:List ApiRung) (b0:ApiRung):Option (Bool) :=
 (Z23 n s0 b0).bind fun ru =>
 some (decide (ru >= 0))
def Z7l (n:Nat) (s0:ApiSize) (space1:Int):Option (Int) :=
 if (space1 == 0) = true then
 some s0.I
 else
 if (space1 == 1) = true then
 some s0.Q
 else
 if (space1 == 2) = true then
 some s0.M
 else
 some 0
def Z4X (n:Nat) (s0:ApiSize) (a1:ApiAddr):Option (Int) :=
 (Z2G n a1.Space 2).bind fun rv =>
 if (!rv) = true then
 some 8
 else
 (Z7l n s0 a1.Space).bind fun rz =>
 (Z2G n a1.N (IntKind.i64.wrap (rz - 1))).bind fun rA =>
 if (!rA) = true then
 some 3
 else
 some 0
def Z4T (n:Nat) (s0:ApiSize) (kind1:Int) (a2:ApiAddr):Option (Int) :=
 if (decide (kind1 < 0)) = true then
 some 8
 else
 if (decide (kind1 >= 4)) = true then
 some 8
 else
 (Z4X n s0 a2).bind fun rB =>
 some rB
def Z4A (n:Nat) (a2:ApiRung):Option (Int) :=
 if (!(decide (a2.Jump = (⟨#[]⟩:Str)))) = true then
 (Z4B n a2.Jump).bind fun rC =>
 if (!rC) = true then
 some 6
 else
 some 0
 else
 some 0
def Z3E (n:Nat) (aD:ApiSize) (a2:ApiRung):Nat -> Int -> Option (Int)
 | 0,_=>none
 | rE + 1,pF =>
 if (decide (pF < (a2.Coils.length:Int))) = true then
 (atI a2.Coils pF).bind fun xG =>
 (Z4T n aD xG.Kind xG.A).bind fun rH =>
 if (rH != 0) = true then
 some rH
 else
 if (xG.A.Space == 0) = true then
 some 2
 else
 (Z3E n aD a2 rE) (IntKind.i64.wrap (pF + 1))
 else
 Z4A n a2
def Z5D (n:Nat) (aD:ApiSize) (a2:ApiRung):Option (Int) :=
 if (decide ((a2.Coils.length:Int) > 16)) = true then
 some 10
 else
 Z3E n aD a2 n 0
def Z3C (n:Nat) (aD:ApiSize) (a2:ApiRung):Nat -> Int -> Option (Int)
 | 0,_=>none
 | rI + 1,pJ =>
 if (decide (pJ < (a2.Contacts.length:Int))) = true then
 (atI a2.Contacts pJ).bind fun xK =>
 (Z4T n aD xK.Kind xK.A).bind fun rL =>
 if (rL != 0) = true then
 some rL
 else
 (Z4B n xK.From).bind fun rM =>
 if (!rM) = true then
 some 6
 else
 (Z4B n xK.To).bind fun rN =>
 if (!rN) = true then
 some 6
 else
 (Z3C n aD a2 rI) (IntKind.i64.wrap (pJ + 1))
 else
 Z5D n aD a2
def Z3B (n:Nat) (aD:ApiSize) (a2:ApiRung):Option (Int) :=
 if (decide ((a2.Contacts.length:Int) > 256)) = true then
 some 10
 else
 Z3C n aD a2 n 0
def Z5O (n:Nat) (aD:ApiSize) (a1:List ApiRung) (a2:ApiRung):Option (Int) :=
 if (!(decide (a2.Label = (⟨#[]⟩:Str)))) = true then
 (Z4B n a2.Label).bind fun rO =>
 if (!rO) = true then
 some 6
 else
 (Z1a n a1 a2).bind fun rP =>
 if rP = true then
 some 9
 else
 Z3B n aD a2
 else
 Z3B n aD a2
def Z5H (n:Nat) (x_0:ApiRung) (b0:ApiRung):Option (Bool) :=
 some (decide (x_0.Label = b0.Jump))
def ZP (n:Nat) (s0:List ApiRung) (b0:ApiRung):Nat -> Int -> Option (Int)
 | 0,_=>none
 | rm + 1,pQ =>
 if (decide (pQ < (s0.length:Int))) = true then
 (atI s0 pQ).bind fun xR =>
 (Z5H n xR b0).bind fun rS =>
 if rS = true then
 some pQ
 else
 (ZP n s0 b0 rm) (IntKind.i64.wrap (pQ + 1))
 else
 some (-1)
def Z22 (n:Nat) (s0:List ApiRung) (b0:ApiRung):Option (Int) :=
 ZP n s0 b0 n 0
def Z18 (n:Nat) (s0:List ApiRung) (b0:ApiRung):Option (Bool) :=
 (Z22 n s0 b0).bind fun rT =>
 some (decide (rT >= 0))
def Z2x (n:Nat) (aD:ApiLadder):Nat -> Int -> Option (Int × Int)
 | 0,_=>none
 | re + 1,pU =>
 if (decide (pU < (aD.Rungs.length:Int))) = true then
 (atI aD.Rungs pU).bind fun xV =>
 if (!(decide (xV.Jump = (⟨#[]⟩:Str)))) = true then
 if 0 <= (IntKind.i64.wrap (pU + 1)) /\ (IntKind.i64.wrap (pU + 1)) <= (aD.Rungs.length:Int) /\ (aD.Rungs.length:Int) <= (aD.Rungs.length:Int) then
 (some (aD.Rungs.drop (IntKind.i64.wrap (pU + 1)).toNat)).bind fun lW =>
 (Z18 n lW xV).bind fun rX =>
 if (!rX) = true then
 some (pU,15)
 else
 (Z2x n aD re) (IntKind.i64.wrap (pU + 1))
 else none
 else
 (Z2x n aD re) (IntKind.i64.wrap (pU + 1))
 else
 some ((aD.Rungs.length:Int),0)
def Z5c (n:Nat) (aD:ApiLadder):Option (Int × Int) :=
 Z2x n aD n 0
def Z37 (n:Nat) (aD:ApiLadder) (rY:ApiSize):Nat -> Int -> Option (Int × Int)
 | 0,_=>none
 | rd + 1,pZ =>
 if (decide (pZ < (aD.Rungs.length:Int))) = true then
 (atI aD.Rungs pZ).bind fun x10 =>
 if 0 <= 0 /\ 0 <= pZ /\ pZ <= (aD.Rungs.length:Int) then
 (some (aD.Rungs.take pZ.toNat)).bind fun l11 =>
 (Z5O n rY l11 x10).bind fun r12 =>
 if (r12 != 0) = true then
 some (pZ,r12)
 else
 (Z37 n aD rY rd) (IntKind.i64.wrap (pZ + 1))
 else none
 else
 Z5c n aD
def Z5o (n:Nat) (aD:ApiLadder):Option (Int × Int) :=
 (Z6y n aD).bind fun rY =>
 (Z4Y n rY).bind fun r13 =>
 if (r13 != 0) = true then
 some (0,3)
 else
 if (decide ((aD.Rungs.length:Int) > 64)) = true then
 some (0,10)
 else
 Z37 n aD rY n 0
def Z1h (p14:Int) (l15:Int -> (List Str) -> (List (Str × Bool)) -> Option ((List Str))) (l16:List Str):Nat -> Int -> (List Str) -> (List (Str × Bool)) -> Option ((List Str))
 | 0,_,_,_=>none
 | re + 1,p17,l18,p19 =>
 if (decide (p17 < (l16.length:Int))) = true then
 (atI l16 p17).bind fun x1a =>
 if (!((mGet p19 x1a).getD false)) = true then
 if l18.length + ([x1a]).length <= 1000000000 then
 (some (l18 ++ ([x1a]))).bind fun l1b =>
 (Z1h p14 l15 l16 re) (IntKind.i64.wrap (p17 + 1)) l1b (mPut p19 x1a true)
 else none
 else
 (Z1h p14 l15 l16 re) (IntKind.i64.wrap (p17 + 1)) l18 p19
 else
 l15 (IntKind.i64.wrap (p14 + 1)) l18 p19
def ZU (n:Nat) (r_0:ApiRung):Nat -> Int -> (List Str) -> (List (Str × Bool)) -> Option ((List Str))
 | 0,_,_,_=>none
 | rm + 1,p14,l1c,p1d =>
 if (decide (p14 < (r_0.Contacts.length:Int))) = true then
 (atI r_0.Contacts p14).bind fun x1e =>
 (some ([x1e.From,x1e.To])).bind fun l16 =>
 Z1h p14 (ZU n r_0 rm) l16 n 0 l1c p1d
 else
 some l1c
def Z1R (n:Nat) (r_0:ApiRung):Option ((List Str)) :=
 (some ([(⟨#[76]⟩:Str),(⟨#[82]⟩:Str)])).bind fun l1f =>
 ZU n r_0 n 0 l1f (mPut (mPut ([]) (⟨#[76]⟩:Str) true) (⟨#[82]⟩:Str) true)
def Z4f (n:Nat) (c0:ApiContact) (b0:Str):Option (Bool) :=
 some (decide (c0.To = b0))
def ZL (n:Nat) (r_0:ApiRung) (b0:Str):Nat -> Int -> (List Int) -> Option ((List Int))
 | 0,_,_=>none
 | rm + 1,p1g,p1h =>
 if (decide (p1g < (r_0.Contacts.length:Int))) = true then
 (atI r_0.Contacts p1g).bind fun x1i =>
 (Z4f n x1i b0).bind fun r1j =>
 if r1j = true then
 if p1h.length + ([p1g]).length <= 1000000000 then
 (some (p1h ++ ([p1g]))).bind fun l1k =>
 (ZL n r_0 b0 rm) (IntKind.i64.wrap (p1g + 1)) l1k
 else none
 else
 (ZL n r_0 b0 rm) (IntKind.i64.wrap (p1g + 1)) p1h
 else
 some p1h
def Z3r (n:Nat) (r_0:ApiRung) (b0:Str):Option ((List Int)) :=
 ZL n r_0 b0 n 0 ([])
def Z2a (n:Nat) (r_0:ApiRung) (node1:Str):Option ((List Int)) :=
 (Z3r n r_0 node1).bind fun r1l =>
 some r1l
def Z3u (n:Nat) (i_0:Int) (m1:List (Str × Bool)) (b2:ApiRung):Option (Bool) :=
 (atI b2.Contacts i_0).bind fun x1m =>
 some (!((mGet m1 x1m.From).getD false))
def Zz (n:Nat) (s0:List Int) (m1:List (Str × Bool)) (b2:ApiRung):Nat -> Int -> Option (Int)
 | 0,_=>none
 | rm + 1,p1n =>
 if (decide (p1n < (s0.length:Int))) = true then
 (atI s0 p1n).bind fun x1o =>
 (Z3u n x1o m1 b2).bind fun r1p =>
 if r1p = true then
 some p1n
 else
 (Zz n s0 m1 b2 rm) (IntKind.i64.wrap (p1n + 1))
 else
 some (-1)
def Z21 (n:Nat) (s0:List Int) (m1:List (Str × Bool)) (b2:ApiRung):Option (Int) :=
 Zz n s0 m1 b2 n 0
def Z1y (n:Nat) (s0:List Int) (m1:List (Str × Bool)) (b2:ApiRung):Option (Bool) :=
 (Z21 n s0 m1 b2).bind fun r1q =>
 some (decide (r1q >= 0))
def Z2w (n:Nat) (n_0:Str) (b0:ApiRung) (m2:List (Str × Bool)):Option (Bool) :=
 (Z2a n b0 n_0).bind fun r1r =>
 (Z1y n r1r m2 b0).bind fun r1s =>
 some (!r1s)
def Zo (n:Nat) (l0:List Str) (b1:ApiRung) (m3:List (Str × Bool)):Nat -> Int -> Option (Int)
 | 0,_=>none
 | rm + 1,p1t =>
 if (decide (p1t < (l0.length:Int))) = true then
 (atI l0 p1t).bind fun x1u =>
 (Z2w n x1u b1 m3).bind fun r1v =>
 if r1v = true then
 some p1t
 else
 (Zo n l0 b1 m3 rm) (IntKind.i64.wrap (p1t + 1))
 else
 some (-1)
def Z1n (n:Nat) (l0:List Str) (b1:ApiRung) (m3:List (Str × Bool)):Option (Int) :=
 Zo n l0 b1 m3 n 0
def Z2f (n:Nat) (i_1:Int) (j2:Int) (l0:List Str):Option ((List Str)) :=
 if 0 <= i_1 /\ i_1 <= j2 /\ j2 <= (l0.length:Int) /\ (l0.length:Int) <= (l0.length:Int) then
 if (i_1 == j2) = true then
 some l0
 else
 if 0 <= 0 /\ 0 <= i_1 /\ i_1 <= (l0.length:Int) then
 if 0 <= j2 /\ j2 <= (l0.length:Int) /\ (l0.length:Int) <= (l0.length:Int) then
 if i_1.toNat + (l0.length - j2.toNat) <= l0.length then
 (some (l0.take i_1.toNat ++ ((l0.drop j2.toNat) ++ l0.drop (i_1.toNat + (l0.length - j2.toNat))))).bind fun l1w =>
 if 0 <= (((i_1.toNat + (l0.length - j2.toNat)):Nat):Int) /\ (((i_1.toNat + (l0.length - j2.toNat)):Nat):Int) <= (l0.length:Int) /\ (l0.length:Int) <= l1w.length then
 if ((i_1.toNat + (l0.length - j2.toNat)) + (l0.length - (i_1.toNat + (l0.length - j2.toNat)))) <= l1w.length then
 some (l1w.take (i_1.toNat + (l0.length - j2.toNat)))
 else none
 else none
 else none
 else none
 else none
 else none
def ZT (n:Nat) (r_0:ApiRung):Nat -> (List Str) -> (List (Str × Bool)) -> (List Str) -> Option ((List Str) × Int)
 | 0,_,_,_=>none
 | rm + 1,r1x,p1y,p1z =>
 if (decide ((r1x.length:Int) > 0)) = true then
 (Z1n n r1x r_0 p1y).bind fun r1A =>
 if (decide (r1A < 0)) = true then
 some ([],12)
 else
 (atI r1x r1A).bind fun x1B =>
 if p1z.length + ([x1B]).length <= 1000000000 then
 (some (p1z ++ ([x1B]))).bind fun l1C =>
 (Z2f n r1A (IntKind.i64.wrap (r1A + 1)) r1x).bind fun q1D =>
 (ZT n r_0 rm) q1D (mPut p1y x1B true) l1C
 else none
 else
 some (p1z,0)
def Z2F (n:Nat) (r_0:ApiRung):Option ((List Str) × Int) :=
 (Z1R n r_0).bind fun r1E =>
 ZT n r_0 n r1E ([]) ([])
def Z1P (s0:List Str) (v1:Str):Nat -> Int -> Option (Int)
 | 0,_=>none
 | rm + 1,p1F =>
 if (decide (p1F < (s0.length:Int))) = true then
 (atI s0 p1F).bind fun x1G =>
 if (decide (v1 = x1G)) = true then
 some p1F
 else
 (Z1P s0 v1 rm) (IntKind.i64.wrap (p1F + 1))
 else
 some (-1)
def Z4o (n:Nat) (s0:List Str) (v1:Str):Option (Int) :=
 Z1P s0 v1 n 0
def Z16 (n:Nat) (s0:List Str) (v1:Str):Option (Bool) :=
 (Z4o n s0 v1).bind fun r1H =>
 some (decide (r1H >= 0))
def Z4m (n:Nat) (c0:ApiContact) (b0:Str):Option (Bool) :=
 some (decide (c0.From = b0))
def ZN (n:Nat) (r_0:ApiRung) (b0:Str):Nat -> Int -> (List Int) -> Option ((List Int))
 | 0,_,_=>none
 | rm + 1,p1I,p1J =>
 if (decide (p1I < (r_0.Contacts.length:Int))) = true then
 (atI r_0.Contacts p1I).bind fun x1K =>
 (Z4m n x1K b0).bind fun r1L =>
 if r1L = true then
 if p1J.length + ([p1I]).length <= 1000000000 then
 (some (p1J ++ ([p1I]))).bind fun l1M =>
 (ZN n r_0 b0 rm) (IntKind.i64.wrap (p1I + 1)) l1M
 else none
 else
 (ZN n r_0 b0 rm) (IntKind.i64.wrap (p1I + 1)) p1J
 else
 some p1J
def Z3x (n:Nat) (r_0:ApiRung) (b0:Str):Option ((List Int)) :=
 ZN n r_0 b0 n 0 ([])
def Z2A (n:Nat) (r_0:ApiRung) (node1:Str):Option ((List Int)) :=
 (Z3x n r_0 node1).bind fun r1N =>
 some r1N
def ZW (b0:ApiRung) (r1O:List Int):Nat -> Int -> (List Str) -> Option ((List Str))
 | 0,_,_=>none
 | rm + 1,p1P,p1Q =>
 if (decide (p1P < (r1O.length:Int))) = true then
 (atI r1O p1P).bind fun x1R =>
 (atI b0.Contacts x1R).bind fun x1S =>
 if p1Q.length + ([x1S.To]).length <= 1000000000 then
 (some (p1Q ++ ([x1S.To]))).bind fun l1T =>
 (ZW b0 r1O rm) (IntKind.i64.wrap (p1P + 1)) l1T
 else none
 else
 some p1Q
def Z2i (n:Nat) (n_0:Str) (b0:ApiRung):Option ((List Str)) :=
 (Z2A n b0 n_0).bind fun r1O =>
 ZW b0 r1O n 0 ([])
def ZD (b3:ApiRung) (r1U:List Str) (s1V:Str -> (List (Str × Bool)) -> ApiRung -> Option ((List (Str × Bool)))):Nat -> (List (Str × Bool)) -> Int -> Option ((List (Str × Bool)))
 | 0,_,_=>none
 | rm + 1,p1W,p1X =>
 if (decide (p1X < (r1U.length:Int))) = true then
 (atI r1U p1X).bind fun x1Y =>
 (s1V x1Y p1W b3).bind fun q1Z =>
 (ZD b3 r1U s1V rm) q1Z (IntKind.i64.wrap (p1X + 1))
 else
 some p1W
def Zs:Nat -> Str -> (List (Str × Bool)) -> ApiRung -> Option ((List (Str × Bool)))
 | 0,_,_,_=>none
 | n + 1,n_0,m1,b3 =>
 if ((mGet m1 n_0).getD false) = true then
 some m1
 else
 (Z2i n n_0 b3).bind fun r1U =>
 ZD b3 r1U (Zs n) n (mPut m1 n_0 true) 0
def Z1N (n:Nat) (n_0:Str) (m1:List (Str × Bool)):Option (Bool) :=
 some (!((mGet m1 n_0).getD false))
def Zm (n:Nat) (l0:List Str) (m2:List (Str × Bool)):Nat -> Int -> Option (Int)
 | 0,_=>none
 | rm + 1,p20 =>
 if (decide (p20 < (l0.length:Int))) = true then
 (atI l0 p20).bind fun x21 =>
 (Z1N n x21 m2).bind fun r22 =>
 if r22 = true then
 some p20
 else
 (Zm n l0 m2 rm) (IntKind.i64.wrap (p20 + 1))
 else
 some (-1)
def Z1l (n:Nat) (l0:List Str) (m2:List (Str × Bool)):Option (Int) :=
 Zm n l0 m2 n 0
def Ze (n:Nat) (m2:List (Str × Bool)):Nat -> (List Str) -> Int -> Int -> Option ((List Str))
 | 0,_,_,_=>none
 | rm + 1,l23,r24,p25 =>
 if (decide (p25 < (l23.length:Int))) = true then
 (atI l23 p25).bind fun x26 =>
 (Z1N n x26 m2).bind fun r27 =>
 if (!r27) = true then
 (atI l23 r24).bind fun x28 =>
 (some (l23.set r24.toNat x26)).bind fun l29 =>
 (Ze n m2 rm) l29 (IntKind.i64.wrap (r24 + 1)) (IntKind.i64.wrap (p25 + 1))
 else
 (Ze n m2 rm) l23 r24 (IntKind.i64.wrap (p25 + 1))
 else
 if 0 <= r24 /\ r24 <= (l23.length:Int) /\ (l23.length:Int) <= (l23.length:Int) then
 if (r24.toNat + (l23.length - r24.toNat)) <= l23.length then
 if 0 <= 0 /\ 0 <= r24 /\ r24 <= (l23.length:Int) then
 some (l23.take r24.toNat)
 else none
 else none
 else none
def Zw (n:Nat) (l0:List Str) (m2:List (Str × Bool)):Option ((List Str)) :=
 (Z1l n l0 m2).bind fun r2a =>
 if (r2a == (-1)) = true then
 some l0
 else
 Ze n m2 n l0 r2a (IntKind.i64.wrap (r2a + 1))
def Z3T (n:Nat) (r_0:ApiRung) (node1:Str) (b0:ApiRung):Option ((List Str)) :=
 (Z1R n r_0).bind fun r2b =>
 (Z16 n r2b node1).bind fun r2c =>
 if (!r2c) = true then
 some ([])
 else
 (Zs n node1 ([]) b0).bind fun q2d =>
 (Zw n r2b q2d).bind fun q2e =>
 some q2e
def Z2N (n:Nat) (r_0:ApiRung) (node1:Str):Option ((List Str)) :=
 (Z3T n r_0 node1 r_0).bind fun r2f =>
 some r2f
def ZV (b0:ApiRung) (r2g:List Int):Nat -> Int -> (List Str) -> Option ((List Str))
 | 0,_,_=>none
 | rm + 1,p2h,p2i =>
 if (decide (p2h < (r2g.length:Int))) = true then
 (atI r2g p2h).bind fun x2j =>
 (atI b0.Contacts x2j).bind fun x2k =>
 if p2i.length + ([x2k.From]).length <= 1000000000 then
 (some (p2i ++ ([x2k.From]))).bind fun l2l =>
 (ZV b0 r2g rm) (IntKind.i64.wrap (p2h + 1)) l2l
 else none
 else
 some p2i
def Z2h (n:Nat) (n_0:Str) (b0:ApiRung):Option ((List Str)) :=
 (Z2a n b0 n_0).bind fun r2g =>
 ZV b0 r2g n 0 ([])
def ZF (b3:ApiRung) (r2m:List Str) (s2n:Str -> (List (Str × Bool)) -> ApiRung -> Option ((List (Str × Bool)))):Nat -> (List (Str × Bool)) -> Int -> Option ((List (Str × Bool)))
 | 0,_,_=>none
 | rm + 1,p2o,p2p =>
 if (decide (p2p < (r2m.length:Int))) = true then
 (atI r2m p2p).bind fun x2q =>
 (s2n x2q p2o b3).bind fun q2r =>
 (ZF b3 r2m s2n rm) q2r (IntKind.i64.wrap (p2p + 1))
 else
 some p2o
def Zr:Nat -> Str -> (List (Str × Bool)) -> ApiRung -> Option ((List (Str × Bool)))
 | 0,_,_,_=>none
 | n + 1,n_0,m1,b3 =>
 if ((mGet m1 n_0).getD false) = true then
 some m1
 else
 (Z2h n n_0 b3).bind fun r2m =>
 ZF b3 r2m (Zr n) n (mPut m1 n_0 true) 0
def Z3U (n:Nat) (r_0:ApiRung) (node1:Str) (b0:ApiRung):Option ((List Str)) :=
 (Z1R n r_0).bind fun r2s =>
 (Z16 n r2s node1).bind fun r2t =>
 if (!r2t) = true then
 some ([])
 else
 (Zr n node1 ([]) b0).bind fun q2u =>
 (Zw n r2s q2u).bind fun q2v =>
 some q2v
def Z2K (n:Nat) (r_0:ApiRung) (node1:Str):Option ((List Str)) :=
 (Z3U n r_0 node1 r_0).bind fun r2w =>
 some r2w
def Z15 (n:Nat) (n_0:Str) (b0:List Str) (b1:List Str):Option (Bool) :=
 (Z16 n b0 n_0).bind fun r2x =>
 if r2x = true then
 (Z16 n b1 n_0).bind fun r2y =>
 some r2y
 else
 some false
def Zn (n:Nat) (l0:List Str) (b1:List Str) (b2:List Str):Nat -> Int -> Option (Int)
 | 0,_=>none
 | rm + 1,p2z =>
 if (decide (p2z < (l0.length:Int))) = true then
 (atI l0 p2z).bind fun x2A =>
 (Z15 n x2A b1 b2).bind fun r2B =>
 if r2B = true then
 some p2z
 else
 (Zn n l0 b1 b2 rm) (IntKind.i64.wrap (p2z + 1))
 else
 some (-1)
def Z1k (n:Nat) (l0:List Str) (b1:List Str) (b2:List Str):Option (Int) :=
 Zn n l0 b1 b2 n 0
def Zk (n:Nat) (b1:List Str) (b2:List Str):Nat -> (List Str) -> Int -> Int -> Option ((List Str))
 | 0,_,_,_=>none
 | rm + 1,l2C,r2D,p2E =>
 if (decide (p2E < (l2C.length:Int))) = true then
 (atI l2C p2E).bind fun x2F =>
 (Z15 n x2F b1 b2).bind fun r2G =>
 if (!r2G) = true then
 (atI l2C r2D).bind fun x2H =>
 (some (l2C.set r2D.toNat x2F)).bind fun l2I =>
 (Zk n b1 b2 rm) l2I (IntKind.i64.wrap (r2D + 1)) (IntKind.i64.wrap (p2E + 1))
 else
 (Zk n b1 b2 rm) l2C r2D (IntKind.i64.wrap (p2E + 1))
 else
 if 0 <= r2D /\ r2D <= (l2C.length:Int) /\ (l2C.length:Int) <= (l2C.length:Int) then
 if (r2D.toNat + (l2C.length - r2D.toNat)) <= l2C.length then
 if 0 <= 0 /\ 0 <= r2D /\ r2D <= (l2C.length:Int) then
 some (l2C.take r2D.toNat)
 else none
 else none
 else none
def ZK (n:Nat) (l0:List Str) (b1:List Str) (b2:List Str):Option ((List Str)) :=
 (Z1k n l0 b1 b2).bind fun r2J =>
 if (r2J == (-1)) = true then
 some l0
 else
 Zk n b1 b2 n l0 r2J (IntKind.i64.wrap (r2J + 1))
def Z6a (n:Nat) (r_0:ApiRung):Option ((List Str)) :=
 (Z2N n r_0 (⟨#[76]⟩:Str)).bind fun r2K =>
 (Z2K n r_0 (⟨#[82]⟩:Str)).bind fun r2L =>
 (Z1R n r_0).bind fun r2M =>
 (ZK n r2M r2K r2L).bind fun q2N =>
 some q2N
def Z58 (n:Nat) (r_0:ApiRung):Option (Int) :=
 if ((r_0.Contacts.length:Int) == 0) = true then
 some 4
 else
 (Z2F n r_0).bind fun ⟨r2O,r2P⟩ =>
 if (r2P != 0) = true then
 some r2P
 else
 (Z6a n r_0).bind fun r2Q =>
 if (decide ((r2Q.length:Int) > 0)) = true then
 some 13
 else
 some 0
def Z3V (n:Nat) (y0:ReduceEdge) (b0:ReduceEdge):Option (Bool) :=
 some ((decide (y0.pair.from_ = b0.pair.from_)) && (decide (y0.pair.to_ = b0.pair.to_)))
def Zl (n:Nat) (s0:Nat) (l0:List ReduceEdge) (b1:ReduceEdge):Nat -> Int -> Option (Int)
 | 0,_=>none
 | rm + 1,p2R =>
 if (decide (p2R < (((l0.length - s0):Nat):Int))) = true then
 (atI (l0.drop s0) p2R).bind fun x2S =>
 (Z3V n x2S b1).bind fun r2T =>
 if r2T = true then
 some p2R
 else
 (Zl n s0 l0 b1 rm) (IntKind.i64.wrap (p2R + 1))
 else
 some (-1)
def Z12 (n:Nat) (s0:Nat) (l0:List ReduceEdge) (b1:ReduceEdge):Option (Int) :=
 Zl n s0 l0 b1 n 0
def Z3k (kind0:Int) (l2U:List TreeTree):Nat -> Int -> (List TreeTree) -> Option (TreeTree)
 | 0,_,_=>none
 | rm + 1,p2V,p2W =>
 if (decide (p2V < (l2U.length:Int))) = true then
 (atI l2U p2V).bind fun x2X =>
 if (x2X.Kind == kind0) = true then
 if p2W.length + x2X.Kids.length <= 1000000000 then
 (some (p2W ++ x2X.Kids)).bind fun l2Y =>
 (Z3k kind0 l2U rm) (IntKind.i64.wrap (p2V + 1)) l2Y
 else none
 else
 if p2W.length + ([x2X]).length <= 1000000000 then
 (some (p2W ++ ([x2X]))).bind fun l2Z =>
 (Z3k kind0 l2U rm) (IntKind.i64.wrap (p2V + 1)) l2Z
 else none
 else
 some (⟨kind0,0,p2W⟩:TreeTree)
def Z5B (n:Nat) (kind0:Int) (a1:TreeTree) (b2:TreeTree):Option (TreeTree) :=
 (some ([a1,b2])).bind fun l2U =>
 Z3k kind0 l2U n 0 ([])
def Z1b (n:Nat) (i_1:Int) (j2:Int) (l0:List ReduceEdge):Option ((List ReduceEdge)) :=
 if 0 <= i_1 /\ i_1 <= j2 /\ j2 <= (l0.length:Int) /\ (l0.length:Int) <= (l0.length:Int) then
 if (i_1 == j2) = true then
 some l0
 else
 if 0 <= 0 /\ 0 <= i_1 /\ i_1 <= (l0.length:Int) then
 if 0 <= j2 /\ j2 <= (l0.length:Int) /\ (l0.length:Int) <= (l0.length:Int) then
 if i_1.toNat + (l0.length - j2.toNat) <= l0.length then
 (some (l0.take i_1.toNat ++ ((l0.drop j2.toNat) ++ l0.drop (i_1.toNat + (l0.length - j2.toNat))))).bind fun l30 =>
 if 0 <= (((i_1.toNat + (l0.length - j2.toNat)):Nat):Int) /\ (((i_1.toNat + (l0.length - j2.toNat)):Nat):Int) <= (l0.length:Int) /\ (l0.length:Int) <= l30.length then
 if ((i_1.toNat + (l0.length - j2.toNat)) + (l0.length - (i_1.toNat + (l0.length - j2.toNat)))) <= l30.length then
 some (l30.take (i_1.toNat + (l0.length - j2.toNat)))
 else none
 else none
 else none
 else none
 else none
 else none
def Z1e (n:Nat) (l0:List ReduceEdge):Nat -> Int -> Option (Bool × (List ReduceEdge))
 | 0,_=>none
 | rm + 1,p31 =>
 if (decide (p31 < (l0.length:Int))) = true then
 (atI l0 p31).bind fun x32 =>
 if 0 <= (IntKind.i64.wrap (p31 + 1)) /\ (IntKind.i64.wrap (p31 + 1)) <= (l0.length:Int) /\ (l0.length:Int) <= (l0.length:Int) then
 (Z12 n ((IntKind.i64.wrap (p31 + 1)).toNat) l0 x32).bind fun r33 =>
 if (decide (r33 >= 0)) = true then
 (atI l0 (IntKind.i64.wrap ((IntKind.i64.wrap (p31 + 1)) + r33))).bind fun x34 =>
 (Z5B n 2 x32.t_ x34.t_).bind fun r35 =>
 (some (l0.set p31.toNat (⟨x32.pair,r35⟩:ReduceEdge))).bind fun l36 =>
 (Z1b n (IntKind.i64.wrap ((IntKind.i64.wrap (p31 + 1)) + r33)) (IntKind.i64.wrap ((IntKind.i64.wrap (p31 + 2)) + r33)) l36).bind fun q37 =>
 some (true,q37)
 else
 (Z1e n l0 rm) (IntKind.i64.wrap (p31 + 1))
 else none
 else
 some (false,l0)
def Z3w (n:Nat) (l0:List ReduceEdge):Option (Bool × (List ReduceEdge)) :=
 Z1e n l0 n 0
def Z1W (n:Nat) (l0:List ReduceEdge) (p38:Int) (l39:Int -> Option (Bool × (List ReduceEdge))) (x3a:ReduceEdge) (p3b:Int) (p3c:Int) (p3d:Int):Option (Bool × (List ReduceEdge)) :=
 if (p3b == 1) = true then
 if (p3c == 1) = true then
 (atI l0 p3d).bind fun x3e =>
 (Z5B n 1 x3a.t_ x3e.t_).bind fun r3f =>
 (some (l0.set p38.toNat (⟨(⟨x3a.pair.from_,x3e.pair.to_⟩:ReducePair),r3f⟩:ReduceEdge))).bind fun l3g =>
 (Z1b n p3d (IntKind.i64.wrap (p3d + 1)) l3g).bind fun q3h =>
 some (true,q3h)
 else
 l39 (IntKind.i64.wrap (p38 + 1))
 else
 l39 (IntKind.i64.wrap (p38 + 1))
def Z2l (x3a:ReduceEdge) (p3i:Int) (p3j:Int) (p3k:Int) (l3l:Int -> Int -> Int -> Int -> Option (Bool × (List ReduceEdge))) (x3m:ReduceEdge) (p3n:Int):Option (Bool × (List ReduceEdge)) :=
 if (decide (x3m.pair.from_ = x3a.pair.to_)) = true then
 l3l (IntKind.i64.wrap (p3i + 1)) p3n (IntKind.i64.wrap (p3j + 1)) p3i
 else
 l3l (IntKind.i64.wrap (p3i + 1)) p3n p3j p3k
def Z1d (n:Nat) (l0:List ReduceEdge) (p38:Int) (l39:Int -> Option (Bool × (List ReduceEdge))) (x3a:ReduceEdge):Nat -> Int -> Int -> Int -> Int -> Option (Bool × (List ReduceEdge))
 | 0,_,_,_,_=>none
 | rd + 1,p3i,p3o,p3j,p3k =>
 if (decide (p3i < (l0.length:Int))) = true then
 (atI l0 p3i).bind fun x3m =>
 if (decide (x3m.pair.to_ = x3a.pair.to_)) = true then
 Z2l x3a p3i p3j p3k (Z1d n l0 p38 l39 x3a rd) x3m (IntKind.i64.wrap (p3o + 1))
 else
 Z2l x3a p3i p3j p3k (Z1d n l0 p38 l39 x3a rd) x3m p3o
 else
 Z1W n l0 p38 l39 x3a p3o p3j p3k
def Zq (n:Nat) (l0:List ReduceEdge):Nat -> Int -> Option (Bool × (List ReduceEdge))
 | 0,_=>none
 | rm + 1,p38 =>
 if (decide (p38 < (l0.length:Int))) = true then
 (atI l0 p38).bind fun x3a =>
 if (decide (x3a.pair.to_ = (⟨#[76]⟩:Str))) = true then
 (Zq n l0 rm) (IntKind.i64.wrap (p38 + 1))
 else
 if (decide (x3a.pair.to_ = (⟨#[82]⟩:Str))) = true then
 (Zq n l0 rm) (IntKind.i64.wrap (p38 + 1))
 else
 Z1d n l0 p38 (Zq n l0 rm) x3a n 0 0 0 0
 else
 some (false,l0)
def Z4n (n:Nat) (l0:List ReduceEdge):Option (Bool × (List ReduceEdge)) :=
 Zq n l0 n 0
def Z3g (t0:TreeTree) (s3p:TreeTree -> Option ((List Int))):Nat -> Int -> (List Int) -> Option ((List Int))
 | 0,_,_=>none
 | re + 1,p3q,p3r =>
 if (decide (p3q < (t0.Kids.length:Int))) = true then
 (atI t0.Kids p3q).bind fun x3s =>
 (s3p x3s).bind fun r3t =>
 if p3r.length + r3t.length <= 1000000000 then
 (some (p3r ++ r3t)).bind fun l3u =>
 (Z3g t0 s3p re) (IntKind.i64.wrap (p3q + 1)) l3u
 else none
 else
 some p3r
def Z43 (n:Nat) (t0:TreeTree) (s3p:TreeTree -> Option ((List Int))) (p3v:Bool):Option ((List Int)) :=
 if p3v = true then
 Z3g t0 s3p n 0 ([])
 else
 some ([])
def Z1M:Nat -> TreeTree -> Option ((List Int))
 | 0,_=>none
 | n + 1,t0 =>
 if (t0.Kind == 0) = true then
 (some ([t0.N])).bind fun l3w =>
 some l3w
 else
 if (t0.Kind == 1) = true then
 Z43 n t0 (Z1M n) (t0.Kind == 1)
 else
 Z43 n t0 (Z1M n) (t0.Kind == 2)
def Z2W (x_0:List Int):Nat -> Int -> Int -> Option (Int)
 | 0,_,_=>none
 | rm + 1,x3x,p3y =>
 if (decide (p3y < (x_0.length:Int))) = true then
 (atI x_0 p3y).bind fun x3z =>
 (Z2W x_0 rm) (imin x3x x3z) (IntKind.i64.wrap (p3y + 1))
 else
 some x3x
def Z46 (n:Nat) (x_0:List Int):Option (Int) :=
 if (decide ((x_0.length:Int) < 1)) = true then
 none
 else
 (atI x_0 0).bind fun x3A =>
 Z2W x_0 n x3A 1
def Z4s (n:Nat) (x_0:Int):Option (Bool) :=
 some (x_0 != x_0)
def Z4D (n:Nat) (x_0:Int) (y1:Int):Option (Int) :=
 (Z4s n x_0).bind fun r3B =>
 (Z4s n y1).bind fun r3C =>
 if r3B = true then
 if r3C = true then
 some 0
 else
 some (-1)
 else
 if r3C = true then
 some 1
 else
 if (decide (x_0 < y1)) = true then
 some (-1)
 else
 if (decide (x_0 > y1)) = true then
 some 1
 else
 some 0
def Z2P (n:Nat) (a0:TreeTree) (b1:TreeTree):Option (Int) :=
 (Z1M n a0).bind fun r3D =>
 (Z46 n r3D).bind fun r3E =>
 (Z1M n b1).bind fun r3F =>
 (Z46 n r3F).bind fun r3G =>
 (Z4D n r3E r3G).bind fun r3H =>
 some r3H
def Z1t (n:Nat) (l0:List TreeTree):Option (List TreeTree):=sortM (fun a b=>Z2P n a b) l0
def Z3c (n:Nat) (t0:TreeTree) (p3I:List TreeTree):Option (TreeTree) :=
 if (t0.Kind == 2) = true then
 (Z1t n p3I).bind fun q3J =>
 some (⟨t0.Kind,t0.N,q3J⟩:TreeTree)
 else
 some (⟨t0.Kind,t0.N,p3I⟩:TreeTree)
def Z3f (n:Nat) (t0:TreeTree) (s3K:TreeTree -> Option (TreeTree)):Nat -> Int -> (List TreeTree) -> Option (TreeTree)
 | 0,_,_=>none
 | re + 1,p3L,p3M =>
 if (decide (p3L < (t0.Kids.length:Int))) = true then
 (atI t0.Kids p3L).bind fun x3N =>
 (s3K x3N).bind fun r3O =>
 if p3M.length + ([r3O]).length <= 1000000000 then
 (some (p3M ++ ([r3O]))).bind fun l3P =>
 (Z3f n t0 s3K re) (IntKind.i64.wrap (p3L + 1)) l3P
 else none
 else
 Z3c n t0 p3M
def Z2Y:Nat -> TreeTree -> Option (TreeTree)
 | 0,_=>none
 | n + 1,t0 =>
 Z3f n t0 (Z2Y n) n 0 ([])
def Z2y (n:Nat) (p3Q:List ReduceEdge):Option (TreeTree × Int) :=
 if ((p3Q.length:Int) != 1) = true then
 some ((⟨0,0,[]⟩:TreeTree),14)
 else
 (atI p3Q 0).bind fun x3R =>
 if (!((decide (x3R.pair.from_ = (⟨#[76]⟩:Str))) && (decide (x3R.pair.to_ = (⟨#[82]⟩:Str))))) = true then
 some ((⟨0,0,[]⟩:TreeTree),14)
 else
 (Z2Y n x3R.t_).bind fun r3S =>
 some (r3S,0)
def Z1c (n:Nat):Nat -> (List ReduceEdge) -> Bool -> Option (TreeTree × Int)
 | 0,_,_=>none
 | rd + 1,p3T,true15185 =>
 if true15185 = true then
 (Z3w n p3T).bind fun ⟨r3U,q3V⟩ =>
 (Z4n n q3V).bind fun ⟨r3W,q3X⟩ =>
 if r3U = true then
 (Z1c n rd) q3X true
 else
 (Z1c n rd) q3X r3W
 else
 Z2y n p3T
def Z3a (n:Nat) (p3Y:List ReduceEdge):Option (TreeTree × Int) :=
 Z1c n n p3Y true
def Z39 (n:Nat) (aD:ApiRung):Nat -> Int -> (List ReduceEdge) -> Option (TreeTree × Int)
 | 0,_,_=>none
 | rE + 1,p3Z,p40 =>
 if (decide (p3Z < (aD.Contacts.length:Int))) = true then
 (atI aD.Contacts p3Z).bind fun x41 =>
 if p40.length + ([(⟨(⟨x41.From,x41.To⟩:ReducePair),(⟨0,p3Z,([]:List TreeTree)⟩:TreeTree)⟩:ReduceEdge)]).length <= 1000000000 then
 (some (p40 ++ ([(⟨(⟨x41.From,x41.To⟩:ReducePair),(⟨0,p3Z,([]:List TreeTree)⟩:TreeTree)⟩:ReduceEdge)]))).bind fun l42 =>
 (Z39 n aD rE) (IntKind.i64.wrap (p3Z + 1)) l42
 else none
 else
 Z3a n p40
def Z14 (n:Nat) (aD:ApiRung):Option (TreeTree × Int) :=
 (Z58 n aD).bind fun r43 =>
 if (r43 != 0) = true then
 some ((⟨0,0,[]⟩:TreeTree),r43)
 else
 Z39 n aD n 0 ([])
def Z4i (n:Nat) (c0:ApiContact):Option (Bool) :=
 if (c0.Kind == 2) = true then
 some true
 else
 some (c0.Kind == 3)
def Z4N (n:Nat) (k0:TreeTree) (b0:TreeTree):Option (Bool) :=
 some (k0.Kind == b0.Kind)
def ZQ (n:Nat) (s0:List TreeTree) (b0:TreeTree):Nat -> Int -> Option (Int)
 | 0,_=>none
 | rm + 1,p46 =>
 if (decide (p46 < (s0.length:Int))) = true then
 (atI s0 p46).bind fun x48 =>
 (Z4N n x48 b0).bind fun r4a =>
 if r4a = true then
 some p46
 else
 (ZQ n s0 b0 rm) (IntKind.i64.wrap (p46 + 1))
 else
 some (-1)
def Z1Y (n:Nat) (s0:List TreeTree) (b0:TreeTree):Option (Int) :=
 ZQ n s0 b0 n 0
def ZM (n:Nat) (s0:List TreeTree) (b0:TreeTree):Option (Bool) :=
 (Z1Y n s0 b0).bind fun r4b =>
 some (decide (r4b >= 0))
def Z2E (aD:TreeTree) (a1:Int) (s4c:TreeTree -> Int -> (List (Int × Bool)) -> Option (Int × (List (Int × Bool)))):Nat -> (List (Int × Bool)) -> Int -> Option (Int × (List (Int × Bool)))
 | 0,_,_=>none
 | re + 1,m4d,p4e =>
 if (decide (p4e < (aD.Kids.length:Int))) = true then
 (atI aD.Kids p4e).bind fun x4f =>
 (s4c x4f a1 m4d).bind fun ⟨r4g,q4h⟩ =>
 if (r4g != 0) = true then
 some (r4g,q4h)
 else
 (Z2E aD a1 s4c re) q4h (IntKind.i64.wrap (p4e + 1))
 else
 some (0,m4d)
def Z3A (n:Nat) (aD:TreeTree) (a1:Int) (m0:List (Int × Bool)) (s4c:TreeTree -> Int -> (List (Int × Bool)) -> Option (Int × (List (Int × Bool)))):Option (Int × (List (Int × Bool))) :=
 Z2E aD a1 s4c n m0 0
def Z1p:Nat -> TreeTree -> Int -> (List (Int × Bool)) -> Option (Int × (List (Int × Bool)))
 | 0,_,_,_=>none
 | n + 1,aD,a1,m0 =>
 if (decide (aD.Kind < 0)) = true then
 some (8,m0)
 else
 if (decide (aD.Kind > 2)) = true then
 some (8,m0)
 else
 if (aD.Kind == 0) = true then
 if (decide ((aD.Kids.length:Int) > 0)) = true then
 some (2,m0)
 else
 if (aD.Kind != 0) = true then
 if (aD.N != 0) = true then
 some (2,m0)
 else
 if (decide (aD.N < 0)) = true then
 some (3,m0)
 else
 if (decide (aD.N >= a1)) = true then
 some (3,m0)
 else
 if ((mGet m0 aD.N).getD false) = true then
 some (9,m0)
 else
 some (0,(mPut m0 aD.N true))
 else
 if (decide (aD.N < 0)) = true then
 some (3,m0)
 else
 if (decide (aD.N >= a1)) = true then
 some (3,m0)
 else
 if ((mGet m0 aD.N).getD false) = true then
 some (9,m0)
 else
 some (0,(mPut m0 aD.N true))
 else
 if (aD.Kind != 0) = true then
 if (aD.N != 0) = true then
 some (2,m0)
 else
 if (decide ((aD.Kids.length:Int) < 2)) = true then
 some (5,m0)
 else
 (ZM n aD.Kids aD).bind fun r4i =>
 if r4i = true then
 some (14,m0)
 else
 Z3A n aD a1 m0 (Z1p n)
 else
 if (decide ((aD.Kids.length:Int) < 2)) = true then
 some (5,m0)
 else
 (ZM n aD.Kids aD).bind fun r4j =>
 if r4j = true then
 some (14,m0)
 else
 Z3A n aD a1 m0 (Z1p n)
def Z68 (n:Nat) (t0:TreeTree) (many1:Int):Option (Int) :=
 (Z1p n t0 many1 ([])).bind fun ⟨r4k,q4l⟩ =>
 if (r4k == 0) = true then
 if (((q4l.length:Nat):Int) != (imax 0 many1)) = true then
 some 4
 else
 some r4k
 else
 some r4k
def Z19 (t0:TreeTree) (edge1:List Bool) (s4m:TreeTree -> (List Bool) -> Option (Int)):Nat -> Int -> Int -> Option (Int)
 | 0,_,_=>none
 | rm + 1,p4n,p4o =>
 if (decide (p4n < (t0.Kids.length:Int))) = true then
 (atI t0.Kids p4n).bind fun x4p =>
 if (p4n == 0) = true then
 (s4m x4p edge1).bind fun r4q =>
 (Z19 t0 edge1 s4m rm) (IntKind.i64.wrap (p4n + 1)) r4q
 else
 if (x4p.Kind != 0) = true then
 (s4m x4p edge1).bind fun r4r =>
 (Z19 t0 edge1 s4m rm) (IntKind.i64.wrap (p4n + 1)) (imax p4o (IntKind.i64.wrap (1 + r4r)))
 else
 (atI edge1 x4p.N).bind fun x4s =>
 if x4s = true then
 (s4m x4p edge1).bind fun r4t =>
 (Z19 t0 edge1 s4m rm) (IntKind.i64.wrap (p4n + 1)) (imax p4o (IntKind.i64.wrap (1 + r4t)))
 else
 (Z19 t0 edge1 s4m rm) (IntKind.i64.wrap (p4n + 1)) p4o
 else
 some p4o
def Z1A:Nat -> TreeTree -> (List Bool) -> Option (Int)
 | 0,_,_=>none
 | n + 1,t0,edge1 =>
 Z19 t0 edge1 (Z1A n) n 0 0
def Z4y (n:Nat) (t0:TreeTree) (edge1:List Bool):Option (Int × Int) :=
 (Z68 n t0 (edge1.length:Int)).bind fun r4u =>
 if (r4u != 0) = true then
 some (0,r4u)
 else
 (Z1A n t0 edge1).bind fun r4v =>
 some (r4v,0)
def Z4W (n:Nat) (c0:ApiContact):Option (Bool) :=
 if (decide (c0.Kind < 0)) = true then
 some true
 else
 some (decide (c0.Kind >= 4))
def ZG (n:Nat) (s0:List ApiContact):Nat -> Int -> Option (Int)
 | 0,_=>none
 | rm + 1,p4w =>
 if (decide (p4w < (s0.length:Int))) = true then
 (atI s0 p4w).bind fun x4x =>
 (Z4W n x4x).bind fun r4y =>
 if r4y = true then
 some p4w
 else
 (ZG n s0 rm) (IntKind.i64.wrap (p4w + 1))
 else
 some (-1)
def Z1J (n:Nat) (s0:List ApiContact):Option (Int) :=
 ZG n s0 n 0
def ZZ (n:Nat) (s0:List ApiContact):Option (Bool) :=
 (Z1J n s0).bind fun r4z =>
 some (decide (r4z >= 0))
def Zf (n:Nat) (x_1:ApiIns) (b0:Str) (b0_1:List ApiContact) (b0_2:List ApiCoil) (b0_3:Str) (l1:List Int) (l2:List ApiIns):Option ((List ApiIns)) :=
 if l2.length + ([x_1]).length <= 1000000000 then
 (some (l2 ++ ([x_1]))).bind fun l4A =>
 some l4A
 else none
def Z1G (n:Nat) (a1:TreeTree) (b0:Str) (b0_1:List ApiContact) (b0_2:List ApiCoil) (b0_3:Str) (l1:List Int) (q4B:List ApiIns) (p4C:Int) (l4D:(List ApiIns) -> Int -> Option ((List ApiIns))) (x4E:TreeTree) (s4F:TreeTree -> Str -> (List ApiContact) -> (List ApiCoil) -> Str -> (List Int) -> (List ApiIns) -> Option ((List ApiIns))):Option ((List ApiIns)) :=
 (Zf n (⟨8,(⟨0,0⟩:ApiAddr),0⟩:ApiIns) b0 b0_1 b0_2 b0_3 l1 q4B).bind fun q4G =>
 (s4F x4E b0 b0_1 b0_2 b0_3 l1 q4G).bind fun q4H =>
 if a1.Kind = 0 then
 (Zf n (⟨0,(⟨0,0⟩:ApiAddr),0⟩:ApiIns) b0 b0_1 b0_2 b0_3 l1 q4H).bind fun q4I =>
 l4D q4I (IntKind.i64.wrap (p4C + 1))
 else
 if a1.Kind = 1 then
 (Zf n (⟨9,(⟨0,0⟩:ApiAddr),0⟩:ApiIns) b0 b0_1 b0_2 b0_3 l1 q4H).bind fun q4J =>
 l4D q4J (IntKind.i64.wrap (p4C + 1))
 else
 if a1.Kind = 2 then
 (Zf n (⟨10,(⟨0,0⟩:ApiAddr),0⟩:ApiIns) b0 b0_1 b0_2 b0_3 l1 q4H).bind fun q4K =>
 l4D q4K (IntKind.i64.wrap (p4C + 1))
 else
 none
def Zh (n:Nat) (a1:TreeTree) (b0:Str) (b0_1:List ApiContact) (b0_2:List ApiCoil) (b0_3:Str) (l1:List Int) (l4L:List TreeTree) (s4F:TreeTree -> Str -> (List ApiContact) -> (List ApiCoil) -> Str -> (List Int) -> (List ApiIns) -> Option ((List ApiIns))):Nat -> (List ApiIns) -> Int -> Option ((List ApiIns))
 | 0,_,_=>none
 | rm + 1,q4B,p4C =>
 if (decide (p4C < (l4L.length:Int))) = true then
 (atI l4L p4C).bind fun x4E =>
 if (x4E.Kind == 0) = true then
 (atI b0_1 x4E.N).bind fun x4M =>
 (Z4i n x4M).bind fun r4N =>
 if (!r4N) = true then
 if a1.Kind = 0 then
 if x4M.Kind = 0 then
 (Zf n (⟨0,x4M.A,0⟩:ApiIns) b0 b0_1 b0_2 b0_3 l1 q4B).bind fun q4O =>
 (Zh n a1 b0 b0_1 b0_2 b0_3 l1 l4L s4F rm) q4O (IntKind.i64.wrap (p4C + 1))
 else
 if x4M.Kind = 1 then
 (Zf n (⟨0,x4M.A,0⟩:ApiIns) b0 b0_1 b0_2 b0_3 l1 q4B).bind fun q4P =>
 (Zh n a1 b0 b0_1 b0_2 b0_3 l1 l4L s4F rm) q4P (IntKind.i64.wrap (p4C + 1))
 else
 none
 else
 if a1.Kind = 1 then
 if x4M.Kind = 0 then
 (Zf n (⟨2,x4M.A,0⟩:ApiIns) b0 b0_1 b0_2 b0_3 l1 q4B).bind fun q4Q =>
 (Zh n a1 b0 b0_1 b0_2 b0_3 l1 l4L s4F rm) q4Q (IntKind.i64.wrap (p4C + 1))
 else
 if x4M.Kind = 1 then
 (Zf n (⟨3,x4M.A,0⟩:ApiIns) b0 b0_1 b0_2 b0_3 l1 q4B).bind fun q4R =>
 (Zh n a1 b0 b0_1 b0_2 b0_3 l1 l4L s4F rm) q4R (IntKind.i64.wrap (p4C + 1))
 else
 none
 else
 if a1.Kind = 2 then
 if x4M.Kind = 0 then
 (Zf n (⟨4,x4M.A,0⟩:ApiIns) b0 b0_1 b0_2 b0_3 l1 q4B).bind fun q4S =>
 (Zh n a1 b0 b0_1 b0_2 b0_3 l1 l4L s4F rm) q4S (IntKind.i64.wrap (p4C + 1))
 else
 if x4M.Kind = 1 then
 (Zf n (⟨5,x4M.A,0⟩:ApiIns) b0 b0_1 b0_2 b0_3 l1 q4B).bind fun q4T =>
 (Zh n a1 b0 b0_1 b0_2 b0_3 l1 l4L s4F rm) q4T (IntKind.i64.wrap (p4C + 1))
 else
 none
 else
 none
 else
 Z1G n a1 b0 b0_1 b0_2 b0_3 l1 q4B p4C (Zh n a1 b0 b0_1 b0_2 b0_3 l1 l4L s4F rm) x4E s4F
 else
 Z1G n a1 b0 b0_1 b0_2 b0_3 l1 q4B p4C (Zh n a1 b0 b0_1 b0_2 b0_3 l1 l4L s4F rm) x4E s4F
 else
 some q4B
def ZC:Nat -> TreeTree -> Str -> (List ApiContact) -> (List ApiCoil) -> Str -> (List Int) -> (List ApiIns) -> Option ((List ApiIns))
 | 0,_,_,_,_,_,_,_=>none
 | n + 1,a1,b0,b0_1,b0_2,b0_3,l1,l2 =>
 if (a1.Kind == 0) = true then
 (atI b0_1 a1.N).bind fun x4U =>
 if x4U.Kind = 0 then
 (atI l1 a1.N).bind fun x4V =>
 (Zf n (⟨0,x4U.A,x4V⟩:ApiIns) b0 b0_1 b0_2 b0_3 l1 l2).bind fun q4W =>
 some q4W
 else
 if x4U.Kind = 1 then
 (atI l1 a1.N).bind fun x4X =>
 (Zf n (⟨1,x4U.A,x4X⟩:ApiIns) b0 b0_1 b0_2 b0_3 l1 l2).bind fun q4Y =>
 some q4Y
 else
 if x4U.Kind = 2 then
 (atI l1 a1.N).bind fun x4Z =>
 (Zf n (⟨6,x4U.A,x4Z⟩:ApiIns) b0 b0_1 b0_2 b0_3 l1 l2).bind fun q50 =>
 some q50
 else
 if x4U.Kind = 3 then
 (atI l1 a1.N).bind fun x51 =>
 (Zf n (⟨7,x4U.A,x51⟩:ApiIns) b0 b0_1 b0_2 b0_3 l1 l2).bind fun q52 =>
 some q52
 else
 none
 else
 (atI a1.Kids 0).bind fun x53 =>
 ((ZC n) x53 b0 b0_1 b0_2 b0_3 l1 l2).bind fun q54 =>
 if 0 <= 1 /\ 1 <= (a1.Kids.length:Int) /\ (a1.Kids.length:Int) <= (a1.Kids.length:Int) then
 (some (a1.Kids.drop 1)).bind fun l4L =>
 Zh n a1 b0 b0_1 b0_2 b0_3 l1 l4L (ZC n) n q54 0
 else none
def Z4x (n:Nat) (r_0:ApiRung) (t1:TreeTree) (l55:List Int):Option ((List ApiIns) × Int) :=
 (ZC n t1 r_0.Label r_0.Contacts r_0.Coils r_0.Jump l55 ([]:List ApiIns)).bind fun q56 =>
 some (q56,0)
def Z2J (n:Nat) (r_0:ApiRung) (t1:TreeTree):Nat -> Int -> Int -> (List Int) -> Option ((List ApiIns) × Int)
 | 0,_,_,_=>none
 | re + 1,slot15879,p57,l59 =>
 if (decide (p57 < (r_0.Contacts.length:Int))) = true then
 (atI r_0.Contacts p57).bind fun x5a =>
 (Z4i n x5a).bind fun r5b =>
 if r5b = true then
 (atI l59 p57).bind fun x5c =>
 (some (l59.set p57.toNat slot15879)).bind fun l5d =>
 (Z2J n r_0 t1 re) (IntKind.i64.wrap (slot15879 + 1)) (IntKind.i64.wrap (p57 + 1)) l5d
 else
 (Z2J n r_0 t1 re) slot15879 (IntKind.i64.wrap (p57 + 1)) l59
 else
 Z4x n r_0 t1 l59
def Z5W (n:Nat) (r_0:ApiRung) (t1:TreeTree) (slot2:Int):Option ((List ApiIns) × Int) :=
 (Z68 n t1 (r_0.Contacts.length:Int)).bind fun r5e =>
 if (r5e != 0) = true then
 some ([],r5e)
 else
 (ZZ n r_0.Contacts).bind fun r5f =>
 if r5f = true then
 some ([],8)
 else
 if (decide (slot2 < 0)) = true then
 some ([],3)
 else
 if (decide (slot2 > 16384)) = true then
 some ([],3)
 else
 if 0 <= (r_0.Contacts.length:Int) /\ (r_0.Contacts.length:Int) <= (r_0.Contacts.length:Int) /\ (r_0.Contacts.length:Int) <= 1000000000 then
 (some (List.replicate r_0.Contacts.length 0)).bind fun l5g =>
 Z2J n r_0 t1 n slot2 0 l5g
 else none
def Z34 (n:Nat) (r_0:ApiRung) (slot1:Int) (r5h:TreeTree) (l5i:List Bool):Option ((List ApiIns) × Int) :=
 (Z4y n r5h l5i).bind fun ⟨r5j,r5k⟩ =>
 if (r5k != 0) = true then
 some ([],r5k)
 else
 if (decide (r5j > 64)) = true then
 some ([],16)
 else
 (Z5W n r_0 r5h slot1).bind fun ⟨r5l,r5m⟩ =>
 some (r5l,r5m)
def Z2n (n:Nat) (r_0:ApiRung) (slot1:Int) (r5h:TreeTree):Nat -> Int -> (List Bool) -> Option ((List ApiIns) × Int)
 | 0,_,_=>none
 | re + 1,p5n,l5o =>
 if (decide (p5n < (r_0.Contacts.length:Int))) = true then
 (atI r_0.Contacts p5n).bind fun x5p =>
 (Z4i n x5p).bind fun r5q =>
 (atI l5o p5n).bind fun x5r =>
 (some (l5o.set p5n.toNat r5q)).bind fun l5s =>
 (Z2n n r_0 slot1 r5h re) (IntKind.i64.wrap (p5n + 1)) l5s
 else
 Z34 n r_0 slot1 r5h l5o
def Z3e (n:Nat) (r_0:ApiRung) (slot1:Int):Option ((List ApiIns) × Int) :=
 (Z14 n r_0).bind fun ⟨r5h,r5t⟩ =>
 if (r5t != 0) = true then
 some ([],r5t)
 else
 if 0 <= (r_0.Contacts.length:Int) /\ (r_0.Contacts.length:Int) <= (r_0.Contacts.length:Int) /\ (r_0.Contacts.length:Int) <= 1000000000 then
 (some (List.replicate r_0.Contacts.length false)).bind fun l5u =>
 Z2n n r_0 slot1 r5h n 0 l5u
 else none
def Z1H (r_0:ApiRung):Nat -> Int -> (List ApiIns) -> Option ((List ApiIns) × Int)
 | 0,_,_=>none
 | rm + 1,p5v,p5w =>
 if (decide (p5v < (r_0.Coils.length:Int))) = true then
 (atI r_0.Coils p5v).bind fun x5x =>
 if (decide (x5x.Kind < 0)) = true then
 some ([],8)
 else
 if (decide (x5x.Kind >= 4)) = true then
 some ([],8)
 else
 if x5x.Kind = 0 then
 if p5w.length + ([(⟨11,x5x.A,0⟩:ApiIns)]).length <= 1000000000 then
 (some (p5w ++ ([(⟨11,x5x.A,0⟩:ApiIns)]))).bind fun l5y =>
 (Z1H r_0 rm) (IntKind.i64.wrap (p5v + 1)) l5y
 else none
 else
 if x5x.Kind = 1 then
 if p5w.length + ([(⟨12,x5x.A,0⟩:ApiIns)]).length <= 1000000000 then
 (some (p5w ++ ([(⟨12,x5x.A,0⟩:ApiIns)]))).bind fun l5z =>
 (Z1H r_0 rm) (IntKind.i64.wrap (p5v + 1)) l5z
 else none
 else
 if x5x.Kind = 2 then
 if p5w.length + ([(⟨13,x5x.A,0⟩:ApiIns)]).length <= 1000000000 then
 (some (p5w ++ ([(⟨13,x5x.A,0⟩:ApiIns)]))).bind fun l5A =>
 (Z1H r_0 rm) (IntKind.i64.wrap (p5v + 1)) l5A
 else none
 else
 if x5x.Kind = 3 then
 if p5w.length + ([(⟨14,x5x.A,0⟩:ApiIns)]).length <= 1000000000 then
 (some (p5w ++ ([(⟨14,x5x.A,0⟩:ApiIns)]))).bind fun l5B =>
 (Z1H r_0 rm) (IntKind.i64.wrap (p5v + 1)) l5B
 else none
 else
 none
 else
 some (p5w,0)
def Z6A (n:Nat) (r_0:ApiRung):Option ((List ApiIns) × Int) :=
 Z1H r_0 n 0 ([])
def Z5j (n:Nat) (c0:ApiContact):Option (Bool) :=
 if (c0.Kind == 2) = true then
 some true
 else
 some (c0.Kind == 3)
def Z1w (n:Nat) (r_0:ApiRung):Nat -> Int -> Int -> Option (Int)
 | 0,_,_=>none
 | rm + 1,p5C,p5D =>
 if (decide (p5D < (r_0.Contacts.length:Int))) = true then
 (atI r_0.Contacts p5D).bind fun x5E =>
 (Z5j n x5E).bind fun r5F =>
 if r5F = true then
 (Z1w n r_0 rm) (IntKind.i64.wrap (p5C + 1)) (IntKind.i64.wrap (p5D + 1))
 else
 (Z1w n r_0 rm) p5C (IntKind.i64.wrap (p5D + 1))
 else
 some p5C
def Z3z (n:Nat) (r_0:ApiRung):Option (Int) :=
 Z1w n r_0 n 0 0
def Z5e (aD:ApiLadder) (p5G:Int) (p5H:List Int) (p5I:List ApiIns):Option (ApiProgram × (List Int) × Int × Int) :=
 if p5H.length + ([(p5I.length:Int)]).length <= 1000000000 then
 (some (p5H ++ ([(p5I.length:Int)]))).bind fun l5J =>
 if p5I.length + ([(⟨16,(⟨0,0⟩:ApiAddr),0⟩:ApiIns)]).length <= 1000000000 then
 (some (p5I ++ ([(⟨16,(⟨0,0⟩:ApiAddr),0⟩:ApiIns)]))).bind fun l5K =>
 some ((⟨(⟨aD.I,aD.Q,aD.M,p5G⟩:ApiSize),l5K⟩:ApiProgram),l5J,(aD.Rungs.length:Int),0)
 else none
 else none
def Z2z (aD:ApiLadder) (p5L:List (Str × Int)) (p5G:Int) (p5H:List Int):Nat -> (List (Int × Str)) -> (List ApiIns) -> Option (ApiProgram × (List Int) × Int × Int)
 | 0,_,_=>none
 | rd + 1,p5M,p5N =>
 if (p5M.isEmpty) = true then
 Z5e aD p5G p5H p5N
 else
 Agr p5M fun e5O m5P =>
 (atI p5N e5O.1).bind fun x5Q =>
 (some (p5N.set e5O.1.toNat (⟨x5Q.Op,x5Q.A,((mGet p5L e5O.2).getD 0)⟩:ApiIns))).bind fun l5R =>
 (Z2z aD p5L p5G p5H rd) m5P l5R
def Z49 (n:Nat) (aD:ApiLadder) (p5L:List (Str × Int)) (p5S:List (Int × Str)) (p5G:Int) (p5T:List ApiIns) (p5H:List Int):Option (ApiProgram × (List Int) × Int × Int) :=
 Z2z aD p5L p5G p5H n p5S p5T
def Z1s (n:Nat) (aD:ApiLadder):Nat -> (List (Str × Int)) -> (List (Int × Str)) -> Int -> Int -> (List ApiIns) -> (List Int) -> Option (ApiProgram × (List Int) × Int × Int)
 | 0,_,_,_,_,_,_=>none
 | rE + 1,p5U,p5V,p5W,p5X,p5Y,p5Z =>
 if (decide (p5W < (aD.Rungs.length:Int))) = true then
 (atI aD.Rungs p5W).bind fun x60 =>
 (Z3e n x60 p5X).bind fun ⟨r61,r62⟩ =>
 if (r62 != 0) = true then
 some ((⟨(⟨0,0,0,0⟩:ApiSize),[]⟩:ApiProgram),[],p5W,r62)
 else
 (Z6A n x60).bind fun ⟨r63,r64⟩ =>
 if (r64 != 0) = true then
 some ((⟨(⟨0,0,0,0⟩:ApiSize),[]⟩:ApiProgram),[],p5W,r64)
 else
 if p5Z.length + ([(p5Y.length:Int)]).length <= 1000000000 then
 (some (p5Z ++ ([(p5Y.length:Int)]))).bind fun l65 =>
 (Z3z n x60).bind fun r66 =>
 if p5Y.length + r61.length <= 1000000000 then
 (some (p5Y ++ r61)).bind fun l67 =>
 if l67.length + r63.length <= 1000000000 then
 (some (l67 ++ r63)).bind fun l68 =>
 if (!(decide (x60.Jump = (⟨#[]⟩:Str)))) = true then
 if l68.length + ([(⟨15,(⟨0,0⟩:ApiAddr),0⟩:ApiIns)]).length <= 1000000000 then
 (some (l68 ++ ([(⟨15,(⟨0,0⟩:ApiAddr),0⟩:ApiIns)]))).bind fun l69 =>
 (Z1s n aD rE) (mPut p5U x60.Label (p5Y.length:Int)) (mPut p5V (l68.length:Int) x60.Jump) (IntKind.i64.wrap (p5W + 1)) (IntKind.i64.wrap (p5X + r66)) l69 l65
 else none
 else
 (Z1s n aD rE) (mPut p5U x60.Label (p5Y.length:Int)) p5V (IntKind.i64.wrap (p5W + 1)) (IntKind.i64.wrap (p5X + r66)) l68 l65
 else none
 else none
 else none
 else
 Z49 n aD p5U p5V p5X p5Y p5Z
def Z2u (n:Nat) (aD:ApiLadder):Option (ApiProgram × (List Int) × Int × Int) :=
 (Z5o n aD).bind fun ⟨r6a,r6b⟩ =>
 if (r6b != 0) = true then
 some ((⟨(⟨0,0,0,0⟩:ApiSize),[]⟩:ApiProgram),[],r6a,r6b)
 else
 Z1s n aD n ([]) ([]) 0 0 ([]) ([])
def Z51 (n:Nat) (l0:ApiLadder):Option (ApiProgram × Int × Int) :=
 (Z2u n l0).bind fun ⟨r6c,r6d,r6e,r6f⟩ =>
 some (r6c,r6e,r6f)
def Z33 (s10:List ApiIns) (s21:List ApiIns):Nat -> Int -> Option (Bool)
 | 0,_=>none
 | rm + 1,p6g =>
 if (decide (p6g < (s10.length:Int))) = true then
 (atI s10 p6g).bind fun x6h =>
 (atI s21 p6g).bind fun x6i =>
 if (!((x6h.Op == x6i.Op) && ((x6h.A.Space == x6i.A.Space) && ((x6h.A.N == x6i.A.N) && (x6h.N == x6i.N))))) = true then
 some false
 else
 (Z33 s10 s21 rm) (IntKind.i64.wrap (p6g + 1))
 else
 some true
def Z5f (n:Nat) (s10:List ApiIns) (s21:List ApiIns):Option (Bool) :=
 if ((s10.length:Int) != (s21.length:Int)) = true then
 some false
 else
 Z33 s10 s21 n 0
def Z5v (n:Nat):Option (Bool) :=
 (Z84 n ).bind fun r60 =>
 (some ([r60])).bind fun l61 =>
 (Z51 n (⟨2,1,0,l61⟩:ApiLadder)).bind fun ⟨r6j,r6k,r6l⟩ =>
 if (r6l == 0) = true then
 if (r6k == 1) = true then
 (some ([(⟨0,(⟨0,0⟩:ApiAddr),0⟩:ApiIns),(⟨3,(⟨0,1⟩:ApiAddr),0⟩:ApiIns),(⟨11,(⟨1,0⟩:ApiAddr),0⟩:ApiIns),(⟨16,(⟨0,0⟩:ApiAddr),0⟩:ApiIns)])).bind fun l6m =>
 (Z5f n r6j.Code l6m).bind fun r6n =>
 some r6n
 else
 some false
 else
 some false
def Z53 (n:Nat) (c0:Int):Option (Bool) :=
 if (decide (c0 >= 65)) = true then
 if (decide (c0 <= 90)) = true then
 some true
 else
 if (decide (c0 >= 97)) = true then
 some (decide (c0 <= 122))
 else
 some false
 else
 if (decide (c0 >= 97)) = true then
 some (decide (c0 <= 122))
 else
 some false
def Z2j (n:Nat) (w_0:Str):Nat -> Int -> Option (Bool)
 | 0,_=>none
 | rm + 1,p6o =>
 if (decide (p6o < (w_0.size:Int))) = true then
 (atI w_0.data.toList p6o).bind fun b6p =>
 (Z53 n (b6p.toNat:Int)).bind fun r6q =>
 if (!r6q) = true then
 (atI w_0.data.toList p6o).bind fun b6r =>
 if ((b6r.toNat:Int) != 95) = true then
 (atI w_0.data.toList p6o).bind fun b6s =>
 if (decide ((b6s.toNat:Int) < 48)) = true then
 some false
 else
 (atI w_0.data.toList p6o).bind fun b6t =>
 if (decide ((b6t.toNat:Int) > 57)) = true then
 some false
 else
 (Z2j n w_0 rm) (IntKind.i64.wrap (p6o + 1))
 else
 (Z2j n w_0 rm) (IntKind.i64.wrap (p6o + 1))
 else
 (Z2j n w_0 rm) (IntKind.i64.wrap (p6o + 1))
 else
 some true
def Z3y (n:Nat) (w_0:Str):Option (Bool) :=
 if (decide (w_0 = (⟨#[]⟩:Str))) = true then
 some false
 else
 if (decide ((w_0.size:Int) > 16)) = true then
 some false
 else
 (atI w_0.data.toList 0).bind fun b6u =>
 (Z53 n (b6u.toNat:Int)).bind fun r6v =>
 if (!r6v) = true then
 some false
 else
 Z2j n w_0 n 0
def Z6p (n:Nat) (s0:ApiSize) (space1:Int):Option (Int) :=
 if (space1 == 0) = true then
 some s0.I
 else
 if (space1 == 1) = true then
 some s0.Q
 else
 if (space1 == 2) = true then
 some s0.M
 else
 some 0
def Z3I (n:Nat) (s0:ApiSize) (a1:ApiAddr):Option (Int) :=
 if (decide (a1.Space < 0)) = true then
 some 8
 else
 if (decide (a1.Space > 2)) = true then
 some 8
 else
 if (decide (a1.N < 0)) = true then
 some 3
 else
 (Z6p n s0 a1.Space).bind fun r6w =>
 if (decide (a1.N >= r6w)) = true then
 some 3
 else
 some 0
def Z2X (n:Nat) (s0:ApiSize) (r_1:ApiRung):Nat -> Int -> Option (Int)
 | 0,_=>none
 | rm + 1,p6x =>
 if (decide (p6x < (r_1.Contacts.length:Int))) = true then
 (atI r_1.Contacts p6x).bind fun x6y =>
 if (decide (x6y.Kind < 0)) = true then
 some 8
 else
 if (decide (x6y.Kind > 3)) = true then
 some 8
 else
 (Z3I n s0 x6y.A).bind fun r6z =>
 if (r6z != 0) = true then
 some r6z
 else
 (Z3y n x6y.From).bind fun r6A =>
 if (!r6A) = true then
 some 6
 else
 (Z3y n x6y.To).bind fun r6B =>
 if (!r6B) = true then
 some 6
 else
 (Z2X n s0 r_1 rm) (IntKind.i64.wrap (p6x + 1))
 else
 some 0
def Z50 (n:Nat) (s0:ApiSize) (r_1:ApiRung):Option (Int) :=
 if (decide ((r_1.Contacts.length:Int) > 256)) = true then
 some 10
 else
 Z2X n s0 r_1 n 0
def Z47 (n:Nat) (s0:ApiSize) (r_1:ApiRung):Nat -> Int -> Option (Int)
 | 0,_=>none
 | rm + 1,p6C =>
 if (decide (p6C < (r_1.Coils.length:Int))) = true then
 (atI r_1.Coils p6C).bind fun x6D =>
 if (decide (x6D.Kind < 0)) = true then
 some 8
 else
 if (decide (x6D.Kind > 3)) = true then
 some 8
 else
 (Z3I n s0 x6D.A).bind fun r6E =>
 if (r6E != 0) = true then
 some r6E
 else
 if (x6D.A.Space == 0) = true then
 some 2
 else
 (Z47 n s0 r_1 rm) (IntKind.i64.wrap (p6C + 1))
 else
 some 0
def Z6r (n:Nat) (s0:ApiSize) (r_1:ApiRung):Option (Int) :=
 if (decide ((r_1.Coils.length:Int) > 16)) = true then
 some 10
 else
 Z47 n s0 r_1 n 0
def Z4u (n:Nat) (x6F:ApiRung) (r6G:Int):Option (Int) :=
 if (r6G == 0) = true then
 if (!(decide (x6F.Jump = (⟨#[]⟩:Str)))) = true then
 (Z3y n x6F.Jump).bind fun r6H =>
 if (!r6H) = true then
 some 6
 else
 some r6G
 else
 some r6G
 else
 some r6G
def Z3R (n:Nat) (l0:ApiLadder) (x6F:ApiRung):Option (Int) :=
 (Z50 n (⟨l0.I,l0.Q,l0.M,0⟩:ApiSize) x6F).bind fun r6I =>
 if (r6I == 0) = true then
 (Z6r n (⟨l0.I,l0.Q,l0.M,0⟩:ApiSize) x6F).bind fun r6J =>
 Z4u n x6F r6J
 else
 Z4u n x6F r6I
def Z4v (n:Nat) (l0:ApiLadder) (i_1:Int) (x6F:ApiRung):Nat -> Int -> Option (Int)
 | 0,_=>none
 | rd + 1,p6K =>
 if (decide (p6K < i_1)) = true then
 (atI l0.Rungs p6K).bind fun x6L =>
 if (decide (x6L.Label = x6F.Label)) = true then
 some 9
 else
 (Z4v n l0 i_1 x6F rd) (IntKind.i64.wrap (p6K + 1))
 else
 Z3R n l0 x6F
def Z70 (n:Nat) (l0:ApiLadder) (i_1:Int):Option (Int) :=
 (atI l0.Rungs i_1).bind fun x6F =>
 if (!(decide (x6F.Label = (⟨#[]⟩:Str)))) = true then
 (Z3y n x6F.Label).bind fun r6M =>
 if (!r6M) = true then
 some 6
 else
 Z4v n l0 i_1 x6F n 0
 else
 Z3R n l0 x6F
def Z3K (l0:ApiLadder) (label2:Str):Nat -> Int -> Option (Bool)
 | 0,_=>none
 | rm + 1,p6N =>
 if (decide (p6N < (l0.Rungs.length:Int))) = true then
 (atI l0.Rungs p6N).bind fun x6O =>
 if (decide (x6O.Label = label2)) = true then
 some true
 else
 (Z3K l0 label2 rm) (IntKind.i64.wrap (p6N + 1))
 else
 some false
def Z6Z (n:Nat) (l0:ApiLadder) (at1:Int) (label2:Str):Option (Bool) :=
 Z3K l0 label2 n (IntKind.i64.wrap (at1 + 1))
def Z3d (n:Nat) (aD:ApiLadder):Nat -> Int -> Option (Int × Int)
 | 0,_=>none
 | re + 1,p6P =>
 if (decide (p6P < (aD.Rungs.length:Int))) = true then
 (atI aD.Rungs p6P).bind fun x6Q =>
 if (!(decide (x6Q.Jump = (⟨#[]⟩:Str)))) = true then
 (Z6Z n aD p6P x6Q.Jump).bind fun r6R =>
 if (!r6R) = true then
 some (p6P,15)
 else
 (Z3d n aD re) (IntKind.i64.wrap (p6P + 1))
 else
 (Z3d n aD re) (IntKind.i64.wrap (p6P + 1))
 else
 some ((aD.Rungs.length:Int),0)
def Z6d (n:Nat) (aD:ApiLadder):Option (Int × Int) :=
 Z3d n aD n 0
def Z41 (n:Nat) (aD:ApiLadder):Nat -> Int -> Option (Int × Int)
 | 0,_=>none
 | rd + 1,p6S =>
 if (decide (p6S < (aD.Rungs.length:Int))) = true then
 (Z70 n aD p6S).bind fun r6T =>
 if (r6T != 0) = true then
 some (p6S,r6T)
 else
 (Z41 n aD rd) (IntKind.i64.wrap (p6S + 1))
 else
 Z6d n aD
def Z6v (n:Nat) (aD:ApiLadder):Option (Int × Int) :=
 if (decide (aD.I < 0)) = true then
 some (0,3)
 else
 if (decide (aD.I > 256)) = true then
 some (0,3)
 else
 if (decide (aD.Q < 0)) = true then
 some (0,3)
 else
 if (decide (aD.Q > 256)) = true then
 some (0,3)
 else
 if (decide (aD.M < 0)) = true then
 some (0,3)
 else
 if (decide (aD.M > 256)) = true then
 some (0,3)
 else
 if (decide ((aD.Rungs.length:Int) > 64)) = true then
 some (0,10)
 else
 Z41 n aD n 0
def Z4V (l0:List Str) (s1:Str):Nat -> Int -> Option (Bool)
 | 0,_=>none
 | rm + 1,p6U =>
 if (decide (p6U < (l0.length:Int))) = true then
 (atI l0 p6U).bind fun x6V =>
 if (decide (x6V = s1)) = true then
 some true
 else
 (Z4V l0 s1 rm) (IntKind.i64.wrap (p6U + 1))
 else
 some false
def Z2Z (n:Nat) (l0:List Str) (s1:Str):Option (Bool) :=
 Z4V l0 s1 n 0
def Z45 (n:Nat) (r_0:ApiRung) (p6W:Int) (l6X:(List Str) -> Int -> Option ((List Str))) (l6Y:List Str):Option ((List Str)) :=
 (atI r_0.Contacts p6W).bind fun x6Z =>
 (Z2Z n l6Y x6Z.To).bind fun r70 =>
 if (!r70) = true then
 if l6Y.length + ([x6Z.To]).length <= 1000000000 then
 (some (l6Y ++ ([x6Z.To]))).bind fun l71 =>
 l6X l71 (IntKind.i64.wrap (p6W + 1))
 else none
 else
 l6X l6Y (IntKind.i64.wrap (p6W + 1))
def Z1O (n:Nat) (r_0:ApiRung):Nat -> (List Str) -> Int -> Option ((List Str))
 | 0,_,_=>none
 | rm + 1,l72,p6W =>
 if (decide (p6W < (r_0.Contacts.length:Int))) = true then
 (atI r_0.Contacts p6W).bind fun x73 =>
 (Z2Z n l72 x73.From).bind fun r74 =>
 if (!r74) = true then
 if l72.length + ([x73.From]).length <= 1000000000 then
 (some (l72 ++ ([x73.From]))).bind fun l75 =>
 Z45 n r_0 p6W (Z1O n r_0 rm) l75
 else none
 else
 Z45 n r_0 p6W (Z1O n r_0 rm) l72
 else
 some l72
def Z4J (n:Nat) (r_0:ApiRung):Option ((List Str)) :=
 (some ([(⟨#[76]⟩:Str),(⟨#[82]⟩:Str)])).bind fun l76 =>
 Z1O n r_0 n l76 0
def Z1i (r77:List Str) (p78:List Str) (l79:(List Str) -> Option ((List Str) × Int)) (p7a:Int):Option ((List Str) × Int) :=
 if (decide (p7a < 0)) = true then
 some ([],12)
 else
 (atI r77 p7a).bind fun x7b =>
 if p78.length + ([x7b]).length <= 1000000000 then
 (some (p78 ++ ([x7b]))).bind fun l7c =>
 l79 l7c
 else none
def Z1U (n:Nat) (aD:ApiRung) (r77:List Str) (p78:List Str) (p7d:Int) (p7e:Int) (l7f:Int -> Int -> Option ((List Str) × Int)):Nat -> Bool -> Int -> Option ((List Str) × Int)
 | 0,_,_=>none
 | rE + 1,true38189,p7g =>
 if (decide (p7g < (aD.Contacts.length:Int))) = true then
 (atI aD.Contacts p7g).bind fun x7h =>
 (atI r77 p7d).bind fun x7i =>
 if (decide (x7h.To = x7i)) = true then
 (Z2Z n p78 x7h.From).bind fun r7j =>
 if (!r7j) = true then
 (Z1U n aD r77 p78 p7d p7e l7f rE) false (IntKind.i64.wrap (p7g + 1))
 else
 (Z1U n aD r77 p78 p7d p7e l7f rE) true38189 (IntKind.i64.wrap (p7g + 1))
 else
 (Z1U n aD r77 p78 p7d p7e l7f rE) true38189 (IntKind.i64.wrap (p7g + 1))
 else
 if true38189 = true then
 l7f (IntKind.i64.wrap (p7d + 1)) p7d
 else
 l7f (IntKind.i64.wrap (p7d + 1)) p7e
def ZI (n:Nat) (aD:ApiRung) (r77:List Str) (p78:List Str) (l79:(List Str) -> Option ((List Str) × Int)):Nat -> Int -> Int -> Option ((List Str) × Int)
 | 0,_,_=>none
 | rd + 1,p7d,p7e =>
 if (decide (p7d < (r77.length:Int))) = true then
 if (decide (p7e < 0)) = true then
 (atI r77 p7d).bind fun x7k =>
 (Z2Z n p78 x7k).bind fun r7l =>
 if r7l = true then
 (ZI n aD r77 p78 l79 rd) (IntKind.i64.wrap (p7d + 1)) p7e
 else
 Z1U n aD r77 p78 p7d p7e (ZI n aD r77 p78 l79 rd) n true 0
 else
 Z1i r77 p78 l79 p7e
 else
 Z1i r77 p78 l79 p7e
def Z1f (n:Nat) (aD:ApiRung) (r77:List Str):Nat -> (List Str) -> Option ((List Str) × Int)
 | 0,_=>none
 | rm + 1,p78 =>
 if (decide ((p78.length:Int) < (r77.length:Int))) = true then
 ZI n aD r77 p78 (Z1f n aD r77 rm) n 0 (-1)
 else
 some (p78,0)
def Z67 (n:Nat) (aD:ApiRung):Option ((List Str) × Int) :=
 (Z4J n aD).bind fun r77 =>
 Z1f n aD r77 n ([])
def Z2O (n:Nat) (r7m:List Str) (l7n:List Str):Nat -> (List Str) -> Int -> Option ((List Str))
 | 0,_,_=>none
 | re + 1,p7o,p7p =>
 if (decide (p7p < (r7m.length:Int))) = true then
 (atI r7m p7p).bind fun x7q =>
 (Z2Z n l7n x7q).bind fun r7r =>
 if r7r = true then
 if p7o.length + ([x7q]).length <= 1000000000 then
 (some (p7o ++ ([x7q]))).bind fun l7s =>
 (Z2O n r7m l7n re) l7s (IntKind.i64.wrap (p7p + 1))
 else none
 else
 (Z2O n r7m l7n re) p7o (IntKind.i64.wrap (p7p + 1))
 else
 some p7o
def Z5F (n:Nat) (r7m:List Str) (l7n:List Str):Option ((List Str)) :=
 Z2O n r7m l7n n ([]) 0
def Z3F (n:Nat) (p7t:Int) (l7u:List Str) (l7v:Int -> (List Str) -> Option ((List Str))) (p7w:Str) (p7x:Str):Option ((List Str)) :=
 (Z2Z n l7u p7w).bind fun r7y =>
 if r7y = true then
 (Z2Z n l7u p7x).bind fun r7z =>
 if (!r7z) = true then
 if l7u.length + ([p7x]).length <= 1000000000 then
 (some (l7u ++ ([p7x]))).bind fun l7A =>
 l7v (IntKind.i64.wrap (p7t + 1)) l7A
 else none
 else
 l7v (IntKind.i64.wrap (p7t + 1)) l7u
 else
 l7v (IntKind.i64.wrap (p7t + 1)) l7u
def Z1C (n:Nat) (aD:ApiRung) (a2:Bool) (p7B:Int) (l7C:Int -> (List Str) -> Option ((List Str))):Nat -> Int -> (List Str) -> Option ((List Str))
 | 0,_,_=>none
 | rE + 1,p7t,l7u =>
 if (decide (p7t < (aD.Contacts.length:Int))) = true then
 (atI aD.Contacts p7t).bind fun x7D =>
 if a2 = true then
 Z3F n p7t l7u (Z1C n aD a2 p7B l7C rE) x7D.To x7D.From
 else
 Z3F n p7t l7u (Z1C n aD a2 p7B l7C rE) x7D.From x7D.To
 else
 l7C (IntKind.i64.wrap (p7B + 1)) l7u
def Z1Z (n:Nat) (aD:ApiRung) (a2:Bool) (r7m:List Str):Nat -> Int -> (List Str) -> Option ((List Str))
 | 0,_,_=>none
 | rd + 1,p7B,l7E =>
 if (decide (p7B < (r7m.length:Int))) = true then
 Z1C n aD a2 p7B (Z1Z n aD a2 r7m rd) n 0 l7E
 else
 Z5F n r7m l7E
def Z2q (n:Nat) (aD:ApiRung) (a1:Str) (a2:Bool):Option ((List Str)) :=
 (Z4J n aD).bind fun r7m =>
 (Z2Z n r7m a1).bind fun r7F =>
 if (!r7F) = true then
 some ([])
 else
 (some ([a1])).bind fun l7G =>
 Z1Z n aD a2 r7m n 0 l7G
def Z5J (n:Nat) (r_0:ApiRung) (node1:Str):Option ((List Str)) :=
 (Z2q n r_0 node1 false).bind fun r7H =>
 some r7H
def Z5G (n:Nat) (r_0:ApiRung) (node1:Str):Option ((List Str)) :=
 (Z2q n r_0 node1 true).bind fun r7I =>
 some r7I
def Z4R (l0:List Str) (s1:Str):Nat -> Int -> Option (Bool)
 | 0,_=>none
 | rm + 1,p7J =>
 if (decide (p7J < (l0.length:Int))) = true then
 (atI l0 p7J).bind fun x7K =>
 if (decide (x7K = s1)) = true then
 some true
 else
 (Z4R l0 s1 rm) (IntKind.i64.wrap (p7J + 1))
 else
 some false
def Z6Q (n:Nat) (l0:List Str) (s1:Str):Option (Bool) :=
 Z4R l0 s1 n 0
def Z1o (n:Nat) (r7L:List Str) (r7M:List Str) (r7N:List Str):Nat -> (List Str) -> Int -> Option ((List Str))
 | 0,_,_=>none
 | rm + 1,p7O,p7P =>
 if (decide (p7P < (r7L.length:Int))) = true then
 (atI r7L p7P).bind fun x7Q =>
 (Z6Q n r7M x7Q).bind fun r7R =>
 if (!r7R) = true then
 if p7O.length + ([x7Q]).length <= 1000000000 then
 (some (p7O ++ ([x7Q]))).bind fun l7S =>
 (Z1o n r7L r7M r7N rm) l7S (IntKind.i64.wrap (p7P + 1))
 else none
 else
 (Z6Q n r7N x7Q).bind fun r7T =>
 if (!r7T) = true then
 if p7O.length + ([x7Q]).length <= 1000000000 then
 (some (p7O ++ ([x7Q]))).bind fun l7U =>
 (Z1o n r7L r7M r7N rm) l7U (IntKind.i64.wrap (p7P + 1))
 else none
 else
 (Z1o n r7L r7M r7N rm) p7O (IntKind.i64.wrap (p7P + 1))
 else
 some p7O
def Z5E (n:Nat) (r_0:ApiRung):Option ((List Str)) :=
 (Z4J n r_0).bind fun r7L =>
 (Z5J n r_0 (⟨#[76]⟩:Str)).bind fun r7M =>
 (Z5G n r_0 (⟨#[82]⟩:Str)).bind fun r7N =>
 Z1o n r7L r7M r7N n ([]) 0
def Z6u (n:Nat) (r_0:ApiRung):Option (Int) :=
 if ((r_0.Contacts.length:Int) == 0) = true then
 some 4
 else
 (Z67 n r_0).bind fun ⟨r7V,r7W⟩ =>
 if (r7W != 0) = true then
 some r7W
 else
 (Z5E n r_0).bind fun r7X =>
 if (decide ((r7X.length:Int) > 0)) = true then
 some 13
 else
 some 0
def Z1u (l0:List Ref15Edge) (i_1:Int) (k2:Int):Nat -> (List Ref15Edge) -> Int -> Option ((List Ref15Edge))
 | 0,_,_=>none
 | rm + 1,p7Y,p7Z =>
 if (decide (p7Z < (l0.length:Int))) = true then
 if (p7Z != i_1) = true then
 if (p7Z != k2) = true then
 (atI l0 p7Z).bind fun x80 =>
 if p7Y.length + ([x80]).length <= 1000000000 then
 (some (p7Y ++ ([x80]))).bind fun l81 =>
 (Z1u l0 i_1 k2 rm) l81 (IntKind.i64.wrap (p7Z + 1))
 else none
 else
 (Z1u l0 i_1 k2 rm) p7Y (IntKind.i64.wrap (p7Z + 1))
 else
 (Z1u l0 i_1 k2 rm) p7Y (IntKind.i64.wrap (p7Z + 1))
 else
 some p7Y
def Z3h (n:Nat) (l0:List Ref15Edge) (i_1:Int) (k2:Int):Option ((List Ref15Edge)) :=
 Z1u l0 i_1 k2 n ([]) 0
def Z3O (t0:Ref14Tree) (s82:Ref14Tree -> Option ((List Int))):Nat -> (List Int) -> Int -> Option ((List Int))
 | 0,_,_=>none
 | re + 1,p83,p84 =>
 if (decide (p84 < (t0.Kids.length:Int))) = true then
 (atI t0.Kids p84).bind fun x85 =>
 (s82 x85).bind fun r86 =>
 if p83.length + r86.length <= 1000000000 then
 (some (p83 ++ r86)).bind fun l87 =>
 (Z3O t0 s82 re) l87 (IntKind.i64.wrap (p84 + 1))
 else none
 else
 some p83
def Z4z (n:Nat) (t0:Ref14Tree) (s82:Ref14Tree -> Option ((List Int))):Option ((List Int)) :=
 Z3O t0 s82 n ([]) 0
def Z26:Nat -> Ref14Tree -> Option ((List Int))
 | 0,_=>none
 | n + 1,t0 =>
 if (t0.Kind == 0) = true then
 (some ([t0.N])).bind fun l88 =>
 some l88
 else
 if (t0.Kind != 1) = true then
 if (t0.Kind != 2) = true then
 some ([])
 else
 Z4z n t0 (Z26 n)
 else
 Z4z n t0 (Z26 n)
def Z3b (r89:List Int):Nat -> Int -> Int -> Option (Int)
 | 0,_,_=>none
 | rm + 1,p8a,x8b =>
 if (decide (p8a < (r89.length:Int))) = true then
 (atI r89 p8a).bind fun x8c =>
 if (decide (x8c < x8b)) = true then
 (Z3b r89 rm) (IntKind.i64.wrap (p8a + 1)) x8c
 else
 (Z3b r89 rm) (IntKind.i64.wrap (p8a + 1)) x8b
 else
 some x8b
def Z5y (n:Nat) (t0:Ref14Tree):Option (Int) :=
 (Z26 n t0).bind fun r89 =>
 (atI r89 0).bind fun x8d =>
 Z3b r89 n 0 x8d
def Z4p (p8e:List Ref14Tree) (p8f:List Ref14Tree) (p8g:Int) (l8h:(List Ref14Tree) -> Int -> Option (Ref14Tree)) (p8i:Int):Option (Ref14Tree) :=
 if 0 <= 0 /\ 0 <= p8i /\ p8i <= (p8f.length:Int) then
 if (p8f.take p8i.toNat).length <= 1000000000 then
 (some (p8f.take p8i.toNat)).bind fun l8j =>
 (atI p8e p8g).bind fun x8k =>
 if l8j.length + ([x8k]).length <= 1000000000 then
 (some (l8j ++ ([x8k]))).bind fun l8l =>
 if 0 <= p8i /\ p8i <= (p8f.length:Int) /\ (p8f.length:Int) <= (p8f.length:Int) then
 if l8l.length + (p8f.drop p8i.toNat).length <= 1000000000 then
 (some (l8l ++ (p8f.drop p8i.toNat))).bind fun l8m =>
 l8h l8m (IntKind.i64.wrap (p8g + 1))
 else none
 else none
 else none
 else none
 else none
def Z4r (n:Nat) (p8e:List Ref14Tree) (p8f:List Ref14Tree) (p8g:Int) (l8h:(List Ref14Tree) -> Int -> Option (Ref14Tree)):Nat -> Int -> Option (Ref14Tree)
 | 0,_=>none
 | rE + 1,p8n =>
 if (decide (p8n < (p8f.length:Int))) = true then
 (atI p8f p8n).bind fun x8o =>
 (Z5y n x8o).bind fun r8p =>
 (atI p8e p8g).bind fun x8q =>
 (Z5y n x8q).bind fun r8r =>
 if (decide (r8p < r8r)) = true then
 (Z4r n p8e p8f p8g l8h rE) (IntKind.i64.wrap (p8n + 1))
 else
 Z4p p8e p8f p8g l8h p8n
 else
 Z4p p8e p8f p8g l8h p8n
def Z31 (n:Nat) (p8e:List Ref14Tree):Nat -> (List Ref14Tree) -> Int -> Option (Ref14Tree)
 | 0,_,_=>none
 | re + 1,p8f,p8g =>
 if (decide (p8g < (p8e.length:Int))) = true then
 Z4r n p8e p8f p8g (Z31 n p8e re) n 0
 else
 some (⟨2,0,p8f⟩:Ref14Tree)
def Z4t (n:Nat) (aD:Int) (p8e:List Ref14Tree):Option (Ref14Tree) :=
 if (aD == 1) = true then
 some (⟨1,0,p8e⟩:Ref14Tree)
 else
 Z31 n p8e n ([]) 0
def Z3S (n:Nat) (aD:Int) (l8s:List Ref14Tree):Nat -> (List Ref14Tree) -> Int -> Option (Ref14Tree)
 | 0,_,_=>none
 | rI + 1,p8t,p8u =>
 if (decide (p8u < 2)) = true then
 (atI l8s p8u).bind fun x8v =>
 if (x8v.Kind == aD) = true then
 if p8t.length + x8v.Kids.length <= 1000000000 then
 (some (p8t ++ x8v.Kids)).bind fun l8w =>
 (Z3S n aD l8s rI) l8w (IntKind.i64.wrap (p8u + 1))
 else none
 else
 if p8t.length + ([x8v]).length <= 1000000000 then
 (some (p8t ++ ([x8v]))).bind fun l8x =>
 (Z3S n aD l8s rI) l8x (IntKind.i64.wrap (p8u + 1))
 else none
 else
 Z4t n aD p8t
def Z3n (n:Nat) (aD:Int) (a1:Ref14Tree) (a2:Ref14Tree):Option (Ref14Tree) :=
 (some ([a1,a2])).bind fun l8s =>
 Z3S n aD l8s n ([]) 0
def Z4q (l0:List Ref15Edge) (node1:Str) (p8y:Int) (p8z:Int) (l8A:Int -> Int -> Int -> Option (Int × Int)) (p8B:Int):Option (Int × Int) :=
 (atI l0 p8z).bind fun x8C =>
 if (decide (x8C.From = node1)) = true then
 l8A p8B (IntKind.i64.wrap (p8y + 1)) (IntKind.i64.wrap (p8z + 1))
 else
 l8A p8B p8y (IntKind.i64.wrap (p8z + 1))
def Z2v (l0:List Ref15Edge) (node1:Str):Nat -> Int -> Int -> Int -> Option (Int × Int)
 | 0,_,_,_=>none
 | rm + 1,p8D,p8y,p8z =>
 if (decide (p8z < (l0.length:Int))) = true then
 (atI l0 p8z).bind fun x8E =>
 if (decide (x8E.To = node1)) = true then
 Z4q l0 node1 p8y p8z (Z2v l0 node1 rm) (IntKind.i64.wrap (p8D + 1))
 else
 Z4q l0 node1 p8y p8z (Z2v l0 node1 rm) p8D
 else
 some (p8D,p8y)
def Z6R (n:Nat) (l0:List Ref15Edge) (node1:Str):Option (Int × Int) :=
 Z2v l0 node1 n 0 0 0
def Z29 (n:Nat) (aD:List Ref15Edge) (p8F:Int) (p8G:Int) (l8H:Int -> Option ((List Ref15Edge) × Bool)):Option ((List Ref15Edge) × Bool) :=
 if (p8G == p8F) = true then
 l8H (IntKind.i64.wrap (p8G + 1))
 else
 (atI aD p8F).bind fun x8I =>
 (atI aD p8G).bind fun x8J =>
 if (!(decide (x8I.To = x8J.From))) = true then
 l8H (IntKind.i64.wrap (p8G + 1))
 else
 if (decide (x8I.To = (⟨#[76]⟩:Str))) = true then
 l8H (IntKind.i64.wrap (p8G + 1))
 else
 if (decide (x8I.To = (⟨#[82]⟩:Str))) = true then
 l8H (IntKind.i64.wrap (p8G + 1))
 else
 (Z6R n aD x8I.To).bind fun ⟨r8K,r8L⟩ =>
 if (r8K == 1) = true then
 if (r8L == 1) = true then
 (Z3h n aD p8F p8G).bind fun r8M =>
 (Z3n n 1 x8I.T x8J.T).bind fun r8N =>
 if r8M.length + ([(⟨x8I.From,x8J.To,r8N⟩:Ref15Edge)]).length <= 1000000000 then
 (some (r8M ++ ([(⟨x8I.From,x8J.To,r8N⟩:Ref15Edge)]))).bind fun l8O =>
 some (l8O,true)
 else none
 else
 l8H (IntKind.i64.wrap (p8G + 1))
 else
 l8H (IntKind.i64.wrap (p8G + 1))
def Z1m (n:Nat) (aD:List Ref15Edge) (p8F:Int) (l8P:Int -> Option ((List Ref15Edge) × Bool)):Nat -> Int -> Option ((List Ref15Edge) × Bool)
 | 0,_=>none
 | re + 1,p8G =>
 if (decide (p8G < (aD.length:Int))) = true then
 if (decide (p8G > p8F)) = true then
 (atI aD p8F).bind fun x8Q =>
 (atI aD p8G).bind fun x8R =>
 if (decide (x8Q.From = x8R.From)) = true then
 if (decide (x8Q.To = x8R.To)) = true then
 (Z3h n aD p8F p8G).bind fun r8S =>
 (Z3n n 2 x8Q.T x8R.T).bind fun r8T =>
 if r8S.length + ([(⟨x8Q.From,x8Q.To,r8T⟩:Ref15Edge)]).length <= 1000000000 then
 (some (r8S ++ ([(⟨x8Q.From,x8Q.To,r8T⟩:Ref15Edge)]))).bind fun l8U =>
 some (l8U,true)
 else none
 else
 Z29 n aD p8F p8G (Z1m n aD p8F l8P re)
 else
 Z29 n aD p8F p8G (Z1m n aD p8F l8P re)
 else
 Z29 n aD p8F p8G (Z1m n aD p8F l8P re)
 else
 l8P (IntKind.i64.wrap (p8F + 1))
def Z28 (n:Nat) (aD:List Ref15Edge):Nat -> Int -> Option ((List Ref15Edge) × Bool)
 | 0,_=>none
 | rm + 1,p8F =>
 if (decide (p8F < (aD.length:Int))) = true then
 Z1m n aD p8F (Z28 n aD rm) n 0
 else
 some (aD,false)
def Z69 (n:Nat) (aD:List Ref15Edge):Option ((List Ref15Edge) × Bool) :=
 Z28 n aD n 0
def Z2L (p8V:List Ref15Edge):Option (Ref14Tree × Int) :=
 if ((p8V.length:Int) != 1) = true then
 some ((⟨0,0,[]⟩:Ref14Tree),14)
 else
 (atI p8V 0).bind fun x8W =>
 if (!(decide (x8W.From = (⟨#[76]⟩:Str)))) = true then
 some ((⟨0,0,[]⟩:Ref14Tree),14)
 else
 if (!(decide (x8W.To = (⟨#[82]⟩:Str)))) = true then
 some ((⟨0,0,[]⟩:Ref14Tree),14)
 else
 some (x8W.T,0)
def Z2R (n:Nat):Nat -> (List Ref15Edge) -> Option (Ref14Tree × Int)
 | 0,_=>none
 | rd + 1,p8X =>
 (Z69 n p8X).bind fun ⟨r8Y,r8Z⟩ =>
 if (!r8Z) = true then
 Z2L p8X
 else
 (Z2R n rd) r8Y
def Z5I (n:Nat) (p90:List Ref15Edge):Option (Ref14Tree × Int) :=
 Z2R n n p90
def Z3G (n:Nat) (aD:ApiRung):Nat -> (List Ref15Edge) -> Int -> Option (Ref14Tree × Int)
 | 0,_,_=>none
 | rE + 1,p91,p92 =>
 if (decide (p92 < (aD.Contacts.length:Int))) = true then
 (atI aD.Contacts p92).bind fun x93 =>
 if p91.length + ([(⟨x93.From,x93.To,(⟨0,p92,([]:List Ref14Tree)⟩:Ref14Tree)⟩:Ref15Edge)]).length <= 1000000000 then
 (some (p91 ++ ([(⟨x93.From,x93.To,(⟨0,p92,([]:List Ref14Tree)⟩:Ref14Tree)⟩:Ref15Edge)]))).bind fun l94 =>
 (Z3G n aD rE) l94 (IntKind.i64.wrap (p92 + 1))
 else none
 else
 Z5I n p91
def Z3v (n:Nat) (aD:ApiRung):Option (Ref14Tree × Int) :=
 (Z6u n aD).bind fun r95 =>
 if (r95 != 0) = true then
 some ((⟨0,0,[]⟩:Ref14Tree),r95)
 else
 Z3G n aD n ([]) 0
def Z48 (r_0:ApiRung):Nat -> (List Bool) -> Int -> Option ((List Bool))
 | 0,_,_=>none
 | rm + 1,p96,p97 =>
 if (decide (p97 < (r_0.Contacts.length:Int))) = true then
 (atI r_0.Contacts p97).bind fun x98 =>
 if p96.length + ([(decide (x98.Kind >= 2))]).length <= 1000000000 then
 (some (p96 ++ ([(decide (x98.Kind >= 2))]))).bind fun l99 =>
 (Z48 r_0 rm) l99 (IntKind.i64.wrap (p97 + 1))
 else none
 else
 some p96
def Z6q (n:Nat) (r_0:ApiRung):Option ((List Bool)) :=
 Z48 r_0 n ([]) 0
def Z2o (edge1:List Bool) (p9a:Int) (r9b:Int) (l9c:Int -> Int -> Option (Int)) (x9d:Ref14Tree) (s9e:Ref14Tree -> (List Bool) -> Option (Int)):Option (Int) :=
 (s9e x9d edge1).bind fun r9f =>
 if (decide ((IntKind.i64.wrap (1 + r9f)) > r9b)) = true then
 l9c (IntKind.i64.wrap (p9a + 1)) (IntKind.i64.wrap (1 + r9f))
 else
 l9c (IntKind.i64.wrap (p9a + 1)) r9b
def Z13 (t0:Ref14Tree) (edge1:List Bool) (s9e:Ref14Tree -> (List Bool) -> Option (Int)):Nat -> Int -> Int -> Option (Int)
 | 0,_,_=>none
 | rm + 1,p9a,r9b =>
 if (decide (p9a < (t0.Kids.length:Int))) = true then
 (atI t0.Kids p9a).bind fun x9d =>
 if (x9d.Kind == 0) = true then
 (atI edge1 x9d.N).bind fun x9g =>
 if (!x9g) = true then
 (Z13 t0 edge1 s9e rm) (IntKind.i64.wrap (p9a + 1)) r9b
 else
 Z2o edge1 p9a r9b (Z13 t0 edge1 s9e rm) x9d s9e
 else
 Z2o edge1 p9a r9b (Z13 t0 edge1 s9e rm) x9d s9e
 else
 some r9b
def ZS:Nat -> Ref14Tree -> (List Bool) -> Option (Int)
 | 0,_,_=>none
 | n + 1,t0,edge1 =>
 if (t0.Kind == 0) = true then
 some 0
 else
 (atI t0.Kids 0).bind fun x9h =>
 ((ZS n) x9h edge1).bind fun r9i =>
 Z13 t0 edge1 (ZS n) n 1 r9i
def Z2M (r_0:ApiRung) (i_1:Int):Nat -> Int -> Int -> Option (Int)
 | 0,_,_=>none
 | rm + 1,slot40894,p9j =>
 if (decide (p9j < i_1)) = true then
 (atI r_0.Contacts p9j).bind fun x9k =>
 if (decide (x9k.Kind >= 2)) = true then
 (Z2M r_0 i_1 rm) (IntKind.i64.wrap (slot40894 + 1)) (IntKind.i64.wrap (p9j + 1))
 else
 (Z2M r_0 i_1 rm) slot40894 (IntKind.i64.wrap (p9j + 1))
 else
 some slot40894
def Z7c (n:Nat) (r_0:ApiRung) (i_1:Int) (slot2:Int):Option (Int) :=
 Z2M r_0 i_1 n slot2 0
def Z61 (n:Nat) (r_0:ApiRung) (i_1:Int) (slot2:Int):Option (ApiIns) :=
 (atI r_0.Contacts i_1).bind fun x9l =>
 if (decide (x9l.Kind < 2)) = true then
 some (⟨x9l.Kind,x9l.A,0⟩:ApiIns)
 else
 (Z7c n r_0 i_1 slot2).bind fun r9m =>
 some (⟨(IntKind.i64.wrap (4 + x9l.Kind)),x9l.A,r9m⟩:ApiIns)
def Z3H (aD:ApiRung) (a1:Ref14Tree) (a2:Int) (r9n:List ApiIns) (p9o:Int) (l9p:(List ApiIns) -> Int -> Option ((List ApiIns))) (x9q:Ref14Tree) (s9r:ApiRung -> Ref14Tree -> Int -> Option ((List ApiIns))):Option ((List ApiIns)) :=
 if r9n.length + ([(⟨8,(⟨0,0⟩:ApiAddr),0⟩:ApiIns)]).length <= 1000000000 then
 (some (r9n ++ ([(⟨8,(⟨0,0⟩:ApiAddr),0⟩:ApiIns)]))).bind fun l9s =>
 (s9r aD x9q a2).bind fun r9t =>
 if l9s.length + r9t.length <= 1000000000 then
 (some (l9s ++ r9t)).bind fun l9u =>
 if l9u.length + ([(⟨(IntKind.i64.wrap (8 + a1.Kind)),(⟨0,0⟩:ApiAddr),0⟩:ApiIns)]).length <= 1000000000 then
 (some (l9u ++ ([(⟨(IntKind.i64.wrap (8 + a1.Kind)),(⟨0,0⟩:ApiAddr),0⟩:ApiIns)]))).bind fun l9v =>
 l9p l9v (IntKind.i64.wrap (p9o + 1))
 else none
 else none
 else none
def Z1B (aD:ApiRung) (a1:Ref14Tree) (a2:Int) (s9r:ApiRung -> Ref14Tree -> Int -> Option ((List ApiIns))):Nat -> (List ApiIns) -> Int -> Option ((List ApiIns))
 | 0,_,_=>none
 | rm + 1,r9n,p9o =>
 if (decide (p9o < (a1.Kids.length:Int))) = true then
 (atI a1.Kids p9o).bind fun x9q =>
 if (x9q.Kind == 0) = true then
 (atI aD.Contacts x9q.N).bind fun x9w =>
 if (decide (x9w.Kind < 2)) = true then
 if r9n.length + ([(⟨(IntKind.i64.wrap ((IntKind.i64.wrap (2 * a1.Kind)) + x9w.Kind)),x9w.A,0⟩:ApiIns)]).length <= 1000000000 then
 (some (r9n ++ ([(⟨(IntKind.i64.wrap ((IntKind.i64.wrap (2 * a1.Kind)) + x9w.Kind)),x9w.A,0⟩:ApiIns)]))).bind fun l9x =>
 (Z1B aD a1 a2 s9r rm) l9x (IntKind.i64.wrap (p9o + 1))
 else none
 else
 Z3H aD a1 a2 r9n p9o (Z1B aD a1 a2 s9r rm) x9q s9r
 else
 Z3H aD a1 a2 r9n p9o (Z1B aD a1 a2 s9r rm) x9q s9r
 else
 some r9n
def Z4h (s9r:ApiRung -> Ref14Tree -> Int -> Option ((List ApiIns))):Nat -> ApiRung -> Ref14Tree -> Int -> Option ((List ApiIns))
 | 0,_,_,_=>none
 | n + 1,aD,a1,a2 =>
 if (a1.Kind == 0) = true then
 (Z61 n aD a1.N a2).bind fun r9y =>
 (some ([r9y])).bind fun l9z =>
 some l9z
 else
 (atI a1.Kids 0).bind fun x9A =>
 ((Z4h s9r n) aD x9A a2).bind fun r9B =>
 Z1B aD a1 a2 s9r n r9B 1
def Z4U (aD:ApiRung) (a1:Ref14Tree) (a2:Int) (r9C:List ApiIns) (p9D:Int) (l9E:(List ApiIns) -> Int -> Option ((List ApiIns))) (x9F:Ref14Tree) (s9r:ApiRung -> Ref14Tree -> Int -> Option ((List ApiIns))):Option ((List ApiIns)) :=
 if r9C.length + ([(⟨8,(⟨0,0⟩:ApiAddr),0⟩:ApiIns)]).length <= 1000000000 then
 (some (r9C ++ ([(⟨8,(⟨0,0⟩:ApiAddr),0⟩:ApiIns)]))).bind fun l9G =>
 (s9r aD x9F a2).bind fun r9H =>
 if l9G.length + r9H.length <= 1000000000 then
 (some (l9G ++ r9H)).bind fun l9I =>
 if l9I.length + ([(⟨(IntKind.i64.wrap (8 + a1.Kind)),(⟨0,0⟩:ApiAddr),0⟩:ApiIns)]).length <= 1000000000 then
 (some (l9I ++ ([(⟨(IntKind.i64.wrap (8 + a1.Kind)),(⟨0,0⟩:ApiAddr),0⟩:ApiIns)]))).bind fun l9J =>
 l9E l9J (IntKind.i64.wrap (p9D + 1))
 else none
 else none
 else none
def Z2s (aD:ApiRung) (a1:Ref14Tree) (a2:Int) (s9r:ApiRung -> Ref14Tree -> Int -> Option ((List ApiIns))):Nat -> (List ApiIns) -> Int -> Option ((List ApiIns))
 | 0,_,_=>none
 | rm + 1,r9C,p9D =>
 if (decide (p9D < (a1.Kids.length:Int))) = true then
 (atI a1.Kids p9D).bind fun x9F =>
 if (x9F.Kind == 0) = true then
 (atI aD.Contacts x9F.N).bind fun x9K =>
 if (decide (x9K.Kind < 2)) = true then
 if r9C.length + ([(⟨(IntKind.i64.wrap ((IntKind.i64.wrap (2 * a1.Kind)) + x9K.Kind)),x9K.A,0⟩:ApiIns)]).length <= 1000000000 then
 (some (r9C ++ ([(⟨(IntKind.i64.wrap ((IntKind.i64.wrap (2 * a1.Kind)) + x9K.Kind)),x9K.A,0⟩:ApiIns)]))).bind fun l9L =>
 (Z2s aD a1 a2 s9r rm) l9L (IntKind.i64.wrap (p9D + 1))
 else none
 else
 Z4U aD a1 a2 r9C p9D (Z2s aD a1 a2 s9r rm) x9F s9r
 else
 Z4U aD a1 a2 r9C p9D (Z2s aD a1 a2 s9r rm) x9F s9r
 else
 some r9C
def Z2C:Nat -> ApiRung -> Ref14Tree -> Int -> Option ((List ApiIns))
 | 0,_,_,_=>none
 | n + 1,aD,a1,a2 =>
 if (a1.Kind == 0) = true then
 (Z61 n aD a1.N a2).bind fun r9M =>
 (some ([r9M])).bind fun l9N =>
 some l9N
 else
 (atI a1.Kids 0).bind fun x9O =>
 (Z4h (Z2C n) n aD x9O a2).bind fun r9P =>
 Z2s aD a1 a2 (Z2C n) n r9P 1
def Z1F (r_0:ApiRung):Nat -> Int -> Int -> Option (Int)
 | 0,_,_=>none
 | rm + 1,p9Q,p9R =>
 if (decide (p9R < (r_0.Contacts.length:Int))) = true then
 (atI r_0.Contacts p9R).bind fun x9S =>
 if (x9S.Kind == 2) = true then
 (Z1F r_0 rm) (IntKind.i64.wrap (p9Q + 1)) (IntKind.i64.wrap (p9R + 1))
 else
 if (x9S.Kind == 3) = true then
 (Z1F r_0 rm) (IntKind.i64.wrap (p9Q + 1)) (IntKind.i64.wrap (p9R + 1))
 else
 (Z1F r_0 rm) p9Q (IntKind.i64.wrap (p9R + 1))
 else
 some p9Q
def Z4F (n:Nat) (r_0:ApiRung):Option (Int) :=
 Z1F r_0 n 0 0
def Z44 (r_0:ApiRung):Nat -> (List ApiIns) -> Int -> Option ((List ApiIns) × Int)
 | 0,_,_=>none
 | rm + 1,p9T,p9U =>
 if (decide (p9U < (r_0.Coils.length:Int))) = true then
 (atI r_0.Coils p9U).bind fun x9V =>
 if (decide (x9V.Kind < 0)) = true then
 some ([],8)
 else
 if (decide (x9V.Kind > 3)) = true then
 some ([],8)
 else
 if p9T.length + ([(⟨(IntKind.i64.wrap (11 + x9V.Kind)),x9V.A,0⟩:ApiIns)]).length <= 1000000000 then
 (some (p9T ++ ([(⟨(IntKind.i64.wrap (11 + x9V.Kind)),x9V.A,0⟩:ApiIns)]))).bind fun l9W =>
 (Z44 r_0 rm) l9W (IntKind.i64.wrap (p9U + 1))
 else none
 else
 some (p9T,0)
def Z7G (n:Nat) (r_0:ApiRung):Option ((List ApiIns) × Int) :=
 Z44 r_0 n ([]) 0
def Z3t (aD:ApiLadder) (p9X:List Int) (l9Y:List Int) (p9Z:Int) (la0:Int -> (List ApiIns) -> Option (ApiProgram × (List Int) × Int × Int)):Nat -> Int -> (List ApiIns) -> Option (ApiProgram × (List Int) × Int × Int)
 | 0,_,_=>none
 | rd + 1,pa1,la2 =>
 if (decide (pa1 < (aD.Rungs.length:Int))) = true then
 (atI aD.Rungs p9Z).bind fun xa3 =>
 if (!(decide (xa3.Jump = (⟨#[]⟩:Str)))) = true then
 (atI aD.Rungs pa1).bind fun xa4 =>
 if (decide (xa4.Label = xa3.Jump)) = true then
 (atI p9X p9Z).bind fun xa5 =>
 (atI l9Y pa1).bind fun xa6 =>
 (atI la2 xa5).bind fun xa7 =>
 (some (la2.set xa5.toNat (⟨xa7.Op,xa7.A,xa6⟩:ApiIns))).bind fun la8 =>
 (Z3t aD p9X l9Y p9Z la0 rd) (IntKind.i64.wrap (pa1 + 1)) la8
 else
 (Z3t aD p9X l9Y p9Z la0 rd) (IntKind.i64.wrap (pa1 + 1)) la2
 else
 (Z3t aD p9X l9Y p9Z la0 rd) (IntKind.i64.wrap (pa1 + 1)) la2
 else
 la0 (IntKind.i64.wrap (p9Z + 1)) la2
def Z4k (n:Nat) (aD:ApiLadder) (p9X:List Int) (pa9:Int) (l9Y:List Int):Nat -> Int -> (List ApiIns) -> Option (ApiProgram × (List Int) × Int × Int)
 | 0,_,_=>none
 | re + 1,p9Z,laa =>
 if (decide (p9Z < (aD.Rungs.length:Int))) = true then
 Z3t aD p9X l9Y p9Z (Z4k n aD p9X pa9 l9Y re) n 0 laa
 else
 some ((⟨(⟨aD.I,aD.Q,aD.M,pa9⟩:ApiSize),laa⟩:ApiProgram),l9Y,(aD.Rungs.length:Int),0)
def Z5N (n:Nat) (aD:ApiLadder) (p9X:List Int) (pa9:Int) (pab:List ApiIns) (pac:List Int):Option (ApiProgram × (List Int) × Int × Int) :=
 if pac.length + ([(pab.length:Int)]).length <= 1000000000 then
 (some (pac ++ ([(pab.length:Int)]))).bind fun l9Y =>
 if pab.length + ([(⟨16,(⟨0,0⟩:ApiAddr),0⟩:ApiIns)]).length <= 1000000000 then
 (some (pab ++ ([(⟨16,(⟨0,0⟩:ApiAddr),0⟩:ApiIns)]))).bind fun lad =>
 Z4k n aD p9X pa9 l9Y n 0 lad
 else none
 else none
def Z2I (n:Nat) (pae:List Int) (paf:Int) (pag:Int) (pah:List ApiIns) (pai:List Int) (laj:(List Int) -> Int -> Int -> (List ApiIns) -> (List Int) -> Option (ApiProgram × (List Int) × Int × Int)) (xak:ApiRung) (ral:Ref14Tree) (pam:Int):Option (ApiProgram × (List Int) × Int × Int) :=
 if (pam != 0) = true then
 some ((⟨(⟨0,0,0,0⟩:ApiSize),[]⟩:ApiProgram),[],paf,pam)
 else
 if pai.length + ([(pah.length:Int)]).length <= 1000000000 then
 (some (pai ++ ([(pah.length:Int)]))).bind fun lan =>
 (Z2C n xak ral pag).bind fun rao =>
 if pah.length + rao.length <= 1000000000 then
 (some (pah ++ rao)).bind fun lap =>
 (Z4F n xak).bind fun raq =>
 (Z7G n xak).bind fun ⟨rar,ras⟩ =>
 if lap.length + rar.length <= 1000000000 then
 (some (lap ++ rar)).bind fun lat =>
 if pae.length + ([(lat.length:Int)]).length <= 1000000000 then
 (some (pae ++ ([(lat.length:Int)]))).bind fun lau =>
 if (!(decide (xak.Jump = (⟨#[]⟩:Str)))) = true then
 if lat.length + ([(⟨15,(⟨0,0⟩:ApiAddr),0⟩:ApiIns)]).length <= 1000000000 then
 (some (lat ++ ([(⟨15,(⟨0,0⟩:ApiAddr),0⟩:ApiIns)]))).bind fun lav =>
 laj lau (IntKind.i64.wrap (paf + 1)) (IntKind.i64.wrap (pag + raq)) lav lan
 else none
 else
 laj lau (IntKind.i64.wrap (paf + 1)) (IntKind.i64.wrap (pag + raq)) lat lan
 else none
 else none
 else none
 else none
def Z1q (n:Nat) (aD:ApiLadder):Nat -> (List Int) -> Int -> Int -> (List ApiIns) -> (List Int) -> Option (ApiProgram × (List Int) × Int × Int)
 | 0,_,_,_,_,_=>none
 | rE + 1,pae,paf,pag,pah,pai =>
 if (decide (paf < (aD.Rungs.length:Int))) = true then
 (atI aD.Rungs paf).bind fun xak =>
 (Z3v n xak).bind fun ⟨ral,rax⟩ =>
 if (rax == 0) = true then
 (Z6q n xak).bind fun ray =>
 (ZS n ral ray).bind fun raz =>
 if (decide (raz > 64)) = true then
 Z2I n pae paf pag pah pai (Z1q n aD rE) xak ral 16
 else
 Z2I n pae paf pag pah pai (Z1q n aD rE) xak ral rax
 else
 Z2I n pae paf pag pah pai (Z1q n aD rE) xak ral rax
 else
 Z5N n aD pae pag pah pai
def Z55 (n:Nat) (aD:ApiLadder):Option (ApiProgram × (List Int) × Int × Int) :=
 (Z6v n aD).bind fun ⟨raA,raB⟩ =>
 if (raB != 0) = true then
 some ((⟨(⟨0,0,0,0⟩:ApiSize),[]⟩:ApiProgram),[],raA,raB)
 else
 Z1q n aD n ([]) 0 0 ([]) ([])
def Z6V (n:Nat) (l0:ApiLadder):Option (ApiProgram × Int × Int) :=
 (Z55 n l0).bind fun ⟨raC,raD,raE,raF⟩ =>
 some (raC,raE,raF)
def Z65 (n:Nat) (l0:ApiLadder):Option ((List Int) × Int) :=
 (Z2u n l0).bind fun ⟨raG,raH,raI,raJ⟩ =>
 some (raH,raJ)
def Z7k (n:Nat) (l0:ApiLadder):Option ((List Int) × Int) :=
 (Z55 n l0).bind fun ⟨raK,raL,raM,raN⟩ =>
 some (raL,raN)
def Z42 (a0:ApiProgram) (b1:ApiProgram):Nat -> Int -> Option (Bool)
 | 0,_=>none
 | rm + 1,paO =>
 if (decide (paO < (a0.Code.length:Int))) = true then
 (atI a0.Code paO).bind fun xaP =>
 (atI b1.Code paO).bind fun xaQ =>
 if (!((xaP.Op == xaQ.Op) && ((xaP.A.Space == xaQ.A.Space) && ((xaP.A.N == xaQ.A.N) && (xaP.N == xaQ.N))))) = true then
 some false
 else
 (Z42 a0 b1 rm) (IntKind.i64.wrap (paO + 1))
 else
 some true
def Z6w (n:Nat) (a0:ApiProgram) (b1:ApiProgram):Option (Bool) :=
 if (!((a0.Size.I == b1.Size.I) && ((a0.Size.Q == b1.Size.Q) && ((a0.Size.M == b1.Size.M) && (a0.Size.E == b1.Size.E))))) = true then
 some false
 else
 if ((a0.Code.length:Int) != (b1.Code.length:Int)) = true then
 some false
 else
 Z42 a0 b1 n 0
def Z2k (s10:List Int) (s21:List Int):Nat -> Int -> Option (Bool)
 | 0,_=>none
 | rm + 1,paR =>
 if (decide (paR < (s10.length:Int))) = true then
 (atI s10 paR).bind fun xaS =>
 (atI s21 paR).bind fun xaT =>
 if (xaS != xaT) = true then
 some false
 else
 (Z2k s10 s21 rm) (IntKind.i64.wrap (paR + 1))
 else
 some true
def Z4d (n:Nat) (s10:List Int) (s21:List Int):Option (Bool) :=
 if ((s10.length:Int) != (s21.length:Int)) = true then
 some false
 else
 Z2k s10 s21 n 0
def Z10 (n:Nat) (aD:ApiLadder):Option (Bool) :=
 (Z6e n aD).bind fun raU =>
 if (decide (raU > 0)) = true then
 (Z5v n ).bind fun raV =>
 some raV
 else
 (Z51 n aD).bind fun ⟨raW,raX,raY⟩ =>
 (Z6V n aD).bind fun ⟨raZ,rb0,rb1⟩ =>
 (Z65 n aD).bind fun ⟨rb2,rb3⟩ =>
 (Z7k n aD).bind fun ⟨rb4,rb5⟩ =>
 (Z5v n ).bind fun rb6 =>
 if rb6 = true then
 (Z6w n raW raZ).bind fun rb7 =>
 if rb7 = true then
 if (raX == rb0) = true then
 if (raY == rb1) = true then
 (Z4d n rb2 rb4).bind fun rb8 =>
 if rb8 = true then
 some (rb3 == rb5)
 else
 some false
 else
 some false
 else
 some false
 else
 some false
 else
 some false
end
end Go.G
