/-
  Own work, part of the proof of CoheLess: the code of the functions that the law reaches, as the machine has it; read off the program as the text is compiled.
-/
import Derived.Test.YtpcpldaangchaaaGreatDoorCoB
import Derived.Test.YtpcpldaangchaaaGreatDoorCoC
import Derived.Test.YtpcpldaangchaaaGreatDoorCoD
import Derived.Test.YtpcpldaangchaaaGreatDoorCoE
set_option maxRecDepth 4000
set_option linter.unusedVariables false
set_option linter.unusedSimpArgs false
set_option linter.unusedSectionVars false
set_option linter.unnecessarySimpa false
set_option maxRecDepth 100000
namespace Go.AM
open Go Go.Proofs
def VS : Nat → Nat := fun d => if d = 5 then 1 else 0
def Ac1 : Nat → Nat := fun d => if d = 1 then 1 else if d = 3 then 1 else if d = 4 then 1 else if d = 5 then 1 else if d = 6 then 1 else if d = 17 then 2 else 0
def A2z : Nat → Nat := fun d => if d = 2 then 1 else if d = 4 then 1 else if d = 8 then 2 else if d = 9 then 3 else 0
def MP : Nat → Nat := fun d => if d = 6 then 1 else if d = 7 then 1 else if d = 9 then 1 else 0
def A5O : Nat → Nat := fun d => 0
def WN : Nat → Nat := fun d => if d = 9 then 1 else if d = 10 then 1 else 0
def AbX : Nat → Nat := fun d => 0
def A5T : Nat → Nat := fun d => if d = 2 then 1 else if d = 3 then 1 else if d = 5 then 2 else if d = 7 then 1 else if d = 11 then 1 else if d = 15 then 2 else if d = 46 then 1 else 0
def AaZ : Nat → Nat := fun d => if d = 2 then 1 else if d = 3 then 1 else if d = 5 then 2 else if d = 7 then 1 else if d = 11 then 1 else if d = 15 then 2 else 0
def AaG : Nat → Nat := fun d => if d = 6 then 1 else 0
def A9f : Nat → Nat := fun d => 0
def A12 : Nat → Nat := fun d => 0
def B8 : Nat → Nat := fun d => if d = 6 then 1 else if d = 11 then 1 else 0
def Gf : Nat → Nat := fun d => 0
def RV : Nat → Nat := fun d => 0
def A5U : Nat → Nat := fun d => 0
def Rm : Nat → Nat := fun d => 0
def A5r : Nat → Nat := fun d => 0
def A0v : Nat → Nat := fun d => if d = 2 then 1 else if d = 4 then 1 else 0
def A42 : Nat → Nat := fun d => if d = 0 then 1 else 0
def ES : Nat → Nat := fun d => if d = 2 then 1 else if d = 3 then 2 else 0
def Sr : Nat → Nat := fun d => if d = 5 then 1 else 0
def A3U : Nat → Nat := fun d => 0
def Mx : Nat → Nat := fun d => if d = 2 then 1 else if d = 3 then 1 else if d = 5 then 3 else if d = 10 then 3 else 0
def CG : Nat → Nat := fun d => if d = 8 then 1 else if d = 12 then 1 else if d = 13 then 2 else if d = 15 then 1 else if d = 17 then 1 else 0
def A6g : Nat → Nat := fun d => if d = 21 then 1 else 0
def Dg : Nat → Nat := fun d => if d = 2 then 1 else if d = 3 then 1 else if d = 5 then 2 else if d = 7 then 1 else if d = 11 then 1 else if d = 15 then 2 else if d = 34 then 1 else if d = 49 then 1 else 0
def Gp : Nat → Nat := fun d => if d = 2 then 1 else if d = 3 then 1 else if d = 5 then 2 else if d = 7 then 1 else if d = 11 then 1 else if d = 15 then 2 else if d = 34 then 1 else 0
def Km : Nat → Nat := fun d => if d = 8 then 1 else 0
def V9 : Nat → Nat := fun d => 0
def W6 : Nat → Nat := fun d => 0
def A79 : Nat → Nat := fun d => 0
def A4Q : Nat → Nat := fun d => if d = 13 then 1 else 0
def A1n : Nat → Nat := fun d => 0
def A2c : Nat → Nat := fun d => 0
def A1A : Nat → Nat := fun d => 0
def A6h : Nat → Nat := fun d => 0
def A2d : Nat → Nat := fun d => 0
def A75 : Nat → Nat := fun d => 0
def A3T : Nat → Nat := fun d => if d = 5 then 1 else 0
def A6K : Nat → Nat := fun d => 0
def PS : Nat → Nat := fun d => 0
def HS : Nat → Nat := fun d => 0
def N1 : Nat → Nat := fun d => 0
def Eg : Nat → Nat := fun d => if d = 10 then 1 else if d = 12 then 1 else 0
def Qf : Nat → Nat := fun d => if d = 10 then 1 else 0
def RX : Nat → Nat := fun d => if d = 58 then 1 else if d = 60 then 3 else if d = 63 then 3 else 0
def A2b : Nat → Nat := fun d => 0
def Ea : Nat → Nat := fun d => 0
def Gx : Nat → Nat := fun d => if d = 5 then 1 else 0
def Cq : Nat → Nat := fun d => if d = 48 then 1 else 0
def RT : Nat → Nat := fun d => 0
def PD : Nat → Nat := fun d => 0
def Qg : Nat → Nat := fun d => 0
def A0P : Nat → Nat := fun d => 0
def A1r : Nat → Nat := fun d => 0
def Ng : Nat → Nat := fun d => 0
def Cy : Nat → Nat := fun d => if d = 2 then 1 else if d = 23 then 2 else if d = 94 then 2 else if d = 116 then 2 else if d = 141 then 2 else 0
def MK : Nat → Nat := fun d => 0
def GO : Nat → Nat := fun d => if d = 4 then 1 else if d = 6 then 3 else if d = 11 then 3 else if d = 16 then 3 else if d = 19 then 3 else 0
def HX : Nat → Nat := fun d => if d = 5 then 2 else 0
def Ve : Nat → Nat := fun d => if d = 6 then 1 else 0
def Ry : Nat → Nat := fun d => if d = 8 then 1 else if d = 10 then 1 else 0
def Cj : Nat → Nat := fun d => if d = 8 then 1 else if d = 10 then 2 else if d = 19 then 2 else if d = 72 then 1 else 0
def HY : Nat → Nat := fun d => if d = 8 then 1 else if d = 10 then 2 else if d = 18 then 1 else if d = 47 then 1 else 0
def A5s : Nat → Nat := fun d => 0
def Qx : Nat → Nat := fun d => 0
def A6e : Nat → Nat := fun d => 0
def A46 : Nat → Nat := fun d => if d = 8 then 1 else 0
def A5n : Nat → Nat := fun d => 0
def A6j : Nat → Nat := fun d => 0
def Lj : Nat → Nat := fun d => if d = 3 then 2 else 0
def Dt : Nat → Nat := fun d => if d = 30 then 1 else if d = 34 then 1 else 0
def Q5 : Nat → Nat := fun d => if d = 11 then 1 else 0
def A27 : Nat → Nat := fun d => if d = 5 then 1 else 0
def UY : Nat → Nat := fun d => if d = 14 then 1 else 0
def Ew : Nat → Nat := fun d => if d = 19 then 1 else 0
def HO : Nat → Nat := fun d => 0
def Kt : Nat → Nat := fun d => 0
def A49 : Nat → Nat := fun d => 0
def A5x : Nat → Nat := fun d => if d = 11 then 1 else if d = 21 then 1 else 0
def A4N : Nat → Nat := fun d => if d = 13 then 1 else 0
def A61 : Nat → Nat := fun d => if d = 8 then 1 else 0
def RZ : Nat → Nat := fun d => 0
def A5M : Nat → Nat := fun d => if d = 9 then 1 else 0
def RM : Nat → Nat := fun d => 0
def Xa : Nat → Nat := fun d => if d = 3 then 1 else 0
def A0Q : Nat → Nat := fun d => 0
def MR : Nat → Nat := fun d => 0
def A1d : Nat → Nat := fun d => 0
def PO : Nat → Nat := fun d => 0
def A0A : Nat → Nat := fun d => if d = 3 then 1 else 0
def A1w : Nat → Nat := fun d => if d = 3 then 1 else 0
def A0W : Nat → Nat := fun d => 0
def Wz : Nat → Nat := fun d => if d = 5 then 2 else if d = 9 then 2 else 0
def A0N : Nat → Nat := fun d => if d = 3 then 1 else 0
def MW : Nat → Nat := fun d => if d = 30 then 1 else 0
def Xc : Nat → Nat := fun d => 0
def Hf : Nat → Nat := fun d => if d = 9 then 1 else if d = 10 then 1 else 0
def RP : Nat → Nat := fun d => 0
def MM : Nat → Nat := fun d => if d = 3 then 1 else 0
def Mn : Nat → Nat := fun d => if d = 4 then 1 else if d = 75 then 3 else 0
def A0B : Nat → Nat := fun d => 0
def D0 : Nat → Nat := fun d => 0
def Ti : Nat → Nat := fun d => 0
def Cw : Nat → Nat := fun d => if d = 5 then 2 else if d = 7 then 1 else if d = 9 then 2 else if d = 76 then 1 else if d = 83 then 2 else 0
def NU : Nat → Nat := fun d => 0
def LH : Nat → Nat := fun d => 0
def Az : Nat → Nat := fun d => if d = 8 then 1 else if d = 39 then 2 else if d = 94 then 2 else if d = 109 then 3 else if d = 128 then 3 else if d = 137 then 3 else if d = 151 then 2 else if d = 164 then 3 else if d = 165 then 2 else if d = 181 then 3 else if d = 182 then 3 else if d = 183 then 2 else if d = 192 then 3 else if d = 202 then 2 else if d = 211 then 2 else if d = 223 then 2 else if d = 233 then 2 else if d = 251 then 3 else if d = 253 then 2 else if d = 263 then 2 else 0
def Zd : Nat → Nat := fun d => if d = 8 then 1 else if d = 39 then 2 else if d = 56 then 1 else if d = 94 then 2 else if d = 109 then 3 else if d = 128 then 3 else if d = 137 then 3 else if d = 151 then 2 else if d = 164 then 3 else if d = 165 then 2 else if d = 181 then 3 else if d = 182 then 3 else if d = 183 then 2 else if d = 192 then 3 else if d = 199 then 1 else if d = 202 then 2 else if d = 208 then 1 else if d = 211 then 2 else if d = 223 then 2 else if d = 233 then 2 else if d = 251 then 3 else if d = 253 then 2 else if d = 263 then 2 else 0
def BK : Nat → Nat := fun d => if d = 10 then 1 else if d = 11 then 1 else if d = 13 then 2 else if d = 20 then 3 else if d = 22 then 2 else if d = 36 then 3 else if d = 38 then 3 else if d = 56 then 3 else if d = 58 then 3 else if d = 74 then 3 else 0
def XX : Nat → Nat := fun d => if d = 10 then 1 else if d = 11 then 2 else if d = 13 then 2 else if d = 20 then 3 else if d = 36 then 3 else if d = 38 then 3 else if d = 56 then 3 else if d = 58 then 3 else if d = 74 then 3 else 0
def C2 : Nat → Nat := fun d => if d = 10 then 1 else if d = 12 then 1 else if d = 55 then 2 else if d = 72 then 1 else if d = 87 then 1 else 0
def B9 : Nat → Nat := fun d => if d = 10 then 1 else if d = 12 then 1 else if d = 55 then 1 else if d = 72 then 1 else if d = 87 then 1 else 0
def KI : Nat → Nat := fun d => 0
def KG : Nat → Nat := fun d => 0
def Y7 : Nat → Nat := fun d => 0
def Y2 : Nat → Nat := fun d => if d = 15 then 1 else 0
def ME : Nat → Nat := fun d => if d = 5 then 1 else 0
def Mf : Nat → Nat := fun d => 0
def SS : Nat → Nat := fun d => 0
def Q3 : Nat → Nat := fun d => 0
def S7 : Nat → Nat := fun d => 0
def HJ : Nat → Nat := fun d => if d = 8 then 1 else 0
def Ta : Nat → Nat := fun d => 0
def Sz : Nat → Nat := fun d => 0
def ER : Nat → Nat := fun d => 0
def Me : Nat → Nat := fun d => 0
def Uw : Nat → Nat := fun d => 0
def TK : Nat → Nat := fun d => 0
def ZX : Nat → Nat := fun d => if d = 3 then 2 else 0
def XQ : Nat → Nat := fun d => if d = 11 then 1 else if d = 13 then 1 else 0
def Y6 : Nat → Nat := fun d => 0
def Mr : Nat → Nat := fun d => 0
def S6 : Nat → Nat := fun d => 0
def Uz : Nat → Nat := fun d => 0
def GQ : Nat → Nat := fun d => if d = 2 then 1 else if d = 4 then 1 else if d = 6 then 1 else if d = 15 then 1 else if d = 19 then 1 else 0
def Dm : Nat → Nat := fun d => if d = 12 then 1 else 0
def T0 : Nat → Nat := fun d => if d = 7 then 1 else if d = 8 then 1 else 0
def Q8 : Nat → Nat := fun d => 0
def TU : Nat → Nat := fun d => 0
def Hs : Nat → Nat := fun d => if d = 13 then 2 else 0
def Zt : Nat → Nat := fun d => 0
def NN : Nat → Nat := fun d => 0
def GF : Nat → Nat := fun d => 0
def TW : Nat → Nat := fun d => 0
def Sa : Nat → Nat := fun d => 0
def SE : Nat → Nat := fun d => 0
def SY : Nat → Nat := fun d => 0
def T9 : Nat → Nat := fun d => 0
def K3 : Nat → Nat := fun d => if d = 2 then 1 else if d = 5 then 1 else if d = 76 then 3 else 0
def Si : Nat → Nat := fun d => 0
def JA : Nat → Nat := fun d => 0
def CV : Nat → Nat := fun d => 0
def Tt : Nat → Nat := fun d => 0
def De : Nat → Nat := fun d => if d = 23 then 2 else if d = 42 then 2 else if d = 54 then 2 else 0
def HL : Nat → Nat := fun d => 0
def B2 : Nat → Nat := fun d => 0
def Dl : Nat → Nat := fun d => if d = 28 then 1 else 0
def ND : Nat → Nat := fun d => if d = 20 then 1 else if d = 22 then 5 else 0
def ZV : Nat → Nat := fun d => if d = 20 then 1 else 0
def JS : Nat → Nat := fun d => 0
def NR : Nat → Nat := fun d => if d = 10 then 1 else 0
def NP : Nat → Nat := fun d => 0
def Pd : Nat → Nat := fun d => 0
def SH : Nat → Nat := fun d => 0
def AO : Nat → Nat := fun d => if d = 12 then 2 else if d = 14 then 1 else if d = 25 then 3 else if d = 27 then 3 else if d = 32 then 3 else if d = 39 then 3 else if d = 48 then 3 else if d = 58 then 3 else if d = 64 then 3 else if d = 73 then 3 else if d = 80 then 3 else if d = 94 then 3 else if d = 103 then 3 else if d = 108 then 3 else if d = 116 then 3 else if d = 130 then 3 else if d = 137 then 3 else if d = 142 then 3 else if d = 151 then 3 else 0
def AW : Nat → Nat := fun d => if d = 8 then 1 else if d = 11 then 1 else if d = 14 then 3 else if d = 28 then 3 else if d = 32 then 3 else if d = 39 then 3 else if d = 47 then 4 else if d = 53 then 3 else if d = 75 then 4 else if d = 81 then 4 else if d = 86 then 3 else if d = 91 then 3 else 0
def XA : Nat → Nat := fun d => if d = 8 then 1 else if d = 11 then 1 else if d = 14 then 3 else if d = 28 then 3 else if d = 32 then 3 else if d = 39 then 3 else if d = 47 then 3 else if d = 53 then 3 else if d = 75 then 3 else if d = 81 then 3 else if d = 86 then 3 else if d = 91 then 3 else 0
def Zi : Nat → Nat := fun d => 0
def Tf : Nat → Nat := fun d => 0
def TP : Nat → Nat := fun d => 0
def ZP : Nat → Nat := fun d => 0
def KV : Nat → Nat := fun d => 0
def P6 : Nat → Nat := fun d => 0
def UO : Nat → Nat := fun d => 0
def MF : Nat → Nat := fun d => 0
def Zm : Nat → Nat := fun d => 0
def SJ : Nat → Nat := fun d => 0
def KU : Nat → Nat := fun d => 0
def Qr : Nat → Nat := fun d => 0
def TO : Nat → Nat := fun d => 0
def Te : Nat → Nat := fun d => 0
def K7 : Nat → Nat := fun d => if d = 5 then 1 else if d = 6 then 1 else if d = 66 then 3 else if d = 115 then 3 else if d = 136 then 3 else 0
def Gm : Nat → Nat := fun d => if d = 5 then 1 else if d = 8 then 1 else if d = 79 then 3 else 0
def KL : Nat → Nat := fun d => 0
def Ju : Nat → Nat := fun d => 0
def Lb : Nat → Nat := fun d => 0
def AA : Nat → Nat := fun d => if d = 101 then 1 else if d = 107 then 5 else 0
def Yy : Nat → Nat := fun d => if d = 101 then 1 else 0
def Sy : Nat → Nat := fun d => 0
def L3 : Nat → Nat := fun d => 0
def Sv : Nat → Nat := fun d => 0
def Lo : Nat → Nat := fun d => if d = 14 then 3 else 0
def B0 : Nat → Nat := fun d => if d = 8 then 1 else if d = 11 then 1 else if d = 13 then 3 else if d = 21 then 3 else if d = 28 then 3 else if d = 36 then 4 else if d = 50 then 3 else if d = 56 then 3 else 0
def Zs : Nat → Nat := fun d => if d = 8 then 1 else if d = 11 then 1 else if d = 13 then 3 else if d = 21 then 3 else if d = 28 then 3 else if d = 36 then 3 else if d = 50 then 3 else if d = 56 then 3 else 0
def GI : Nat → Nat := fun d => if d = 19 then 1 else 0
def KK : Nat → Nat := fun d => 0
def Ut : Nat → Nat := fun d => 0
def Us : Nat → Nat := fun d => 0
def KP : Nat → Nat := fun d => 0
def Hm : Nat → Nat := fun d => 0
def BC : Nat → Nat := fun d => 0
def GR : Nat → Nat := fun d => 0
def CO : Nat → Nat := fun d => 0
abbrev Ac (V : Ao) (n : Nat) (vf : Et) : Prop := V.ext n = none ∧ V.fn n = some vf
structure AL (V : Ao) : Prop where
  c_mathbits_TrailingZeros64 : V.ext AE = some YA
  c_z0 : Ac V A8g ⟨Zn, VS⟩
  c_z1 : Ac V A2S ⟨Aeh, Ac1⟩
  c_z2 : Ac V A8H ⟨AaU, A2z⟩
  c_z3 : Ac V A7M ⟨Ab8, MP⟩
  c_z4 : Ac V A7S ⟨A89, A5O⟩
  c_z5 : Ac V A9p ⟨Z4, WN⟩
  c_z6 : Ac V AaA ⟨Af7, AbX⟩
  h_z7 : V.fnH A30 = some ⟨A7D, A5T⟩
  c_z7 : Ac V A30 ⟨A7D, AaZ⟩
  c_z8 : Ac V Abk ⟨Ael, AaG⟩
  c_z9 : Ac V A9h ⟨Aat, A9f⟩
  c_z10 : Ac V A1W ⟨A4y, A12⟩
  c_z11 : Ac V A11 ⟨Rl, B8⟩
  c_z12 : Ac V A0J ⟨A5a, Gf⟩
  c_z13 : Ac V A1e ⟨WH, RV⟩
  c_z14 : Ac V A4i ⟨A9K, A5U⟩
  c_z15 : Ac V A0K ⟨VE, Rm⟩
  c_z16 : Ac V A4j ⟨A9B, A5r⟩
  c_z17 : Ac V A0S ⟨A76, A0v⟩
  c_z18 : Ac V A5c ⟨A9F, A42⟩
  c_z19 : Ac V A0c ⟨A4E, ES⟩
  h_z20 : V.fnH Qm = some ⟨Vj, Sr⟩
  c_z20 : Ac V Qm ⟨Vj, A3U⟩
  h_z21 : V.fnH A1N = some ⟨A4K, Mx⟩
  c_z22 : Ac V A1q ⟨H5, CG⟩
  c_z23 : Ac V A43 ⟨A9M, A6g⟩
  h_z24 : V.fnH Nj = some ⟨RH, Dg⟩
  c_z24 : Ac V Nj ⟨RH, Gp⟩
  c_z25 : Ac V X5 ⟨A4Y, Km⟩
  c_z26 : Ac V W4 ⟨A1g, V9⟩
  c_z27 : Ac V Vu ⟨A23, W6⟩
  c_z28 : Ac V A5D ⟨A9E, A79⟩
  c_z29 : Ac V A52 ⟨Aa1, A4Q⟩
  c_z30 : Ac V A1Y ⟨A6v, A1n⟩
  c_z31 : Ac V A1o ⟨A6s, A2c⟩
  c_z32 : Ac V A14 ⟨A5f, A1A⟩
  c_z33 : Ac V A6n ⟨A9O, A6h⟩
  c_z34 : Ac V A1M ⟨A4b, A2d⟩
  c_z35 : Ac V A6L ⟨A9r, A75⟩
  c_z36 : Ac V A5A ⟨A9Q, A3T⟩
  c_z37 : Ac V A4U ⟨A9s, A6K⟩
  c_z38 : Ac V A28 ⟨A4X, PS⟩
  c_z39 : Ac V A1f ⟨A6b, HS⟩
  c_z40 : Ac V X1 ⟨A4P, N1⟩
  c_z41 : Ac V A0X ⟨A1L, Eg⟩
  c_z42 : Ac V A1J ⟨A6V, Qf⟩
  c_z43 : Ac V Xi ⟨A4O, RX⟩
  c_z44 : Ac V A0G ⟨A45, A2b⟩
  c_z45 : Ac V UU ⟨A5Z, Ea⟩
  c_z46 : Ac V Wb ⟨A25, Gx⟩
  c_z47 : Ac V Xg ⟨A0y, Cq⟩
  c_z48 : Ac V A0R ⟨A68, RT⟩
  c_z49 : Ac V A0Y ⟨A3Y, PD⟩
  c_z50 : Ac V A1Z ⟨A54, Qg⟩
  c_z51 : Ac V Wi ⟨A4m, A0P⟩
  c_z52 : Ac V A1h ⟨A6M, A1r⟩
  c_z53 : Ac V X7 ⟨A2k, Ng⟩
  c_z54 : Ac V WO ⟨A1P, Cy⟩
  h_z55 : V.fnH RF = some ⟨WZ, MK⟩
  h_z56 : V.fnH A2f = some ⟨A6P, GO⟩
  c_z57 : Ac V A0E ⟨A71, HX⟩
  c_z58 : Ac V A0t ⟨A18, Ve⟩
  c_z59 : Ac V A1B ⟨We, Ry⟩
  c_z60 : Ac V A1D ⟨A0r, Cj⟩
  c_z61 : Ac V A1Q ⟨P1, HY⟩
  c_z62 : Ac V A6J ⟨A9R, A5s⟩
  c_z63 : Ac V A2e ⟨Ru, Qx⟩
  c_z64 : Ac V A4G ⟨A9T, A6e⟩
  c_z65 : Ac V A5p ⟨A9t, A46⟩
  c_z66 : Ac V A6k ⟨A9N, A5n⟩
  c_z67 : Ac V A60 ⟨A9v, A6j⟩
  c_z68 : Ac V WX ⟨A0C, Lj⟩
  c_z69 : Ac V A2l ⟨A0h, Dt⟩
  c_z70 : Ac V A1x ⟨A2j, Q5⟩
  c_z71 : Ac V A0n ⟨A6S, A27⟩
  c_z72 : Ac V A0e ⟨A0k, UY⟩
  c_z73 : Ac V A0i ⟨A5j, Ew⟩
  c_z74 : Ac V Ph ⟨A6o, HO⟩
  c_z75 : Ac V Pr ⟨A6Y, Kt⟩
  c_z76 : Ac V A5u ⟨Aa0, A49⟩
  c_z77 : Ac V A6O ⟨A9w, A5x⟩
  c_z78 : Ac V A5L ⟨A9V, A4N⟩
  c_z79 : Ac V A3N ⟨A9L, A61⟩
  c_z80 : Ac V A2n ⟨X2, RZ⟩
  c_z81 : Ac V A4q ⟨A9Z, A5M⟩
  c_z82 : Ac V A0u ⟨VY, RM⟩
  c_z83 : Ac V W8 ⟨A15, Xa⟩
  c_z84 : Ac V A22 ⟨A4C, A0Q⟩
  c_z85 : Ac V A1a ⟨A6p, MR⟩
  c_z86 : Ac V A1v ⟨A6R, A1d⟩
  c_z87 : Ac V A1K ⟨Rz, PO⟩
  c_z88 : Ac V A1X ⟨A4e, A0A⟩
  c_z89 : Ac V A1O ⟨A4x, A1w⟩
  c_z90 : Ac V A1z ⟨A4L, A0W⟩
  c_z91 : Ac V A20 ⟨A73, Wz⟩
  c_z92 : Ac V UW ⟨A50, A0N⟩
  c_z93 : Ac V A17 ⟨A4h, MW⟩
  c_z94 : Ac V A24 ⟨A0F, Xc⟩
  c_z95 : Ac V A0Z ⟨A6a, Hf⟩
  c_z96 : Ac V A0s ⟨A5R, RP⟩
  h_z97 : V.fnH A1V = some ⟨A6C, MM⟩
  h_z98 : V.fnH A1T = some ⟨A4w, Mn⟩
  c_z99 : Ac V A1G ⟨A7d, A0B⟩
  c_z100 : Ac V TL ⟨Yr, D0⟩
  c_z101 : Ac V U9 ⟨Yc, Ti⟩
  c_z102 : Ac V SA ⟨UB, Cw⟩
  c_z103 : Ac V TS ⟨ZF, NU⟩
  h_z104 : V.fnH Pv = some ⟨T5, LH⟩
  h_z105 : V.fnH KD = some ⟨Q1, Az⟩
  c_z105 : Ac V KD ⟨Q1, Zd⟩
  h_z106 : V.fnH KO = some ⟨Qy, BK⟩
  c_z106 : Ac V KO ⟨Qy, XX⟩
  h_z107 : V.fnH Gb = some ⟨C4, C2⟩
  c_z107 : Ac V Gb ⟨C4, B9⟩
  c_z108 : Ac V TG ⟨XW, KI⟩
  c_z109 : Ac V Sm ⟨ZA, KG⟩
  c_z110 : Ac V Z6 ⟨A4v, Y7⟩
  c_z111 : Ac V Yd ⟨A6B, Y2⟩
  c_z112 : Ac V Su ⟨PQ, ME⟩
  c_z113 : Ac V Po ⟨XM, Mf⟩
  c_z114 : Ac V La ⟨A03, SS⟩
  c_z115 : Ac V UP ⟨SW, Q3⟩
  c_z116 : Ac V P3 ⟨Z9, S7⟩
  c_z117 : Ac V PT ⟨Um, HJ⟩
  c_z118 : Ac V Pz ⟨Xy, Ta⟩
  c_z119 : Ac V SO ⟨ZY, Sz⟩
  c_z120 : Ac V Uo ⟨ZI, ER⟩
  c_z121 : Ac V SX ⟨Pg, Me⟩
  c_z122 : Ac V NY ⟨Xz, Uw⟩
  c_z123 : Ac V Sh ⟨Xq, TK⟩
  c_z124 : Ac V Z0 ⟨A5W, ZX⟩
  c_z125 : Ac V Y0 ⟨A56, XQ⟩
  c_z126 : Ac V YR ⟨A5P, Y6⟩
  c_z127 : Ac V NV ⟨Y8, Mr⟩
  c_z128 : Ac V U0 ⟨YQ, S6⟩
  c_z129 : Ac V P2 ⟨ZU, Uz⟩
  c_z130 : Ac V Qt ⟨ZZ, GQ⟩
  c_z131 : Ac V Mu ⟨Ze, Dm⟩
  c_z132 : Ac V Mi ⟨Zp, T0⟩
  c_z133 : Ac V M8 ⟨Uv, Q8⟩
  c_z134 : Ac V Tp ⟨Yg, TU⟩
  h_z135 : V.fnH JG = some ⟨Mp, Hs⟩
  c_z135 : Ac V JG ⟨Mp, Zt⟩
  h_z136 : V.fnH MG = some ⟨YH, NN⟩
  c_z137 : Ac V S5 ⟨Z5, GF⟩
  c_z138 : Ac V PJ ⟨Zw, TW⟩
  c_z139 : Ac V Pk ⟨A04, Sa⟩
  c_z140 : Ac V To ⟨YS, SE⟩
  c_z141 : Ac V U1 ⟨Xs, SY⟩
  c_z142 : Ac V Tu ⟨Y1, T9⟩
  h_z143 : V.fnH TV = some ⟨Q4, K3⟩
  c_z144 : Ac V TH ⟨YZ, Si⟩
  c_z145 : Ac V Up ⟨Zf, JA⟩
  c_z146 : Ac V S1 ⟨NX, CV⟩
  c_z147 : Ac V SD ⟨Yz, Tt⟩
  h_z148 : V.fnH SN = some ⟨YP, De⟩
  c_z149 : Ac V UM ⟨ZJ, HL⟩
  c_z150 : Ac V Sd ⟨ZR, B2⟩
  c_z151 : Ac V M6 ⟨XS, Dl⟩
  h_z152 : V.fnH L0 = some ⟨Pf, ND⟩
  c_z152 : Ac V L0 ⟨Pf, ZV⟩
  c_z153 : Ac V U4 ⟨ZG, JS⟩
  h_z154 : V.fnH Tz = some ⟨XB, NR⟩
  h_z155 : V.fnH UF = some ⟨ZE, NP⟩
  c_z156 : Ac V Sk ⟨Sx, Pd⟩
  c_z157 : Ac V TF ⟨ZB, SH⟩
  h_z158 : V.fnH My = some ⟨Zh, AO⟩
  h_z159 : V.fnH Hv = some ⟨PW, AW⟩
  c_z159 : Ac V Hv ⟨PW, XA⟩
  c_z160 : Ac V A0a ⟨A70, Zi⟩
  c_z161 : Ac V ST ⟨Xu, Tf⟩
  c_z162 : Ac V Ql ⟨Zv, TP⟩
  c_z163 : Ac V A09 ⟨A3R, ZP⟩
  c_z164 : Ac V Tl ⟨YD, KV⟩
  c_z165 : Ac V Ud ⟨Ua, P6⟩
  c_z166 : Ac V TX ⟨YX, UO⟩
  c_z167 : Ac V Sc ⟨A07, MF⟩
  c_z169 : Ac V Ym ⟨A6H, Zm⟩
  c_z170 : Ac V T4 ⟨YF, SJ⟩
  c_z171 : Ac V Ty ⟨ZK, KU⟩
  c_z172 : Ac V S8 ⟨Uc, Qr⟩
  c_z173 : Ac V SP ⟨ZL, TO⟩
  c_z174 : Ac V Pn ⟨Yt, Te⟩
  h_z175 : V.fnH TQ = some ⟨P7, K7⟩
  h_z176 : V.fnH Uh = some ⟨Yu, Gm⟩
  c_z177 : Ac V T8 ⟨Ya, KL⟩
  c_z178 : Ac V Tk ⟨YM, Ju⟩
  c_z179 : Ac V SB ⟨A06, Lb⟩
  h_z180 : V.fnH KM = some ⟨PM, AA⟩
  c_z180 : Ac V KM ⟨PM, Yy⟩
  c_z181 : Ac V UJ ⟨Zx, Sy⟩
  c_z182 : Ac V Qs ⟨XZ, L3⟩
  c_z183 : Ac V SM ⟨Zj, Sv⟩
  h_z184 : V.fnH Uy = some ⟨Yo, Lo⟩
  h_z185 : V.fnH L7 = some ⟨Ms, B0⟩
  c_z185 : Ac V L7 ⟨Ms, Zs⟩
  c_z186 : Ac V TE ⟨XJ, GI⟩
  c_z187 : Ac V SG ⟨Yl, KK⟩
  c_z188 : Ac V U2 ⟨Yp, Ut⟩
  c_z189 : Ac V TN ⟨XF, Us⟩
  c_z190 : Ac V S2 ⟨YK, KP⟩
  c_z191 : Ac V Tb ⟨Zq, Hm⟩
  c_z192 : Ac V TC ⟨YY, BC⟩
  c_z193 : Ac V TM ⟨XG, GR⟩
  c_z194 : Ac V Ub ⟨HF, CO⟩
def Aip (g : Nat) : Nat → Nat := if g = A8g then VS else if g = A2S then Ac1 else if g = A8H then A2z else if g = A7M then MP else if g = A7S then A5O else if g = A9p then WN else if g = AaA then AbX else if g = A30 then AaZ else if g = Abk then AaG else if g = A9h then A9f else if g = A1W then A12 else if g = A11 then B8 else if g = A0J then Gf else if g = A1e then RV else if g = A4i then A5U else if g = A0K then Rm else if g = A4j then A5r else if g = A0S then A0v else if g = A5c then A42 else if g = A0c then ES else if g = Qm then A3U else if g = A1q then CG else if g = A43 then A6g else if g = Nj then Gp else if g = X5 then Km else if g = W4 then V9 else if g = Vu then W6 else if g = A5D then A79 else if g = A52 then A4Q else if g = A1Y then A1n else if g = A1o then A2c else if g = A14 then A1A else if g = A6n then A6h else if g = A1M then A2d else if g = A6L then A75 else if g = A5A then A3T else if g = A4U then A6K else if g = A28 then PS else if g = A1f then HS else if g = X1 then N1 else fun _ => 0
def AhI (g : Nat) : Nat → Nat := if g = A0X then Eg else if g = A1J then Qf else if g = Xi then RX else if g = A0G then A2b else if g = UU then Ea else if g = Wb then Gx else if g = Xg then Cq else if g = A0R then RT else if g = A0Y then PD else if g = A1Z then Qg else if g = Wi then A0P else if g = A1h then A1r else if g = X7 then Ng else if g = WO then Cy else if g = A0E then HX else if g = A0t then Ve else if g = A1B then Ry else if g = A1D then Cj else if g = A1Q then HY else if g = A6J then A5s else if g = A2e then Qx else if g = A4G then A6e else if g = A5p then A46 else if g = A6k then A5n else if g = A60 then A6j else if g = WX then Lj else if g = A2l then Dt else if g = A1x then Q5 else if g = A0n then A27 else if g = A0e then UY else if g = A0i then Ew else if g = Ph then HO else if g = Pr then Kt else if g = A5u then A49 else if g = A6O then A5x else if g = A5L then A4N else if g = A3N then A61 else if g = A2n then RZ else if g = A4q then A5M else if g = A0u then RM else Aip g
def Ajf (g : Nat) : Nat → Nat := if g = W8 then Xa else if g = A22 then A0Q else if g = A1a then MR else if g = A1v then A1d else if g = A1K then PO else if g = A1X then A0A else if g = A1O then A1w else if g = A1z then A0W else if g = A20 then Wz else if g = UW then A0N else if g = A17 then MW else if g = A24 then Xc else if g = A0Z then Hf else if g = A0s then RP else if g = A1G then A0B else if g = TL then D0 else if g = U9 then Ti else if g = SA then Cw else if g = TS then NU else if g = KD then Zd else if g = KO then XX else if g = Gb then B9 else if g = TG then KI else if g = Sm then KG else if g = Z6 then Y7 else if g = Yd then Y2 else if g = Su then ME else if g = Po then Mf else if g = La then SS else if g = UP then Q3 else if g = P3 then S7 else if g = PT then HJ else if g = Pz then Ta else if g = SO then Sz else if g = Uo then ER else if g = SX then Me else if g = NY then Uw else if g = Sh then TK else if g = Z0 then ZX else if g = Y0 then XQ else AhI g
def Ai6 (g : Nat) : Nat → Nat := if g = YR then Y6 else if g = NV then Mr else if g = U0 then S6 else if g = P2 then Uz else if g = Qt then GQ else if g = Mu then Dm else if g = Mi then T0 else if g = M8 then Q8 else if g = Tp then TU else if g = JG then Zt else if g = S5 then GF else if g = PJ then TW else if g = Pk then Sa else if g = To then SE else if g = U1 then SY else if g = Tu then T9 else if g = TH then Si else if g = Up then JA else if g = S1 then CV else if g = SD then Tt else if g = UM then HL else if g = Sd then B2 else if g = M6 then Dl else if g = L0 then ZV else if g = U4 then JS else if g = Sk then Pd else if g = TF then SH else if g = Hv then XA else if g = A0a then Zi else if g = ST then Tf else if g = Ql then TP else if g = A09 then ZP else if g = Tl then KV else if g = Ud then P6 else if g = TX then UO else if g = Sc then MF else if g = Ym then Zm else if g = T4 then SJ else if g = Ty then KU else if g = S8 then Qr else Ajf g
def Aj0 (g : Nat) : Nat → Nat := if g = SP then TO else if g = Pn then Te else if g = T8 then KL else if g = Tk then Ju else if g = SB then Lb else if g = KM then Yy else if g = UJ then Sy else if g = Qs then L3 else if g = SM then Sv else if g = L7 then Zs else if g = TE then GI else if g = SG then KK else if g = U2 then Ut else if g = TN then Us else if g = S2 then KP else if g = Tb then Hm else if g = TC then BC else if g = TM then GR else if g = Ub then CO else Ai6 g
def muP (g : Nat) : Nat → Nat := Aj0 g
def Aje (g : Nat) : Nat → Nat := if g = A30 then A5T else if g = Qm then Sr else if g = A1N then Mx else if g = Nj then Dg else if g = RF then MK else if g = A2f then GO else if g = A1V then MM else if g = A1T then Mn else if g = Pv then LH else if g = KD then Az else if g = KO then BK else if g = Gb then C2 else if g = JG then Hs else if g = MG then NN else if g = TV then K3 else if g = SN then De else if g = L0 then ND else if g = Tz then NR else if g = UF then NP else if g = My then AO else if g = Hv then AW else if g = TQ then K7 else if g = Uh then Gm else if g = KM then AA else if g = Uy then Lo else if g = L7 then B0 else fun _ => 0
def muH (g : Nat) : Nat → Nat := Aje g
end Go.AM
