/-
  Own work, part of the proof of CoheAll: the code of the functions that the law reaches, as the machine has it; read off the program as the text is compiled.
-/
import Derived.Test.YtpcpldaangchaaaGreatDoorCoB
import Derived.Test.YtpcpldaangchaaaGreatDoorCoC
import Derived.Test.YtpcpldaangchaaaGreatDoorCoD
import Derived.Test.YtpcpldaangchaaaGreatDoorCoE
set_option maxRecDepth 4000
set_option linter.unusedVariables false
set_option linter.unusedSimpArgs false
set_option linter.unusedSectionVars false
set_option linter.unnecessarySimpa false
set_option maxRecDepth 100000
namespace Go.AM
open Go Go.Proofs
def A0N : Nat → Nat := fun d => if d = 19 then 1 else if d = 21 then 1 else if d = 22 then 1 else 0
def Ac5 : Nat → Nat := fun d => if d = 1 then 1 else if d = 3 then 1 else if d = 4 then 1 else if d = 5 then 1 else if d = 6 then 1 else if d = 17 then 2 else 0
def A4G : Nat → Nat := fun d => if d = 2 then 1 else if d = 4 then 1 else if d = 8 then 2 else if d = 9 then 3 else 0
def ME : Nat → Nat := fun d => if d = 6 then 1 else if d = 7 then 1 else if d = 9 then 1 else 0
def A3Q : Nat → Nat := fun d => if d = 4 then 1 else if d = 8 then 1 else if d = 9 then 2 else if d = 14 then 2 else 0
def A6E : Nat → Nat := fun d => 0
def A67 : Nat → Nat := fun d => 0
def Wj : Nat → Nat := fun d => if d = 9 then 1 else if d = 10 then 1 else 0
def A8S : Nat → Nat := fun d => 0
def A5x : Nat → Nat := fun d => if d = 2 then 1 else if d = 3 then 2 else if d = 5 then 2 else if d = 7 then 1 else if d = 11 then 1 else if d = 46 then 1 else 0
def Ado : Nat → Nat := fun d => if d = 2 then 1 else if d = 3 then 2 else if d = 5 then 2 else if d = 7 then 1 else if d = 11 then 1 else 0
def A5I : Nat → Nat := fun d => if d = 6 then 1 else 0
def A25 : Nat → Nat := fun d => 0
def Bk : Nat → Nat := fun d => if d = 6 then 1 else if d = 11 then 1 else 0
def H5 : Nat → Nat := fun d => 0
def SD : Nat → Nat := fun d => 0
def Ss : Nat → Nat := fun d => 0
def S9 : Nat → Nat := fun d => 0
def L9 : Nat → Nat := fun d => 0
def A2b : Nat → Nat := fun d => if d = 2 then 1 else if d = 4 then 1 else 0
def A5V : Nat → Nat := fun d => if d = 0 then 1 else 0
def Gk : Nat → Nat := fun d => if d = 2 then 1 else if d = 3 then 2 else 0
def TD : Nat → Nat := fun d => if d = 5 then 1 else 0
def A77 : Nat → Nat := fun d => 0
def MV : Nat → Nat := fun d => if d = 2 then 1 else if d = 3 then 1 else if d = 5 then 3 else if d = 10 then 3 else 0
def CS : Nat → Nat := fun d => if d = 8 then 1 else if d = 12 then 1 else if d = 13 then 2 else if d = 15 then 1 else if d = 17 then 1 else 0
def A6F : Nat → Nat := fun d => if d = 21 then 1 else 0
def DF : Nat → Nat := fun d => if d = 2 then 1 else if d = 3 then 1 else if d = 5 then 2 else if d = 7 then 1 else if d = 11 then 1 else if d = 15 then 2 else if d = 34 then 1 else if d = 49 then 1 else 0
def GT : Nat → Nat := fun d => if d = 2 then 1 else if d = 3 then 1 else if d = 5 then 2 else if d = 7 then 1 else if d = 11 then 1 else if d = 15 then 2 else if d = 34 then 1 else 0
def L4 : Nat → Nat := fun d => if d = 8 then 1 else 0
def XP : Nat → Nat := fun d => 0
def We : Nat → Nat := fun d => 0
def EE : Nat → Nat := fun d => 0
def Gi : Nat → Nat := fun d => if d = 13 then 1 else 0
def A32 : Nat → Nat := fun d => 0
def A21 : Nat → Nat := fun d => 0
def A3x : Nat → Nat := fun d => 0
def A6S : Nat → Nat := fun d => 0
def A1v : Nat → Nat := fun d => 0
def A86 : Nat → Nat := fun d => 0
def A7a : Nat → Nat := fun d => if d = 5 then 1 else 0
def RX : Nat → Nat := fun d => 0
def Q4 : Nat → Nat := fun d => 0
def JF : Nat → Nat := fun d => 0
def NF : Nat → Nat := fun d => 0
def EJ : Nat → Nat := fun d => if d = 10 then 1 else if d = 12 then 1 else 0
def My : Nat → Nat := fun d => if d = 10 then 1 else 0
def SE : Nat → Nat := fun d => if d = 58 then 1 else if d = 60 then 3 else if d = 63 then 3 else 0
def A1m : Nat → Nat := fun d => 0
def ED : Nat → Nat := fun d => 0
def GV : Nat → Nat := fun d => if d = 5 then 1 else 0
def CB : Nat → Nat := fun d => if d = 48 then 1 else 0
def SP : Nat → Nat := fun d => 0
def QF : Nat → Nat := fun d => 0
def QG : Nat → Nat := fun d => 0
def A1W : Nat → Nat := fun d => 0
def A2H : Nat → Nat := fun d => 0
def NV : Nat → Nat := fun d => 0
def CG : Nat → Nat := fun d => if d = 2 then 1 else if d = 23 then 2 else if d = 94 then 2 else if d = 116 then 2 else if d = 141 then 2 else 0
def MQ : Nat → Nat := fun d => 0
def Hv : Nat → Nat := fun d => if d = 4 then 1 else if d = 6 then 3 else if d = 11 then 3 else if d = 16 then 3 else if d = 19 then 3 else 0
def Jy : Nat → Nat := fun d => if d = 5 then 2 else 0
def WK : Nat → Nat := fun d => if d = 6 then 1 else 0
def SN : Nat → Nat := fun d => if d = 8 then 1 else if d = 10 then 1 else 0
def Cr : Nat → Nat := fun d => if d = 8 then 1 else if d = 10 then 2 else if d = 19 then 2 else if d = 72 then 1 else 0
def JC : Nat → Nat := fun d => if d = 8 then 1 else if d = 10 then 2 else if d = 18 then 1 else if d = 47 then 1 else 0
def Q1 : Nat → Nat := fun d => 0
def Q3 : Nat → Nat := fun d => 0
def A7x : Nat → Nat := fun d => 0
def A7d : Nat → Nat := fun d => if d = 8 then 1 else 0
def A6L : Nat → Nat := fun d => 0
def A8c : Nat → Nat := fun d => 0
def M7 : Nat → Nat := fun d => if d = 3 then 2 else 0
def DP : Nat → Nat := fun d => if d = 30 then 1 else if d = 34 then 1 else 0
def QO : Nat → Nat := fun d => if d = 11 then 1 else 0
def A3z : Nat → Nat := fun d => if d = 5 then 1 else 0
def Wh : Nat → Nat := fun d => if d = 14 then 1 else 0
def EV : Nat → Nat := fun d => if d = 19 then 1 else 0
def JI : Nat → Nat := fun d => 0
def Lg : Nat → Nat := fun d => 0
def Sz : Nat → Nat := fun d => 0
def CZ : Nat → Nat := fun d => if d = 11 then 1 else if d = 21 then 1 else 0
def Gm : Nat → Nat := fun d => if d = 13 then 1 else 0
def A51 : Nat → Nat := fun d => if d = 8 then 1 else 0
def SG : Nat → Nat := fun d => 0
def CU : Nat → Nat := fun d => if d = 9 then 1 else 0
def Se : Nat → Nat := fun d => 0
def XY : Nat → Nat := fun d => if d = 3 then 1 else 0
def A33 : Nat → Nat := fun d => 0
def ND : Nat → Nat := fun d => 0
def A2k : Nat → Nat := fun d => 0
def QK : Nat → Nat := fun d => 0
def A1E : Nat → Nat := fun d => if d = 3 then 1 else 0
def A2h : Nat → Nat := fun d => if d = 3 then 1 else 0
def A2U : Nat → Nat := fun d => 0
def Wq : Nat → Nat := fun d => if d = 5 then 2 else if d = 9 then 2 else 0
def A1x : Nat → Nat := fun d => if d = 3 then 1 else 0
def NK : Nat → Nat := fun d => if d = 30 then 1 else 0
def Y0 : Nat → Nat := fun d => 0
def HN : Nat → Nat := fun d => if d = 9 then 1 else if d = 10 then 1 else 0
def S5 : Nat → Nat := fun d => 0
def Nf : Nat → Nat := fun d => if d = 3 then 1 else 0
def Nz : Nat → Nat := fun d => if d = 4 then 1 else if d = 75 then 3 else 0
def Vg : Nat → Nat := fun d => 0
def D8 : Nat → Nat := fun d => 0
def SZ : Nat → Nat := fun d => 0
def CC : Nat → Nat := fun d => if d = 5 then 2 else if d = 7 then 1 else if d = 9 then 2 else if d = 76 then 1 else if d = 83 then 2 else 0
def Qy : Nat → Nat := fun d => 0
def Mg : Nat → Nat := fun d => 0
def AD : Nat → Nat := fun d => if d = 8 then 1 else if d = 39 then 2 else if d = 94 then 2 else if d = 109 then 3 else if d = 128 then 3 else if d = 137 then 3 else if d = 151 then 2 else if d = 164 then 3 else if d = 165 then 2 else if d = 181 then 3 else if d = 182 then 3 else if d = 183 then 2 else if d = 192 then 3 else if d = 202 then 2 else if d = 211 then 2 else if d = 223 then 2 else if d = 233 then 2 else if d = 251 then 3 else if d = 253 then 2 else if d = 263 then 2 else 0
def YD : Nat → Nat := fun d => if d = 8 then 1 else if d = 39 then 2 else if d = 56 then 1 else if d = 94 then 2 else if d = 109 then 3 else if d = 128 then 3 else if d = 137 then 3 else if d = 151 then 2 else if d = 164 then 3 else if d = 165 then 2 else if d = 181 then 3 else if d = 182 then 3 else if d = 183 then 2 else if d = 192 then 3 else if d = 199 then 1 else if d = 202 then 2 else if d = 208 then 1 else if d = 211 then 2 else if d = 223 then 2 else if d = 233 then 2 else if d = 251 then 3 else if d = 253 then 2 else if d = 263 then 2 else 0
def BS : Nat → Nat := fun d => if d = 10 then 1 else if d = 11 then 1 else if d = 13 then 2 else if d = 20 then 3 else if d = 22 then 2 else if d = 36 then 3 else if d = 38 then 3 else if d = 56 then 3 else if d = 58 then 3 else if d = 74 then 3 else 0
def A0I : Nat → Nat := fun d => if d = 10 then 1 else if d = 11 then 2 else if d = 13 then 2 else if d = 20 then 3 else if d = 36 then 3 else if d = 38 then 3 else if d = 56 then 3 else if d = 58 then 3 else if d = 74 then 3 else 0
def C9 : Nat → Nat := fun d => if d = 10 then 1 else if d = 12 then 1 else if d = 55 then 2 else if d = 72 then 1 else if d = 87 then 1 else 0
def Bl : Nat → Nat := fun d => if d = 10 then 1 else if d = 12 then 1 else if d = 55 then 1 else if d = 72 then 1 else if d = 87 then 1 else 0
def Lo : Nat → Nat := fun d => 0
def LS : Nat → Nat := fun d => 0
def Jr : Nat → Nat := fun d => 0
def ZV : Nat → Nat := fun d => if d = 15 then 1 else 0
def Nl : Nat → Nat := fun d => if d = 5 then 1 else 0
def Nr : Nat → Nat := fun d => 0
def Uc : Nat → Nat := fun d => 0
def PK : Nat → Nat := fun d => 0
def VU : Nat → Nat := fun d => 0
def Jm : Nat → Nat := fun d => if d = 8 then 1 else 0
def Vk : Nat → Nat := fun d => 0
def UB : Nat → Nat := fun d => 0
def Gx : Nat → Nat := fun d => 0
def Nk : Nat → Nat := fun d => 0
def Vj : Nat → Nat := fun d => 0
def VX : Nat → Nat := fun d => 0
def Kd : Nat → Nat := fun d => if d = 3 then 2 else 0
def Cp : Nat → Nat := fun d => if d = 11 then 1 else if d = 13 then 1 else 0
def W3 : Nat → Nat := fun d => 0
def Nt : Nat → Nat := fun d => 0
def UG : Nat → Nat := fun d => 0
def VK : Nat → Nat := fun d => 0
def Ht : Nat → Nat := fun d => if d = 2 then 1 else if d = 4 then 1 else if d = 6 then 1 else if d = 15 then 1 else if d = 19 then 1 else 0
def DC : Nat → Nat := fun d => if d = 12 then 1 else 0
def T3 : Nat → Nat := fun d => if d = 7 then 1 else if d = 8 then 1 else 0
def PV : Nat → Nat := fun d => 0
def U2 : Nat → Nat := fun d => 0
def Jn : Nat → Nat := fun d => if d = 13 then 2 else 0
def YB : Nat → Nat := fun d => 0
def Pu : Nat → Nat := fun d => 0
def Hx : Nat → Nat := fun d => 0
def Ux : Nat → Nat := fun d => 0
def TW : Nat → Nat := fun d => 0
def V3 : Nat → Nat := fun d => 0
def VT : Nat → Nat := fun d => 0
def UX : Nat → Nat := fun d => 0
def Kw : Nat → Nat := fun d => if d = 2 then 1 else if d = 5 then 1 else if d = 76 then 3 else 0
def VI : Nat → Nat := fun d => 0
def JR : Nat → Nat := fun d => 0
def Db : Nat → Nat := fun d => 0
def TU : Nat → Nat := fun d => 0
def Du : Nat → Nat := fun d => if d = 23 then 2 else if d = 42 then 2 else if d = 54 then 2 else 0
def J2 : Nat → Nat := fun d => 0
def Bc : Nat → Nat := fun d => 0
def Dz : Nat → Nat := fun d => if d = 28 then 1 else 0
def Ph : Nat → Nat := fun d => if d = 20 then 1 else if d = 22 then 5 else 0
def ZA : Nat → Nat := fun d => if d = 20 then 1 else 0
def Kv : Nat → Nat := fun d => 0
def Po : Nat → Nat := fun d => if d = 10 then 1 else 0
def Pp : Nat → Nat := fun d => 0
def R7 : Nat → Nat := fun d => 0
def Ug : Nat → Nat := fun d => 0
def AR : Nat → Nat := fun d => if d = 12 then 2 else if d = 14 then 1 else if d = 25 then 3 else if d = 27 then 3 else if d = 32 then 3 else if d = 39 then 3 else if d = 48 then 3 else if d = 58 then 3 else if d = 64 then 3 else if d = 73 then 3 else if d = 80 then 3 else if d = 94 then 3 else if d = 103 then 3 else if d = 108 then 3 else if d = 116 then 3 else if d = 130 then 3 else if d = 137 then 3 else if d = 142 then 3 else if d = 151 then 3 else 0
def B3 : Nat → Nat := fun d => if d = 8 then 1 else if d = 11 then 1 else if d = 14 then 3 else if d = 28 then 3 else if d = 32 then 3 else if d = 39 then 3 else if d = 47 then 4 else if d = 53 then 3 else if d = 75 then 4 else if d = 81 then 4 else if d = 86 then 3 else if d = 91 then 3 else 0
def A0t : Nat → Nat := fun d => if d = 8 then 1 else if d = 11 then 1 else if d = 14 then 3 else if d = 28 then 3 else if d = 32 then 3 else if d = 39 then 3 else if d = 47 then 3 else if d = 53 then 3 else if d = 75 then 3 else if d = 81 then 3 else if d = 86 then 3 else if d = 91 then 3 else 0
def HX : Nat → Nat := fun d => 0
def UL : Nat → Nat := fun d => 0
def VQ : Nat → Nat := fun d => 0
def Tq : Nat → Nat := fun d => 0
def Lk : Nat → Nat := fun d => 0
def PY : Nat → Nat := fun d => 0
def VJ : Nat → Nat := fun d => 0
def MK : Nat → Nat := fun d => 0
def A05 : Nat → Nat := fun d => 0
def T4 : Nat → Nat := fun d => 0
def Lu : Nat → Nat := fun d => 0
def PB : Nat → Nat := fun d => 0
def SY : Nat → Nat := fun d => 0
def VS : Nat → Nat := fun d => 0
def KK : Nat → Nat := fun d => if d = 5 then 1 else if d = 6 then 1 else if d = 66 then 3 else if d = 115 then 3 else if d = 136 then 3 else 0
def Hh : Nat → Nat := fun d => if d = 5 then 1 else if d = 8 then 1 else if d = 79 then 3 else 0
def LE : Nat → Nat := fun d => 0
def JY : Nat → Nat := fun d => 0
def Ly : Nat → Nat := fun d => 0
def AC : Nat → Nat := fun d => if d = 101 then 1 else if d = 107 then 5 else 0
def Zu : Nat → Nat := fun d => if d = 101 then 1 else 0
def UC : Nat → Nat := fun d => 0
def LH : Nat → Nat := fun d => 0
def V9 : Nat → Nat := fun d => 0
def Mb : Nat → Nat := fun d => if d = 14 then 3 else 0
def B8 : Nat → Nat := fun d => if d = 8 then 1 else if d = 11 then 1 else if d = 13 then 3 else if d = 21 then 3 else if d = 28 then 3 else if d = 36 then 4 else if d = 50 then 3 else if d = 56 then 3 else 0
def A18 : Nat → Nat := fun d => if d = 8 then 1 else if d = 11 then 1 else if d = 13 then 3 else if d = 21 then 3 else if d = 28 then 3 else if d = 36 then 3 else if d = 50 then 3 else if d = 56 then 3 else 0
def Hu : Nat → Nat := fun d => if d = 19 then 1 else 0
def Ln : Nat → Nat := fun d => 0
def VD : Nat → Nat := fun d => 0
def UP : Nat → Nat := fun d => 0
def LJ : Nat → Nat := fun d => 0
def Jh : Nat → Nat := fun d => 0
def BI : Nat → Nat := fun d => 0
def Hj : Nat → Nat := fun d => 0
def D5 : Nat → Nat := fun d => 0
abbrev Ag (V : At) (n : Nat) (vf : ET) : Prop := V.ext n = none ∧ V.fn n = some vf
structure AS (V : At) : Prop where
  c_mathbits_TrailingZeros64 : V.ext AL = some Z0
  c_z0 : Ag V Aaa ⟨A4d, A0N⟩
  c_z1 : Ag V A3A ⟨Agk, Ac5⟩
  c_z2 : Ag V A9f ⟨Acf, A4G⟩
  c_z3 : Ag V A9A ⟨Ada, ME⟩
  c_z4 : Ag V A8j ⟨A99, A3Q⟩
  c_z5 : Ag V A8W ⟨A9S, A6E⟩
  c_z6 : Ag V Aa9 ⟨A9v, A67⟩
  c_z7 : Ag V A9c ⟨Zo, Wj⟩
  c_z8 : Ag V A8Z ⟨Abg, A8S⟩
  h_z9 : V.fnH A3E = some ⟨A9U, A5x⟩
  c_z9 : Ag V A3E ⟨A9U, Ado⟩
  c_z10 : Ag V A6U ⟨AaV, A5I⟩
  c_z11 : Ag V A1z ⟨A5U, A25⟩
  c_z12 : Ag V A3v ⟨Sm, Bk⟩
  c_z13 : Ag V A2y ⟨A69, H5⟩
  c_z14 : Ag V A3w ⟨Yl, SD⟩
  c_z15 : Ag V A35 ⟨WE, Ss⟩
  c_z16 : Ag V A26 ⟨Wv, S9⟩
  c_z17 : Ag V A2Z ⟨Wn, L9⟩
  c_z18 : Ag V A1J ⟨A5K, A2b⟩
  c_z19 : Ag V A6z ⟨AaE, A5V⟩
  c_z20 : Ag V A1u ⟨A5b, Gk⟩
  h_z21 : V.fnH PX = some ⟨WX, TD⟩
  c_z21 : Ag V PX ⟨WX, A77⟩
  h_z22 : V.fnH A3a = some ⟨A5a, MV⟩
  c_z23 : Ag V A3o ⟨HB, CS⟩
  c_z24 : Ag V A5H ⟨AaG, A6F⟩
  h_z25 : V.fnH NX = some ⟨Sf, DF⟩
  c_z25 : Ag V NX ⟨Sf, GT⟩
  c_z26 : Ag V A2o ⟨A5i, L4⟩
  c_z27 : Ag V WF ⟨A3s, XP⟩
  c_z28 : Ag V Xh ⟨A2j, We⟩
  c_z29 : Ag V A2Y ⟨A7B, EE⟩
  c_z30 : Ag V A3n ⟨A5S, Gi⟩
  c_z31 : Ag V A29 ⟨A5N, A32⟩
  c_z32 : Ag V A2w ⟨A8a, A21⟩
  c_z33 : Ag V A3q ⟨A68, A3x⟩
  c_z34 : Ag V A6x ⟨AaY, A6S⟩
  c_z35 : Ag V A2M ⟨A7e, A1v⟩
  c_z36 : Ag V A75 ⟨AaL, A86⟩
  c_z37 : Ag V A5Y ⟨Aaw, A7a⟩
  c_z38 : Ag V A1j ⟨Y8, RX⟩
  c_z39 : Ag V A3k ⟨A81, Q4⟩
  c_z40 : Ag V A1C ⟨A6p, JF⟩
  c_z41 : Ag V WN ⟨A64, NF⟩
  c_z42 : Ag V A1h ⟨A2T, EJ⟩
  c_z43 : Ag V A2I ⟨A7U, My⟩
  c_z44 : Ag V Yd ⟨A85, SE⟩
  c_z45 : Ag V A1s ⟨A7k, A1m⟩
  c_z46 : Ag V X7 ⟨A7n, ED⟩
  c_z47 : Ag V Wm ⟨A2z, GV⟩
  c_z48 : Ag V Xn ⟨A39, CB⟩
  c_z49 : Ag V A1l ⟨A6C, SP⟩
  c_z50 : Ag V A2d ⟨A83, QF⟩
  c_z51 : Ag V A1R ⟨A5D, QG⟩
  c_z52 : Ag V Yn ⟨A7E, A1W⟩
  c_z53 : Ag V A2m ⟨A5c, A2H⟩
  c_z54 : Ag V XV ⟨A1T, NV⟩
  c_z55 : Ag V WH ⟨A2X, CG⟩
  h_z56 : V.fnH RT = some ⟨Xq, MQ⟩
  h_z57 : V.fnH A2J = some ⟨A6f, Hv⟩
  c_z58 : Ag V A3p ⟨A5X, Jy⟩
  c_z59 : Ag V A1Y ⟨A1w, WK⟩
  c_z60 : Ag V A2S ⟨Yh, SN⟩
  c_z61 : Ag V A2E ⟨A2i, Cr⟩
  c_z62 : Ag V A1b ⟨QM, JC⟩
  c_z63 : Ag V A1t ⟨RP, Q1⟩
  c_z64 : Ag V A1k ⟨SM, Q3⟩
  c_z65 : Ag V A5g ⟨AaN, A7x⟩
  c_z66 : Ag V A7w ⟨AaI, A7d⟩
  c_z67 : Ag V A70 ⟨AaQ, A6L⟩
  c_z68 : Ag V A66 ⟨AaX, A8c⟩
  c_z69 : Ag V XO ⟨A3r, M7⟩
  c_z70 : Ag V A2O ⟨A1N, DP⟩
  c_z71 : Ag V A23 ⟨A3h, QO⟩
  c_z72 : Ag V A3d ⟨A6A, A3z⟩
  c_z73 : Ag V A3e ⟨A2A, Wh⟩
  c_z74 : Ag V A1i ⟨A5k, EV⟩
  c_z75 : Ag V QH ⟨A6c, JI⟩
  c_z76 : Ag V QV ⟨A6k, Lg⟩
  c_z77 : Ag V A2K ⟨XQ, Sz⟩
  c_z78 : Ag V A1O ⟨A50, CZ⟩
  c_z79 : Ag V A3t ⟨A1V, Gm⟩
  c_z80 : Ag V A7b ⟨AaH, A51⟩
  c_z81 : Ag V A1Z ⟨WO, SG⟩
  c_z82 : Ag V A1I ⟨A38, CU⟩
  c_z83 : Ag V A22 ⟨XU, Se⟩
  c_z84 : Ag V Y2 ⟨A1K, XY⟩
  c_z85 : Ag V A1c ⟨A7m, A33⟩
  c_z86 : Ag V A2v ⟨A6e, ND⟩
  c_z87 : Ag V A3l ⟨A7J, A2k⟩
  c_z88 : Ag V A2g ⟨SQ, QK⟩
  c_z89 : Ag V A1P ⟨A7l, A1E⟩
  c_z90 : Ag V A2n ⟨A89, A2h⟩
  c_z91 : Ag V A28 ⟨A5s, A2U⟩
  c_z92 : Ag V A2D ⟨A6y, Wq⟩
  c_z93 : Ag V XT ⟨A78, A1x⟩
  c_z94 : Ag V A2R ⟨A5j, NK⟩
  c_z95 : Ag V A2r ⟨A1g, Y0⟩
  c_z96 : Ag V A36 ⟨A76, HN⟩
  c_z97 : Ag V A3c ⟨A7V, S5⟩
  h_z98 : V.fnH A2F = some ⟨A5P, Nf⟩
  h_z99 : V.fnH A1S = some ⟨A6w, Nz⟩
  c_z100 : Ag V VW ⟨ZJ, Vg⟩
  c_z101 : Ag V Vu ⟨A0B, D8⟩
  c_z102 : Ag V U5 ⟨Yy, SZ⟩
  c_z103 : Ag V UE ⟨Um, CC⟩
  c_z104 : Ag V TE ⟨Zs, Qy⟩
  h_z105 : V.fnH Q0 = some ⟨US, Mg⟩
  h_z106 : V.fnH Lq = some ⟨Qt, AD⟩
  c_z106 : Ag V Lq ⟨Qt, YD⟩
  h_z107 : V.fnH Lp = some ⟨PA, BS⟩
  c_z107 : Ag V Lp ⟨PA, A0I⟩
  h_z108 : V.fnH GL = some ⟨Cf, C9⟩
  c_z108 : Ag V GL ⟨Cf, Bl⟩
  c_z109 : Ag V Tv ⟨A0e, Lo⟩
  c_z110 : Ag V TA ⟨ZS, LS⟩
  c_z111 : Ag V Ta ⟨Vf, Jr⟩
  c_z112 : Ag V ZD ⟨A6b, ZV⟩
  c_z113 : Ag V T5 ⟨Q8, Nl⟩
  c_z114 : Ag V Rb ⟨Z8, Nr⟩
  c_z115 : Ag V LO ⟨A00, Uc⟩
  c_z116 : Ag V T9 ⟨U6, PK⟩
  c_z117 : Ag V R1 ⟨Z6, VU⟩
  c_z118 : Ag V Qh ⟨Tf, Jm⟩
  c_z119 : Ag V PG ⟨A0z, Vk⟩
  c_z120 : Ag V V2 ⟨A0r, UB⟩
  c_z121 : Ag V To ⟨A0D, Gx⟩
  c_z122 : Ag V Ue ⟨Qo, Nk⟩
  c_z123 : Ag V QE ⟨YT, Vj⟩
  c_z124 : Ag V Uf ⟨A0v, VX⟩
  c_z125 : Ag V UK ⟨ZF, Kd⟩
  c_z126 : Ag V UJ ⟨A0a, Cp⟩
  c_z127 : Ag V Tp ⟨A0l, W3⟩
  c_z128 : Ag V Qm ⟨YX, Nt⟩
  c_z129 : Ag V TV ⟨A0P, UG⟩
  c_z130 : Ag V PH ⟨Yw, VK⟩
  c_z131 : Ag V PR ⟨ZW, Ht⟩
  c_z132 : Ag V N8 ⟨ZK, DC⟩
  c_z133 : Ag V N1 ⟨A07, T3⟩
  c_z134 : Ag V MR ⟨UU, PV⟩
  c_z135 : Ag V UR ⟨A09, U2⟩
  h_z136 : V.fnH K0 = some ⟨Nm, Jn⟩
  c_z136 : Ag V K0 ⟨Nm, YB⟩
  h_z137 : V.fnH Nu = some ⟨Zx, Pu⟩
  c_z138 : Ag V TF ⟨A0T, Hx⟩
  c_z139 : Ag V Py ⟨A0q, Ux⟩
  c_z140 : Ag V PM ⟨ZO, TW⟩
  c_z141 : Ag V TZ ⟨A0V, V3⟩
  c_z142 : Ag V UV ⟨A17, VT⟩
  c_z143 : Ag V U7 ⟨Za, UX⟩
  h_z144 : V.fnH VN = some ⟨Qi, Kw⟩
  c_z145 : Ag V UM ⟨YP, VI⟩
  c_z146 : Ag V Ut ⟨A0Y, JR⟩
  c_z147 : Ag V Vw ⟨Qe, Db⟩
  c_z148 : Ag V TS ⟨A0Z, TU⟩
  h_z149 : V.fnH UY = some ⟨A08, Du⟩
  c_z150 : Ag V TH ⟨Zt, J2⟩
  c_z151 : Ag V Ty ⟨ZM, Bc⟩
  c_z152 : Ag V N5 ⟨A0Q, Dz⟩
  h_z153 : V.fnH LC = some ⟨QZ, Ph⟩
  c_z153 : Ag V LC ⟨QZ, ZA⟩
  c_z154 : Ag V VE ⟨YY, Kv⟩
  h_z155 : V.fnH TP = some ⟨A14, Po⟩
  h_z156 : V.fnH Tk = some ⟨Zq, Pp⟩
  c_z157 : Ag V UT ⟨Vm, R7⟩
  c_z158 : Ag V SW ⟨ZX, Ug⟩
  h_z159 : V.fnH Nc = some ⟨A0R, AR⟩
  h_z160 : V.fnH J6 = some ⟨PF, B3⟩
  c_z160 : Ag V J6 ⟨PF, A0t⟩
  c_z161 : Ag V Up ⟨A0E, HX⟩
  c_z162 : Ag V Uk ⟨A0O, UL⟩
  c_z163 : Ag V Qx ⟨A15, VQ⟩
  c_z164 : Ag V TQ ⟨A0p, Tq⟩
  c_z165 : Ag V UO ⟨A06, Lk⟩
  c_z166 : Ag V V6 ⟨T0, PY⟩
  c_z167 : Ag V Uo ⟨A0s, VJ⟩
  c_z168 : Ag V V7 ⟨Zi, MK⟩
  c_z170 : Ag V A0C ⟨A5Q, A05⟩
  c_z171 : Ag V T7 ⟨A0n, T4⟩
  c_z172 : Ag V W7 ⟨A0c, Lu⟩
  c_z173 : Ag V Vx ⟨SX, PB⟩
  c_z174 : Ag V W6 ⟨YW, SY⟩
  c_z175 : Ag V Q2 ⟨ZN, VS⟩
  h_z176 : V.fnH Tz = some ⟨PD, KK⟩
  h_z177 : V.fnH Td = some ⟨A0g, Hh⟩
  c_z178 : Ag V V8 ⟨A0H, LE⟩
  c_z179 : Ag V VZ ⟨Ys, JY⟩
  c_z180 : Ag V TX ⟨A0y, Ly⟩
  h_z181 : V.fnH Ls = some ⟨QC, AC⟩
  c_z181 : Ag V Ls ⟨QC, Zu⟩
  c_z182 : Ag V Tx ⟨YK, UC⟩
  c_z183 : Ag V PU ⟨Zj, LH⟩
  c_z184 : Ag V UF ⟨A0h, V9⟩
  h_z185 : V.fnH Ti = some ⟨Yz, Mb⟩
  h_z186 : V.fnH Lz = some ⟨MH, B8⟩
  c_z186 : Ag V Lz ⟨MH, A18⟩
  c_z187 : Ag V U3 ⟨A0J, Hu⟩
  c_z188 : Ag V Ub ⟨A0A, Ln⟩
  c_z189 : Ag V Tr ⟨Zm, VD⟩
  c_z190 : Ag V W4 ⟨YQ, UP⟩
  c_z191 : Ag V SU ⟨A0d, LJ⟩
  c_z192 : Ag V V4 ⟨Zy, Jh⟩
  c_z193 : Ag V TC ⟨YG, BI⟩
  c_z194 : Ag V Uu ⟨Yv, Hj⟩
  c_z195 : Ag V Vz ⟨J8, D5⟩
def AiX (g : Nat) : Nat → Nat := if g = Aaa then A0N else if g = A3A then Ac5 else if g = A9f then A4G else if g = A9A then ME else if g = A8j then A3Q else if g = A8W then A6E else if g = Aa9 then A67 else if g = A9c then Wj else if g = A8Z then A8S else if g = A3E then Ado else if g = A6U then A5I else if g = A1z then A25 else if g = A3v then Bk else if g = A2y then H5 else if g = A3w then SD else if g = A35 then Ss else if g = A26 then S9 else if g = A2Z then L9 else if g = A1J then A2b else if g = A6z then A5V else if g = A1u then Gk else if g = PX then A77 else if g = A3o then CS else if g = A5H then A6F else if g = NX then GT else if g = A2o then L4 else if g = WF then XP else if g = Xh then We else if g = A2Y then EE else if g = A3n then Gi else if g = A29 then A32 else if g = A2w then A21 else if g = A3q then A3x else if g = A6x then A6S else if g = A2M then A1v else if g = A75 then A86 else if g = A5Y then A7a else if g = A1j then RX else if g = A3k then Q4 else if g = A1C then JF else fun _ => 0
def AiZ (g : Nat) : Nat → Nat := if g = WN then NF else if g = A1h then EJ else if g = A2I then My else if g = Yd then SE else if g = A1s then A1m else if g = X7 then ED else if g = Wm then GV else if g = Xn then CB else if g = A1l then SP else if g = A2d then QF else if g = A1R then QG else if g = Yn then A1W else if g = A2m then A2H else if g = XV then NV else if g = WH then CG else if g = A3p then Jy else if g = A1Y then WK else if g = A2S then SN else if g = A2E then Cr else if g = A1b then JC else if g = A1t then Q1 else if g = A1k then Q3 else if g = A5g then A7x else if g = A7w then A7d else if g = A70 then A6L else if g = A66 then A8c else if g = XO then M7 else if g = A2O then DP else if g = A23 then QO else if g = A3d then A3z else if g = A3e then Wh else if g = A1i then EV else if g = QH then JI else if g = QV then Lg else if g = A2K then Sz else if g = A1O then CZ else if g = A3t then Gm else if g = A7b then A51 else if g = A1Z then SG else if g = A1I then CU else AiX g
def AjX (g : Nat) : Nat → Nat := if g = A22 then Se else if g = Y2 then XY else if g = A1c then A33 else if g = A2v then ND else if g = A3l then A2k else if g = A2g then QK else if g = A1P then A1E else if g = A2n then A2h else if g = A28 then A2U else if g = A2D then Wq else if g = XT then A1x else if g = A2R then NK else if g = A2r then Y0 else if g = A36 then HN else if g = A3c then S5 else if g = VW then Vg else if g = Vu then D8 else if g = U5 then SZ else if g = UE then CC else if g = TE then Qy else if g = Lq then YD else if g = Lp then A0I else if g = GL then Bl else if g = Tv then Lo else if g = TA then LS else if g = Ta then Jr else if g = ZD then ZV else if g = T5 then Nl else if g = Rb then Nr else if g = LO then Uc else if g = T9 then PK else if g = R1 then VU else if g = Qh then Jm else if g = PG then Vk else if g = V2 then UB else if g = To then Gx else if g = Ue then Nk else if g = QE then Vj else if g = Uf then VX else if g = UK then Kd else AiZ g
def Aku (g : Nat) : Nat → Nat := if g = UJ then Cp else if g = Tp then W3 else if g = Qm then Nt else if g = TV then UG else if g = PH then VK else if g = PR then Ht else if g = N8 then DC else if g = N1 then T3 else if g = MR then PV else if g = UR then U2 else if g = K0 then YB else if g = TF then Hx else if g = Py then Ux else if g = PM then TW else if g = TZ then V3 else if g = UV then VT else if g = U7 then UX else if g = UM then VI else if g = Ut then JR else if g = Vw then Db else if g = TS then TU else if g = TH then J2 else if g = Ty then Bc else if g = N5 then Dz else if g = LC then ZA else if g = VE then Kv else if g = UT then R7 else if g = SW then Ug else if g = J6 then A0t else if g = Up then HX else if g = Uk then UL else if g = Qx then VQ else if g = TQ then Tq else if g = UO then Lk else if g = V6 then PY else if g = Uo then VJ else if g = V7 then MK else if g = A0C then A05 else if g = T7 then T4 else if g = W7 then Lu else AjX g
def Akj (g : Nat) : Nat → Nat := if g = Vx then PB else if g = W6 then SY else if g = Q2 then VS else if g = V8 then LE else if g = VZ then JY else if g = TX then Ly else if g = Ls then Zu else if g = Tx then UC else if g = PU then LH else if g = UF then V9 else if g = Lz then A18 else if g = U3 then Hu else if g = Ub then Ln else if g = Tr then VD else if g = W4 then UP else if g = SU then LJ else if g = V4 then Jh else if g = TC then BI else if g = Uu then Hj else if g = Vz then D5 else Aku g
def muP (g : Nat) : Nat → Nat := Akj g
def Aid (g : Nat) : Nat → Nat := if g = A3E then A5x else if g = PX then TD else if g = A3a then MV else if g = NX then DF else if g = RT then MQ else if g = A2J then Hv else if g = A2F then Nf else if g = A1S then Nz else if g = Q0 then Mg else if g = Lq then AD else if g = Lp then BS else if g = GL then C9 else if g = K0 then Jn else if g = Nu then Pu else if g = VN then Kw else if g = UY then Du else if g = LC then Ph else if g = TP then Po else if g = Tk then Pp else if g = Nc then AR else if g = J6 then B3 else if g = Tz then KK else if g = Td then Hh else if g = Ls then AC else if g = Ti then Mb else if g = Lz then B8 else fun _ => 0
def muH (g : Nat) : Nat → Nat := Aid g
end Go.AM
