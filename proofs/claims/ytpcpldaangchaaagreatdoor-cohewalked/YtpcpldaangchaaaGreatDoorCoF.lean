/-
  Own work, part of the proof of CoheWalked: the code of the functions that the law reaches, as the machine has it; read off the program as the text is compiled.
-/
import Derived.Test.YtpcpldaangchaaaGreatDoorCoB
import Derived.Test.YtpcpldaangchaaaGreatDoorCoC
import Derived.Test.YtpcpldaangchaaaGreatDoorCoD
import Derived.Test.YtpcpldaangchaaaGreatDoorCoE
set_option maxRecDepth 4000
set_option linter.unusedVariables false
set_option linter.unusedSimpArgs false
set_option linter.unusedSectionVars false
set_option linter.unnecessarySimpa false
set_option maxRecDepth 100000
namespace Go.AM
open Go Go.Proofs
def XS : Nat → Nat := fun d => if d = 5 then 1 else if d = 7 then 1 else 0
def A9O : Nat → Nat := fun d => if d = 1 then 1 else if d = 3 then 1 else if d = 4 then 1 else if d = 5 then 1 else if d = 6 then 1 else if d = 17 then 2 else 0
def A3H : Nat → Nat := fun d => if d = 2 then 1 else if d = 4 then 1 else if d = 8 then 2 else if d = 9 then 3 else 0
def A5g : Nat → Nat := fun d => 0
def WX : Nat → Nat := fun d => if d = 9 then 1 else if d = 10 then 1 else 0
def A4I : Nat → Nat := fun d => if d = 4 then 1 else 0
def A6J : Nat → Nat := fun d => if d = 2 then 1 else if d = 3 then 1 else if d = 5 then 2 else if d = 7 then 1 else if d = 11 then 1 else if d = 15 then 2 else if d = 46 then 1 else 0
def Lx : Nat → Nat := fun d => if d = 2 then 1 else if d = 3 then 1 else if d = 5 then 2 else if d = 7 then 1 else if d = 11 then 1 else if d = 15 then 2 else 0
def Pg : Nat → Nat := fun d => if d = 6 then 1 else 0
def A7W : Nat → Nat := fun d => 0
def C5 : Nat → Nat := fun d => if d = 6 then 1 else if d = 11 then 1 else 0
def Gy : Nat → Nat := fun d => 0
def RE : Nat → Nat := fun d => 0
def Rl : Nat → Nat := fun d => 0
def A1F : Nat → Nat := fun d => if d = 2 then 1 else if d = 4 then 1 else 0
def A4F : Nat → Nat := fun d => if d = 0 then 1 else 0
def EY : Nat → Nat := fun d => if d = 2 then 1 else if d = 3 then 2 else 0
def QB : Nat → Nat := fun d => if d = 5 then 1 else 0
def A5G : Nat → Nat := fun d => 0
def Mg : Nat → Nat := fun d => if d = 2 then 1 else if d = 3 then 1 else if d = 5 then 3 else if d = 10 then 3 else 0
def YL : Nat → Nat := fun d => if d = 2 then 1 else if d = 3 then 1 else if d = 5 then 2 else if d = 7 then 1 else if d = 11 then 1 else if d = 15 then 2 else if d = 34 then 1 else if d = 49 then 1 else 0
def GB : Nat → Nat := fun d => if d = 2 then 1 else if d = 3 then 1 else if d = 5 then 2 else if d = 7 then 1 else if d = 11 then 1 else if d = 15 then 2 else if d = 34 then 1 else 0
def KH : Nat → Nat := fun d => if d = 8 then 1 else 0
def Vy : Nat → Nat := fun d => 0
def Xp : Nat → Nat := fun d => 0
def A1s : Nat → Nat := fun d => 0
def A1M : Nat → Nat := fun d => 0
def A11 : Nat → Nat := fun d => 0
def Cf : Nat → Nat := fun d => if d = 6 then 1 else if d = 9 then 1 else if d = 10 then 2 else if d = 11 then 2 else if d = 15 then 2 else if d = 62 then 2 else if d = 81 then 3 else if d = 99 then 3 else if d = 109 then 3 else 0
def WL : Nat → Nat := fun d => 0
def A0y : Nat → Nat := fun d => 0
def Rm : Nat → Nat := fun d => 0
def WU : Nat → Nat := fun d => if d = 5 then 1 else 0
def PZ : Nat → Nat := fun d => 0
def J9 : Nat → Nat := fun d => 0
def Ni : Nat → Nat := fun d => 0
def Ee : Nat → Nat := fun d => if d = 10 then 1 else if d = 12 then 1 else 0
def A1K : Nat → Nat := fun d => if d = 10 then 1 else 0
def RL : Nat → Nat := fun d => if d = 58 then 1 else if d = 60 then 3 else if d = 63 then 3 else 0
def A0G : Nat → Nat := fun d => 0
def En : Nat → Nat := fun d => 0
def Gv : Nat → Nat := fun d => if d = 5 then 1 else 0
def Cq : Nat → Nat := fun d => if d = 48 then 1 else 0
def Rx : Nat → Nat := fun d => 0
def Q9 : Nat → Nat := fun d => 0
def Qf : Nat → Nat := fun d => 0
def A0u : Nat → Nat := fun d => 0
def A1g : Nat → Nat := fun d => 0
def Nc : Nat → Nat := fun d => 0
def CB : Nat → Nat := fun d => if d = 2 then 1 else if d = 23 then 2 else if d = 94 then 2 else if d = 116 then 2 else if d = 141 then 2 else 0
def HV : Nat → Nat := fun d => 0
def H9 : Nat → Nat := fun d => if d = 4 then 1 else if d = 6 then 3 else if d = 11 then 3 else if d = 16 then 3 else if d = 19 then 3 else 0
def W3 : Nat → Nat := fun d => if d = 6 then 1 else 0
def S6 : Nat → Nat := fun d => if d = 8 then 1 else if d = 10 then 1 else 0
def Ja : Nat → Nat := fun d => if d = 8 then 1 else if d = 10 then 2 else if d = 18 then 1 else if d = 47 then 1 else 0
def PH : Nat → Nat := fun d => 0
def M4 : Nat → Nat := fun d => if d = 3 then 2 else 0
def Dt : Nat → Nat := fun d => if d = 30 then 1 else if d = 34 then 1 else 0
def Qi : Nat → Nat := fun d => if d = 11 then 1 else 0
def A0s : Nat → Nat := fun d => if d = 5 then 1 else 0
def Xc : Nat → Nat := fun d => if d = 14 then 1 else 0
def EC : Nat → Nat := fun d => if d = 19 then 1 else 0
def Jh : Nat → Nat := fun d => 0
def KM : Nat → Nat := fun d => 0
def BQ : Nat → Nat := fun d => if d = 11 then 1 else if d = 57 then 1 else 0
def A4Q : Nat → Nat := fun d => if d = 11 then 1 else if d = 57 then 1 else 0
def RQ : Nat → Nat := fun d => if d = 6 then 1 else if d = 7 then 1 else if d = 9 then 1 else 0
def DJ : Nat → Nat := fun d => if d = 8 then 1 else 0
def Rc : Nat → Nat := fun d => 0
def Rk : Nat → Nat := fun d => 0
def WD : Nat → Nat := fun d => if d = 3 then 1 else 0
def A25 : Nat → Nat := fun d => 0
def N0 : Nat → Nat := fun d => 0
def A0B : Nat → Nat := fun d => 0
def P5 : Nat → Nat := fun d => 0
def A2k : Nat → Nat := fun d => if d = 3 then 1 else 0
def A2s : Nat → Nat := fun d => if d = 3 then 1 else 0
def A2m : Nat → Nat := fun d => 0
def VQ : Nat → Nat := fun d => if d = 5 then 2 else if d = 9 then 2 else 0
def A0b : Nat → Nat := fun d => if d = 3 then 1 else 0
def Ng : Nat → Nat := fun d => if d = 30 then 1 else 0
def Xu : Nat → Nat := fun d => 0
def Hp : Nat → Nat := fun d => if d = 9 then 1 else if d = 10 then 1 else 0
def S4 : Nat → Nat := fun d => 0
def Mx : Nat → Nat := fun d => if d = 3 then 1 else 0
def Mt : Nat → Nat := fun d => if d = 4 then 1 else if d = 75 then 3 else 0
def A1i : Nat → Nat := fun d => 0
def Ej : Nat → Nat := fun d => 0
def A2g : Nat → Nat := fun d => 0
def DL : Nat → Nat := fun d => if d = 5 then 2 else if d = 7 then 1 else if d = 9 then 2 else if d = 76 then 1 else if d = 83 then 2 else 0
def WB : Nat → Nat := fun d => 0
def Qd : Nat → Nat := fun d => 0
def AP : Nat → Nat := fun d => if d = 8 then 1 else if d = 39 then 2 else if d = 94 then 2 else if d = 109 then 3 else if d = 128 then 3 else if d = 137 then 3 else if d = 151 then 2 else if d = 164 then 3 else if d = 165 then 2 else if d = 181 then 3 else if d = 182 then 3 else if d = 183 then 2 else if d = 192 then 3 else if d = 202 then 2 else if d = 211 then 2 else if d = 223 then 2 else if d = 233 then 2 else if d = 251 then 3 else if d = 253 then 2 else if d = 263 then 2 else 0
def A4c : Nat → Nat := fun d => if d = 8 then 1 else if d = 39 then 2 else if d = 56 then 1 else if d = 94 then 2 else if d = 109 then 3 else if d = 128 then 3 else if d = 137 then 3 else if d = 151 then 2 else if d = 164 then 3 else if d = 165 then 2 else if d = 181 then 3 else if d = 182 then 3 else if d = 183 then 2 else if d = 192 then 3 else if d = 199 then 1 else if d = 202 then 2 else if d = 208 then 1 else if d = 211 then 2 else if d = 223 then 2 else if d = 233 then 2 else if d = 251 then 3 else if d = 253 then 2 else if d = 263 then 2 else 0
def Cl : Nat → Nat := fun d => if d = 10 then 1 else if d = 11 then 1 else if d = 13 then 2 else if d = 20 then 3 else if d = 22 then 2 else if d = 36 then 3 else if d = 38 then 3 else if d = 56 then 3 else if d = 58 then 3 else if d = 74 then 3 else 0
def A70 : Nat → Nat := fun d => if d = 10 then 1 else if d = 11 then 2 else if d = 13 then 2 else if d = 20 then 3 else if d = 36 then 3 else if d = 38 then 3 else if d = 56 then 3 else if d = 58 then 3 else if d = 74 then 3 else 0
def YF : Nat → Nat := fun d => if d = 10 then 1 else if d = 12 then 1 else if d = 55 then 2 else if d = 72 then 1 else if d = 87 then 1 else 0
def BS : Nat → Nat := fun d => if d = 10 then 1 else if d = 12 then 1 else if d = 55 then 1 else if d = 72 then 1 else if d = 87 then 1 else 0
def Pp : Nat → Nat := fun d => 0
def Qm : Nat → Nat := fun d => 0
def RM : Nat → Nat := fun d => if d = 5 then 1 else 0
def RY : Nat → Nat := fun d => 0
def A1A : Nat → Nat := fun d => 0
def WR : Nat → Nat := fun d => 0
def A2c : Nat → Nat := fun d => 0
def M5 : Nat → Nat := fun d => if d = 8 then 1 else 0
def A0m : Nat → Nat := fun d => 0
def TF : Nat → Nat := fun d => 0
def Gi : Nat → Nat := fun d => 0
def My : Nat → Nat := fun d => 0
def Us : Nat → Nat := fun d => 0
def TH : Nat → Nat := fun d => 0
def GU : Nat → Nat := fun d => if d = 5 then 2 else 0
def MK : Nat → Nat := fun d => 0
def Mp : Nat → Nat := fun d => 0
def Td : Nat → Nat := fun d => 0
def T7 : Nat → Nat := fun d => 0
def Hf : Nat → Nat := fun d => if d = 2 then 1 else if d = 4 then 1 else if d = 6 then 1 else if d = 15 then 1 else if d = 19 then 1 else 0
def Dn : Nat → Nat := fun d => if d = 12 then 1 else 0
def SN : Nat → Nat := fun d => if d = 7 then 1 else if d = 8 then 1 else 0
def P9 : Nat → Nat := fun d => 0
def Tn : Nat → Nat := fun d => 0
def J8 : Nat → Nat := fun d => if d = 13 then 2 else 0
def ZM : Nat → Nat := fun d => 0
def NP : Nat → Nat := fun d => 0
def H8 : Nat → Nat := fun d => 0
def Ug : Nat → Nat := fun d => 0
def SJ : Nat → Nat := fun d => 0
def Sx : Nat → Nat := fun d => 0
def Uy : Nat → Nat := fun d => 0
def SB : Nat → Nat := fun d => 0
def Km : Nat → Nat := fun d => if d = 2 then 1 else if d = 5 then 1 else if d = 76 then 3 else 0
def TK : Nat → Nat := fun d => 0
def JV : Nat → Nat := fun d => 0
def CO : Nat → Nat := fun d => 0
def T4 : Nat → Nat := fun d => 0
def Dh : Nat → Nat := fun d => if d = 23 then 2 else if d = 42 then 2 else if d = 54 then 2 else 0
def HD : Nat → Nat := fun d => 0
def B3 : Nat → Nat := fun d => 0
def Dj : Nat → Nat := fun d => if d = 28 then 1 else 0
def NF : Nat → Nat := fun d => if d = 20 then 1 else if d = 22 then 5 else 0
def ZQ : Nat → Nat := fun d => if d = 20 then 1 else 0
def JJ : Nat → Nat := fun d => 0
def NT : Nat → Nat := fun d => if d = 10 then 1 else 0
def NU : Nat → Nat := fun d => 0
def Pk : Nat → Nat := fun d => 0
def To : Nat → Nat := fun d => 0
def AO : Nat → Nat := fun d => if d = 12 then 2 else if d = 14 then 1 else if d = 25 then 3 else if d = 27 then 3 else if d = 32 then 3 else if d = 39 then 3 else if d = 48 then 3 else if d = 58 then 3 else if d = 64 then 3 else if d = 73 then 3 else if d = 80 then 3 else if d = 94 then 3 else if d = 103 then 3 else if d = 108 then 3 else if d = 116 then 3 else if d = 130 then 3 else if d = 137 then 3 else if d = 142 then 3 else if d = 151 then 3 else 0
def AT : Nat → Nat := fun d => if d = 8 then 1 else if d = 11 then 1 else if d = 14 then 3 else if d = 28 then 3 else if d = 32 then 3 else if d = 39 then 3 else if d = 47 then 4 else if d = 53 then 3 else if d = 75 then 4 else if d = 81 then 4 else if d = 86 then 3 else if d = 91 then 3 else 0
def Zx : Nat → Nat := fun d => if d = 8 then 1 else if d = 11 then 1 else if d = 14 then 3 else if d = 28 then 3 else if d = 32 then 3 else if d = 39 then 3 else if d = 47 then 3 else if d = 53 then 3 else if d = 75 then 3 else if d = 81 then 3 else if d = 86 then 3 else if d = 91 then 3 else 0
def Tb : Nat → Nat := fun d => 0
def Sv : Nat → Nat := fun d => 0
def Lb : Nat → Nat := fun d => 0
def PC : Nat → Nat := fun d => 0
def Sg : Nat → Nat := fun d => 0
def MJ : Nat → Nat := fun d => 0
def XV : Nat → Nat := fun d => 0
def Sw : Nat → Nat := fun d => 0
def L9 : Nat → Nat := fun d => 0
def QA : Nat → Nat := fun d => 0
def TY : Nat → Nat := fun d => 0
def U0 : Nat → Nat := fun d => 0
def Kb : Nat → Nat := fun d => if d = 5 then 1 else if d = 6 then 1 else if d = 66 then 3 else if d = 115 then 3 else if d = 136 then 3 else 0
def GM : Nat → Nat := fun d => if d = 5 then 1 else if d = 8 then 1 else if d = 79 then 3 else 0
def KV : Nat → Nat := fun d => 0
def K3 : Nat → Nat := fun d => 0
def KT : Nat → Nat := fun d => 0
def Az : Nat → Nat := fun d => if d = 101 then 1 else if d = 107 then 5 else 0
def Zz : Nat → Nat := fun d => if d = 101 then 1 else 0
def Ue : Nat → Nat := fun d => 0
def L8 : Nat → Nat := fun d => 0
def Th : Nat → Nat := fun d => 0
def Ls : Nat → Nat := fun d => if d = 14 then 3 else 0
def B1 : Nat → Nat := fun d => if d = 8 then 1 else if d = 11 then 1 else if d = 13 then 3 else if d = 21 then 3 else if d = 28 then 3 else if d = 36 then 4 else if d = 50 then 3 else if d = 56 then 3 else 0
def ZZ : Nat → Nat := fun d => if d = 8 then 1 else if d = 11 then 1 else if d = 13 then 3 else if d = 21 then 3 else if d = 28 then 3 else if d = 36 then 3 else if d = 50 then 3 else if d = 56 then 3 else 0
def Hd : Nat → Nat := fun d => if d = 19 then 1 else 0
def KQ : Nat → Nat := fun d => 0
def SZ : Nat → Nat := fun d => 0
def Tl : Nat → Nat := fun d => 0
def Lh : Nat → Nat := fun d => 0
def HZ : Nat → Nat := fun d => 0
def BE : Nat → Nat := fun d => 0
def GT : Nat → Nat := fun d => 0
def CP : Nat → Nat := fun d => 0
abbrev Ai (V : Al) (n : Nat) (vf : EB) : Prop := V.ext n = none ∧ V.fn n = some vf
structure AB (V : Al) : Prop where
  c_mathbits_TrailingZeros64 : V.ext AH = some Yi
  c_z0 : Ai V A7H ⟨A3d, XS⟩
  c_z1 : Ai V A3Z ⟨Ado, A9O⟩
  c_z2 : Ai V A8N ⟨Abn, A3H⟩
  c_z3 : Ai V A95 ⟨A7L, A5g⟩
  c_z4 : Ai V A7k ⟨Zk, WX⟩
  c_z5 : Ai V A5k ⟨AbC, A4I⟩
  h_z6 : V.fnH Zy = some ⟨A5s, A6J⟩
  c_z6 : Ai V Zy ⟨A5s, Lx⟩
  c_z7 : Ai V A7V ⟨A8q, Pg⟩
  c_z8 : Ai V A9e ⟨Abq, A7W⟩
  c_z9 : Ai V A96 ⟨A2H, C5⟩
  c_z10 : Ai V A1P ⟨A5b, Gy⟩
  c_z11 : Ai V A1q ⟨Xt, RE⟩
  c_z12 : Ai V A29 ⟨We, Rl⟩
  c_z13 : Ai V A2b ⟨A4O, A1F⟩
  c_z14 : Ai V A6f ⟨A9A, A4F⟩
  c_z15 : Ai V A1n ⟨A6O, EY⟩
  h_z16 : V.fnH Na = some ⟨S9, QB⟩
  c_z16 : Ai V Na ⟨S9, A5G⟩
  h_z17 : V.fnH A1a = some ⟨A6Q, Mg⟩
  h_z18 : V.fnH Qs = some ⟨Wj, YL⟩
  c_z18 : Ai V Qs ⟨Wj, GB⟩
  c_z19 : Ai V WZ ⟨A4n, KH⟩
  c_z20 : Ai V Vz ⟨A1f, Vy⟩
  c_z21 : Ai V VJ ⟨A2x, Xp⟩
  c_z22 : Ai V A0n ⟨A5D, A1s⟩
  c_z23 : Ai V A16 ⟨A76, A1M⟩
  c_z24 : Ai V A1L ⟨A5V, A11⟩
  c_z25 : Ai V A2o ⟨A4b, Cf⟩
  c_z26 : Ai V A1c ⟨A18, WL⟩
  c_z27 : Ai V A1H ⟨A6D, A0y⟩
  c_z28 : Ai V UR ⟨Vx, Rm⟩
  c_z29 : Ai V A21 ⟨A2l, WU⟩
  c_z30 : Ai V A1r ⟨A6j, PZ⟩
  c_z31 : Ai V A2d ⟨A79, J9⟩
  c_z32 : Ai V UT ⟨A5N, Ni⟩
  c_z33 : Ai V A1W ⟨A0A, Ee⟩
  c_z34 : Ai V A09 ⟨A6t, A1K⟩
  c_z35 : Ai V UO ⟨A4a, RL⟩
  c_z36 : Ai V A1T ⟨A6d, A0G⟩
  c_z37 : Ai V Xy ⟨A4A, En⟩
  c_z38 : Ai V Xn ⟨A1v, Gv⟩
  c_z39 : Ai V Wg ⟨A0U, Cq⟩
  c_z40 : Ai V A0j ⟨A6l, Rx⟩
  c_z41 : Ai V A0p ⟨A5e, Q9⟩
  c_z42 : Ai V A1k ⟨A6y, Qf⟩
  c_z43 : Ai V WO ⟨A6k, A0u⟩
  c_z44 : Ai V A0e ⟨A4h, A1g⟩
  c_z45 : Ai V V4 ⟨A1y, Nc⟩
  c_z46 : Ai V VN ⟨A1b, CB⟩
  h_z47 : V.fnH P2 = some ⟨MY, HV⟩
  h_z48 : V.fnH A1u = some ⟨A5Z, H9⟩
  c_z49 : Ai V A0N ⟨A2w, W3⟩
  c_z50 : Ai V A0M ⟨WQ, S6⟩
  c_z51 : Ai V A1E ⟨PX, Ja⟩
  c_z52 : Ai V A1Z ⟨Rq, PH⟩
  c_z53 : Ai V VE ⟨A1p, M4⟩
  c_z54 : Ai V A1J ⟨A1h, Dt⟩
  c_z55 : Ai V A12 ⟨A1V, Qi⟩
  c_z56 : Ai V A1I ⟨A62, A0s⟩
  c_z57 : Ai V A2v ⟨A2B, Xc⟩
  c_z58 : Ai V A0W ⟨A4i, EC⟩
  c_z59 : Ai V NX ⟨A4B, Jh⟩
  c_z60 : Ai V Pi ⟨A4l, KM⟩
  h_z61 : V.fnH LB = some ⟨Nr, BQ⟩
  c_z61 : Ai V LB ⟨Nr, A4Q⟩
  c_z62 : Ai V A0Z ⟨Wi, RQ⟩
  c_z63 : Ai V A07 ⟨A0I, DJ⟩
  c_z64 : Ai V A2i ⟨Va, Rc⟩
  c_z65 : Ai V A26 ⟨WY, Rk⟩
  c_z66 : Ai V Vd ⟨A1R, WD⟩
  c_z67 : Ai V A28 ⟨A4G, A25⟩
  c_z68 : Ai V A2e ⟨A6v, N0⟩
  c_z69 : Ai V A0T ⟨A65, A0B⟩
  c_z70 : Ai V A0R ⟨RR, P5⟩
  c_z71 : Ai V A2r ⟨A73, A2k⟩
  c_z72 : Ai V A0F ⟨A6x, A2s⟩
  c_z73 : Ai V A2f ⟨A52, A2m⟩
  c_z74 : Ai V A1G ⟨A5U, VQ⟩
  c_z75 : Ai V Xi ⟨A5A, A0b⟩
  c_z76 : Ai V A0K ⟨A6E, Ng⟩
  c_z77 : Ai V A1X ⟨A2A, Xu⟩
  c_z78 : Ai V A0J ⟨A4X, Hp⟩
  c_z79 : Ai V A0S ⟨A7a, S4⟩
  h_z80 : V.fnH A0f = some ⟨A4Y, Mx⟩
  h_z81 : V.fnH A15 = some ⟨A6q, Mt⟩
  c_z82 : Ai V A0i ⟨A58, A1i⟩
  c_z83 : Ai V A2j ⟨A4d, Ej⟩
  c_z84 : Ai V A0a ⟨A51, A2g⟩
  c_z85 : Ai V A13 ⟨A10, DL⟩
  c_z86 : Ai V A1m ⟨A5L, WB⟩
  h_z87 : V.fnH Wm = some ⟨A2n, Qd⟩
  h_z88 : V.fnH PN = some ⟨Xk, AP⟩
  c_z88 : Ai V PN ⟨Xk, A4c⟩
  h_z89 : V.fnH PL = some ⟨Xf, Cl⟩
  c_z89 : Ai V PL ⟨Xf, A70⟩
  h_z90 : V.fnH Lo = some ⟨EF, YF⟩
  c_z90 : Ai V Lo ⟨EF, BS⟩
  c_z91 : Ai V A1Q ⟨A6K, Pp⟩
  c_z92 : Ai V A0z ⟨A5a, Qm⟩
  c_z93 : Ai V A0v ⟨Vu, RM⟩
  c_z94 : Ai V Wn ⟨A69, RY⟩
  c_z95 : Ai V Qz ⟨A6A, A1A⟩
  c_z96 : Ai V A08 ⟨A1O, WR⟩
  c_z97 : Ai V WH ⟨A63, A2c⟩
  c_z98 : Ai V Xw ⟨A20, M5⟩
  c_z99 : Ai V Xv ⟨A4p, A0m⟩
  c_z100 : Ai V Uq ⟨Y2, TF⟩
  c_z101 : Ai V Sc ⟨ZL, Gi⟩
  c_z102 : Ai V SS ⟨Py, My⟩
  c_z103 : Ai V PW ⟨Yt, Us⟩
  c_z104 : Ai V Tz ⟨ZC, TH⟩
  c_z105 : Ai V SE ⟨YB, GU⟩
  c_z106 : Ai V Up ⟨Qa, MK⟩
  c_z107 : Ai V NW ⟨YI, Mp⟩
  c_z108 : Ai V SQ ⟨Yr, Td⟩
  c_z109 : Ai V PD ⟨A03, T7⟩
  c_z110 : Ai V Pc ⟨ZK, Hf⟩
  c_z111 : Ai V Mz ⟨ZS, Dn⟩
  c_z112 : Ai V Mk ⟨Zp, SN⟩
  c_z113 : Ai V MC ⟨SP, P9⟩
  c_z114 : Ai V Uj ⟨XX, Tn⟩
  h_z115 : V.fnH JU = some ⟨Mh, J8⟩
  c_z115 : Ai V JU ⟨Mh, ZM⟩
  h_z116 : V.fnH Mv = some ⟨YQ, NP⟩
  c_z117 : Ai V Uu ⟨A01, H8⟩
  c_z118 : Ai V Ql ⟨YO, Ug⟩
  c_z119 : Ai V Qb ⟨Yp, SJ⟩
  c_z120 : Ai V SF ⟨YW, Sx⟩
  c_z121 : Ai V Ss ⟨Y3, Uy⟩
  c_z122 : Ai V TC ⟨A06, SB⟩
  h_z123 : V.fnH UE = some ⟨Pu, Km⟩
  c_z124 : Ai V SK ⟨XF, TK⟩
  c_z125 : Ai V TB ⟨Z9, JV⟩
  c_z126 : Ai V Ux ⟨Pv, CO⟩
  c_z127 : Ai V SG ⟨XK, T4⟩
  h_z128 : V.fnH U5 = some ⟨ZE, Dh⟩
  c_z129 : Ai V U7 ⟨Zt, HD⟩
  c_z130 : Ai V UH ⟨XP, B3⟩
  c_z131 : Ai V Mf ⟨Zs, Dj⟩
  h_z132 : V.fnH L0 = some ⟨Q3, NF⟩
  c_z132 : Ai V L0 ⟨Q3, ZQ⟩
  c_z133 : Ai V Tt ⟨Zr, JJ⟩
  h_z134 : V.fnH Sr = some ⟨Ye, NT⟩
  h_z135 : V.fnH UB = some ⟨Z4, NU⟩
  c_z136 : Ai V TJ ⟨TR, Pk⟩
  c_z137 : Ai V U4 ⟨ZN, To⟩
  h_z138 : V.fnH ME = some ⟨YM, AO⟩
  h_z139 : V.fnH J3 = some ⟨Po, AT⟩
  c_z139 : Ai V J3 ⟨Po, Zx⟩
  c_z140 : Ai V SH ⟨Y6, Tb⟩
  c_z141 : Ai V Qv ⟨ZT, Sv⟩
  c_z142 : Ai V Uh ⟨ZB, Lb⟩
  c_z143 : Ai V U3 ⟨Uz, PC⟩
  c_z144 : Ai V UA ⟨Yu, Sg⟩
  c_z145 : Ai V Tq ⟨ZU, MJ⟩
  c_z147 : Ai V Zv ⟨A4v, XV⟩
  c_z148 : Ai V T9 ⟨XY, Sw⟩
  c_z149 : Ai V SL ⟨XZ, L9⟩
  c_z150 : Ai V Uw ⟨Sj, QA⟩
  c_z151 : Ai V UD ⟨Y4, TY⟩
  c_z152 : Ai V QD ⟨ZF, U0⟩
  h_z153 : V.fnH SY = some ⟨Pd, Kb⟩
  h_z154 : V.fnH SM = some ⟨Yz, GM⟩
  c_z155 : Ai V SX ⟨XO, KV⟩
  c_z156 : Ai V Tu ⟨Yg, K3⟩
  c_z157 : Ai V UI ⟨XN, KT⟩
  h_z158 : V.fnH KW = some ⟨Qx, Az⟩
  c_z158 : Ai V KW ⟨Qx, Zz⟩
  c_z159 : Ai V TS ⟨Yy, Ue⟩
  c_z160 : Ai V PG ⟨YZ, L8⟩
  c_z161 : Ai V TQ ⟨Zb, Th⟩
  h_z162 : V.fnH SV = some ⟨ZD, Ls⟩
  h_z163 : V.fnH L6 = some ⟨Mn, B1⟩
  c_z163 : Ai V L6 ⟨Mn, ZZ⟩
  c_z164 : Ai V Ud ⟨Zh, Hd⟩
  c_z165 : Ai V TD ⟨XC, KQ⟩
  c_z166 : Ai V Uc ⟨Yb, SZ⟩
  c_z167 : Ai V Sh ⟨YG, Tl⟩
  c_z168 : Ai V Su ⟨Y1, Lh⟩
  c_z169 : Ai V Sb ⟨YS, HZ⟩
  c_z170 : Ai V UF ⟨Ya, BE⟩
  c_z171 : Ai V Sz ⟨Ym, GT⟩
  c_z172 : Ai V T3 ⟨HH, CP⟩
def Aj5 (g : Nat) : Nat → Nat := if g = A7H then XS else if g = A3Z then A9O else if g = A8N then A3H else if g = A95 then A5g else if g = A7k then WX else if g = A5k then A4I else if g = Zy then Lx else if g = A7V then Pg else if g = A9e then A7W else if g = A96 then C5 else if g = A1P then Gy else if g = A1q then RE else if g = A29 then Rl else if g = A2b then A1F else if g = A6f then A4F else if g = A1n then EY else if g = Na then A5G else if g = Qs then GB else if g = WZ then KH else if g = Vz then Vy else if g = VJ then Xp else if g = A0n then A1s else if g = A16 then A1M else if g = A1L then A11 else if g = A2o then Cf else if g = A1c then WL else if g = A1H then A0y else if g = UR then Rm else if g = A21 then WU else if g = A1r then PZ else if g = A2d then J9 else if g = UT then Ni else if g = A1W then Ee else if g = A09 then A1K else if g = UO then RL else if g = A1T then A0G else if g = Xy then En else if g = Xn then Gv else if g = Wg then Cq else if g = A0j then Rx else fun _ => 0
def AgL (g : Nat) : Nat → Nat := if g = A0p then Q9 else if g = A1k then Qf else if g = WO then A0u else if g = A0e then A1g else if g = V4 then Nc else if g = VN then CB else if g = A0N then W3 else if g = A0M then S6 else if g = A1E then Ja else if g = A1Z then PH else if g = VE then M4 else if g = A1J then Dt else if g = A12 then Qi else if g = A1I then A0s else if g = A2v then Xc else if g = A0W then EC else if g = NX then Jh else if g = Pi then KM else if g = LB then A4Q else if g = A0Z then RQ else if g = A07 then DJ else if g = A2i then Rc else if g = A26 then Rk else if g = Vd then WD else if g = A28 then A25 else if g = A2e then N0 else if g = A0T then A0B else if g = A0R then P5 else if g = A2r then A2k else if g = A0F then A2s else if g = A2f then A2m else if g = A1G then VQ else if g = Xi then A0b else if g = A0K then Ng else if g = A1X then Xu else if g = A0J then Hp else if g = A0S then S4 else if g = A0i then A1i else if g = A2j then Ej else if g = A0a then A2g else Aj5 g
def AgV (g : Nat) : Nat → Nat := if g = A13 then DL else if g = A1m then WB else if g = PN then A4c else if g = PL then A70 else if g = Lo then BS else if g = A1Q then Pp else if g = A0z then Qm else if g = A0v then RM else if g = Wn then RY else if g = Qz then A1A else if g = A08 then WR else if g = WH then A2c else if g = Xw then M5 else if g = Xv then A0m else if g = Uq then TF else if g = Sc then Gi else if g = SS then My else if g = PW then Us else if g = Tz then TH else if g = SE then GU else if g = Up then MK else if g = NW then Mp else if g = SQ then Td else if g = PD then T7 else if g = Pc then Hf else if g = Mz then Dn else if g = Mk then SN else if g = MC then P9 else if g = Uj then Tn else if g = JU then ZM else if g = Uu then H8 else if g = Ql then Ug else if g = Qb then SJ else if g = SF then Sx else if g = Ss then Uy else if g = TC then SB else if g = SK then TK else if g = TB then JV else if g = Ux then CO else if g = SG then T4 else AgL g
def AhE (g : Nat) : Nat → Nat := if g = U7 then HD else if g = UH then B3 else if g = Mf then Dj else if g = L0 then ZQ else if g = Tt then JJ else if g = TJ then Pk else if g = U4 then To else if g = J3 then Zx else if g = SH then Tb else if g = Qv then Sv else if g = Uh then Lb else if g = U3 then PC else if g = UA then Sg else if g = Tq then MJ else if g = Zv then XV else if g = T9 then Sw else if g = SL then L9 else if g = Uw then QA else if g = UD then TY else if g = QD then U0 else if g = SX then KV else if g = Tu then K3 else if g = UI then KT else if g = KW then Zz else if g = TS then Ue else if g = PG then L8 else if g = TQ then Th else if g = L6 then ZZ else if g = Ud then Hd else if g = TD then KQ else if g = Uc then SZ else if g = Sh then Tl else if g = Su then Lh else if g = Sb then HZ else if g = UF then BE else if g = Sz then GT else if g = T3 then CP else AgV g
def muP (g : Nat) : Nat → Nat := AhE g
def Ajb (g : Nat) : Nat → Nat := if g = Zy then A6J else if g = Na then QB else if g = A1a then Mg else if g = Qs then YL else if g = P2 then HV else if g = A1u then H9 else if g = LB then BQ else if g = A0f then Mx else if g = A15 then Mt else if g = Wm then Qd else if g = PN then AP else if g = PL then Cl else if g = Lo then YF else if g = JU then J8 else if g = Mv then NP else if g = UE then Km else if g = U5 then Dh else if g = L0 then NF else if g = Sr then NT else if g = UB then NU else if g = ME then AO else if g = J3 then AT else if g = SY then Kb else if g = SM then GM else if g = KW then Az else if g = SV then Ls else if g = L6 then B1 else fun _ => 0
def muH (g : Nat) : Nat → Nat := Ajb g
end Go.AM
