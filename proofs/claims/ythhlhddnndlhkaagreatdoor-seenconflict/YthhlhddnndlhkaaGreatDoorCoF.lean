/-
  Own work, part of the proof of the laws SeenLasts, SeenCalm, SeenConflict: the code of the functions that the law reaches, as the machine has it; read off the program as the text is compiled.
-/
import Derived.Test.YthhlhddnndlhkaaGreatDoorCoB
import Derived.Test.YthhlhddnndlhkaaGreatDoorCoC
import Derived.Test.YthhlhddnndlhkaaGreatDoorCoD
import Derived.Test.YthhlhddnndlhkaaGreatDoorCoE
set_option maxRecDepth 4000
set_option linter.unusedVariables false
set_option linter.unusedSimpArgs false
set_option linter.unusedSectionVars false
set_option linter.unnecessarySimpa false
set_option maxRecDepth 100000
namespace Go.AM
open Go Go.Proofs
def Dn:Nat→Nat:=fun d=>if d=7 then 1 else if d=9 then 1 else if d=10 then 1 else if d=46 then 1 else 0
def HP:Nat→Nat:=fun d=>if d=5 then 1 else if d=7 then 1 else 0
def Qs:Nat→Nat:=fun d=>if d=5 then 1 else if d=7 then 1 else 0
def Ah7:Nat→Nat:=fun d=>if d=1 then 1 else if d=3 then 1 else if d=4 then 1 else 0
def A6Z:Nat→Nat:=fun d=>if d=2 then 1 else if d=4 then 1 else if d=8 then 2 else if d=9 then 3 else 0
def Pw:Nat→Nat:=fun d=>if d=6 then 1 else if d=7 then 1 else if d=9 then 1 else 0
def Adr:Nat→Nat:=fun d=>0
def Ads:Nat→Nat:=fun d=>0
def A2Y:Nat→Nat:=fun d=>0
def Tc:Nat→Nat:=fun d=>if d=5 then 1 else if d=9 then 1 else if d=21 then 1 else 0
def A4v:Nat→Nat:=fun d=>0
def A4w:Nat→Nat:=fun d=>0
def U4:Nat→Nat:=fun d=>if d=14 then 1 else 0
def A4x:Nat→Nat:=fun d=>0
def Jh:Nat→Nat:=fun d=>if d=5 then 1 else if d=11 then 1 else 0
def U5:Nat→Nat:=fun d=>0
def RL:Nat→Nat:=fun d=>0
def Zy:Nat→Nat:=fun d=>if d=4 then 1 else 0
def NA:Nat→Nat:=fun d=>0
def A4y:Nat→Nat:=fun d=>if d=3 then 1 else 0
def RP:Nat→Nat:=fun d=>0
def A4z:Nat→Nat:=fun d=>0
def A4A:Nat→Nat:=fun d=>if d=3 then 1 else 0
def U6:Nat→Nat:=fun d=>0
def A9W:Nat→Nat:=fun d=>if d=21 then 1 else 0
def Hx:Nat→Nat:=fun d=>0
def A4B:Nat→Nat:=fun d=>if d=2 then 1 else if d=4 then 1 else 0
def A9X:Nat→Nat:=fun d=>if d=0 then 1 else 0
def RE:Nat→Nat:=fun d=>if d=5 then 1 else 0
def A9Y:Nat→Nat:=fun d=>0
def Pm:Nat→Nat:=fun d=>if d=2 then 1 else if d=3 then 1 else if d=5 then 3 else if d=10 then 3 else 0
def GY:Nat→Nat:=fun d=>if d=2 then 1 else if d=3 then 2 else 0
def Dd:Nat→Nat:=fun d=>if d=8 then 1 else if d=12 then 1 else if d=13 then 2 else if d=15 then 1 else if d=17 then 1 else 0
def Bo:Nat→Nat:=fun d=>if d=6 then 1 else if d=11 then 1 else 0
def Q7:Nat→Nat:=fun d=>0
def A9Z:Nat→Nat:=fun d=>0
def Zz:Nat→Nat:=fun d=>0
def A4C:Nat→Nat:=fun d=>0
def Aa0:Nat→Nat:=fun d=>if d=8 then 1 else 0
def Aa1:Nat→Nat:=fun d=>if d=13 then 1 else 0
def Aa2:Nat→Nat:=fun d=>0
def M7:Nat→Nat:=fun d=>0
def RQ:Nat→Nat:=fun d=>0
def NB:Nat→Nat:=fun d=>if d=21 then 2 else if d=29 then 1 else if d=58 then 3 else 0
def RR:Nat→Nat:=fun d=>if d=10 then 1 else 0
def M8:Nat→Nat:=fun d=>0
def A4D:Nat→Nat:=fun d=>0
def A4E:Nat→Nat:=fun d=>0
def NC:Nat→Nat:=fun d=>0
def ZA:Nat→Nat:=fun d=>if d=3 then 1 else 0
def ND:Nat→Nat:=fun d=>if d=8 then 1 else 0
def A4F:Nat→Nat:=fun d=>0
def NE:Nat→Nat:=fun d=>if d=3 then 2 else 0
def A4G:Nat→Nat:=fun d=>0
def A4H:Nat→Nat:=fun d=>0
def A4I:Nat→Nat:=fun d=>0
def RS:Nat→Nat:=fun d=>0
def CJ:Nat→Nat:=fun d=>if d=6 then 1 else if d=9 then 1 else if d=10 then 2 else if d=11 then 2 else if d=15 then 2 else if d=62 then 2 else if d=81 then 3 else if d=99 then 3 else if d=109 then 3 else 0
def A4J:Nat→Nat:=fun d=>0
def ZB:Nat→Nat:=fun d=>if d=5 then 2 else if d=9 then 2 else 0
def Aa3:Nat→Nat:=fun d=>0
def Aa4:Nat→Nat:=fun d=>if d=3 then 2 else 0
def M9:Nat→Nat:=fun d=>if d=2 then 1 else if d=4 then 1 else if d=6 then 1 else if d=15 then 1 else if d=19 then 1 else 0
def GZ:Nat→Nat:=fun d=>if d=12 then 1 else 0
def A4K:Nat→Nat:=fun d=>if d=7 then 1 else if d=8 then 1 else 0
def Ma:Nat→Nat:=fun d=>0
def A4L:Nat→Nat:=fun d=>0
def DV:Nat→Nat:=fun d=>if d=2 then 1 else if d=3 then 1 else if d=5 then 2 else if d=7 then 1 else if d=11 then 1 else if d=15 then 2 else if d=34 then 1 else if d=49 then 1 else 0
def Hy:Nat→Nat:=fun d=>if d=2 then 1 else if d=3 then 1 else if d=5 then 2 else if d=7 then 1 else if d=11 then 1 else if d=15 then 2 else if d=34 then 1 else 0
def Aa5:Nat→Nat:=fun d=>0
def Aa6:Nat→Nat:=fun d=>0
def Aa7:Nat→Nat:=fun d=>0
def U7:Nat→Nat:=fun d=>if d=58 then 1 else if d=60 then 3 else if d=63 then 3 else 0
def A4M:Nat→Nat:=fun d=>0
def EX:Nat→Nat:=fun d=>0
def Hz:Nat→Nat:=fun d=>if d=5 then 1 else 0
def CU:Nat→Nat:=fun d=>if d=48 then 1 else 0
def ZC:Nat→Nat:=fun d=>0
def U9:Nat→Nat:=fun d=>0
def Ua:Nat→Nat:=fun d=>0
def D4:Nat→Nat:=fun d=>if d=2 then 1 else if d=23 then 2 else if d=94 then 2 else if d=116 then 2 else if d=141 then 2 else 0
def JJ:Nat→Nat:=fun d=>0
def HN:Nat→Nat:=fun d=>if d=4 then 1 else if d=6 then 3 else if d=11 then 3 else if d=16 then 3 else if d=19 then 3 else 0
def K9:Nat→Nat:=fun d=>if d=5 then 2 else 0
def ZD:Nat→Nat:=fun d=>if d=6 then 1 else 0
def Ub:Nat→Nat:=fun d=>if d=8 then 1 else if d=10 then 1 else 0
def CK:Nat→Nat:=fun d=>if d=8 then 1 else if d=10 then 2 else if d=19 then 2 else if d=72 then 1 else 0
def Ka:Nat→Nat:=fun d=>if d=8 then 1 else if d=10 then 2 else if d=18 then 1 else if d=47 then 1 else 0
def Kb:Nat→Nat:=fun d=>0
def EY:Nat→Nat:=fun d=>if d=10 then 1 else if d=12 then 1 else 0
def Aa8:Nat→Nat:=fun d=>if d=15 then 1 else 0
def Aa9:Nat→Nat:=fun d=>0
def A4N:Nat→Nat:=fun d=>0
def Aaa:Nat→Nat:=fun d=>0
def Aab:Nat→Nat:=fun d=>if d=11 then 1 else if d=21 then 1 else 0
def Aac:Nat→Nat:=fun d=>if d=13 then 1 else 0
def Q8:Nat→Nat:=fun d=>0
def A4O:Nat→Nat:=fun d=>0
def A4P:Nat→Nat:=fun d=>if d=3 then 1 else 0
def NF:Nat→Nat:=fun d=>if d=6 then 1 else 0
def HO:Nat→Nat:=fun d=>if d=15 then 1 else 0
def Uc:Nat→Nat:=fun d=>0
def Vz:Nat→Nat:=fun d=>0
def VB:Nat→Nat:=fun d=>0
def VD:Nat→Nat:=fun d=>0
def Pn:Nat→Nat:=fun d=>0
def BC:Nat→Nat:=fun d=>if d=11 then 1 else if d=57 then 1 else 0
def A2H:Nat→Nat:=fun d=>if d=11 then 1 else if d=57 then 1 else 0
def Po:Nat→Nat:=fun d=>if d=6 then 1 else if d=7 then 1 else if d=9 then 1 else 0
def VE:Nat→Nat:=fun d=>0
def JI:Nat→Nat:=fun d=>if d=13 then 2 else 0
def A2I:Nat→Nat:=fun d=>0
def QG:Nat→Nat:=fun d=>0
def RF:Nat→Nat:=fun d=>0
def KJ:Nat→Nat:=fun d=>if d=30 then 1 else 0
def A2J:Nat→Nat:=fun d=>0
def A2K:Nat→Nat:=fun d=>0
def A2L:Nat→Nat:=fun d=>0
def Pp:Nat→Nat:=fun d=>0
def Lx:Nat→Nat:=fun d=>if d=3 then 1 else 0
def Ly:Nat→Nat:=fun d=>if d=4 then 1 else if d=75 then 3 else 0
def Pq:Nat→Nat:=fun d=>0
def RH:Nat→Nat:=fun d=>0
def KK:Nat→Nat:=fun d=>0
def Do:Nat→Nat:=fun d=>0
def CP:Nat→Nat:=fun d=>if d=30 then 1 else if d=34 then 1 else 0
def HQ:Nat→Nat:=fun d=>if d=11 then 1 else 0
def VI:Nat→Nat:=fun d=>if d=5 then 1 else 0
def DI:Nat→Nat:=fun d=>if d=19 then 1 else 0
def Gd:Nat→Nat:=fun d=>0
def HS:Nat→Nat:=fun d=>0
def Mz:Nat→Nat:=fun d=>0
def MA:Nat→Nat:=fun d=>0
def VJ:Nat→Nat:=fun d=>0
def VK:Nat→Nat:=fun d=>0
def CZ:Nat→Nat:=fun d=>if d=5 then 2 else if d=7 then 1 else if d=9 then 2 else if d=76 then 1 else if d=83 then 2 else 0
def RJ:Nat→Nat:=fun d=>0
def Ny:Nat→Nat:=fun d=>0
def AH:Nat→Nat:=fun d=>if d=8 then 1 else if d=39 then 2 else if d=94 then 2 else if d=109 then 3 else if d=128 then 3 else if d=137 then 3 else if d=151 then 2 else if d=164 then 3 else if d=165 then 2 else if d=181 then 3 else if d=182 then 3 else if d=183 then 2 else if d=192 then 3 else if d=202 then 2 else if d=211 then 2 else if d=223 then 2 else if d=233 then 2 else if d=251 then 3 else if d=253 then 2 else if d=263 then 2 else 0
def A2M:Nat→Nat:=fun d=>if d=8 then 1 else if d=39 then 2 else if d=56 then 1 else if d=94 then 2 else if d=109 then 3 else if d=128 then 3 else if d=137 then 3 else if d=151 then 2 else if d=164 then 3 else if d=165 then 2 else if d=181 then 3 else if d=182 then 3 else if d=183 then 2 else if d=192 then 3 else if d=199 then 1 else if d=202 then 2 else if d=208 then 1 else if d=211 then 2 else if d=223 then 2 else if d=233 then 2 else if d=251 then 3 else if d=253 then 2 else if d=263 then 2 else 0
def C8:Nat→Nat:=fun d=>if d=10 then 1 else if d=11 then 1 else if d=13 then 2 else if d=20 then 3 else if d=22 then 2 else if d=36 then 3 else if d=38 then 3 else if d=56 then 3 else if d=58 then 3 else if d=74 then 3 else 0
def A2N:Nat→Nat:=fun d=>if d=10 then 1 else if d=11 then 2 else if d=13 then 2 else if d=20 then 3 else if d=36 then 3 else if d=38 then 3 else if d=56 then 3 else if d=58 then 3 else if d=74 then 3 else 0
def Cq:Nat→Nat:=fun d=>if d=10 then 1 else if d=12 then 1 else if d=55 then 2 else if d=72 then 1 else if d=87 then 1 else 0
def Bq:Nat→Nat:=fun d=>if d=10 then 1 else if d=12 then 1 else if d=55 then 1 else if d=72 then 1 else if d=87 then 1 else 0
def KL:Nat→Nat:=fun d=>0
def VM:Nat→Nat:=fun d=>0
def A2O:Nat→Nat:=fun d=>0
def VN:Nat→Nat:=fun d=>0
def A2P:Nat→Nat:=fun d=>if d=9 then 1 else 0
def A2Q:Nat→Nat:=fun d=>if d=11 then 1 else if d=13 then 1 else 0
def A2R:Nat→Nat:=fun d=>0
def Ge:Nat→Nat:=fun d=>0
def RK:Nat→Nat:=fun d=>0
def MB:Nat→Nat:=fun d=>0
def HT:Nat→Nat:=fun d=>if d=5 then 2 else 0
def Pr:Nat→Nat:=fun d=>0
def VQ:Nat→Nat:=fun d=>0
def VS:Nat→Nat:=fun d=>0
def VT:Nat→Nat:=fun d=>0
def VU:Nat→Nat:=fun d=>0
def Lz:Nat→Nat:=fun d=>if d=2 then 1 else if d=5 then 1 else if d=76 then 3 else 0
def VW:Nat→Nat:=fun d=>0
def EF:Nat→Nat:=fun d=>if d=9 then 1 else if d=10 then 1 else 0
def Ps:Nat→Nat:=fun d=>if d=5 then 1 else 0
def Pt:Nat→Nat:=fun d=>0
def VX:Nat→Nat:=fun d=>0
def RM:Nat→Nat:=fun d=>0
def VY:Nat→Nat:=fun d=>0
def VZ:Nat→Nat:=fun d=>0
def GX:Nat→Nat:=fun d=>0
def Pu:Nat→Nat:=fun d=>0
def W3:Nat→Nat:=fun d=>0
def W4:Nat→Nat:=fun d=>0
def KM:Nat→Nat:=fun d=>0
def Dp:Nat→Nat:=fun d=>0
def W5:Nat→Nat:=fun d=>0
def DR:Nat→Nat:=fun d=>if d=23 then 2 else if d=42 then 2 else if d=54 then 2 else 0
def JK:Nat→Nat:=fun d=>0
def Bh:Nat→Nat:=fun d=>0
def DW:Nat→Nat:=fun d=>if d=28 then 1 else 0
def QH:Nat→Nat:=fun d=>if d=20 then 1 else if d=22 then 5 else 0
def A2S:Nat→Nat:=fun d=>if d=20 then 1 else 0
def KO:Nat→Nat:=fun d=>0
def QI:Nat→Nat:=fun d=>if d=10 then 1 else 0
def QJ:Nat→Nat:=fun d=>0
def RN:Nat→Nat:=fun d=>0
def W6:Nat→Nat:=fun d=>0
def B1:Nat→Nat:=fun d=>if d=12 then 2 else if d=14 then 1 else if d=25 then 3 else if d=27 then 3 else if d=32 then 3 else if d=39 then 3 else if d=48 then 3 else if d=58 then 3 else if d=64 then 3 else if d=73 then 3 else if d=80 then 3 else if d=94 then 3 else if d=103 then 3 else if d=108 then 3 else if d=116 then 3 else if d=130 then 3 else if d=137 then 3 else if d=142 then 3 else if d=151 then 3 else 0
def B7:Nat→Nat:=fun d=>if d=8 then 1 else if d=11 then 1 else if d=14 then 3 else if d=28 then 3 else if d=32 then 3 else if d=39 then 3 else if d=47 then 4 else if d=53 then 3 else if d=75 then 4 else if d=81 then 4 else if d=86 then 3 else if d=91 then 3 else 0
def A2T:Nat→Nat:=fun d=>if d=8 then 1 else if d=11 then 1 else if d=14 then 3 else if d=28 then 3 else if d=32 then 3 else if d=39 then 3 else if d=47 then 3 else if d=53 then 3 else if d=75 then 3 else if d=81 then 3 else if d=86 then 3 else if d=91 then 3 else 0
def Pv:Nat→Nat:=fun d=>0
def A2U:Nat→Nat:=fun d=>0
def A2V:Nat→Nat:=fun d=>0
def W7:Nat→Nat:=fun d=>0
def MC:Nat→Nat:=fun d=>0
def RO:Nat→Nat:=fun d=>0
def W8:Nat→Nat:=fun d=>0
def W9:Nat→Nat:=fun d=>0
def LA:Nat→Nat:=fun d=>if d=5 then 1 else if d=6 then 1 else if d=66 then 3 else if d=115 then 3 else if d=136 then 3 else 0
def Hw:Nat→Nat:=fun d=>if d=5 then 1 else if d=8 then 1 else if d=79 then 3 else 0
def Wa:Nat→Nat:=fun d=>0
def Wb:Nat→Nat:=fun d=>0
def MD:Nat→Nat:=fun d=>0
def KP:Nat→Nat:=fun d=>0
def ME:Nat→Nat:=fun d=>0
def AI:Nat→Nat:=fun d=>if d=101 then 1 else if d=107 then 5 else 0
def A2W:Nat→Nat:=fun d=>if d=101 then 1 else 0
def We:Nat→Nat:=fun d=>0
def MF:Nat→Nat:=fun d=>0
def Wf:Nat→Nat:=fun d=>0
def Nz:Nat→Nat:=fun d=>if d=14 then 3 else 0
def Bc:Nat→Nat:=fun d=>if d=8 then 1 else if d=11 then 1 else if d=13 then 3 else if d=21 then 3 else if d=28 then 3 else if d=36 then 4 else if d=50 then 3 else if d=56 then 3 else 0
def A2X:Nat→Nat:=fun d=>if d=8 then 1 else if d=11 then 1 else if d=13 then 3 else if d=21 then 3 else if d=28 then 3 else if d=36 then 3 else if d=50 then 3 else if d=56 then 3 else 0
def HU:Nat→Nat:=fun d=>if d=19 then 1 else 0
def MG:Nat→Nat:=fun d=>0
def Wg:Nat→Nat:=fun d=>0
def Wh:Nat→Nat:=fun d=>0
def MH:Nat→Nat:=fun d=>0
def JL:Nat→Nat:=fun d=>0
def BZ:Nat→Nat:=fun d=>0
def HV:Nat→Nat:=fun d=>0
def Dq:Nat→Nat:=fun d=>0
abbrev Af (V:Am) (n:Nat) (vf:Gj):Prop:=V.ext n=none∧V.fn n=some vf
structure Au (V:Am):Prop where
  c_mathbits_TrailingZeros64:V.ext AT=some A3z
  c_z0:Af V AdC ⟨T7,Dn⟩
  c_z1:Af V AdD ⟨A6E,HP⟩
  c_z2:Af V AdE ⟨A6F,Qs⟩
  c_z3:Af V Ti ⟨AjG,Ah7⟩
  c_z4:Af V AdF ⟨AfM,A6Z⟩
  c_z5:Af V AdG ⟨AfN,Pw⟩
  c_z6:Af V AdH ⟨AfO,Adr⟩
  c_z7:Af V AdI ⟨AfP,Ads⟩
  c_z8:Af V AdJ ⟨A6G,A2Y⟩
  c_z9:Af V AdK ⟨AfQ,Tc⟩
  c_z10:Af V A4T ⟨A8I,A4v⟩
  c_z11:Af V A4U ⟨A8J,A4w⟩
  c_z12:Af V ZK ⟨Z5,U4⟩
  c_z13:Af V A4V ⟨A8N,A4x⟩
  c_z14:Af V ZL ⟨TW,Jh⟩
  c_z15:Af V A4W ⟨Z6,U5⟩
  c_z16:Af V A4X ⟨TX,RL⟩
  c_z17:Af V A4Y ⟨A8S,Zy⟩
  c_z18:Af V A4Z ⟨A8T,NA⟩
  c_z19:Af V ZM ⟨A8W,A4y⟩
  c_z20:Af V A50 ⟨A8X,RP⟩
  c_z21:Af V A51 ⟨A8Y,A4z⟩
  c_z22:Af V ZN ⟨A8Z,A4A⟩
  c_z23:Af V A52 ⟨Z7,U6⟩
  c_z24:Af V Aao ⟨Aev,A9W⟩
  c_z25:Af V ZO ⟨A90,Hx⟩
  c_z26:Af V A53 ⟨A91,A4B⟩
  c_z27:Af V Aap ⟨Aew,A9X⟩
  h_z28:V.fnH Qc=some ⟨TY,RE⟩
  c_z28:Af V Qc ⟨TY,A9Y⟩
  h_z29:V.fnH A54=some ⟨A92,Pm⟩
  c_z30:Af V A55 ⟨A93,GY⟩
  c_z31:Af V A56 ⟨Jd,Dd⟩
  c_z32:Af V A57 ⟨TZ,Bo⟩
  c_z33:Af V ZP ⟨A94,Q7⟩
  c_z34:Af V Aaq ⟨Aex,A9Z⟩
  c_z35:Af V A58 ⟨A44,Zz⟩
  c_z36:Af V ZQ ⟨A95,A4C⟩
  c_z37:Af V Aar ⟨Aey,Aa0⟩
  c_z38:Af V Aas ⟨Aez,Aa1⟩
  c_z39:Af V Aat ⟨AeA,Aa2⟩
  c_z40:Af V Qd ⟨A96,M7⟩
  c_z41:Af V A59 ⟨A97,RQ⟩
  c_z42:Af V Ud ⟨A98,NB⟩
  c_z43:Af V A5a ⟨A99,RR⟩
  c_z44:Af V A5b ⟨A9a,M8⟩
  c_z45:Af V ZR ⟨A9b,A4D⟩
  c_z46:Af V A5c ⟨A9c,A4E⟩
  c_z47:Af V A5d ⟨A9d,NC⟩
  c_z48:Af V A5e ⟨A45,ZA⟩
  c_z49:Af V ZS ⟨A46,ND⟩
  c_z50:Af V Ue ⟨A9e,A4F⟩
  c_z51:Af V A5f ⟨A47,NE⟩
  c_z52:Af V A5g ⟨A9f,A4G⟩
  c_z53:Af V A5h ⟨A9g,A4H⟩
  c_z54:Af V A5i ⟨A9h,A4I⟩
  c_z55:Af V A5j ⟨A9i,RS⟩
  c_z56:Af V ZT ⟨A9j,CJ⟩
  c_z57:Af V A5k ⟨A9k,A4J⟩
  c_z58:Af V A5l ⟨A9l,ZB⟩
  c_z59:Af V Aau ⟨AeB,Aa3⟩
  c_z60:Af V Aav ⟨AeC,Aa4⟩
  c_z61:Af V A5m ⟨A9m,M9⟩
  c_z62:Af V A5n ⟨A9n,GZ⟩
  c_z63:Af V ZU ⟨A9o,A4K⟩
  c_z64:Af V A5o ⟨A9p,Ma⟩
  c_z65:Af V ZV ⟨A9q,A4L⟩
  h_z66:V.fnH Qe=some ⟨U0,DV⟩
  c_z66:Af V Qe ⟨U0,Hy⟩
  c_z67:Af V Aaw ⟨AeD,Aa5⟩
  c_z68:Af V Aax ⟨AeE,Aa6⟩
  c_z69:Af V Aay ⟨AeF,Aa7⟩
  c_z70:Af V ZW ⟨A9r,U7⟩
  c_z71:Af V A5p ⟨A9s,A4M⟩
  c_z72:Af V ZX ⟨A9t,EX⟩
  c_z73:Af V ZY ⟨A48,Hz⟩
  c_z74:Af V ZZ ⟨A49,CU⟩
  c_z75:Af V A5q ⟨A4a,ZC⟩
  c_z76:Af V A5r ⟨Z8,U9⟩
  c_z77:Af V A5s ⟨Z9,Ua⟩
  c_z78:Af V A5t ⟨A4b,D4⟩
  h_z79:V.fnH S8=some ⟨Q1,JJ⟩
  h_z80:V.fnH A5u=some ⟨A9u,HN⟩
  c_z81:Af V A5v ⟨A9v,K9⟩
  c_z82:Af V A5w ⟨A4c,ZD⟩
  c_z83:Af V A5x ⟨Za,Ub⟩
  c_z84:Af V A5y ⟨A4d,CK⟩
  c_z85:Af V A5z ⟨Rt,Ka⟩
  c_z86:Af V A5A ⟨A9w,Kb⟩
  c_z87:Af V A5B ⟨A4e,EY⟩
  c_z88:Af V Aaz ⟨AeG,Aa8⟩
  c_z89:Af V AaA ⟨AeH,Aa9⟩
  c_z90:Af V A5C ⟨A9x,A4N⟩
  c_z91:Af V AaB ⟨AeI,Aaa⟩
  c_z92:Af V AaC ⟨AeJ,Aab⟩
  c_z93:Af V AaD ⟨AeK,Aac⟩
  c_z94:Af V A5D ⟨Ru,Q8⟩
  c_z95:Af V A5E ⟨A9y,A4O⟩
  c_z96:Af V A00 ⟨A9z,A4P⟩
  c_z97:Af V Uf ⟨A9A,NF⟩
  h_z98:V.fnH A5F=some ⟨A9B,HO⟩
  c_z99:Af V A5G ⟨A9C,Uc⟩
  c_z100:Af V Wu ⟨A1a,Vz⟩
  c_z101:Af V RV ⟨A1b,VB⟩
  c_z102:Af V Wv ⟨A1c,VD⟩
  c_z103:Af V Ww ⟨Rf,Pn⟩
  h_z104:V.fnH JS=some ⟨KB,BC⟩
  c_z104:Af V JS ⟨KB,A2H⟩
  c_z105:Af V Wx ⟨Rg,Po⟩
  c_z106:Af V Wy ⟨A1d,VE⟩
  h_z107:V.fnH KV=some ⟨Pf,JI⟩
  c_z107:Af V KV ⟨Pf,A2I⟩
  h_z108:V.fnH Py=some ⟨A1e,QG⟩
  c_z109:Af V Wz ⟨V5,RF⟩
  c_z110:Af V WA ⟨A1f,KJ⟩
  c_z111:Af V A33 ⟨A8K,A2J⟩
  c_z112:Af V A34 ⟨A8L,A2K⟩
  c_z113:Af V A35 ⟨A8M,A2L⟩
  c_z114:Af V WB ⟨A1g,Pp⟩
  h_z115:V.fnH WD=some ⟨A1h,Lx⟩
  h_z116:V.fnH WE=some ⟨A1i,Ly⟩
  c_z117:Af V WF ⟨A1j,Pq⟩
  c_z118:Af V WH ⟨V6,RH⟩
  c_z119:Af V RW ⟨V7,KK⟩
  c_z120:Af V WJ ⟨A1k,Do⟩
  c_z121:Af V WK ⟨V8,CP⟩
  c_z122:Af V RX ⟨Rh,HQ⟩
  c_z123:Af V WL ⟨A1l,VI⟩
  c_z124:Af V WM ⟨A1m,DI⟩
  c_z125:Af V MK ⟨A1n,Gd⟩
  c_z126:Af V ML ⟨A1o,HS⟩
  c_z127:Af V WN ⟨A1p,Mz⟩
  c_z128:Af V WO ⟨A1q,MA⟩
  c_z129:Af V RY ⟨A1r,VJ⟩
  c_z130:Af V WQ ⟨A1s,VK⟩
  c_z131:Af V WR ⟨V9,CZ⟩
  c_z132:Af V WS ⟨A1t,RJ⟩
  h_z133:V.fnH RZ=some ⟨Va,Ny⟩
  h_z134:V.fnH MM=some ⟨Ri,AH⟩
  c_z134:Af V MM ⟨Ri,A2M⟩
  h_z135:V.fnH MN=some ⟨Rj,C8⟩
  c_z135:Af V MN ⟨Rj,A2N⟩
  h_z136:V.fnH H5=some ⟨Cu,Cq⟩
  c_z136:Af V H5 ⟨Cu,Bq⟩
  c_z137:Af V WT ⟨A1u,KL⟩
  c_z138:Af V WU ⟨A1v,VM⟩
  c_z139:Af V A36 ⟨A8O,A2O⟩
  c_z140:Af V EI ⟨A1w,VN⟩
  c_z141:Af V A37 ⟨A8P,A2P⟩
  c_z142:Af V A38 ⟨A8Q,A2Q⟩
  c_z143:Af V A39 ⟨A8R,A2R⟩
  c_z144:Af V WV ⟨A1x,Ge⟩
  c_z145:Af V S0 ⟨Vd,RK⟩
  c_z146:Af V WW ⟨A1y,MB⟩
  c_z147:Af V WX ⟨A1z,HT⟩
  c_z148:Af V WY ⟨Rk,Pr⟩
  c_z149:Af V WZ ⟨A1A,VQ⟩
  c_z151:Af V S1 ⟨A1B,VS⟩
  c_z152:Af V X0 ⟨A1C,VT⟩
  c_z153:Af V X1 ⟨A1D,VU⟩
  h_z154:V.fnH X2=some ⟨Rl,Lz⟩
  c_z155:Af V X3 ⟨A1E,VW⟩
  c_z156:Af V X4 ⟨A1F,EF⟩
  c_z157:Af V X5 ⟨Rm,Ps⟩
  c_z158:Af V Gf ⟨A1G,Pt⟩
  c_z159:Af V Ei ⟨A1H,VX⟩
  c_z160:Af V X6 ⟨Ve,RM⟩
  c_z161:Af V S3 ⟨A1I,VY⟩
  c_z162:Af V X7 ⟨A1J,VZ⟩
  c_z163:Af V X8 ⟨A1K,GX⟩
  c_z164:Af V X9 ⟨Rn,Pu⟩
  c_z165:Af V S4 ⟨A1L,W3⟩
  c_z166:Af V Xa ⟨A1M,W4⟩
  c_z167:Af V Xb ⟨A1N,KM⟩
  c_z168:Af V Xc ⟨Ro,Dp⟩
  c_z169:Af V Xd ⟨A1O,W5⟩
  h_z170:V.fnH Xe=some ⟨A1P,DR⟩
  c_z171:Af V Xf ⟨A1Q,JK⟩
  c_z172:Af V Xg ⟨A1R,Bh⟩
  c_z173:Af V Pz ⟨A1S,DW⟩
  h_z174:V.fnH MP=some ⟨Rp,QH⟩
  c_z174:Af V MP ⟨Rp,A2S⟩
  c_z175:Af V Xh ⟨A1T,KO⟩
  h_z176:V.fnH Xi=some ⟨A1U,QI⟩
  h_z177:V.fnH Xj=some ⟨A1V,QJ⟩
  c_z178:Af V Xk ⟨Vf,RN⟩
  c_z179:Af V Xl ⟨A1W,W6⟩
  h_z180:V.fnH PA=some ⟨A1X,B1⟩
  h_z181:V.fnH JT=some ⟨Rq,B7⟩
  c_z181:Af V JT ⟨Rq,A2T⟩
  c_z182:Af V Xm ⟨A1Y,Pv⟩
  c_z183:Af V A3a ⟨A8U,A2U⟩
  c_z184:Af V A3b ⟨A8V,A2V⟩
  c_z185:Af V Xn ⟨A1Z,W7⟩
  c_z186:Af V Xo ⟨A20,MC⟩
  c_z187:Af V Xp ⟨Vg,RO⟩
  c_z188:Af V Xq ⟨A21,W8⟩
  c_z189:Af V S5 ⟨A22,W9⟩
  h_z190:V.fnH Xr=some ⟨Rr,LA⟩
  h_z191:V.fnH Xs=some ⟨A23,Hw⟩
  c_z192:Af V Xt ⟨A24,Wa⟩
  c_z193:Af V S6 ⟨A25,Wb⟩
  c_z194:Af V Xu ⟨A26,MD⟩
  c_z195:Af V Xv ⟨A27,KP⟩
  c_z196:Af V Xw ⟨A28,ME⟩
  h_z197:V.fnH MQ=some ⟨Rs,AI⟩
  c_z197:Af V MQ ⟨Rs,A2W⟩
  c_z198:Af V Xx ⟨A29,We⟩
  c_z199:Af V S7 ⟨A2a,MF⟩
  c_z200:Af V Xy ⟨A2b,Wf⟩
  h_z201:V.fnH Xz=some ⟨A2c,Nz⟩
  h_z202:V.fnH MR=some ⟨Pg,Bc⟩
  c_z202:Af V MR ⟨Pg,A2X⟩
  c_z203:Af V XA ⟨A2d,HU⟩
  c_z204:Af V XB ⟨A2e,MG⟩
  c_z205:Af V XC ⟨A2f,Wg⟩
  c_z206:Af V XD ⟨A2g,Wh⟩
  c_z207:Af V XE ⟨A2h,MH⟩
  c_z208:Af V XF ⟨A2i,JL⟩
  c_z209:Af V XG ⟨A2j,BZ⟩
  c_z210:Af V XH ⟨A2k,HV⟩
  c_z211:Af V XI ⟨JF,Dq⟩
def Aov (g:Nat):Nat→Nat:=if g=AdC then Dn else if g=AdD then HP else if g=AdE then Qs else if g=Ti then Ah7 else if g=AdF then A6Z else if g=AdG then Pw else if g=AdH then Adr else if g=AdI then Ads else if g=AdJ then A2Y else if g=AdK then Tc else if g=A4T then A4v else if g=A4U then A4w else if g=ZK then U4 else if g=A4V then A4x else if g=ZL then Jh else if g=A4W then U5 else if g=A4X then RL else if g=A4Y then Zy else if g=A4Z then NA else if g=ZM then A4y else if g=A50 then RP else if g=A51 then A4z else if g=ZN then A4A else if g=A52 then U6 else if g=Aao then A9W else if g=ZO then Hx else if g=A53 then A4B else if g=Aap then A9X else if g=Qc then A9Y else if g=A55 then GY else if g=A56 then Dd else if g=A57 then Bo else if g=ZP then Q7 else if g=Aaq then A9Z else if g=A58 then Zz else if g=ZQ then A4C else if g=Aar then Aa0 else if g=Aas then Aa1 else if g=Aat then Aa2 else if g=Qd then M7 else fun _=>0
def Aow (g:Nat):Nat→Nat:=if g=A59 then RQ else if g=Ud then NB else if g=A5a then RR else if g=A5b then M8 else if g=ZR then A4D else if g=A5c then A4E else if g=A5d then NC else if g=A5e then ZA else if g=ZS then ND else if g=Ue then A4F else if g=A5f then NE else if g=A5g then A4G else if g=A5h then A4H else if g=A5i then A4I else if g=A5j then RS else if g=ZT then CJ else if g=A5k then A4J else if g=A5l then ZB else if g=Aau then Aa3 else if g=Aav then Aa4 else if g=A5m then M9 else if g=A5n then GZ else if g=ZU then A4K else if g=A5o then Ma else if g=ZV then A4L else if g=Qe then Hy else if g=Aaw then Aa5 else if g=Aax then Aa6 else if g=Aay then Aa7 else if g=ZW then U7 else if g=A5p then A4M else if g=ZX then EX else if g=ZY then Hz else if g=ZZ then CU else if g=A5q then ZC else if g=A5r then U9 else if g=A5s then Ua else if g=A5t then D4 else if g=A5v then K9 else if g=A5w then ZD else Aov g
def Aox (g:Nat):Nat→Nat:=if g=A5x then Ub else if g=A5y then CK else if g=A5z then Ka else if g=A5A then Kb else if g=A5B then EY else if g=Aaz then Aa8 else if g=AaA then Aa9 else if g=A5C then A4N else if g=AaB then Aaa else if g=AaC then Aab else if g=AaD then Aac else if g=A5D then Q8 else if g=A5E then A4O else if g=A00 then A4P else if g=Uf then NF else if g=A5G then Uc else if g=Wu then Vz else if g=RV then VB else if g=Wv then VD else if g=Ww then Pn else if g=JS then A2H else if g=Wx then Po else if g=Wy then VE else if g=KV then A2I else if g=Wz then RF else if g=WA then KJ else if g=A33 then A2J else if g=A34 then A2K else if g=A35 then A2L else if g=WB then Pp else if g=WF then Pq else if g=WH then RH else if g=RW then KK else if g=WJ then Do else if g=WK then CP else if g=RX then HQ else if g=WL then VI else if g=WM then DI else if g=MK then Gd else if g=ML then HS else Aow g
def Aoy (g:Nat):Nat→Nat:=if g=WN then Mz else if g=WO then MA else if g=RY then VJ else if g=WQ then VK else if g=WR then CZ else if g=WS then RJ else if g=MM then A2M else if g=MN then A2N else if g=H5 then Bq else if g=WT then KL else if g=WU then VM else if g=A36 then A2O else if g=EI then VN else if g=A37 then A2P else if g=A38 then A2Q else if g=A39 then A2R else if g=WV then Ge else if g=S0 then RK else if g=WW then MB else if g=WX then HT else if g=WY then Pr else if g=WZ then VQ else if g=S1 then VS else if g=X0 then VT else if g=X1 then VU else if g=X3 then VW else if g=X4 then EF else if g=X5 then Ps else if g=Gf then Pt else if g=Ei then VX else if g=X6 then RM else if g=S3 then VY else if g=X7 then VZ else if g=X8 then GX else if g=X9 then Pu else if g=S4 then W3 else if g=Xa then W4 else if g=Xb then KM else if g=Xc then Dp else if g=Xd then W5 else Aox g
def Aoz (g:Nat):Nat→Nat:=if g=Xf then JK else if g=Xg then Bh else if g=Pz then DW else if g=MP then A2S else if g=Xh then KO else if g=Xk then RN else if g=Xl then W6 else if g=JT then A2T else if g=Xm then Pv else if g=A3a then A2U else if g=A3b then A2V else if g=Xn then W7 else if g=Xo then MC else if g=Xp then RO else if g=Xq then W8 else if g=S5 then W9 else if g=Xt then Wa else if g=S6 then Wb else if g=Xu then MD else if g=Xv then KP else if g=Xw then ME else if g=MQ then A2W else if g=Xx then We else if g=S7 then MF else if g=Xy then Wf else if g=MR then A2X else if g=XA then HU else if g=XB then MG else if g=XC then Wg else if g=XD then Wh else if g=XE then MH else if g=XF then JL else if g=XG then BZ else if g=XH then HV else if g=XI then Dq else Aoy g
def muP (g:Nat):Nat→Nat:=Aoz g
def Aou (g:Nat):Nat→Nat:=if g=Qc then RE else if g=A54 then Pm else if g=Qe then DV else if g=S8 then JJ else if g=A5u then HN else if g=A5F then HO else if g=JS then BC else if g=KV then JI else if g=Py then QG else if g=WD then Lx else if g=WE then Ly else if g=RZ then Ny else if g=MM then AH else if g=MN then C8 else if g=H5 then Cq else if g=X2 then Lz else if g=Xe then DR else if g=MP then QH else if g=Xi then QI else if g=Xj then QJ else if g=PA then B1 else if g=JT then B7 else if g=Xr then LA else if g=Xs then Hw else if g=MQ then AI else if g=Xz then Nz else if g=MR then Bc else fun _=>0
def muH (g:Nat):Nat→Nat:=Aou g
end Go.AM
