/-
  Own work, part of the proof of CoheExec: the code of the functions that the law reaches, as the machine has it; read off the program as the text is compiled.
-/
import Derived.Test.YtpcpldaangchaaaGreatDoorCoB
import Derived.Test.YtpcpldaangchaaaGreatDoorCoC
import Derived.Test.YtpcpldaangchaaaGreatDoorCoD
import Derived.Test.YtpcpldaangchaaaGreatDoorCoE
set_option maxRecDepth 4000
set_option linter.unusedVariables false
set_option linter.unusedSimpArgs false
set_option linter.unusedSectionVars false
set_option linter.unnecessarySimpa false
set_option maxRecDepth 100000
namespace Go.AM
open Go Go.Proofs
def Q2:Nat→Nat:=fun d=>if d=17 then 1 else if d=19 then 1 else if d=22 then 2 else if d=57 then 2 else 0
def Adn:Nat→Nat:=fun d=>if d=1 then 1 else if d=3 then 1 else if d=4 then 1 else if d=5 then 1 else if d=6 then 1 else if d=17 then 2 else 0
def A49:Nat→Nat:=fun d=>if d=2 then 1 else if d=4 then 1 else if d=8 then 2 else if d=9 then 3 else 0
def Ado:Nat→Nat:=fun d=>0
def Xm:Nat→Nat:=fun d=>if d=9 then 1 else if d=10 then 1 else 0
def A9S:Nat→Nat:=fun d=>0
def MV:Nat→Nat:=fun d=>0
def A6T:Nat→Nat:=fun d=>if d=4 then 1 else 0
def ER:Nat→Nat:=fun d=>if d=2 then 1 else if d=3 then 1 else if d=5 then 2 else if d=7 then 1 else if d=11 then 1 else if d=15 then 2 else if d=46 then 1 else 0
def Adp:Nat→Nat:=fun d=>if d=2 then 1 else if d=3 then 1 else if d=5 then 2 else if d=7 then 1 else if d=11 then 1 else if d=15 then 2 else 0
def Qf:Nat→Nat:=fun d=>if d=6 then 1 else 0
def Eb:Nat→Nat:=fun d=>0
def A1R:Nat→Nat:=fun d=>0
def Be:Nat→Nat:=fun d=>if d=6 then 1 else if d=11 then 1 else 0
def A6F:Nat→Nat:=fun d=>0
def A6G:Nat→Nat:=fun d=>0
def A6H:Nat→Nat:=fun d=>0
def A1S:Nat→Nat:=fun d=>if d=2 then 1 else if d=4 then 1 else 0
def A6I:Nat→Nat:=fun d=>if d=0 then 1 else 0
def Gu:Nat→Nat:=fun d=>if d=2 then 1 else if d=3 then 2 else 0
def Q0:Nat→Nat:=fun d=>if d=5 then 1 else 0
def A6J:Nat→Nat:=fun d=>0
def MK:Nat→Nat:=fun d=>if d=2 then 1 else if d=3 then 1 else if d=5 then 3 else if d=10 then 3 else 0
def A0k:Nat→Nat:=fun d=>if d=2 then 1 else if d=3 then 1 else if d=5 then 2 else if d=7 then 1 else if d=11 then 1 else if d=15 then 2 else if d=34 then 1 else if d=49 then 1 else 0
def H5:Nat→Nat:=fun d=>if d=2 then 1 else if d=3 then 1 else if d=5 then 2 else if d=7 then 1 else if d=11 then 1 else if d=15 then 2 else if d=34 then 1 else 0
def KY:Nat→Nat:=fun d=>if d=8 then 1 else 0
def Xj:Nat→Nat:=fun d=>0
def A6K:Nat→Nat:=fun d=>0
def Gv:Nat→Nat:=fun d=>if d=13 then 1 else 0
def A1T:Nat→Nat:=fun d=>0
def A1U:Nat→Nat:=fun d=>0
def A1V:Nat→Nat:=fun d=>0
def Cf:Nat→Nat:=fun d=>if d=6 then 1 else if d=9 then 1 else if d=10 then 2 else if d=11 then 2 else if d=15 then 2 else if d=62 then 2 else if d=81 then 3 else if d=99 then 3 else if d=109 then 3 else 0
def Xk:Nat→Nat:=fun d=>0
def A1W:Nat→Nat:=fun d=>0
def S6:Nat→Nat:=fun d=>0
def Xl:Nat→Nat:=fun d=>if d=5 then 1 else 0
def Cq:Nat→Nat:=fun d=>0
def S7:Nat→Nat:=fun d=>0
def S8:Nat→Nat:=fun d=>if d=7 then 1 else 0
def Q8:Nat→Nat:=fun d=>0
def Jw:Nat→Nat:=fun d=>0
def NB:Nat→Nat:=fun d=>0
def EA:Nat→Nat:=fun d=>if d=10 then 1 else if d=12 then 1 else 0
def Q9:Nat→Nat:=fun d=>if d=10 then 1 else 0
def S9:Nat→Nat:=fun d=>if d=58 then 1 else if d=60 then 3 else if d=63 then 3 else 0
def A6L:Nat→Nat:=fun d=>0
def A6M:Nat→Nat:=fun d=>0
def A6N:Nat→Nat:=fun d=>if d=5 then 1 else 0
def A6O:Nat→Nat:=fun d=>if d=48 then 1 else 0
def Sa:Nat→Nat:=fun d=>0
def Qa:Nat→Nat:=fun d=>0
def A6P:Nat→Nat:=fun d=>0
def A6Q:Nat→Nat:=fun d=>0
def A6R:Nat→Nat:=fun d=>0
def A6S:Nat→Nat:=fun d=>0
def Cz:Nat→Nat:=fun d=>if d=2 then 1 else if d=23 then 2 else if d=94 then 2 else if d=116 then 2 else if d=141 then 2 else 0
def J4:Nat→Nat:=fun d=>0
def Hi:Nat→Nat:=fun d=>if d=4 then 1 else if d=6 then 3 else if d=11 then 3 else if d=16 then 3 else if d=19 then 3 else 0
def Xn:Nat→Nat:=fun d=>if d=6 then 1 else 0
def Sb:Nat→Nat:=fun d=>if d=8 then 1 else if d=10 then 1 else 0
def Jx:Nat→Nat:=fun d=>if d=8 then 1 else if d=10 then 2 else if d=18 then 1 else if d=47 then 1 else 0
def Qb:Nat→Nat:=fun d=>0
def Qc:Nat→Nat:=fun d=>0
def Mb:Nat→Nat:=fun d=>if d=3 then 2 else 0
def DH:Nat→Nat:=fun d=>if d=30 then 1 else if d=34 then 1 else 0
def Qd:Nat→Nat:=fun d=>if d=11 then 1 else 0
def A1X:Nat→Nat:=fun d=>if d=5 then 1 else 0
def Xo:Nat→Nat:=fun d=>if d=14 then 1 else 0
def ES:Nat→Nat:=fun d=>if d=19 then 1 else 0
def Jy:Nat→Nat:=fun d=>0
def KZ:Nat→Nat:=fun d=>0
def CY:Nat→Nat:=fun d=>if d=11 then 1 else if d=21 then 1 else 0
def Gw:Nat→Nat:=fun d=>if d=13 then 1 else 0
def BP:Nat→Nat:=fun d=>if d=11 then 1 else if d=57 then 1 else 0
def A6U:Nat→Nat:=fun d=>if d=11 then 1 else if d=57 then 1 else 0
def Sc:Nat→Nat:=fun d=>if d=6 then 1 else if d=7 then 1 else if d=9 then 1 else 0
def DT:Nat→Nat:=fun d=>if d=8 then 1 else 0
def Sd:Nat→Nat:=fun d=>0
def CZ:Nat→Nat:=fun d=>if d=9 then 1 else 0
def Se:Nat→Nat:=fun d=>0
def Sf:Nat→Nat:=fun d=>0
def Xp:Nat→Nat:=fun d=>if d=3 then 1 else 0
def A1Y:Nat→Nat:=fun d=>0
def NC:Nat→Nat:=fun d=>0
def A1Z:Nat→Nat:=fun d=>0
def Qe:Nat→Nat:=fun d=>0
def A6V:Nat→Nat:=fun d=>if d=3 then 1 else 0
def A20:Nat→Nat:=fun d=>if d=3 then 1 else 0
def A21:Nat→Nat:=fun d=>0
def Xq:Nat→Nat:=fun d=>if d=5 then 2 else if d=9 then 2 else 0
def A6W:Nat→Nat:=fun d=>if d=3 then 1 else 0
def ND:Nat→Nat:=fun d=>if d=30 then 1 else 0
def A6X:Nat→Nat:=fun d=>0
def A6Y:Nat→Nat:=fun d=>if d=9 then 1 else if d=10 then 1 else 0
def Sg:Nat→Nat:=fun d=>0
def ML:Nat→Nat:=fun d=>if d=3 then 1 else 0
def MM:Nat→Nat:=fun d=>if d=4 then 1 else if d=75 then 3 else 0
def A22:Nat→Nat:=fun d=>0
def A6Z:Nat→Nat:=fun d=>0
def A23:Nat→Nat:=fun d=>0
def DU:Nat→Nat:=fun d=>if d=5 then 2 else if d=7 then 1 else if d=9 then 2 else if d=76 then 1 else if d=83 then 2 else 0
def Xr:Nat→Nat:=fun d=>0
def Q1:Nat→Nat:=fun d=>0
def AB:Nat→Nat:=fun d=>if d=8 then 1 else if d=39 then 2 else if d=94 then 2 else if d=109 then 3 else if d=128 then 3 else if d=137 then 3 else if d=151 then 2 else if d=164 then 3 else if d=165 then 2 else if d=181 then 3 else if d=182 then 3 else if d=183 then 2 else if d=192 then 3 else if d=202 then 2 else if d=211 then 2 else if d=223 then 2 else if d=233 then 2 else if d=251 then 3 else if d=253 then 2 else if d=263 then 2 else 0
def A0l:Nat→Nat:=fun d=>if d=8 then 1 else if d=39 then 2 else if d=56 then 1 else if d=94 then 2 else if d=109 then 3 else if d=128 then 3 else if d=137 then 3 else if d=151 then 2 else if d=164 then 3 else if d=165 then 2 else if d=181 then 3 else if d=182 then 3 else if d=183 then 2 else if d=192 then 3 else if d=199 then 1 else if d=202 then 2 else if d=208 then 1 else if d=211 then 2 else if d=223 then 2 else if d=233 then 2 else if d=251 then 3 else if d=253 then 2 else if d=263 then 2 else 0
def BM:Nat→Nat:=fun d=>if d=10 then 1 else if d=11 then 1 else if d=13 then 2 else if d=20 then 3 else if d=22 then 2 else if d=36 then 3 else if d=38 then 3 else if d=56 then 3 else if d=58 then 3 else if d=74 then 3 else 0
def A0m:Nat→Nat:=fun d=>if d=10 then 1 else if d=11 then 2 else if d=13 then 2 else if d=20 then 3 else if d=36 then 3 else if d=38 then 3 else if d=56 then 3 else if d=58 then 3 else if d=74 then 3 else 0
def Tx:Nat→Nat:=fun d=>if d=10 then 1 else if d=12 then 1 else if d=55 then 2 else if d=72 then 1 else if d=87 then 1 else 0
def Bf:Nat→Nat:=fun d=>if d=10 then 1 else if d=12 then 1 else if d=55 then 1 else if d=72 then 1 else if d=87 then 1 else 0
def Ln:Nat→Nat:=fun d=>0
def Lo:Nat→Nat:=fun d=>0
def J5:Nat→Nat:=fun d=>0
def MN:Nat→Nat:=fun d=>if d=5 then 1 else 0
def MP:Nat→Nat:=fun d=>0
def Ty:Nat→Nat:=fun d=>0
def Q3:Nat→Nat:=fun d=>0
def Tz:Nat→Nat:=fun d=>0
def J6:Nat→Nat:=fun d=>if d=8 then 1 else 0
def TA:Nat→Nat:=fun d=>0
def TB:Nat→Nat:=fun d=>0
def Gt:Nat→Nat:=fun d=>0
def MQ:Nat→Nat:=fun d=>0
def TC:Nat→Nat:=fun d=>0
def TD:Nat→Nat:=fun d=>0
def K2:Nat→Nat:=fun d=>if d=3 then 2 else 0
def Cc:Nat→Nat:=fun d=>if d=11 then 1 else if d=13 then 1 else 0
def TE:Nat→Nat:=fun d=>0
def Hj:Nat→Nat:=fun d=>if d=5 then 2 else 0
def MR:Nat→Nat:=fun d=>0
def MT:Nat→Nat:=fun d=>0
def TF:Nat→Nat:=fun d=>0
def TG:Nat→Nat:=fun d=>0
def Hl:Nat→Nat:=fun d=>if d=2 then 1 else if d=4 then 1 else if d=6 then 1 else if d=15 then 1 else if d=19 then 1 else 0
def Dy:Nat→Nat:=fun d=>if d=12 then 1 else 0
def A0n:Nat→Nat:=fun d=>if d=7 then 1 else if d=8 then 1 else 0
def Q4:Nat→Nat:=fun d=>0
def TH:Nat→Nat:=fun d=>0
def J3:Nat→Nat:=fun d=>if d=13 then 2 else 0
def A0o:Nat→Nat:=fun d=>0
def P8:Nat→Nat:=fun d=>0
def A0p:Nat→Nat:=fun d=>0
def A0q:Nat→Nat:=fun d=>0
def TJ:Nat→Nat:=fun d=>0
def A0r:Nat→Nat:=fun d=>0
def TK:Nat→Nat:=fun d=>0
def TL:Nat→Nat:=fun d=>0
def KD:Nat→Nat:=fun d=>if d=2 then 1 else if d=5 then 1 else if d=76 then 3 else 0
def TM:Nat→Nat:=fun d=>0
def K3:Nat→Nat:=fun d=>0
def CW:Nat→Nat:=fun d=>0
def TN:Nat→Nat:=fun d=>0
def Dt:Nat→Nat:=fun d=>if d=23 then 2 else if d=42 then 2 else if d=54 then 2 else 0
def J7:Nat→Nat:=fun d=>0
def B9:Nat→Nat:=fun d=>0
def Dz:Nat→Nat:=fun d=>if d=28 then 1 else 0
def P9:Nat→Nat:=fun d=>if d=20 then 1 else if d=22 then 5 else 0
def A0s:Nat→Nat:=fun d=>if d=20 then 1 else 0
def K4:Nat→Nat:=fun d=>0
def Pa:Nat→Nat:=fun d=>if d=10 then 1 else 0
def Pb:Nat→Nat:=fun d=>0
def Q5:Nat→Nat:=fun d=>0
def TO:Nat→Nat:=fun d=>0
def AT:Nat→Nat:=fun d=>if d=12 then 2 else if d=14 then 1 else if d=25 then 3 else if d=27 then 3 else if d=32 then 3 else if d=39 then 3 else if d=48 then 3 else if d=58 then 3 else if d=64 then 3 else if d=73 then 3 else if d=80 then 3 else if d=94 then 3 else if d=103 then 3 else if d=108 then 3 else if d=116 then 3 else if d=130 then 3 else if d=137 then 3 else if d=142 then 3 else if d=151 then 3 else 0
def AY:Nat→Nat:=fun d=>if d=8 then 1 else if d=11 then 1 else if d=14 then 3 else if d=28 then 3 else if d=32 then 3 else if d=39 then 3 else if d=47 then 4 else if d=53 then 3 else if d=75 then 4 else if d=81 then 4 else if d=86 then 3 else if d=91 then 3 else 0
def A0t:Nat→Nat:=fun d=>if d=8 then 1 else if d=11 then 1 else if d=14 then 3 else if d=28 then 3 else if d=32 then 3 else if d=39 then 3 else if d=47 then 3 else if d=53 then 3 else if d=75 then 3 else if d=81 then 3 else if d=86 then 3 else if d=91 then 3 else 0
def J8:Nat→Nat:=fun d=>0
def TP:Nat→Nat:=fun d=>0
def TQ:Nat→Nat:=fun d=>0
def TR:Nat→Nat:=fun d=>0
def Lp:Nat→Nat:=fun d=>0
def Q6:Nat→Nat:=fun d=>0
def TS:Nat→Nat:=fun d=>0
def MU:Nat→Nat:=fun d=>0
def A0u:Nat→Nat:=fun d=>0
def TU:Nat→Nat:=fun d=>0
def Lq:Nat→Nat:=fun d=>0
def Q7:Nat→Nat:=fun d=>0
def TV:Nat→Nat:=fun d=>0
def TW:Nat→Nat:=fun d=>0
def KE:Nat→Nat:=fun d=>if d=5 then 1 else if d=6 then 1 else if d=66 then 3 else if d=115 then 3 else if d=136 then 3 else 0
def GZ:Nat→Nat:=fun d=>if d=5 then 1 else if d=8 then 1 else if d=79 then 3 else 0
def Lr:Nat→Nat:=fun d=>0
def K5:Nat→Nat:=fun d=>0
def Ls:Nat→Nat:=fun d=>0
def AC:Nat→Nat:=fun d=>if d=101 then 1 else if d=107 then 5 else 0
def A0v:Nat→Nat:=fun d=>if d=101 then 1 else 0
def TX:Nat→Nat:=fun d=>0
def Lt:Nat→Nat:=fun d=>0
def TY:Nat→Nat:=fun d=>0
def Ma:Nat→Nat:=fun d=>if d=14 then 3 else 0
def B4:Nat→Nat:=fun d=>if d=8 then 1 else if d=11 then 1 else if d=13 then 3 else if d=21 then 3 else if d=28 then 3 else if d=36 then 4 else if d=50 then 3 else if d=56 then 3 else 0
def A0w:Nat→Nat:=fun d=>if d=8 then 1 else if d=11 then 1 else if d=13 then 3 else if d=21 then 3 else if d=28 then 3 else if d=36 then 3 else if d=50 then 3 else if d=56 then 3 else 0
def Hm:Nat→Nat:=fun d=>if d=19 then 1 else 0
def Lu:Nat→Nat:=fun d=>0
def TZ:Nat→Nat:=fun d=>0
def U0:Nat→Nat:=fun d=>0
def Lw:Nat→Nat:=fun d=>0
def J9:Nat→Nat:=fun d=>0
def BG:Nat→Nat:=fun d=>0
def Hn:Nat→Nat:=fun d=>0
def CX:Nat→Nat:=fun d=>0
abbrev Ag (V:Al) (n:Nat) (vf:EP):Prop:=V.ext n=none∧V.fn n=some vf
structure AA (V:Al):Prop where
  c_mathbits_TrailingZeros64:V.ext AL=some A0Z
  c_z0:Ag V Aa1 ⟨Ra,Q2⟩
  c_z1:Ag V A4b ⟨Ag2,Adn⟩
  c_z2:Ag V Aa2 ⟨Ac6,A49⟩
  c_z3:Ag V Adv ⟨Ag3,Ado⟩
  c_z4:Ag V Aa3 ⟨ZX,Xm⟩
  c_z5:Ag V Aa4 ⟨Ac7,A9S⟩
  c_z6:Ag V Aa5 ⟨A3U,MV⟩
  c_z7:Ag V A7p ⟨Ac8,A6T⟩
  h_z8:V.fnH A0E=some ⟨A6b,ER⟩
  c_z8:Ag V A0E ⟨A6b,Adp⟩
  c_z9:Ag V Aa6 ⟨A98,Qf⟩
  c_z10:Ag V A26 ⟨A1p,Eb⟩
  c_z11:Ag V A27 ⟨A5H,A1R⟩
  c_z12:Ag V A28 ⟨RT,Be⟩
  c_z13:Ag V A7c ⟨AaR,A6F⟩
  c_z14:Ag V A7d ⟨AaS,A6G⟩
  c_z15:Ag V A7e ⟨AaT,A6H⟩
  c_z16:Ag V A29 ⟨A5M,A1S⟩
  c_z17:Ag V A7f ⟨AaU,A6I⟩
  c_z18:Ag V A2a ⟨A5O,Gu⟩
  h_z19:V.fnH NF=some ⟨RU,Q0⟩
  c_z19:Ag V NF ⟨RU,A6J⟩
  h_z20:V.fnH A2b=some ⟨A5P,MK⟩
  h_z21:V.fnH Qt=some ⟨WO,A0k⟩
  c_z21:Ag V Qt ⟨WO,H5⟩
  c_z22:Ag V A2c ⟨A5Q,KY⟩
  c_z23:Ag V Xz ⟨A1q,Xj⟩
  c_z24:Ag V A7g ⟨AaV,A6K⟩
  c_z25:Ag V A2d ⟨A5R,Gv⟩
  c_z26:Ag V A2e ⟨A5S,A1T⟩
  c_z27:Ag V A2f ⟨A5T,A1U⟩
  c_z28:Ag V A2g ⟨A5U,A1V⟩
  c_z29:Ag V XA ⟨A5V,Cf⟩
  c_z30:Ag V A2h ⟨A1r,Xk⟩
  c_z31:Ag V A2i ⟨A5W,A1W⟩
  c_z32:Ag V XB ⟨WQ,S6⟩
  c_z33:Ag V A2j ⟨A1s,Xl⟩
  c_z34:Ag V A2k ⟨WR,Cq⟩
  c_z35:Ag V A2l ⟨WS,S7⟩
  c_z36:Ag V A2m ⟨WT,S8⟩
  c_z37:Ag V A2n ⟨A5X,Q8⟩
  c_z38:Ag V A2o ⟨A5Y,Jw⟩
  c_z39:Ag V XC ⟨A5Z,NB⟩
  c_z40:Ag V A2p ⟨A1t,EA⟩
  c_z41:Ag V A2q ⟨A60,Q9⟩
  c_z42:Ag V XD ⟨A61,S9⟩
  c_z43:Ag V A7h ⟨AaW,A6L⟩
  c_z44:Ag V A7i ⟨AaX,A6M⟩
  c_z45:Ag V A7j ⟨AaY,A6N⟩
  c_z46:Ag V A7k ⟨AaZ,A6O⟩
  c_z47:Ag V A2r ⟨A62,Sa⟩
  c_z48:Ag V A2s ⟨A63,Qa⟩
  c_z49:Ag V A7l ⟨Ab0,A6P⟩
  c_z50:Ag V A7m ⟨Ab1,A6Q⟩
  c_z51:Ag V A7n ⟨Ab2,A6R⟩
  c_z52:Ag V A7o ⟨Ab3,A6S⟩
  c_z53:Ag V XE ⟨A1u,Cz⟩
  h_z54:V.fnH Qu=some ⟨Nu,J4⟩
  h_z55:V.fnH A2t=some ⟨A64,Hi⟩
  c_z56:Ag V A2u ⟨A1v,Xn⟩
  c_z57:Ag V A2v ⟨WU,Sb⟩
  c_z58:Ag V A2w ⟨PQ,Jx⟩
  c_z59:Ag V A2x ⟨RV,Qb⟩
  c_z60:Ag V A2y ⟨RW,Qc⟩
  c_z61:Ag V XF ⟨A1w,Mb⟩
  c_z62:Ag V A2z ⟨A1x,DH⟩
  c_z63:Ag V A2A ⟨A1y,Qd⟩
  c_z64:Ag V A2B ⟨A65,A1X⟩
  c_z65:Ag V A2C ⟨A1z,Xo⟩
  c_z66:Ag V A2D ⟨A66,ES⟩
  c_z67:Ag V Qv ⟨A67,Jy⟩
  c_z68:Ag V Qw ⟨A68,KZ⟩
  c_z69:Ag V A2E ⟨A69,CY⟩
  c_z70:Ag V A2F ⟨A1A,Gw⟩
  h_z71:V.fnH Md=some ⟨Nv,BP⟩
  c_z71:Ag V Md ⟨Nv,A6U⟩
  c_z72:Ag V A2G ⟨WV,Sc⟩
  c_z73:Ag V A2H ⟨A1B,DT⟩
  c_z74:Ag V A2I ⟨WW,Sd⟩
  c_z75:Ag V A2J ⟨A1C,CZ⟩
  c_z76:Ag V A2K ⟨WX,Se⟩
  c_z77:Ag V A2L ⟨WY,Sf⟩
  c_z78:Ag V XG ⟨A1D,Xp⟩
  c_z79:Ag V A2M ⟨A6a,A1Y⟩
  c_z80:Ag V A2N ⟨A6c,NC⟩
  c_z81:Ag V A2O ⟨A6d,A1Z⟩
  c_z82:Ag V A2P ⟨RX,Qe⟩
  c_z83:Ag V A7q ⟨Ab4,A6V⟩
  c_z84:Ag V A2Q ⟨A6e,A20⟩
  c_z85:Ag V A2R ⟨A6f,A21⟩
  c_z86:Ag V A2S ⟨A6g,Xq⟩
  c_z87:Ag V A2T ⟨Ab5,A6W⟩
  c_z88:Ag V A2U ⟨A6h,ND⟩
  c_z89:Ag V A7r ⟨Ab6,A6X⟩
  c_z90:Ag V A7s ⟨Ab7,A6Y⟩
  c_z91:Ag V A2V ⟨A6i,Sg⟩
  h_z92:V.fnH A2W=some ⟨A6j,ML⟩
  h_z93:V.fnH A2X=some ⟨A6k,MM⟩
  c_z94:Ag V A2Y ⟨A6l,A22⟩
  c_z95:Ag V A7t ⟨Ab8,A6Z⟩
  c_z96:Ag V A2Z ⟨A6m,A23⟩
  c_z97:Ag V A30 ⟨A1E,DU⟩
  c_z98:Ag V A31 ⟨A6n,Xr⟩
  h_z99:V.fnH XH=some ⟨A1F,Q1⟩
  h_z100:V.fnH Ly=some ⟨PE,AB⟩
  c_z100:Ag V Ly ⟨PE,A0l⟩
  h_z101:V.fnH Lz=some ⟨PF,BM⟩
  c_z101:Ag V Lz ⟨PF,A0m⟩
  h_z102:V.fnH Jc=some ⟨Dj,Tx⟩
  c_z102:Ag V Jc ⟨Dj,Bf⟩
  c_z103:Ag V Ub ⟨YS,Ln⟩
  c_z104:Ag V Uc ⟨YT,Lo⟩
  c_z105:Ag V Ud ⟨Tf,J5⟩
  c_z106:Ag V Ue ⟨PG,MN⟩
  c_z107:Ag V Qh ⟨YU,MP⟩
  c_z108:Ag V LA ⟨YV,Ty⟩
  c_z109:Ag V Uf ⟨Tg,Q3⟩
  c_z110:Ag V Qi ⟨YW,Tz⟩
  c_z111:Ag V Qj ⟨Th,J6⟩
  c_z112:Ag V Qk ⟨YX,TA⟩
  c_z113:Ag V Ug ⟨YY,TB⟩
  c_z114:Ag V Uh ⟨YZ,Gt⟩
  c_z115:Ag V Ui ⟨PH,MQ⟩
  c_z116:Ag V Ql ⟨Z0,TC⟩
  c_z117:Ag V Uj ⟨Z4,TD⟩
  c_z118:Ag V Uk ⟨Z5,K2⟩
  c_z119:Ag V Ul ⟨Z6,Cc⟩
  c_z120:Ag V Um ⟨Z7,TE⟩
  c_z121:Ag V Un ⟨Z8,Hj⟩
  c_z122:Ag V Uo ⟨PI,MR⟩
  c_z123:Ag V Qm ⟨Z9,MT⟩
  c_z124:Ag V Up ⟨Za,TF⟩
  c_z125:Ag V Qn ⟨Zb,TG⟩
  c_z126:Ag V Qo ⟨Zd,Hl⟩
  c_z127:Ag V MX ⟨Ze,Dy⟩
  c_z128:Ag V Uq ⟨A5I,A0n⟩
  c_z129:Ag V MY ⟨Ti,Q4⟩
  c_z130:Ag V Ur ⟨Zf,TH⟩
  h_z131:V.fnH K9=some ⟨MF,J3⟩
  c_z131:Ag V K9 ⟨MF,A0o⟩
  h_z132:V.fnH MZ=some ⟨Zg,P8⟩
  c_z133:Ag V A0A ⟨A5J,A0p⟩
  c_z134:Ag V A0B ⟨A5K,A0q⟩
  c_z135:Ag V Qp ⟨Zh,TJ⟩
  c_z136:Ag V A0C ⟨A5L,A0r⟩
  c_z137:Ag V Us ⟨Zi,TK⟩
  c_z138:Ag V Ut ⟨Zj,TL⟩
  h_z139:V.fnH Uu=some ⟨PJ,KD⟩
  c_z140:Ag V Uv ⟨Zk,TM⟩
  c_z141:Ag V Uw ⟨Zl,K3⟩
  c_z142:Ag V Ux ⟨PK,CW⟩
  c_z143:Ag V Uy ⟨Zm,TN⟩
  h_z144:V.fnH Uz=some ⟨Zn,Dt⟩
  c_z145:Ag V UA ⟨Zo,J7⟩
  c_z146:Ag V UB ⟨Zp,B9⟩
  c_z147:Ag V N0 ⟨Zq,Dz⟩
  h_z148:V.fnH LB=some ⟨PL,P9⟩
  c_z148:Ag V LB ⟨PL,A0s⟩
  c_z149:Ag V UC ⟨Zr,K4⟩
  h_z150:V.fnH UD=some ⟨Zs,Pa⟩
  h_z151:V.fnH UE=some ⟨Zt,Pb⟩
  c_z152:Ag V UF ⟨Tj,Q5⟩
  c_z153:Ag V UG ⟨Zu,TO⟩
  h_z154:V.fnH N1=some ⟨Zv,AT⟩
  h_z155:V.fnH Jd=some ⟨PM,AY⟩
  c_z155:Ag V Jd ⟨PM,A0t⟩
  c_z156:Ag V UH ⟨Zw,J8⟩
  c_z157:Ag V UI ⟨Zx,TP⟩
  c_z158:Ag V Qq ⟨Zy,TQ⟩
  c_z159:Ag V UJ ⟨Zz,TR⟩
  c_z160:Ag V UK ⟨ZA,Lp⟩
  c_z161:Ag V UL ⟨Tk,Q6⟩
  c_z162:Ag V UM ⟨ZB,TS⟩
  c_z163:Ag V UN ⟨ZC,MU⟩
  c_z165:Ag V A0D ⟨A5N,A0u⟩
  c_z166:Ag V UO ⟨ZD,TU⟩
  c_z167:Ag V UP ⟨ZE,Lq⟩
  c_z168:Ag V UQ ⟨Tl,Q7⟩
  c_z169:Ag V UR ⟨ZF,TV⟩
  c_z170:Ag V Qr ⟨ZG,TW⟩
  h_z171:V.fnH US=some ⟨PN,KE⟩
  h_z172:V.fnH UT=some ⟨ZH,GZ⟩
  c_z173:Ag V UU ⟨ZI,Lr⟩
  c_z174:Ag V UV ⟨ZJ,K5⟩
  c_z175:Ag V UW ⟨ZK,Ls⟩
  h_z176:V.fnH LC=some ⟨PO,AC⟩
  c_z176:Ag V LC ⟨PO,A0v⟩
  c_z177:Ag V UX ⟨ZL,TX⟩
  c_z178:Ag V Qs ⟨ZM,Lt⟩
  c_z179:Ag V UY ⟨ZN,TY⟩
  h_z180:V.fnH UZ=some ⟨ZO,Ma⟩
  h_z181:V.fnH LD=some ⟨MG,B4⟩
  c_z181:Ag V LD ⟨MG,A0w⟩
  c_z182:Ag V V0 ⟨ZP,Hm⟩
  c_z183:Ag V V2 ⟨ZQ,Lu⟩
  c_z184:Ag V V3 ⟨ZR,TZ⟩
  c_z185:Ag V V4 ⟨ZS,U0⟩
  c_z186:Ag V V5 ⟨ZT,Lw⟩
  c_z187:Ag V V6 ⟨ZU,J9⟩
  c_z188:Ag V V7 ⟨ZV,BG⟩
  c_z189:Ag V V8 ⟨ZW,Hn⟩
  c_z190:Ag V V9 ⟨HY,CX⟩
def AkI (g:Nat):Nat→Nat:=if g=Aa1 then Q2 else if g=A4b then Adn else if g=Aa2 then A49 else if g=Adv then Ado else if g=Aa3 then Xm else if g=Aa4 then A9S else if g=Aa5 then MV else if g=A7p then A6T else if g=A0E then Adp else if g=Aa6 then Qf else if g=A26 then Eb else if g=A27 then A1R else if g=A28 then Be else if g=A7c then A6F else if g=A7d then A6G else if g=A7e then A6H else if g=A29 then A1S else if g=A7f then A6I else if g=A2a then Gu else if g=NF then A6J else if g=Qt then H5 else if g=A2c then KY else if g=Xz then Xj else if g=A7g then A6K else if g=A2d then Gv else if g=A2e then A1T else if g=A2f then A1U else if g=A2g then A1V else if g=XA then Cf else if g=A2h then Xk else if g=A2i then A1W else if g=XB then S6 else if g=A2j then Xl else if g=A2k then Cq else if g=A2l then S7 else if g=A2m then S8 else if g=A2n then Q8 else if g=A2o then Jw else if g=XC then NB else if g=A2p then EA else fun _=>0
def AkJ (g:Nat):Nat→Nat:=if g=A2q then Q9 else if g=XD then S9 else if g=A7h then A6L else if g=A7i then A6M else if g=A7j then A6N else if g=A7k then A6O else if g=A2r then Sa else if g=A2s then Qa else if g=A7l then A6P else if g=A7m then A6Q else if g=A7n then A6R else if g=A7o then A6S else if g=XE then Cz else if g=A2u then Xn else if g=A2v then Sb else if g=A2w then Jx else if g=A2x then Qb else if g=A2y then Qc else if g=XF then Mb else if g=A2z then DH else if g=A2A then Qd else if g=A2B then A1X else if g=A2C then Xo else if g=A2D then ES else if g=Qv then Jy else if g=Qw then KZ else if g=A2E then CY else if g=A2F then Gw else if g=Md then A6U else if g=A2G then Sc else if g=A2H then DT else if g=A2I then Sd else if g=A2J then CZ else if g=A2K then Se else if g=A2L then Sf else if g=XG then Xp else if g=A2M then A1Y else if g=A2N then NC else if g=A2O then A1Z else if g=A2P then Qe else AkI g
def AkK (g:Nat):Nat→Nat:=if g=A7q then A6V else if g=A2Q then A20 else if g=A2R then A21 else if g=A2S then Xq else if g=A2T then A6W else if g=A2U then ND else if g=A7r then A6X else if g=A7s then A6Y else if g=A2V then Sg else if g=A2Y then A22 else if g=A7t then A6Z else if g=A2Z then A23 else if g=A30 then DU else if g=A31 then Xr else if g=Ly then A0l else if g=Lz then A0m else if g=Jc then Bf else if g=Ub then Ln else if g=Uc then Lo else if g=Ud then J5 else if g=Ue then MN else if g=Qh then MP else if g=LA then Ty else if g=Uf then Q3 else if g=Qi then Tz else if g=Qj then J6 else if g=Qk then TA else if g=Ug then TB else if g=Uh then Gt else if g=Ui then MQ else if g=Ql then TC else if g=Uj then TD else if g=Uk then K2 else if g=Ul then Cc else if g=Um then TE else if g=Un then Hj else if g=Uo then MR else if g=Qm then MT else if g=Up then TF else if g=Qn then TG else AkJ g
def AkL (g:Nat):Nat→Nat:=if g=Qo then Hl else if g=MX then Dy else if g=Uq then A0n else if g=MY then Q4 else if g=Ur then TH else if g=K9 then A0o else if g=A0A then A0p else if g=A0B then A0q else if g=Qp then TJ else if g=A0C then A0r else if g=Us then TK else if g=Ut then TL else if g=Uv then TM else if g=Uw then K3 else if g=Ux then CW else if g=Uy then TN else if g=UA then J7 else if g=UB then B9 else if g=N0 then Dz else if g=LB then A0s else if g=UC then K4 else if g=UF then Q5 else if g=UG then TO else if g=Jd then A0t else if g=UH then J8 else if g=UI then TP else if g=Qq then TQ else if g=UJ then TR else if g=UK then Lp else if g=UL then Q6 else if g=UM then TS else if g=UN then MU else if g=A0D then A0u else if g=UO then TU else if g=UP then Lq else if g=UQ then Q7 else if g=UR then TV else if g=Qr then TW else if g=UU then Lr else if g=UV then K5 else AkK g
def AkM (g:Nat):Nat→Nat:=if g=UW then Ls else if g=LC then A0v else if g=UX then TX else if g=Qs then Lt else if g=UY then TY else if g=LD then A0w else if g=V0 then Hm else if g=V2 then Lu else if g=V3 then TZ else if g=V4 then U0 else if g=V5 then Lw else if g=V6 then J9 else if g=V7 then BG else if g=V8 then Hn else if g=V9 then CX else AkL g
def muP (g:Nat):Nat→Nat:=AkM g
def AkH (g:Nat):Nat→Nat:=if g=A0E then ER else if g=NF then Q0 else if g=A2b then MK else if g=Qt then A0k else if g=Qu then J4 else if g=A2t then Hi else if g=Md then BP else if g=A2W then ML else if g=A2X then MM else if g=XH then Q1 else if g=Ly then AB else if g=Lz then BM else if g=Jc then Tx else if g=K9 then J3 else if g=MZ then P8 else if g=Uu then KD else if g=Uz then Dt else if g=LB then P9 else if g=UD then Pa else if g=UE then Pb else if g=N1 then AT else if g=Jd then AY else if g=US then KE else if g=UT then GZ else if g=LC then AC else if g=UZ then Ma else if g=LD then B4 else fun _=>0
def muH (g:Nat):Nat→Nat:=AkH g
end Go.AM
