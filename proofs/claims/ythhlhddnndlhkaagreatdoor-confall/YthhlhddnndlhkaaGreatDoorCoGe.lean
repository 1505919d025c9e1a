/-
  Own work, part of the proof of these laws: the code of the functions that the law reaches, as the machine has it; read off the program as the text is compiled.
-/
import Derived.Test.YthhlhddnndlhkaaGreatDoorCoB
import Derived.Test.YthhlhddnndlhkaaGreatDoorCoC
import Derived.Test.YthhlhddnndlhkaaGreatDoorCoD
import Derived.Test.YthhlhddnndlhkaaGreatDoorCoEe
import Derived.Test.YthhlhddnndlhkaaGreatDoorCoFe
set_option maxRecDepth 10000
set_option maxHeartbeats 64000000
set_option linter.unusedVariables false
set_option linter.unusedSimpArgs false
set_option maxRecDepth 100000
namespace Go.AM
open Go Go.Proofs
def Af3:Nat->Nat:=fun d=>if d=9 then 1 else if d=11 then 1 else 0
def A3K:Nat->Nat:=fun d=>if d=2 then 1 else if d=4 then 1 else if d=8 then 2 else if d=9 then 3 else 0
def A3L:Nat->Nat:=fun d=>if d=6 then 1 else if d=7 then 1 else if d=9 then 1 else 0
def A3M:Nat->Nat:=fun d=>0
def A3Q:Nat->Nat:=fun d=>0
def A3U:Nat->Nat:=fun d=>0
def A3W:Nat->Nat:=fun d=>if d=14 then 1 else 0
def A1g:Nat->Nat:=fun d=>if d=5 then 1 else if d=11 then 1 else 0
def A3Z:Nat->Nat:=fun d=>0
def A40:Nat->Nat:=fun d=>if d=4 then 1 else 0
def A42:Nat->Nat:=fun d=>if d=1 then 1 else if d=3 then 1 else 0
def A43:Nat->Nat:=fun d=>0
def A44:Nat->Nat:=fun d=>if d=5 then 2 else if d=6 then 1 else 0
def A45:Nat->Nat:=fun d=>if d=8 then 2 else if d=15 then 2 else if d=87 then 5 else 0
def A46:Nat->Nat:=fun d=>0
def A47:Nat->Nat:=fun d=>0
def A48:Nat->Nat:=fun d=>if d=3 then 1 else 0
def A49:Nat->Nat:=fun d=>0
def A4a:Nat->Nat:=fun d=>0
def A4b:Nat->Nat:=fun d=>if d=3 then 1 else 0
def A4c:Nat->Nat:=fun d=>0
def A4g:Nat->Nat:=fun d=>if d=21 then 1 else 0
def A4i:Nat->Nat:=fun d=>0
def A4k:Nat->Nat:=fun d=>if d=2 then 1 else if d=4 then 1 else 0
def Si:Nat->Nat:=fun d=>if d=5 then 1 else 0
def A4m:Nat->Nat:=fun d=>0
def Sj:Nat->Nat:=fun d=>if d=2 then 1 else if d=3 then 1 else if d=5 then 3 else if d=10 then 3 else 0
def A4n:Nat->Nat:=fun d=>if d=2 then 1 else if d=3 then 2 else 0
def A4o:Nat->Nat:=fun d=>if d=8 then 1 else if d=12 then 1 else if d=13 then 2 else if d=15 then 1 else if d=17 then 1 else 0
def A4p:Nat->Nat:=fun d=>if d=6 then 1 else if d=11 then 1 else 0
def A4q:Nat->Nat:=fun d=>0
def A4r:Nat->Nat:=fun d=>0
def A4u:Nat->Nat:=fun d=>if d=8 then 1 else 0
def A4v:Nat->Nat:=fun d=>if d=13 then 1 else 0
def A4w:Nat->Nat:=fun d=>0
def A4x:Nat->Nat:=fun d=>0
def A4y:Nat->Nat:=fun d=>0
def A4z:Nat->Nat:=fun d=>if d=21 then 2 else if d=29 then 1 else if d=58 then 3 else 0
def A4A:Nat->Nat:=fun d=>if d=10 then 1 else 0
def A4B:Nat->Nat:=fun d=>0
def A4F:Nat->Nat:=fun d=>if d=3 then 1 else 0
def A4G:Nat->Nat:=fun d=>if d=8 then 1 else 0
def A4H:Nat->Nat:=fun d=>0
def A4I:Nat->Nat:=fun d=>if d=3 then 2 else 0
def A4J:Nat->Nat:=fun d=>0
def A4K:Nat->Nat:=fun d=>0
def A4L:Nat->Nat:=fun d=>0
def A4M:Nat->Nat:=fun d=>0
def A4N:Nat->Nat:=fun d=>if d=6 then 1 else if d=9 then 1 else if d=10 then 2 else if d=11 then 2 else if d=15 then 2 else if d=62 then 2 else if d=81 then 3 else if d=99 then 3 else if d=109 then 3 else 0
def A4O:Nat->Nat:=fun d=>0
def A4P:Nat->Nat:=fun d=>if d=0 then 1 else 0
def A4Q:Nat->Nat:=fun d=>if d=7 then 2 else if d=42 then 5 else 0
def A4R:Nat->Nat:=fun d=>if d=5 then 2 else 0
def A4S:Nat->Nat:=fun d=>if d=5 then 2 else if d=9 then 2 else 0
def A4T:Nat->Nat:=fun d=>0
def A4U:Nat->Nat:=fun d=>if d=5 then 2 else 0
def A4V:Nat->Nat:=fun d=>0
def A4W:Nat->Nat:=fun d=>if d=3 then 2 else 0
def A4X:Nat->Nat:=fun d=>if d=2 then 1 else if d=4 then 1 else if d=6 then 1 else if d=15 then 1 else if d=19 then 1 else 0
def A4Y:Nat->Nat:=fun d=>if d=12 then 1 else 0
def A4Z:Nat->Nat:=fun d=>if d=7 then 1 else if d=8 then 1 else 0
def A50:Nat->Nat:=fun d=>0
def A51:Nat->Nat:=fun d=>0
def Sk:Nat->Nat:=fun d=>if d=2 then 1 else if d=3 then 1 else if d=5 then 2 else if d=7 then 1 else if d=11 then 1 else if d=15 then 2 else if d=34 then 1 else if d=49 then 1 else 0
def A53:Nat->Nat:=fun d=>if d=2 then 1 else if d=3 then 1 else if d=5 then 2 else if d=7 then 1 else if d=11 then 1 else if d=15 then 2 else if d=34 then 1 else 0
def Sq:Nat->Nat:=fun d=>0
def Sr:Nat->Nat:=fun d=>0
def Ss:Nat->Nat:=fun d=>0
def Su:Nat->Nat:=fun d=>if d=58 then 1 else if d=60 then 3 else if d=63 then 3 else 0
def Sv:Nat->Nat:=fun d=>0
def Sw:Nat->Nat:=fun d=>0
def Sx:Nat->Nat:=fun d=>if d=5 then 1 else 0
def Sy:Nat->Nat:=fun d=>if d=48 then 1 else 0
def SA:Nat->Nat:=fun d=>0
def SC:Nat->Nat:=fun d=>0
def SD:Nat->Nat:=fun d=>0
def SE:Nat->Nat:=fun d=>if d=2 then 1 else if d=23 then 2 else if d=94 then 2 else if d=116 then 2 else if d=141 then 2 else 0
def N9:Nat->Nat:=fun d=>0
def Na:Nat->Nat:=fun d=>if d=4 then 1 else if d=6 then 3 else if d=11 then 3 else if d=16 then 3 else if d=19 then 3 else 0
def SF:Nat->Nat:=fun d=>if d=5 then 2 else 0
def SG:Nat->Nat:=fun d=>if d=6 then 1 else 0
def SH:Nat->Nat:=fun d=>if d=8 then 1 else if d=10 then 1 else 0
def SJ:Nat->Nat:=fun d=>if d=8 then 1 else if d=10 then 2 else if d=19 then 2 else if d=72 then 1 else 0
def SK:Nat->Nat:=fun d=>if d=8 then 1 else if d=10 then 2 else if d=18 then 1 else if d=47 then 1 else 0
def SL:Nat->Nat:=fun d=>0
def PZ:Nat->Nat:=fun d=>if d=10 then 1 else if d=12 then 1 else 0
def SM:Nat->Nat:=fun d=>if d=15 then 1 else 0
def SN:Nat->Nat:=fun d=>0
def SP:Nat->Nat:=fun d=>0
def SQ:Nat->Nat:=fun d=>if d=11 then 1 else if d=21 then 1 else 0
def SR:Nat->Nat:=fun d=>if d=13 then 1 else 0
def SS:Nat->Nat:=fun d=>0
def ST:Nat->Nat:=fun d=>0
def SU:Nat->Nat:=fun d=>if d=3 then 1 else 0
def SV:Nat->Nat:=fun d=>if d=6 then 1 else 0
def Nb:Nat->Nat:=fun d=>if d=15 then 1 else 0
def SW:Nat->Nat:=fun d=>0
def SX:Nat->Nat:=fun d=>0
def SY:Nat->Nat:=fun d=>0
def SZ:Nat->Nat:=fun d=>0
def T0:Nat->Nat:=fun d=>0
def Nc:Nat->Nat:=fun d=>if d=11 then 1 else if d=57 then 1 else 0
def T4:Nat->Nat:=fun d=>if d=11 then 1 else if d=57 then 1 else 0
def T5:Nat->Nat:=fun d=>if d=6 then 1 else if d=7 then 1 else if d=9 then 1 else 0
def T6:Nat->Nat:=fun d=>0
def T7:Nat->Nat:=fun d=>if d=5 then 1 else 0
def T8:Nat->Nat:=fun d=>if d=5 then 1 else 0
def Lc:Nat->Nat:=fun d=>if d=13 then 2 else 0
def T9:Nat->Nat:=fun d=>0
def Nd:Nat->Nat:=fun d=>0
def Ta:Nat->Nat:=fun d=>0
def Tb:Nat->Nat:=fun d=>if d=30 then 1 else 0
def Td:Nat->Nat:=fun d=>0
def Te:Nat->Nat:=fun d=>0
def Tf:Nat->Nat:=fun d=>0
def Tg:Nat->Nat:=fun d=>0
def Nf:Nat->Nat:=fun d=>if d=3 then 1 else 0
def Ng:Nat->Nat:=fun d=>if d=4 then 1 else if d=75 then 3 else 0
def Th:Nat->Nat:=fun d=>0
def Ti:Nat->Nat:=fun d=>0
def Tj:Nat->Nat:=fun d=>0
def Tk:Nat->Nat:=fun d=>0
def Tn:Nat->Nat:=fun d=>if d=30 then 1 else if d=34 then 1 else 0
def To:Nat->Nat:=fun d=>if d=11 then 1 else 0
def Tp:Nat->Nat:=fun d=>if d=5 then 1 else 0
def Tq:Nat->Nat:=fun d=>if d=19 then 1 else 0
def Tr:Nat->Nat:=fun d=>0
def Tt:Nat->Nat:=fun d=>0
def Tu:Nat->Nat:=fun d=>0
def Tv:Nat->Nat:=fun d=>0
def Tw:Nat->Nat:=fun d=>0
def Tx:Nat->Nat:=fun d=>0
def Ty:Nat->Nat:=fun d=>if d=5 then 2 else if d=7 then 1 else if d=9 then 2 else if d=76 then 1 else if d=83 then 2 else 0
def Tz:Nat->Nat:=fun d=>0
def Nh:Nat->Nat:=fun d=>0
def Ni:Nat->Nat:=fun d=>if d=8 then 1 else if d=39 then 2 else if d=94 then 2 else if d=109 then 3 else if d=128 then 3 else if d=137 then 3 else if d=151 then 2 else if d=164 then 3 else if d=165 then 2 else if d=181 then 3 else if d=182 then 3 else if d=183 then 2 else if d=192 then 3 else if d=202 then 2 else if d=211 then 2 else if d=223 then 2 else if d=233 then 2 else if d=251 then 3 else if d=253 then 2 else if d=263 then 2 else 0
def TA:Nat->Nat:=fun d=>if d=8 then 1 else if d=39 then 2 else if d=56 then 1 else if d=94 then 2 else if d=109 then 3 else if d=128 then 3 else if d=137 then 3 else if d=151 then 2 else if d=164 then 3 else if d=165 then 2 else if d=181 then 3 else if d=182 then 3 else if d=183 then 2 else if d=192 then 3 else if d=199 then 1 else if d=202 then 2 else if d=208 then 1 else if d=211 then 2 else if d=223 then 2 else if d=233 then 2 else if d=251 then 3 else if d=253 then 2 else if d=263 then 2 else 0
def Nj:Nat->Nat:=fun d=>if d=10 then 1 else if d=11 then 1 else if d=13 then 2 else if d=20 then 3 else if d=22 then 2 else if d=36 then 3 else if d=38 then 3 else if d=56 then 3 else if d=58 then 3 else if d=74 then 3 else 0
def TB:Nat->Nat:=fun d=>if d=10 then 1 else if d=11 then 2 else if d=13 then 2 else if d=20 then 3 else if d=36 then 3 else if d=38 then 3 else if d=56 then 3 else if d=58 then 3 else if d=74 then 3 else 0
def Nk:Nat->Nat:=fun d=>if d=10 then 1 else if d=12 then 1 else if d=55 then 2 else if d=72 then 1 else if d=87 then 1 else 0
def TC:Nat->Nat:=fun d=>if d=10 then 1 else if d=12 then 1 else if d=55 then 1 else if d=72 then 1 else if d=87 then 1 else 0
def TD:Nat->Nat:=fun d=>0
def TE:Nat->Nat:=fun d=>0
def TF:Nat->Nat:=fun d=>0
def TG:Nat->Nat:=fun d=>0
def TH:Nat->Nat:=fun d=>if d=9 then 1 else 0
def TJ:Nat->Nat:=fun d=>if d=11 then 1 else if d=13 then 1 else 0
def TK:Nat->Nat:=fun d=>0
def TL:Nat->Nat:=fun d=>0
def TM:Nat->Nat:=fun d=>0
def TN:Nat->Nat:=fun d=>0
def TO:Nat->Nat:=fun d=>if d=5 then 2 else 0
def TP:Nat->Nat:=fun d=>0
def TQ:Nat->Nat:=fun d=>0
def TR:Nat->Nat:=fun d=>0
def TS:Nat->Nat:=fun d=>0
def Q0:Nat->Nat:=fun d=>0
def TU:Nat->Nat:=fun d=>0
def TV:Nat->Nat:=fun d=>0
def Nl:Nat->Nat:=fun d=>if d=2 then 1 else if d=5 then 1 else if d=76 then 3 else 0
def TW:Nat->Nat:=fun d=>0
def TX:Nat->Nat:=fun d=>if d=9 then 1 else if d=10 then 1 else 0
def U1:Nat->Nat:=fun d=>if d=5 then 1 else 0
def U2:Nat->Nat:=fun d=>0
def U3:Nat->Nat:=fun d=>0
def U4:Nat->Nat:=fun d=>0
def U5:Nat->Nat:=fun d=>0
def U6:Nat->Nat:=fun d=>0
def U7:Nat->Nat:=fun d=>0
def U9:Nat->Nat:=fun d=>0
def Ua:Nat->Nat:=fun d=>0
def Ub:Nat->Nat:=fun d=>0
def Uc:Nat->Nat:=fun d=>0
def Ud:Nat->Nat:=fun d=>0
def Ue:Nat->Nat:=fun d=>0
def Nm:Nat->Nat:=fun d=>if d=23 then 2 else if d=42 then 2 else if d=54 then 2 else 0
def Uf:Nat->Nat:=fun d=>0
def Ug:Nat->Nat:=fun d=>0
def Uh:Nat->Nat:=fun d=>if d=28 then 1 else 0
def Nn:Nat->Nat:=fun d=>if d=20 then 1 else if d=22 then 5 else 0
def Ui:Nat->Nat:=fun d=>if d=20 then 1 else 0
def Uj:Nat->Nat:=fun d=>0
def Np:Nat->Nat:=fun d=>if d=10 then 1 else 0
def Nq:Nat->Nat:=fun d=>0
def Uk:Nat->Nat:=fun d=>0
def Ul:Nat->Nat:=fun d=>0
def Nr:Nat->Nat:=fun d=>if d=12 then 2 else if d=14 then 1 else if d=25 then 3 else if d=27 then 3 else if d=32 then 3 else if d=39 then 3 else if d=48 then 3 else if d=58 then 3 else if d=64 then 3 else if d=73 then 3 else if d=80 then 3 else if d=94 then 3 else if d=103 then 3 else if d=108 then 3 else if d=116 then 3 else if d=130 then 3 else if d=137 then 3 else if d=142 then 3 else if d=151 then 3 else 0
def Ns:Nat->Nat:=fun d=>if d=8 then 1 else if d=11 then 1 else if d=14 then 3 else if d=28 then 3 else if d=32 then 3 else if d=39 then 3 else if d=47 then 4 else if d=53 then 3 else if d=75 then 4 else if d=81 then 4 else if d=86 then 3 else if d=91 then 3 else 0
def Um:Nat->Nat:=fun d=>if d=8 then 1 else if d=11 then 1 else if d=14 then 3 else if d=28 then 3 else if d=32 then 3 else if d=39 then 3 else if d=47 then 3 else if d=53 then 3 else if d=75 then 3 else if d=81 then 3 else if d=86 then 3 else if d=91 then 3 else 0
def Un:Nat->Nat:=fun d=>0
def Uo:Nat->Nat:=fun d=>0
def Up:Nat->Nat:=fun d=>0
def Q1:Nat->Nat:=fun d=>0
def Uq:Nat->Nat:=fun d=>0
def Ur:Nat->Nat:=fun d=>0
def Us:Nat->Nat:=fun d=>0
def Ut:Nat->Nat:=fun d=>0
def Nt:Nat->Nat:=fun d=>if d=5 then 1 else if d=6 then 1 else if d=66 then 3 else if d=115 then 3 else if d=136 then 3 else 0
def Nu:Nat->Nat:=fun d=>if d=5 then 1 else if d=8 then 1 else if d=79 then 3 else 0
def Uu:Nat->Nat:=fun d=>0
def Uv:Nat->Nat:=fun d=>0
def Uw:Nat->Nat:=fun d=>0
def Ux:Nat->Nat:=fun d=>0
def Uy:Nat->Nat:=fun d=>0
def Nv:Nat->Nat:=fun d=>if d=101 then 1 else if d=107 then 5 else 0
def Uz:Nat->Nat:=fun d=>if d=101 then 1 else 0
def UA:Nat->Nat:=fun d=>0
def UB:Nat->Nat:=fun d=>0
def UC:Nat->Nat:=fun d=>0
def Nw:Nat->Nat:=fun d=>if d=14 then 3 else 0
def Nx:Nat->Nat:=fun d=>if d=8 then 1 else if d=11 then 1 else if d=13 then 3 else if d=21 then 3 else if d=28 then 3 else if d=36 then 4 else if d=50 then 3 else if d=56 then 3 else 0
def UD:Nat->Nat:=fun d=>if d=8 then 1 else if d=11 then 1 else if d=13 then 3 else if d=21 then 3 else if d=28 then 3 else if d=36 then 3 else if d=50 then 3 else if d=56 then 3 else 0
def UE:Nat->Nat:=fun d=>if d=19 then 1 else 0
def UF:Nat->Nat:=fun d=>0
def UG:Nat->Nat:=fun d=>0
def UH:Nat->Nat:=fun d=>0
def UI:Nat->Nat:=fun d=>0
def UJ:Nat->Nat:=fun d=>0
def UK:Nat->Nat:=fun d=>0
def UL:Nat->Nat:=fun d=>0
def UM:Nat->Nat:=fun d=>0
attribute [go_sem] Af3 A3K A3L A3M A3Q A3U A3W A1g A3Z A40 A42 A43 A44 A45 A46 A47 A48 A49 A4a A4b A4c A4g A4i A4k Si A4m Sj A4n A4o A4p A4q A4r A4u A4v A4w A4x A4y A4z A4A A4B A4F A4G A4H A4I A4J A4K A4L A4M A4N A4O A4P A4Q A4R A4S A4T A4U A4V A4W A4X A4Y A4Z A50 A51 Sk A53 Sq Sr Ss Su Sv Sw Sx Sy SA SC SD SE N9 Na SF SG SH SJ SK SL PZ SM SN SP SQ SR SS ST SU SV Nb SW SX SY SZ T0 Nc T4 T5 T6 T7 T8 Lc T9 Nd Ta Tb Td Te Tf Tg Nf Ng Th Ti Tj Tk Tn To Tp Tq Tr Tt Tu Tv Tw Tx Ty Tz Nh Ni TA Nj TB Nk TC TD TE TF TG TH TJ TK TL TM TN TO TP TQ TR TS Q0 TU TV Nl TW TX U1 U2 U3 U4 U5 U6 U7 U9 Ua Ub Uc Ud Ue Nm Uf Ug Uh Nn Ui Uj Np Nq Uk Ul Nr Ns Um Un Uo Up Q1 Uq Ur Us Ut Nt Nu Uu Uv Uw Ux Uy Nv Uz UA UB UC Nw Nx UD UE UF UG UH UI UJ UK UL UM
abbrev Al (V:At) (n:Nat) (vf:HE):Prop:=V.ext n=none/\V.fn n=some vf
structure Aq (V:At):Prop where
  c_mathbits_TrailingZeros64:V.ext AS=some A7P
  c_z4:Al V Afd ⟨A6R,Af3⟩
  c_z13:Al V A56 ⟨A8S,A3K⟩
  c_z14:Al V Pe ⟨A3k,A3L⟩
  c_z15:Al V A57 ⟨A3l,A3M⟩
  c_z19:Al V A5b ⟨XC,A3Q⟩
  c_z23:Al V A5f ⟨A8Z,A3U⟩
  c_z25:Al V A1m ⟨A0T,A3W⟩
  c_z27:Al V A1n ⟨XD,A1g⟩
  c_z29:Al V A5j ⟨XE,A3Z⟩
  c_z30:Al V A1o ⟨A3n,A40⟩
  c_z32:Al V JU ⟨Ada,A42⟩
  c_z33:Al V A5l ⟨XF,A43⟩
  c_z34:Al V R5 ⟨A3o,A44⟩
  c_z35:Al V XQ ⟨A3p,A45⟩
  c_z36:Al V A5m ⟨A94,A46⟩
  c_z37:Al V A5n ⟨A3q,A47⟩
  c_z38:Al V R6 ⟨A95,A48⟩
  c_z39:Al V A5o ⟨A96,A49⟩
  c_z40:Al V A5p ⟨A97,A4a⟩
  c_z41:Al V A1p ⟨A98,A4b⟩
  c_z42:Al V A5q ⟨A13,A4c⟩
  c_z46:Al V A5s ⟨A3s,A4g⟩
  c_z48:Al V Pf ⟨A9b,A4i⟩
  c_z50:Al V A5u ⟨A9d,A4k⟩
  h_z52:V.fnH LM=some ⟨P6,Si⟩
  c_z52:Al V LM ⟨P6,A4m⟩
  h_z53:V.fnH A5v=some ⟨A9e,Sj⟩
  c_z54:Al V A5w ⟨A9f,A4n⟩
  c_z55:Al V A5x ⟨Jg,A4o⟩
  c_z56:Al V A1r ⟨XG,A4p⟩
  c_z57:Al V A1s ⟨A9g,A4q⟩
  c_z58:Al V A5y ⟨A9h,A4r⟩
  c_z61:Al V A5A ⟨A9j,A4u⟩
  c_z62:Al V A5B ⟨A9k,A4v⟩
  c_z63:Al V A5C ⟨A9l,A4w⟩
  c_z64:Al V Mr ⟨A9m,A4x⟩
  c_z65:Al V A5D ⟨A9n,A4y⟩
  c_z66:Al V LN ⟨A3v,A4z⟩
  c_z67:Al V A5E ⟨A9o,A4A⟩
  c_z68:Al V A5F ⟨A9p,A4B⟩
  c_z72:Al V A5H ⟨A3w,A4F⟩
  c_z73:Al V A1v ⟨A3x,A4G⟩
  c_z74:Al V XS ⟨A9u,A4H⟩
  c_z75:Al V A5I ⟨A3y,A4I⟩
  c_z76:Al V A5J ⟨A9v,A4J⟩
  c_z77:Al V A5K ⟨A9w,A4K⟩
  c_z78:Al V A5L ⟨A9x,A4L⟩
  c_z79:Al V A5M ⟨A9y,A4M⟩
  c_z80:Al V XT ⟨A9z,A4N⟩
  c_z81:Al V A5N ⟨A9A,A4O⟩
  c_z82:Al V Aaj ⟨Add,A4P⟩
  c_z83:Al V A5O ⟨A9B,A4Q⟩
  c_z84:Al V Pg ⟨A9C,A4R⟩
  c_z85:Al V A5P ⟨A9D,A4S⟩
  c_z86:Al V A5Q ⟨A9E,A4T⟩
  c_z87:Al V A5R ⟨A9F,A4U⟩
  c_z88:Al V A5S ⟨A9G,A4V⟩
  c_z89:Al V A5T ⟨A9H,A4W⟩
  c_z90:Al V A5U ⟨A9J,A4X⟩
  c_z91:Al V A5V ⟨A9K,A4Y⟩
  c_z92:Al V A1w ⟨A9L,A4Z⟩
  c_z93:Al V A5W ⟨A9M,A50⟩
  c_z94:Al V A1x ⟨A9N,A51⟩
  h_z96:V.fnH LO=some ⟨P7,Sk⟩
  c_z96:Al V LO ⟨P7,A53⟩
  c_z103:Al V UN ⟨Mb,Sq⟩
  c_z104:Al V UO ⟨Zn,Sr⟩
  c_z105:Al V UP ⟨Zo,Ss⟩
  c_z106:Al V Lh ⟨Zp,Su⟩
  c_z107:Al V UQ ⟨Zq,Sv⟩
  c_z108:Al V Q7 ⟨Zr,Sw⟩
  c_z109:Al V Q8 ⟨RR,Sx⟩
  c_z110:Al V Q9 ⟨RS,Sy⟩
  c_z112:Al V Mn ⟨RT,SA⟩
  c_z114:Al V UR ⟨PD,SC⟩
  c_z115:Al V US ⟨PE,SD⟩
  c_z116:Al V UT ⟨RV,SE⟩
  h_z117:V.fnH Li=some ⟨Kc,N9⟩
  h_z118:V.fnH UU=some ⟨Zt,Na⟩
  c_z119:Al V UV ⟨Zu,SF⟩
  c_z120:Al V UW ⟨RW,SG⟩
  c_z121:Al V UX ⟨PF,SH⟩
  c_z122:Al V UY ⟨RX,SJ⟩
  c_z123:Al V UZ ⟨KY,SK⟩
  c_z124:Al V V0 ⟨Zv,SL⟩
  c_z125:Al V V2 ⟨RY,PZ⟩
  c_z126:Al V V3 ⟨Zw,SM⟩
  c_z127:Al V V4 ⟨PG,SN⟩
  c_z129:Al V V6 ⟨PH,SP⟩
  c_z130:Al V V7 ⟨Zy,SQ⟩
  c_z131:Al V V8 ⟨RZ,SR⟩
  c_z132:Al V V9 ⟨KZ,SS⟩
  c_z133:Al V Va ⟨Zz,ST⟩
  c_z134:Al V Lj ⟨ZA,SU⟩
  c_z135:Al V Lk ⟨ZB,SV⟩
  h_z136:V.fnH Vd=some ⟨ZC,Nb⟩
  c_z137:Al V Ve ⟨ZD,SW⟩
  c_z138:Al V Vf ⟨ZE,SX⟩
  c_z139:Al V Qc ⟨ZF,SY⟩
  c_z140:Al V Vg ⟨ZG,SZ⟩
  c_z141:Al V Vh ⟨PI,T0⟩
  h_z142:V.fnH GZ=some ⟨Hw,Nc⟩
  c_z142:Al V GZ ⟨Hw,T4⟩
  c_z143:Al V Vi ⟨PJ,T5⟩
  c_z144:Al V Vj ⟨ZH,T6⟩
  c_z145:Al V Vk ⟨ZI,T7⟩
  c_z146:Al V Vl ⟨ZJ,T8⟩
  h_z147:V.fnH Hy=some ⟨Kd,Lc⟩
  c_z147:Al V Hy ⟨Kd,T9⟩
  h_z148:V.fnH Mo=some ⟨ZK,Nd⟩
  c_z149:Al V Vm ⟨S0,Ta⟩
  c_z150:Al V Vn ⟨ZL,Tb⟩
  c_z152:Al V Vq ⟨S1,Td⟩
  c_z153:Al V Vt ⟨ZN,Te⟩
  c_z154:Al V Vu ⟨PK,Tf⟩
  c_z155:Al V Vv ⟨ZO,Tg⟩
  h_z156:V.fnH Vw=some ⟨ZP,Nf⟩
  h_z157:V.fnH Vx=some ⟨ZQ,Ng⟩
  c_z158:Al V Vy ⟨ZR,Th⟩
  c_z159:Al V Vz ⟨S3,Ti⟩
  c_z160:Al V Qd ⟨S4,Tj⟩
  c_z161:Al V VB ⟨ZS,Tk⟩
  c_z163:Al V VE ⟨S5,Tn⟩
  c_z164:Al V Ll ⟨PL,To⟩
  c_z165:Al V VI ⟨ZT,Tp⟩
  c_z166:Al V VJ ⟨ZU,Tq⟩
  c_z167:Al V Lm ⟨ZV,Tr⟩
  c_z168:Al V Ln ⟨ZW,Tt⟩
  c_z169:Al V VK ⟨ZX,Tu⟩
  c_z170:Al V VM ⟨ZY,Tv⟩
  c_z171:Al V Qe ⟨ZZ,Tw⟩
  c_z172:Al V VN ⟨A00,Tx⟩
  c_z173:Al V VQ ⟨S6,Ty⟩
  c_z174:Al V VS ⟨A01,Tz⟩
  h_z175:V.fnH Qf=some ⟨S7,Nh⟩
  h_z176:V.fnH Jo=some ⟨L3,Ni⟩
  c_z176:Al V Jo ⟨L3,TA⟩
  h_z177:V.fnH Jp=some ⟨L4,Nj⟩
  c_z177:Al V Jp ⟨L4,TB⟩
  h_z178:V.fnH EG=some ⟨Cw,Nk⟩
  c_z178:Al V EG ⟨Cw,TC⟩
  c_z179:Al V VT ⟨A02,TD⟩
  c_z180:Al V VU ⟨A03,TE⟩
  c_z181:Al V VW ⟨PM,TF⟩
  c_z182:Al V EI ⟨A04,TG⟩
  c_z183:Al V VX ⟨S8,TH⟩
  c_z184:Al V VY ⟨A05,TJ⟩
  c_z185:Al V VZ ⟨A06,TK⟩
  c_z186:Al V W3 ⟨A07,TL⟩
  c_z187:Al V Qg ⟨S9,TM⟩
  c_z188:Al V W4 ⟨A08,TN⟩
  c_z189:Al V W5 ⟨A09,TO⟩
  c_z190:Al V W6 ⟨PN,TP⟩
  c_z191:Al V Qh ⟨A0a,TQ⟩
  c_z192:Al V W7 ⟨A0b,TR⟩
  c_z193:Al V Qi ⟨A0c,TS⟩
  c_z195:Al V Qj ⟨A0d,Q0⟩
  c_z196:Al V W8 ⟨A0e,TU⟩
  c_z197:Al V W9 ⟨A0f,TV⟩
  h_z198:V.fnH Wa=some ⟨PO,Nl⟩
  c_z199:Al V Wb ⟨A0g,TW⟩
  c_z200:Al V We ⟨A0h,TX⟩
  c_z204:Al V Wi ⟨PQ,U1⟩
  c_z205:Al V Gj ⟨A0l,U2⟩
  c_z206:Al V Ek ⟨A0m,U3⟩
  c_z207:Al V Wj ⟨Sa,U4⟩
  c_z208:Al V Qk ⟨A0n,U5⟩
  c_z209:Al V Wl ⟨A0o,U6⟩
  c_z210:Al V Wm ⟨A0p,U7⟩
  c_z211:Al V Wn ⟨PR,U9⟩
  c_z212:Al V Ql ⟨A0q,Ua⟩
  c_z213:Al V Wp ⟨A0r,Ub⟩
  c_z214:Al V Wq ⟨A0s,Uc⟩
  c_z215:Al V Wt ⟨PS,Ud⟩
  c_z216:Al V Wu ⟨A0t,Ue⟩
  h_z217:V.fnH Wv=some ⟨A0u,Nm⟩
  c_z218:Al V Ww ⟨A0v,Uf⟩
  c_z219:Al V Wx ⟨A0w,Ug⟩
  c_z220:Al V Mp ⟨A0x,Uh⟩
  h_z221:V.fnH Jq=some ⟨L5,Nn⟩
  c_z221:Al V Jq ⟨L5,Ui⟩
  c_z222:Al V Wy ⟨A0y,Uj⟩
  h_z223:V.fnH Wz=some ⟨A0z,Np⟩
  h_z224:V.fnH WA=some ⟨A0A,Nq⟩
  c_z225:Al V WB ⟨Sb,Uk⟩
  c_z226:Al V WD ⟨A0B,Ul⟩
  h_z227:V.fnH Mq=some ⟨A0C,Nr⟩
  h_z228:V.fnH H5=some ⟨L6,Ns⟩
  c_z228:Al V H5 ⟨L6,Um⟩
  c_z229:Al V WE ⟨A0D,Un⟩
  c_z230:Al V WF ⟨A0E,Uo⟩
  c_z231:Al V A1l ⟨A6Q,Up⟩
  c_z232:Al V WH ⟨A0F,Q1⟩
  c_z233:Al V WJ ⟨A0G,Uq⟩
  c_z234:Al V WK ⟨Sc,Ur⟩
  c_z235:Al V WL ⟨A0H,Us⟩
  c_z236:Al V Qm ⟨A0I,Ut⟩
  h_z237:V.fnH WM=some ⟨PT,Nt⟩
  h_z238:V.fnH WN=some ⟨A0J,Nu⟩
  c_z239:Al V WO ⟨A0K,Uu⟩
  c_z240:Al V Qn ⟨A0L,Uv⟩
  c_z241:Al V WQ ⟨A0M,Uw⟩
  c_z242:Al V WR ⟨A0N,Ux⟩
  c_z243:Al V WS ⟨A0O,Uy⟩
  h_z244:V.fnH Jr=some ⟨L7,Nv⟩
  c_z244:Al V Jr ⟨L7,Uz⟩
  c_z245:Al V WT ⟨A0P,UA⟩
  c_z246:Al V Qo ⟨A0Q,UB⟩
  c_z247:Al V WU ⟨A0R,UC⟩
  h_z248:V.fnH WV=some ⟨A0S,Nw⟩
  h_z249:V.fnH Js=some ⟨Ke,Nx⟩
  c_z249:Al V Js ⟨Ke,UD⟩
  c_z250:Al V WW ⟨A0U,UE⟩
  c_z251:Al V WX ⟨A0V,UF⟩
  c_z252:Al V WY ⟨A0W,UG⟩
  c_z253:Al V WZ ⟨A0X,UH⟩
  c_z254:Al V X0 ⟨A0Y,UI⟩
  c_z255:Al V X1 ⟨A0Z,UJ⟩
  c_z256:Al V X2 ⟨A10,UK⟩
  c_z257:Al V X3 ⟨A11,UL⟩
  c_z258:Al V X4 ⟨Jf,UM⟩
def AwY (g:Nat):Nat->Nat:=if g=Afd then Af3 else if g=A56 then A3K else if g=Pe then A3L else if g=A57 then A3M else if g=A5b then A3Q else if g=A5f then A3U else if g=A1m then A3W else if g=A1n then A1g else if g=A5j then A3Z else if g=A1o then A40 else if g=JU then A42 else if g=A5l then A43 else if g=R5 then A44 else if g=XQ then A45 else if g=A5m then A46 else if g=A5n then A47 else if g=R6 then A48 else if g=A5o then A49 else if g=A5p then A4a else if g=A1p then A4b else if g=A5q then A4c else if g=A5s then A4g else if g=Pf then A4i else if g=A5u then A4k else if g=LM then A4m else if g=A5w then A4n else if g=A5x then A4o else if g=A1r then A4p else if g=A1s then A4q else if g=A5y then A4r else if g=A5A then A4u else if g=A5B then A4v else if g=A5C then A4w else if g=Mr then A4x else if g=A5D then A4y else if g=LN then A4z else if g=A5E then A4A else if g=A5F then A4B else if g=A5H then A4F else if g=A1v then A4G else fun _=>0
def AwZ (g:Nat):Nat->Nat:=if g=XS then A4H else if g=A5I then A4I else if g=A5J then A4J else if g=A5K then A4K else if g=A5L then A4L else if g=A5M then A4M else if g=XT then A4N else if g=A5N then A4O else if g=Aaj then A4P else if g=A5O then A4Q else if g=Pg then A4R else if g=A5P then A4S else if g=A5Q then A4T else if g=A5R then A4U else if g=A5S then A4V else if g=A5T then A4W else if g=A5U then A4X else if g=A5V then A4Y else if g=A1w then A4Z else if g=A5W then A50 else if g=A1x then A51 else if g=LO then A53 else if g=UN then Sq else if g=UO then Sr else if g=UP then Ss else if g=Lh then Su else if g=UQ then Sv else if g=Q7 then Sw else if g=Q8 then Sx else if g=Q9 then Sy else if g=Mn then SA else if g=UR then SC else if g=US then SD else if g=UT then SE else if g=UV then SF else if g=UW then SG else if g=UX then SH else if g=UY then SJ else if g=UZ then SK else if g=V0 then SL else AwY g
def Ax0 (g:Nat):Nat->Nat:=if g=V2 then PZ else if g=V3 then SM else if g=V4 then SN else if g=V6 then SP else if g=V7 then SQ else if g=V8 then SR else if g=V9 then SS else if g=Va then ST else if g=Lj then SU else if g=Lk then SV else if g=Ve then SW else if g=Vf then SX else if g=Qc then SY else if g=Vg then SZ else if g=Vh then T0 else if g=GZ then T4 else if g=Vi then T5 else if g=Vj then T6 else if g=Vk then T7 else if g=Vl then T8 else if g=Hy then T9 else if g=Vm then Ta else if g=Vn then Tb else if g=Vq then Td else if g=Vt then Te else if g=Vu then Tf else if g=Vv then Tg else if g=Vy then Th else if g=Vz then Ti else if g=Qd then Tj else if g=VB then Tk else if g=VE then Tn else if g=Ll then To else if g=VI then Tp else if g=VJ then Tq else if g=Lm then Tr else if g=Ln then Tt else if g=VK then Tu else if g=VM then Tv else if g=Qe then Tw else AwZ g
def Ax1 (g:Nat):Nat->Nat:=if g=VN then Tx else if g=VQ then Ty else if g=VS then Tz else if g=Jo then TA else if g=Jp then TB else if g=EG then TC else if g=VT then TD else if g=VU then TE else if g=VW then TF else if g=EI then TG else if g=VX then TH else if g=VY then TJ else if g=VZ then TK else if g=W3 then TL else if g=Qg then TM else if g=W4 then TN else if g=W5 then TO else if g=W6 then TP else if g=Qh then TQ else if g=W7 then TR else if g=Qi then TS else if g=Qj then Q0 else if g=W8 then TU else if g=W9 then TV else if g=Wb then TW else if g=We then TX else if g=Wi then U1 else if g=Gj then U2 else if g=Ek then U3 else if g=Wj then U4 else if g=Qk then U5 else if g=Wl then U6 else if g=Wm then U7 else if g=Wn then U9 else if g=Ql then Ua else if g=Wp then Ub else if g=Wq then Uc else if g=Wt then Ud else if g=Wu then Ue else if g=Ww then Uf else Ax0 g
def Ax2 (g:Nat):Nat->Nat:=if g=Wx then Ug else if g=Mp then Uh else if g=Jq then Ui else if g=Wy then Uj else if g=WB then Uk else if g=WD then Ul else if g=H5 then Um else if g=WE then Un else if g=WF then Uo else if g=A1l then Up else if g=WH then Q1 else if g=WJ then Uq else if g=WK then Ur else if g=WL then Us else if g=Qm then Ut else if g=WO then Uu else if g=Qn then Uv else if g=WQ then Uw else if g=WR then Ux else if g=WS then Uy else if g=Jr then Uz else if g=WT then UA else if g=Qo then UB else if g=WU then UC else if g=Js then UD else if g=WW then UE else if g=WX then UF else if g=WY then UG else if g=WZ then UH else if g=X0 then UI else if g=X1 then UJ else if g=X2 then UK else if g=X3 then UL else if g=X4 then UM else Ax1 g
def muP (g:Nat):Nat->Nat:=Ax2 g
def AwX (g:Nat):Nat->Nat:=if g=LM then Si else if g=A5v then Sj else if g=LO then Sk else if g=Li then N9 else if g=UU then Na else if g=Vd then Nb else if g=GZ then Nc else if g=Hy then Lc else if g=Mo then Nd else if g=Vw then Nf else if g=Vx then Ng else if g=Qf then Nh else if g=Jo then Ni else if g=Jp then Nj else if g=EG then Nk else if g=Wa then Nl else if g=Wv then Nm else if g=Jq then Nn else if g=Wz then Np else if g=WA then Nq else if g=Mq then Nr else if g=H5 then Ns else if g=WM then Nt else if g=WN then Nu else if g=Jr then Nv else if g=WV then Nw else if g=Js then Nx else fun _=>0
def muH (g:Nat):Nat->Nat:=AwX g
end Go.AM
