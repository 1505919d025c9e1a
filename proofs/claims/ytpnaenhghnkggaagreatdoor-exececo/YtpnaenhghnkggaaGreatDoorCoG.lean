/-
  Own work, part of the proof of these laws: the code of the functions that the law reaches, as the machine has it; read off the program as the text is compiled.
-/
import Derived.Test.YtpnaenhghnkggaaGreatDoorCoB
import Derived.Test.YtpnaenhghnkggaaGreatDoorCoC
import Derived.Test.YtpnaenhghnkggaaGreatDoorCoD
import Derived.Test.YtpnaenhghnkggaaGreatDoorCoE
import Derived.Test.YtpnaenhghnkggaaGreatDoorCoF
set_option maxRecDepth 10000
set_option maxHeartbeats 64000000
set_option linter.unusedVariables false
set_option linter.unusedSimpArgs false
set_option maxRecDepth 100000
namespace Go.AM
open Go Go.Proofs
def Ag2:Nat->Nat:=fun d=>if d=5 then 1 else if d=7 then 1 else if d=10 then 1 else 0
def Ag3:Nat->Nat:=fun d=>if d=5 then 1 else if d=7 then 1 else if d=10 then 1 else if d=15 then 1 else if d=16 then 1 else 0
def AcX:Nat->Nat:=fun d=>if d=1 then 1 else if d=3 then 1 else if d=6 then 1 else if d=8 then 1 else 0
def Ag4:Nat->Nat:=fun d=>if d=2 then 1 else if d=4 then 1 else if d=8 then 2 else if d=9 then 3 else 0
def AcY:Nat->Nat:=fun d=>if d=6 then 1 else if d=9 then 1 else if d=17 then 2 else if d=44 then 2 else 0
def A9A:Nat->Nat:=fun d=>0
def A48:Nat->Nat:=fun d=>if d=4 then 1 else 0
def A49:Nat->Nat:=fun d=>if d=5 then 1 else 0
def A4a:Nat->Nat:=fun d=>if d=5 then 1 else 0
def A2y:Nat->Nat:=fun d=>if d=2 then 1 else if d=3 then 1 else if d=5 then 2 else if d=7 then 1 else if d=11 then 1 else if d=15 then 2 else if d=46 then 1 else 0
def A9B:Nat->Nat:=fun d=>if d=2 then 1 else if d=3 then 1 else if d=5 then 2 else if d=7 then 1 else if d=11 then 1 else if d=15 then 2 else 0
def A4b:Nat->Nat:=fun d=>if d=5 then 1 else 0
def A4c:Nat->Nat:=fun d=>0
def A4d:Nat->Nat:=fun d=>0
def A4e:Nat->Nat:=fun d=>if d=2 then 1 else if d=4 then 1 else 0
def A4f:Nat->Nat:=fun d=>if d=0 then 1 else 0
def A4g:Nat->Nat:=fun d=>if d=5 then 1 else 0
def Tw:Nat->Nat:=fun d=>if d=5 then 1 else 0
def A4h:Nat->Nat:=fun d=>0
def A2z:Nat->Nat:=fun d=>if d=2 then 1 else if d=3 then 1 else if d=5 then 3 else if d=10 then 3 else 0
def A4i:Nat->Nat:=fun d=>if d=2 then 1 else if d=3 then 2 else 0
def A4j:Nat->Nat:=fun d=>if d=6 then 1 else if d=11 then 1 else 0
def A4k:Nat->Nat:=fun d=>0
def A4l:Nat->Nat:=fun d=>0
def A4m:Nat->Nat:=fun d=>0
def A4n:Nat->Nat:=fun d=>0
def A4o:Nat->Nat:=fun d=>0
def A4p:Nat->Nat:=fun d=>0
def A4q:Nat->Nat:=fun d=>0
def A4r:Nat->Nat:=fun d=>if d=5 then 2 else if d=9 then 2 else 0
def A4s:Nat->Nat:=fun d=>if d=5 then 1 else 0
def A4t:Nat->Nat:=fun d=>0
def A4u:Nat->Nat:=fun d=>0
def A4v:Nat->Nat:=fun d=>0
def A9C:Nat->Nat:=fun d=>0
def A4w:Nat->Nat:=fun d=>0
def A4x:Nat->Nat:=fun d=>if d=6 then 1 else if d=9 then 1 else if d=10 then 2 else if d=11 then 2 else if d=15 then 2 else if d=62 then 2 else if d=81 then 3 else if d=99 then 3 else if d=109 then 3 else 0
def A4y:Nat->Nat:=fun d=>if d=4 then 1 else 0
def A4z:Nat->Nat:=fun d=>if d=6 then 1 else 0
def A4A:Nat->Nat:=fun d=>if d=5 then 1 else 0
def A4B:Nat->Nat:=fun d=>0
def A4C:Nat->Nat:=fun d=>if d=23 then 1 else 0
def A4D:Nat->Nat:=fun d=>0
def A4E:Nat->Nat:=fun d=>if d=30 then 1 else if d=34 then 1 else 0
def A4F:Nat->Nat:=fun d=>if d=11 then 1 else 0
def A4G:Nat->Nat:=fun d=>if d=5 then 1 else 0
def A4H:Nat->Nat:=fun d=>if d=14 then 1 else 0
def A4I:Nat->Nat:=fun d=>if d=19 then 1 else 0
def A4J:Nat->Nat:=fun d=>0
def A4K:Nat->Nat:=fun d=>0
def A4L:Nat->Nat:=fun d=>if d=3 then 1 else 0
def A4M:Nat->Nat:=fun d=>0
def A4N:Nat->Nat:=fun d=>if d=2 then 1 else if d=23 then 2 else if d=94 then 2 else if d=116 then 2 else if d=141 then 2 else 0
def Tx:Nat->Nat:=fun d=>0
def A2A:Nat->Nat:=fun d=>if d=4 then 1 else if d=6 then 3 else if d=11 then 3 else if d=16 then 3 else if d=19 then 3 else 0
def A4O:Nat->Nat:=fun d=>if d=6 then 1 else 0
def A4P:Nat->Nat:=fun d=>if d=8 then 1 else if d=10 then 1 else 0
def A4Q:Nat->Nat:=fun d=>if d=8 then 1 else if d=10 then 2 else if d=18 then 1 else if d=47 then 1 else 0
def A4R:Nat->Nat:=fun d=>0
def A4S:Nat->Nat:=fun d=>0
def Z7:Nat->Nat:=fun d=>if d=10 then 1 else if d=12 then 1 else 0
def A4T:Nat->Nat:=fun d=>0
def A4U:Nat->Nat:=fun d=>0
def A4V:Nat->Nat:=fun d=>if d=58 then 1 else if d=60 then 3 else if d=63 then 3 else 0
def A4W:Nat->Nat:=fun d=>0
def A4X:Nat->Nat:=fun d=>0
def A4Y:Nat->Nat:=fun d=>if d=5 then 1 else 0
def A4Z:Nat->Nat:=fun d=>if d=48 then 1 else 0
def Py:Nat->Nat:=fun d=>if d=13 then 2 else 0
def A50:Nat->Nat:=fun d=>0
def Nu:Nat->Nat:=fun d=>0
def TA:Nat->Nat:=fun d=>0
def TB:Nat->Nat:=fun d=>0
def TC:Nat->Nat:=fun d=>0
def TD:Nat->Nat:=fun d=>0
def Nv:Nat->Nat:=fun d=>if d=11 then 1 else if d=57 then 1 else 0
def TE:Nat->Nat:=fun d=>if d=11 then 1 else if d=57 then 1 else 0
def TF:Nat->Nat:=fun d=>if d=6 then 1 else if d=7 then 1 else if d=9 then 1 else 0
def TG:Nat->Nat:=fun d=>0
def TH:Nat->Nat:=fun d=>if d=8 then 1 else 0
def TJ:Nat->Nat:=fun d=>0
def TK:Nat->Nat:=fun d=>if d=5 then 1 else 0
def TL:Nat->Nat:=fun d=>0
def Pz:Nat->Nat:=fun d=>if d=5 then 1 else if d=11 then 1 else 0
def TM:Nat->Nat:=fun d=>if d=10 then 1 else 0
def TN:Nat->Nat:=fun d=>0
def TO:Nat->Nat:=fun d=>0
def TP:Nat->Nat:=fun d=>0
def TQ:Nat->Nat:=fun d=>0
def TR:Nat->Nat:=fun d=>if d=14 then 1 else 0
def TS:Nat->Nat:=fun d=>0
def TU:Nat->Nat:=fun d=>0
def TV:Nat->Nat:=fun d=>0
def TW:Nat->Nat:=fun d=>if d=30 then 1 else 0
def TX:Nat->Nat:=fun d=>if d=3 then 1 else 0
def TY:Nat->Nat:=fun d=>if d=5 then 1 else 0
def TZ:Nat->Nat:=fun d=>0
def U0:Nat->Nat:=fun d=>0
def U1:Nat->Nat:=fun d=>0
def U2:Nat->Nat:=fun d=>0
def U3:Nat->Nat:=fun d=>if d=8 then 1 else 0
def U4:Nat->Nat:=fun d=>0
def U5:Nat->Nat:=fun d=>0
def U6:Nat->Nat:=fun d=>0
def U7:Nat->Nat:=fun d=>0
def U9:Nat->Nat:=fun d=>0
def Ua:Nat->Nat:=fun d=>0
def Ub:Nat->Nat:=fun d=>0
def Uc:Nat->Nat:=fun d=>0
def Ud:Nat->Nat:=fun d=>0
def Ue:Nat->Nat:=fun d=>if d=5 then 2 else if d=7 then 1 else if d=9 then 2 else if d=76 then 1 else if d=83 then 2 else 0
def Uf:Nat->Nat:=fun d=>0
def Nw:Nat->Nat:=fun d=>0
def Nx:Nat->Nat:=fun d=>if d=8 then 1 else if d=39 then 2 else if d=94 then 2 else if d=109 then 3 else if d=128 then 3 else if d=137 then 3 else if d=151 then 2 else if d=164 then 3 else if d=165 then 2 else if d=181 then 3 else if d=182 then 3 else if d=183 then 2 else if d=192 then 3 else if d=202 then 2 else if d=211 then 2 else if d=223 then 2 else if d=233 then 2 else if d=251 then 3 else if d=253 then 2 else if d=263 then 2 else 0
def Ug:Nat->Nat:=fun d=>if d=8 then 1 else if d=39 then 2 else if d=56 then 1 else if d=94 then 2 else if d=109 then 3 else if d=128 then 3 else if d=137 then 3 else if d=151 then 2 else if d=164 then 3 else if d=165 then 2 else if d=181 then 3 else if d=182 then 3 else if d=183 then 2 else if d=192 then 3 else if d=199 then 1 else if d=202 then 2 else if d=208 then 1 else if d=211 then 2 else if d=223 then 2 else if d=233 then 2 else if d=251 then 3 else if d=253 then 2 else if d=263 then 2 else 0
def Tq:Nat->Nat:=fun d=>if d=10 then 1 else if d=11 then 1 else if d=13 then 2 else if d=20 then 3 else if d=22 then 2 else if d=36 then 3 else if d=38 then 3 else if d=56 then 3 else if d=58 then 3 else if d=74 then 3 else 0
def A2B:Nat->Nat:=fun d=>if d=10 then 1 else if d=11 then 2 else if d=13 then 2 else if d=20 then 3 else if d=36 then 3 else if d=38 then 3 else if d=56 then 3 else if d=58 then 3 else if d=74 then 3 else 0
def Ny:Nat->Nat:=fun d=>if d=10 then 1 else if d=12 then 1 else if d=55 then 2 else if d=72 then 1 else if d=87 then 1 else 0
def Uh:Nat->Nat:=fun d=>if d=10 then 1 else if d=12 then 1 else if d=55 then 1 else if d=72 then 1 else if d=87 then 1 else 0
def Ui:Nat->Nat:=fun d=>0
def Uj:Nat->Nat:=fun d=>0
def Uk:Nat->Nat:=fun d=>0
def Ul:Nat->Nat:=fun d=>0
def Um:Nat->Nat:=fun d=>0
def Un:Nat->Nat:=fun d=>0
def Nz:Nat->Nat:=fun d=>if d=3 then 1 else 0
def NA:Nat->Nat:=fun d=>if d=4 then 1 else if d=75 then 3 else 0
def Uo:Nat->Nat:=fun d=>if d=3 then 1 else 0
def Up:Nat->Nat:=fun d=>if d=3 then 1 else 0
def Uq:Nat->Nat:=fun d=>0
def Ur:Nat->Nat:=fun d=>0
def Us:Nat->Nat:=fun d=>0
def Ut:Nat->Nat:=fun d=>if d=5 then 2 else 0
def Uu:Nat->Nat:=fun d=>0
def Uv:Nat->Nat:=fun d=>if d=8 then 1 else 0
def Uw:Nat->Nat:=fun d=>if d=3 then 2 else 0
def Ux:Nat->Nat:=fun d=>if d=9 then 1 else if d=10 then 1 else 0
def Uy:Nat->Nat:=fun d=>0
def Uz:Nat->Nat:=fun d=>0
def PA:Nat->Nat:=fun d=>0
def UA:Nat->Nat:=fun d=>if d=2 then 1 else if d=4 then 1 else if d=6 then 1 else if d=15 then 1 else if d=19 then 1 else 0
def UB:Nat->Nat:=fun d=>if d=12 then 1 else 0
def UC:Nat->Nat:=fun d=>0
def UD:Nat->Nat:=fun d=>0
def UE:Nat->Nat:=fun d=>0
def UF:Nat->Nat:=fun d=>0
def UG:Nat->Nat:=fun d=>0
def UH:Nat->Nat:=fun d=>0
def UI:Nat->Nat:=fun d=>0
def NB:Nat->Nat:=fun d=>if d=23 then 2 else if d=42 then 2 else if d=54 then 2 else 0
def UJ:Nat->Nat:=fun d=>0
def UK:Nat->Nat:=fun d=>0
def UL:Nat->Nat:=fun d=>if d=28 then 1 else 0
def NC:Nat->Nat:=fun d=>if d=20 then 1 else if d=22 then 5 else 0
def UM:Nat->Nat:=fun d=>if d=20 then 1 else 0
def UN:Nat->Nat:=fun d=>0
def ND:Nat->Nat:=fun d=>if d=10 then 1 else 0
def NE:Nat->Nat:=fun d=>0
def UO:Nat->Nat:=fun d=>0
def A2C:Nat->Nat:=fun d=>0
def Tr:Nat->Nat:=fun d=>if d=12 then 2 else if d=14 then 1 else if d=25 then 3 else if d=27 then 3 else if d=32 then 3 else if d=39 then 3 else if d=48 then 3 else if d=58 then 3 else if d=64 then 3 else if d=73 then 3 else if d=80 then 3 else if d=94 then 3 else if d=103 then 3 else if d=108 then 3 else if d=116 then 3 else if d=130 then 3 else if d=137 then 3 else if d=142 then 3 else if d=151 then 3 else 0
def Tt:Nat->Nat:=fun d=>if d=8 then 1 else if d=11 then 1 else if d=14 then 3 else if d=28 then 3 else if d=32 then 3 else if d=39 then 3 else if d=47 then 4 else if d=53 then 3 else if d=75 then 4 else if d=81 then 4 else if d=86 then 3 else if d=91 then 3 else 0
def A2D:Nat->Nat:=fun d=>if d=8 then 1 else if d=11 then 1 else if d=14 then 3 else if d=28 then 3 else if d=32 then 3 else if d=39 then 3 else if d=47 then 3 else if d=53 then 3 else if d=75 then 3 else if d=81 then 3 else if d=86 then 3 else if d=91 then 3 else 0
def NF:Nat->Nat:=fun d=>if d=2 then 1 else if d=3 then 1 else if d=5 then 2 else if d=7 then 1 else if d=11 then 1 else if d=15 then 2 else if d=34 then 1 else if d=49 then 1 else 0
def UP:Nat->Nat:=fun d=>if d=2 then 1 else if d=3 then 1 else if d=5 then 2 else if d=7 then 1 else if d=11 then 1 else if d=15 then 2 else if d=34 then 1 else 0
def UQ:Nat->Nat:=fun d=>0
def UR:Nat->Nat:=fun d=>0
def NG:Nat->Nat:=fun d=>if d=2 then 1 else if d=5 then 1 else if d=76 then 3 else 0
def US:Nat->Nat:=fun d=>if d=7 then 1 else if d=8 then 1 else 0
def UT:Nat->Nat:=fun d=>0
def UU:Nat->Nat:=fun d=>0
def UV:Nat->Nat:=fun d=>0
def UW:Nat->Nat:=fun d=>if d=9 then 1 else if d=10 then 1 else 0
def UX:Nat->Nat:=fun d=>0
def UY:Nat->Nat:=fun d=>0
def UZ:Nat->Nat:=fun d=>0
def V0:Nat->Nat:=fun d=>0
def V2:Nat->Nat:=fun d=>0
def PB:Nat->Nat:=fun d=>0
def V3:Nat->Nat:=fun d=>0
def V4:Nat->Nat:=fun d=>0
def V5:Nat->Nat:=fun d=>0
def V6:Nat->Nat:=fun d=>0
def V7:Nat->Nat:=fun d=>0
def NH:Nat->Nat:=fun d=>if d=101 then 1 else if d=107 then 5 else 0
def V8:Nat->Nat:=fun d=>if d=101 then 1 else 0
def V9:Nat->Nat:=fun d=>0
def Va:Nat->Nat:=fun d=>0
def A2E:Nat->Nat:=fun d=>0
def Tu:Nat->Nat:=fun d=>if d=14 then 3 else 0
def Tv:Nat->Nat:=fun d=>if d=8 then 1 else if d=11 then 1 else if d=13 then 3 else if d=21 then 3 else if d=28 then 3 else if d=36 then 4 else if d=50 then 3 else if d=56 then 3 else 0
def A2F:Nat->Nat:=fun d=>if d=8 then 1 else if d=11 then 1 else if d=13 then 3 else if d=21 then 3 else if d=28 then 3 else if d=36 then 3 else if d=50 then 3 else if d=56 then 3 else 0
def A2G:Nat->Nat:=fun d=>if d=19 then 1 else 0
def Vd:Nat->Nat:=fun d=>0
def Ve:Nat->Nat:=fun d=>0
def Vf:Nat->Nat:=fun d=>0
def Vg:Nat->Nat:=fun d=>0
def NI:Nat->Nat:=fun d=>if d=5 then 1 else if d=6 then 1 else if d=66 then 3 else if d=115 then 3 else if d=136 then 3 else 0
def NJ:Nat->Nat:=fun d=>if d=5 then 1 else if d=8 then 1 else if d=79 then 3 else 0
def Vh:Nat->Nat:=fun d=>0
def Vi:Nat->Nat:=fun d=>0
def Vj:Nat->Nat:=fun d=>0
def Vk:Nat->Nat:=fun d=>0
def Vl:Nat->Nat:=fun d=>0
def Vm:Nat->Nat:=fun d=>0
def Vn:Nat->Nat:=fun d=>0
def Vp:Nat->Nat:=fun d=>0
attribute [go_sem] Ag2 Ag3 AcX Ag4 AcY A9A A48 A49 A4a A2y A9B A4b A4c A4d A4e A4f A4g Tw A4h A2z A4i A4j A4k A4l A4m A4n A4o A4p A4q A4r A4s A4t A4u A4v A9C A4w A4x A4y A4z A4A A4B A4C A4D A4E A4F A4G A4H A4I A4J A4K A4L A4M A4N Tx A2A A4O A4P A4Q A4R A4S Z7 A4T A4U A4V A4W A4X A4Y A4Z Py A50 Nu TA TB TC TD Nv TE TF TG TH TJ TK TL Pz TM TN TO TP TQ TR TS TU TV TW TX TY TZ U0 U1 U2 U3 U4 U5 U6 U7 U9 Ua Ub Uc Ud Ue Uf Nw Nx Ug Tq A2B Ny Uh Ui Uj Uk Ul Um Un Nz NA Uo Up Uq Ur Us Ut Uu Uv Uw Ux Uy Uz PA UA UB UC UD UE UF UG UH UI NB UJ UK UL NC UM UN ND NE UO A2C Tr Tt A2D NF UP UQ UR NG US UT UU UV UW UX UY UZ V0 V2 PB V3 V4 V5 V6 V7 NH V8 V9 Va A2E Tu Tv A2F A2G Vd Ve Vf Vg NI NJ Vh Vi Vj Vk Vl Vm Vn Vp
abbrev Ah (V:Ae) (n:Nat) (vf:EG):Prop:=V.ext n=none/\V.fn n=some vf
structure Ai (V:Ae):Prop where
  c_mathbits_TrailingZeros64:V.ext AI=some A3d
  c_z2:Ah V Agb ⟨A8D,Ag2⟩
  c_z3:Ah V Agc ⟨A8L,Ag3⟩
  c_z4:Ah V Zk ⟨AiT,AcX⟩
  c_z5:Ah V Agd ⟨AiU,Ag4⟩
  c_z8:Ah V Ad7 ⟨A6K,AcY⟩
  c_z10:Ah V A9P ⟨AdY,A9A⟩
  c_z17:Ah V A53 ⟨A8A,A48⟩
  c_z18:Ah V A54 ⟨RL,A49⟩
  c_z19:Ah V A55 ⟨A3G,A4a⟩
  h_z20:V.fnH Zg=some ⟨A8E,A2y⟩
  c_z20:Ah V Zg ⟨A8E,A9B⟩
  c_z21:Ah V A56 ⟨A3H,A4b⟩
  c_z22:Ah V Zh ⟨A3I,A4c⟩
  c_z23:Ah V A57 ⟨YC,A4d⟩
  c_z24:Ah V A58 ⟨A8J,A4e⟩
  c_z25:Ah V A9Q ⟨AdZ,A4f⟩
  c_z26:Ah V A9R ⟨Ae0,A4g⟩
  h_z27:V.fnH MW=some ⟨RM,Tw⟩
  c_z27:Ah V MW ⟨RM,A4h⟩
  h_z28:V.fnH A9S=some ⟨Ae1,A2z⟩
  c_z29:Ah V A59 ⟨A8K,A4i⟩
  c_z32:Ah V Zi ⟨RN,A4j⟩
  c_z36:Ah V A5a ⟨A8M,A4k⟩
  c_z37:Ah V A5b ⟨A8N,A4l⟩
  c_z39:Ah V Zj ⟨A8O,A4m⟩
  c_z40:Ah V RT ⟨A8P,A4n⟩
  c_z41:Ah V A5c ⟨A8Q,A4o⟩
  c_z42:Ah V A5d ⟨A8R,A4p⟩
  c_z43:Ah V Zl ⟨A3J,A4q⟩
  c_z44:Ah V RU ⟨A8S,A4r⟩
  c_z45:Ah V A5e ⟨A8T,A4s⟩
  c_z46:Ah V A5f ⟨YD,A4t⟩
  c_z47:Ah V A5g ⟨YE,A4u⟩
  c_z48:Ah V Zm ⟨A8U,A4v⟩
  c_z51:Ah V A9T ⟨A8V,A9C⟩
  c_z57:Ah V A5h ⟨YF,A4w⟩
  c_z58:Ah V Zn ⟨A8W,A4x⟩
  c_z59:Ah V A5i ⟨A3K,A4y⟩
  c_z60:Ah V A5j ⟨A3L,A4z⟩
  c_z61:Ah V A5k ⟨A8X,A4A⟩
  c_z62:Ah V Zo ⟨A8Y,A4B⟩
  c_z63:Ah V Zp ⟨A8Z,A4C⟩
  c_z64:Ah V Zq ⟨A90,A4D⟩
  c_z65:Ah V A5l ⟨A3M,A4E⟩
  c_z66:Ah V A5m ⟨A3N,A4F⟩
  c_z67:Ah V A5n ⟨A91,A4G⟩
  c_z68:Ah V A5o ⟨A3O,A4H⟩
  c_z69:Ah V A5p ⟨A92,A4I⟩
  c_z70:Ah V Q6 ⟨A93,A4J⟩
  c_z71:Ah V Q7 ⟨A94,A4K⟩
  c_z72:Ah V MX ⟨A3P,A4L⟩
  c_z73:Ah V A5q ⟨A95,A4M⟩
  c_z74:Ah V A5r ⟨A3Q,A4N⟩
  h_z75:V.fnH Q8=some ⟨MN,Tx⟩
  h_z76:V.fnH A9U=some ⟨Ae2,A2A⟩
  c_z78:Ah V A5s ⟨A3R,A4O⟩
  c_z79:Ah V A5t ⟨YG,A4P⟩
  c_z81:Ah V A5u ⟨Pp,A4Q⟩
  c_z83:Ah V A5v ⟨RO,A4R⟩
  c_z90:Ah V A5w ⟨A96,A4S⟩
  c_z91:Ah V A5x ⟨A3S,Z7⟩
  c_z92:Ah V A5y ⟨A97,A4T⟩
  c_z93:Ah V A5z ⟨YH,A4U⟩
  c_z94:Ah V Zr ⟨A98,A4V⟩
  c_z95:Ah V A5A ⟨A99,A4W⟩
  c_z96:Ah V Zs ⟨A9a,A4X⟩
  c_z97:Ah V Zt ⟨A3T,A4Y⟩
  c_z98:Ah V Zu ⟨A3U,A4Z⟩
  h_z99:V.fnH MY=some ⟨RP,Py⟩
  c_z99:Ah V MY ⟨RP,A50⟩
  h_z100:V.fnH Mh=some ⟨A0O,Nu⟩
  c_z101:Ah V VD ⟨A0P,TA⟩
  c_z102:Ah V VE ⟨A0Q,TB⟩
  c_z103:Ah V PE ⟨A0R,TC⟩
  c_z104:Ah V VI ⟨A0S,TD⟩
  h_z110:V.fnH HK=some ⟨Jm,Nv⟩
  c_z110:Ah V HK ⟨Jm,TE⟩
  c_z111:Ah V VJ ⟨Pc,TF⟩
  c_z112:Ah V PF ⟨SQ,TG⟩
  c_z113:Ah V VK ⟨A0T,TH⟩
  c_z114:Ah V Mi ⟨Pd,TJ⟩
  c_z115:Ah V VM ⟨SR,TK⟩
  c_z116:Ah V VN ⟨SS,TL⟩
  c_z117:Ah V VQ ⟨Pe,Pz⟩
  c_z118:Ah V VS ⟨A0U,TM⟩
  c_z119:Ah V VT ⟨A0V,TN⟩
  c_z120:Ah V VU ⟨A0W,TO⟩
  c_z121:Ah V VW ⟨ST,TP⟩
  c_z122:Ah V VX ⟨A0X,TQ⟩
  c_z123:Ah V VY ⟨A0Y,TR⟩
  c_z124:Ah V PG ⟨A0Z,TS⟩
  c_z125:Ah V PH ⟨SU,TU⟩
  c_z126:Ah V PI ⟨SV,TV⟩
  c_z127:Ah V VZ ⟨A10,TW⟩
  c_z128:Ah V W3 ⟨A11,TX⟩
  c_z129:Ah V W4 ⟨Pf,TY⟩
  c_z130:Ah V PJ ⟨A12,TZ⟩
  c_z131:Ah V KK ⟨A13,U0⟩
  c_z132:Ah V W5 ⟨SW,U1⟩
  c_z133:Ah V PK ⟨A14,U2⟩
  c_z134:Ah V PL ⟨SX,U3⟩
  c_z135:Ah V PM ⟨A15,U4⟩
  c_z136:Ah V W6 ⟨A16,U5⟩
  c_z137:Ah V W7 ⟨A17,U6⟩
  c_z138:Ah V W8 ⟨Pg,U7⟩
  c_z139:Ah V PN ⟨A18,U9⟩
  c_z140:Ah V W9 ⟨A19,Ua⟩
  c_z141:Ah V PO ⟨A1a,Ub⟩
  c_z142:Ah V Wa ⟨A1b,Uc⟩
  c_z143:Ah V PQ ⟨A1c,Ud⟩
  c_z144:Ah V Wb ⟨SY,Ue⟩
  c_z145:Ah V We ⟨A1d,Uf⟩
  h_z146:V.fnH PR=some ⟨SZ,Nw⟩
  h_z147:V.fnH KL=some ⟨Ph,Nx⟩
  c_z147:Ah V KL ⟨Ph,Ug⟩
  h_z148:V.fnH PS=some ⟨A1e,Tq⟩
  c_z148:Ah V PS ⟨A1e,A2B⟩
  h_z149:V.fnH HL=some ⟨Dn,Ny⟩
  c_z149:Ah V HL ⟨Dn,Uh⟩
  c_z150:Ah V Wf ⟨A1f,Ui⟩
  c_z151:Ah V Wg ⟨A1g,Uj⟩
  c_z154:Ah V Wh ⟨Ma,Uk⟩
  c_z158:Ah V PT ⟨A1h,Ul⟩
  c_z159:Ah V Wi ⟨A1i,Um⟩
  c_z160:Ah V Wj ⟨A1j,Un⟩
  h_z161:V.fnH Wl=some ⟨A1k,Nz⟩
  h_z162:V.fnH Wm=some ⟨A1l,NA⟩
  c_z163:Ah V Wn ⟨A1m,Uo⟩
  c_z164:Ah V Wp ⟨A1n,Up⟩
  c_z165:Ah V Wq ⟨T0,Uq⟩
  c_z166:Ah V Wt ⟨A1o,Ur⟩
  c_z167:Ah V Wu ⟨A1p,Us⟩
  c_z171:Ah V Jv ⟨A1q,Ut⟩
  c_z172:Ah V Wv ⟨Pi,Uu⟩
  c_z173:Ah V Ww ⟨T3,Uv⟩
  c_z174:Ah V PU ⟨T4,Uw⟩
  c_z175:Ah V Wx ⟨KD,Ux⟩
  c_z176:Ah V Wy ⟨A1r,Uy⟩
  c_z177:Ah V PV ⟨A1s,Uz⟩
  c_z178:Ah V PW ⟨A1t,PA⟩
  c_z179:Ah V PX ⟨A1u,UA⟩
  c_z180:Ah V Wz ⟨A1v,UB⟩
  c_z181:Ah V PY ⟨T5,UC⟩
  c_z182:Ah V WA ⟨A1w,UD⟩
  c_z183:Ah V PZ ⟨A1x,UE⟩
  c_z184:Ah V WB ⟨A1y,UF⟩
  c_z185:Ah V WD ⟨A1z,UG⟩
  c_z186:Ah V WE ⟨Pj,UH⟩
  c_z187:Ah V WF ⟨A1A,UI⟩
  h_z188:V.fnH WH=some ⟨A1B,NB⟩
  c_z189:Ah V WJ ⟨A1C,UJ⟩
  c_z190:Ah V WK ⟨A1D,UK⟩
  c_z191:Ah V Mj ⟨A1E,UL⟩
  h_z192:V.fnH KM=some ⟨Pk,NC⟩
  c_z192:Ah V KM ⟨Pk,UM⟩
  c_z193:Ah V WL ⟨A1F,UN⟩
  h_z194:V.fnH WM=some ⟨A1G,ND⟩
  h_z195:V.fnH WN=some ⟨A1H,NE⟩
  c_z196:Ah V WO ⟨T6,UO⟩
  c_z197:Ah V A2K ⟨A8B,A2C⟩
  h_z198:V.fnH Q0=some ⟨A8C,Tr⟩
  h_z199:V.fnH KO=some ⟨A1I,Tt⟩
  c_z199:Ah V KO ⟨A1I,A2D⟩
  h_z200:V.fnH KP=some ⟨Pl,NF⟩
  c_z200:Ah V KP ⟨Pl,UP⟩
  c_z203:Ah V WQ ⟨A1J,UQ⟩
  c_z204:Ah V WR ⟨A1K,UR⟩
  h_z205:V.fnH WS=some ⟨Pm,NG⟩
  c_z206:Ah V Q1 ⟨A1L,US⟩
  c_z207:Ah V WT ⟨A1M,UT⟩
  c_z208:Ah V Q2 ⟨A1N,UU⟩
  c_z209:Ah V WU ⟨A1O,UV⟩
  c_z210:Ah V WV ⟨A1P,UW⟩
  c_z211:Ah V WW ⟨A1Q,UX⟩
  c_z212:Ah V WX ⟨A1R,UY⟩
  c_z213:Ah V WY ⟨A1S,UZ⟩
  c_z214:Ah V WZ ⟨A1T,V0⟩
  c_z215:Ah V A2L ⟨A8F,V2⟩
  c_z216:Ah V X0 ⟨A1U,PB⟩
  c_z217:Ah V X3 ⟨A1V,V3⟩
  c_z218:Ah V X4 ⟨T7,V4⟩
  c_z219:Ah V X5 ⟨A1W,V5⟩
  c_z220:Ah V X6 ⟨A1X,V6⟩
  c_z221:Ah V X7 ⟨A1Y,V7⟩
  h_z222:V.fnH KQ=some ⟨Pn,NH⟩
  c_z222:Ah V KQ ⟨Pn,V8⟩
  c_z223:Ah V X8 ⟨A1Z,V9⟩
  c_z224:Ah V Q3 ⟨A20,Va⟩
  c_z225:Ah V A2M ⟨A8G,A2E⟩
  h_z226:V.fnH A2N=some ⟨A8H,Tu⟩
  h_z227:V.fnH Q4=some ⟨T8,Tv⟩
  c_z227:Ah V Q4 ⟨T8,A2F⟩
  c_z228:Ah V A2O ⟨A8I,A2G⟩
  c_z230:Ah V X9 ⟨A21,Vd⟩
  c_z231:Ah V Xa ⟨T9,Ve⟩
  c_z232:Ah V Xb ⟨A22,Vf⟩
  c_z233:Ah V Q5 ⟨A23,Vg⟩
  h_z234:V.fnH Xc=some ⟨Po,NI⟩
  h_z235:V.fnH Xd=some ⟨A24,NJ⟩
  c_z236:Ah V Xe ⟨A25,Vh⟩
  c_z237:Ah V Xf ⟨A26,Vi⟩
  c_z238:Ah V Xg ⟨A27,Vj⟩
  c_z239:Ah V Xh ⟨A28,Vk⟩
  c_z240:Ah V Xi ⟨A29,Vl⟩
  c_z241:Ah V Xj ⟨HF,Vm⟩
  c_z242:Ah V Xk ⟨A2a,Vn⟩
  c_z243:Ah V Xl ⟨A2b,Vp⟩
def AnZ (g:Nat):Nat->Nat:=if g=Agb then Ag2 else if g=Agc then Ag3 else if g=Zk then AcX else if g=Agd then Ag4 else if g=Ad7 then AcY else if g=A9P then A9A else if g=A53 then A48 else if g=A54 then A49 else if g=A55 then A4a else if g=Zg then A9B else if g=A56 then A4b else if g=Zh then A4c else if g=A57 then A4d else if g=A58 then A4e else if g=A9Q then A4f else if g=A9R then A4g else if g=MW then A4h else if g=A59 then A4i else if g=Zi then A4j else if g=A5a then A4k else if g=A5b then A4l else if g=Zj then A4m else if g=RT then A4n else if g=A5c then A4o else if g=A5d then A4p else if g=Zl then A4q else if g=RU then A4r else if g=A5e then A4s else if g=A5f then A4t else if g=A5g then A4u else if g=Zm then A4v else if g=A9T then A9C else if g=A5h then A4w else if g=Zn then A4x else if g=A5i then A4y else if g=A5j then A4z else if g=A5k then A4A else if g=Zo then A4B else if g=Zp then A4C else if g=Zq then A4D else fun _=>0
def Ao0 (g:Nat):Nat->Nat:=if g=A5l then A4E else if g=A5m then A4F else if g=A5n then A4G else if g=A5o then A4H else if g=A5p then A4I else if g=Q6 then A4J else if g=Q7 then A4K else if g=MX then A4L else if g=A5q then A4M else if g=A5r then A4N else if g=A5s then A4O else if g=A5t then A4P else if g=A5u then A4Q else if g=A5v then A4R else if g=A5w then A4S else if g=A5x then Z7 else if g=A5y then A4T else if g=A5z then A4U else if g=Zr then A4V else if g=A5A then A4W else if g=Zs then A4X else if g=Zt then A4Y else if g=Zu then A4Z else if g=MY then A50 else if g=VD then TA else if g=VE then TB else if g=PE then TC else if g=VI then TD else if g=HK then TE else if g=VJ then TF else if g=PF then TG else if g=VK then TH else if g=Mi then TJ else if g=VM then TK else if g=VN then TL else if g=VQ then Pz else if g=VS then TM else if g=VT then TN else if g=VU then TO else if g=VW then TP else AnZ g
def Ao1 (g:Nat):Nat->Nat:=if g=VX then TQ else if g=VY then TR else if g=PG then TS else if g=PH then TU else if g=PI then TV else if g=VZ then TW else if g=W3 then TX else if g=W4 then TY else if g=PJ then TZ else if g=KK then U0 else if g=W5 then U1 else if g=PK then U2 else if g=PL then U3 else if g=PM then U4 else if g=W6 then U5 else if g=W7 then U6 else if g=W8 then U7 else if g=PN then U9 else if g=W9 then Ua else if g=PO then Ub else if g=Wa then Uc else if g=PQ then Ud else if g=Wb then Ue else if g=We then Uf else if g=KL then Ug else if g=PS then A2B else if g=HL then Uh else if g=Wf then Ui else if g=Wg then Uj else if g=Wh then Uk else if g=PT then Ul else if g=Wi then Um else if g=Wj then Un else if g=Wn then Uo else if g=Wp then Up else if g=Wq then Uq else if g=Wt then Ur else if g=Wu then Us else if g=Jv then Ut else if g=Wv then Uu else Ao0 g
def Ao2 (g:Nat):Nat->Nat:=if g=Ww then Uv else if g=PU then Uw else if g=Wx then Ux else if g=Wy then Uy else if g=PV then Uz else if g=PW then PA else if g=PX then UA else if g=Wz then UB else if g=PY then UC else if g=WA then UD else if g=PZ then UE else if g=WB then UF else if g=WD then UG else if g=WE then UH else if g=WF then UI else if g=WJ then UJ else if g=WK then UK else if g=Mj then UL else if g=KM then UM else if g=WL then UN else if g=WO then UO else if g=A2K then A2C else if g=KO then A2D else if g=KP then UP else if g=WQ then UQ else if g=WR then UR else if g=Q1 then US else if g=WT then UT else if g=Q2 then UU else if g=WU then UV else if g=WV then UW else if g=WW then UX else if g=WX then UY else if g=WY then UZ else if g=WZ then V0 else if g=A2L then V2 else if g=X0 then PB else if g=X3 then V3 else if g=X4 then V4 else if g=X5 then V5 else Ao1 g
def Ao3 (g:Nat):Nat->Nat:=if g=X6 then V6 else if g=X7 then V7 else if g=KQ then V8 else if g=X8 then V9 else if g=Q3 then Va else if g=A2M then A2E else if g=Q4 then A2F else if g=A2O then A2G else if g=X9 then Vd else if g=Xa then Ve else if g=Xb then Vf else if g=Q5 then Vg else if g=Xe then Vh else if g=Xf then Vi else if g=Xg then Vj else if g=Xh then Vk else if g=Xi then Vl else if g=Xj then Vm else if g=Xk then Vn else if g=Xl then Vp else Ao2 g
def muP (g:Nat):Nat->Nat:=Ao3 g
def AnY (g:Nat):Nat->Nat:=if g=Zg then A2y else if g=MW then Tw else if g=A9S then A2z else if g=Q8 then Tx else if g=A9U then A2A else if g=MY then Py else if g=Mh then Nu else if g=HK then Nv else if g=PR then Nw else if g=KL then Nx else if g=PS then Tq else if g=HL then Ny else if g=Wl then Nz else if g=Wm then NA else if g=WH then NB else if g=KM then NC else if g=WM then ND else if g=WN then NE else if g=Q0 then Tr else if g=KO then Tt else if g=KP then NF else if g=WS then NG else if g=KQ then NH else if g=A2N then Tu else if g=Q4 then Tv else if g=Xc then NI else if g=Xd then NJ else fun _=>0
def muH (g:Nat):Nat->Nat:=AnY g
end Go.AM
