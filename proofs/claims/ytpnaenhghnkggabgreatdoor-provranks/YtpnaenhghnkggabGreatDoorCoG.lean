/-
  Own work, part of the proof of these laws: the code of the functions that the law reaches, as the machine has it; read off the program as the text is compiled.
-/
import Derived.Test.YtpnaenhghnkggabGreatDoorCoB
import Derived.Test.YtpnaenhghnkggabGreatDoorCoC
import Derived.Test.YtpnaenhghnkggabGreatDoorCoD
import Derived.Test.YtpnaenhghnkggabGreatDoorCoE
import Derived.Test.YtpnaenhghnkggabGreatDoorCoF
set_option maxRecDepth 10000
set_option maxHeartbeats 64000000
set_option linter.unusedVariables false
set_option linter.unusedSimpArgs false
set_option maxRecDepth 100000
namespace Go.AM
open Go Go.Proofs
def Aj1:Nat->Nat:=fun d=>if d=11 then 1 else if d=13 then 1 else 0
def Aj2:Nat->Nat:=fun d=>if d=5 then 1 else if d=7 then 1 else 0
def Aj3:Nat->Nat:=fun d=>if d=5 then 1 else if d=7 then 1 else 0
def Afb:Nat->Nat:=fun d=>if d=1 then 1 else if d=3 then 1 else 0
def Aj4:Nat->Nat:=fun d=>0
def Aj5:Nat->Nat:=fun d=>if d=2 then 1 else if d=4 then 1 else if d=8 then 2 else if d=9 then 3 else 0
def Aj6:Nat->Nat:=fun d=>if d=6 then 1 else if d=7 then 1 else if d=9 then 1 else 0
def Aj7:Nat->Nat:=fun d=>if d=7 then 2 else 0
def Aj8:Nat->Nat:=fun d=>0
def A5z:Nat->Nat:=fun d=>if d=7 then 1 else 0
def A5A:Nat->Nat:=fun d=>0
def A5B:Nat->Nat:=fun d=>if d=5 then 2 else if d=23 then 1 else 0
def AaP:Nat->Nat:=fun d=>if d=16 then 1 else 0
def AaQ:Nat->Nat:=fun d=>0
def AaR:Nat->Nat:=fun d=>0
def AaS:Nat->Nat:=fun d=>0
def A5C:Nat->Nat:=fun d=>if d=11 then 1 else if d=24 then 1 else if d=32 then 3 else 0
def AaT:Nat->Nat:=fun d=>if d=21 then 1 else 0
def A5D:Nat->Nat:=fun d=>0
def A5E:Nat->Nat:=fun d=>if d=2 then 1 else if d=4 then 1 else 0
def A5F:Nat->Nat:=fun d=>if d=0 then 1 else 0
def A3y:Nat->Nat:=fun d=>if d=5 then 1 else 0
def AaU:Nat->Nat:=fun d=>0
def A3z:Nat->Nat:=fun d=>if d=2 then 1 else if d=3 then 1 else if d=5 then 3 else if d=10 then 3 else 0
def AaV:Nat->Nat:=fun d=>if d=2 then 1 else if d=3 then 2 else 0
def AaW:Nat->Nat:=fun d=>if d=8 then 1 else if d=12 then 1 else if d=13 then 2 else if d=15 then 1 else if d=17 then 1 else 0
def A5G:Nat->Nat:=fun d=>0
def A5H:Nat->Nat:=fun d=>if d=5 then 2 else 0
def A5I:Nat->Nat:=fun d=>0
def A5J:Nat->Nat:=fun d=>0
def A5K:Nat->Nat:=fun d=>if d=14 then 1 else 0
def A5L:Nat->Nat:=fun d=>if d=3 then 1 else 0
def A5M:Nat->Nat:=fun d=>0
def A5N:Nat->Nat:=fun d=>0
def A5O:Nat->Nat:=fun d=>if d=20 then 1 else 0
def AaX:Nat->Nat:=fun d=>0
def AaY:Nat->Nat:=fun d=>0
def A3A:Nat->Nat:=fun d=>if d=2 then 1 else if d=3 then 1 else if d=5 then 2 else if d=7 then 1 else if d=11 then 1 else if d=15 then 2 else if d=34 then 1 else if d=49 then 1 else 0
def AaZ:Nat->Nat:=fun d=>if d=2 then 1 else if d=3 then 1 else if d=5 then 2 else if d=7 then 1 else if d=11 then 1 else if d=15 then 2 else if d=34 then 1 else 0
def UL:Nat->Nat:=fun d=>0
def UM:Nat->Nat:=fun d=>if d=17 then 1 else 0
def UN:Nat->Nat:=fun d=>0
def UO:Nat->Nat:=fun d=>0
def UP:Nat->Nat:=fun d=>0
def UQ:Nat->Nat:=fun d=>0
def Ab0:Nat->Nat:=fun d=>if d=6 then 1 else if d=11 then 1 else 0
def Ab1:Nat->Nat:=fun d=>0
def Ab2:Nat->Nat:=fun d=>0
def Ab3:Nat->Nat:=fun d=>if d=13 then 1 else 0
def Ab4:Nat->Nat:=fun d=>if d=8 then 1 else 0
def Ab5:Nat->Nat:=fun d=>0
def Ab6:Nat->Nat:=fun d=>0
def Ab7:Nat->Nat:=fun d=>0
def A5P:Nat->Nat:=fun d=>if d=2 then 1 else if d=23 then 2 else if d=94 then 2 else if d=116 then 2 else if d=141 then 2 else 0
def A3B:Nat->Nat:=fun d=>0
def A3C:Nat->Nat:=fun d=>if d=4 then 1 else if d=6 then 3 else if d=11 then 3 else if d=16 then 3 else if d=19 then 3 else 0
def Ab8:Nat->Nat:=fun d=>if d=5 then 2 else 0
def Ab9:Nat->Nat:=fun d=>if d=6 then 1 else 0
def Aba:Nat->Nat:=fun d=>if d=8 then 1 else if d=10 then 1 else 0
def Abb:Nat->Nat:=fun d=>if d=8 then 1 else if d=10 then 2 else if d=19 then 2 else if d=72 then 1 else 0
def Abc:Nat->Nat:=fun d=>if d=8 then 1 else if d=10 then 2 else if d=18 then 1 else if d=47 then 1 else 0
def A5Q:Nat->Nat:=fun d=>0
def A5R:Nat->Nat:=fun d=>if d=3 then 1 else 0
def A5S:Nat->Nat:=fun d=>if d=8 then 1 else 0
def A5T:Nat->Nat:=fun d=>0
def A5U:Nat->Nat:=fun d=>if d=2 then 1 else if d=4 then 1 else if d=6 then 1 else if d=15 then 1 else if d=19 then 1 else 0
def A5V:Nat->Nat:=fun d=>if d=12 then 1 else 0
def A5W:Nat->Nat:=fun d=>0
def A5X:Nat->Nat:=fun d=>0
def A5Y:Nat->Nat:=fun d=>0
def A5Z:Nat->Nat:=fun d=>if d=5 then 2 else 0
def A60:Nat->Nat:=fun d=>if d=5 then 2 else if d=9 then 2 else 0
def A61:Nat->Nat:=fun d=>if d=58 then 1 else if d=60 then 3 else if d=63 then 3 else 0
def A62:Nat->Nat:=fun d=>if d=3 then 1 else 0
def A63:Nat->Nat:=fun d=>if d=30 then 1 else 0
def A64:Nat->Nat:=fun d=>if d=21 then 2 else if d=29 then 1 else if d=58 then 3 else 0
def A65:Nat->Nat:=fun d=>0
def A66:Nat->Nat:=fun d=>0
def A67:Nat->Nat:=fun d=>0
def A68:Nat->Nat:=fun d=>0
def A69:Nat->Nat:=fun d=>0
def Abd:Nat->Nat:=fun d=>0
def A6a:Nat->Nat:=fun d=>if d=10 then 1 else if d=12 then 1 else 0
def Abe:Nat->Nat:=fun d=>0
def Abf:Nat->Nat:=fun d=>0
def Abg:Nat->Nat:=fun d=>0
def Abh:Nat->Nat:=fun d=>if d=13 then 1 else 0
def Abi:Nat->Nat:=fun d=>if d=11 then 1 else if d=21 then 1 else 0
def Abj:Nat->Nat:=fun d=>0
def Abk:Nat->Nat:=fun d=>0
def Abl:Nat->Nat:=fun d=>if d=15 then 1 else 0
def Abm:Nat->Nat:=fun d=>0
def Abn:Nat->Nat:=fun d=>0
def Abo:Nat->Nat:=fun d=>0
def A6b:Nat->Nat:=fun d=>if d=5 then 2 else if d=7 then 1 else if d=9 then 2 else if d=76 then 1 else if d=83 then 2 else 0
def A6c:Nat->Nat:=fun d=>0
def UR:Nat->Nat:=fun d=>0
def US:Nat->Nat:=fun d=>if d=8 then 1 else if d=39 then 2 else if d=94 then 2 else if d=109 then 3 else if d=128 then 3 else if d=137 then 3 else if d=151 then 2 else if d=164 then 3 else if d=165 then 2 else if d=181 then 3 else if d=182 then 3 else if d=183 then 2 else if d=192 then 3 else if d=202 then 2 else if d=211 then 2 else if d=223 then 2 else if d=233 then 2 else if d=251 then 3 else if d=253 then 2 else if d=263 then 2 else 0
def A6d:Nat->Nat:=fun d=>if d=8 then 1 else if d=39 then 2 else if d=56 then 1 else if d=94 then 2 else if d=109 then 3 else if d=128 then 3 else if d=137 then 3 else if d=151 then 2 else if d=164 then 3 else if d=165 then 2 else if d=181 then 3 else if d=182 then 3 else if d=183 then 2 else if d=192 then 3 else if d=199 then 1 else if d=202 then 2 else if d=208 then 1 else if d=211 then 2 else if d=223 then 2 else if d=233 then 2 else if d=251 then 3 else if d=253 then 2 else if d=263 then 2 else 0
def UF:Nat->Nat:=fun d=>if d=10 then 1 else if d=11 then 1 else if d=13 then 2 else if d=20 then 3 else if d=22 then 2 else if d=36 then 3 else if d=38 then 3 else if d=56 then 3 else if d=58 then 3 else if d=74 then 3 else 0
def A3D:Nat->Nat:=fun d=>if d=10 then 1 else if d=11 then 2 else if d=13 then 2 else if d=20 then 3 else if d=36 then 3 else if d=38 then 3 else if d=56 then 3 else if d=58 then 3 else if d=74 then 3 else 0
def UG:Nat->Nat:=fun d=>if d=10 then 1 else if d=12 then 1 else if d=55 then 2 else if d=72 then 1 else if d=87 then 1 else 0
def A3E:Nat->Nat:=fun d=>if d=10 then 1 else if d=12 then 1 else if d=55 then 1 else if d=72 then 1 else if d=87 then 1 else 0
def UT:Nat->Nat:=fun d=>0
def UU:Nat->Nat:=fun d=>0
def UV:Nat->Nat:=fun d=>0
def UW:Nat->Nat:=fun d=>0
def UX:Nat->Nat:=fun d=>0
def UY:Nat->Nat:=fun d=>0
def UZ:Nat->Nat:=fun d=>0
def QD:Nat->Nat:=fun d=>if d=5 then 1 else if d=11 then 1 else 0
def V0:Nat->Nat:=fun d=>0
def V2:Nat->Nat:=fun d=>0
def MC:Nat->Nat:=fun d=>if d=13 then 2 else 0
def V3:Nat->Nat:=fun d=>0
def PG:Nat->Nat:=fun d=>0
def V4:Nat->Nat:=fun d=>0
def PH:Nat->Nat:=fun d=>if d=3 then 1 else 0
def PI:Nat->Nat:=fun d=>if d=4 then 1 else if d=75 then 3 else 0
def V5:Nat->Nat:=fun d=>0
def V6:Nat->Nat:=fun d=>0
def QE:Nat->Nat:=fun d=>0
def V7:Nat->Nat:=fun d=>0
def V8:Nat->Nat:=fun d=>if d=3 then 1 else 0
def V9:Nat->Nat:=fun d=>0
def Va:Nat->Nat:=fun d=>if d=6 then 1 else 0
def PJ:Nat->Nat:=fun d=>if d=15 then 1 else 0
def Vd:Nat->Nat:=fun d=>if d=11 then 1 else 0
def Ve:Nat->Nat:=fun d=>0
def Vf:Nat->Nat:=fun d=>0
def Vg:Nat->Nat:=fun d=>if d=8 then 1 else 0
def Vh:Nat->Nat:=fun d=>0
def Vi:Nat->Nat:=fun d=>0
def A3F:Nat->Nat:=fun d=>0
def A3G:Nat->Nat:=fun d=>0
def A3H:Nat->Nat:=fun d=>0
def A3I:Nat->Nat:=fun d=>0
def A3J:Nat->Nat:=fun d=>0
def A3K:Nat->Nat:=fun d=>if d=9 then 1 else 0
def A3L:Nat->Nat:=fun d=>if d=3 then 2 else 0
def A3M:Nat->Nat:=fun d=>if d=11 then 1 else if d=13 then 1 else 0
def A3N:Nat->Nat:=fun d=>0
def Vj:Nat->Nat:=fun d=>0
def Vk:Nat->Nat:=fun d=>0
def Vl:Nat->Nat:=fun d=>0
def PK:Nat->Nat:=fun d=>if d=23 then 2 else if d=42 then 2 else if d=54 then 2 else 0
def Vm:Nat->Nat:=fun d=>0
def Vn:Nat->Nat:=fun d=>0
def Vp:Nat->Nat:=fun d=>if d=28 then 1 else 0
def PL:Nat->Nat:=fun d=>if d=20 then 1 else if d=22 then 5 else 0
def Vq:Nat->Nat:=fun d=>if d=20 then 1 else 0
def Vt:Nat->Nat:=fun d=>0
def PM:Nat->Nat:=fun d=>if d=10 then 1 else 0
def PN:Nat->Nat:=fun d=>0
def Vu:Nat->Nat:=fun d=>0
def A3O:Nat->Nat:=fun d=>0
def UH:Nat->Nat:=fun d=>if d=12 then 2 else if d=14 then 1 else if d=25 then 3 else if d=27 then 3 else if d=32 then 3 else if d=39 then 3 else if d=48 then 3 else if d=58 then 3 else if d=64 then 3 else if d=73 then 3 else if d=80 then 3 else if d=94 then 3 else if d=103 then 3 else if d=108 then 3 else if d=116 then 3 else if d=130 then 3 else if d=137 then 3 else if d=142 then 3 else if d=151 then 3 else 0
def UI:Nat->Nat:=fun d=>if d=8 then 1 else if d=11 then 1 else if d=14 then 3 else if d=28 then 3 else if d=32 then 3 else if d=39 then 3 else if d=47 then 4 else if d=53 then 3 else if d=75 then 4 else if d=81 then 4 else if d=86 then 3 else if d=91 then 3 else 0
def A3P:Nat->Nat:=fun d=>if d=8 then 1 else if d=11 then 1 else if d=14 then 3 else if d=28 then 3 else if d=32 then 3 else if d=39 then 3 else if d=47 then 3 else if d=53 then 3 else if d=75 then 3 else if d=81 then 3 else if d=86 then 3 else if d=91 then 3 else 0
def Vv:Nat->Nat:=fun d=>0
def Vw:Nat->Nat:=fun d=>if d=3 then 2 else 0
def Vx:Nat->Nat:=fun d=>0
def Vy:Nat->Nat:=fun d=>0
def PO:Nat->Nat:=fun d=>if d=2 then 1 else if d=5 then 1 else if d=76 then 3 else 0
def Vz:Nat->Nat:=fun d=>0
def QF:Nat->Nat:=fun d=>0
def VB:Nat->Nat:=fun d=>0
def VD:Nat->Nat:=fun d=>0
def VE:Nat->Nat:=fun d=>if d=5 then 1 else 0
def VI:Nat->Nat:=fun d=>if d=48 then 1 else 0
def VJ:Nat->Nat:=fun d=>if d=7 then 1 else if d=8 then 1 else 0
def VK:Nat->Nat:=fun d=>if d=30 then 1 else if d=34 then 1 else 0
def VM:Nat->Nat:=fun d=>if d=5 then 1 else 0
def VN:Nat->Nat:=fun d=>if d=19 then 1 else 0
def VQ:Nat->Nat:=fun d=>0
def VS:Nat->Nat:=fun d=>0
def VT:Nat->Nat:=fun d=>0
def VU:Nat->Nat:=fun d=>0
def VW:Nat->Nat:=fun d=>0
def VX:Nat->Nat:=fun d=>0
def VY:Nat->Nat:=fun d=>if d=9 then 1 else if d=10 then 1 else 0
def VZ:Nat->Nat:=fun d=>0
def W3:Nat->Nat:=fun d=>0
def W4:Nat->Nat:=fun d=>0
def A3Q:Nat->Nat:=fun d=>0
def W5:Nat->Nat:=fun d=>0
def W6:Nat->Nat:=fun d=>0
def W7:Nat->Nat:=fun d=>0
def PQ:Nat->Nat:=fun d=>if d=101 then 1 else if d=107 then 5 else 0
def W8:Nat->Nat:=fun d=>if d=101 then 1 else 0
def W9:Nat->Nat:=fun d=>0
def Wa:Nat->Nat:=fun d=>0
def A3R:Nat->Nat:=fun d=>0
def UJ:Nat->Nat:=fun d=>if d=14 then 3 else 0
def UK:Nat->Nat:=fun d=>if d=8 then 1 else if d=11 then 1 else if d=13 then 3 else if d=21 then 3 else if d=28 then 3 else if d=36 then 4 else if d=50 then 3 else if d=56 then 3 else 0
def A3S:Nat->Nat:=fun d=>if d=8 then 1 else if d=11 then 1 else if d=13 then 3 else if d=21 then 3 else if d=28 then 3 else if d=36 then 3 else if d=50 then 3 else if d=56 then 3 else 0
def A3T:Nat->Nat:=fun d=>if d=19 then 1 else 0
def Wb:Nat->Nat:=fun d=>0
def We:Nat->Nat:=fun d=>0
def Wf:Nat->Nat:=fun d=>0
def Wg:Nat->Nat:=fun d=>0
def PR:Nat->Nat:=fun d=>if d=5 then 1 else if d=6 then 1 else if d=66 then 3 else if d=115 then 3 else if d=136 then 3 else 0
def PS:Nat->Nat:=fun d=>if d=5 then 1 else if d=8 then 1 else if d=79 then 3 else 0
def Wh:Nat->Nat:=fun d=>0
def Wi:Nat->Nat:=fun d=>0
def Wj:Nat->Nat:=fun d=>0
def Wl:Nat->Nat:=fun d=>0
def Wm:Nat->Nat:=fun d=>if d=5 then 1 else 0
def Wn:Nat->Nat:=fun d=>0
def Wp:Nat->Nat:=fun d=>0
def Wq:Nat->Nat:=fun d=>if d=10 then 1 else 0
def Wt:Nat->Nat:=fun d=>0
def Wu:Nat->Nat:=fun d=>0
def Wv:Nat->Nat:=fun d=>0
def Ww:Nat->Nat:=fun d=>0
def Wx:Nat->Nat:=fun d=>0
def Wy:Nat->Nat:=fun d=>0
def Wz:Nat->Nat:=fun d=>0
def WA:Nat->Nat:=fun d=>0
def WB:Nat->Nat:=fun d=>0
def WD:Nat->Nat:=fun d=>0
def WE:Nat->Nat:=fun d=>0
def WF:Nat->Nat:=fun d=>0
def WH:Nat->Nat:=fun d=>0
def WJ:Nat->Nat:=fun d=>0
def WK:Nat->Nat:=fun d=>0
def WL:Nat->Nat:=fun d=>0
def WM:Nat->Nat:=fun d=>0
def WN:Nat->Nat:=fun d=>0
def WO:Nat->Nat:=fun d=>if d=9 then 1 else if d=10 then 1 else 0
def WQ:Nat->Nat:=fun d=>0
def WR:Nat->Nat:=fun d=>0
def WS:Nat->Nat:=fun d=>0
attribute [go_sem] Aj1 Aj2 Aj3 Afb Aj4 Aj5 Aj6 Aj7 Aj8 A5z A5A A5B AaP AaQ AaR AaS A5C AaT A5D A5E A5F A3y AaU A3z AaV AaW A5G A5H A5I A5J A5K A5L A5M A5N A5O AaX AaY A3A AaZ UL UM UN UO UP UQ Ab0 Ab1 Ab2 Ab3 Ab4 Ab5 Ab6 Ab7 A5P A3B A3C Ab8 Ab9 Aba Abb Abc A5Q A5R A5S A5T A5U A5V A5W A5X A5Y A5Z A60 A61 A62 A63 A64 A65 A66 A67 A68 A69 Abd A6a Abe Abf Abg Abh Abi Abj Abk Abl Abm Abn Abo A6b A6c UR US A6d UF A3D UG A3E UT UU UV UW UX UY UZ QD V0 V2 MC V3 PG V4 PH PI V5 V6 QE V7 V8 V9 Va PJ Vd Ve Vf Vg Vh Vi A3F A3G A3H A3I A3J A3K A3L A3M A3N Vj Vk Vl PK Vm Vn Vp PL Vq Vt PM PN Vu A3O UH UI A3P Vv Vw Vx Vy PO Vz QF VB VD VE VI VJ VK VM VN VQ VS VT VU VW VX VY VZ W3 W4 A3Q W5 W6 W7 PQ W8 W9 Wa A3R UJ UK A3S A3T Wb We Wf Wg PR PS Wh Wi Wj Wl Wm Wn Wp Wq Wt Wu Wv Ww Wx Wy Wz WA WB WD WE WF WH WJ WK WL WM WN WO WQ WR WS
abbrev Ao (V:Am) (n:Nat) (vf:EW):Prop:=V.ext n=none/\V.fn n=some vf
structure Ap (V:Am):Prop where
  c_mathbits_TrailingZeros64:V.ext AW=some A4C
  c_z0:Ao V Ajb ⟨A7B,Aj1⟩
  c_z1:Ao V Ajc ⟨A9B,Aj2⟩
  c_z2:Ao V Ajd ⟨A9T,Aj3⟩
  c_z4:Ao V S8 ⟨AlV,Afb⟩
  c_z5:Ao V Aje ⟨Aaa,Aj4⟩
  c_z6:Ao V Ajf ⟨AlW,Aj5⟩
  c_z7:Ao V AbZ ⟨AhP,Aj6⟩
  c_z8:Ao V Ajg ⟨Aap,Aj7⟩
  c_z9:Ao V Ac7 ⟨AhQ,Aj8⟩
  c_z10:Ao V A0b ⟨ZE,A5z⟩
  c_z11:Ao V A0c ⟨A54,A5A⟩
  c_z12:Ao V A6h ⟨A55,A5B⟩
  c_z13:Ao V AbA ⟨A9C,AaP⟩
  c_z14:Ao V A6i ⟨Ag9,AaQ⟩
  c_z15:Ao V AbB ⟨A56,AaR⟩
  c_z16:Ao V AbC ⟨ZF,AaS⟩
  c_z19:Ao V A0d ⟨A9R,A5C⟩
  c_z20:Ao V AbD ⟨A9U,AaT⟩
  c_z21:Ao V A6j ⟨A9V,A5D⟩
  c_z22:Ao V A6k ⟨A9W,A5E⟩
  c_z23:Ao V AbE ⟨Aga,A5F⟩
  h_z24:V.fnH A0e=some ⟨A9X,A3y⟩
  c_z24:Ao V A0e ⟨A9X,AaU⟩
  h_z25:V.fnH AbF=some ⟨Agb,A3z⟩
  c_z26:Ao V AbG ⟨Agc,AaV⟩
  c_z27:Ao V AbH ⟨Ju,AaW⟩
  c_z28:Ao V A6l ⟨ZG,A5G⟩
  c_z29:Ao V A6m ⟨A9Y,A5H⟩
  c_z30:Ao V A0f ⟨A9Z,A5I⟩
  c_z31:Ao V A0g ⟨Aa0,A5J⟩
  c_z32:Ao V A0h ⟨ZH,A5K⟩
  c_z33:Ao V A6n ⟨Aa1,A5L⟩
  c_z34:Ao V A6o ⟨Aa2,A5M⟩
  c_z35:Ao V A6p ⟨Aa3,A5N⟩
  c_z36:Ao V A6q ⟨Aa4,A5O⟩
  c_z37:Ao V AbI ⟨Agd,AaX⟩
  c_z38:Ao V AbJ ⟨Age,AaY⟩
  h_z40:V.fnH SU=some ⟨A57,A3A⟩
  c_z40:Ao V SU ⟨A57,AaZ⟩
  h_z41:V.fnH SV=some ⟨A58,UL⟩
  h_z42:V.fnH A0i=some ⟨Aa5,UM⟩
  h_z43:V.fnH A0j=some ⟨Aa6,UN⟩
  h_z44:V.fnH A0k=some ⟨Aa7,UO⟩
  h_z45:V.fnH A0l=some ⟨Aa8,UP⟩
  h_z46:V.fnH A0m=some ⟨Aa9,UQ⟩
  c_z47:Ao V AbK ⟨ZI,Ab0⟩
  c_z48:Ao V AbL ⟨ZJ,Ab1⟩
  c_z49:Ao V AbM ⟨Agf,Ab2⟩
  c_z50:Ao V AbN ⟨Agg,Ab3⟩
  c_z51:Ao V AbO ⟨Agh,Ab4⟩
  c_z52:Ao V AbP ⟨Agi,Ab5⟩
  c_z53:Ao V AbQ ⟨Agj,Ab6⟩
  c_z54:Ao V AbR ⟨Agk,Ab7⟩
  c_z55:Ao V A6r ⟨A59,A5P⟩
  h_z56:V.fnH A0n=some ⟨A5a,A3B⟩
  h_z57:V.fnH AbS=some ⟨Agl,A3C⟩
  c_z58:Ao V AbT ⟨Agm,Ab8⟩
  c_z59:Ao V AbU ⟨Aab,Ab9⟩
  c_z60:Ao V AbW ⟨A5b,Aba⟩
  c_z61:Ao V AbX ⟨Aac,Abb⟩
  c_z62:Ao V AbY ⟨SN,Abc⟩
  c_z63:Ao V A6s ⟨Aad,A5Q⟩
  c_z64:Ao V ME ⟨A5c,A5R⟩
  c_z65:Ao V A0o ⟨A5d,A5S⟩
  c_z66:Ao V SW ⟨Aae,A5T⟩
  c_z67:Ao V A0p ⟨Aaf,A5U⟩
  c_z68:Ao V SX ⟨Aag,A5V⟩
  c_z69:Ao V SY ⟨A5e,A5W⟩
  c_z70:Ao V A0q ⟨Aah,A5X⟩
  c_z71:Ao V A6t ⟨ZK,A5Y⟩
  c_z72:Ao V A6u ⟨Aai,A5Z⟩
  c_z73:Ao V R5 ⟨Aaj,A60⟩
  c_z74:Ao V A0r ⟨Aak,A61⟩
  c_z75:Ao V A6v ⟨Aal,A62⟩
  c_z76:Ao V A6w ⟨Aam,A63⟩
  c_z77:Ao V A0s ⟨A5f,A64⟩
  c_z78:Ao V A0t ⟨Aan,A65⟩
  c_z79:Ao V A0u ⟨Aao,A66⟩
  c_z80:Ao V A0v ⟨Aaq,A67⟩
  c_z81:Ao V A0w ⟨Aar,A68⟩
  c_z82:Ao V A6x ⟨A5g,A69⟩
  c_z83:Ao V Ac0 ⟨Agn,Abd⟩
  c_z84:Ao V Ac1 ⟨Aas,A6a⟩
  c_z85:Ao V Ac2 ⟨A5h,Abe⟩
  c_z86:Ao V Ac3 ⟨Ago,Abf⟩
  c_z87:Ao V Ac4 ⟨Aat,Abg⟩
  c_z88:Ao V Ac5 ⟨Aau,Abh⟩
  c_z89:Ao V Ac6 ⟨Agp,Abi⟩
  c_z90:Ao V Ac8 ⟨A5i,Abj⟩
  c_z91:Ao V Ac9 ⟨ZL,Abk⟩
  c_z92:Ao V Aca ⟨Agq,Abl⟩
  c_z93:Ao V Acb ⟨A5j,Abm⟩
  c_z94:Ao V Acc ⟨Agr,Abn⟩
  c_z95:Ao V Acd ⟨A5k,Abo⟩
  c_z96:Ao V A6y ⟨A5l,A6b⟩
  c_z97:Ao V A6z ⟨Aav,A6c⟩
  h_z98:V.fnH A0x=some ⟨A5m,UR⟩
  h_z99:V.fnH R6=some ⟨ZM,US⟩
  c_z99:Ao V R6 ⟨ZM,A6d⟩
  h_z100:V.fnH QI=some ⟨A1N,UF⟩
  c_z100:Ao V QI ⟨A1N,A3D⟩
  h_z101:V.fnH Jf=some ⟨CK,UG⟩
  c_z101:Ao V Jf ⟨CK,A3E⟩
  c_z102:Ao V QJ ⟨A1O,UT⟩
  c_z103:Ao V WZ ⟨A1P,UU⟩
  c_z104:Ao V QK ⟨A1Q,UV⟩
  c_z105:Ao V X0 ⟨A1R,UW⟩
  c_z106:Ao V X1 ⟨A1S,UX⟩
  c_z107:Ao V X2 ⟨A1T,UY⟩
  c_z108:Ao V X3 ⟨U9,UZ⟩
  c_z109:Ao V Np ⟨Ng,QD⟩
  c_z110:Ao V X4 ⟨A1U,V0⟩
  c_z111:Ao V X5 ⟨A1V,V2⟩
  h_z112:V.fnH K6=some ⟨Nh,MC⟩
  c_z112:Ao V K6 ⟨Nh,V3⟩
  h_z113:V.fnH Nq=some ⟨A1W,PG⟩
  c_z114:Ao V X6 ⟨A1X,V4⟩
  h_z115:V.fnH X7=some ⟨A1Y,PH⟩
  h_z116:V.fnH X8=some ⟨A1Z,PI⟩
  c_z117:Ao V X9 ⟨A20,V5⟩
  c_z118:Ao V QL ⟨A21,V6⟩
  c_z119:Ao V QM ⟨A22,QE⟩
  c_z120:Ao V Nr ⟨A23,V7⟩
  c_z121:Ao V Xa ⟨A24,V8⟩
  c_z122:Ao V QN ⟨Ua,V9⟩
  c_z123:Ao V Xb ⟨A25,Va⟩
  h_z124:V.fnH Xc=some ⟨A26,PJ⟩
  c_z125:Ao V QO ⟨Ql,Vd⟩
  c_z126:Ao V Xd ⟨A27,Ve⟩
  c_z127:Ao V Xe ⟨LG,Vf⟩
  c_z128:Ao V QP ⟨A28,Vg⟩
  c_z129:Ao V K7 ⟨Ub,Vh⟩
  c_z130:Ao V Xf ⟨Qm,Vi⟩
  c_z131:Ao V A3Y ⟨A9D,A3F⟩
  c_z132:Ao V A3Z ⟨A9E,A3G⟩
  c_z133:Ao V A40 ⟨A9F,A3H⟩
  c_z134:Ao V A41 ⟨A9G,A3I⟩
  c_z135:Ao V A42 ⟨A9H,A3J⟩
  c_z136:Ao V A43 ⟨A29,A3K⟩
  c_z137:Ao V A44 ⟨A9I,A3L⟩
  c_z138:Ao V A45 ⟨A9J,A3M⟩
  c_z139:Ao V A46 ⟨A9K,A3N⟩
  c_z140:Ao V Xg ⟨A2a,Vj⟩
  c_z141:Ao V Xh ⟨Qn,Vk⟩
  c_z142:Ao V Xi ⟨A2b,Vl⟩
  h_z143:V.fnH Xj=some ⟨A2c,PK⟩
  c_z144:Ao V Xk ⟨A2d,Vm⟩
  c_z145:Ao V Xl ⟨A2e,Vn⟩
  c_z146:Ao V Ns ⟨A2f,Vp⟩
  h_z147:V.fnH LR=some ⟨Qo,PL⟩
  c_z147:Ao V LR ⟨Qo,Vq⟩
  c_z148:Ao V Xm ⟨A2g,Vt⟩
  h_z149:V.fnH Xn=some ⟨A2h,PM⟩
  h_z150:V.fnH Xo=some ⟨A2i,PN⟩
  c_z151:Ao V Xp ⟨Uc,Vu⟩
  c_z152:Ao V A47 ⟨A9L,A3O⟩
  h_z153:V.fnH QQ=some ⟨A9M,UH⟩
  h_z154:V.fnH LS=some ⟨A2j,UI⟩
  c_z154:Ao V LS ⟨A2j,A3P⟩
  c_z155:Ao V Xq ⟨A2k,Vv⟩
  c_z156:Ao V QR ⟨Ud,Vw⟩
  c_z158:Ao V Xr ⟨A2l,Vx⟩
  c_z159:Ao V Xs ⟨A2m,Vy⟩
  h_z160:V.fnH Xt=some ⟨Qp,PO⟩
  c_z161:Ao V A48 ⟨A9N,Vz⟩
  c_z162:Ao V Xu ⟨A2n,QF⟩
  c_z163:Ao V Xv ⟨A2o,VB⟩
  c_z164:Ao V QS ⟨A2p,VD⟩
  c_z165:Ao V QT ⟨Ue,VE⟩
  c_z166:Ao V QU ⟨Uf,VI⟩
  c_z167:Ao V Nt ⟨A2q,VJ⟩
  c_z168:Ao V Xw ⟨Ug,VK⟩
  c_z169:Ao V Xx ⟨A2r,VM⟩
  c_z170:Ao V Xy ⟨A2s,VN⟩
  c_z171:Ao V LT ⟨A2t,VQ⟩
  c_z172:Ao V LU ⟨A2u,VS⟩
  c_z173:Ao V LV ⟨A2v,VT⟩
  c_z174:Ao V GJ ⟨A2w,VU⟩
  c_z175:Ao V LW ⟨A2x,VW⟩
  c_z176:Ao V Xz ⟨A2y,VX⟩
  c_z177:Ao V XA ⟨LH,VY⟩
  c_z178:Ao V XB ⟨A2z,VZ⟩
  c_z179:Ao V QV ⟨A2A,W3⟩
  c_z180:Ao V XC ⟨A2B,W4⟩
  c_z181:Ao V A49 ⟨A9O,A3Q⟩
  c_z182:Ao V XD ⟨A2C,W5⟩
  c_z183:Ao V XE ⟨A2D,W6⟩
  c_z184:Ao V XF ⟨A2E,W7⟩
  h_z185:V.fnH LX=some ⟨Qq,PQ⟩
  c_z185:Ao V LX ⟨Qq,W8⟩
  c_z186:Ao V XG ⟨A2F,W9⟩
  c_z187:Ao V QW ⟨A2G,Wa⟩
  c_z188:Ao V A4a ⟨A9P,A3R⟩
  h_z189:V.fnH A4b=some ⟨A9Q,UJ⟩
  h_z190:V.fnH QX=some ⟨Uh,UK⟩
  c_z190:Ao V QX ⟨Uh,A3S⟩
  c_z191:Ao V A4c ⟨A9S,A3T⟩
  c_z192:Ao V XH ⟨A2H,Wb⟩
  c_z193:Ao V XI ⟨Ui,We⟩
  c_z194:Ao V XJ ⟨A2I,Wf⟩
  c_z195:Ao V QY ⟨A2J,Wg⟩
  h_z196:V.fnH XK=some ⟨Qr,PR⟩
  h_z197:V.fnH XL=some ⟨A2K,PS⟩
  c_z198:Ao V XM ⟨Uj,Wh⟩
  c_z199:Ao V QZ ⟨Uk,Wi⟩
  c_z200:Ao V XN ⟨A2L,Wj⟩
  c_z201:Ao V XO ⟨A2M,Wl⟩
  c_z202:Ao V XQ ⟨Qs,Wm⟩
  c_z203:Ao V XR ⟨Ul,Wn⟩
  c_z204:Ao V R0 ⟨A2N,Wp⟩
  c_z205:Ao V XS ⟨A2O,Wq⟩
  c_z206:Ao V XT ⟨A2P,Wt⟩
  c_z207:Ao V XU ⟨A2Q,Wu⟩
  c_z208:Ao V XV ⟨Qt,Wv⟩
  c_z209:Ao V R3 ⟨A2R,Ww⟩
  c_z210:Ao V XW ⟨A2S,Wx⟩
  c_z211:Ao V XX ⟨A2T,Wy⟩
  c_z212:Ao V XY ⟨A2U,Wz⟩
  c_z213:Ao V XZ ⟨A2V,WA⟩
  c_z214:Ao V Y0 ⟨A2W,WB⟩
  c_z215:Ao V Y1 ⟨A2X,WD⟩
  c_z216:Ao V Y2 ⟨A2Y,WE⟩
  c_z217:Ao V Y3 ⟨A2Z,WF⟩
  c_z218:Ao V Y4 ⟨A30,WH⟩
  c_z219:Ao V Y5 ⟨A31,WJ⟩
  c_z220:Ao V Y6 ⟨J9,WK⟩
  c_z221:Ao V Y7 ⟨A32,WL⟩
  c_z222:Ao V Y8 ⟨A33,WM⟩
  c_z223:Ao V Y9 ⟨A34,WN⟩
  c_z224:Ao V Ya ⟨A35,WO⟩
  c_z225:Ao V Yb ⟨A36,WQ⟩
  c_z226:Ao V Yc ⟨A37,WR⟩
  c_z227:Ao V R4 ⟨A38,WS⟩
def Ar6 (g:Nat):Nat->Nat:=if g=Ajb then Aj1 else if g=Ajc then Aj2 else if g=Ajd then Aj3 else if g=S8 then Afb else if g=Aje then Aj4 else if g=Ajf then Aj5 else if g=AbZ then Aj6 else if g=Ajg then Aj7 else if g=Ac7 then Aj8 else if g=A0b then A5z else if g=A0c then A5A else if g=A6h then A5B else if g=AbA then AaP else if g=A6i then AaQ else if g=AbB then AaR else if g=AbC then AaS else if g=A0d then A5C else if g=AbD then AaT else if g=A6j then A5D else if g=A6k then A5E else if g=AbE then A5F else if g=A0e then AaU else if g=AbG then AaV else if g=AbH then AaW else if g=A6l then A5G else if g=A6m then A5H else if g=A0f then A5I else if g=A0g then A5J else if g=A0h then A5K else if g=A6n then A5L else if g=A6o then A5M else if g=A6p then A5N else if g=A6q then A5O else if g=AbI then AaX else if g=AbJ then AaY else if g=SU then AaZ else if g=AbK then Ab0 else if g=AbL then Ab1 else if g=AbM then Ab2 else if g=AbN then Ab3 else fun _=>0
def Ar7 (g:Nat):Nat->Nat:=if g=AbO then Ab4 else if g=AbP then Ab5 else if g=AbQ then Ab6 else if g=AbR then Ab7 else if g=A6r then A5P else if g=AbT then Ab8 else if g=AbU then Ab9 else if g=AbW then Aba else if g=AbX then Abb else if g=AbY then Abc else if g=A6s then A5Q else if g=ME then A5R else if g=A0o then A5S else if g=SW then A5T else if g=A0p then A5U else if g=SX then A5V else if g=SY then A5W else if g=A0q then A5X else if g=A6t then A5Y else if g=A6u then A5Z else if g=R5 then A60 else if g=A0r then A61 else if g=A6v then A62 else if g=A6w then A63 else if g=A0s then A64 else if g=A0t then A65 else if g=A0u then A66 else if g=A0v then A67 else if g=A0w then A68 else if g=A6x then A69 else if g=Ac0 then Abd else if g=Ac1 then A6a else if g=Ac2 then Abe else if g=Ac3 then Abf else if g=Ac4 then Abg else if g=Ac5 then Abh else if g=Ac6 then Abi else if g=Ac8 then Abj else if g=Ac9 then Abk else if g=Aca then Abl else Ar6 g
def Ar8 (g:Nat):Nat->Nat:=if g=Acb then Abm else if g=Acc then Abn else if g=Acd then Abo else if g=A6y then A6b else if g=A6z then A6c else if g=R6 then A6d else if g=QI then A3D else if g=Jf then A3E else if g=QJ then UT else if g=WZ then UU else if g=QK then UV else if g=X0 then UW else if g=X1 then UX else if g=X2 then UY else if g=X3 then UZ else if g=Np then QD else if g=X4 then V0 else if g=X5 then V2 else if g=K6 then V3 else if g=X6 then V4 else if g=X9 then V5 else if g=QL then V6 else if g=QM then QE else if g=Nr then V7 else if g=Xa then V8 else if g=QN then V9 else if g=Xb then Va else if g=QO then Vd else if g=Xd then Ve else if g=Xe then Vf else if g=QP then Vg else if g=K7 then Vh else if g=Xf then Vi else if g=A3Y then A3F else if g=A3Z then A3G else if g=A40 then A3H else if g=A41 then A3I else if g=A42 then A3J else if g=A43 then A3K else if g=A44 then A3L else Ar7 g
def Ar9 (g:Nat):Nat->Nat:=if g=A45 then A3M else if g=A46 then A3N else if g=Xg then Vj else if g=Xh then Vk else if g=Xi then Vl else if g=Xk then Vm else if g=Xl then Vn else if g=Ns then Vp else if g=LR then Vq else if g=Xm then Vt else if g=Xp then Vu else if g=A47 then A3O else if g=LS then A3P else if g=Xq then Vv else if g=QR then Vw else if g=Xr then Vx else if g=Xs then Vy else if g=A48 then Vz else if g=Xu then QF else if g=Xv then VB else if g=QS then VD else if g=QT then VE else if g=QU then VI else if g=Nt then VJ else if g=Xw then VK else if g=Xx then VM else if g=Xy then VN else if g=LT then VQ else if g=LU then VS else if g=LV then VT else if g=GJ then VU else if g=LW then VW else if g=Xz then VX else if g=XA then VY else if g=XB then VZ else if g=QV then W3 else if g=XC then W4 else if g=A49 then A3Q else if g=XD then W5 else if g=XE then W6 else Ar8 g
def Ara (g:Nat):Nat->Nat:=if g=XF then W7 else if g=LX then W8 else if g=XG then W9 else if g=QW then Wa else if g=A4a then A3R else if g=QX then A3S else if g=A4c then A3T else if g=XH then Wb else if g=XI then We else if g=XJ then Wf else if g=QY then Wg else if g=XM then Wh else if g=QZ then Wi else if g=XN then Wj else if g=XO then Wl else if g=XQ then Wm else if g=XR then Wn else if g=R0 then Wp else if g=XS then Wq else if g=XT then Wt else if g=XU then Wu else if g=XV then Wv else if g=R3 then Ww else if g=XW then Wx else if g=XX then Wy else if g=XY then Wz else if g=XZ then WA else if g=Y0 then WB else if g=Y1 then WD else if g=Y2 then WE else if g=Y3 then WF else if g=Y4 then WH else if g=Y5 then WJ else if g=Y6 then WK else if g=Y7 then WL else if g=Y8 then WM else if g=Y9 then WN else if g=Ya then WO else if g=Yb then WQ else if g=Yc then WR else Ar9 g
def Arb (g:Nat):Nat->Nat:=if g=R4 then WS else Ara g
def muP (g:Nat):Nat->Nat:=Arb g
def Ar5 (g:Nat):Nat->Nat:=if g=A0e then A3y else if g=AbF then A3z else if g=SU then A3A else if g=SV then UL else if g=A0i then UM else if g=A0j then UN else if g=A0k then UO else if g=A0l then UP else if g=A0m then UQ else if g=A0n then A3B else if g=AbS then A3C else if g=A0x then UR else if g=R6 then US else if g=QI then UF else if g=Jf then UG else if g=K6 then MC else if g=Nq then PG else if g=X7 then PH else if g=X8 then PI else if g=Xc then PJ else if g=Xj then PK else if g=LR then PL else if g=Xn then PM else if g=Xo then PN else if g=QQ then UH else if g=LS then UI else if g=Xt then PO else if g=LX then PQ else if g=A4b then UJ else if g=QX then UK else if g=XK then PR else if g=XL then PS else fun _=>0
def muH (g:Nat):Nat->Nat:=Ar5 g
end Go.AM
