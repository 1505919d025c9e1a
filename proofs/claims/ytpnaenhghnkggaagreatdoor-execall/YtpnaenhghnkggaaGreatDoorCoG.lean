/-
  Own work, part of the proof of these laws: the code of the functions that the law reaches, as the machine has it; read off the program as the text is compiled.
-/
import Derived.Test.YtpnaenhghnkggaaGreatDoorCoB
import Derived.Test.YtpnaenhghnkggaaGreatDoorCoC
import Derived.Test.YtpnaenhghnkggaaGreatDoorCoD
import Derived.Test.YtpnaenhghnkggaaGreatDoorCoE
import Derived.Test.YtpnaenhghnkggaaGreatDoorCoF
set_option maxRecDepth 10000
set_option maxHeartbeats 64000000
set_option linter.unusedVariables false
set_option linter.unusedSimpArgs false
set_option maxRecDepth 100000
namespace Go.AM
open Go Go.Proofs
def Ahj:Nat->Nat:=fun d=>if d=15 then 1 else if d=17 then 1 else if d=20 then 1 else if d=22 then 1 else if d=46 then 1 else 0
def Ahk:Nat->Nat:=fun d=>if d=1 then 1 else if d=3 then 1 else if d=6 then 1 else if d=8 then 1 else 0
def Alz:Nat->Nat:=fun d=>if d=2 then 1 else if d=4 then 1 else if d=8 then 2 else if d=9 then 3 else 0
def AlA:Nat->Nat:=fun d=>if d=6 then 1 else if d=7 then 1 else if d=9 then 1 else 0
def Ahl:Nat->Nat:=fun d=>if d=8 then 2 else if d=15 then 2 else if d=87 then 5 else 0
def Ahm:Nat->Nat:=fun d=>if d=6 then 1 else if d=9 then 1 else if d=17 then 2 else if d=44 then 2 else 0
def AlB:Nat->Nat:=fun d=>if d=6 then 1 else if d=8 then 1 else if d=18 then 2 else if d=27 then 1 else if d=30 then 2 else 0
def AcN:Nat->Nat:=fun d=>0
def AcO:Nat->Nat:=fun d=>0
def AcP:Nat->Nat:=fun d=>if d=14 then 1 else if d=15 then 1 else if d=22 then 1 else if d=26 then 1 else if d=30 then 2 else if d=40 then 1 else if d=47 then 1 else 0
def AcQ:Nat->Nat:=fun d=>if d=3 then 2 else 0
def A6P:Nat->Nat:=fun d=>if d=4 then 1 else 0
def A6Q:Nat->Nat:=fun d=>if d=5 then 1 else 0
def A6R:Nat->Nat:=fun d=>if d=5 then 1 else 0
def A6S:Nat->Nat:=fun d=>if d=5 then 1 else 0
def A6T:Nat->Nat:=fun d=>0
def A6U:Nat->Nat:=fun d=>0
def A6V:Nat->Nat:=fun d=>if d=2 then 1 else if d=4 then 1 else 0
def A6W:Nat->Nat:=fun d=>if d=0 then 1 else 0
def A6X:Nat->Nat:=fun d=>if d=5 then 1 else 0
def Vq:Nat->Nat:=fun d=>if d=5 then 1 else 0
def A6Y:Nat->Nat:=fun d=>0
def A4z:Nat->Nat:=fun d=>if d=2 then 1 else if d=3 then 1 else if d=5 then 3 else if d=10 then 3 else 0
def A6Z:Nat->Nat:=fun d=>if d=2 then 1 else if d=3 then 2 else 0
def AcR:Nat->Nat:=fun d=>if d=8 then 1 else if d=12 then 1 else if d=13 then 2 else if d=15 then 1 else if d=17 then 1 else 0
def AcS:Nat->Nat:=fun d=>if d=21 then 1 else 0
def A70:Nat->Nat:=fun d=>if d=6 then 1 else if d=11 then 1 else 0
def AcT:Nat->Nat:=fun d=>0
def AcU:Nat->Nat:=fun d=>if d=5 then 2 else 0
def AcV:Nat->Nat:=fun d=>0
def A71:Nat->Nat:=fun d=>0
def A72:Nat->Nat:=fun d=>0
def AcW:Nat->Nat:=fun d=>0
def A73:Nat->Nat:=fun d=>0
def A74:Nat->Nat:=fun d=>0
def A75:Nat->Nat:=fun d=>0
def A76:Nat->Nat:=fun d=>0
def A77:Nat->Nat:=fun d=>0
def A78:Nat->Nat:=fun d=>if d=5 then 2 else if d=9 then 2 else 0
def A79:Nat->Nat:=fun d=>if d=5 then 1 else 0
def A7a:Nat->Nat:=fun d=>0
def A7b:Nat->Nat:=fun d=>0
def A7c:Nat->Nat:=fun d=>0
def AcX:Nat->Nat:=fun d=>0
def AcY:Nat->Nat:=fun d=>0
def AcZ:Nat->Nat:=fun d=>0
def Ad0:Nat->Nat:=fun d=>0
def Ad1:Nat->Nat:=fun d=>if d=20 then 1 else 0
def Ad2:Nat->Nat:=fun d=>if d=6 then 1 else 0
def Ad3:Nat->Nat:=fun d=>if d=12 then 1 else if d=13 then 1 else if d=34 then 1 else 0
def Ad4:Nat->Nat:=fun d=>0
def A7d:Nat->Nat:=fun d=>0
def A7e:Nat->Nat:=fun d=>if d=6 then 1 else if d=9 then 1 else if d=10 then 2 else if d=11 then 2 else if d=15 then 2 else if d=62 then 2 else if d=81 then 3 else if d=99 then 3 else if d=109 then 3 else 0
def A7f:Nat->Nat:=fun d=>if d=4 then 1 else 0
def A7g:Nat->Nat:=fun d=>if d=6 then 1 else 0
def A7h:Nat->Nat:=fun d=>if d=5 then 1 else 0
def A7i:Nat->Nat:=fun d=>0
def A7j:Nat->Nat:=fun d=>if d=23 then 1 else 0
def A7k:Nat->Nat:=fun d=>0
def A7l:Nat->Nat:=fun d=>if d=30 then 1 else if d=34 then 1 else 0
def A7m:Nat->Nat:=fun d=>if d=11 then 1 else 0
def A7n:Nat->Nat:=fun d=>if d=5 then 1 else 0
def A7o:Nat->Nat:=fun d=>if d=14 then 1 else 0
def A7p:Nat->Nat:=fun d=>if d=19 then 1 else 0
def A7q:Nat->Nat:=fun d=>0
def A7r:Nat->Nat:=fun d=>0
def A7s:Nat->Nat:=fun d=>if d=3 then 1 else 0
def A7t:Nat->Nat:=fun d=>0
def A7u:Nat->Nat:=fun d=>if d=2 then 1 else if d=23 then 2 else if d=94 then 2 else if d=116 then 2 else if d=141 then 2 else 0
def Vt:Nat->Nat:=fun d=>0
def A4A:Nat->Nat:=fun d=>if d=4 then 1 else if d=6 then 3 else if d=11 then 3 else if d=16 then 3 else if d=19 then 3 else 0
def Ad5:Nat->Nat:=fun d=>if d=5 then 2 else 0
def A7v:Nat->Nat:=fun d=>if d=6 then 1 else 0
def A7w:Nat->Nat:=fun d=>if d=8 then 1 else if d=10 then 1 else 0
def Ad6:Nat->Nat:=fun d=>if d=8 then 1 else if d=10 then 2 else if d=19 then 2 else if d=72 then 1 else 0
def A7x:Nat->Nat:=fun d=>if d=8 then 1 else if d=10 then 2 else if d=18 then 1 else if d=47 then 1 else 0
def Ad7:Nat->Nat:=fun d=>0
def A7y:Nat->Nat:=fun d=>0
def Ad8:Nat->Nat:=fun d=>0
def Ad9:Nat->Nat:=fun d=>if d=13 then 1 else 0
def Ada:Nat->Nat:=fun d=>if d=8 then 1 else 0
def Adb:Nat->Nat:=fun d=>0
def Adc:Nat->Nat:=fun d=>0
def Add:Nat->Nat:=fun d=>0
def A7z:Nat->Nat:=fun d=>0
def A17:Nat->Nat:=fun d=>if d=10 then 1 else if d=12 then 1 else 0
def A7A:Nat->Nat:=fun d=>0
def A7B:Nat->Nat:=fun d=>0
def A7C:Nat->Nat:=fun d=>if d=58 then 1 else if d=60 then 3 else if d=63 then 3 else 0
def A7D:Nat->Nat:=fun d=>0
def A7E:Nat->Nat:=fun d=>0
def A7F:Nat->Nat:=fun d=>if d=5 then 1 else 0
def A7G:Nat->Nat:=fun d=>if d=48 then 1 else 0
def QL:Nat->Nat:=fun d=>if d=13 then 2 else 0
def A7H:Nat->Nat:=fun d=>0
def PI:Nat->Nat:=fun d=>0
def Vv:Nat->Nat:=fun d=>0
def Vw:Nat->Nat:=fun d=>0
def Vx:Nat->Nat:=fun d=>0
def Vy:Nat->Nat:=fun d=>0
def A4D:Nat->Nat:=fun d=>0
def A4E:Nat->Nat:=fun d=>if d=13 then 1 else 0
def A4F:Nat->Nat:=fun d=>0
def A4G:Nat->Nat:=fun d=>0
def A4H:Nat->Nat:=fun d=>0
def PJ:Nat->Nat:=fun d=>if d=11 then 1 else if d=57 then 1 else 0
def Vz:Nat->Nat:=fun d=>if d=11 then 1 else if d=57 then 1 else 0
def VB:Nat->Nat:=fun d=>if d=6 then 1 else if d=7 then 1 else if d=9 then 1 else 0
def VD:Nat->Nat:=fun d=>0
def VE:Nat->Nat:=fun d=>if d=8 then 1 else 0
def VI:Nat->Nat:=fun d=>0
def VJ:Nat->Nat:=fun d=>if d=5 then 1 else 0
def VK:Nat->Nat:=fun d=>0
def QM:Nat->Nat:=fun d=>if d=5 then 1 else if d=11 then 1 else 0
def VM:Nat->Nat:=fun d=>if d=10 then 1 else 0
def VN:Nat->Nat:=fun d=>0
def VQ:Nat->Nat:=fun d=>0
def VS:Nat->Nat:=fun d=>0
def VT:Nat->Nat:=fun d=>0
def VU:Nat->Nat:=fun d=>if d=14 then 1 else 0
def VW:Nat->Nat:=fun d=>0
def VX:Nat->Nat:=fun d=>0
def VY:Nat->Nat:=fun d=>0
def VZ:Nat->Nat:=fun d=>if d=30 then 1 else 0
def W3:Nat->Nat:=fun d=>if d=3 then 1 else 0
def W4:Nat->Nat:=fun d=>if d=5 then 1 else 0
def W5:Nat->Nat:=fun d=>0
def W6:Nat->Nat:=fun d=>0
def W7:Nat->Nat:=fun d=>0
def W8:Nat->Nat:=fun d=>0
def W9:Nat->Nat:=fun d=>if d=8 then 1 else 0
def Wa:Nat->Nat:=fun d=>0
def Wb:Nat->Nat:=fun d=>0
def We:Nat->Nat:=fun d=>0
def Wf:Nat->Nat:=fun d=>0
def Wg:Nat->Nat:=fun d=>0
def Wh:Nat->Nat:=fun d=>0
def Wi:Nat->Nat:=fun d=>0
def Wj:Nat->Nat:=fun d=>0
def Wl:Nat->Nat:=fun d=>0
def Wm:Nat->Nat:=fun d=>if d=5 then 2 else if d=7 then 1 else if d=9 then 2 else if d=76 then 1 else if d=83 then 2 else 0
def Wn:Nat->Nat:=fun d=>0
def PK:Nat->Nat:=fun d=>0
def PL:Nat->Nat:=fun d=>if d=8 then 1 else if d=39 then 2 else if d=94 then 2 else if d=109 then 3 else if d=128 then 3 else if d=137 then 3 else if d=151 then 2 else if d=164 then 3 else if d=165 then 2 else if d=181 then 3 else if d=182 then 3 else if d=183 then 2 else if d=192 then 3 else if d=202 then 2 else if d=211 then 2 else if d=223 then 2 else if d=233 then 2 else if d=251 then 3 else if d=253 then 2 else if d=263 then 2 else 0
def Wp:Nat->Nat:=fun d=>if d=8 then 1 else if d=39 then 2 else if d=56 then 1 else if d=94 then 2 else if d=109 then 3 else if d=128 then 3 else if d=137 then 3 else if d=151 then 2 else if d=164 then 3 else if d=165 then 2 else if d=181 then 3 else if d=182 then 3 else if d=183 then 2 else if d=192 then 3 else if d=199 then 1 else if d=202 then 2 else if d=208 then 1 else if d=211 then 2 else if d=223 then 2 else if d=233 then 2 else if d=251 then 3 else if d=253 then 2 else if d=263 then 2 else 0
def Vk:Nat->Nat:=fun d=>if d=10 then 1 else if d=11 then 1 else if d=13 then 2 else if d=20 then 3 else if d=22 then 2 else if d=36 then 3 else if d=38 then 3 else if d=56 then 3 else if d=58 then 3 else if d=74 then 3 else 0
def A4I:Nat->Nat:=fun d=>if d=10 then 1 else if d=11 then 2 else if d=13 then 2 else if d=20 then 3 else if d=36 then 3 else if d=38 then 3 else if d=56 then 3 else if d=58 then 3 else if d=74 then 3 else 0
def PM:Nat->Nat:=fun d=>if d=10 then 1 else if d=12 then 1 else if d=55 then 2 else if d=72 then 1 else if d=87 then 1 else 0
def Wq:Nat->Nat:=fun d=>if d=10 then 1 else if d=12 then 1 else if d=55 then 1 else if d=72 then 1 else if d=87 then 1 else 0
def Wt:Nat->Nat:=fun d=>0
def Wu:Nat->Nat:=fun d=>0
def A4J:Nat->Nat:=fun d=>0
def A4K:Nat->Nat:=fun d=>if d=11 then 1 else if d=21 then 1 else 0
def Wv:Nat->Nat:=fun d=>0
def A4L:Nat->Nat:=fun d=>if d=15 then 1 else 0
def A4M:Nat->Nat:=fun d=>0
def A4N:Nat->Nat:=fun d=>0
def Ww:Nat->Nat:=fun d=>0
def Wx:Nat->Nat:=fun d=>0
def Wy:Nat->Nat:=fun d=>0
def PN:Nat->Nat:=fun d=>if d=3 then 1 else 0
def PO:Nat->Nat:=fun d=>if d=4 then 1 else if d=75 then 3 else 0
def Wz:Nat->Nat:=fun d=>if d=3 then 1 else 0
def WA:Nat->Nat:=fun d=>if d=3 then 1 else 0
def WB:Nat->Nat:=fun d=>0
def WD:Nat->Nat:=fun d=>0
def WE:Nat->Nat:=fun d=>0
def A4O:Nat->Nat:=fun d=>if d=9 then 1 else 0
def A4P:Nat->Nat:=fun d=>if d=7 then 1 else 0
def WF:Nat->Nat:=fun d=>if d=5 then 2 else 0
def WH:Nat->Nat:=fun d=>0
def WJ:Nat->Nat:=fun d=>if d=8 then 1 else 0
def WK:Nat->Nat:=fun d=>if d=3 then 2 else 0
def WL:Nat->Nat:=fun d=>if d=9 then 1 else if d=10 then 1 else 0
def WM:Nat->Nat:=fun d=>0
def WN:Nat->Nat:=fun d=>0
def QN:Nat->Nat:=fun d=>0
def WO:Nat->Nat:=fun d=>if d=2 then 1 else if d=4 then 1 else if d=6 then 1 else if d=15 then 1 else if d=19 then 1 else 0
def WQ:Nat->Nat:=fun d=>if d=12 then 1 else 0
def WR:Nat->Nat:=fun d=>0
def WS:Nat->Nat:=fun d=>0
def WT:Nat->Nat:=fun d=>0
def WU:Nat->Nat:=fun d=>0
def WV:Nat->Nat:=fun d=>0
def WW:Nat->Nat:=fun d=>0
def WX:Nat->Nat:=fun d=>0
def PQ:Nat->Nat:=fun d=>if d=23 then 2 else if d=42 then 2 else if d=54 then 2 else 0
def WY:Nat->Nat:=fun d=>0
def WZ:Nat->Nat:=fun d=>0
def X0:Nat->Nat:=fun d=>if d=28 then 1 else 0
def PR:Nat->Nat:=fun d=>if d=20 then 1 else if d=22 then 5 else 0
def X1:Nat->Nat:=fun d=>if d=20 then 1 else 0
def X2:Nat->Nat:=fun d=>0
def PS:Nat->Nat:=fun d=>if d=10 then 1 else 0
def PT:Nat->Nat:=fun d=>0
def X3:Nat->Nat:=fun d=>0
def A4Q:Nat->Nat:=fun d=>0
def Vl:Nat->Nat:=fun d=>if d=12 then 2 else if d=14 then 1 else if d=25 then 3 else if d=27 then 3 else if d=32 then 3 else if d=39 then 3 else if d=48 then 3 else if d=58 then 3 else if d=64 then 3 else if d=73 then 3 else if d=80 then 3 else if d=94 then 3 else if d=103 then 3 else if d=108 then 3 else if d=116 then 3 else if d=130 then 3 else if d=137 then 3 else if d=142 then 3 else if d=151 then 3 else 0
def Vm:Nat->Nat:=fun d=>if d=8 then 1 else if d=11 then 1 else if d=14 then 3 else if d=28 then 3 else if d=32 then 3 else if d=39 then 3 else if d=47 then 4 else if d=53 then 3 else if d=75 then 4 else if d=81 then 4 else if d=86 then 3 else if d=91 then 3 else 0
def A4R:Nat->Nat:=fun d=>if d=8 then 1 else if d=11 then 1 else if d=14 then 3 else if d=28 then 3 else if d=32 then 3 else if d=39 then 3 else if d=47 then 3 else if d=53 then 3 else if d=75 then 3 else if d=81 then 3 else if d=86 then 3 else if d=91 then 3 else 0
def PU:Nat->Nat:=fun d=>if d=2 then 1 else if d=3 then 1 else if d=5 then 2 else if d=7 then 1 else if d=11 then 1 else if d=15 then 2 else if d=34 then 1 else if d=49 then 1 else 0
def X4:Nat->Nat:=fun d=>if d=2 then 1 else if d=3 then 1 else if d=5 then 2 else if d=7 then 1 else if d=11 then 1 else if d=15 then 2 else if d=34 then 1 else 0
def A4S:Nat->Nat:=fun d=>if d=11 then 1 else if d=13 then 1 else 0
def A4T:Nat->Nat:=fun d=>0
def X5:Nat->Nat:=fun d=>0
def X6:Nat->Nat:=fun d=>0
def PV:Nat->Nat:=fun d=>if d=2 then 1 else if d=5 then 1 else if d=76 then 3 else 0
def X7:Nat->Nat:=fun d=>if d=7 then 1 else if d=8 then 1 else 0
def X8:Nat->Nat:=fun d=>0
def X9:Nat->Nat:=fun d=>0
def Xa:Nat->Nat:=fun d=>0
def Xb:Nat->Nat:=fun d=>if d=9 then 1 else if d=10 then 1 else 0
def Xc:Nat->Nat:=fun d=>0
def Xd:Nat->Nat:=fun d=>0
def Xe:Nat->Nat:=fun d=>0
def Xf:Nat->Nat:=fun d=>0
def Xg:Nat->Nat:=fun d=>0
def QO:Nat->Nat:=fun d=>0
def Xh:Nat->Nat:=fun d=>0
def Xi:Nat->Nat:=fun d=>0
def Xj:Nat->Nat:=fun d=>0
def Xk:Nat->Nat:=fun d=>0
def Xl:Nat->Nat:=fun d=>0
def PW:Nat->Nat:=fun d=>if d=101 then 1 else if d=107 then 5 else 0
def Xm:Nat->Nat:=fun d=>if d=101 then 1 else 0
def Xn:Nat->Nat:=fun d=>0
def Xo:Nat->Nat:=fun d=>0
def A4U:Nat->Nat:=fun d=>0
def Vn:Nat->Nat:=fun d=>if d=14 then 3 else 0
def Vp:Nat->Nat:=fun d=>if d=8 then 1 else if d=11 then 1 else if d=13 then 3 else if d=21 then 3 else if d=28 then 3 else if d=36 then 4 else if d=50 then 3 else if d=56 then 3 else 0
def A4V:Nat->Nat:=fun d=>if d=8 then 1 else if d=11 then 1 else if d=13 then 3 else if d=21 then 3 else if d=28 then 3 else if d=36 then 3 else if d=50 then 3 else if d=56 then 3 else 0
def A4W:Nat->Nat:=fun d=>if d=19 then 1 else 0
def A4X:Nat->Nat:=fun d=>0
def Xp:Nat->Nat:=fun d=>0
def Xq:Nat->Nat:=fun d=>0
def Xr:Nat->Nat:=fun d=>0
def Xs:Nat->Nat:=fun d=>0
def PX:Nat->Nat:=fun d=>if d=5 then 1 else if d=6 then 1 else if d=66 then 3 else if d=115 then 3 else if d=136 then 3 else 0
def PY:Nat->Nat:=fun d=>if d=5 then 1 else if d=8 then 1 else if d=79 then 3 else 0
def Xt:Nat->Nat:=fun d=>0
def Xu:Nat->Nat:=fun d=>0
def Xv:Nat->Nat:=fun d=>0
def Xw:Nat->Nat:=fun d=>0
def Xx:Nat->Nat:=fun d=>0
def Xy:Nat->Nat:=fun d=>0
def Xz:Nat->Nat:=fun d=>0
def XA:Nat->Nat:=fun d=>0
attribute [go_sem] Ahj Ahk Alz AlA Ahl Ahm AlB AcN AcO AcP AcQ A6P A6Q A6R A6S A6T A6U A6V A6W A6X Vq A6Y A4z A6Z AcR AcS A70 AcT AcU AcV A71 A72 AcW A73 A74 A75 A76 A77 A78 A79 A7a A7b A7c AcX AcY AcZ Ad0 Ad1 Ad2 Ad3 Ad4 A7d A7e A7f A7g A7h A7i A7j A7k A7l A7m A7n A7o A7p A7q A7r A7s A7t A7u Vt A4A Ad5 A7v A7w Ad6 A7x Ad7 A7y Ad8 Ad9 Ada Adb Adc Add A7z A17 A7A A7B A7C A7D A7E A7F A7G QL A7H PI Vv Vw Vx Vy A4D A4E A4F A4G A4H PJ Vz VB VD VE VI VJ VK QM VM VN VQ VS VT VU VW VX VY VZ W3 W4 W5 W6 W7 W8 W9 Wa Wb We Wf Wg Wh Wi Wj Wl Wm Wn PK PL Wp Vk A4I PM Wq Wt Wu A4J A4K Wv A4L A4M A4N Ww Wx Wy PN PO Wz WA WB WD WE A4O A4P WF WH WJ WK WL WM WN QN WO WQ WR WS WT WU WV WW WX PQ WY WZ X0 PR X1 X2 PS PT X3 A4Q Vl Vm A4R PU X4 A4S A4T X5 X6 PV X7 X8 X9 Xa Xb Xc Xd Xe Xf Xg QO Xh Xi Xj Xk Xl PW Xm Xn Xo A4U Vn Vp A4V A4W A4X Xp Xq Xr Xs PX PY Xt Xu Xv Xw Xx Xy Xz XA
abbrev Al(V:Ai)(n:Nat)(vf:Gd):Prop:=V.ext n=none/\V.fn n=some vf
structure Am(V:Ai):Prop where
  c_mathbits_TrailingZeros64:V.ext AY=some A5I
  c_z0:Al V AlH ⟨A9E,Ahj⟩
  c_z4:Al V Aa1 ⟨Aox,Ahk⟩
  c_z5:Al V AlI ⟨Aoy,Alz⟩
  c_z6:Al V AlJ ⟨Aoz,AlA⟩
  c_z7:Al V AlK ⟨Acb,Ahl⟩
  c_z8:Al V Ahz ⟨A9F,Ahm⟩
  c_z9:Al V AlL ⟨Ak8,AlB⟩
  c_z10:Al V A7K ⟨Ait,AcN⟩
  c_z11:Al V Adp ⟨Aiu,AcO⟩
  c_z12:Al V Adq ⟨Aiv,AcP⟩
  c_z15:Al V Adr ⟨Aiw,AcQ⟩
  c_z17:Al V Ads ⟨Aix,A6P⟩
  c_z18:Al V A7L ⟨Tn,A6Q⟩
  c_z19:Al V A7M ⟨A6d,A6R⟩
  c_z21:Al V A7N ⟨A6e,A6S⟩
  c_z22:Al V A1e ⟨A6f,A6T⟩
  c_z23:Al V Adt ⟨Aiy,A6U⟩
  c_z24:Al V A7O ⟨AbO,A6V⟩
  c_z25:Al V Adu ⟨Aiz,A6W⟩
  c_z26:Al V A7P ⟨A6g,A6X⟩
  h_z27:V.fnH Rq=some ⟨A0y,Vq⟩
  c_z27:Al V Rq ⟨A0y,A6Y⟩
  h_z28:V.fnH Adv=some ⟨AiA,A4z⟩
  c_z29:Al V A7Q ⟨AbP,A6Z⟩
  c_z30:Al V Adw ⟨JF,AcR⟩
  c_z31:Al V Adx ⟨AbQ,AcS⟩
  c_z32:Al V A1f ⟨To,A70⟩
  c_z33:Al V Ady ⟨AiB,AcT⟩
  c_z34:Al V Adz ⟨AiC,AcU⟩
  c_z35:Al V AdA ⟨AiD,AcV⟩
  c_z36:Al V A7R ⟨AbR,A71⟩
  c_z37:Al V A7S ⟨AbS,A72⟩
  c_z38:Al V AdB ⟨AbT,AcW⟩
  c_z39:Al V A1g ⟨AbU,A73⟩
  c_z40:Al V Tw ⟨AbV,A74⟩
  c_z41:Al V A7T ⟨AbW,A75⟩
  c_z42:Al V A7U ⟨AbX,A76⟩
  c_z43:Al V A1h ⟨A6h,A77⟩
  c_z44:Al V Tx ⟨AbY,A78⟩
  c_z45:Al V A7V ⟨AbZ,A79⟩
  c_z46:Al V A7W ⟨A0z,A7a⟩
  c_z47:Al V A7X ⟨A0A,A7b⟩
  c_z48:Al V A1i ⟨Ac0,A7c⟩
  c_z49:Al V AdC ⟨A6i,AcX⟩
  c_z50:Al V AdD ⟨A6j,AcY⟩
  c_z51:Al V AdE ⟨Ac1,AcZ⟩
  c_z52:Al V AdF ⟨AiE,Ad0⟩
  c_z53:Al V AdG ⟨Ac2,Ad1⟩
  c_z54:Al V AdH ⟨Ac3,Ad2⟩
  c_z55:Al V AdI ⟨Ac4,Ad3⟩
  c_z56:Al V AdJ ⟨A6k,Ad4⟩
  c_z57:Al V A7Y ⟨A0B,A7d⟩
  c_z58:Al V A7Z ⟨AiF,A7e⟩
  c_z59:Al V A80 ⟨A6l,A7f⟩
  c_z60:Al V A81 ⟨A6m,A7g⟩
  c_z61:Al V A82 ⟨Ac5,A7h⟩
  c_z62:Al V A1j ⟨Ac6,A7i⟩
  c_z63:Al V A1k ⟨Ac7,A7j⟩
  c_z64:Al V A1l ⟨Ac8,A7k⟩
  c_z65:Al V A83 ⟨A6n,A7l⟩
  c_z66:Al V A84 ⟨A6o,A7m⟩
  c_z67:Al V A85 ⟨Ac9,A7n⟩
  c_z68:Al V A86 ⟨A6p,A7o⟩
  c_z69:Al V A87 ⟨Aca,A7p⟩
  c_z70:Al V Rr ⟨Acc,A7q⟩
  c_z71:Al V Rs ⟨Acd,A7r⟩
  c_z72:Al V P4 ⟨A6q,A7s⟩
  c_z73:Al V A88 ⟨Ace,A7t⟩
  c_z74:Al V A89 ⟨A6r,A7u⟩
  h_z75:V.fnH Ty=some ⟨A0C,Vt⟩
  h_z76:V.fnH AdK=some ⟨AiG,A4A⟩
  c_z77:Al V AdL ⟨AiH,Ad5⟩
  c_z78:Al V A8a ⟨A6s,A7v⟩
  c_z79:Al V A8b ⟨A0D,A7w⟩
  c_z80:Al V AdM ⟨Acf,Ad6⟩
  c_z81:Al V A8c ⟨QC,A7x⟩
  c_z82:Al V AdN ⟨A0E,Ad7⟩
  c_z83:Al V A8d ⟨Tp,A7y⟩
  c_z84:Al V A8e ⟨AiI,Ad8⟩
  c_z85:Al V AdO ⟨AiJ,Ad9⟩
  c_z86:Al V AdP ⟨AiK,Ada⟩
  c_z87:Al V AdQ ⟨AiL,Adb⟩
  c_z88:Al V AdR ⟨AiM,Adc⟩
  c_z89:Al V AdS ⟨AiN,Add⟩
  c_z90:Al V A8f ⟨Acg,A7z⟩
  c_z91:Al V A8g ⟨A6t,A17⟩
  c_z92:Al V A8h ⟨Ach,A7A⟩
  c_z93:Al V A8i ⟨A0F,A7B⟩
  c_z94:Al V A1m ⟨Aci,A7C⟩
  c_z95:Al V A8j ⟨Acj,A7D⟩
  c_z96:Al V A1n ⟨Ack,A7E⟩
  c_z97:Al V A1o ⟨A6u,A7F⟩
  c_z98:Al V A1p ⟨A6v,A7G⟩
  h_z99:V.fnH P5=some ⟨Tq,QL⟩
  c_z99:Al V P5 ⟨Tq,A7H⟩
  h_z100:V.fnH Nf=some ⟨A2L,PI⟩
  c_z101:Al V XH ⟨A2M,Vv⟩
  c_z102:Al V XI ⟨A2N,Vw⟩
  c_z103:Al V QU ⟨A2O,Vx⟩
  c_z104:Al V XJ ⟨A2P,Vy⟩
  c_z105:Al V A52 ⟨UC,A4D⟩
  c_z106:Al V A53 ⟨A2Q,A4E⟩
  c_z107:Al V A54 ⟨UD,A4F⟩
  c_z108:Al V A55 ⟨UE,A4G⟩
  c_z109:Al V A56 ⟨A2R,A4H⟩
  h_z110:V.fnH Ng=some ⟨UF,PJ⟩
  c_z110:Al V Ng ⟨UF,Vz⟩
  c_z111:Al V A57 ⟨Abz,VB⟩
  c_z112:Al V QV ⟨UG,VD⟩
  c_z113:Al V XK ⟨A2S,VE⟩
  c_z114:Al V Nh ⟨Qs,VI⟩
  c_z115:Al V XL ⟨UH,VJ⟩
  c_z116:Al V XM ⟨UI,VK⟩
  c_z117:Al V XN ⟨Qt,QM⟩
  c_z118:Al V XO ⟨A2T,VM⟩
  c_z119:Al V XQ ⟨A2U,VN⟩
  c_z120:Al V XR ⟨A2V,VQ⟩
  c_z121:Al V XS ⟨UJ,VS⟩
  c_z122:Al V XT ⟨A2W,VT⟩
  c_z123:Al V XU ⟨A2X,VU⟩
  c_z124:Al V QW ⟨A2Y,VW⟩
  c_z125:Al V QX ⟨UK,VX⟩
  c_z126:Al V QY ⟨UL,VY⟩
  c_z127:Al V XV ⟨A2Z,VZ⟩
  c_z128:Al V XW ⟨A30,W3⟩
  c_z129:Al V XX ⟨Qu,W4⟩
  c_z130:Al V QZ ⟨A31,W5⟩
  c_z131:Al V LN ⟨A32,W6⟩
  c_z132:Al V XY ⟨UM,W7⟩
  c_z133:Al V R0 ⟨A33,W8⟩
  c_z134:Al V R3 ⟨UN,W9⟩
  c_z135:Al V R4 ⟨A34,Wa⟩
  c_z136:Al V XZ ⟨A35,Wb⟩
  c_z137:Al V Y0 ⟨A36,We⟩
  c_z138:Al V Y1 ⟨Qv,Wf⟩
  c_z139:Al V R5 ⟨A37,Wg⟩
  c_z140:Al V Y2 ⟨A38,Wh⟩
  c_z141:Al V R6 ⟨A39,Wi⟩
  c_z142:Al V Y3 ⟨A3a,Wj⟩
  c_z143:Al V R7 ⟨A3b,Wl⟩
  c_z144:Al V Y4 ⟨UO,Wm⟩
  c_z145:Al V Y5 ⟨A3c,Wn⟩
  h_z146:V.fnH R8=some ⟨UP,PK⟩
  h_z147:V.fnH LO=some ⟨Qw,PL⟩
  c_z147:Al V LO ⟨Qw,Wp⟩
  h_z148:V.fnH R9=some ⟨A3d,Vk⟩
  c_z148:Al V R9 ⟨A3d,A4I⟩
  h_z149:V.fnH GW=some ⟨Cy,PM⟩
  c_z149:Al V GW ⟨Cy,Wq⟩
  c_z150:Al V Y6 ⟨A3e,Wt⟩
  c_z151:Al V Y7 ⟨A3f,Wu⟩
  c_z152:Al V A58 ⟨A3g,A4J⟩
  c_z153:Al V A59 ⟨AbA,A4K⟩
  c_z154:Al V Y8 ⟨N5,Wv⟩
  c_z155:Al V A5a ⟨AbB,A4L⟩
  c_z156:Al V A5b ⟨AbC,A4M⟩
  c_z157:Al V A5c ⟨UQ,A4N⟩
  c_z158:Al V Ra ⟨A3h,Ww⟩
  c_z159:Al V Y9 ⟨A3i,Wx⟩
  c_z160:Al V Ya ⟨A3j,Wy⟩
  h_z161:V.fnH Yb=some ⟨A3k,PN⟩
  h_z162:V.fnH Yc=some ⟨A3l,PO⟩
  c_z163:Al V Yd ⟨A3m,Wz⟩
  c_z164:Al V Ye ⟨A3n,WA⟩
  c_z165:Al V Yf ⟨UR,WB⟩
  c_z166:Al V Yg ⟨A3o,WD⟩
  c_z167:Al V Yh ⟨A3p,WE⟩
  c_z169:Al V A5d ⟨A3q,A4O⟩
  c_z170:Al V A5e ⟨US,A4P⟩
  c_z171:Al V LP ⟨AbD,WF⟩
  c_z172:Al V A5f ⟨AbE,WH⟩
  c_z173:Al V Yi ⟨UT,WJ⟩
  c_z174:Al V Rb ⟨UU,WK⟩
  c_z175:Al V Yj ⟨LD,WL⟩
  c_z176:Al V Yk ⟨A3r,WM⟩
  c_z177:Al V Rc ⟨A3s,WN⟩
  c_z178:Al V Rf ⟨A3t,QN⟩
  c_z179:Al V Rg ⟨A3u,WO⟩
  c_z180:Al V Yl ⟨A3v,WQ⟩
  c_z181:Al V Rh ⟨UV,WR⟩
  c_z182:Al V Ym ⟨A3w,WS⟩
  c_z183:Al V Ri ⟨A3x,WT⟩
  c_z184:Al V Yn ⟨A3y,WU⟩
  c_z185:Al V Yo ⟨A3z,WV⟩
  c_z186:Al V Yp ⟨Qx,WW⟩
  c_z187:Al V Yq ⟨A3A,WX⟩
  h_z188:V.fnH Yr=some ⟨A3B,PQ⟩
  c_z189:Al V Ys ⟨A3C,WY⟩
  c_z190:Al V Yt ⟨A3D,WZ⟩
  c_z191:Al V Ni ⟨A3E,X0⟩
  h_z192:V.fnH LQ=some ⟨Qy,PR⟩
  c_z192:Al V LQ ⟨Qy,X1⟩
  c_z193:Al V Yu ⟨A3F,X2⟩
  h_z194:V.fnH Yv=some ⟨A3G,PS⟩
  h_z195:V.fnH Yw=some ⟨A3H,PT⟩
  c_z196:Al V Yx ⟨UW,X3⟩
  c_z197:Al V A5g ⟨AbF,A4Q⟩
  h_z198:V.fnH Rj=some ⟨AbG,Vl⟩
  h_z199:V.fnH LR=some ⟨A3I,Vm⟩
  c_z199:Al V LR ⟨A3I,A4R⟩
  h_z200:V.fnH Kf=some ⟨N6,PU⟩
  c_z200:Al V Kf ⟨N6,X4⟩
  c_z201:Al V A5h ⟨AbH,A4S⟩
  c_z202:Al V A5i ⟨AbI,A4T⟩
  c_z203:Al V Yy ⟨A3J,X5⟩
  c_z204:Al V Yz ⟨A3K,X6⟩
  h_z205:V.fnH YA=some ⟨Qz,PV⟩
  c_z206:Al V Rl ⟨A3L,X7⟩
  c_z207:Al V YB ⟨A3M,X8⟩
  c_z208:Al V Rm ⟨A3N,X9⟩
  c_z209:Al V YC ⟨A3O,Xa⟩
  c_z210:Al V YD ⟨A3P,Xb⟩
  c_z211:Al V YE ⟨A3Q,Xc⟩
  c_z212:Al V YF ⟨A3R,Xd⟩
  c_z213:Al V YG ⟨A3S,Xe⟩
  c_z214:Al V YH ⟨A3T,Xf⟩
  c_z215:Al V A5j ⟨AbJ,Xg⟩
  c_z216:Al V YI ⟨A3U,QO⟩
  c_z217:Al V YJ ⟨A3V,Xh⟩
  c_z218:Al V YK ⟨UX,Xi⟩
  c_z219:Al V YL ⟨A3W,Xj⟩
  c_z220:Al V YM ⟨A3X,Xk⟩
  c_z221:Al V YN ⟨A3Y,Xl⟩
  h_z222:V.fnH LS=some ⟨QA,PW⟩
  c_z222:Al V LS ⟨QA,Xm⟩
  c_z223:Al V YO ⟨A3Z,Xn⟩
  c_z224:Al V Rn ⟨A40,Xo⟩
  c_z225:Al V A5k ⟨AbK,A4U⟩
  h_z226:V.fnH A5l=some ⟨AbL,Vn⟩
  h_z227:V.fnH Ro=some ⟨UY,Vp⟩
  c_z227:Al V Ro ⟨UY,A4V⟩
  c_z228:Al V A5m ⟨AbM,A4W⟩
  c_z229:Al V A5n ⟨AbN,A4X⟩
  c_z230:Al V YP ⟨A41,Xp⟩
  c_z231:Al V YQ ⟨UZ,Xq⟩
  c_z232:Al V YR ⟨A42,Xr⟩
  c_z233:Al V Rp ⟨A43,Xs⟩
  h_z234:V.fnH YS=some ⟨QB,PX⟩
  h_z235:V.fnH YT=some ⟨A44,PY⟩
  c_z236:Al V YU ⟨A45,Xt⟩
  c_z237:Al V YV ⟨A46,Xu⟩
  c_z238:Al V YW ⟨A47,Xv⟩
  c_z239:Al V YX ⟨A48,Xw⟩
  c_z240:Al V YY ⟨A49,Xx⟩
  c_z241:Al V YZ ⟨Jl,Xy⟩
  c_z242:Al V Z0 ⟨A4a,Xz⟩
  c_z243:Al V Z4 ⟨A4b,XA⟩
def AtY(g:Nat):Nat->Nat:=if g=AlH then Ahj else if g=Aa1 then Ahk else if g=AlI then Alz else if g=AlJ then AlA else if g=AlK then Ahl else if g=Ahz then Ahm else if g=AlL then AlB else if g=A7K then AcN else if g=Adp then AcO else if g=Adq then AcP else if g=Adr then AcQ else if g=Ads then A6P else if g=A7L then A6Q else if g=A7M then A6R else if g=A7N then A6S else if g=A1e then A6T else if g=Adt then A6U else if g=A7O then A6V else if g=Adu then A6W else if g=A7P then A6X else if g=Rq then A6Y else if g=A7Q then A6Z else if g=Adw then AcR else if g=Adx then AcS else if g=A1f then A70 else if g=Ady then AcT else if g=Adz then AcU else if g=AdA then AcV else if g=A7R then A71 else if g=A7S then A72 else if g=AdB then AcW else if g=A1g then A73 else if g=Tw then A74 else if g=A7T then A75 else if g=A7U then A76 else if g=A1h then A77 else if g=Tx then A78 else if g=A7V then A79 else if g=A7W then A7a else if g=A7X then A7b else fun _=>0
def AtZ(g:Nat):Nat->Nat:=if g=A1i then A7c else if g=AdC then AcX else if g=AdD then AcY else if g=AdE then AcZ else if g=AdF then Ad0 else if g=AdG then Ad1 else if g=AdH then Ad2 else if g=AdI then Ad3 else if g=AdJ then Ad4 else if g=A7Y then A7d else if g=A7Z then A7e else if g=A80 then A7f else if g=A81 then A7g else if g=A82 then A7h else if g=A1j then A7i else if g=A1k then A7j else if g=A1l then A7k else if g=A83 then A7l else if g=A84 then A7m else if g=A85 then A7n else if g=A86 then A7o else if g=A87 then A7p else if g=Rr then A7q else if g=Rs then A7r else if g=P4 then A7s else if g=A88 then A7t else if g=A89 then A7u else if g=AdL then Ad5 else if g=A8a then A7v else if g=A8b then A7w else if g=AdM then Ad6 else if g=A8c then A7x else if g=AdN then Ad7 else if g=A8d then A7y else if g=A8e then Ad8 else if g=AdO then Ad9 else if g=AdP then Ada else if g=AdQ then Adb else if g=AdR then Adc else if g=AdS then Add else AtY g
def Au0(g:Nat):Nat->Nat:=if g=A8f then A7z else if g=A8g then A17 else if g=A8h then A7A else if g=A8i then A7B else if g=A1m then A7C else if g=A8j then A7D else if g=A1n then A7E else if g=A1o then A7F else if g=A1p then A7G else if g=P5 then A7H else if g=XH then Vv else if g=XI then Vw else if g=QU then Vx else if g=XJ then Vy else if g=A52 then A4D else if g=A53 then A4E else if g=A54 then A4F else if g=A55 then A4G else if g=A56 then A4H else if g=Ng then Vz else if g=A57 then VB else if g=QV then VD else if g=XK then VE else if g=Nh then VI else if g=XL then VJ else if g=XM then VK else if g=XN then QM else if g=XO then VM else if g=XQ then VN else if g=XR then VQ else if g=XS then VS else if g=XT then VT else if g=XU then VU else if g=QW then VW else if g=QX then VX else if g=QY then VY else if g=XV then VZ else if g=XW then W3 else if g=XX then W4 else if g=QZ then W5 else AtZ g
def Au1(g:Nat):Nat->Nat:=if g=LN then W6 else if g=XY then W7 else if g=R0 then W8 else if g=R3 then W9 else if g=R4 then Wa else if g=XZ then Wb else if g=Y0 then We else if g=Y1 then Wf else if g=R5 then Wg else if g=Y2 then Wh else if g=R6 then Wi else if g=Y3 then Wj else if g=R7 then Wl else if g=Y4 then Wm else if g=Y5 then Wn else if g=LO then Wp else if g=R9 then A4I else if g=GW then Wq else if g=Y6 then Wt else if g=Y7 then Wu else if g=A58 then A4J else if g=A59 then A4K else if g=Y8 then Wv else if g=A5a then A4L else if g=A5b then A4M else if g=A5c then A4N else if g=Ra then Ww else if g=Y9 then Wx else if g=Ya then Wy else if g=Yd then Wz else if g=Ye then WA else if g=Yf then WB else if g=Yg then WD else if g=Yh then WE else if g=A5d then A4O else if g=A5e then A4P else if g=LP then WF else if g=A5f then WH else if g=Yi then WJ else if g=Rb then WK else Au0 g
def Au2(g:Nat):Nat->Nat:=if g=Yj then WL else if g=Yk then WM else if g=Rc then WN else if g=Rf then QN else if g=Rg then WO else if g=Yl then WQ else if g=Rh then WR else if g=Ym then WS else if g=Ri then WT else if g=Yn then WU else if g=Yo then WV else if g=Yp then WW else if g=Yq then WX else if g=Ys then WY else if g=Yt then WZ else if g=Ni then X0 else if g=LQ then X1 else if g=Yu then X2 else if g=Yx then X3 else if g=A5g then A4Q else if g=LR then A4R else if g=Kf then X4 else if g=A5h then A4S else if g=A5i then A4T else if g=Yy then X5 else if g=Yz then X6 else if g=Rl then X7 else if g=YB then X8 else if g=Rm then X9 else if g=YC then Xa else if g=YD then Xb else if g=YE then Xc else if g=YF then Xd else if g=YG then Xe else if g=YH then Xf else if g=A5j then Xg else if g=YI then QO else if g=YJ then Xh else if g=YK then Xi else if g=YL then Xj else Au1 g
def Au3(g:Nat):Nat->Nat:=if g=YM then Xk else if g=YN then Xl else if g=LS then Xm else if g=YO then Xn else if g=Rn then Xo else if g=A5k then A4U else if g=Ro then A4V else if g=A5m then A4W else if g=A5n then A4X else if g=YP then Xp else if g=YQ then Xq else if g=YR then Xr else if g=Rp then Xs else if g=YU then Xt else if g=YV then Xu else if g=YW then Xv else if g=YX then Xw else if g=YY then Xx else if g=YZ then Xy else if g=Z0 then Xz else if g=Z4 then XA else Au2 g
def muP(g:Nat):Nat->Nat:=Au3 g
def AtX(g:Nat):Nat->Nat:=if g=Rq then Vq else if g=Adv then A4z else if g=Ty then Vt else if g=AdK then A4A else if g=P5 then QL else if g=Nf then PI else if g=Ng then PJ else if g=R8 then PK else if g=LO then PL else if g=R9 then Vk else if g=GW then PM else if g=Yb then PN else if g=Yc then PO else if g=Yr then PQ else if g=LQ then PR else if g=Yv then PS else if g=Yw then PT else if g=Rj then Vl else if g=LR then Vm else if g=Kf then PU else if g=YA then PV else if g=LS then PW else if g=A5l then Vn else if g=Ro then Vp else if g=YS then PX else if g=YT then PY else fun _=>0
def muH(g:Nat):Nat->Nat:=AtX g
end Go.AM
