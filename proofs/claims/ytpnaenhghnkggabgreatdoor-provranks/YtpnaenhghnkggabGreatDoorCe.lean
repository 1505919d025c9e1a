/-
  Own work, part of the proof of these laws: certificates: what calls answer, each carried out by the kernel.
-/
import Derived.Test.YtpnaenhghnkggabGreatDoorAmF
import Derived.Test.YtpnaenhghnkggabGreatDoorCoG
import Derived.KernelRfl
set_option maxRecDepth 10000
set_option maxHeartbeats 64000000
set_option linter.unusedVariables false
set_option linter.unusedSimpArgs false
set_option linter.unusedSectionVars false
set_option maxRecDepth 1000000
set_option maxHeartbeats 4000000
namespace Go.AM.Cep1
def eP:EQ:=(sel 147 (sel 82 (sel 58 (sel 31 (sel 22 (sel 14 (sel 13 (leaf S8 ⟨AlV,Afb⟩) (leaf A0b ⟨ZE,A5z⟩)) (sel 15 (leaf A0c ⟨A54,A5A⟩) (leaf A6h ⟨A55,A5B⟩))) (sel 25 (sel 24 (leaf A0d ⟨A9R,A5C⟩) (leaf A6j ⟨A9V,A5D⟩)) (sel 26 (leaf A6k ⟨A9W,A5E⟩) (leaf AbE ⟨Aga,A5F⟩)))) (sel 35 (sel 33 (sel 32 (leaf A6l ⟨ZG,A5G⟩) (leaf A6m ⟨A9Y,A5H⟩)) (sel 34 (leaf A0f ⟨A9Z,A5I⟩) (leaf A0g ⟨Aa0,A5J⟩))) (sel 37 (sel 36 (leaf A0h ⟨ZH,A5K⟩) (leaf A6n ⟨Aa1,A5L⟩)) (sel 38 (leaf A6o ⟨Aa2,A5M⟩) (sel 39 (leaf A6p ⟨Aa3,A5N⟩) (leaf A6q ⟨Aa4,A5O⟩)))))) (sel 73 (sel 69 (sel 67 (sel 66 (leaf A6r ⟨A59,A5P⟩) (leaf A6s ⟨Aad,A5Q⟩)) (sel 68 (leaf ME ⟨A5c,A5R⟩) (leaf A0o ⟨A5d,A5S⟩))) (sel 71 (sel 70 (leaf SW ⟨Aae,A5T⟩) (leaf A0p ⟨Aaf,A5U⟩)) (sel 72 (leaf SX ⟨Aag,A5V⟩) (leaf SY ⟨A5e,A5W⟩)))) (sel 77 (sel 75 (sel 74 (leaf A0q ⟨Aah,A5X⟩) (leaf A6t ⟨ZK,A5Y⟩)) (sel 76 (leaf A6u ⟨Aai,A5Z⟩) (leaf R5 ⟨Aaj,A60⟩))) (sel 79 (sel 78 (leaf A0r ⟨Aak,A61⟩) (leaf A6v ⟨Aal,A62⟩)) (sel 80 (leaf A6w ⟨Aam,A63⟩) (sel 81 (leaf A0s ⟨A5f,A64⟩) (leaf A0t ⟨Aan,A65⟩))))))) (sel 115 (sel 106 (sel 99 (sel 84 (sel 83 (leaf A0u ⟨Aao,A66⟩) (leaf A0v ⟨Aaq,A67⟩)) (sel 85 (leaf A0w ⟨Aar,A68⟩) (leaf A6x ⟨A5g,A69⟩))) (sel 102 (sel 100 (leaf A6y ⟨A5l,A6b⟩) (leaf A6z ⟨Aav,A6c⟩)) (sel 105 (leaf R6 ⟨ZM,A6d⟩) (leaf QJ ⟨A1O,UT⟩)))) (sel 110 (sel 108 (sel 107 (leaf WZ ⟨A1P,UU⟩) (leaf QK ⟨A1Q,UV⟩)) (sel 109 (leaf X0 ⟨A1R,UW⟩) (leaf X1 ⟨A1S,UX⟩))) (sel 112 (sel 111 (leaf X2 ⟨A1T,UY⟩) (leaf X3 ⟨U9,UZ⟩)) (sel 113 (leaf Np ⟨Ng,QD⟩) (sel 114 (leaf X4 ⟨A1U,V0⟩) (leaf X5 ⟨A1V,V2⟩)))))) (sel 128 (sel 122 (sel 120 (sel 117 (leaf K6 ⟨Nh,V3⟩) (leaf X6 ⟨A1X,V4⟩)) (sel 121 (leaf X9 ⟨A20,V5⟩) (leaf QL ⟨A21,V6⟩))) (sel 124 (sel 123 (leaf QM ⟨A22,QE⟩) (leaf Nr ⟨A23,V7⟩)) (sel 125 (leaf Xa ⟨A24,V8⟩) (sel 126 (leaf QN ⟨Ua,V9⟩) (leaf Xb ⟨A25,Va⟩))))) (sel 132 (sel 130 (sel 129 (leaf QO ⟨Ql,Vd⟩) (leaf Xd ⟨A27,Ve⟩)) (sel 131 (leaf Xe ⟨LG,Vf⟩) (leaf QP ⟨A28,Vg⟩))) (sel 143 (sel 133 (leaf K7 ⟨Ub,Vh⟩) (leaf Xf ⟨Qm,Vi⟩)) (sel 144 (leaf Xg ⟨A2a,Vj⟩) (sel 145 (leaf Xh ⟨Qn,Vk⟩) (leaf Xi ⟨A2b,Vl⟩)))))))) (sel 190 (sel 171 (sel 161 (sel 151 (sel 149 (sel 148 (leaf Xk ⟨A2d,Vm⟩) (leaf Xl ⟨A2e,Vn⟩)) (sel 150 (leaf Ns ⟨A2f,Vp⟩) (leaf LR ⟨Qo,Vq⟩))) (sel 158 (sel 154 (leaf Xm ⟨A2g,Vt⟩) (leaf Xp ⟨Uc,Vu⟩)) (sel 159 (leaf Xq ⟨A2k,Vv⟩) (leaf QR ⟨Ud,Vw⟩)))) (sel 166 (sel 164 (sel 162 (leaf Xr ⟨A2l,Vx⟩) (leaf Xs ⟨A2m,Vy⟩)) (sel 165 (leaf A48 ⟨A9N,Vz⟩) (leaf Xu ⟨A2n,QF⟩))) (sel 168 (sel 167 (leaf Xv ⟨A2o,VB⟩) (leaf QS ⟨A2p,VD⟩)) (sel 169 (leaf QT ⟨Ue,VE⟩) (sel 170 (leaf QU ⟨Uf,VI⟩) (leaf Nt ⟨A2q,VJ⟩)))))) (sel 180 (sel 175 (sel 173 (sel 172 (leaf Xw ⟨Ug,VK⟩) (leaf Xx ⟨A2r,VM⟩)) (sel 174 (leaf Xy ⟨A2s,VN⟩) (leaf LT ⟨A2t,VQ⟩))) (sel 177 (sel 176 (leaf LU ⟨A2u,VS⟩) (leaf LV ⟨A2v,VT⟩)) (sel 178 (leaf GJ ⟨A2w,VU⟩) (sel 179 (leaf LW ⟨A2x,VW⟩) (leaf Xz ⟨A2y,VX⟩))))) (sel 185 (sel 182 (sel 181 (leaf XA ⟨LH,VY⟩) (leaf XB ⟨A2z,VZ⟩)) (sel 183 (leaf QV ⟨A2A,W3⟩) (leaf XC ⟨A2B,W4⟩))) (sel 187 (sel 186 (leaf XD ⟨A2C,W5⟩) (leaf XE ⟨A2D,W6⟩)) (sel 188 (leaf XF ⟨A2E,W7⟩) (sel 189 (leaf LX ⟨Qq,W8⟩) (leaf XG ⟨A2F,W9⟩))))))) (sel 213 (sel 204 (sel 198 (sel 196 (sel 195 (leaf QW ⟨A2G,Wa⟩) (leaf XH ⟨A2H,Wb⟩)) (sel 197 (leaf XI ⟨Ui,We⟩) (leaf XJ ⟨A2I,Wf⟩))) (sel 202 (sel 201 (leaf QY ⟨A2J,Wg⟩) (leaf XM ⟨Uj,Wh⟩)) (sel 203 (leaf QZ ⟨Uk,Wi⟩) (leaf XN ⟨A2L,Wj⟩)))) (sel 208 (sel 206 (sel 205 (leaf XO ⟨A2M,Wl⟩) (leaf XQ ⟨Qs,Wm⟩)) (sel 207 (leaf XR ⟨Ul,Wn⟩) (leaf R0 ⟨A2N,Wp⟩))) (sel 210 (sel 209 (leaf XS ⟨A2O,Wq⟩) (leaf XT ⟨A2P,Wt⟩)) (sel 211 (leaf XU ⟨A2Q,Wu⟩) (sel 212 (leaf XV ⟨Qt,Wv⟩) (leaf R3 ⟨A2R,Ww⟩)))))) (sel 222 (sel 217 (sel 215 (sel 214 (leaf XW ⟨A2S,Wx⟩) (leaf XX ⟨A2T,Wy⟩)) (sel 216 (leaf XY ⟨A2U,Wz⟩) (leaf XZ ⟨A2V,WA⟩))) (sel 219 (sel 218 (leaf Y0 ⟨A2W,WB⟩) (leaf Y1 ⟨A2X,WD⟩)) (sel 220 (leaf Y2 ⟨A2Y,WE⟩) (sel 221 (leaf Y3 ⟨A2Z,WF⟩) (leaf Y4 ⟨A30,WH⟩))))) (sel 226 (sel 224 (sel 223 (leaf Y5 ⟨A31,WJ⟩) (leaf Y6 ⟨J9,WK⟩)) (sel 225 (leaf Y7 ⟨A32,WL⟩) (leaf Y8 ⟨A33,WM⟩))) (sel 228 (sel 227 (leaf Y9 ⟨A34,WN⟩) (leaf Ya ⟨A35,WO⟩)) (sel 229 (leaf Yb ⟨A36,WQ⟩) (sel 230 (leaf Yc ⟨A37,WR⟩) (leaf R4 ⟨A38,WS⟩)))))))))
def eH:EQ:=(sel 118 (sel 49 (sel 46 (sel 45 (leaf SV ⟨A58,UL⟩) (leaf A0i ⟨Aa5,UM⟩)) (sel 47 (leaf A0j ⟨Aa6,UN⟩) (sel 48 (leaf A0k ⟨Aa7,UO⟩) (leaf A0l ⟨Aa8,UP⟩)))) (sel 102 (sel 101 (leaf A0m ⟨Aa9,UQ⟩) (leaf A0x ⟨A5m,UR⟩)) (sel 115 (leaf R6 ⟨ZM,US⟩) (sel 116 (leaf K6 ⟨Nh,MC⟩) (leaf Nq ⟨A1W,PG⟩))))) (sel 152 (sel 127 (sel 119 (leaf X7 ⟨A1Y,PH⟩) (leaf X8 ⟨A1Z,PI⟩)) (sel 146 (leaf Xc ⟨A26,PJ⟩) (sel 150 (leaf Xj ⟨A2c,PK⟩) (leaf LR ⟨Qo,PL⟩)))) (sel 188 (sel 153 (leaf Xn ⟨A2h,PM⟩) (sel 163 (leaf Xo ⟨A2i,PN⟩) (leaf Xt ⟨Qp,PO⟩))) (sel 199 (leaf LX ⟨Qq,PQ⟩) (sel 200 (leaf XK ⟨Qr,PR⟩) (leaf XL ⟨A2K,PS⟩))))))
section
variable {V:Am}
theorem C9 (C:Ap V):L7 V (AW,A4C) eP eH:=.of (.sel (.sel (.sel (.sel (.sel (.sel (.sel (.leaf C.c_z4) (.leaf C.c_z10)) (.sel (.leaf C.c_z11) (.leaf C.c_z12))) (.sel (.sel (.leaf C.c_z19) (.leaf C.c_z21)) (.sel (.leaf C.c_z22) (.leaf C.c_z23)))) (.sel (.sel (.sel (.leaf C.c_z28) (.leaf C.c_z29)) (.sel (.leaf C.c_z30) (.leaf C.c_z31))) (.sel (.sel (.leaf C.c_z32) (.leaf C.c_z33)) (.sel (.leaf C.c_z34) (.sel (.leaf C.c_z35) (.leaf C.c_z36)))))) (.sel (.sel (.sel (.sel (.leaf C.c_z55) (.leaf C.c_z63)) (.sel (.leaf C.c_z64) (.leaf C.c_z65))) (.sel (.sel (.leaf C.c_z66) (.leaf C.c_z67)) (.sel (.leaf C.c_z68) (.leaf C.c_z69)))) (.sel (.sel (.sel (.leaf C.c_z70) (.leaf C.c_z71)) (.sel (.leaf C.c_z72) (.leaf C.c_z73))) (.sel (.sel (.leaf C.c_z74) (.leaf C.c_z75)) (.sel (.leaf C.c_z76) (.sel (.leaf C.c_z77) (.leaf C.c_z78))))))) (.sel (.sel (.sel (.sel (.sel (.leaf C.c_z79) (.leaf C.c_z80)) (.sel (.leaf C.c_z81) (.leaf C.c_z82))) (.sel (.sel (.leaf C.c_z96) (.leaf C.c_z97)) (.sel (.leaf C.c_z99) (.leaf C.c_z102)))) (.sel (.sel (.sel (.leaf C.c_z103) (.leaf C.c_z104)) (.sel (.leaf C.c_z105) (.leaf C.c_z106))) (.sel (.sel (.leaf C.c_z107) (.leaf C.c_z108)) (.sel (.leaf C.c_z109) (.sel (.leaf C.c_z110) (.leaf C.c_z111)))))) (.sel (.sel (.sel (.sel (.leaf C.c_z112) (.leaf C.c_z114)) (.sel (.leaf C.c_z117) (.leaf C.c_z118))) (.sel (.sel (.leaf C.c_z119) (.leaf C.c_z120)) (.sel (.leaf C.c_z121) (.sel (.leaf C.c_z122) (.leaf C.c_z123))))) (.sel (.sel (.sel (.leaf C.c_z125) (.leaf C.c_z126)) (.sel (.leaf C.c_z127) (.leaf C.c_z128))) (.sel (.sel (.leaf C.c_z129) (.leaf C.c_z130)) (.sel (.leaf C.c_z140) (.sel (.leaf C.c_z141) (.leaf C.c_z142)))))))) (.sel (.sel (.sel (.sel (.sel (.sel (.leaf C.c_z144) (.leaf C.c_z145)) (.sel (.leaf C.c_z146) (.leaf C.c_z147))) (.sel (.sel (.leaf C.c_z148) (.leaf C.c_z151)) (.sel (.leaf C.c_z155) (.leaf C.c_z156)))) (.sel (.sel (.sel (.leaf C.c_z158) (.leaf C.c_z159)) (.sel (.leaf C.c_z161) (.leaf C.c_z162))) (.sel (.sel (.leaf C.c_z163) (.leaf C.c_z164)) (.sel (.leaf C.c_z165) (.sel (.leaf C.c_z166) (.leaf C.c_z167)))))) (.sel (.sel (.sel (.sel (.leaf C.c_z168) (.leaf C.c_z169)) (.sel (.leaf C.c_z170) (.leaf C.c_z171))) (.sel (.sel (.leaf C.c_z172) (.leaf C.c_z173)) (.sel (.leaf C.c_z174) (.sel (.leaf C.c_z175) (.leaf C.c_z176))))) (.sel (.sel (.sel (.leaf C.c_z177) (.leaf C.c_z178)) (.sel (.leaf C.c_z179) (.leaf C.c_z180))) (.sel (.sel (.leaf C.c_z182) (.leaf C.c_z183)) (.sel (.leaf C.c_z184) (.sel (.leaf C.c_z185) (.leaf C.c_z186))))))) (.sel (.sel (.sel (.sel (.sel (.leaf C.c_z187) (.leaf C.c_z192)) (.sel (.leaf C.c_z193) (.leaf C.c_z194))) (.sel (.sel (.leaf C.c_z195) (.leaf C.c_z198)) (.sel (.leaf C.c_z199) (.leaf C.c_z200)))) (.sel (.sel (.sel (.leaf C.c_z201) (.leaf C.c_z202)) (.sel (.leaf C.c_z203) (.leaf C.c_z204))) (.sel (.sel (.leaf C.c_z205) (.leaf C.c_z206)) (.sel (.leaf C.c_z207) (.sel (.leaf C.c_z208) (.leaf C.c_z209)))))) (.sel (.sel (.sel (.sel (.leaf C.c_z210) (.leaf C.c_z211)) (.sel (.leaf C.c_z212) (.leaf C.c_z213))) (.sel (.sel (.leaf C.c_z214) (.leaf C.c_z215)) (.sel (.leaf C.c_z216) (.sel (.leaf C.c_z217) (.leaf C.c_z218))))) (.sel (.sel (.sel (.leaf C.c_z219) (.leaf C.c_z220)) (.sel (.leaf C.c_z221) (.leaf C.c_z222))) (.sel (.sel (.leaf C.c_z223) (.leaf C.c_z224)) (.sel (.leaf C.c_z225) (.sel (.leaf C.c_z226) (.leaf C.c_z227))))))))) (.sel (.sel (.sel (.sel (.leaf C.h_z41) (.leaf C.h_z42)) (.sel (.leaf C.h_z43) (.sel (.leaf C.h_z44) (.leaf C.h_z45)))) (.sel (.sel (.leaf C.h_z46) (.leaf C.h_z98)) (.sel (.leaf C.h_z99) (.sel (.leaf C.h_z112) (.leaf C.h_z113))))) (.sel (.sel (.sel (.leaf C.h_z115) (.leaf C.h_z116)) (.sel (.leaf C.h_z124) (.sel (.leaf C.h_z143) (.leaf C.h_z147)))) (.sel (.sel (.leaf C.h_z149) (.sel (.leaf C.h_z150) (.leaf C.h_z160))) (.sel (.leaf C.h_z185) (.sel (.leaf C.h_z196) (.leaf C.h_z197)))))) C.c_mathbits_TrailingZeros64
def v0:VV:=.ls [[.i .i64 (-1),.i .i64 (-1),.i .i64 3,.i .i64 0,.i .i64 0,.i .i64 0,.b false,.b false,.ls []],[.i .i64 (-1),.i .i64 (-1),.i .i64 3,.i .i64 1,.i .i64 0,.i .i64 0,.b false,.b false,.ls []],[.i .i64 0,.i .i64 (-1),.i .i64 1,.i .i64 0,.i .i64 0,.i .i64 0,.b false,.b false,.ls []],[.i .i64 0,.i .i64 2,.i .i64 2,.i .i64 0,.i .i64 0,.i .i64 0,.b false,.b false,.ls []],[.i .i64 0,.i .i64 3,.i .i64 3,.i .i64 1,.i .i64 0,.i .i64 1,.b false,.b true,.ls [[.i .i64 0]]],[.i .i64 0,.i .i64 2,.i .i64 2,.i .i64 0,.i .i64 0,.i .i64 1,.b false,.b false,.ls []],[.i .i64 0,.i .i64 5,.i .i64 3,.i .i64 1,.i .i64 0,.i .i64 1,.b false,.b true,.ls [[.i .i64 1]]],[.i .i64 1,.i .i64 (-1),.i .i64 1,.i .i64 0,.i .i64 0,.i .i64 0,.b false,.b false,.ls []],[.i .i64 1,.i .i64 7,.i .i64 2,.i .i64 1,.i .i64 0,.i .i64 0,.b false,.b false,.ls []],[.i .i64 1,.i .i64 8,.i .i64 3,.i .i64 0,.i .i64 0,.i .i64 1,.b false,.b true,.ls [[.i .i64 0]]],[.i .i64 1,.i .i64 7,.i .i64 2,.i .i64 1,.i .i64 0,.i .i64 1,.b false,.b false,.ls []],[.i .i64 1,.i .i64 10,.i .i64 3,.i .i64 0,.i .i64 0,.i .i64 1,.b false,.b true,.ls [[.i .i64 1]]]]
def v1:VV:=.ag [.i .i64 2,.ls [[.s ⟨⟨[120]⟩⟩],[.s ⟨⟨[121]⟩⟩]],.ls [[.ls [[.s ⟨⟨[97]⟩⟩]]],[.ls [[.s ⟨⟨[98]⟩⟩]]]],v0]
def AdH:JH:=⟨A0r,[v1],.b true⟩
theorem AjB (C:Ap V):VA V AdH:=C5 (C9 C) C.c_z74.1 C.c_z74.2 (O:=[]) .nil (by kernel_rfl)
def v2:VV:=.ls [[.i .i64 0],[.i .i64 1],[.i .i64 2],[.i .i64 3],[.i .i64 4],[.i .i64 5],[.i .i64 7],[.i .i64 10],[.i .i64 11]]
def A7e:JH:=⟨A0q,[v2],.i .u64 3263⟩
theorem AcV (C:Ap V):VA V A7e:=C5 (C9 C) C.c_z70.1 C.c_z70.2 (O:=[]) .nil (by kernel_rfl)
def v3:VV:=.ls [[.i .i64 0],[.i .i64 0],[.i .i64 0],[.i .i64 1],[.i .i64 2],[.i .i64 1],[.i .i64 2],[.i .i64 0],[.i .i64 1],[.i .i64 2],[.i .i64 1],[.i .i64 2]]
def v4:VV:=.ls [[.i .u64 0],[.i .u64 0],[.i .u64 0],[.i .u64 4],[.i .u64 12],[.i .u64 4],[.i .u64 36],[.i .u64 0],[.i .u64 128],[.i .u64 384],[.i .u64 128],[.i .u64 1152]]
def v5:VV:=.ag [.i .i64 2,.ls [[.s ⟨⟨[120]⟩⟩],[.s ⟨⟨[121]⟩⟩]],.ls [[.ls [[.s ⟨⟨[97]⟩⟩]]],[.ls [[.s ⟨⟨[98]⟩⟩]]]],v0,v3,v4]
def v6:VV:=.tu [v5,.b true]
def Zb:JH:=⟨A0p,[v1],v6⟩
theorem A4w (C:Ap V):VA V Zb:=C5 (C9 C) C.c_z67.1 C.c_z67.2 (O:=[AdH]) (.cons (AjB C) .nil) (by kernel_rfl)
def v7:VV:=.f Nt [v5] []
def v8:VV:=.ls [[.i .u64 0],[.i .u64 0],[.i .u64 0],[.i .u64 96],[.i .u64 96],[.i .u64 24],[.i .u64 24],[.i .u64 0],[.i .u64 3072],[.i .u64 3072],[.i .u64 768],[.i .u64 768]]
def Ah3:JH:=⟨SX,[v5,v7],v8⟩
theorem AmN (C:Ap V):VA V Ah3:=C5 (C9 C) C.c_z68.1 C.c_z68.2 (O:=[]) .nil (by kernel_rfl)
def v9:VV:=.ls [[.i .i64 (-1)],[.i .i64 (-1)],[.i .i64 (-1)],[.i .i64 0],[.i .i64 (-1)],[.i .i64 11],[.i .i64 (-1)],[.i .i64 4],[.i .i64 (-1)]]
def v10:VV:=.ls [[.ls [[.ls [[.i .i64 0]]],[.ls [[.i .i64 11]]]]],[.ls [[.ls [[.i .i64 1]]],[.ls [[.i .i64 4]]]]]]
def v11:VV:=.ag [v2,v9,v10]
def Ah4:JH:=⟨Nr,[v1,v11],.b true⟩
theorem AmO (C:Ap V):VA V Ah4:=C5 (C9 C) C.c_z120.1 C.c_z120.2 (O:=[AdH,A7e,Zb,Ah3,Zb]) (.cons (AjB C) (.cons (AcV C) (.cons (A4w C) (.cons (AmN C) (.cons (A4w C) .nil))))) (by kernel_rfl)
def v12:VV:=.f SY [v5] []
def v13:VV:=.ls [[.i .u64 4092],[.i .u64 4092],[.i .u64 120],[.i .u64 16],[.i .u64 0],[.i .u64 64],[.i .u64 0],[.i .u64 3840],[.i .u64 512],[.i .u64 0],[.i .u64 2048],[.i .u64 0]]
def A8S:JH:=⟨SX,[v5,v12],v13⟩
theorem AfK (C:Ap V):VA V A8S:=C5 (C9 C) C.c_z68.1 C.c_z68.2 (O:=[]) .nil (by kernel_rfl)
def BE:JH:=⟨QJ,[.i .i64 0,.i .i64 12],.i .u64 4095⟩
theorem BH (C:Ap V):VA V BE:=C5 (C9 C) C.c_z102.1 C.c_z102.2 (O:=[]) .nil (by kernel_rfl)
def A8T:JH:=⟨ME,[v13],.b true⟩
theorem AfL (C:Ap V):VA V A8T:=C5 (C9 C) C.c_z64.1 C.c_z64.2 (O:=[BE]) (.cons (BH C) .nil) (by kernel_rfl)
def AdI:JH:=⟨R5,[.i .u64 3263],v2⟩
theorem AjC (C:Ap V):VA V AdI:=C5 (C9 C) C.c_z73.1 C.c_z73.2 (O:=[]) .nil (by kernel_rfl)
def v14:VV:=.ls [[.i .u64 3260],[.i .u64 3260],[.i .u64 56],[.i .u64 16],[.i .u64 0],[.i .u64 0],[.i .u64 0],[.i .u64 3072],[.i .u64 0],[.i .u64 0],[.i .u64 2048],[.i .u64 0]]
def KX:JH:=⟨ME,[v14],.b true⟩
theorem M2 (C:Ap V):VA V KX:=C5 (C9 C) C.c_z64.1 C.c_z64.2 (O:=[BE]) (.cons (BH C) .nil) (by kernel_rfl)
def v15:VV:=.ls [[.i .i64 2],[.i .i64 3],[.i .i64 4],[.i .i64 5],[.i .i64 7],[.i .i64 10],[.i .i64 11]]
def TK:JH:=⟨R5,[.i .u64 3260],v15⟩
theorem A10 (C:Ap V):VA V TK:=C5 (C9 C) C.c_z73.1 C.c_z73.2 (O:=[]) .nil (by kernel_rfl)
def Ah5:JH:=⟨LV,[v14,.i .u64 3260,.f GJ [] []],.i .u64 3260⟩
theorem AmP (C:Ap V):VA V Ah5:=C5 (C9 C) C.c_z173.1 C.c_z173.2 (O:=[KX,BE,TK]) (.cons (M2 C) (.cons (BH C) (.cons (A10 C) .nil))) (by kernel_rfl)
def Ah6:JH:=⟨QN,[v1,v2,v9],v14⟩
theorem AmQ (C:Ap V):VA V Ah6:=C5 (C9 C) C.c_z122.1 C.c_z122.2 (O:=[AdH,A7e,Zb,A8S,A8T,AdI,AdI,AdI,KX,BE,KX,Ah5,Ah5,KX,BE,KX,BE,KX,BE,KX,BE,KX,BE,KX,BE,KX,BE,KX,BE,KX,BE,KX,BE]) (.cons (AjB C) (.cons (AcV C) (.cons (A4w C) (.cons (AfK C) (.cons (AfL C) (.cons (AjC C) (.cons (AjC C) (.cons (AjC C) (.cons (M2 C) (.cons (BH C) (.cons (M2 C) (.cons (AmP C) (.cons (AmP C) (.cons (M2 C) (.cons (BH C) (.cons (M2 C) (.cons (BH C) (.cons (M2 C) (.cons (BH C) (.cons (M2 C) (.cons (BH C) (.cons (M2 C) (.cons (BH C) (.cons (M2 C) (.cons (BH C) (.cons (M2 C) (.cons (BH C) (.cons (M2 C) (.cons (BH C) (.cons (M2 C) (.cons (BH C) (.cons (M2 C) (.cons (BH C) .nil))))))))))))))))))))))))))))))))) (by kernel_rfl)
def v16:VV:=.ls [[.i .i64 0,.i .i64 2],[.i .i64 0,.i .i64 3],[.i .i64 0,.i .i64 4],[.i .i64 0,.i .i64 5],[.i .i64 0,.i .i64 7],[.i .i64 0,.i .i64 10],[.i .i64 0,.i .i64 11],[.i .i64 1,.i .i64 2],[.i .i64 1,.i .i64 3],[.i .i64 1,.i .i64 4],[.i .i64 1,.i .i64 5],[.i .i64 1,.i .i64 7],[.i .i64 1,.i .i64 10],[.i .i64 1,.i .i64 11],[.i .i64 2,.i .i64 3],[.i .i64 2,.i .i64 4],[.i .i64 2,.i .i64 5],[.i .i64 3,.i .i64 4],[.i .i64 7,.i .i64 10],[.i .i64 7,.i .i64 11],[.i .i64 10,.i .i64 11]]
def Ah7:JH:=⟨QR,[v14],v16⟩
theorem AmR (C:Ap V):VA V Ah7:=C5 (C9 C) C.c_z156.1 C.c_z156.2 (O:=[KX,TK,TK]) (.cons (M2 C) (.cons (A10 C) (.cons (A10 C) .nil))) (by kernel_rfl)
def v17:VV:=.ls [[.i .u64 3260],[.i .u64 3260],[.i .u64 56],[.i .u64 16],[.i .u64 1024],[.i .u64 0],[.i .u64 0],[.i .u64 3072],[.i .u64 0],[.i .u64 0],[.i .u64 2048],[.i .u64 32]]
def Gn:JH:=⟨ME,[v17],.b true⟩
theorem H6 (C:Ap V):VA V Gn:=C5 (C9 C) C.c_z64.1 C.c_z64.2 (O:=[BE]) (.cons (BH C) .nil) (by kernel_rfl)
def v18:VV:=.ls [[.i .u64 0],[.i .u64 0],[.i .u64 3],[.i .u64 7],[.i .u64 15],[.i .u64 2055],[.i .u64 0],[.i .u64 3],[.i .u64 0],[.i .u64 0],[.i .u64 147],[.i .u64 1155]]
def Ah8:JH:=⟨Np,[v17],v18⟩
theorem AmS (C:Ap V):VA V Ah8:=C5 (C9 C) C.c_z109.1 C.c_z109.2 (O:=[Gn,Gn,TK,TK]) (.cons (H6 C) (.cons (H6 C) (.cons (A10 C) (.cons (A10 C) .nil)))) (by kernel_rfl)
def J1:JH:=⟨ME,[v18],.b true⟩
theorem JE (C:Ap V):VA V J1:=C5 (C9 C) C.c_z64.1 C.c_z64.2 (O:=[BE]) (.cons (BH C) .nil) (by kernel_rfl)
def Ah9:JH:=⟨LV,[v18,.i .u64 3,.f GJ [] []],.i .u64 3⟩
theorem AmT (C:Ap V):VA V Ah9:=C5 (C9 C) C.c_z173.1 C.c_z173.2 (O:=[J1,BE]) (.cons (JE C) (.cons (BH C) .nil)) (by kernel_rfl)
def v19:VV:=.ls [[.i .i64 0],[.i .i64 1],[.i .i64 2],[.i .i64 3],[.i .i64 4],[.i .i64 7],[.i .i64 10],[.i .i64 11]]
def Aha:JH:=⟨R5,[.i .u64 3231],v19⟩
theorem AmU (C:Ap V):VA V Aha:=C5 (C9 C) C.c_z73.1 C.c_z73.2 (O:=[]) .nil (by kernel_rfl)
def Ahb:JH:=⟨LV,[v17,.i .u64 3260,.f GJ [] []],.i .u64 3260⟩
theorem AmV (C:Ap V):VA V Ahb:=C5 (C9 C) C.c_z173.1 C.c_z173.2 (O:=[Gn,BE,TK]) (.cons (H6 C) (.cons (BH C) (.cons (A10 C) .nil))) (by kernel_rfl)
def A8L:JH:=⟨GJ,[v17,.i .u64 3072],.i .u64 2080⟩
theorem AgE (C:Ap V):VA V A8L:=C5 (C9 C) C.c_z174.1 C.c_z174.2 (O:=[Gn,BE]) (.cons (H6 C) (.cons (BH C) .nil)) (by kernel_rfl)
def A8M:JH:=⟨GJ,[v17,.i .u64 3104],.i .u64 2080⟩
theorem AgF (C:Ap V):VA V A8M:=C5 (C9 C) C.c_z174.1 C.c_z174.2 (O:=[Gn,BE]) (.cons (H6 C) (.cons (BH C) .nil)) (by kernel_rfl)
def A8N:JH:=⟨A0t,[v17],.b true⟩
theorem AgG (C:Ap V):VA V A8N:=C5 (C9 C) C.c_z78.1 C.c_z78.2 (O:=[Gn,Ahb,Ahb,Gn,BE,Gn,BE,Gn,BE,Gn,BE,Gn,BE,Gn,BE,Gn,BE,Gn,BE,A8L,A8M,Gn,BE,Gn,BE,A8L,A8M,Gn,BE,Gn,BE,Gn,BE,Gn,BE,Gn,BE,Gn]) (.cons (H6 C) (.cons (AmV C) (.cons (AmV C) (.cons (H6 C) (.cons (BH C) (.cons (H6 C) (.cons (BH C) (.cons (H6 C) (.cons (BH C) (.cons (H6 C) (.cons (BH C) (.cons (H6 C) (.cons (BH C) (.cons (H6 C) (.cons (BH C) (.cons (H6 C) (.cons (BH C) (.cons (H6 C) (.cons (BH C) (.cons (AgE C) (.cons (AgF C) (.cons (H6 C) (.cons (BH C) (.cons (H6 C) (.cons (BH C) (.cons (AgE C) (.cons (AgF C) (.cons (H6 C) (.cons (BH C) (.cons (H6 C) (.cons (BH C) (.cons (H6 C) (.cons (BH C) (.cons (H6 C) (.cons (BH C) (.cons (H6 C) (.cons (BH C) (.cons (H6 C) .nil)))))))))))))))))))))))))))))))))))))) (by kernel_rfl)
def L8:JH:=⟨ME,[v8],.b true⟩
theorem N3 (C:Ap V):VA V L8:=C5 (C9 C) C.c_z64.1 C.c_z64.2 (O:=[BE]) (.cons (BH C) .nil) (by kernel_rfl)
def A8O:JH:=⟨LW,[v8,.i .u64 15],.i .u64 96⟩
theorem AgH (C:Ap V):VA V A8O:=C5 (C9 C) C.c_z175.1 C.c_z175.2 (O:=[L8,BE]) (.cons (N3 C) (.cons (BH C) .nil)) (by kernel_rfl)
def A8P:JH:=⟨LW,[v8,.i .u64 39],.i .u64 24⟩
theorem AgI (C:Ap V):VA V A8P:=C5 (C9 C) C.c_z175.1 C.c_z175.2 (O:=[L8,BE]) (.cons (N3 C) (.cons (BH C) .nil)) (by kernel_rfl)
def A8Q:JH:=⟨LW,[v8,.i .u64 1155],.i .u64 768⟩
theorem AgJ (C:Ap V):VA V A8Q:=C5 (C9 C) C.c_z175.1 C.c_z175.2 (O:=[L8,BE]) (.cons (N3 C) (.cons (BH C) .nil)) (by kernel_rfl)
def v20:VV:=.fp [.i .i64 2,.ls [[.s ⟨⟨[120]⟩⟩],[.s ⟨⟨[121]⟩⟩]],.ls [[.ls [[.s ⟨⟨[97]⟩⟩]]],[.ls [[.s ⟨⟨[98]⟩⟩]]]],v0] 0
def v21:VV:=.fp [v2,v9,v10] 0
def Z9:JH:=⟨K7,[.i .i64 3,v20,v21],.i .i64 0⟩
theorem A6X (C:Ap V):VA V Z9:=C5 (C9 C) C.c_z129.1 C.c_z129.2 (O:=[]) .nil (by kernel_rfl)
def A4Q:JH:=⟨K7,[.i .i64 5,v20,v21],.i .i64 1⟩
theorem AcT (C:Ap V):VA V A4Q:=C5 (C9 C) C.c_z129.1 C.c_z129.2 (O:=[]) .nil (by kernel_rfl)
def Za:JH:=⟨K7,[.i .i64 10,v20,v21],.i .i64 1⟩
theorem A6Y (C:Ap V):VA V Za:=C5 (C9 C) C.c_z129.1 C.c_z129.2 (O:=[]) .nil (by kernel_rfl)
def A4R:JH:=⟨A0d,[v1,v11],.i .i64 0⟩
theorem AcU (C:Ap V):VA V A4R:=C5 (C9 C) C.c_z19.1 C.c_z19.2 (O:=[Ah4,A7e,Zb,Ah3,Zb,A8S,Ah6,KX,Ah7,A8T,Ah8,J1,J1,BE,J1,BE,Ah9,J1,BE,J1,BE,J1,BE,J1,BE,J1,BE,J1,BE,Aha,J1,BE,Ah9,J1,BE,J1,BE,J1,BE,J1,BE,J1,BE,J1,BE,J1,BE,Zb,A8S,A7e,A8T,A8N,L8,BE,L8,BE,L8,BE,A8O,L8,BE,A8P,L8,BE,A8Q,L8,BE,A8O,A8P,A8Q,Aha,Ah4,Ah6,Ah7,Z9,A4Q,Za,Z9,A4Q,Za,Z9,A4Q,Z9,Za,Za]) (.cons (AmO C) (.cons (AcV C) (.cons (A4w C) (.cons (AmN C) (.cons (A4w C) (.cons (AfK C) (.cons (AmQ C) (.cons (M2 C) (.cons (AmR C) (.cons (AfL C) (.cons (AmS C) (.cons (JE C) (.cons (JE C) (.cons (BH C) (.cons (JE C) (.cons (BH C) (.cons (AmT C) (.cons (JE C) (.cons (BH C) (.cons (JE C) (.cons (BH C) (.cons (JE C) (.cons (BH C) (.cons (JE C) (.cons (BH C) (.cons (JE C) (.cons (BH C) (.cons (JE C) (.cons (BH C) (.cons (AmU C) (.cons (JE C) (.cons (BH C) (.cons (AmT C) (.cons (JE C) (.cons (BH C) (.cons (JE C) (.cons (BH C) (.cons (JE C) (.cons (BH C) (.cons (JE C) (.cons (BH C) (.cons (JE C) (.cons (BH C) (.cons (JE C) (.cons (BH C) (.cons (JE C) (.cons (BH C) (.cons (A4w C) (.cons (AfK C) (.cons (AcV C) (.cons (AfL C) (.cons (AgG C) (.cons (N3 C) (.cons (BH C) (.cons (N3 C) (.cons (BH C) (.cons (N3 C) (.cons (BH C) (.cons (AgH C) (.cons (N3 C) (.cons (BH C) (.cons (AgI C) (.cons (N3 C) (.cons (BH C) (.cons (AgJ C) (.cons (N3 C) (.cons (BH C) (.cons (AgH C) (.cons (AgI C) (.cons (AgJ C) (.cons (AmU C) (.cons (AmO C) (.cons (AmQ C) (.cons (AmR C) (.cons (A6X C) (.cons (AcT C) (.cons (A6Y C) (.cons (A6X C) (.cons (AcT C) (.cons (A6Y C) (.cons (A6X C) (.cons (AcT C) (.cons (A6X C) (.cons (A6Y C) (.cons (A6Y C) .nil))))))))))))))))))))))))))))))))))))))))))))))))))))))))))))))))))))))))))))))))))))) (by kernel_rfl)
def v22:VV:=.ls [[.i .i64 5],[.i .i64 11],[.i .i64 10],[.i .i64 4],[.i .i64 3],[.i .i64 0]]
def A8R:JH:=⟨A0b,[v1,v11,.i .i64 5],v22⟩
theorem AgK (C:Ap V):VA V A8R:=C5 (C9 C) C.c_z10.1 C.c_z10.2 (O:=[A4R]) (.cons (AcU C) .nil) (by kernel_rfl)
def Alq:JH:=⟨S8,[],.b true⟩
theorem t1289 (C:Ap V):VA V Alq:=C5 (C9 C) C.c_z4.1 C.c_z4.2 (O:=[A8R,A4R,Zb,A8S,A7e,A8T,A8N,Ah8,BE,TK,TK,A8R,A4R]) (.cons (AgK C) (.cons (AcU C) (.cons (A4w C) (.cons (AfK C) (.cons (AcV C) (.cons (AfL C) (.cons (AgG C) (.cons (AmS C) (.cons (BH C) (.cons (A10 C) (.cons (A10 C) (.cons (AgK C) (.cons (AcU C) .nil))))))))))))) (by kernel_rfl)
end
end Go.AM.Cep1
