/-
  Own work, part of the proof of these laws: certificates: what calls answer, each carried out by the kernel.
-/
import Derived.Test.YthhlhddnndlhkaaGreatDoorAmF
import Derived.Test.YthhlhddnndlhkaaGreatDoorCoGe
import Derived.KernelRfl
set_option maxRecDepth 10000
set_option maxHeartbeats 64000000
set_option linter.unusedVariables false
set_option linter.unusedSimpArgs false
set_option linter.unusedSectionVars false
set_option maxRecDepth 1000000
set_option maxHeartbeats 4000000
namespace Go.AM.Cee
def eP:G7:=(sel 158 (sel 88 (sel 60 (sel 41 (sel 32 (sel 28 (sel 26 (leaf A5b ⟨XC,A3Q⟩) (leaf A5f ⟨A8Z,A3U⟩)) (sel 30 (leaf A1m ⟨A0T,A3W⟩) (leaf A1n ⟨XD,A1g⟩))) (sel 35 (sel 33 (leaf A5j ⟨XE,A3Z⟩) (leaf A1o ⟨A3n,A40⟩)) (sel 37 (leaf JU ⟨Ada,A42⟩) (sel 39 (leaf R5 ⟨A3o,A44⟩) (leaf A5m ⟨A94,A46⟩))))) (sel 51 (sel 43 (sel 42 (leaf R6 ⟨A95,A48⟩) (leaf A5o ⟨A96,A49⟩)) (sel 44 (leaf A5p ⟨A97,A4a⟩) (sel 45 (leaf A1p ⟨A98,A4b⟩) (leaf A5q ⟨A13,A4c⟩)))) (sel 55 (sel 53 (leaf Pf ⟨A9b,A4i⟩) (leaf A5u ⟨A9d,A4k⟩)) (sel 57 (leaf LM ⟨P6,A4m⟩) (sel 59 (leaf A5w ⟨A9f,A4n⟩) (leaf A1r ⟨XG,A4p⟩)))))) (sel 78 (sel 70 (sel 68 (sel 67 (leaf A1s ⟨A9g,A4q⟩) (leaf Mr ⟨A9m,A4x⟩)) (sel 69 (leaf A5D ⟨A9n,A4y⟩) (leaf LN ⟨A3v,A4z⟩))) (sel 75 (sel 71 (leaf A5E ⟨A9o,A4A⟩) (leaf A5F ⟨A9p,A4B⟩)) (sel 76 (leaf A5H ⟨A3w,A4F⟩) (sel 77 (leaf A1v ⟨A3x,A4G⟩) (leaf XS ⟨A9u,A4H⟩))))) (sel 83 (sel 80 (sel 79 (leaf A5I ⟨A3y,A4I⟩) (leaf A5J ⟨A9v,A4J⟩)) (sel 81 (leaf A5K ⟨A9w,A4K⟩) (sel 82 (leaf A5L ⟨A9x,A4L⟩) (leaf A5M ⟨A9y,A4M⟩)))) (sel 85 (sel 84 (leaf XT ⟨A9z,A4N⟩) (leaf A5N ⟨A9A,A4O⟩)) (sel 86 (leaf Aaj ⟨Add,A4P⟩) (sel 87 (leaf A5O ⟨A9B,A4Q⟩) (leaf Pg ⟨A9C,A4R⟩))))))) (sel 127 (sel 111 (sel 96 (sel 94 (sel 93 (leaf A5P ⟨A9D,A4S⟩) (leaf A5U ⟨A9J,A4X⟩)) (sel 95 (leaf A5V ⟨A9K,A4Y⟩) (leaf A1w ⟨A9L,A4Z⟩))) (sel 99 (sel 97 (leaf A5W ⟨A9M,A50⟩) (leaf A1x ⟨A9N,A51⟩)) (sel 109 (leaf LO ⟨P7,A53⟩) (sel 110 (leaf Lh ⟨Zp,Su⟩) (leaf UQ ⟨Zq,Sv⟩))))) (sel 118 (sel 113 (sel 112 (leaf Q7 ⟨Zr,Sw⟩) (leaf Q8 ⟨RR,Sx⟩)) (sel 115 (leaf Q9 ⟨RS,Sy⟩) (sel 117 (leaf Mn ⟨RT,SA⟩) (leaf UR ⟨PD,SC⟩)))) (sel 123 (sel 119 (leaf US ⟨PE,SD⟩) (leaf UT ⟨RV,SE⟩)) (sel 124 (leaf UW ⟨RW,SG⟩) (sel 126 (leaf UX ⟨PF,SH⟩) (leaf UZ ⟨KY,SK⟩)))))) (sel 143 (sel 137 (sel 135 (sel 128 (leaf V0 ⟨Zv,SL⟩) (leaf V2 ⟨RY,PZ⟩)) (sel 136 (leaf V9 ⟨KZ,SS⟩) (leaf Va ⟨Zz,ST⟩))) (sel 140 (sel 138 (leaf Lj ⟨ZA,SU⟩) (leaf Lk ⟨ZB,SV⟩)) (sel 141 (leaf Ve ⟨ZD,SW⟩) (sel 142 (leaf Vf ⟨ZE,SX⟩) (leaf Qc ⟨ZF,SY⟩))))) (sel 148 (sel 145 (sel 144 (leaf Vg ⟨ZG,SZ⟩) (leaf Vh ⟨PI,T0⟩)) (sel 146 (leaf GZ ⟨Hw,T4⟩) (sel 147 (leaf Vi ⟨PJ,T5⟩) (leaf Vj ⟨ZH,T6⟩)))) (sel 150 (sel 149 (leaf Vk ⟨ZI,T7⟩) (leaf Vl ⟨ZJ,T8⟩)) (sel 152 (leaf Hy ⟨Kd,T9⟩) (sel 153 (leaf Vm ⟨S0,Ta⟩) (leaf Vn ⟨ZL,Tb⟩)))))))) (sel 210 (sel 182 (sel 170 (sel 164 (sel 162 (sel 161 (leaf Vv ⟨ZO,Tg⟩) (leaf Vy ⟨ZR,Th⟩)) (sel 163 (leaf Vz ⟨S3,Ti⟩) (leaf Qd ⟨S4,Tj⟩))) (sel 167 (sel 166 (leaf VB ⟨ZS,Tk⟩) (leaf VE ⟨S5,Tn⟩)) (sel 168 (leaf Ll ⟨PL,To⟩) (sel 169 (leaf VI ⟨ZT,Tp⟩) (leaf VJ ⟨ZU,Tq⟩))))) (sel 175 (sel 172 (sel 171 (leaf Lm ⟨ZV,Tr⟩) (leaf Ln ⟨ZW,Tt⟩)) (sel 173 (leaf VK ⟨ZX,Tu⟩) (sel 174 (leaf VM ⟨ZY,Tv⟩) (leaf Qe ⟨ZZ,Tw⟩)))) (sel 177 (sel 176 (leaf VN ⟨A00,Tx⟩) (leaf VQ ⟨S6,Ty⟩)) (sel 179 (leaf VS ⟨A01,Tz⟩) (sel 181 (leaf Jo ⟨L3,TA⟩) (leaf EG ⟨Cw,TC⟩)))))) (sel 195 (sel 190 (sel 185 (sel 183 (leaf VT ⟨A02,TD⟩) (leaf VU ⟨A03,TE⟩)) (sel 189 (leaf EI ⟨A04,TG⟩) (leaf W3 ⟨A07,TL⟩))) (sel 192 (sel 191 (leaf Qg ⟨S9,TM⟩) (leaf W4 ⟨A08,TN⟩)) (sel 193 (leaf W5 ⟨A09,TO⟩) (sel 194 (leaf W6 ⟨PN,TP⟩) (leaf Qh ⟨A0a,TQ⟩))))) (sel 202 (sel 198 (sel 196 (leaf W7 ⟨A0b,TR⟩) (leaf Qi ⟨A0c,TS⟩)) (sel 199 (leaf Qj ⟨A0d,Q0⟩) (sel 200 (leaf W8 ⟨A0e,TU⟩) (leaf W9 ⟨A0f,TV⟩)))) (sel 207 (sel 203 (leaf Wb ⟨A0g,TW⟩) (leaf We ⟨A0h,TX⟩)) (sel 208 (leaf Wi ⟨PQ,U1⟩) (sel 209 (leaf Gj ⟨A0l,U2⟩) (leaf Ek ⟨A0m,U3⟩))))))) (sel 236 (sel 219 (sel 214 (sel 212 (sel 211 (leaf Wj ⟨Sa,U4⟩) (leaf Qk ⟨A0n,U5⟩)) (sel 213 (leaf Wl ⟨A0o,U6⟩) (leaf Wm ⟨A0p,U7⟩))) (sel 216 (sel 215 (leaf Wn ⟨PR,U9⟩) (leaf Ql ⟨A0q,Ua⟩)) (sel 217 (leaf Wp ⟨A0r,Ub⟩) (sel 218 (leaf Wq ⟨A0s,Uc⟩) (leaf Wt ⟨PS,Ud⟩))))) (sel 225 (sel 222 (sel 221 (leaf Wu ⟨A0t,Ue⟩) (leaf Ww ⟨A0v,Uf⟩)) (sel 223 (leaf Wx ⟨A0w,Ug⟩) (sel 224 (leaf Mp ⟨A0x,Uh⟩) (leaf Jq ⟨L5,Ui⟩)))) (sel 232 (sel 228 (leaf Wy ⟨A0y,Uj⟩) (leaf WB ⟨Sb,Uk⟩)) (sel 234 (leaf WE ⟨A0D,Un⟩) (sel 235 (leaf A1l ⟨A6Q,Up⟩) (leaf WH ⟨A0F,Q1⟩)))))) (sel 248 (sel 243 (sel 238 (sel 237 (leaf WJ ⟨A0G,Uq⟩) (leaf WK ⟨Sc,Ur⟩)) (sel 239 (leaf WL ⟨A0H,Us⟩) (sel 242 (leaf Qm ⟨A0I,Ut⟩) (leaf WO ⟨A0K,Uu⟩)))) (sel 245 (sel 244 (leaf Qn ⟨A0L,Uv⟩) (leaf WQ ⟨A0M,Uw⟩)) (sel 246 (leaf WR ⟨A0N,Ux⟩) (sel 247 (leaf WS ⟨A0O,Uy⟩) (leaf Jr ⟨L7,Uz⟩))))) (sel 257 (sel 254 (sel 249 (leaf WT ⟨A0P,UA⟩) (leaf Qo ⟨A0Q,UB⟩)) (sel 255 (leaf WX ⟨A0V,UF⟩) (sel 256 (leaf WY ⟨A0W,UG⟩) (leaf WZ ⟨A0X,UH⟩)))) (sel 259 (sel 258 (leaf X0 ⟨A0Y,UI⟩) (leaf X1 ⟨A0Z,UJ⟩)) (sel 260 (leaf X2 ⟨A10,UK⟩) (sel 261 (leaf X3 ⟨A11,UL⟩) (leaf X4 ⟨Jf,UM⟩)))))))))
def eH:G7:=(sel 179 (sel 150 (sel 120 (sel 99 (leaf LM ⟨P6,Si⟩) (leaf LO ⟨P7,Sk⟩)) (sel 139 (leaf Li ⟨Kc,N9⟩) (sel 145 (leaf Vd ⟨ZC,Nb⟩) (leaf GZ ⟨Hw,Nc⟩)))) (sel 159 (sel 151 (leaf Hy ⟨Kd,Lc⟩) (leaf Mo ⟨ZK,Nd⟩)) (sel 160 (leaf Vw ⟨ZP,Nf⟩) (sel 178 (leaf Vx ⟨ZQ,Ng⟩) (leaf Qf ⟨S7,Nh⟩))))) (sel 226 (sel 201 (sel 181 (leaf Jo ⟨L3,Ni⟩) (leaf EG ⟨Cw,Nk⟩)) (sel 220 (leaf Wa ⟨PO,Nl⟩) (sel 224 (leaf Wv ⟨A0u,Nm⟩) (leaf Jq ⟨L5,Nn⟩)))) (sel 240 (sel 227 (leaf Wz ⟨A0z,Np⟩) (leaf WA ⟨A0A,Nq⟩)) (sel 241 (leaf WM ⟨PT,Nt⟩) (sel 247 (leaf WN ⟨A0J,Nu⟩) (leaf Jr ⟨L7,Nv⟩))))))
section
variable {V:At}
theorem Bj (C:Aq V):LE V (AS,A7P) eP eH:=.of (.sel (.sel (.sel (.sel (.sel (.sel (.sel (.leaf C.c_z19) (.leaf C.c_z23)) (.sel (.leaf C.c_z25) (.leaf C.c_z27))) (.sel (.sel (.leaf C.c_z29) (.leaf C.c_z30)) (.sel (.leaf C.c_z32) (.sel (.leaf C.c_z34) (.leaf C.c_z36))))) (.sel (.sel (.sel (.leaf C.c_z38) (.leaf C.c_z39)) (.sel (.leaf C.c_z40) (.sel (.leaf C.c_z41) (.leaf C.c_z42)))) (.sel (.sel (.leaf C.c_z48) (.leaf C.c_z50)) (.sel (.leaf C.c_z52) (.sel (.leaf C.c_z54) (.leaf C.c_z56)))))) (.sel (.sel (.sel (.sel (.leaf C.c_z57) (.leaf C.c_z64)) (.sel (.leaf C.c_z65) (.leaf C.c_z66))) (.sel (.sel (.leaf C.c_z67) (.leaf C.c_z68)) (.sel (.leaf C.c_z72) (.sel (.leaf C.c_z73) (.leaf C.c_z74))))) (.sel (.sel (.sel (.leaf C.c_z75) (.leaf C.c_z76)) (.sel (.leaf C.c_z77) (.sel (.leaf C.c_z78) (.leaf C.c_z79)))) (.sel (.sel (.leaf C.c_z80) (.leaf C.c_z81)) (.sel (.leaf C.c_z82) (.sel (.leaf C.c_z83) (.leaf C.c_z84))))))) (.sel (.sel (.sel (.sel (.sel (.leaf C.c_z85) (.leaf C.c_z90)) (.sel (.leaf C.c_z91) (.leaf C.c_z92))) (.sel (.sel (.leaf C.c_z93) (.leaf C.c_z94)) (.sel (.leaf C.c_z96) (.sel (.leaf C.c_z106) (.leaf C.c_z107))))) (.sel (.sel (.sel (.leaf C.c_z108) (.leaf C.c_z109)) (.sel (.leaf C.c_z110) (.sel (.leaf C.c_z112) (.leaf C.c_z114)))) (.sel (.sel (.leaf C.c_z115) (.leaf C.c_z116)) (.sel (.leaf C.c_z120) (.sel (.leaf C.c_z121) (.leaf C.c_z123)))))) (.sel (.sel (.sel (.sel (.leaf C.c_z124) (.leaf C.c_z125)) (.sel (.leaf C.c_z132) (.leaf C.c_z133))) (.sel (.sel (.leaf C.c_z134) (.leaf C.c_z135)) (.sel (.leaf C.c_z137) (.sel (.leaf C.c_z138) (.leaf C.c_z139))))) (.sel (.sel (.sel (.leaf C.c_z140) (.leaf C.c_z141)) (.sel (.leaf C.c_z142) (.sel (.leaf C.c_z143) (.leaf C.c_z144)))) (.sel (.sel (.leaf C.c_z145) (.leaf C.c_z146)) (.sel (.leaf C.c_z147) (.sel (.leaf C.c_z149) (.leaf C.c_z150)))))))) (.sel (.sel (.sel (.sel (.sel (.sel (.leaf C.c_z155) (.leaf C.c_z158)) (.sel (.leaf C.c_z159) (.leaf C.c_z160))) (.sel (.sel (.leaf C.c_z161) (.leaf C.c_z163)) (.sel (.leaf C.c_z164) (.sel (.leaf C.c_z165) (.leaf C.c_z166))))) (.sel (.sel (.sel (.leaf C.c_z167) (.leaf C.c_z168)) (.sel (.leaf C.c_z169) (.sel (.leaf C.c_z170) (.leaf C.c_z171)))) (.sel (.sel (.leaf C.c_z172) (.leaf C.c_z173)) (.sel (.leaf C.c_z174) (.sel (.leaf C.c_z176) (.leaf C.c_z178)))))) (.sel (.sel (.sel (.sel (.leaf C.c_z179) (.leaf C.c_z180)) (.sel (.leaf C.c_z182) (.leaf C.c_z186))) (.sel (.sel (.leaf C.c_z187) (.leaf C.c_z188)) (.sel (.leaf C.c_z189) (.sel (.leaf C.c_z190) (.leaf C.c_z191))))) (.sel (.sel (.sel (.leaf C.c_z192) (.leaf C.c_z193)) (.sel (.leaf C.c_z195) (.sel (.leaf C.c_z196) (.leaf C.c_z197)))) (.sel (.sel (.leaf C.c_z199) (.leaf C.c_z200)) (.sel (.leaf C.c_z204) (.sel (.leaf C.c_z205) (.leaf C.c_z206))))))) (.sel (.sel (.sel (.sel (.sel (.leaf C.c_z207) (.leaf C.c_z208)) (.sel (.leaf C.c_z209) (.leaf C.c_z210))) (.sel (.sel (.leaf C.c_z211) (.leaf C.c_z212)) (.sel (.leaf C.c_z213) (.sel (.leaf C.c_z214) (.leaf C.c_z215))))) (.sel (.sel (.sel (.leaf C.c_z216) (.leaf C.c_z218)) (.sel (.leaf C.c_z219) (.sel (.leaf C.c_z220) (.leaf C.c_z221)))) (.sel (.sel (.leaf C.c_z222) (.leaf C.c_z225)) (.sel (.leaf C.c_z229) (.sel (.leaf C.c_z231) (.leaf C.c_z232)))))) (.sel (.sel (.sel (.sel (.leaf C.c_z233) (.leaf C.c_z234)) (.sel (.leaf C.c_z235) (.sel (.leaf C.c_z236) (.leaf C.c_z239)))) (.sel (.sel (.leaf C.c_z240) (.leaf C.c_z241)) (.sel (.leaf C.c_z242) (.sel (.leaf C.c_z243) (.leaf C.c_z244))))) (.sel (.sel (.sel (.leaf C.c_z245) (.leaf C.c_z246)) (.sel (.leaf C.c_z251) (.sel (.leaf C.c_z252) (.leaf C.c_z253)))) (.sel (.sel (.leaf C.c_z254) (.leaf C.c_z255)) (.sel (.leaf C.c_z256) (.sel (.leaf C.c_z257) (.leaf C.c_z258))))))))) (.sel (.sel (.sel (.sel (.leaf C.h_z52) (.leaf C.h_z96)) (.sel (.leaf C.h_z117) (.sel (.leaf C.h_z136) (.leaf C.h_z142)))) (.sel (.sel (.leaf C.h_z147) (.leaf C.h_z148)) (.sel (.leaf C.h_z156) (.sel (.leaf C.h_z157) (.leaf C.h_z175))))) (.sel (.sel (.sel (.leaf C.h_z176) (.leaf C.h_z178)) (.sel (.leaf C.h_z198) (.sel (.leaf C.h_z217) (.leaf C.h_z221)))) (.sel (.sel (.leaf C.h_z223) (.leaf C.h_z224)) (.sel (.leaf C.h_z237) (.sel (.leaf C.h_z238) (.leaf C.h_z244)))))) C.c_mathbits_TrailingZeros64
def v0:VV:=.ls [[.i .i64 (-1),.i .i64 (-1),.i .i64 3,.i .i64 0,.i .i64 0,.i .i64 0,.b false,.b false,.ls []],[.i .i64 (-1),.i .i64 (-1),.i .i64 3,.i .i64 1,.i .i64 0,.i .i64 0,.b false,.b false,.ls []],[.i .i64 0,.i .i64 (-1),.i .i64 1,.i .i64 0,.i .i64 0,.i .i64 0,.b false,.b false,.ls []],[.i .i64 0,.i .i64 2,.i .i64 3,.i .i64 0,.i .i64 0,.i .i64 1,.b false,.b false,.ls []],[.i .i64 0,.i .i64 3,.i .i64 2,.i .i64 1,.i .i64 0,.i .i64 0,.b false,.b true,.ls [[.i .i64 0]]],[.i .i64 0,.i .i64 3,.i .i64 2,.i .i64 1,.i .i64 0,.i .i64 1,.b false,.b true,.ls [[.i .i64 1]]],[.i .i64 1,.i .i64 (-1),.i .i64 1,.i .i64 0,.i .i64 0,.i .i64 0,.b false,.b false,.ls []],[.i .i64 1,.i .i64 6,.i .i64 3,.i .i64 1,.i .i64 0,.i .i64 1,.b false,.b false,.ls []],[.i .i64 1,.i .i64 7,.i .i64 2,.i .i64 0,.i .i64 0,.i .i64 0,.b false,.b true,.ls [[.i .i64 0]]],[.i .i64 1,.i .i64 7,.i .i64 2,.i .i64 0,.i .i64 0,.i .i64 1,.b false,.b true,.ls [[.i .i64 1]]]]
def v1:VV:=.ag [.i .i64 2,.ls [[.s ⟨⟨[120]⟩⟩],[.s ⟨⟨[121]⟩⟩]],.ls [[.ls [[.s ⟨⟨[97]⟩⟩]]],[.ls [[.s ⟨⟨[98]⟩⟩]]]],v0]
def a80:GK:=⟨VT,[v1],.i .u64 71⟩
theorem t80 (C:Aq V):VA V a80:=Bl (Bj C) C.c_z179.1 C.c_z179.2 (O:=[]) .nil (by kernel_rfl)
def v2:VV:=.ls [[.i .i64 0],[.i .i64 1],[.i .i64 2],[.i .i64 3],[.i .i64 4],[.i .i64 6]]
def v3:VV:=.ls [[.i .i64 (-1)],[.i .i64 (-1)],[.i .i64 (-1)],[.i .i64 (-1)],[.i .i64 1],[.i .i64 (-1)]]
def v4:VV:=.ls [[.ls [[.ls [[.i .i64 0]]],[.ls [[.i .i64 3]]]]],[.ls [[.ls [[.i .i64 1]]]]]]
def v5:VV:=.ag [v2,v3,v4]
def AmW:GK:=⟨A1r,[v1,v5],.b true⟩
theorem AsD (C:Aq V):VA V AmW:=Bl (Bj C) C.c_z56.1 C.c_z56.2 (O:=[a80]) (.cons (t80 C) .nil) (by kernel_rfl)
def v6:VV:=.ls [[.i .i64 0],[.i .i64 1],[.i .i64 2],[.i .i64 3],[.i .i64 4],[.i .i64 6],[.i .i64 7],[.i .i64 9]]
def v7:VV:=.ls [[.i .i64 (-1)],[.i .i64 (-1)],[.i .i64 (-1)],[.i .i64 (-1)],[.i .i64 1],[.i .i64 (-1)],[.i .i64 (-1)],[.i .i64 3]]
def v8:VV:=.ls [[.ls [[.ls [[.i .i64 0]]],[.ls [[.i .i64 3]]]]],[.ls [[.ls [[.i .i64 1]]],[.ls [[.i .i64 7]]]]]]
def v9:VV:=.ag [v6,v7,v8]
def v10:VV:=.tu [v9,.b true,.ls [[.i .i64 1],[.i .i64 1]]]
def Arf:GK:=⟨XT,[v1,.ls [],.i .i64 70],v10⟩
theorem Axt (C:Aq V):VA V Arf:=Bl (Bj C) C.c_z80.1 C.c_z80.2 (O:=[a80,a80,AmW,AmW,a80,a80]) (.cons (t80 C) (.cons (t80 C) (.cons (AsD C) (.cons (AsD C) (.cons (t80 C) (.cons (t80 C) .nil)))))) (by kernel_rfl)
def Ku:GK:=⟨Lh,[v1],.b true⟩
theorem LA (C:Aq V):VA V Ku:=Bl (Bj C) C.c_z106.1 C.c_z106.2 (O:=[]) .nil (by kernel_rfl)
def v11:VV:=.ls [[.i .i64 0],[.i .i64 0],[.i .i64 0],[.i .i64 1],[.i .i64 2],[.i .i64 2],[.i .i64 0],[.i .i64 1],[.i .i64 2],[.i .i64 2]]
def v12:VV:=.ls [[.i .u64 0],[.i .u64 0],[.i .u64 0],[.i .u64 4],[.i .u64 12],[.i .u64 12],[.i .u64 0],[.i .u64 64],[.i .u64 192],[.i .u64 192]]
def v13:VV:=.ag [.i .i64 2,.ls [[.s ⟨⟨[120]⟩⟩],[.s ⟨⟨[121]⟩⟩]],.ls [[.ls [[.s ⟨⟨[97]⟩⟩]]],[.ls [[.s ⟨⟨[98]⟩⟩]]]],v0,v11,v12]
def v14:VV:=.tu [v13,.b true]
def a231:GK:=⟨A5U,[v1],v14⟩
theorem t231 (C:Aq V):VA V a231:=Bl (Bj C) C.c_z90.1 C.c_z90.2 (O:=[Ku]) (.cons (LA C) .nil) (by kernel_rfl)
def v15:VV:=.ls [[.i .u64 0],[.i .u64 0],[.i .u64 0],[.i .u64 0],[.i .u64 32],[.i .u64 16],[.i .u64 0],[.i .u64 0],[.i .u64 512],[.i .u64 256]]
def Aeh:GK:=⟨R6,[v1],v15⟩
theorem Aim (C:Aq V):VA V Aeh:=Bl (Bj C) C.c_z38.1 C.c_z38.2 (O:=[a231]) (.cons (t231 C) .nil) (by kernel_rfl)
def a390:GK:=⟨A1p,[v1],.i .u64 71⟩
theorem t390 (C:Aq V):VA V a390:=Bl (Bj C) C.c_z41.1 C.c_z41.2 (O:=[a231]) (.cons (t231 C) .nil) (by kernel_rfl)
def AmZ:GK:=⟨Pf,[v1,v9],.b true⟩
theorem AsH (C:Aq V):VA V AmZ:=Bl (Bj C) C.c_z48.1 C.c_z48.2 (O:=[Ku,Aeh,a390]) (.cons (LA C) (.cons (Aim C) (.cons (t390 C) .nil))) (by kernel_rfl)
def v16:VV:=.ls [[.i .u64 1020],[.i .u64 1020],[.i .u64 56],[.i .u64 48],[.i .u64 0],[.i .u64 0],[.i .u64 896],[.i .u64 768],[.i .u64 0],[.i .u64 0]]
def Agl:GK:=⟨Lj,[v1],v16⟩
theorem AlV (C:Aq V):VA V Agl:=Bl (Bj C) C.c_z134.1 C.c_z134.2 (O:=[a231]) (.cons (t231 C) .nil) (by kernel_rfl)
def a641:GK:=⟨A5H,[v16],.b true⟩
theorem t641 (C:Aq V):VA V a641:=Bl (Bj C) C.c_z72.1 C.c_z72.2 (O:=[]) .nil (by kernel_rfl)
def v17:VV:=.ls [[.i .u64 732],[.i .u64 732],[.i .u64 24],[.i .u64 16],[.i .u64 0],[.i .u64 0],[.i .u64 640],[.i .u64 512],[.i .u64 0],[.i .u64 0]]
def a694:GK:=⟨A5H,[v17],.b true⟩
theorem t694 (C:Aq V):VA V a694:=Bl (Bj C) C.c_z72.1 C.c_z72.2 (O:=[]) .nil (by kernel_rfl)
def v18:VV:=.ls [[.i .u64 0],[.i .u64 0],[.i .u64 0],[.i .u64 0],[.i .u64 0],[.i .u64 0],[.i .u64 0],[.i .u64 0],[.i .u64 0],[.i .u64 0]]
def a697:GK:=⟨A5H,[v18],.b true⟩
theorem t697 (C:Aq V):VA V a697:=Bl (Bj C) C.c_z72.1 C.c_z72.2 (O:=[]) .nil (by kernel_rfl)
def a716:GK:=⟨Gj,[v17,.i .u64 732,.f Ek [] []],.i .u64 732⟩
theorem t716 (C:Aq V):VA V a716:=Bl (Bj C) C.c_z205.1 C.c_z205.2 (O:=[a694]) (.cons (t694 C) .nil) (by kernel_rfl)
def a732:GK:=⟨Gj,[v17,.i .u64 0,.f Ek [] []],.i .u64 0⟩
theorem t732 (C:Aq V):VA V a732:=Bl (Bj C) C.c_z205.1 C.c_z205.2 (O:=[a694]) (.cons (t694 C) .nil) (by kernel_rfl)
def v19:VV:=.ls [[.i .u64 732],[.i .u64 732],[.i .u64 24],[.i .u64 528],[.i .u64 0],[.i .u64 0],[.i .u64 640],[.i .u64 512],[.i .u64 0],[.i .u64 0]]
def a758:GK:=⟨A5H,[v19],.b true⟩
theorem t758 (C:Aq V):VA V a758:=Bl (Bj C) C.c_z72.1 C.c_z72.2 (O:=[]) .nil (by kernel_rfl)
def v20:VV:=.ls [[.i .u64 0],[.i .u64 0],[.i .u64 3],[.i .u64 7],[.i .u64 15],[.i .u64 0],[.i .u64 3],[.i .u64 67],[.i .u64 0],[.i .u64 203]]
def a778:GK:=⟨A5H,[v20],.b true⟩
theorem t778 (C:Aq V):VA V a778:=Bl (Bj C) C.c_z72.1 C.c_z72.2 (O:=[]) .nil (by kernel_rfl)
def a782:GK:=⟨Gj,[v20,.i .u64 0,.f Ek [] []],.i .u64 0⟩
theorem t782 (C:Aq V):VA V a782:=Bl (Bj C) C.c_z205.1 C.c_z205.2 (O:=[a778]) (.cons (t778 C) .nil) (by kernel_rfl)
def a789:GK:=⟨Gj,[v20,.i .u64 3,.f Ek [] []],.i .u64 3⟩
theorem t789 (C:Aq V):VA V a789:=Bl (Bj C) C.c_z205.1 C.c_z205.2 (O:=[a778]) (.cons (t778 C) .nil) (by kernel_rfl)
def v21:VV:=.ls [[.i .u64 1],[.i .u64 2],[.i .u64 7],[.i .u64 15],[.i .u64 31],[.i .u64 32],[.i .u64 67],[.i .u64 195],[.i .u64 256],[.i .u64 707]]
def v22:VV:=.ls [[.i .u64 1],[.i .u64 2],[.i .u64 7],[.i .u64 15],[.i .u64 31],[.i .u64 32],[.i .u64 67],[.i .u64 195],[.i .u64 256],[.i .u64 719]]
def v23:VV:=.fp [.i .i64 2,.ls [[.s ⟨⟨[120]⟩⟩],[.s ⟨⟨[121]⟩⟩]],.ls [[.ls [[.s ⟨⟨[97]⟩⟩]]],[.ls [[.s ⟨⟨[98]⟩⟩]]]],v0,v6,v7,v8,.i .u64 735,v15,v16,v21,v22] 0
def v24:VV:=.tu [v23,.b true]
def Arh:GK:=⟨LN,[v1,v9],v24⟩
theorem Axv (C:Aq V):VA V Arh:=Bl (Bj C) C.c_z66.1 C.c_z66.2 (O:=[AmZ,Aeh,Agl,Ku,Agl,a641,a694,a697,a694,a716,a716,a694,a694,a732,a732,a694,a694,a732,a732,a694,a694,a641,a758,a758,a778,a782,a782,a789,a778,a778,a782,a789,a778,a782,a778,a778]) (.cons (AsH C) (.cons (Aim C) (.cons (AlV C) (.cons (LA C) (.cons (AlV C) (.cons (t641 C) (.cons (t694 C) (.cons (t697 C) (.cons (t694 C) (.cons (t716 C) (.cons (t716 C) (.cons (t694 C) (.cons (t694 C) (.cons (t732 C) (.cons (t732 C) (.cons (t694 C) (.cons (t694 C) (.cons (t732 C) (.cons (t732 C) (.cons (t694 C) (.cons (t694 C) (.cons (t641 C) (.cons (t758 C) (.cons (t758 C) (.cons (t778 C) (.cons (t782 C) (.cons (t782 C) (.cons (t789 C) (.cons (t778 C) (.cons (t778 C) (.cons (t782 C) (.cons (t789 C) (.cons (t778 C) (.cons (t782 C) (.cons (t778 C) (.cons (t778 C) .nil)))))))))))))))))))))))))))))))))))) (by kernel_rfl)
def a922:GK:=⟨Vk,[v1,.i .i64 0],.ls [[.i .i64 4],[.i .i64 5]]⟩
theorem t922 (C:Aq V):VA V a922:=Bl (Bj C) C.c_z145.1 C.c_z145.2 (O:=[a231]) (.cons (t231 C) .nil) (by kernel_rfl)
def a925:GK:=⟨Vl,[v1,.i .i64 4],.i .u64 31⟩
theorem t925 (C:Aq V):VA V a925:=Bl (Bj C) C.c_z146.1 C.c_z146.2 (O:=[a231]) (.cons (t231 C) .nil) (by kernel_rfl)
def a929:GK:=⟨Vl,[v1,.i .i64 5],.i .u64 47⟩
theorem t929 (C:Aq V):VA V a929:=Bl (Bj C) C.c_z146.1 C.c_z146.2 (O:=[a231]) (.cons (t231 C) .nil) (by kernel_rfl)
def v25:VV:=.ls [[v6]]
def An5:GK:=⟨R5,[v1,v9],v25⟩
theorem AsN (C:Aq V):VA V An5:=Bl (Bj C) C.c_z34.1 C.c_z34.2 (O:=[AmZ,Arh,a922,a925,a929,a231,a231,a231]) (.cons (AsH C) (.cons (Axv C) (.cons (t922 C) (.cons (t925 C) (.cons (t929 C) (.cons (t231 C) (.cons (t231 C) (.cons (t231 C) .nil)))))))) (by kernel_rfl)
def v26:VV:=.ls [[.ls [[.ls [[.i .i64 0]]]]],[.ls [[.ls [[.i .i64 1]]]]]]
def v27:VV:=.ag [.ls [[.i .i64 0],[.i .i64 1],[.i .i64 2],[.i .i64 6]],.ls [[.i .i64 (-1)],[.i .i64 (-1)],[.i .i64 (-1)],[.i .i64 (-1)]],v26]
def An6:GK:=⟨Pf,[v1,v27],.b true⟩
theorem AsO (C:Aq V):VA V An6:=Bl (Bj C) C.c_z48.1 C.c_z48.2 (O:=[Ku,Aeh,a390]) (.cons (LA C) (.cons (Aim C) (.cons (t390 C) .nil))) (by kernel_rfl)
def v28:VV:=.ls [[.i .u64 68],[.i .u64 68],[.i .u64 0],[.i .u64 0],[.i .u64 0],[.i .u64 0],[.i .u64 0],[.i .u64 0],[.i .u64 0],[.i .u64 0]]
def a1014:GK:=⟨A5H,[v28],.b true⟩
theorem t1014 (C:Aq V):VA V a1014:=Bl (Bj C) C.c_z72.1 C.c_z72.2 (O:=[]) .nil (by kernel_rfl)
def a1033:GK:=⟨Gj,[v28,.i .u64 68,.f Ek [] []],.i .u64 68⟩
theorem t1033 (C:Aq V):VA V a1033:=Bl (Bj C) C.c_z205.1 C.c_z205.2 (O:=[a1014]) (.cons (t1014 C) .nil) (by kernel_rfl)
def NT:GK:=⟨Gj,[v28,.i .u64 0,.f Ek [] []],.i .u64 0⟩
theorem Rv (C:Aq V):VA V NT:=Bl (Bj C) C.c_z205.1 C.c_z205.2 (O:=[a1014]) (.cons (t1014 C) .nil) (by kernel_rfl)
def v29:VV:=.ls [[.i .i64 0,.i .i64 2],[.i .i64 0,.i .i64 6],[.i .i64 1,.i .i64 2],[.i .i64 1,.i .i64 6]]
def a1040:GK:=⟨A5I,[v28],v29⟩
theorem t1040 (C:Aq V):VA V a1040:=Bl (Bj C) C.c_z75.1 C.c_z75.2 (O:=[a1014]) (.cons (t1014 C) .nil) (by kernel_rfl)
def v30:VV:=.ls [[.i .u64 0],[.i .u64 0],[.i .u64 3],[.i .u64 0],[.i .u64 0],[.i .u64 0],[.i .u64 3],[.i .u64 0],[.i .u64 0],[.i .u64 0]]
def a1044:GK:=⟨A5H,[v30],.b true⟩
theorem t1044 (C:Aq V):VA V a1044:=Bl (Bj C) C.c_z72.1 C.c_z72.2 (O:=[]) .nil (by kernel_rfl)
def a1048:GK:=⟨Gj,[v30,.i .u64 0,.f Ek [] []],.i .u64 0⟩
theorem t1048 (C:Aq V):VA V a1048:=Bl (Bj C) C.c_z205.1 C.c_z205.2 (O:=[a1044]) (.cons (t1044 C) .nil) (by kernel_rfl)
def a1052:GK:=⟨Gj,[v30,.i .u64 3,.f Ek [] []],.i .u64 3⟩
theorem t1052 (C:Aq V):VA V a1052:=Bl (Bj C) C.c_z205.1 C.c_z205.2 (O:=[a1044]) (.cons (t1044 C) .nil) (by kernel_rfl)
def Arc:GK:=⟨JU,[],.b true⟩
theorem t1089 (C:Aq V):VA V Arc:=Bl (Bj C) C.c_z32.1 C.c_z32.2 (O:=[Arf,An5,An5,An6,An6,Aeh,Agl,Ku,Agl,a641,a1014,a697,a1014,a1033,a1033,NT,NT,NT,NT,NT,NT,NT,NT,a1014,a1040,a641,a1014,a1040,a1044,a1048,a1048,a1052,a1048,a1048,a1048,a1052,a1048,a1048,a1048,a922,a925,a929,Ku,Aeh,a390]) (.cons (Axt C) (.cons (AsN C) (.cons (AsN C) (.cons (AsO C) (.cons (AsO C) (.cons (Aim C) (.cons (AlV C) (.cons (LA C) (.cons (AlV C) (.cons (t641 C) (.cons (t1014 C) (.cons (t697 C) (.cons (t1014 C) (.cons (t1033 C) (.cons (t1033 C) (.cons (Rv C) (.cons (Rv C) (.cons (Rv C) (.cons (Rv C) (.cons (Rv C) (.cons (Rv C) (.cons (Rv C) (.cons (Rv C) (.cons (t1014 C) (.cons (t1040 C) (.cons (t641 C) (.cons (t1014 C) (.cons (t1040 C) (.cons (t1044 C) (.cons (t1048 C) (.cons (t1048 C) (.cons (t1052 C) (.cons (t1048 C) (.cons (t1048 C) (.cons (t1048 C) (.cons (t1052 C) (.cons (t1048 C) (.cons (t1048 C) (.cons (t1048 C) (.cons (t922 C) (.cons (t925 C) (.cons (t929 C) (.cons (LA C) (.cons (Aim C) (.cons (t390 C) .nil))))))))))))))))))))))))))))))))))))))))))))) (by kernel_rfl)
end
end Go.AM.Cee
