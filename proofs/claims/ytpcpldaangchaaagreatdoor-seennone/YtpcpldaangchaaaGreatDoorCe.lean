/-
  Own work, part of the proof of SeenNone: certificates: what calls answer, each carried out by the kernel.
-/
import Derived.Test.YtpcpldaangchaaaGreatDoorAmF
import Derived.Test.YtpcpldaangchaaaGreatDoorCoB
import Derived.KernelRfl
set_option linter.unusedVariables false
set_option linter.unusedSimpArgs false
set_option linter.unusedSectionVars false
set_option linter.unnecessarySimpa false
set_option maxRecDepth 1000000
set_option maxHeartbeats 4000000
namespace Go.AM.Cb19
def eP : XEnv := (sel 157 (sel 88 (sel 64 (sel 30 (sel 25 (sel 22 (sel 10 (leaf n_z0 ⟨f_z0, m_z0⟩) (leaf n_z1 ⟨f_z1, m_z1⟩)) (sel 24 (leaf n_z2 ⟨f_z2, m_z2⟩) (leaf n_z3 ⟨f_z3, m_z3⟩))) (sel 27 (sel 26 (leaf n_z4 ⟨f_z4, m_z4⟩) (leaf n_z5 ⟨f_z5, m_z5⟩)) (sel 28 (leaf n_z6 ⟨f_z6, m_z6⟩) (sel 29 (leaf n_z7 ⟨f_z7, m_z7⟩) (leaf n_z8 ⟨f_z8, m_z8⟩))))) (sel 36 (sel 33 (sel 32 (leaf n_z9 ⟨f_z9, m_z9⟩) (leaf n_z10 ⟨f_z10, m_z10⟩)) (sel 34 (leaf n_z11 ⟨f_z11, m_z11⟩) (leaf n_z12 ⟨f_z12, m_z12⟩))) (sel 43 (sel 40 (leaf n_z13 ⟨f_z13, m_z13⟩) (leaf n_z14 ⟨f_z14, m_z14⟩)) (sel 49 (leaf n_z15 ⟨f_z15, m_z15⟩) (sel 58 (leaf n_z17 ⟨f_z17, m_z17⟩) (leaf n_z18 ⟨f_z18, m_z18⟩)))))) (sel 73 (sel 68 (sel 66 (sel 65 (leaf n_z19 ⟨f_z19, m_z19⟩) (leaf n_z20 ⟨f_z20, m_z20⟩)) (sel 67 (leaf n_z21 ⟨f_z21, m_z21⟩) (leaf n_z22 ⟨f_z22, m_z22⟩))) (sel 70 (sel 69 (leaf n_z23 ⟨f_z23, m_z23⟩) (leaf n_z24 ⟨f_z24, m_z24⟩)) (sel 71 (leaf n_z25 ⟨f_z25, m_z25⟩) (sel 72 (leaf n_z26 ⟨f_z26, m_z26⟩) (leaf n_z27 ⟨f_z27, m_z27⟩))))) (sel 83 (sel 75 (sel 74 (leaf n_z28 ⟨f_z28, m_z28⟩) (leaf n_z29 ⟨f_z29, m_z29⟩)) (sel 76 (leaf n_z30 ⟨f_z30, m_z30⟩) (sel 77 (leaf n_z31 ⟨f_z31, m_z31⟩) (leaf n_z32 ⟨f_z32, m_z32⟩)))) (sel 85 (sel 84 (leaf n_z33 ⟨f_z33, m_z33⟩) (leaf n_z34 ⟨f_z34, m_z34⟩)) (sel 86 (leaf n_z35 ⟨f_z35, m_z35⟩) (sel 87 (leaf n_z36 ⟨f_z36, m_z36⟩) (leaf n_z37 ⟨f_z37, m_z37⟩))))))) (sel 130 (sel 112 (sel 92 (sel 90 (sel 89 (leaf n_z38 ⟨f_z38, m_z38⟩) (leaf n_z39 ⟨f_z39, m_z39⟩)) (sel 91 (leaf n_z40 ⟨f_z40, m_z40⟩) (leaf n_z41 ⟨f_z41, m_z41⟩))) (sel 97 (sel 93 (leaf n_z42 ⟨f_z42, m_z42⟩) (leaf n_z43 ⟨f_z43, m_z43⟩)) (sel 106 (leaf n_z44 ⟨f_z44, m_z44⟩) (sel 111 (leaf n_z47 ⟨f_z47, m_z47⟩) (leaf n_z48 ⟨f_z48, m_z48⟩))))) (sel 117 (sel 114 (sel 113 (leaf n_z49 ⟨f_z49, m_z49⟩) (leaf n_z50 ⟨f_z50, m_z50⟩)) (sel 115 (leaf n_z51 ⟨f_z51, m_z51⟩) (sel 116 (leaf n_z52 ⟨f_z52, m_z52⟩) (leaf n_z53 ⟨f_z53, m_z53⟩)))) (sel 125 (sel 118 (leaf n_z54 ⟨f_z54, m_z54⟩) (leaf n_z55 ⟨f_z55, m_z55⟩)) (sel 127 (leaf n_z56 ⟨f_z56, m_z56⟩) (sel 129 (leaf n_z57 ⟨f_z57, m_z57⟩) (leaf n_z58 ⟨f_z58, m_z58⟩)))))) (sel 140 (sel 134 (sel 132 (sel 131 (leaf n_z59 ⟨f_z59, m_z59⟩) (leaf n_z60 ⟨f_z60, m_z60⟩)) (sel 133 (leaf n_z61 ⟨f_z61, m_z61⟩) (leaf n_z62 ⟨f_z62, m_z62⟩))) (sel 136 (sel 135 (leaf n_z63 ⟨f_z63, m_z63⟩) (leaf n_z64 ⟨f_z64, m_z64⟩)) (sel 137 (leaf n_z65 ⟨f_z65, m_z65⟩) (sel 138 (leaf n_z66 ⟨f_z66, m_z66⟩) (leaf n_z67 ⟨f_z67, m_z67⟩))))) (sel 148 (sel 142 (sel 141 (leaf n_z69 ⟨f_z69, m_z69⟩) (leaf n_z70 ⟨f_z70, m_z70⟩)) (sel 143 (leaf n_z71 ⟨f_z71, m_z71⟩) (sel 144 (leaf n_z72 ⟨f_z72, m_z72⟩) (leaf n_z73 ⟨f_z73, m_z73⟩)))) (sel 152 (sel 150 (leaf n_z74 ⟨f_z74, m_z74⟩) (leaf n_z75 ⟨f_z75, m_z75⟩)) (sel 155 (leaf n_z76 ⟨f_z76, m_z76⟩) (sel 156 (leaf n_z79 ⟨f_z79, m_z79⟩) (leaf n_z80 ⟨f_z80, m_z80⟩)))))))) (sel 212 (sel 186 (sel 171 (sel 163 (sel 160 (sel 159 (leaf n_z81 ⟨f_z81, m_z81⟩) (leaf n_z82 ⟨f_z82, m_z82⟩)) (sel 162 (leaf n_z83 ⟨f_z83, m_z83⟩) (leaf n_z85 ⟨f_z85, m_z85⟩))) (sel 166 (sel 165 (leaf n_z86 ⟨f_z86, m_z86⟩) (leaf n_z87 ⟨f_z87, m_z87⟩)) (sel 169 (leaf n_z88 ⟨f_z88, m_z88⟩) (sel 170 (leaf n_z89 ⟨f_z89, m_z89⟩) (leaf n_z90 ⟨f_z90, m_z90⟩))))) (sel 176 (sel 173 (sel 172 (leaf n_z91 ⟨f_z91, m_z91⟩) (leaf n_z92 ⟨f_z92, m_z92⟩)) (sel 174 (leaf n_z93 ⟨f_z93, m_z93⟩) (sel 175 (leaf n_z94 ⟨f_z94, m_z94⟩) (leaf n_z95 ⟨f_z95, m_z95⟩)))) (sel 178 (sel 177 (leaf n_z96 ⟨f_z96, m_z96⟩) (leaf n_z97 ⟨f_z97, m_z97⟩)) (sel 179 (leaf n_z98 ⟨f_z98, m_z98⟩) (sel 180 (leaf n_z99 ⟨f_z99, m_z99⟩) (leaf n_z100 ⟨f_z100, m_z100⟩)))))) (sel 196 (sel 190 (sel 188 (sel 187 (leaf n_z101 ⟨f_z101, m_z101⟩) (leaf n_z102 ⟨f_z102, m_z102⟩)) (sel 189 (leaf n_z103 ⟨f_z103, m_z103⟩) (leaf n_z104 ⟨f_z104, m_z104⟩))) (sel 192 (sel 191 (leaf n_z105 ⟨f_z105, m_z105⟩) (leaf n_z106 ⟨f_z106, m_z106⟩)) (sel 193 (leaf n_z107 ⟨f_z107, m_z107⟩) (sel 194 (leaf n_z108 ⟨f_z108, m_z108⟩) (leaf n_z109 ⟨f_z109, m_z109⟩))))) (sel 206 (sel 198 (sel 197 (leaf n_z111 ⟨f_z111, m_z111⟩) (leaf n_z112 ⟨f_z112, m_z112⟩)) (sel 199 (leaf n_z113 ⟨f_z113, m_z113⟩) (sel 204 (leaf n_z114 ⟨f_z114, m_z114⟩) (leaf n_z115 ⟨f_z115, m_z115⟩)))) (sel 209 (sel 207 (leaf n_z116 ⟨f_z116, m_z116⟩) (leaf n_z117 ⟨f_z117, m_z117⟩)) (sel 210 (leaf n_z119 ⟨f_z119, m_z119⟩) (sel 211 (leaf n_z120 ⟨f_z120, m_z120⟩) (leaf n_z121 ⟨f_z121, m_z121⟩))))))) (sel 246 (sel 226 (sel 217 (sel 215 (sel 214 (leaf n_z122 ⟨f_z122, m_z122⟩) (leaf n_z124 ⟨f_z124, m_z124⟩)) (sel 216 (leaf n_z125 ⟨f_z125, m_z125⟩) (leaf n_z126 ⟨f_z126, m_z126⟩))) (sel 221 (sel 218 (leaf n_z127 ⟨f_z127, m_z127⟩) (leaf n_z128 ⟨f_z128, m_z128⟩)) (sel 222 (leaf n_z131 ⟨f_z131, m_z131⟩) (sel 224 (leaf n_z132 ⟨f_z132, m_z132⟩) (leaf n_z134 ⟨f_z134, m_z134⟩))))) (sel 232 (sel 229 (sel 227 (leaf n_z135 ⟨f_z135, m_z135⟩) (leaf n_z136 ⟨f_z136, m_z136⟩)) (sel 230 (leaf n_z137 ⟨f_z137, m_z137⟩) (sel 231 (leaf n_z138 ⟨f_z138, m_z138⟩) (leaf n_z139 ⟨f_z139, m_z139⟩)))) (sel 235 (sel 234 (leaf n_z140 ⟨f_z140, m_z140⟩) (leaf n_z142 ⟨f_z142, m_z142⟩)) (sel 244 (leaf n_z143 ⟨f_z143, m_z143⟩) (sel 245 (leaf n_z144 ⟨f_z144, m_z144⟩) (leaf n_z145 ⟨f_z145, m_z145⟩)))))) (sel 258 (sel 252 (sel 250 (sel 247 (leaf n_z146 ⟨f_z146, m_z146⟩) (leaf n_z147 ⟨f_z147, m_z147⟩)) (sel 251 (leaf n_z150 ⟨f_z150, m_z150⟩) (leaf n_z151 ⟨f_z151, m_z151⟩))) (sel 254 (sel 253 (leaf n_z152 ⟨f_z152, m_z152⟩) (leaf n_z153 ⟨f_z153, m_z153⟩)) (sel 255 (leaf n_z154 ⟨f_z154, m_z154⟩) (sel 256 (leaf n_z155 ⟨f_z155, m_z155⟩) (leaf n_z156 ⟨f_z156, m_z156⟩))))) (sel 276 (sel 273 (sel 259 (leaf n_z158 ⟨f_z158, m_z158⟩) (leaf n_z159 ⟨f_z159, m_z159⟩)) (sel 274 (leaf n_z160 ⟨f_z160, m_z160⟩) (sel 275 (leaf n_z161 ⟨f_z161, m_z161⟩) (leaf n_z162 ⟨f_z162, m_z162⟩)))) (sel 278 (sel 277 (leaf n_z163 ⟨f_z163, m_z163⟩) (leaf n_z164 ⟨f_z164, m_z164⟩)) (sel 279 (leaf n_z165 ⟨f_z165, m_z165⟩) (sel 280 (leaf n_z166 ⟨f_z166, m_z166⟩) (leaf n_z167 ⟨f_z167, m_z167⟩)))))))))
def eH : XEnv := (sel 208 (sel 154 (sel 99 (sel 44 (leaf n_z15 ⟨f_z15, mH_z15⟩) (sel 98 (leaf n_z16 ⟨f_z16, mH_z16⟩) (leaf n_z45 ⟨f_z45, mH_z45⟩))) (sel 139 (leaf n_z46 ⟨f_z46, mH_z46⟩) (sel 153 (leaf n_z68 ⟨f_z68, mH_z68⟩) (leaf n_z77 ⟨f_z77, mH_z77⟩)))) (sel 163 (sel 161 (leaf n_z78 ⟨f_z78, mH_z78⟩) (sel 162 (leaf n_z84 ⟨f_z84, mH_z84⟩) (leaf n_z85 ⟨f_z85, mH_z85⟩))) (sel 194 (leaf n_z86 ⟨f_z86, mH_z86⟩) (sel 195 (leaf n_z109 ⟨f_z109, mH_z109⟩) (leaf n_z110 ⟨f_z110, mH_z110⟩))))) (sel 224 (sel 219 (sel 213 (leaf n_z118 ⟨f_z118, mH_z118⟩) (sel 217 (leaf n_z123 ⟨f_z123, mH_z123⟩) (leaf n_z127 ⟨f_z127, mH_z127⟩))) (sel 220 (leaf n_z129 ⟨f_z129, mH_z129⟩) (sel 223 (leaf n_z130 ⟨f_z130, mH_z130⟩) (leaf n_z133 ⟨f_z133, mH_z133⟩)))) (sel 253 (sel 248 (leaf n_z134 ⟨f_z134, mH_z134⟩) (sel 249 (leaf n_z148 ⟨f_z148, mH_z148⟩) (leaf n_z149 ⟨f_z149, mH_z149⟩))) (sel 257 (leaf n_z153 ⟨f_z153, mH_z153⟩) (sel 258 (leaf n_z157 ⟨f_z157, mH_z157⟩) (leaf n_z158 ⟨f_z158, mH_z158⟩))))))
section
variable {V : VProg}
theorem envOk (C : VCode V) : EnvOk V (n_mathbits_TrailingZeros64, vctz) eP eH := .of (.sel (.sel (.sel (.sel (.sel (.sel (.sel (.leaf C.c_z0) (.leaf C.c_z1)) (.sel (.leaf C.c_z2) (.leaf C.c_z3))) (.sel (.sel (.leaf C.c_z4) (.leaf C.c_z5)) (.sel (.leaf C.c_z6) (.sel (.leaf C.c_z7) (.leaf C.c_z8))))) (.sel (.sel (.sel (.leaf C.c_z9) (.leaf C.c_z10)) (.sel (.leaf C.c_z11) (.leaf C.c_z12))) (.sel (.sel (.leaf C.c_z13) (.leaf C.c_z14)) (.sel (.leaf C.c_z15) (.sel (.leaf C.c_z17) (.leaf C.c_z18)))))) (.sel (.sel (.sel (.sel (.leaf C.c_z19) (.leaf C.c_z20)) (.sel (.leaf C.c_z21) (.leaf C.c_z22))) (.sel (.sel (.leaf C.c_z23) (.leaf C.c_z24)) (.sel (.leaf C.c_z25) (.sel (.leaf C.c_z26) (.leaf C.c_z27))))) (.sel (.sel (.sel (.leaf C.c_z28) (.leaf C.c_z29)) (.sel (.leaf C.c_z30) (.sel (.leaf C.c_z31) (.leaf C.c_z32)))) (.sel (.sel (.leaf C.c_z33) (.leaf C.c_z34)) (.sel (.leaf C.c_z35) (.sel (.leaf C.c_z36) (.leaf C.c_z37))))))) (.sel (.sel (.sel (.sel (.sel (.leaf C.c_z38) (.leaf C.c_z39)) (.sel (.leaf C.c_z40) (.leaf C.c_z41))) (.sel (.sel (.leaf C.c_z42) (.leaf C.c_z43)) (.sel (.leaf C.c_z44) (.sel (.leaf C.c_z47) (.leaf C.c_z48))))) (.sel (.sel (.sel (.leaf C.c_z49) (.leaf C.c_z50)) (.sel (.leaf C.c_z51) (.sel (.leaf C.c_z52) (.leaf C.c_z53)))) (.sel (.sel (.leaf C.c_z54) (.leaf C.c_z55)) (.sel (.leaf C.c_z56) (.sel (.leaf C.c_z57) (.leaf C.c_z58)))))) (.sel (.sel (.sel (.sel (.leaf C.c_z59) (.leaf C.c_z60)) (.sel (.leaf C.c_z61) (.leaf C.c_z62))) (.sel (.sel (.leaf C.c_z63) (.leaf C.c_z64)) (.sel (.leaf C.c_z65) (.sel (.leaf C.c_z66) (.leaf C.c_z67))))) (.sel (.sel (.sel (.leaf C.c_z69) (.leaf C.c_z70)) (.sel (.leaf C.c_z71) (.sel (.leaf C.c_z72) (.leaf C.c_z73)))) (.sel (.sel (.leaf C.c_z74) (.leaf C.c_z75)) (.sel (.leaf C.c_z76) (.sel (.leaf C.c_z79) (.leaf C.c_z80)))))))) (.sel (.sel (.sel (.sel (.sel (.sel (.leaf C.c_z81) (.leaf C.c_z82)) (.sel (.leaf C.c_z83) (.leaf C.c_z85))) (.sel (.sel (.leaf C.c_z86) (.leaf C.c_z87)) (.sel (.leaf C.c_z88) (.sel (.leaf C.c_z89) (.leaf C.c_z90))))) (.sel (.sel (.sel (.leaf C.c_z91) (.leaf C.c_z92)) (.sel (.leaf C.c_z93) (.sel (.leaf C.c_z94) (.leaf C.c_z95)))) (.sel (.sel (.leaf C.c_z96) (.leaf C.c_z97)) (.sel (.leaf C.c_z98) (.sel (.leaf C.c_z99) (.leaf C.c_z100)))))) (.sel (.sel (.sel (.sel (.leaf C.c_z101) (.leaf C.c_z102)) (.sel (.leaf C.c_z103) (.leaf C.c_z104))) (.sel (.sel (.leaf C.c_z105) (.leaf C.c_z106)) (.sel (.leaf C.c_z107) (.sel (.leaf C.c_z108) (.leaf C.c_z109))))) (.sel (.sel (.sel (.leaf C.c_z111) (.leaf C.c_z112)) (.sel (.leaf C.c_z113) (.sel (.leaf C.c_z114) (.leaf C.c_z115)))) (.sel (.sel (.leaf C.c_z116) (.leaf C.c_z117)) (.sel (.leaf C.c_z119) (.sel (.leaf C.c_z120) (.leaf C.c_z121))))))) (.sel (.sel (.sel (.sel (.sel (.leaf C.c_z122) (.leaf C.c_z124)) (.sel (.leaf C.c_z125) (.leaf C.c_z126))) (.sel (.sel (.leaf C.c_z127) (.leaf C.c_z128)) (.sel (.leaf C.c_z131) (.sel (.leaf C.c_z132) (.leaf C.c_z134))))) (.sel (.sel (.sel (.leaf C.c_z135) (.leaf C.c_z136)) (.sel (.leaf C.c_z137) (.sel (.leaf C.c_z138) (.leaf C.c_z139)))) (.sel (.sel (.leaf C.c_z140) (.leaf C.c_z142)) (.sel (.leaf C.c_z143) (.sel (.leaf C.c_z144) (.leaf C.c_z145)))))) (.sel (.sel (.sel (.sel (.leaf C.c_z146) (.leaf C.c_z147)) (.sel (.leaf C.c_z150) (.leaf C.c_z151))) (.sel (.sel (.leaf C.c_z152) (.leaf C.c_z153)) (.sel (.leaf C.c_z154) (.sel (.leaf C.c_z155) (.leaf C.c_z156))))) (.sel (.sel (.sel (.leaf C.c_z158) (.leaf C.c_z159)) (.sel (.leaf C.c_z160) (.sel (.leaf C.c_z161) (.leaf C.c_z162)))) (.sel (.sel (.leaf C.c_z163) (.leaf C.c_z164)) (.sel (.leaf C.c_z165) (.sel (.leaf C.c_z166) (.leaf C.c_z167))))))))) (.sel (.sel (.sel (.sel (.leaf C.h_z15) (.sel (.leaf C.h_z16) (.leaf C.h_z45))) (.sel (.leaf C.h_z46) (.sel (.leaf C.h_z68) (.leaf C.h_z77)))) (.sel (.sel (.leaf C.h_z78) (.sel (.leaf C.h_z84) (.leaf C.h_z85))) (.sel (.leaf C.h_z86) (.sel (.leaf C.h_z109) (.leaf C.h_z110))))) (.sel (.sel (.sel (.leaf C.h_z118) (.sel (.leaf C.h_z123) (.leaf C.h_z127))) (.sel (.leaf C.h_z129) (.sel (.leaf C.h_z130) (.leaf C.h_z133)))) (.sel (.sel (.leaf C.h_z134) (.sel (.leaf C.h_z148) (.leaf C.h_z149))) (.sel (.leaf C.h_z153) (.sel (.leaf C.h_z157) (.leaf C.h_z158)))))) C.c_mathbits_TrailingZeros64
def v0 : VV := .ls [[.i .i64 2, .i .i64 0, .s ⟨⟨[97]⟩⟩, .s ⟨⟨[120]⟩⟩, .ls [], .ls [], .ls []], [.i .i64 3, .i .i64 0, .s ⟨⟨[]⟩⟩, .s ⟨⟨[121]⟩⟩, .ls [[.i .i64 1, .i .i64 1, .s ⟨⟨[]⟩⟩, .ls []]], .ls [], .ls []]]
def v1 : VV := .ls [[.i .i64 2, .i .i64 0, .s ⟨⟨[98]⟩⟩, .s ⟨⟨[121]⟩⟩, .ls [], .ls [], .ls []], [.i .i64 3, .i .i64 0, .s ⟨⟨[]⟩⟩, .s ⟨⟨[120]⟩⟩, .ls [[.i .i64 1, .i .i64 1, .s ⟨⟨[]⟩⟩, .ls []]], .ls [], .ls []]]
def v2 : VV := .ls [[v0], [v1]]
def v3 : VV := .ag [.s ⟨⟨[108, 98]⟩⟩, .i .i64 2, .ls [[.s ⟨⟨[120]⟩⟩, .i .i64 0], [.s ⟨⟨[121]⟩⟩, .i .i64 0]], v2, .i .i64 1, .i .i64 2, .i .i64 0, .s ⟨⟨[97]⟩⟩, .i .i64 1, .ls []]
def v4 : VV := .ls [[.i .i64 (-1), .i .i64 (-1), .i .i64 3, .i .i64 0, .i .i64 0, .i .i64 0, .b false, .b false, .ls []], [.i .i64 (-1), .i .i64 (-1), .i .i64 3, .i .i64 1, .i .i64 0, .i .i64 0, .b false, .b false, .ls []], [.i .i64 0, .i .i64 (-1), .i .i64 1, .i .i64 0, .i .i64 0, .i .i64 0, .b false, .b false, .ls []], [.i .i64 0, .i .i64 2, .i .i64 2, .i .i64 0, .i .i64 0, .i .i64 0, .b false, .b false, .ls []], [.i .i64 0, .i .i64 3, .i .i64 3, .i .i64 1, .i .i64 0, .i .i64 1, .b false, .b true, .ls [[.i .i64 0]]], [.i .i64 0, .i .i64 2, .i .i64 2, .i .i64 0, .i .i64 0, .i .i64 1, .b false, .b false, .ls []], [.i .i64 0, .i .i64 5, .i .i64 3, .i .i64 1, .i .i64 0, .i .i64 1, .b false, .b true, .ls [[.i .i64 1]]], [.i .i64 1, .i .i64 (-1), .i .i64 1, .i .i64 0, .i .i64 0, .i .i64 0, .b false, .b false, .ls []], [.i .i64 1, .i .i64 7, .i .i64 2, .i .i64 1, .i .i64 0, .i .i64 0, .b false, .b false, .ls []], [.i .i64 1, .i .i64 8, .i .i64 3, .i .i64 0, .i .i64 0, .i .i64 1, .b false, .b true, .ls [[.i .i64 0]]], [.i .i64 1, .i .i64 7, .i .i64 2, .i .i64 1, .i .i64 0, .i .i64 1, .b false, .b false, .ls []], [.i .i64 1, .i .i64 10, .i .i64 3, .i .i64 0, .i .i64 0, .i .i64 1, .b false, .b true, .ls [[.i .i64 1]]]]
def v5 : VV := .ag [.i .i64 2, .ls [[.s ⟨⟨[120]⟩⟩], [.s ⟨⟨[121]⟩⟩]], .ls [[.ls [[.s ⟨⟨[97]⟩⟩]]], [.ls [[.s ⟨⟨[98]⟩⟩]]]], v4]
def v6 : VV := .tu [v5, .i .i64 0]
def a63 : Ans := ⟨n_z44, [v3], v6⟩
-- 63 witheref12_Build 5925
theorem t63 (C : VCode V) : VA V a63 := VA_of (envOk C) C.c_z44.1 C.c_z44.2 (O := []) .nil (by kernel_rfl)
def a116 : Ans := ⟨n_z33, [v5], .b true⟩
-- 116 lts_May 2800
theorem t116 (C : VCode V) : VA V a116 := VA_of (envOk C) C.c_z33.1 C.c_z33.2 (O := []) .nil (by kernel_rfl)
def v7 : VV := .ls [[.i .i64 0], [.i .i64 1], [.i .i64 2], [.i .i64 3], [.i .i64 4], [.i .i64 5], [.i .i64 7], [.i .i64 10], [.i .i64 11]]
def a126 : Ans := ⟨n_z38, [v7], .i .u64 3263⟩
-- 126 bits_Of 197
theorem t126 (C : VCode V) : VA V a126 := VA_of (envOk C) C.c_z38.1 C.c_z38.2 (O := []) .nil (by kernel_rfl)
def v8 : VV := .ls [[.i .i64 0], [.i .i64 0], [.i .i64 0], [.i .i64 1], [.i .i64 2], [.i .i64 1], [.i .i64 2], [.i .i64 0], [.i .i64 1], [.i .i64 2], [.i .i64 1], [.i .i64 2]]
def v9 : VV := .ls [[.i .u64 0], [.i .u64 0], [.i .u64 0], [.i .u64 4], [.i .u64 12], [.i .u64 4], [.i .u64 36], [.i .u64 0], [.i .u64 128], [.i .u64 384], [.i .u64 128], [.i .u64 1152]]
def v10 : VV := .ag [.i .i64 2, .ls [[.s ⟨⟨[120]⟩⟩], [.s ⟨⟨[121]⟩⟩]], .ls [[.ls [[.s ⟨⟨[97]⟩⟩]]], [.ls [[.s ⟨⟨[98]⟩⟩]]]], v4, v8, v9]
def v11 : VV := .tu [v10, .b true]
def a134 : Ans := ⟨n_z104, [v5], v11⟩
-- 134 tree_of 526
theorem t134 (C : VCode V) : VA V a134 := VA_of (envOk C) C.c_z104.1 C.c_z104.2 (O := [a116]) (.cons (t116 C) .nil) (by kernel_rfl)
def v12 : VV := .f n_z106 [v10] []
def v13 : VV := .ls [[.i .u64 0], [.i .u64 0], [.i .u64 0], [.i .u64 96], [.i .u64 96], [.i .u64 24], [.i .u64 24], [.i .u64 0], [.i .u64 3072], [.i .u64 3072], [.i .u64 768], [.i .u64 768]]
def a343 : Ans := ⟨n_z105, [v10, v12], v13⟩
-- 343 tree_deep_rows 9296
theorem t343 (C : VCode V) : VA V a343 := VA_of (envOk C) C.c_z105.1 C.c_z105.2 (O := []) .nil (by kernel_rfl)
def a367 : Ans := ⟨n_z72, [v5], .i .u64 135⟩
-- 367 tree_Inits 356
theorem t367 (C : VCode V) : VA V a367 := VA_of (envOk C) C.c_z72.1 C.c_z72.2 (O := [a134]) (.cons (t134 C) .nil) (by kernel_rfl)
def v14 : VV := .f n_z107 [v10] []
def v15 : VV := .ls [[.i .u64 4092], [.i .u64 4092], [.i .u64 120], [.i .u64 16], [.i .u64 0], [.i .u64 64], [.i .u64 0], [.i .u64 3840], [.i .u64 512], [.i .u64 0], [.i .u64 2048], [.i .u64 0]]
def a673 : Ans := ⟨n_z105, [v10, v14], v15⟩
-- 673 tree_deep_rows 8226
theorem t673 (C : VCode V) : VA V a673 := VA_of (envOk C) C.c_z105.1 C.c_z105.2 (O := []) .nil (by kernel_rfl)
def a687 : Ans := ⟨n_z101, [.i .i64 0, .i .i64 12], .i .u64 4095⟩
-- 687 bits_Range 275
theorem t687 (C : VCode V) : VA V a687 := VA_of (envOk C) C.c_z101.1 C.c_z101.2 (O := []) .nil (by kernel_rfl)
def a706 : Ans := ⟨n_z58, [v15], .b true⟩
-- 706 rel_May 322
theorem t706 (C : VCode V) : VA V a706 := VA_of (envOk C) C.c_z58.1 C.c_z58.2 (O := [a687]) (.cons (t687 C) .nil) (by kernel_rfl)
def a732 : Ans := ⟨n_z70, [.i .u64 3263], v7⟩
-- 732 bits_List 222
theorem t732 (C : VCode V) : VA V a732 := VA_of (envOk C) C.c_z70.1 C.c_z70.2 (O := []) .nil (by kernel_rfl)
def v16 : VV := .ls [[.i .u64 3260], [.i .u64 3260], [.i .u64 56], [.i .u64 16], [.i .u64 0], [.i .u64 0], [.i .u64 0], [.i .u64 3072], [.i .u64 0], [.i .u64 0], [.i .u64 2048], [.i .u64 0]]
def a766 : Ans := ⟨n_z58, [v16], .b true⟩
-- 766 rel_May 322
theorem t766 (C : VCode V) : VA V a766 := VA_of (envOk C) C.c_z58.1 C.c_z58.2 (O := [a687]) (.cons (t687 C) .nil) (by kernel_rfl)
def v17 : VV := .ls [[.i .u64 0], [.i .u64 0], [.i .u64 0], [.i .u64 0], [.i .u64 0], [.i .u64 0], [.i .u64 0], [.i .u64 0], [.i .u64 0], [.i .u64 0], [.i .u64 0], [.i .u64 0]]
def a769 : Ans := ⟨n_z58, [v17], .b true⟩
-- 769 rel_May 322
theorem t769 (C : VCode V) : VA V a769 := VA_of (envOk C) C.c_z58.1 C.c_z58.2 (O := [a687]) (.cons (t687 C) .nil) (by kernel_rfl)
def v18 : VV := .ls [[.i .i64 2], [.i .i64 3], [.i .i64 4], [.i .i64 5], [.i .i64 7], [.i .i64 10], [.i .i64 11]]
def a786 : Ans := ⟨n_z70, [.i .u64 3260], v18⟩
-- 786 bits_List 176
theorem t786 (C : VCode V) : VA V a786 := VA_of (envOk C) C.c_z70.1 C.c_z70.2 (O := []) .nil (by kernel_rfl)
def a790 : Ans := ⟨n_z90, [v16, .i .u64 3260, .f n_z91 [] []], .i .u64 3260⟩
-- 790 reach_graph_grown 190
theorem t790 (C : VCode V) : VA V a790 := VA_of (envOk C) C.c_z90.1 C.c_z90.2 (O := [a766, a687, a786]) (.cons (t766 C) (.cons (t687 C) (.cons (t786 C) .nil))) (by kernel_rfl)
def v19 : VV := .ls [[.i .i64 (-1)], [.i .i64 (-1)], [.i .i64 (-1)], [.i .i64 0], [.i .i64 (-1)], [.i .i64 11], [.i .i64 (-1)], [.i .i64 4], [.i .i64 (-1)]]
def a820 : Ans := ⟨n_z17, [v5, v7, v19], v16⟩
-- 820 sync_Hb 4711
theorem t820 (C : VCode V) : VA V a820 := VA_of (envOk C) C.c_z17.1 C.c_z17.2 (O := [a116, a126, a134, a673, a706, a732, a732, a732, a766, a769, a766, a790, a790, a766, a687, a766, a687, a766, a687, a766, a687, a766, a687, a766, a687, a766, a687, a766, a687, a766, a687, a766, a687]) (.cons (t116 C) (.cons (t126 C) (.cons (t134 C) (.cons (t673 C) (.cons (t706 C) (.cons (t732 C) (.cons (t732 C) (.cons (t732 C) (.cons (t766 C) (.cons (t769 C) (.cons (t766 C) (.cons (t790 C) (.cons (t790 C) (.cons (t766 C) (.cons (t687 C) (.cons (t766 C) (.cons (t687 C) (.cons (t766 C) (.cons (t687 C) (.cons (t766 C) (.cons (t687 C) (.cons (t766 C) (.cons (t687 C) (.cons (t766 C) (.cons (t687 C) (.cons (t766 C) (.cons (t687 C) (.cons (t766 C) (.cons (t687 C) (.cons (t766 C) (.cons (t687 C) (.cons (t766 C) (.cons (t687 C) .nil))))))))))))))))))))))))))))))))) (by kernel_rfl)
def v20 : VV := .ls [[.i .u64 3260], [.i .u64 3260], [.i .u64 56], [.i .u64 16], [.i .u64 1024], [.i .u64 0], [.i .u64 0], [.i .u64 3072], [.i .u64 0], [.i .u64 0], [.i .u64 2048], [.i .u64 32]]
def a836 : Ans := ⟨n_z58, [v20], .b true⟩
-- 836 rel_May 322
theorem t836 (C : VCode V) : VA V a836 := VA_of (envOk C) C.c_z58.1 C.c_z58.2 (O := [a687]) (.cons (t687 C) .nil) (by kernel_rfl)
def v21 : VV := .ls [[.i .u64 0], [.i .u64 0], [.i .u64 3], [.i .u64 7], [.i .u64 15], [.i .u64 2055], [.i .u64 0], [.i .u64 3], [.i .u64 0], [.i .u64 0], [.i .u64 147], [.i .u64 1155]]
def a859 : Ans := ⟨n_z58, [v21], .b true⟩
-- 859 rel_May 322
theorem t859 (C : VCode V) : VA V a859 := VA_of (envOk C) C.c_z58.1 C.c_z58.2 (O := [a687]) (.cons (t687 C) .nil) (by kernel_rfl)
def a870 : Ans := ⟨n_z90, [v21, .i .u64 3, .f n_z91 [] []], .i .u64 3⟩
-- 870 reach_graph_grown 166
theorem t870 (C : VCode V) : VA V a870 := VA_of (envOk C) C.c_z90.1 C.c_z90.2 (O := [a859, a687]) (.cons (t859 C) (.cons (t687 C) .nil)) (by kernel_rfl)
def v22 : VV := .ls [[.i .i64 0], [.i .i64 1], [.i .i64 2], [.i .i64 7], [.i .i64 10], [.i .i64 11]]
def a898 : Ans := ⟨n_z70, [.i .u64 3207], v22⟩
-- 898 bits_List 153
theorem t898 (C : VCode V) : VA V a898 := VA_of (envOk C) C.c_z70.1 C.c_z70.2 (O := []) .nil (by kernel_rfl)
def v23 : VV := .ls [[.i .i64 0], [.i .i64 1], [.i .i64 2], [.i .i64 4], [.i .i64 7], [.i .i64 10], [.i .i64 11]]
def a906 : Ans := ⟨n_z70, [.i .u64 3223], v23⟩
-- 906 bits_List 176
theorem t906 (C : VCode V) : VA V a906 := VA_of (envOk C) C.c_z70.1 C.c_z70.2 (O := []) .nil (by kernel_rfl)
def v24 : VV := .ls [[.i .i64 0], [.i .i64 1], [.i .i64 2], [.i .i64 3], [.i .i64 4], [.i .i64 7], [.i .i64 10], [.i .i64 11]]
def a914 : Ans := ⟨n_z70, [.i .u64 3231], v24⟩
-- 914 bits_List 199
theorem t914 (C : VCode V) : VA V a914 := VA_of (envOk C) C.c_z70.1 C.c_z70.2 (O := []) .nil (by kernel_rfl)
def v25 : VV := .ls [[.i .i64 0], [.i .i64 1], [.i .i64 2], [.i .i64 3], [.i .i64 4], [.i .i64 7]]
def a931 : Ans := ⟨n_z70, [.i .u64 159], v25⟩
-- 931 bits_List 153
theorem t931 (C : VCode V) : VA V a931 := VA_of (envOk C) C.c_z70.1 C.c_z70.2 (O := []) .nil (by kernel_rfl)
def v26 : VV := .ls [[.i .i64 0], [.i .i64 1], [.i .i64 2], [.i .i64 3], [.i .i64 4], [.i .i64 7], [.i .i64 10]]
def a954 : Ans := ⟨n_z70, [.i .u64 1183], v26⟩
-- 954 bits_List 176
theorem t954 (C : VCode V) : VA V a954 := VA_of (envOk C) C.c_z70.1 C.c_z70.2 (O := []) .nil (by kernel_rfl)
def v27 : VV := .ls [[.ls [[.ls [[.i .i64 0]]], [.ls [[.i .i64 11]]]]], [.ls [[.ls [[.i .i64 1]]], [.ls [[.i .i64 4]]]]]]
def v28 : VV := .ag [v7, v19, v27]
def v29 : VV := .ls [[.i .u64 1], [.i .u64 2], [.i .u64 7], [.i .u64 15], [.i .u64 31], [.i .u64 39], [.i .u64 64], [.i .u64 131], [.i .u64 256], [.i .u64 512], [.i .u64 1155], [.i .u64 3203]]
def v30 : VV := .ls [[.i .u64 1], [.i .u64 2], [.i .u64 7], [.i .u64 15], [.i .u64 31], [.i .u64 3263], [.i .u64 64], [.i .u64 131], [.i .u64 256], [.i .u64 512], [.i .u64 1183], [.i .u64 3231]]
def v31 : VV := .fp [.i .i64 2, .ls [[.s ⟨⟨[120]⟩⟩], [.s ⟨⟨[121]⟩⟩]], .ls [[.ls [[.s ⟨⟨[97]⟩⟩]]], [.ls [[.s ⟨⟨[98]⟩⟩]]]], v4, v7, v19, v27, .i .u64 3263, v13, v15, v29, v30] 0
def v32 : VV := .tu [v31, .b true]
def a963 : Ans := ⟨n_z25, [v5, v28], v32⟩
-- 963 seen_Of 11151
theorem t963 (C : VCode V) : VA V a963 := VA_of (envOk C) C.c_z25.1 C.c_z25.2 (O := [a116, a126, a134, a343, a367, a126, a134, a343, a134, a673, a820, a766, a766, a786, a786, a706, a836, a836, a786, a786, a859, a859, a687, a859, a687, a870, a859, a687, a859, a687, a859, a687, a859, a687, a898, a859, a687, a906, a859, a687, a914, a859, a687, a870, a859, a687, a859, a687, a859, a687, a859, a687, a931, a859, a687, a859, a687, a859, a687, a954]) (.cons (t116 C) (.cons (t126 C) (.cons (t134 C) (.cons (t343 C) (.cons (t367 C) (.cons (t126 C) (.cons (t134 C) (.cons (t343 C) (.cons (t134 C) (.cons (t673 C) (.cons (t820 C) (.cons (t766 C) (.cons (t766 C) (.cons (t786 C) (.cons (t786 C) (.cons (t706 C) (.cons (t836 C) (.cons (t836 C) (.cons (t786 C) (.cons (t786 C) (.cons (t859 C) (.cons (t859 C) (.cons (t687 C) (.cons (t859 C) (.cons (t687 C) (.cons (t870 C) (.cons (t859 C) (.cons (t687 C) (.cons (t859 C) (.cons (t687 C) (.cons (t859 C) (.cons (t687 C) (.cons (t859 C) (.cons (t687 C) (.cons (t898 C) (.cons (t859 C) (.cons (t687 C) (.cons (t906 C) (.cons (t859 C) (.cons (t687 C) (.cons (t914 C) (.cons (t859 C) (.cons (t687 C) (.cons (t870 C) (.cons (t859 C) (.cons (t687 C) (.cons (t859 C) (.cons (t687 C) (.cons (t859 C) (.cons (t687 C) (.cons (t859 C) (.cons (t687 C) (.cons (t931 C) (.cons (t859 C) (.cons (t687 C) (.cons (t859 C) (.cons (t687 C) (.cons (t859 C) (.cons (t687 C) (.cons (t954 C) .nil)))))))))))))))))))))))))))))))))))))))))))))))))))))))))))) (by kernel_rfl)
def a972 : Ans := ⟨n_z58, [v13], .b true⟩
-- 972 rel_May 322
theorem t972 (C : VCode V) : VA V a972 := VA_of (envOk C) C.c_z58.1 C.c_z58.2 (O := [a687]) (.cons (t687 C) .nil) (by kernel_rfl)
def a1037 : Ans := ⟨n_z108, [v13, .i .u64 7], .i .u64 0⟩
-- 1037 rel_Into 184
theorem t1037 (C : VCode V) : VA V a1037 := VA_of (envOk C) C.c_z108.1 C.c_z108.2 (O := [a972, a687]) (.cons (t972 C) (.cons (t687 C) .nil)) (by kernel_rfl)
def a1067 : Ans := ⟨n_z108, [v13, .i .u64 15], .i .u64 96⟩
-- 1067 rel_Into 220
theorem t1067 (C : VCode V) : VA V a1067 := VA_of (envOk C) C.c_z108.1 C.c_z108.2 (O := [a972, a687]) (.cons (t972 C) (.cons (t687 C) .nil)) (by kernel_rfl)
def a1102 : Ans := ⟨n_z108, [v13, .i .u64 31], .i .u64 96⟩
-- 1102 rel_Into 256
theorem t1102 (C : VCode V) : VA V a1102 := VA_of (envOk C) C.c_z108.1 C.c_z108.2 (O := [a972, a687]) (.cons (t972 C) (.cons (t687 C) .nil)) (by kernel_rfl)
def a1136 : Ans := ⟨n_z108, [v13, .i .u64 39], .i .u64 24⟩
-- 1136 rel_Into 220
theorem t1136 (C : VCode V) : VA V a1136 := VA_of (envOk C) C.c_z108.1 C.c_z108.2 (O := [a972, a687]) (.cons (t972 C) (.cons (t687 C) .nil)) (by kernel_rfl)
def a1169 : Ans := ⟨n_z108, [v13, .i .u64 131], .i .u64 0⟩
-- 1169 rel_Into 184
theorem t1169 (C : VCode V) : VA V a1169 := VA_of (envOk C) C.c_z108.1 C.c_z108.2 (O := [a972, a687]) (.cons (t972 C) (.cons (t687 C) .nil)) (by kernel_rfl)
def a1199 : Ans := ⟨n_z108, [v13, .i .u64 1155], .i .u64 768⟩
-- 1199 rel_Into 220
theorem t1199 (C : VCode V) : VA V a1199 := VA_of (envOk C) C.c_z108.1 C.c_z108.2 (O := [a972, a687]) (.cons (t972 C) (.cons (t687 C) .nil)) (by kernel_rfl)
def a1232 : Ans := ⟨n_z108, [v13, .i .u64 3203], .i .u64 768⟩
-- 1232 rel_Into 256
theorem t1232 (C : VCode V) : VA V a1232 := VA_of (envOk C) C.c_z108.1 C.c_z108.2 (O := [a972, a687]) (.cons (t972 C) (.cons (t687 C) .nil)) (by kernel_rfl)
def v33 : VV := .ls [[.i .u64 0], [.i .u64 0], [.i .u64 0], [.i .u64 32], [.i .u64 32], [.i .u64 24], [.i .u64 0], [.i .u64 0], [.i .u64 0], [.i .u64 0], [.i .u64 0], [.i .u64 0]]
def a1261 : Ans := ⟨n_z6, [v5, v28], v33⟩
-- 1261 seen_Ecf 7210
theorem t1261 (C : VCode V) : VA V a1261 := VA_of (envOk C) C.c_z6.1 C.c_z6.2 (O := [a963, a972, a687, a972, a687, a972, a687, a972, a687, a972, a687, a972, a687, a972, a687, a972, a687, a972, a687, a972, a687, a972, a687, a972, a687, a972, a687, a972, a687, a972, a687, a972, a687, a972, a687, a972, a687, a1037, a1037, a1037, a1037, a1037, a1037, a1037, a1037, a1037, a1067, a1067, a1067, a1067, a1067, a1067, a1067, a1067, a1067, a1102, a1102, a1102, a1102, a1102, a1102, a1102, a1102, a1102, a1136, a1136, a1136, a1136, a1136, a1136, a1136, a1136, a1136, a1169, a1169, a1169, a1169, a1169, a1169, a1169, a1169, a1169, a1199, a1199, a1199, a1199, a1199, a1199, a1199, a1199, a1199, a1232, a1232, a1232, a1232, a1232, a1232, a1232, a1232, a1232]) (.cons (t963 C) (.cons (t972 C) (.cons (t687 C) (.cons (t972 C) (.cons (t687 C) (.cons (t972 C) (.cons (t687 C) (.cons (t972 C) (.cons (t687 C) (.cons (t972 C) (.cons (t687 C) (.cons (t972 C) (.cons (t687 C) (.cons (t972 C) (.cons (t687 C) (.cons (t972 C) (.cons (t687 C) (.cons (t972 C) (.cons (t687 C) (.cons (t972 C) (.cons (t687 C) (.cons (t972 C) (.cons (t687 C) (.cons (t972 C) (.cons (t687 C) (.cons (t972 C) (.cons (t687 C) (.cons (t972 C) (.cons (t687 C) (.cons (t972 C) (.cons (t687 C) (.cons (t972 C) (.cons (t687 C) (.cons (t972 C) (.cons (t687 C) (.cons (t972 C) (.cons (t687 C) (.cons (t1037 C) (.cons (t1037 C) (.cons (t1037 C) (.cons (t1037 C) (.cons (t1037 C) (.cons (t1037 C) (.cons (t1037 C) (.cons (t1037 C) (.cons (t1037 C) (.cons (t1067 C) (.cons (t1067 C) (.cons (t1067 C) (.cons (t1067 C) (.cons (t1067 C) (.cons (t1067 C) (.cons (t1067 C) (.cons (t1067 C) (.cons (t1067 C) (.cons (t1102 C) (.cons (t1102 C) (.cons (t1102 C) (.cons (t1102 C) (.cons (t1102 C) (.cons (t1102 C) (.cons (t1102 C) (.cons (t1102 C) (.cons (t1102 C) (.cons (t1136 C) (.cons (t1136 C) (.cons (t1136 C) (.cons (t1136 C) (.cons (t1136 C) (.cons (t1136 C) (.cons (t1136 C) (.cons (t1136 C) (.cons (t1136 C) (.cons (t1169 C) (.cons (t1169 C) (.cons (t1169 C) (.cons (t1169 C) (.cons (t1169 C) (.cons (t1169 C) (.cons (t1169 C) (.cons (t1169 C) (.cons (t1169 C) (.cons (t1199 C) (.cons (t1199 C) (.cons (t1199 C) (.cons (t1199 C) (.cons (t1199 C) (.cons (t1199 C) (.cons (t1199 C) (.cons (t1199 C) (.cons (t1199 C) (.cons (t1232 C) (.cons (t1232 C) (.cons (t1232 C) (.cons (t1232 C) (.cons (t1232 C) (.cons (t1232 C) (.cons (t1232 C) (.cons (t1232 C) (.cons (t1232 C) .nil)))))))))))))))))))))))))))))))))))))))))))))))))))))))))))))))))))))))))))))))))))))))))))))))))))) (by kernel_rfl)
def a1299 : Ans := ⟨n_z32, [v31, .i .i64 5], .b false⟩
-- 1299 seen_View_Visible 1160
theorem t1299 (C : VCode V) : VA V a1299 := VA_of (envOk C) C.c_z32.1 C.c_z32.2 (O := [a732]) (.cons (t732 C) .nil) (by kernel_rfl)
def a1313 : Ans := ⟨n_z32, [v31, .i .i64 11], .b true⟩
-- 1313 seen_View_Visible 937
theorem t1313 (C : VCode V) : VA V a1313 := VA_of (envOk C) C.c_z32.1 C.c_z32.2 (O := [a914]) (.cons (t914 C) .nil) (by kernel_rfl)
def v34 : VV := .ls [[.i .i64 0], [.i .i64 1], [.i .i64 2], [.i .i64 3], [.i .i64 4], [.i .i64 5], [.i .i64 6], [.i .i64 7], [.i .i64 10], [.i .i64 11]]
def a1316 : Ans := ⟨n_z38, [v34], .i .u64 3327⟩
-- 1316 bits_Of 218
theorem t1316 (C : VCode V) : VA V a1316 := VA_of (envOk C) C.c_z38.1 C.c_z38.2 (O := []) .nil (by kernel_rfl)
def a1396 : Ans := ⟨n_z70, [.i .u64 3327], v34⟩
-- 1396 bits_List 245
theorem t1396 (C : VCode V) : VA V a1396 := VA_of (envOk C) C.c_z70.1 C.c_z70.2 (O := []) .nil (by kernel_rfl)
def v35 : VV := .ls [[.i .u64 3324], [.i .u64 3324], [.i .u64 120], [.i .u64 16], [.i .u64 0], [.i .u64 64], [.i .u64 0], [.i .u64 3072], [.i .u64 0], [.i .u64 0], [.i .u64 2048], [.i .u64 0]]
def a1422 : Ans := ⟨n_z58, [v35], .b true⟩
-- 1422 rel_May 322
theorem t1422 (C : VCode V) : VA V a1422 := VA_of (envOk C) C.c_z58.1 C.c_z58.2 (O := [a687]) (.cons (t687 C) .nil) (by kernel_rfl)
def v36 : VV := .ls [[.i .i64 2], [.i .i64 3], [.i .i64 4], [.i .i64 5], [.i .i64 6], [.i .i64 7], [.i .i64 10], [.i .i64 11]]
def a1439 : Ans := ⟨n_z70, [.i .u64 3324], v36⟩
-- 1439 bits_List 199
theorem t1439 (C : VCode V) : VA V a1439 := VA_of (envOk C) C.c_z70.1 C.c_z70.2 (O := []) .nil (by kernel_rfl)
def a1443 : Ans := ⟨n_z90, [v35, .i .u64 3324, .f n_z91 [] []], .i .u64 3324⟩
-- 1443 reach_graph_grown 203
theorem t1443 (C : VCode V) : VA V a1443 := VA_of (envOk C) C.c_z90.1 C.c_z90.2 (O := [a1422, a687, a1439]) (.cons (t1422 C) (.cons (t687 C) (.cons (t1439 C) .nil))) (by kernel_rfl)
def v37 : VV := .ls [[.i .i64 (-1)], [.i .i64 (-1)], [.i .i64 (-1)], [.i .i64 0], [.i .i64 (-1)], [.i .i64 11], [.i .i64 (-1)], [.i .i64 (-1)], [.i .i64 4], [.i .i64 (-1)]]
def a1475 : Ans := ⟨n_z17, [v5, v34, v37], v35⟩
-- 1475 sync_Hb 4935
theorem t1475 (C : VCode V) : VA V a1475 := VA_of (envOk C) C.c_z17.1 C.c_z17.2 (O := [a116, a1316, a134, a673, a706, a1396, a1396, a1396, a1422, a769, a1422, a1443, a1443, a1422, a687, a1422, a687, a1422, a687, a1422, a687, a1422, a687, a1422, a687, a1422, a687, a1422, a687, a1422, a687, a1422, a687]) (.cons (t116 C) (.cons (t1316 C) (.cons (t134 C) (.cons (t673 C) (.cons (t706 C) (.cons (t1396 C) (.cons (t1396 C) (.cons (t1396 C) (.cons (t1422 C) (.cons (t769 C) (.cons (t1422 C) (.cons (t1443 C) (.cons (t1443 C) (.cons (t1422 C) (.cons (t687 C) (.cons (t1422 C) (.cons (t687 C) (.cons (t1422 C) (.cons (t687 C) (.cons (t1422 C) (.cons (t687 C) (.cons (t1422 C) (.cons (t687 C) (.cons (t1422 C) (.cons (t687 C) (.cons (t1422 C) (.cons (t687 C) (.cons (t1422 C) (.cons (t687 C) (.cons (t1422 C) (.cons (t687 C) (.cons (t1422 C) (.cons (t687 C) .nil))))))))))))))))))))))))))))))))) (by kernel_rfl)
def v38 : VV := .ls [[.i .u64 3324], [.i .u64 3324], [.i .u64 120], [.i .u64 16], [.i .u64 1024], [.i .u64 64], [.i .u64 0], [.i .u64 3072], [.i .u64 0], [.i .u64 0], [.i .u64 2048], [.i .u64 32]]
def a1481 : Ans := ⟨n_z58, [v38], .b true⟩
-- 1481 rel_May 322
theorem t1481 (C : VCode V) : VA V a1481 := VA_of (envOk C) C.c_z58.1 C.c_z58.2 (O := [a687]) (.cons (t687 C) .nil) (by kernel_rfl)
def v39 : VV := .ls [[.i .u64 0], [.i .u64 0], [.i .u64 3], [.i .u64 7], [.i .u64 15], [.i .u64 2055], [.i .u64 39], [.i .u64 3], [.i .u64 0], [.i .u64 0], [.i .u64 147], [.i .u64 1155]]
def a1488 : Ans := ⟨n_z58, [v39], .b true⟩
-- 1488 rel_May 322
theorem t1488 (C : VCode V) : VA V a1488 := VA_of (envOk C) C.c_z58.1 C.c_z58.2 (O := [a687]) (.cons (t687 C) .nil) (by kernel_rfl)
def a1496 : Ans := ⟨n_z90, [v39, .i .u64 3, .f n_z91 [] []], .i .u64 3⟩
-- 1496 reach_graph_grown 166
theorem t1496 (C : VCode V) : VA V a1496 := VA_of (envOk C) C.c_z90.1 C.c_z90.2 (O := [a1488, a687]) (.cons (t1488 C) (.cons (t687 C) .nil)) (by kernel_rfl)
def v40 : VV := .ls [[.i .u64 1], [.i .u64 2], [.i .u64 7], [.i .u64 15], [.i .u64 31], [.i .u64 3263], [.i .u64 3327], [.i .u64 131], [.i .u64 256], [.i .u64 512], [.i .u64 1183], [.i .u64 3231]]
def a1565 : Ans := ⟨n_z67, [v39], v40⟩
-- 1565 reach_Star 4823
theorem t1565 (C : VCode V) : VA V a1565 := VA_of (envOk C) C.c_z67.1 C.c_z67.2 (O := [a1488, a1488, a687, a1488, a687, a1496, a1488, a687, a1488, a687, a1488, a687, a1488, a687, a898, a1488, a687, a906, a1488, a687, a914, a1488, a687, a1488, a687, a1488, a687, a1488, a687, a1488, a687, a732, a1496, a1488, a687, a1488, a687, a1488, a687, a1488, a687, a931, a1488, a687, a1488, a687, a1488, a687, a954]) (.cons (t1488 C) (.cons (t1488 C) (.cons (t687 C) (.cons (t1488 C) (.cons (t687 C) (.cons (t1496 C) (.cons (t1488 C) (.cons (t687 C) (.cons (t1488 C) (.cons (t687 C) (.cons (t1488 C) (.cons (t687 C) (.cons (t1488 C) (.cons (t687 C) (.cons (t898 C) (.cons (t1488 C) (.cons (t687 C) (.cons (t906 C) (.cons (t1488 C) (.cons (t687 C) (.cons (t914 C) (.cons (t1488 C) (.cons (t687 C) (.cons (t1488 C) (.cons (t687 C) (.cons (t1488 C) (.cons (t687 C) (.cons (t1488 C) (.cons (t687 C) (.cons (t1488 C) (.cons (t687 C) (.cons (t732 C) (.cons (t1496 C) (.cons (t1488 C) (.cons (t687 C) (.cons (t1488 C) (.cons (t687 C) (.cons (t1488 C) (.cons (t687 C) (.cons (t1488 C) (.cons (t687 C) (.cons (t931 C) (.cons (t1488 C) (.cons (t687 C) (.cons (t1488 C) (.cons (t687 C) (.cons (t1488 C) (.cons (t687 C) (.cons (t954 C) .nil))))))))))))))))))))))))))))))))))))))))))))))))) (by kernel_rfl)
def v41 : VV := .ls [[.ls [[.i .i64 1]]], [.ls [[.i .i64 4], [.i .i64 6]]]]
def v42 : VV := .ls [[.ls [[.ls [[.i .i64 0]]], [.ls [[.i .i64 11]]]]], [v41]]
def v43 : VV := .ag [v34, v37, v42]
def v44 : VV := .ls [[.i .u64 1], [.i .u64 2], [.i .u64 7], [.i .u64 15], [.i .u64 31], [.i .u64 39], [.i .u64 103], [.i .u64 131], [.i .u64 256], [.i .u64 512], [.i .u64 1155], [.i .u64 3203]]
def v45 : VV := .fp [.i .i64 2, .ls [[.s ⟨⟨[120]⟩⟩], [.s ⟨⟨[121]⟩⟩]], .ls [[.ls [[.s ⟨⟨[97]⟩⟩]]], [.ls [[.s ⟨⟨[98]⟩⟩]]]], v4, v34, v37, v42, .i .u64 3327, v13, v15, v44, v40] 0
def v46 : VV := .tu [v45, .b true]
def a1566 : Ans := ⟨n_z25, [v5, v43], v46⟩
-- 1566 seen_Of 8754
theorem t1566 (C : VCode V) : VA V a1566 := VA_of (envOk C) C.c_z25.1 C.c_z25.2 (O := [a116, a1316, a134, a343, a367, a1316, a134, a343, a134, a673, a1475, a1422, a1422, a1439, a1439, a706, a1481, a1481, a1439, a1439, a1565]) (.cons (t116 C) (.cons (t1316 C) (.cons (t134 C) (.cons (t343 C) (.cons (t367 C) (.cons (t1316 C) (.cons (t134 C) (.cons (t343 C) (.cons (t134 C) (.cons (t673 C) (.cons (t1475 C) (.cons (t1422 C) (.cons (t1422 C) (.cons (t1439 C) (.cons (t1439 C) (.cons (t706 C) (.cons (t1481 C) (.cons (t1481 C) (.cons (t1439 C) (.cons (t1439 C) (.cons (t1565 C) .nil))))))))))))))))))))) (by kernel_rfl)
def a1628 : Ans := ⟨n_z58, [v33], .b true⟩
-- 1628 rel_May 322
theorem t1628 (C : VCode V) : VA V a1628 := VA_of (envOk C) C.c_z58.1 C.c_z58.2 (O := [a687]) (.cons (t687 C) .nil) (by kernel_rfl)
def a1692 : Ans := ⟨n_z3, [], .b true⟩
-- 1692 withelaw19_begun 7486
theorem t1692 (C : VCode V) : VA V a1692 := VA_of (envOk C) C.c_z3.1 C.c_z3.2 (O := [a63, a1261, a963, a1299, a963, a1313, a1566, a732, a1566, a1396, a963, a1136, a1628, a1628, a963, a1299, a954, a1313]) (.cons (t63 C) (.cons (t1261 C) (.cons (t963 C) (.cons (t1299 C) (.cons (t963 C) (.cons (t1313 C) (.cons (t1566 C) (.cons (t732 C) (.cons (t1566 C) (.cons (t1396 C) (.cons (t963 C) (.cons (t1136 C) (.cons (t1628 C) (.cons (t1628 C) (.cons (t963 C) (.cons (t1299 C) (.cons (t954 C) (.cons (t1313 C) .nil)))))))))))))))))) (by kernel_rfl)
end
end Go.AM.Cb19
