/-
  Own work, part of the proof of CoheWalked: the code of the functions that the law reaches, as the machine has it; read off the program as the text is compiled.
-/
import Derived.Test.YtpcpldaangchaaaGreatDoorAmE
import Derived.Test.YtpcpldaangchaaaGreatDoorLay
set_option maxRecDepth 4000
set_option linter.unusedVariables false
set_option linter.unusedSimpArgs false
set_option linter.unusedSectionVars false
set_option linter.unnecessarySimpa false
set_option maxRecDepth 100000
namespace Go.AM
open Go Go.Proofs
abbrev A0a : Nat := 157
abbrev A1H : Nat := 58
abbrev A1G : Nat := 141
abbrev A0j : Nat := 88
abbrev A2f : Nat := 137
abbrev NW : Nat := 186
abbrev A0i : Nat := 155
abbrev JU : Nat := 194
abbrev A2i : Nat := 125
abbrev Mv : Nat := 195
abbrev A7V : Nat := 20
abbrev UR : Nat := 59
abbrev A1c : Nat := 57
abbrev A7k : Nat := 15
abbrev A95 : Nat := 13
abbrev VJ : Nat := 50
abbrev WZ : Nat := 48
abbrev A21 : Nat := 60
abbrev A07 : Nat := 124
abbrev A0n : Nat := 53
abbrev A16 : Nat := 54
abbrev A1L : Nat := 55
abbrev UO : Nat := 83
abbrev SY : Nat := 248
abbrev UE : Nat := 208
abbrev QD : Nat := 247
abbrev Uw : Nat := 245
abbrev A0f : Nat := 153
abbrev Uc : Nat := 274
abbrev SM : Nat := 249
abbrev A15 : Nat := 154
abbrev TC : Nat := 207
abbrev A0S : Nat := 152
abbrev Qb : Nat := 199
abbrev Zv : Nat := 234
abbrev T9 : Nat := 235
abbrev SK : Nat := 209
abbrev AH : Nat := 233
abbrev A12 : Nat := 113
abbrev Qz : Nat := 171
abbrev Wn : Nat := 170
abbrev Uj : Nat := 193
abbrev A2v : Nat := 115
abbrev Vd : Nat := 129
abbrev PD : Nat := 188
abbrev A09 : Nat := 71
abbrev A1I : Nat := 114
abbrev VE : Nat := 111
abbrev Tq : Nat := 232
abbrev Xv : Nat := 175
abbrev Xw : Nat := 174
abbrev A08 : Nat := 172
abbrev SH : Nat := 226
abbrev WH : Nat := 173
abbrev A1q : Nat := 34
abbrev A1P : Nat := 32
abbrev A29 : Nat := 36
abbrev WO : Nat := 91
abbrev A2j : Nat := 156
abbrev A0J : Nat := 150
abbrev Xn : Nat := 86
abbrev Xy : Nat := 85
abbrev Wg : Nat := 87
abbrev A1X : Nat := 148
abbrev A1T : Nat := 84
abbrev UD : Nat := 246
abbrev SQ : Nat := 187
abbrev A0e : Nat := 92
abbrev Ss : Nat := 206
abbrev V4 : Nat := 93
abbrev TD : Nat := 273
abbrev A1k : Nat := 90
abbrev Uh : Nat := 229
abbrev A0p : Nat := 89
abbrev SL : Nat := 244
abbrev A0K : Nat := 144
abbrev Vz : Nat := 49
abbrev A1J : Nat := 112
abbrev SS : Nat := 178
abbrev Tz : Nat := 180
abbrev Pi : Nat := 118
abbrev NX : Nat := 117
abbrev Sc : Nat := 177
abbrev A0v : Nat := 169
abbrev A0W : Nat := 116
abbrev Uq : Nat := 176
abbrev PW : Nat := 179
abbrev A2r : Nat := 134
abbrev Xi : Nat := 143
abbrev SF : Nat := 204
abbrev A0F : Nat := 135
abbrev Qv : Nat := 227
abbrev Mk : Nat := 191
abbrev MC : Nat := 192
abbrev U3 : Nat := 230
abbrev UA : Nat := 231
abbrev Mz : Nat := 190
abbrev Uu : Nat := 197
abbrev Ql : Nat := 198
abbrev Pc : Nat := 189
abbrev A7H : Nat := 5
abbrev A3Z : Nat := 9
abbrev A6f : Nat := 41
abbrev Zy : Nat := 19
abbrev U4 : Nat := 222
abbrev Na : Nat := 43
abbrev L6 : Nat := 258
abbrev P2 : Nat := 98
abbrev A1a : Nat := 44
abbrev J3 : Nat := 224
abbrev SV : Nat := 257
abbrev PL : Nat := 163
abbrev A1u : Nat := 99
abbrev ME : Nat := 223
abbrev TQ : Nat := 256
abbrev A8N : Nat := 10
abbrev A2b : Nat := 40
abbrev A5k : Nat := 18
abbrev A2o : Nat := 56
abbrev A0Z : Nat := 123
abbrev Ud : Nat := 259
abbrev A0R : Nat := 133
abbrev A1Q : Nat := 165
abbrev VN : Nat := 97
abbrev A2e : Nat := 131
abbrev SE : Nat := 184
abbrev A28 : Nat := 130
abbrev A0T : Nat := 132
abbrev LB : Nat := 122
abbrev L0 : Nat := 217
abbrev Wm : Nat := 161
abbrev Sr : Nat := 219
abbrev PN : Nat := 162
abbrev UB : Nat := 220
abbrev Up : Nat := 185
abbrev A0N : Nat := 101
abbrev Qs : Nat := 47
abbrev A96 : Nat := 26
abbrev A0M : Nat := 102
abbrev A1n : Nat := 42
abbrev UT : Nat := 68
abbrev A1E : Nat := 104
abbrev A1W : Nat := 69
abbrev Lo : Nat := 164
abbrev A2d : Nat := 67
abbrev A26 : Nat := 127
abbrev A1r : Nat := 64
abbrev A0z : Nat := 166
abbrev A1Z : Nat := 106
abbrev A9e : Nat := 22
abbrev TJ : Nat := 221
abbrev Tu : Nat := 251
abbrev Ux : Nat := 211
abbrev UI : Nat := 252
abbrev SX : Nat := 250
abbrev Sh : Nat := 275
abbrev PG : Nat := 255
abbrev SG : Nat := 212
abbrev A13 : Nat := 159
abbrev Tt : Nat := 218
abbrev A1m : Nat := 160
abbrev Mf : Nat := 216
abbrev Sz : Nat := 279
abbrev UH : Nat := 215
abbrev U7 : Nat := 214
abbrev Sb : Nat := 277
abbrev UF : Nat := 278
abbrev TB : Nat := 210
abbrev Su : Nat := 276
abbrev TS : Nat := 254
abbrev T3 : Nat := 280
abbrev U5 : Nat := 213
abbrev KW : Nat := 253
abbrev A0Q : Nat := 143
abbrev Pn : Nat := 126
abbrev PB : Nat := 70
abbrev PQ : Nat := 44
abbrev CU : Nat := 124
abbrev Cb : Nat := 25
abbrev Q4 : Nat := 72
abbrev Cp : Nat := 36
abbrev KU : Nat := 129
abbrev Zj : Nat := 31
abbrev Gb : Nat := 220
abbrev Zi : Nat := 91
abbrev Bj : Nat := 3
abbrev T6 : Nat := 176
abbrev Ut : Nat := 127
abbrev A1C : Nat := 23
abbrev D7 : Nat := 42
abbrev Bv : Nat := 27
abbrev Qk : Nat := 9
abbrev Nf : Nat := 151
abbrev Nd : Nat := 213
abbrev Cm : Nat := 53
abbrev LN : Nat := 131
abbrev JZ : Nat := 185
abbrev MP : Nat := 236
set_option maxHeartbeats 4000000
def Z0 (l : List (Nat × A4)) : A4 → A4
  | .seq a b => .seq (Z0 l a) (Z0 l b)
  | .cond c a b => .cond c (Z0 l a) (Z0 l b)
  | .block k (.loop c) => .block k (.loop (match l.lookup k with | some x => x | none => c))
  | .block k c => .block k (Z0 l c)
  | c => c
def XU : Code → Code
  | .seq a b => .seq (XU a) (XU b)
  | .cond c a b => .cond c (XU a) (XU b)
  | .block k (.loop _) => .block k (.loop .skip)
  | .block k c => .block k (XU c)
  | c => c
def MX (k : Nat) : Code → Option Code
  | .seq a b => (MX k a).or (MX k b)
  | .cond _ a b => (MX k a).or (MX k b)
  | .block j (.loop c) => bif Nat.beq j k then some c else MX k c
  | .block _ c => MX k c
  | .loop c => MX k c
  | _ => none
def opH (P : Program) (ops : Array Oper) (i : Nat) : Ao := match ops[i]? with
  | some o => (match EM P ops o with | some x => x | none => ⟨none, none, .fail⟩)
  | none => ⟨none, none, .fail⟩
def stH (P : Program) (ops : Array Oper) : List Nat → Ap
  | [] => ⟨0, ⟨none, none, .fail⟩, []⟩
  | i :: c => ⟨i, opH P ops i, c.map (opH P ops)⟩
def WV (P : Program) : Code → List (List (List Nat)) → A4 × List (List (List Nat))
  | .region _ ops true, h :: hs => (.dreg (h.map (stH P ops)), hs)
  | .seq a b, hs => (match WV P a hs with | (x, h1) => (match WV P b h1 with | (y, h2) => (.seq x y, h2)))
  | .cond c a b, hs => (match Af c, WV P a hs with
    | some c, (x, h1) => (match WV P b h1 with | (y, h2) => (.cond c x y, h2))
    | none, _ => (.fail, hs))
  | .block k c, hs => (match WV P c hs with | (x, h1) => (.block k x, h1))
  | .loop c, hs => (match WV P c hs with | (x, h1) => (.loop x, h1))
  | c, hs => (B9 P c, hs)
noncomputable def gF (f : Func) (l : List (Nat × A4)) (hs : List (List (List Nat)) := []) : Option A2 := match f.body, f.results.toList.mapM (Uv Tryz.prog) with
  | some c, some rs => some ⟨rs, Z0 l (WV Tryz.prog (XU c) hs).1⟩
  | _, _ => none
noncomputable def gL (f : Func) (k : Nat) (l : List (Nat × A4)) (hs : List (List (List Nat)) := []) : Option A4 := (f.body.bind (MX k)).map fun c => Z0 l (WV Tryz.prog (XU c) hs).1
end Go.AM
