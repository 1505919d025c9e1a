/-
  Own work, part of the proof of CoheAll: the code of the functions that the law reaches, as the machine has it; read off the program as the text is compiled.
-/
import Derived.Test.YtpcpldaangchaaaGreatDoorAmE
import Derived.Test.YtpcpldaangchaaaGreatDoorLay
set_option maxRecDepth 4000
set_option linter.unusedVariables false
set_option linter.unusedSimpArgs false
set_option linter.unusedSectionVars false
set_option linter.unnecessarySimpa false
set_option maxRecDepth 100000
namespace Go.AM
open Go Go.Proofs
abbrev U5 : Nat := 157
abbrev A2M : Nat := 58
abbrev A2D : Nat := 141
abbrev A1l : Nat := 88
abbrev A28 : Nat := 137
abbrev Qm : Nat := 186
abbrev VW : Nat := 155
abbrev K0 : Nat := 194
abbrev A1Z : Nat := 125
abbrev Nu : Nat := 195
abbrev A6U : Nat := 20
abbrev A75 : Nat := 59
abbrev A6x : Nat := 57
abbrev A9c : Nat := 15
abbrev A8W : Nat := 13
abbrev Xh : Nat := 50
abbrev A2o : Nat := 48
abbrev A5Y : Nat := 60
abbrev A7b : Nat := 124
abbrev A29 : Nat := 53
abbrev A2w : Nat := 54
abbrev A3q : Nat := 55
abbrev Yd : Nat := 83
abbrev Tz : Nat := 248
abbrev VN : Nat := 208
abbrev Q2 : Nat := 247
abbrev Vx : Nat := 245
abbrev A2F : Nat := 153
abbrev Tr : Nat := 274
abbrev Td : Nat := 249
abbrev A1S : Nat := 154
abbrev U7 : Nat := 207
abbrev A3c : Nat := 152
abbrev PM : Nat := 199
abbrev A0C : Nat := 234
abbrev T7 : Nat := 235
abbrev UM : Nat := 209
abbrev AL : Nat := 233
abbrev A23 : Nat := 113
abbrev LO : Nat := 171
abbrev Rb : Nat := 170
abbrev UR : Nat := 193
abbrev A3e : Nat := 115
abbrev Y2 : Nat := 129
abbrev PH : Nat := 188
abbrev A2I : Nat := 71
abbrev A3d : Nat := 114
abbrev XO : Nat := 111
abbrev V7 : Nat := 232
abbrev PG : Nat := 175
abbrev Qh : Nat := 174
abbrev T9 : Nat := 172
abbrev Uk : Nat := 226
abbrev R1 : Nat := 173
abbrev A3w : Nat := 34
abbrev A2y : Nat := 32
abbrev A26 : Nat := 36
abbrev Yn : Nat := 91
abbrev Vu : Nat := 156
abbrev A36 : Nat := 150
abbrev Wm : Nat := 86
abbrev X7 : Nat := 85
abbrev Xn : Nat := 87
abbrev A2r : Nat := 148
abbrev A1s : Nat := 84
abbrev W6 : Nat := 246
abbrev TV : Nat := 187
abbrev A2m : Nat := 92
abbrev UV : Nat := 206
abbrev XV : Nat := 93
abbrev Ub : Nat := 273
abbrev A1R : Nat := 90
abbrev UO : Nat := 229
abbrev A2d : Nat := 89
abbrev W7 : Nat := 244
abbrev A2R : Nat := 144
abbrev WF : Nat := 49
abbrev A2O : Nat := 112
abbrev Ue : Nat := 178
abbrev Uf : Nat := 180
abbrev QV : Nat := 118
abbrev QH : Nat := 117
abbrev To : Nat := 177
abbrev T5 : Nat := 169
abbrev A1i : Nat := 116
abbrev V2 : Nat := 176
abbrev QE : Nat := 179
abbrev A1P : Nat := 134
abbrev XT : Nat := 143
abbrev TZ : Nat := 204
abbrev A2n : Nat := 135
abbrev Qx : Nat := 227
abbrev N1 : Nat := 191
abbrev MR : Nat := 192
abbrev V6 : Nat := 230
abbrev Uo : Nat := 231
abbrev N8 : Nat := 190
abbrev TF : Nat := 197
abbrev Py : Nat := 198
abbrev PR : Nat := 189
abbrev Aaa : Nat := 3
abbrev A3A : Nat := 9
abbrev A6z : Nat := 41
abbrev A3E : Nat := 19
abbrev A9A : Nat := 11
abbrev SW : Nat := 222
abbrev PX : Nat := 43
abbrev Lz : Nat := 258
abbrev RT : Nat := 98
abbrev A3a : Nat := 44
abbrev J6 : Nat := 224
abbrev Ti : Nat := 257
abbrev Lp : Nat := 163
abbrev A2J : Nat := 99
abbrev Nc : Nat := 223
abbrev UF : Nat := 256
abbrev A9f : Nat := 10
abbrev A8j : Nat := 12
abbrev A1J : Nat := 40
abbrev A3p : Nat := 100
abbrev A3o : Nat := 45
abbrev U3 : Nat := 259
abbrev Tp : Nat := 183
abbrev A2g : Nat := 133
abbrev A1t : Nat := 105
abbrev Tv : Nat := 165
abbrev WH : Nat := 97
abbrev A2v : Nat := 131
abbrev A1c : Nat := 130
abbrev A3l : Nat := 132
abbrev TQ : Nat := 228
abbrev LC : Nat := 217
abbrev Q0 : Nat := 161
abbrev TP : Nat := 219
abbrev Lq : Nat := 162
abbrev Tk : Nat := 220
abbrev A1Y : Nat := 101
abbrev A2Z : Nat := 37
abbrev NX : Nat := 47
abbrev A3v : Nat := 26
abbrev A1I : Nat := 126
abbrev ZD : Nat := 168
abbrev A3n : Nat := 52
abbrev UJ : Nat := 182
abbrev A35 : Nat := 35
abbrev A2E : Nat := 103
abbrev A8Z : Nat := 16
abbrev A2S : Nat := 102
abbrev Aa9 : Nat := 14
abbrev A1u : Nat := 42
abbrev A1O : Nat := 120
abbrev WN : Nat := 68
abbrev A5H : Nat := 46
abbrev A1b : Nat := 104
abbrev A1h : Nat := 69
abbrev A70 : Nat := 109
abbrev A2Y : Nat := 51
abbrev GL : Nat := 164
abbrev A1C : Nat := 67
abbrev A7w : Nat := 108
abbrev A2K : Nat := 119
abbrev A66 : Nat := 110
abbrev A5g : Nat := 107
abbrev A1j : Nat := 62
abbrev A22 : Nat := 127
abbrev UK : Nat := 181
abbrev Ta : Nat := 167
abbrev A3k : Nat := 64
abbrev A3t : Nat := 121
abbrev TA : Nat := 166
abbrev A1k : Nat := 106
abbrev Up : Nat := 225
abbrev A1z : Nat := 22
abbrev UT : Nat := 221
abbrev VZ : Nat := 251
abbrev Vw : Nat := 211
abbrev TX : Nat := 252
abbrev V8 : Nat := 250
abbrev W4 : Nat := 275
abbrev PU : Nat := 255
abbrev TS : Nat := 212
abbrev UE : Nat := 159
abbrev VE : Nat := 218
abbrev TE : Nat := 160
abbrev N5 : Nat := 216
abbrev Uu : Nat := 279
abbrev Ty : Nat := 215
abbrev TH : Nat := 214
abbrev V4 : Nat := 277
abbrev TC : Nat := 278
abbrev Ut : Nat := 210
abbrev SU : Nat := 276
abbrev Tx : Nat := 254
abbrev Vz : Nat := 280
abbrev UY : Nat := 213
abbrev Ls : Nat := 253
abbrev A1L : Nat := 143
abbrev PW : Nat := 126
abbrev Qq : Nat := 70
abbrev D0 : Nat := 124
abbrev BJ : Nat := 25
abbrev QI : Nat := 72
abbrev A7 : Nat := 36
abbrev Lx : Nat := 129
abbrev ZP : Nat := 31
abbrev GB : Nat := 220
abbrev AU : Nat := 3
abbrev TJ : Nat := 176
abbrev VB : Nat := 127
abbrev CR : Nat := 23
abbrev B9 : Nat := 42
abbrev BA : Nat := 27
abbrev QU : Nat := 9
abbrev NA : Nat := 151
abbrev NG : Nat := 213
abbrev Bj : Nat := 53
abbrev LY : Nat := 131
abbrev JT : Nat := 185
abbrev MG : Nat := 236
set_option maxHeartbeats 4000000
def A02 (l : List (Nat × A1)) : A1 → A1
  | .seq a b => .seq (A02 l a) (A02 l b)
  | .cond c a b => .cond c (A02 l a) (A02 l b)
  | .block k (.loop c) => .block k (.loop (match l.lookup k with | some x => x | none => c))
  | .block k c => .block k (A02 l c)
  | c => c
def YZ : Code → Code
  | .seq a b => .seq (YZ a) (YZ b)
  | .cond c a b => .cond c (YZ a) (YZ b)
  | .block k (.loop _) => .block k (.loop .skip)
  | .block k c => .block k (YZ c)
  | c => c
def NH (k : Nat) : Code → Option Code
  | .seq a b => (NH k a).or (NH k b)
  | .cond _ a b => (NH k a).or (NH k b)
  | .block j (.loop c) => bif Nat.beq j k then some c else NH k c
  | .block _ c => NH k c
  | .loop c => NH k c
  | _ => none
def opH (P : Program) (ops : Array Oper) (i : Nat) : Ar := match ops[i]? with
  | some o => (match G6 P ops o with | some x => x | none => ⟨none, none, .fail⟩)
  | none => ⟨none, none, .fail⟩
def stH (P : Program) (ops : Array Oper) : List Nat → Au
  | [] => ⟨0, ⟨none, none, .fail⟩, []⟩
  | i :: c => ⟨i, opH P ops i, c.map (opH P ops)⟩
def Xz (P : Program) : Code → List (List (List Nat)) → A1 × List (List (List Nat))
  | .region _ ops true, h :: hs => (.dreg (h.map (stH P ops)), hs)
  | .seq a b, hs => (match Xz P a hs with | (x, h1) => (match Xz P b h1 with | (y, h2) => (.seq x y, h2)))
  | .cond c a b, hs => (match Ak c, Xz P a hs with
    | some c, (x, h1) => (match Xz P b h1 with | (y, h2) => (.cond c x y, h2))
    | none, _ => (.fail, hs))
  | .block k c, hs => (match Xz P c hs with | (x, h1) => (.block k x, h1))
  | .loop c, hs => (match Xz P c hs with | (x, h1) => (.loop x, h1))
  | c, hs => (Bo P c, hs)
noncomputable def gF (f : Func) (l : List (Nat × A1)) (hs : List (List (List Nat)) := []) : Option A2 := match f.body, f.results.toList.mapM (TG Tryz.prog) with
  | some c, some rs => some ⟨rs, A02 l (Xz Tryz.prog (YZ c) hs).1⟩
  | _, _ => none
noncomputable def gL (f : Func) (k : Nat) (l : List (Nat × A1)) (hs : List (List (List Nat)) := []) : Option A1 := (f.body.bind (NH k)).map fun c => A02 l (Xz Tryz.prog (YZ c) hs).1
end Go.AM
