/-
  Own work, part of the proof of CoheLess: the code of the functions that the law reaches, as the machine has it; read off the program as the text is compiled.
-/
import Derived.Test.YtpcpldaangchaaaGreatDoorAmE
import Derived.Test.YtpcpldaangchaaaGreatDoorLay
set_option maxRecDepth 4000
set_option linter.unusedVariables false
set_option linter.unusedSimpArgs false
set_option linter.unusedSectionVars false
set_option linter.unnecessarySimpa false
set_option maxRecDepth 100000
namespace Go.AM
open Go Go.Proofs
abbrev U9 : Nat := 157
abbrev A1M : Nat := 58
abbrev A20 : Nat := 141
abbrev A0R : Nat := 88
abbrev A1z : Nat := 137
abbrev NV : Nat := 186
abbrev A1G : Nat := 155
abbrev JG : Nat := 194
abbrev A2n : Nat := 125
abbrev MG : Nat := 195
abbrev Abk : Nat := 20
abbrev A6L : Nat := 59
abbrev A6n : Nat := 57
abbrev A9p : Nat := 15
abbrev A7S : Nat := 13
abbrev Vu : Nat := 50
abbrev X5 : Nat := 48
abbrev A5A : Nat := 60
abbrev A3N : Nat := 124
abbrev A1Y : Nat := 53
abbrev A1o : Nat := 54
abbrev A14 : Nat := 55
abbrev Xi : Nat := 83
abbrev TQ : Nat := 248
abbrev TV : Nat := 208
abbrev Pn : Nat := 247
abbrev S8 : Nat := 245
abbrev A1V : Nat := 153
abbrev U2 : Nat := 274
abbrev Uh : Nat := 249
abbrev A1T : Nat := 154
abbrev Tu : Nat := 207
abbrev A0s : Nat := 152
abbrev Pk : Nat := 199
abbrev Ym : Nat := 234
abbrev T4 : Nat := 235
abbrev TH : Nat := 209
abbrev AE : Nat := 233
abbrev A1x : Nat := 113
abbrev La : Nat := 171
abbrev Po : Nat := 170
abbrev Tp : Nat := 193
abbrev A0e : Nat := 115
abbrev W8 : Nat := 129
abbrev P2 : Nat := 188
abbrev A1J : Nat := 71
abbrev A0n : Nat := 114
abbrev WX : Nat := 111
abbrev Sc : Nat := 232
abbrev Pz : Nat := 175
abbrev PT : Nat := 174
abbrev UP : Nat := 172
abbrev ST : Nat := 226
abbrev P3 : Nat := 173
abbrev A1e : Nat := 34
abbrev A0J : Nat := 32
abbrev A0K : Nat := 36
abbrev Wi : Nat := 91
abbrev TL : Nat := 156
abbrev A0Z : Nat := 150
abbrev Wb : Nat := 86
abbrev UU : Nat := 85
abbrev Xg : Nat := 87
abbrev A24 : Nat := 148
abbrev A0G : Nat := 84
abbrev SP : Nat := 246
abbrev U0 : Nat := 187
abbrev A1h : Nat := 92
abbrev U1 : Nat := 206
abbrev X7 : Nat := 93
abbrev SG : Nat := 273
abbrev A1Z : Nat := 90
abbrev Tl : Nat := 229
abbrev A0Y : Nat := 89
abbrev Ty : Nat := 244
abbrev A17 : Nat := 144
abbrev W4 : Nat := 49
abbrev A2l : Nat := 112
abbrev SX : Nat := 178
abbrev Sh : Nat := 180
abbrev Pr : Nat := 118
abbrev Ph : Nat := 117
abbrev Uo : Nat := 177
abbrev Su : Nat := 169
abbrev A0i : Nat := 116
abbrev SO : Nat := 176
abbrev NY : Nat := 179
abbrev A1X : Nat := 134
abbrev UW : Nat := 143
abbrev To : Nat := 204
abbrev A1O : Nat := 135
abbrev Ql : Nat := 227
abbrev Mi : Nat := 191
abbrev M8 : Nat := 192
abbrev Ud : Nat := 230
abbrev TX : Nat := 231
abbrev Mu : Nat := 190
abbrev S5 : Nat := 197
abbrev PJ : Nat := 198
abbrev Qt : Nat := 189
abbrev A8g : Nat := 6
abbrev A2S : Nat := 9
abbrev A5c : Nat := 41
abbrev A30 : Nat := 19
abbrev A7M : Nat := 11
abbrev TF : Nat := 222
abbrev Qm : Nat := 43
abbrev L7 : Nat := 258
abbrev RF : Nat := 98
abbrev A1N : Nat := 44
abbrev Hv : Nat := 224
abbrev Uy : Nat := 257
abbrev KO : Nat := 163
abbrev A2f : Nat := 99
abbrev My : Nat := 223
abbrev SM : Nat := 256
abbrev A8H : Nat := 10
abbrev A0S : Nat := 40
abbrev A1W : Nat := 23
abbrev A0E : Nat := 100
abbrev A1q : Nat := 45
abbrev TE : Nat := 259
abbrev YR : Nat := 183
abbrev A1K : Nat := 133
abbrev A6J : Nat := 105
abbrev TG : Nat := 165
abbrev WO : Nat := 97
abbrev A1a : Nat := 131
abbrev A22 : Nat := 130
abbrev A1v : Nat := 132
abbrev A09 : Nat := 228
abbrev L0 : Nat := 217
abbrev Pv : Nat := 161
abbrev Tz : Nat := 219
abbrev KD : Nat := 162
abbrev UF : Nat := 220
abbrev A0t : Nat := 101
abbrev A4j : Nat := 37
abbrev Nj : Nat := 47
abbrev A11 : Nat := 26
abbrev A4q : Nat := 126
abbrev Yd : Nat := 168
abbrev A52 : Nat := 52
abbrev Y0 : Nat := 182
abbrev A4i : Nat := 35
abbrev A1D : Nat := 103
abbrev AaA : Nat := 16
abbrev A1B : Nat := 102
abbrev A0c : Nat := 42
abbrev A6O : Nat := 120
abbrev X1 : Nat := 68
abbrev A43 : Nat := 46
abbrev A1Q : Nat := 104
abbrev A0X : Nat := 69
abbrev A6k : Nat := 109
abbrev A5D : Nat := 51
abbrev Gb : Nat := 164
abbrev A1f : Nat := 67
abbrev A5p : Nat := 108
abbrev A5u : Nat := 119
abbrev A60 : Nat := 110
abbrev A4G : Nat := 107
abbrev A4U : Nat := 62
abbrev A0u : Nat := 127
abbrev Z0 : Nat := 181
abbrev Z6 : Nat := 167
abbrev A28 : Nat := 64
abbrev A5L : Nat := 121
abbrev Sm : Nat := 166
abbrev A2e : Nat := 106
abbrev A0a : Nat := 225
abbrev A9h : Nat := 22
abbrev Sk : Nat := 221
abbrev Tk : Nat := 251
abbrev S1 : Nat := 211
abbrev SB : Nat := 252
abbrev T8 : Nat := 250
abbrev TN : Nat := 275
abbrev Qs : Nat := 255
abbrev SD : Nat := 212
abbrev SA : Nat := 159
abbrev U4 : Nat := 218
abbrev TS : Nat := 160
abbrev M6 : Nat := 216
abbrev TM : Nat := 279
abbrev Sd : Nat := 215
abbrev UM : Nat := 214
abbrev Tb : Nat := 277
abbrev TC : Nat := 278
abbrev Up : Nat := 210
abbrev S2 : Nat := 276
abbrev UJ : Nat := 254
abbrev Ub : Nat := 280
abbrev SN : Nat := 213
abbrev KM : Nat := 253
abbrev A1l : Nat := 143
abbrev P4 : Nat := 126
abbrev PU : Nat := 70
abbrev CP : Nat := 124
abbrev BY : Nat := 25
abbrev Qv : Nat := 72
abbrev A7 : Nat := 36
abbrev KZ : Nat := 129
abbrev YG : Nat := 31
abbrev G5 : Nat := 220
abbrev AS : Nat := 3
abbrev Ug : Nat := 176
abbrev Ss : Nat := 127
abbrev E4 : Nat := 23
abbrev Be : Nat := 42
abbrev Bu : Nat := 27
abbrev PR : Nat := 9
abbrev N3 : Nat := 151
abbrev MY : Nat := 213
abbrev Co : Nat := 53
abbrev Lq : Nat := 131
abbrev Jw : Nat := 185
abbrev MA : Nat := 236
set_option maxHeartbeats 4000000
def XU (l : List (Nat × A1)) : A1 → A1
  | .seq a b => .seq (XU l a) (XU l b)
  | .cond c a b => .cond c (XU l a) (XU l b)
  | .block k (.loop c) => .block k (.loop (match l.lookup k with | some x => x | none => c))
  | .block k c => .block k (XU l c)
  | c => c
def Yn : Code → Code
  | .seq a b => .seq (Yn a) (Yn b)
  | .cond c a b => .cond c (Yn a) (Yn b)
  | .block k (.loop _) => .block k (.loop .skip)
  | .block k c => .block k (Yn c)
  | c => c
def Nc (k : Nat) : Code → Option Code
  | .seq a b => (Nc k a).or (Nc k b)
  | .cond _ a b => (Nc k a).or (Nc k b)
  | .block j (.loop c) => bif Nat.beq j k then some c else Nc k c
  | .block _ c => Nc k c
  | .loop c => Nc k c
  | _ => none
def opH (P : Program) (ops : Array Oper) (i : Nat) : Ak := match ops[i]? with
  | some o => (match EG P ops o with | some x => x | none => ⟨none, none, .fail⟩)
  | none => ⟨none, none, .fail⟩
def stH (P : Program) (ops : Array Oper) : List Nat → Ap
  | [] => ⟨0, ⟨none, none, .fail⟩, []⟩
  | i :: c => ⟨i, opH P ops i, c.map (opH P ops)⟩
def Vt (P : Program) : Code → List (List (List Nat)) → A1 × List (List (List Nat))
  | .region _ ops true, h :: hs => (.dreg (h.map (stH P ops)), hs)
  | .seq a b, hs => (match Vt P a hs with | (x, h1) => (match Vt P b h1 with | (y, h2) => (.seq x y, h2)))
  | .cond c a b, hs => (match Af c, Vt P a hs with
    | some c, (x, h1) => (match Vt P b h1 with | (y, h2) => (.cond c x y, h2))
    | none, _ => (.fail, hs))
  | .block k c, hs => (match Vt P c hs with | (x, h1) => (.block k x, h1))
  | .loop c, hs => (match Vt P c hs with | (x, h1) => (.loop x, h1))
  | c, hs => (Bb P c, hs)
noncomputable def gF (f : Func) (l : List (Nat × A1)) (hs : List (List (List Nat)) := []) : Option A2 := match f.body, f.results.toList.mapM (SQ Tryz.prog) with
  | some c, some rs => some ⟨rs, XU l (Vt Tryz.prog (Yn c) hs).1⟩
  | _, _ => none
noncomputable def gL (f : Func) (k : Nat) (l : List (Nat × A1)) (hs : List (List (List Nat)) := []) : Option A1 := (f.body.bind (Nc k)).map fun c => XU l (Vt Tryz.prog (Yn c) hs).1
end Go.AM
