/-
  Own work, part of the proof of these laws: the code of the functions that the law reaches, as the machine has it; read off the program as the text is compiled.
-/
import Derived.Test.YtpnaenhghnkggaaGreatDoorAmE
import Derived.Test.YtpnaenhghnkggaaGreatDoorLay
set_option maxRecDepth 10000
set_option maxHeartbeats 64000000
set_option linter.unusedVariables false
set_option linter.unusedSimpArgs false
set_option maxRecDepth 100000
namespace Go.AM
open Go Go.Proofs
abbrev Wu:Nat:=170
abbrev A5q:Nat:=76
abbrev RU:Nat:=47
abbrev Zj:Nat:=42
abbrev VX:Nat:=125
abbrev PO:Nat:=144
abbrev A5c:Nat:=44
abbrev MY:Nat:=102
abbrev A5z:Nat:=96
abbrev Mh:Nat:=103
abbrev A5j:Nat:=63
abbrev Mi:Nat:=117
abbrev PF:Nat:=115
abbrev Wx:Nat:=178
abbrev VK:Nat:=116
abbrev VM:Nat:=118
abbrev Ww:Nat:=176
abbrev WX:Nat:=215
abbrev WY:Nat:=216
abbrev WZ:Nat:=217
abbrev A55:Nat:=22
abbrev A56:Nat:=24
abbrev A54:Nat:=21
abbrev Ad7:Nat:=11
abbrev A9R:Nat:=29
abbrev A5i:Nat:=62
abbrev A5k:Nat:=64
abbrev PV:Nat:=180
abbrev Zq:Nat:=67
abbrev PI:Nat:=129
abbrev VN:Nat:=119
abbrev PH:Nat:=128
abbrev Zp:Nat:=66
abbrev PG:Nat:=127
abbrev VY:Nat:=126
abbrev VT:Nat:=122
abbrev VW:Nat:=124
abbrev Zr:Nat:=97
abbrev Xc:Nat:=237
abbrev WS:Nat:=208
abbrev Q5:Nat:=236
abbrev Xa:Nat:=234
abbrev Wl:Nat:=164
abbrev Xl:Nat:=246
abbrev Xd:Nat:=238
abbrev Wm:Nat:=165
abbrev WR:Nat:=207
abbrev Wj:Nat:=163
abbrev PW:Nat:=181
abbrev A2L:Nat:=218
abbrev X0:Nat:=219
abbrev WW:Nat:=214
abbrev AI:Nat:=171
abbrev Zo:Nat:=65
abbrev A5m:Nat:=69
abbrev KK:Nat:=134
abbrev PJ:Nat:=133
abbrev VQ:Nat:=120
abbrev A57:Nat:=26
abbrev VU:Nat:=123
abbrev A5o:Nat:=71
abbrev MX:Nat:=75
abbrev PQ:Nat:=146
abbrev VS:Nat:=121
abbrev A5n:Nat:=70
abbrev PU:Nat:=177
abbrev Wy:Nat:=179
abbrev PM:Nat:=138
abbrev PL:Nat:=137
abbrev W5:Nat:=135
abbrev WA:Nat:=185
abbrev PK:Nat:=136
abbrev A5f:Nat:=49
abbrev RT:Nat:=43
abbrev A5g:Nat:=50
abbrev PE:Nat:=106
abbrev A5d:Nat:=45
abbrev Wt:Nat:=169
abbrev WV:Nat:=213
abbrev Zt:Nat:=100
abbrev Zs:Nat:=99
abbrev Zu:Nat:=101
abbrev Wq:Nat:=168
abbrev A5A:Nat:=98
abbrev A5e:Nat:=48
abbrev Xb:Nat:=235
abbrev Wa:Nat:=145
abbrev VI:Nat:=107
abbrev WQ:Nat:=206
abbrev Zl:Nat:=46
abbrev Xk:Nat:=245
abbrev VE:Nat:=105
abbrev WB:Nat:=187
abbrev VD:Nat:=104
abbrev X9:Nat:=233
abbrev VZ:Nat:=130
abbrev Zh:Nat:=25
abbrev A5l:Nat:=68
abbrev W8:Nat:=141
abbrev W9:Nat:=143
abbrev Q7:Nat:=74
abbrev Q6:Nat:=73
abbrev W7:Nat:=140
abbrev W4:Nat:=132
abbrev A5p:Nat:=72
abbrev W6:Nat:=139
abbrev PN:Nat:=142
abbrev Wn:Nat:=166
abbrev Wp:Nat:=167
abbrev WU:Nat:=212
abbrev W3:Nat:=131
abbrev PZ:Nat:=186
abbrev Q1:Nat:=209
abbrev PY:Nat:=184
abbrev X4:Nat:=221
abbrev X3:Nat:=220
abbrev Wz:Nat:=183
abbrev WT:Nat:=210
abbrev Q2:Nat:=211
abbrev PX:Nat:=182
abbrev Agc:Nat:=6
abbrev Agb:Nat:=5
abbrev Zk:Nat:=7
abbrev A9Q:Nat:=28
abbrev Zg:Nat:=23
abbrev A2K:Nat:=200
abbrev MW:Nat:=30
abbrev Q4:Nat:=230
abbrev Q8:Nat:=78
abbrev A9S:Nat:=31
abbrev KO:Nat:=202
abbrev A2N:Nat:=229
abbrev PS:Nat:=151
abbrev A9U:Nat:=79
abbrev Q0:Nat:=201
abbrev A2M:Nat:=228
abbrev Agd:Nat:=8
abbrev A58:Nat:=27
abbrev A53:Nat:=20
abbrev Zn:Nat:=61
abbrev VJ:Nat:=114
abbrev A2O:Nat:=231
abbrev Wh:Nat:=157
abbrev Wf:Nat:=153
abbrev A5r:Nat:=77
abbrev PT:Nat:=161
abbrev Jv:Nat:=174
abbrev A5y:Nat:=95
abbrev Wi:Nat:=162
abbrev HK:Nat:=113
abbrev KM:Nat:=195
abbrev PR:Nat:=149
abbrev WM:Nat:=197
abbrev KL:Nat:=150
abbrev WN:Nat:=198
abbrev Wv:Nat:=175
abbrev A5s:Nat:=81
abbrev KP:Nat:=203
abbrev Zi:Nat:=35
abbrev A5t:Nat:=82
abbrev A59:Nat:=32
abbrev Zm:Nat:=51
abbrev A5u:Nat:=84
abbrev A5x:Nat:=94
abbrev HL:Nat:=152
abbrev A5w:Nat:=93
abbrev A5h:Nat:=60
abbrev A5b:Nat:=40
abbrev Wg:Nat:=154
abbrev A5v:Nat:=86
abbrev A9T:Nat:=54
abbrev A5a:Nat:=39
abbrev A9P:Nat:=13
abbrev WO:Nat:=199
abbrev X6:Nat:=223
abbrev WE:Nat:=189
abbrev X7:Nat:=224
abbrev X5:Nat:=222
abbrev Xe:Nat:=239
abbrev Q3:Nat:=227
abbrev WF:Nat:=190
abbrev Wb:Nat:=147
abbrev WL:Nat:=196
abbrev We:Nat:=148
abbrev Mj:Nat:=194
abbrev Xi:Nat:=243
abbrev WK:Nat:=193
abbrev WJ:Nat:=192
abbrev Xg:Nat:=241
abbrev Xh:Nat:=242
abbrev WD:Nat:=188
abbrev Xf:Nat:=240
abbrev X8:Nat:=226
abbrev Xj:Nat:=244
abbrev WH:Nat:=191
abbrev KQ:Nat:=225
abbrev A3l:Nat:=205
abbrev NR:Nat:=115
abbrev NS:Nat:=67
abbrev D4:Nat:=39
abbrev D5:Nat:=113
abbrev Cp:Nat:=61
abbrev NT:Nat:=69
abbrev BE:Nat:=34
abbrev Kv:Nat:=118
abbrev G7:Nat:=28
abbrev G8:Nat:=141
abbrev A0k:Nat:=153
abbrev Bg:Nat:=3
abbrev Sx:Nat:=197
abbrev Sy:Nat:=116
abbrev Sz:Nat:=31
abbrev Dg:Nat:=36
abbrev By:Nat:=24
abbrev NU:Nat:=9
abbrev MB:Nat:=105
abbrev MC:Nat:=210
abbrev C1:Nat:=46
abbrev L7:Nat:=120
abbrev Jc:Nat:=181
abbrev LZ:Nat:=220
set_option maxHeartbeats 4000000
def A0C (l:List (Nat×A4)):A4->A4
  | .seq a b=>.seq (A0C l a) (A0C l b)
  | .cond c a b=>.cond c (A0C l a) (A0C l b)
  | .block k (.loop c)=>.block k (.loop (match l.lookup k with | some x=>x | none=>c))
  | .block k c=>.block k (A0C l c)
  | c=>c
def A0D:Code->Code
  | .seq a b=>.seq (A0D a) (A0D b)
  | .cond c a b=>.cond c (A0D a) (A0D b)
  | .block k (.loop _)=>.block k (.loop .skip)
  | .block k c=>.block k (A0D c)
  | c=>c
def MT (k:Nat):Code->Option Code
  | .seq a b=>(MT k a).or (MT k b)
  | .cond _ a b=>(MT k a).or (MT k b)
  | .block j (.loop c)=>bif Nat.beq j k then some c else MT k c
  | .block _ c=>MT k c
  | .loop c=>MT k c
  | _=>none
def opH (P:Program) (ops:Array Oper) (i:Nat):Ap:=match ops[i]? with
  | some o=>(match EU P ops o with | some x=>x | none=>⟨none,none,.fail⟩)
  | none=>⟨none,none,.fail⟩
def stH (P:Program) (ops:Array Oper):List Nat->Aq
  | []=>⟨0,⟨none,none,.fail⟩,[]⟩
  | i::c=>⟨i,opH P ops i,c.map (opH P ops)⟩
def YM (P:Program):Code->List (List (List Nat))->A4×List (List (List Nat))
  | .region _ ops true,h::hs=>(.dreg (h.map (stH P ops)),hs)
  | .seq a b,hs=>(match YM P a hs with | (x,h1)=>(match YM P b h1 with | (y,h2)=>(.seq x y,h2)))
  | .cond c a b,hs=>(match Am c,YM P a hs with
    | some c,(x,h1)=>(match YM P b h1 with | (y,h2)=>(.cond c x y,h2))
    | none,_=>(.fail,hs))
  | .block k c,hs=>(match YM P c hs with | (x,h1)=>(.block k x,h1))
  | .loop c,hs=>(match YM P c hs with | (x,h1)=>(.loop x,h1))
  | c,hs=>(Bi P c,hs)
noncomputable def gF (f:Func) (l:List (Nat×A4)) (hs:List (List (List Nat)):=[]):Option A3:=match f.body,f.results.toList.mapM (Te Tryz.prog) with
  | some c,some rs=>some ⟨rs,A0C l (YM Tryz.prog (A0D c) hs).1⟩
  | _,_=>none
noncomputable def gL (f:Func) (k:Nat) (l:List (Nat×A4)) (hs:List (List (List Nat)):=[]):Option A4:=(f.body.bind (MT k)).map fun c=>A0C l (YM Tryz.prog (A0D c) hs).1
end Go.AM
