/-
  Own work, part of the proof of CoheExec: the code of the functions that the law reaches, as the machine has it; read off the program as the text is compiled.
-/
import Derived.Test.YtpcpldaangchaaaGreatDoorAmE
import Derived.Test.YtpcpldaangchaaaGreatDoorLay
set_option maxRecDepth 4000
set_option linter.unusedVariables false
set_option linter.unusedSimpArgs false
set_option linter.unusedSectionVars false
set_option linter.unnecessarySimpa false
set_option maxRecDepth 100000
namespace Go.AM
open Go Go.Proofs
abbrev A2Z:Nat:=157
abbrev A2i:Nat:=58
abbrev A2S:Nat:=141
abbrev A2r:Nat:=88
abbrev A2R:Nat:=137
abbrev Qm:Nat:=186
abbrev A2Y:Nat:=155
abbrev K9:Nat:=194
abbrev A2I:Nat:=125
abbrev MZ:Nat:=195
abbrev Aa6:Nat:=20
abbrev XB:Nat:=59
abbrev A2h:Nat:=57
abbrev Aa3:Nat:=15
abbrev Adv:Nat:=13
abbrev A7g:Nat:=50
abbrev A2c:Nat:=48
abbrev A2j:Nat:=60
abbrev A2H:Nat:=124
abbrev A2e:Nat:=53
abbrev A2f:Nat:=54
abbrev A2g:Nat:=55
abbrev XD:Nat:=83
abbrev US:Nat:=248
abbrev Uu:Nat:=208
abbrev Qr:Nat:=247
abbrev UQ:Nat:=245
abbrev A2W:Nat:=153
abbrev V3:Nat:=274
abbrev UT:Nat:=249
abbrev A2X:Nat:=154
abbrev Ut:Nat:=207
abbrev A2V:Nat:=152
abbrev Qp:Nat:=199
abbrev A0D:Nat:=234
abbrev UO:Nat:=235
abbrev Uv:Nat:=209
abbrev AL:Nat:=233
abbrev A2A:Nat:=113
abbrev LA:Nat:=171
abbrev Qh:Nat:=170
abbrev Ur:Nat:=193
abbrev A2C:Nat:=115
abbrev XG:Nat:=129
abbrev Qn:Nat:=188
abbrev A2q:Nat:=71
abbrev A2B:Nat:=114
abbrev XF:Nat:=111
abbrev UN:Nat:=232
abbrev Qk:Nat:=175
abbrev Qj:Nat:=174
abbrev Uf:Nat:=172
abbrev UI:Nat:=226
abbrev Qi:Nat:=173
abbrev A7d:Nat:=34
abbrev A7c:Nat:=32
abbrev A7e:Nat:=36
abbrev A7m:Nat:=91
abbrev A7t:Nat:=156
abbrev A7s:Nat:=150
abbrev A7j:Nat:=86
abbrev A7i:Nat:=85
abbrev A7k:Nat:=87
abbrev A7r:Nat:=148
abbrev A7h:Nat:=84
abbrev UR:Nat:=246
abbrev Up:Nat:=187
abbrev A7n:Nat:=92
abbrev Us:Nat:=206
abbrev A7o:Nat:=93
abbrev V2:Nat:=273
abbrev A7l:Nat:=90
abbrev UK:Nat:=229
abbrev A2s:Nat:=89
abbrev UP:Nat:=244
abbrev A2U:Nat:=144
abbrev Xz:Nat:=49
abbrev A2z:Nat:=112
abbrev Ui:Nat:=178
abbrev Uj:Nat:=180
abbrev Qw:Nat:=118
abbrev Qv:Nat:=117
abbrev Uh:Nat:=177
abbrev Ue:Nat:=169
abbrev A2D:Nat:=116
abbrev Ug:Nat:=176
abbrev Ql:Nat:=179
abbrev A7q:Nat:=134
abbrev A2T:Nat:=143
abbrev A0C:Nat:=204
abbrev A2Q:Nat:=135
abbrev Qq:Nat:=227
abbrev Uq:Nat:=191
abbrev MY:Nat:=192
abbrev UL:Nat:=230
abbrev UM:Nat:=231
abbrev MX:Nat:=190
abbrev A0A:Nat:=197
abbrev A0B:Nat:=198
abbrev Qo:Nat:=189
abbrev Aa1:Nat:=4
abbrev A4b:Nat:=9
abbrev A7f:Nat:=41
abbrev A0E:Nat:=19
abbrev Aa5:Nat:=17
abbrev UG:Nat:=222
abbrev NF:Nat:=43
abbrev LD:Nat:=258
abbrev Qu:Nat:=98
abbrev A2b:Nat:=44
abbrev Jd:Nat:=224
abbrev UZ:Nat:=257
abbrev Lz:Nat:=163
abbrev A2t:Nat:=99
abbrev N1:Nat:=223
abbrev UY:Nat:=256
abbrev Aa2:Nat:=10
abbrev A29:Nat:=40
abbrev A7p:Nat:=18
abbrev XA:Nat:=56
abbrev A2G:Nat:=123
abbrev V0:Nat:=259
abbrev Um:Nat:=183
abbrev A2P:Nat:=133
abbrev A2x:Nat:=105
abbrev Ub:Nat:=165
abbrev XE:Nat:=97
abbrev A2N:Nat:=131
abbrev Un:Nat:=184
abbrev A2M:Nat:=130
abbrev A2O:Nat:=132
abbrev UJ:Nat:=228
abbrev Md:Nat:=122
abbrev LB:Nat:=217
abbrev XH:Nat:=161
abbrev UD:Nat:=219
abbrev Ly:Nat:=162
abbrev UE:Nat:=220
abbrev Uo:Nat:=185
abbrev A2u:Nat:=101
abbrev Qt:Nat:=47
abbrev A2k:Nat:=61
abbrev A26:Nat:=21
abbrev A28:Nat:=26
abbrev A2J:Nat:=126
abbrev A2d:Nat:=52
abbrev Ul:Nat:=182
abbrev A2L:Nat:=128
abbrev Aa4:Nat:=16
abbrev A2v:Nat:=102
abbrev A2a:Nat:=42
abbrev A2E:Nat:=120
abbrev XC:Nat:=68
abbrev A2w:Nat:=104
abbrev A2p:Nat:=69
abbrev A2m:Nat:=63
abbrev Jc:Nat:=164
abbrev A2o:Nat:=67
abbrev A2l:Nat:=62
abbrev A2K:Nat:=127
abbrev Uk:Nat:=181
abbrev Ud:Nat:=167
abbrev A2n:Nat:=64
abbrev A2F:Nat:=121
abbrev Uc:Nat:=166
abbrev A2y:Nat:=106
abbrev UH:Nat:=225
abbrev A27:Nat:=22
abbrev UF:Nat:=221
abbrev UV:Nat:=251
abbrev Ux:Nat:=211
abbrev UW:Nat:=252
abbrev UU:Nat:=250
abbrev V4:Nat:=275
abbrev Qs:Nat:=255
abbrev Uy:Nat:=212
abbrev A30:Nat:=159
abbrev UC:Nat:=218
abbrev A31:Nat:=160
abbrev N0:Nat:=216
abbrev V8:Nat:=279
abbrev UB:Nat:=215
abbrev UA:Nat:=214
abbrev V6:Nat:=277
abbrev V7:Nat:=278
abbrev Uw:Nat:=210
abbrev V5:Nat:=276
abbrev UX:Nat:=254
abbrev V9:Nat:=280
abbrev Uz:Nat:=213
abbrev LC:Nat:=253
abbrev A15:Nat:=143
abbrev Pn:Nat:=126
abbrev Po:Nat:=70
abbrev L8:Nat:=44
abbrev CQ:Nat:=124
abbrev BN:Nat:=25
abbrev Pp:Nat:=72
abbrev Cp:Nat:=36
abbrev L9:Nat:=129
abbrev Yv:Nat:=31
abbrev Gc:Nat:=220
abbrev Yw:Nat:=91
abbrev B3:Nat:=3
abbrev ST:Nat:=176
abbrev SU:Nat:=127
abbrev NX:Nat:=23
abbrev Da:Nat:=42
abbrev Bu:Nat:=27
abbrev Pq:Nat:=9
abbrev Nl:Nat:=151
abbrev Nm:Nat:=213
abbrev Bd:Nat:=53
abbrev LS:Nat:=131
abbrev JK:Nat:=185
abbrev Mu:Nat:=236
set_option maxHeartbeats 4000000
def YI (l:List (Nat×A1)):A1→A1
  | .seq a b=>.seq (YI l a) (YI l b)
  | .cond c a b=>.cond c (YI l a) (YI l b)
  | .block k (.loop c)=>.block k (.loop (match l.lookup k with | some x=>x | none=>c))
  | .block k c=>.block k (YI l c)
  | c=>c
def YJ:Code→Code
  | .seq a b=>.seq (YJ a) (YJ b)
  | .cond c a b=>.cond c (YJ a) (YJ b)
  | .block k (.loop _)=>.block k (.loop .skip)
  | .block k c=>.block k (YJ c)
  | c=>c
def Nz (k:Nat):Code→Option Code
  | .seq a b=>(Nz k a).or (Nz k b)
  | .cond _ a b=>(Nz k a).or (Nz k b)
  | .block j (.loop c)=>bif Nat.beq j k then some c else Nz k c
  | .block _ c=>Nz k c
  | .loop c=>Nz k c
  | _=>none
def opH (P:Program) (ops:Array Oper) (i:Nat):Aq:=match ops[i]? with
  | some o=>(match G0 P ops o with | some x=>x | none=>⟨none,none,.fail⟩)
  | none=>⟨none,none,.fail⟩
def stH (P:Program) (ops:Array Oper):List Nat→At
  | []=>⟨0,⟨none,none,.fail⟩,[]⟩
  | i::c=>⟨i,opH P ops i,c.map (opH P ops)⟩
def X3 (P:Program):Code→List (List (List Nat))→A1×List (List (List Nat))
  | .region _ ops true,h::hs=>(.dreg (h.map (stH P ops)),hs)
  | .seq a b,hs=>(match X3 P a hs with | (x,h1)=>(match X3 P b h1 with | (y,h2)=>(.seq x y,h2)))
  | .cond c a b,hs=>(match Ai c,X3 P a hs with
    | some c,(x,h1)=>(match X3 P b h1 with | (y,h2)=>(.cond c x y,h2))
    | none,_=>(.fail,hs))
  | .block k c,hs=>(match X3 P c hs with | (x,h1)=>(.block k x,h1))
  | .loop c,hs=>(match X3 P c hs with | (x,h1)=>(.loop x,h1))
  | c,hs=>(Bh P c,hs)
noncomputable def gF (f:Func) (l:List (Nat×A1)) (hs:List (List (List Nat)):=[]):Option A2:=match f.body,f.results.toList.mapM (Tr Tryz.prog) with
  | some c,some rs=>some ⟨rs,YI l (X3 Tryz.prog (YJ c) hs).1⟩
  | _,_=>none
noncomputable def gL (f:Func) (k:Nat) (l:List (Nat×A1)) (hs:List (List (List Nat)):=[]):Option A1:=(f.body.bind (Nz k)).map fun c=>YI l (X3 Tryz.prog (YJ c) hs).1
end Go.AM
