/-
  Own work, part of the proof of these laws: the code of the functions that the law reaches, as the machine has it; read off the program as the text is compiled.
-/
import Derived.Test.YthhlhddnndlhkaaGreatDoorCoA
set_option maxRecDepth 10000
set_option maxHeartbeats 64000000
set_option linter.unusedVariables false
set_option linter.unusedSimpArgs false
set_option maxRecDepth 100000
set_option maxHeartbeats 4000000
namespace Go.AM
open Go Go.Proofs
def XC:A3:=(⟨_,by conv=>lhs;cbv⟩:{ c // gF Tryz.f22 []=some c }).1
def XE:A3:=(⟨_,by conv=>lhs;cbv⟩:{ c // gF Tryz.f32 [] [[[0],[1],[2],[3],[4],[5],[6],[7],[8],[9],[10],[11],[12],[13],[14],[15],[16],[17],[18],[19],[20],[21],[22],[23],[24],[25],[26],[27],[28],[29],[30],[31],[32],[33],[34],[35],[36]]]=some c }).1
def A97:A3:=(⟨_,by conv=>lhs;cbv⟩:{ c // gF Tryz.f43 []=some c }).1
def Aoc:A2:=(⟨_,by conv=>lhs;cbv⟩:{ c // gL Tryz.f51 0 []=some c }).1
def A9b:A3:=(⟨_,by intro a;conv=>lhs;cbv⟩:{ c:A2->A3 // ∀ a,gF Tryz.f51 [(0,a)]=some (c a) }).1 Aoc
def A9e:A3:=(⟨_,by conv=>lhs;cbv⟩:{ c // gF Tryz.f56 []=some c }).1
def Aof:A2:=(⟨_,by conv=>lhs;cbv⟩:{ c // gL Tryz.f60 0 []=some c }).1
def A9g:A3:=(⟨_,by intro a;conv=>lhs;cbv⟩:{ c:A2->A3 // ∀ a,gF Tryz.f60 [(0,a)]=some (c a) }).1 Aof
def Aom:A2:=(⟨_,by conv=>lhs;cbv⟩:{ c // gL Tryz.f69 0 []=some c }).1
def A3v:A3:=(⟨_,by intro a;conv=>lhs;cbv⟩:{ c:A2->A3 // ∀ a,gF Tryz.f69 [(0,a)]=some (c a) }).1 Aom
def Aop:A2:=(⟨_,by conv=>lhs;cbv⟩:{ c // gL Tryz.f76 0 []=some c }).1
def A3x:A3:=(⟨_,by intro a;conv=>lhs;cbv⟩:{ c:A2->A3 // ∀ a,gF Tryz.f76 [(0,a)]=some (c a) }).1 Aop
def A9v:A3:=(⟨_,by conv=>lhs;cbv⟩:{ c // gF Tryz.f79 []=some c }).1
def A77:A2:=(⟨_,by conv=>lhs;cbv⟩:{ c // gL Tryz.f82 0 []=some c }).1
def A9y:A3:=(⟨_,by intro a;conv=>lhs;cbv⟩:{ c:A2->A3 // ∀ a,gF Tryz.f82 [(0,a)]=some (c a) }).1 A77
def Aox:A2:=(⟨_,by conv=>lhs;cbv⟩:{ c // gL Tryz.f93 0 [] [[[0],[1],[2],[3],[4],[5],[6],[7],[8],[9],[10],[11]],[[0],[1],[2],[3],[4],[5],[6],[7],[8],[9],[10],[11,1],[12],[13]]]=some c }).1
def A9J:A3:=(⟨_,by intro a;conv=>lhs;cbv⟩:{ c:A2->A3 // ∀ a,gF Tryz.f93 [(0,a)]=some (c a) }).1 Aox
def Aoz:A2:=(⟨_,by conv=>lhs;cbv⟩:{ c // gL Tryz.f96 0 []=some c }).1
def A9M:A3:=(⟨_,by intro a;conv=>lhs;cbv⟩:{ c:A2->A3 // ∀ a,gF Tryz.f96 [(0,a)]=some (c a) }).1 Aoz
def Adp:A2:=(⟨_,by conv=>lhs;cbv⟩:{ c // gL Tryz.f109 0 []=some c }).1
def Zp:A3:=(⟨_,by intro a;conv=>lhs;cbv⟩:{ c:A2->A3 // ∀ a,gF Tryz.f109 [(0,a)]=some (c a) }).1 Adp
def Akg:A2:=(⟨_,by conv=>lhs;cbv⟩:{ c // gL Tryz.f112 0 [] [[[0],[1],[2],[3],[4],[5],[6],[7],[8],[9],[10],[11],[12],[13],[14],[15],[16],[17,15,12],[18]],[[0],[1],[2],[3],[4],[5],[6],[7],[8],[9],[10],[11],[12],[13],[14],[15],[16],[17],[18],[19]]]=some c }).1
def RR:A3:=(⟨_,by intro a;conv=>lhs;cbv⟩:{ c:A2->A3 // ∀ a,gF Tryz.f112 [(0,a)]=some (c a) }).1 Akg
def PD:A3:=(⟨_,by conv=>lhs;cbv⟩:{ c // gF Tryz.f117 []=some c }).1
def Kc:A3:=(⟨_,by conv=>lhs;cbv⟩:{ c // gF Tryz.f120 [] [[[0],[1],[2],[3],[4],[5],[6],[7],[8],[9],[10],[11],[12],[13]],[[0],[1],[2],[3],[4],[5],[6],[7],[8],[9],[10],[11],[12],[13],[14]]]=some c }).1
def PF:A3:=(⟨_,by conv=>lhs;cbv⟩:{ c // gF Tryz.f124 []=some c }).1
def Adu:A2:=(⟨_,by conv=>lhs;cbv⟩:{ c // gL Tryz.f128 2 [] [[[0],[1],[2],[3],[4],[5],[6],[7],[8],[9]],[[0],[1],[2],[3],[4],[5],[6],[7],[8],[9],[10],[11],[12],[13],[14],[15],[16],[17],[18],[19],[20],[21],[22],[23],[24],[25],[26],[27]]]=some c }).1
def Akm:A2:=(⟨_,by intro a;conv=>lhs;cbv⟩:{ c:A2->A2 // ∀ a,gL Tryz.f128 0 [(2,a)] [[[0],[1],[2],[3],[4],[5],[6],[7],[8],[9],[10],[11],[12],[13],[14],[15],[16],[17],[18],[19],[20],[21],[22]],[[0],[1],[2],[3],[4],[5],[6],[7],[8],[9]]]=some (c a) }).1 Adu
def RY:A3:=(⟨_,by intro a;conv=>lhs;cbv⟩:{ c:A2->A3 // ∀ a,gF Tryz.f128 [(0,a)]=some (c a) }).1 Akm
def ZA:A3:=(⟨_,by conv=>lhs;cbv⟩:{ c // gF Tryz.f137 []=some c }).1
def A72:A2:=(⟨_,by conv=>lhs;cbv⟩:{ c // gL Tryz.f140 0 []=some c }).1
def ZD:A3:=(⟨_,by intro a;conv=>lhs;cbv⟩:{ c:A2->A3 // ∀ a,gF Tryz.f140 [(0,a)]=some (c a) }).1 A72
def ZG:A3:=(⟨_,by conv=>lhs;cbv⟩:{ c // gF Tryz.f143 []=some c }).1
def Kd:A3:=⟨[],.block 0 (.loop (.seq (.seq (.reg [o 4 (.mov (.t 0)),o 5 (.bin .neq none (.t 4) (.c (.i .u64 0)))]) (.cond (.t 5) (.skip) (.exit 0))) (.seq (.block 1 (.reg [o 10 (.mov (.t 1)),o 11 (.mov (.t 0)),o 12 (.call (.c (.f AS [] [])) [(.t 11)]),o 13 (.call (.t 10) [(.t 12)])])) (.reg [o 6 (.mov (.t 0)),o 7 (.mov (.t 0)),o 8 (.bin .sub none (.t 7) (.c (.i .u64 1))),o 9 (.bin .and none (.t 6) (.t 8)),o 0 (.mov (.t 9))]))))⟩
def A73:A2:=(⟨_,by conv=>lhs;cbv⟩:{ c // gL Tryz.f153 0 []=some c }).1
def ZL:A3:=(⟨_,by intro a;conv=>lhs;cbv⟩:{ c:A2->A3 // ∀ a,gF Tryz.f153 [(0,a)]=some (c a) }).1 A73
def Adq:A2:=(⟨_,by conv=>lhs;cbv⟩:{ c // gL Tryz.f160 0 [] [[[0],[1],[2],[3],[4],[5],[6],[7],[8],[9],[10]],[[0],[1],[2],[3],[4],[5],[6],[7],[8],[9],[10],[11],[12]]]=some c }).1
def ZQ:A3:=(⟨_,by intro a;conv=>lhs;cbv⟩:{ c:A2->A3 // ∀ a,gF Tryz.f160 [(0,a)]=some (c a) }).1 Adq
def Akx:A2:=(⟨_,by conv=>lhs;cbv⟩:{ c // gL Tryz.f163 0 []=some c }).1
def S4:A3:=(⟨_,by intro a;conv=>lhs;cbv⟩:{ c:A2->A3 // ∀ a,gF Tryz.f163 [(0,a)]=some (c a) }).1 Akx
def AkA:A2:=(⟨_,by conv=>lhs;cbv⟩:{ c // gL Tryz.f167 0 []=some c }).1
def PL:A3:=(⟨_,by intro a;conv=>lhs;cbv⟩:{ c:A2->A3 // ∀ a,gF Tryz.f167 [(0,a)]=some (c a) }).1 AkA
def R1:A2:=(⟨_,by conv=>lhs;cbv⟩:{ c // gL Tryz.f170 0 []=some c }).1
def ZV:A3:=(⟨_,by intro a;conv=>lhs;cbv⟩:{ c:A2->A3 // ∀ a,gF Tryz.f170 [(0,a)]=some (c a) }).1 R1
def AkE:A2:=(⟨_,by conv=>lhs;cbv⟩:{ c // gL Tryz.f173 0 []=some c }).1
def ZY:A3:=(⟨_,by intro a;conv=>lhs;cbv⟩:{ c:A2->A3 // ∀ a,gF Tryz.f173 [(0,a)]=some (c a) }).1 AkE
def Al7:A2:=(⟨_,by conv=>lhs;cbv⟩:{ c // gL Tryz.f176 2 []=some c }).1
def AkF:A2:=(⟨_,by conv=>lhs;cbv⟩:{ c // gL Tryz.f176 0 []=some c }).1
def S6:A3:=(⟨_,by intro a b;conv=>lhs;cbv⟩:{ c:A2->A2->A3 // ∀ a b,gF Tryz.f176 [(0,a),(2,b)]=some (c a b) }).1 AkF Al7
def D8:A2:=(⟨_,by conv=>lhs;cbv⟩:{ c // gL Tryz.f179 3 [] [[[0],[1],[2],[3],[4],[5],[6],[7],[8],[9],[10],[11],[12]],[[0],[1],[2],[3],[4],[5],[6],[9],[10],[11],[12],[13],[7,13],[8],[14],[15]],[[0],[1],[2],[3],[4],[5],[6],[7],[8],[9],[10],[11],[12]]]=some c }).1
def YH:A2:=(⟨_,by conv=>lhs;cbv⟩:{ c // gL Tryz.f179 0 []=some c }).1
def L3:A3:=(⟨_,by intro a b;conv=>lhs;cbv⟩:{ c:A2->A2->A3 // ∀ a b,gF Tryz.f179 [(0,a),(3,b)] [[[0],[1],[2],[3],[4],[5],[6],[7],[8],[9],[10],[11]],[[0],[1],[2],[3],[4],[5],[6],[7],[8]],[[0],[1],[2],[3],[4],[5],[6],[7],[8],[9],[10],[11],[12],[13,6],[14],[15]],[[0],[1],[2],[3],[4],[5],[6],[7],[8],[9],[10]],[[0],[1],[2],[3],[4],[5],[6],[7],[8],[9],[10],[11],[12],[13],[14],[15,8,4],[16],[17],[18]]]=some (c a b) }).1 YH D8
def AkG:A2:=(⟨_,by conv=>lhs;cbv⟩:{ c // gL Tryz.f182 0 []=some c }).1
def A02:A3:=(⟨_,by intro a;conv=>lhs;cbv⟩:{ c:A2->A3 // ∀ a,gF Tryz.f182 [(0,a)]=some (c a) }).1 AkG
def AkJ:A2:=(⟨_,by conv=>lhs;cbv⟩:{ c // gL Tryz.f189 0 []=some c }).1
def A07:A3:=(⟨_,by intro a;conv=>lhs;cbv⟩:{ c:A2->A3 // ∀ a,gF Tryz.f189 [(0,a)]=some (c a) }).1 AkJ
def A0c:A3:=(⟨_,by conv=>lhs;cbv⟩:{ c // gF Tryz.f196 []=some c }).1
def A0f:A3:=(⟨_,by conv=>lhs;cbv⟩:{ c // gF Tryz.f200 []=some c }).1
def AkM:A2:=(⟨_,by conv=>lhs;cbv⟩:{ c // gL Tryz.f203 0 []=some c }).1
def A0h:A3:=(⟨_,by intro a;conv=>lhs;cbv⟩:{ c:A2->A3 // ∀ a,gF Tryz.f203 [(0,a)]=some (c a) }).1 AkM
def A0m:A3:=(⟨_,by conv=>lhs;cbv⟩:{ c // gF Tryz.f209 []=some c }).1
def A0o:A3:=(⟨_,by conv=>lhs;cbv⟩:{ c // gF Tryz.f212 []=some c }).1
def A0q:A3:=(⟨_,by conv=>lhs;cbv⟩:{ c // gF Tryz.f215 []=some c }).1
def AkO:A2:=(⟨_,by conv=>lhs;cbv⟩:{ c // gL Tryz.f218 0 []=some c }).1
def PS:A3:=(⟨_,by intro a;conv=>lhs;cbv⟩:{ c:A2->A3 // ∀ a,gF Tryz.f218 [(0,a)]=some (c a) }).1 AkO
def AkQ:A2:=(⟨_,by conv=>lhs;cbv⟩:{ c // gL Tryz.f221 0 []=some c }).1
def A0v:A3:=(⟨_,by intro a;conv=>lhs;cbv⟩:{ c:A2->A3 // ∀ a,gF Tryz.f221 [(0,a)]=some (c a) }).1 AkQ
def L5:A3:=(⟨_,by conv=>lhs;cbv⟩:{ c // gF Tryz.f224 []=some c }).1
def A0A:A3:=(⟨_,by conv=>lhs;cbv⟩:{ c // gF Tryz.f227 [] [[[0],[1],[2],[3],[4],[5],[6],[7],[8],[9],[10],[11],[12],[13],[14],[15],[16],[17],[18],[19],[20],[21],[22],[23]]]=some c }).1
def Ads:A2:=(⟨_,by conv=>lhs;cbv⟩:{ c // gL Tryz.f230 0 [] [[[0],[1],[2],[4],[5],[6],[7],[8],[3,8],[9],[10],[11],[12]],[[0],[1],[2],[4],[5],[6],[7],[8],[9],[3,9],[10],[11],[12],[13]],[[0],[1],[2],[4],[5],[6],[7],[8],[9],[11],[12],[13],[14],[3,14,9],[10,14],[15],[16],[17],[18]]]=some c }).1
def A0C:A3:=(⟨_,by intro a;conv=>lhs;cbv⟩:{ c:A2->A3 // ∀ a,gF Tryz.f230 [(0,a)]=some (c a) }).1 Ads
def A6Q:A3:=(⟨_,by conv=>lhs;cbv⟩:{ c // gF Tryz.f234 []=some c }).1
def Sc:A3:=(⟨_,by conv=>lhs;cbv⟩:{ c // gF Tryz.f237 [] [[[0],[1],[2],[3],[4],[5],[6],[7],[8],[9],[10],[11],[12],[13],[14],[15],[16],[17],[18],[19],[20],[21],[22],[23],[24],[25],[26],[27],[28],[29],[30],[31],[32],[33],[34],[35],[36],[37],[38],[39],[40],[41],[42],[43],[44],[45],[46],[47],[48],[49],[50],[51]]]=some c }).1
def PT:A3:=(⟨_,by conv=>lhs;cbv⟩:{ c // gF Tryz.f240 [] [[[0],[1],[2],[3],[4],[5],[6],[7],[8],[9],[10],[11],[12],[13],[14],[15],[16],[17],[18],[19],[20],[21,18,15],[22]]]=some c }).1
def A0L:A3:=(⟨_,by conv=>lhs;cbv⟩:{ c // gF Tryz.f243 []=some c }).1
def A0O:A3:=(⟨_,by conv=>lhs;cbv⟩:{ c // gF Tryz.f246 []=some c }).1
def A0Q:A3:=(⟨_,by conv=>lhs;cbv⟩:{ c // gF Tryz.f249 []=some c }).1
def Ke:A3:=(⟨_,by conv=>lhs;cbv⟩:{ c // gF Tryz.f252 []=some c }).1
def A0W:A3:=(⟨_,by conv=>lhs;cbv⟩:{ c // gF Tryz.f255 []=some c }).1
def AkY:A2:=(⟨_,by conv=>lhs;cbv⟩:{ c // gL Tryz.f258 0 []=some c }).1
def A0Z:A3:=(⟨_,by intro a;conv=>lhs;cbv⟩:{ c:A2->A3 // ∀ a,gF Tryz.f258 [(0,a)]=some (c a) }).1 AkY
def Jf:A3:=(⟨_,by conv=>lhs;cbv⟩:{ c // gF Tryz.f261 []=some c }).1
end Go.AM
