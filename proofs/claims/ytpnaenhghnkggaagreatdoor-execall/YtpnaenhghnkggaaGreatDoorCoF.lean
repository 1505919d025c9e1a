/-
  Own work, part of the proof of these laws: the code of the functions that the law reaches, as the machine has it; read off the program as the text is compiled.
-/
import Derived.Test.YtpnaenhghnkggaaGreatDoorCoA
set_option maxRecDepth 10000
set_option maxHeartbeats 64000000
set_option linter.unusedVariables false
set_option linter.unusedSimpArgs false
set_option maxRecDepth 100000
set_option maxHeartbeats 4000000
namespace Go.AM
open Go Go.Proofs
def Aox:A4:=(⟨_,by conv=>lhs;cbv⟩:{ c // gF Tryz.f7 [] [[[0],[1],[2],[3],[4],[5],[6],[7],[8],[9],[10],[11],[12],[13],[14],[15],[16],[17],[18],[19],[20],[21],[22],[23],[24],[25],[26],[27],[28],[29],[30],[31],[32],[33],[34],[35],[36],[37],[38],[39],[40],[41],[42],[45],[46],[47],[43,46],[44],[48],[49],[50],[51],[52],[53],[54],[55]]]=some c }).1
def Ap0:A1:=(⟨_,by conv=>lhs;cbv⟩:{ c // gL Tryz.f10 8 []=some c }).1
def A0X:A1:=(⟨_,by conv=>lhs;cbv⟩:{ c // gL Tryz.f10 6 []=some c }).1
def AoW:A1:=(⟨_,by intro a;conv=>lhs;cbv⟩:{ c:A1->A1 // ∀a,gL Tryz.f10 4 [(6,a)]=some (c a) }).1 A0X
def AoT:A1:=(⟨_,by intro a;conv=>lhs;cbv⟩:{ c:A1->A1 // ∀a,gL Tryz.f10 2 [(4,a)]=some (c a) }).1 AoW
def AoQ:A1:=(⟨_,by intro a;conv=>lhs;cbv⟩:{ c:A1->A1 // ∀a,gL Tryz.f10 0 [(2,a)]=some (c a) }).1 AoT
def Acb:A4:=(⟨_,by intro a b;conv=>lhs;cbv⟩:{ c:A1->A1->A4 // ∀a b,gF Tryz.f10 [(0,a),(8,b)]=some (c a b) }).1 AoQ Ap0
def AkZ:A1:=(⟨_,by conv=>lhs;cbv⟩:{ c // gL Tryz.f12 10 []=some c }).1
def Ap1:A1:=(⟨_,by intro a;conv=>lhs;cbv⟩:{ c:A1->A1 // ∀a,gL Tryz.f12 8 [(10,a)]=some (c a) }).1 AkZ
def AoZ:A1:=(⟨_,by intro a;conv=>lhs;cbv⟩:{ c:A1->A1 // ∀a,gL Tryz.f12 6 [(8,a)]=some (c a) }).1 Ap1
def AoY:A1:=(⟨_,by conv=>lhs;cbv⟩:{ c // gL Tryz.f12 4 []=some c }).1
def AoV:A1:=(⟨_,by intro a;conv=>lhs;cbv⟩:{ c:A1->A1 // ∀a,gL Tryz.f12 2 [(4,a)]=some (c a) }).1 AoY
def AoS:A1:=(⟨_,by conv=>lhs;cbv⟩:{ c // gL Tryz.f12 0 [] [[[0],[1],[2],[3],[4],[5],[6],[7],[8],[9],[10],[11],[12],[13],[14],[15],[16],[17],[18],[19],[20],[21],[22],[23]]]=some c }).1
def Ak8:A4:=(⟨_,by intro a b d;conv=>lhs;cbv⟩:{ c:A1->A1->A1->A4 // ∀a b d,gF Tryz.f12 [(0,a),(2,b),(6,d)]=some (c a b d) }).1 AoS AoV AoZ
def Aiu:A4:=(⟨_,by conv=>lhs;cbv⟩:{ c // gF Tryz.f14 [] [[[0],[1],[3],[4],[2,4,3],[5],[6],[7],[8],[9],[11],[12],[10,12,11],[13],[14],[15],[16],[17],[18],[20],[21],[19,21,20],[22],[23],[24],[25],[26],[27],[29],[30],[28,30,29],[31],[32],[33],[34]]]=some c }).1
def Akm:A1:=(⟨_,by conv=>lhs;cbv⟩:{ c // gL Tryz.f18 0 []=some c }).1
def Aiw:A4:=(⟨_,by intro a;conv=>lhs;cbv⟩:{ c:A1->A4 // ∀a,gF Tryz.f18 [(0,a)]=some (c a) }).1 Akm
def Tn:A4:=(⟨_,by conv=>lhs;cbv⟩:{ c // gF Tryz.f21 []=some c }).1
def A6e:A4:=(⟨_,by conv=>lhs;cbv⟩:{ c // gF Tryz.f24 []=some c }).1
def Aiz:A4:=(⟨_,by conv=>lhs;cbv⟩:{ c // gF Tryz.f28 []=some c }).1
def Al0:A1:=(⟨_,by conv=>lhs;cbv⟩:{ c // gL Tryz.f33 1 []=some c }).1
def JF:A4:=(⟨_,by intro a;conv=>lhs;cbv⟩:{ c:A1->A4 // ∀a,gF Tryz.f33 [(1,a)] [[[0],[1],[2],[3],[4],[5],[6],[7],[8],[9],[10],[11],[12],[13],[14]],[[0],[1],[2],[3],[4],[5],[6],[7],[8],[13],[9],[10],[11],[12],[14],[15]],[[0],[1],[2],[3],[4],[5],[6],[7],[8],[9],[10],[11],[12]]]=some (c a) }).1 Al0
def Akq:A1:=(⟨_,by conv=>lhs;cbv⟩:{ c // gL Tryz.f36 0 []=some c }).1
def AiB:A4:=(⟨_,by intro a;conv=>lhs;cbv⟩:{ c:A1->A4 // ∀a,gF Tryz.f36 [(0,a)]=some (c a) }).1 Akq
def A4s:A1:=(⟨_,by conv=>lhs;cbv⟩:{ c // gL Tryz.f38 0 []=some c }).1
def AiD:A4:=(⟨_,by intro a;conv=>lhs;cbv⟩:{ c:A1->A4 // ∀a,gF Tryz.f38 [(0,a)]=some (c a) }).1 A4s
def AbZ:A4:=(⟨_,by conv=>lhs;cbv⟩:{ c // gF Tryz.f48 []=some c }).1
def Akx:A1:=(⟨_,by conv=>lhs;cbv⟩:{ c // gL Tryz.f53 0 []=some c }).1
def A6j:A4:=(⟨_,by intro a;conv=>lhs;cbv⟩:{ c:A1->A4 // ∀a,gF Tryz.f53 [(0,a)]=some (c a) }).1 Akx
def Akz:A1:=(⟨_,by conv=>lhs;cbv⟩:{ c // gL Tryz.f55 0 []=some c }).1
def AiE:A4:=(⟨_,by intro a;conv=>lhs;cbv⟩:{ c:A1->A4 // ∀a,gF Tryz.f55 [(0,a)]=some (c a) }).1 Akz
def AkB:A1:=(⟨_,by conv=>lhs;cbv⟩:{ c // gL Tryz.f57 0 [] [[[0],[1],[2],[3],[4],[5],[6],[7],[8],[9],[10]],[[0],[1],[2],[3],[4],[5],[6],[7],[8],[9],[10],[13],[14],[15],[16],[17],[18],[19],[20],[11,20,17,15,13],[12],[21],[22],[23]]]=some c }).1
def Ac3:A4:=(⟨_,by intro a;conv=>lhs;cbv⟩:{ c:A1->A4 // ∀a,gF Tryz.f57 [(0,a)]=some (c a) }).1 AkB
def A6k:A4:=(⟨_,by conv=>lhs;cbv⟩:{ c // gF Tryz.f59 []=some c }).1
def A6l:A4:=(⟨_,by conv=>lhs;cbv⟩:{ c // gF Tryz.f62 []=some c }).1
def AkF:A1:=(⟨_,by conv=>lhs;cbv⟩:{ c // gL Tryz.f64 0 []=some c }).1
def Ac5:A4:=(⟨_,by intro a;conv=>lhs;cbv⟩:{ c:A1->A4 // ∀a,gF Tryz.f64 [(0,a)]=some (c a) }).1 AkF
def Al7:A1:=(⟨_,by conv=>lhs;cbv⟩:{ c // gL Tryz.f66 2 []=some c }).1
def AkH:A1:=(⟨_,by intro a;conv=>lhs;cbv⟩:{ c:A1->A1 // ∀a,gL Tryz.f66 0 [(2,a)]=some (c a) }).1 Al7
def Ac7:A4:=(⟨_,by intro a;conv=>lhs;cbv⟩:{ c:A1->A4 // ∀a,gF Tryz.f66 [(0,a)]=some (c a) }).1 AkH
def AkN:A1:=(⟨_,by conv=>lhs;cbv⟩:{ c // gL Tryz.f80 0 []=some c }).1
def AiH:A4:=(⟨_,by intro a;conv=>lhs;cbv⟩:{ c:A1->A4 // ∀a,gF Tryz.f80 [(0,a)]=some (c a) }).1 AkN
def A0E:A4:=(⟨_,by conv=>lhs;cbv⟩:{ c // gF Tryz.f85 []=some c }).1
def Alb:A1:=(⟨_,by conv=>lhs;cbv⟩:{ c // gL Tryz.f88 2 [] [[[0],[1],[2],[3],[4],[5],[6],[7],[8],[9]],[[0],[1],[2],[3],[4],[5],[6],[7],[8],[9],[10],[11],[12],[13],[14],[15],[16,4],[17],[18]]]=some c }).1
def AkP:A1:=(⟨_,by intro a;conv=>lhs;cbv⟩:{ c:A1->A1 // ∀a,gL Tryz.f88 0 [(2,a)]=some (c a) }).1 Alb
def AiJ:A4:=(⟨_,by intro a;conv=>lhs;cbv⟩:{ c:A1->A4 // ∀a,gF Tryz.f88 [(0,a)]=some (c a) }).1 AkP
def Alc:A1:=(⟨_,by conv=>lhs;cbv⟩:{ c // gL Tryz.f90 2 []=some c }).1
def AkR:A1:=(⟨_,by intro a;conv=>lhs;cbv⟩:{ c:A1->A1 // ∀a,gL Tryz.f90 0 [(2,a)]=some (c a) }).1 Alc
def AiL:A4:=(⟨_,by intro a;conv=>lhs;cbv⟩:{ c:A1->A4 // ∀a,gF Tryz.f90 [(0,a)]=some (c a) }).1 AkR
def Ale:A1:=(⟨_,by conv=>lhs;cbv⟩:{ c // gL Tryz.f92 2 []=some c }).1
def AkT:A1:=(⟨_,by intro a;conv=>lhs;cbv⟩:{ c:A1->A1 // ∀a,gL Tryz.f92 0 [(2,a)]=some (c a) }).1 Ale
def AiN:A4:=(⟨_,by intro a;conv=>lhs;cbv⟩:{ c:A1->A4 // ∀a,gF Tryz.f92 [(0,a)]=some (c a) }).1 AkT
def Ahe:A1:=(⟨_,by conv=>lhs;cbv⟩:{ c // gL Tryz.f109 4 []=some c }).1
def Eg:A1:=(⟨_,by intro a;conv=>lhs;cbv⟩:{ c:A1->A1 // ∀a,gL Tryz.f109 2 [(4,a)]=some (c a) }).1 Ahe
def Agn:A1:=(⟨_,by intro a;conv=>lhs;cbv⟩:{ c:A1->A1 // ∀a,gL Tryz.f109 0 [(2,a)]=some (c a) }).1 Eg
def A2Q:A4:=(⟨_,by intro a;conv=>lhs;cbv⟩:{ c:A1->A4 // ∀a,gF Tryz.f109 [(0,a)]=some (c a) }).1 Agn
def UE:A4:=(⟨_,by conv=>lhs;cbv⟩:{ c // gF Tryz.f111 []=some c }).1
def Agp:A1:=(⟨_,by conv=>lhs;cbv⟩:{ c // gL Tryz.f113 0 [] [[[0],[1],[2],[3],[4],[5],[6],[7],[8],[9]],[[0],[1],[2],[3],[4],[5],[6],[7]],[[0],[1],[2],[3],[4],[5],[6],[7],[8],[9],[10],[11],[12],[13],[14]]]=some c }).1
def UF:A4:=(⟨_,by intro a;conv=>lhs;cbv⟩:{ c:A1->A4 // ∀a,gF Tryz.f113 [(0,a)]=some (c a) }).1 Agp
def UG:A4:=(⟨_,by conv=>lhs;cbv⟩:{ c // gF Tryz.f115 []=some c }).1
def Qs:A4:=(⟨_,by conv=>lhs;cbv⟩:{ c // gF Tryz.f117 []=some c }).1
def UI:A4:=(⟨_,by conv=>lhs;cbv⟩:{ c // gF Tryz.f119 []=some c }).1
def UJ:A4:=(⟨_,by conv=>lhs;cbv⟩:{ c // gF Tryz.f124 []=some c }).1
def Agt:A1:=(⟨_,by conv=>lhs;cbv⟩:{ c // gL Tryz.f127 0 []=some c }).1
def A2Y:A4:=(⟨_,by intro a;conv=>lhs;cbv⟩:{ c:A1->A4 // ∀a,gF Tryz.f127 [(0,a)]=some (c a) }).1 Agt
def UL:A4:=(⟨_,by conv=>lhs;cbv⟩:{ c // gF Tryz.f129 []=some c }).1
def Ahf:A1:=(⟨_,by conv=>lhs;cbv⟩:{ c // gL Tryz.f156 4 []=some c }).1
def Ah3:A1:=(⟨_,by intro a;conv=>lhs;cbv⟩:{ c:A1->A1 // ∀a,gL Tryz.f156 2 [(4,a)] [[[0],[1],[2],[3],[4],[5],[6],[7],[8],[9]],[[0],[1],[2],[3],[4],[5],[6],[7],[8],[9],[10],[11],[12],[13],[14],[15],[16],[17],[18],[19],[20],[21],[22],[23],[24],[25],[26],[27],[28],[29],[30],[31]]]=some (c a) }).1 Ahf
def Agz:A1:=(⟨_,by intro a;conv=>lhs;cbv⟩:{ c:A1->A1 // ∀a,gL Tryz.f156 0 [(2,a)] [[[0],[1],[2],[3],[4],[5],[6],[7],[8],[9],[10],[11],[12],[13],[14],[15],[16],[17],[18],[19],[20],[21],[22],[23],[24],[25],[26],[27],[28],[29],[30]],[[0],[1],[2],[3],[4],[5],[6],[7],[8],[9]]]=some (c a) }).1 Ah3
def AbA:A4:=(⟨_,by intro a;conv=>lhs;cbv⟩:{ c:A1->A4 // ∀a,gF Tryz.f156 [(0,a)]=some (c a) }).1 Agz
def AbC:A4:=(⟨_,by conv=>lhs;cbv⟩:{ c // gF Tryz.f159 []=some c }).1
def Ah5:A1:=(⟨_,by conv=>lhs;cbv⟩:{ c // gL Tryz.f172 2 [] [[[0],[1],[2],[3],[4],[5],[6],[7],[8],[9]],[[0],[1],[2],[3],[4],[5],[6],[7],[8],[9],[10],[11],[12],[13],[14],[15],[16],[17],[18],[19],[20],[21],[22],[23],[24],[25],[26],[27],[28],[29],[30],[31],[32]]]=some c }).1
def AgD:A1:=(⟨_,by conv=>lhs;cbv⟩:{ c // gL Tryz.f172 0 [] [[[0],[1],[2],[3],[4],[5],[6],[7],[8],[9],[10],[11],[12],[13],[14],[15],[16],[17],[18],[19],[20],[21],[22]]]=some c }).1
def A3q:A4:=(⟨_,by intro a b;conv=>lhs;cbv⟩:{ c:A1->A1->A4 // ∀a b,gF Tryz.f172 [(0,a),(2,b)]=some (c a b) }).1 AgD Ah5
def AgE:A1:=(⟨_,by conv=>lhs;cbv⟩:{ c // gL Tryz.f174 0 []=some c }).1
def AbD:A4:=(⟨_,by intro a;conv=>lhs;cbv⟩:{ c:A1->A4 // ∀a,gF Tryz.f174 [(0,a)]=some (c a) }).1 AgE
def Ah6:A1:=(⟨_,by conv=>lhs;cbv⟩:{ c // gL Tryz.f176 2 []=some c }).1
def AgF:A1:=(⟨_,by intro a;conv=>lhs;cbv⟩:{ c:A1->A1 // ∀a,gL Tryz.f176 0 [(2,a)]=some (c a) }).1 Ah6
def UT:A4:=(⟨_,by intro a;conv=>lhs;cbv⟩:{ c:A1->A4 // ∀a,gF Tryz.f176 [(0,a)]=some (c a) }).1 AgF
def A3s:A4:=(⟨_,by conv=>lhs;cbv⟩:{ c // gF Tryz.f180 []=some c }).1
def AbI:A4:=(⟨_,by conv=>lhs;cbv⟩:{ c // gF Tryz.f205 []=some c }).1
def A3S:A4:=(⟨_,by conv=>lhs;cbv⟩:{ c // gF Tryz.f216 []=some c }).1
def AbN:A4:=(⟨_,by conv=>lhs;cbv⟩:{ c // gF Tryz.f232 []=some c }).1
end Go.AM
