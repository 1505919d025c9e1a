/-
  Own work, part of the proof of these laws: the code of the functions that the law reaches, as the machine has it; read off the program as the text is compiled.
-/
import Derived.Test.YtpnaenhghnkggaaGreatDoorCoA
set_option maxRecDepth 10000
set_option maxHeartbeats 64000000
set_option linter.unusedVariables false
set_option linter.unusedSimpArgs false
set_option maxRecDepth 100000
set_option maxHeartbeats 4000000
namespace Go.AM
open Go Go.Proofs
def A3I:A3:=(⟨_,by conv=>lhs;cbv⟩:{ c // gF Tryz.f25 []=some c }).1
def Ae1:A3:=(⟨_,by conv=>lhs;cbv⟩:{ c // gF Tryz.f31 []=some c }).1
def A8M:A3:=(⟨_,by conv=>lhs;cbv⟩:{ c // gF Tryz.f39 []=some c }).1
def Afr:A4:=(⟨_,by conv=>lhs;cbv⟩:{ c // gL Tryz.f43 0 []=some c }).1
def A8P:A3:=(⟨_,by intro a;conv=>lhs;cbv⟩:{ c:A4->A3 // ∀ a,gF Tryz.f43 [(0,a)]=some (c a) }).1 Afr
def Afs:A4:=(⟨_,by conv=>lhs;cbv⟩:{ c // gL Tryz.f46 0 []=some c }).1
def A3J:A3:=(⟨_,by intro a;conv=>lhs;cbv⟩:{ c:A4->A3 // ∀ a,gF Tryz.f46 [(0,a)]=some (c a) }).1 Afs
def YE:A3:=(⟨_,by conv=>lhs;cbv⟩:{ c // gF Tryz.f50 []=some c }).1
def AfP:A4:=(⟨_,by conv=>lhs;cbv⟩:{ c // gL Tryz.f68 2 []=some c }).1
def AfA:A4:=(⟨_,by conv=>lhs;cbv⟩:{ c // gL Tryz.f68 0 []=some c }).1
def A3M:A3:=(⟨_,by intro a b;conv=>lhs;cbv⟩:{ c:A4->A4->A3 // ∀ a b,gF Tryz.f68 [(0,a),(2,b)]=some (c a b) }).1 AfA AfP
def A3O:A3:=(⟨_,by conv=>lhs;cbv⟩:{ c // gF Tryz.f71 []=some c }).1
def AfD:A4:=(⟨_,by conv=>lhs;cbv⟩:{ c // gL Tryz.f74 0 []=some c }).1
def A94:A3:=(⟨_,by intro a;conv=>lhs;cbv⟩:{ c:A4->A3 // ∀ a,gF Tryz.f74 [(0,a)]=some (c a) }).1 AfD
def Pw:A4:=(⟨_,by conv=>lhs;cbv⟩:{ c // gL Tryz.f77 6 []=some c }).1
def AfV:A4:=(⟨_,by conv=>lhs;cbv⟩:{ c // gL Tryz.f77 4 []=some c }).1
def AfR:A4:=(⟨_,by conv=>lhs;cbv⟩:{ c // gL Tryz.f77 2 []=some c }).1
def AfE:A4:=(⟨_,by conv=>lhs;cbv⟩:{ c // gL Tryz.f77 0 []=some c }).1
def A3Q:A3:=(⟨_,by intro a b d e;conv=>lhs;cbv⟩:{ c:A4->A4->A4->A4->A3 // ∀ a b d e,gF Tryz.f77 [(0,a),(2,b),(4,d),(6,e)]=some (c a b d e) }).1 AfE AfR AfV Pw
def A3R:A3:=(⟨_,by conv=>lhs;cbv⟩:{ c // gF Tryz.f81 []=some c }).1
def RO:A3:=(⟨_,by conv=>lhs;cbv⟩:{ c // gF Tryz.f86 []=some c }).1
def A97:A3:=(⟨_,by conv=>lhs;cbv⟩:{ c // gF Tryz.f95 []=some c }).1
def A99:A3:=(⟨_,by conv=>lhs;cbv⟩:{ c // gF Tryz.f98 []=some c }).1
def AfW:A4:=(⟨_,by conv=>lhs;cbv⟩:{ c // gL Tryz.f101 4 []=some c }).1
def AfS:A4:=(⟨_,by conv=>lhs;cbv⟩:{ c // gL Tryz.f101 2 []=some c }).1
def AfJ:A4:=(⟨_,by intro a b;conv=>lhs;cbv⟩:{ c:A4->A4->A4 // ∀ a b,gL Tryz.f101 0 [(2,a),(4,b)]=some (c a b) }).1 AfS AfW
def A3U:A3:=(⟨_,by intro a;conv=>lhs;cbv⟩:{ c:A4->A3 // ∀ a,gF Tryz.f101 [(0,a)]=some (c a) }).1 AfJ
def Acc:A4:=(⟨_,by conv=>lhs;cbv⟩:{ c // gL Tryz.f104 0 []=some c }).1
def A0P:A3:=(⟨_,by intro a;conv=>lhs;cbv⟩:{ c:A4->A3 // ∀ a,gF Tryz.f104 [(0,a)]=some (c a) }).1 Acc
def A0S:A3:=(⟨_,by conv=>lhs;cbv⟩:{ c // gF Tryz.f107 []=some c }).1
def A0W:A3:=(⟨_,by conv=>lhs;cbv⟩:{ c // gF Tryz.f123 []=some c }).1
def A11:A3:=(⟨_,by conv=>lhs;cbv⟩:{ c // gF Tryz.f131 []=some c }).1
def A13:A3:=(⟨_,by conv=>lhs;cbv⟩:{ c // gF Tryz.f134 []=some c }).1
def Acj:A4:=(⟨_,by conv=>lhs;cbv⟩:{ c // gL Tryz.f137 0 []=some c }).1
def SX:A3:=(⟨_,by intro a;conv=>lhs;cbv⟩:{ c:A4->A3 // ∀ a,gF Tryz.f137 [(0,a)]=some (c a) }).1 Acj
def Ack:A4:=(⟨_,by conv=>lhs;cbv⟩:{ c // gL Tryz.f140 0 []=some c }).1
def A17:A3:=(⟨_,by intro a;conv=>lhs;cbv⟩:{ c:A4->A3 // ∀ a,gF Tryz.f140 [(0,a)]=some (c a) }).1 Ack
def A19:A3:=(⟨_,by conv=>lhs;cbv⟩:{ c // gF Tryz.f143 []=some c }).1
def A1c:A3:=(⟨_,by conv=>lhs;cbv⟩:{ c // gF Tryz.f146 []=some c }).1
def SZ:A3:=(⟨_,by conv=>lhs;cbv⟩:{ c // gF Tryz.f149 []=some c }).1
def HI:A4:=(⟨_,by conv=>lhs;cbv⟩:{ c // gL Tryz.f152 0 []=some c }).1
def Dn:A3:=(⟨_,by intro a;conv=>lhs;cbv⟩:{ c:A4->A3 // ∀ a,gF Tryz.f152 [(0,a)] [[[0],[1],[2],[3],[4],[5],[6],[7],[8],[9],[10],[11],[12],[13],[14],[15],[16],[17],[18],[19],[20],[21],[22],[23],[24],[25],[26],[27],[28],[29],[30],[31],[32],[33],[34],[35],[36],[37],[38]],[[0],[1],[2],[3],[4],[6],[7],[9],[10],[11],[12],[5,10],[8,10],[13],[14],[15]],[[0],[1],[2],[3],[4],[6],[7],[9],[10],[11],[12],[5,10],[8,10],[13],[14],[15]]]=some (c a) }).1 HI
def Ma:A3:=(⟨_,by conv=>lhs;cbv⟩:{ c // gF Tryz.f157 [] [[[0],[1],[2],[3],[4],[5],[6],[7],[8],[9],[10],[11],[12],[13],[14],[15],[16],[17],[18],[19],[20],[21],[22],[23],[24],[25],[26],[27],[28],[29],[30],[31],[32],[33],[34],[35],[36]]]=some c }).1
def Aco:A4:=(⟨_,by conv=>lhs;cbv⟩:{ c // gL Tryz.f163 0 []=some c }).1
def A1j:A3:=(⟨_,by intro a;conv=>lhs;cbv⟩:{ c:A4->A3 // ∀ a,gF Tryz.f163 [(0,a)]=some (c a) }).1 Aco
def A1m:A3:=(⟨_,by conv=>lhs;cbv⟩:{ c // gF Tryz.f166 []=some c }).1
def Acp:A4:=(⟨_,by conv=>lhs;cbv⟩:{ c // gL Tryz.f169 0 []=some c }).1
def A1o:A3:=(⟨_,by intro a;conv=>lhs;cbv⟩:{ c:A4->A3 // ∀ a,gF Tryz.f169 [(0,a)]=some (c a) }).1 Acp
def Acu:A4:=(⟨_,by conv=>lhs;cbv⟩:{ c // gL Tryz.f179 0 []=some c }).1
def A1r:A3:=(⟨_,by intro a;conv=>lhs;cbv⟩:{ c:A4->A3 // ∀ a,gF Tryz.f179 [(0,a)]=some (c a) }).1 Acu
def AcR:A4:=(⟨_,by conv=>lhs;cbv⟩:{ c // gL Tryz.f183 2 []=some c }).1
def Acw:A4:=(⟨_,by intro a;conv=>lhs;cbv⟩:{ c:A4->A4 // ∀ a,gL Tryz.f183 0 [(2,a)]=some (c a) }).1 AcR
def A1v:A3:=(⟨_,by intro a;conv=>lhs;cbv⟩:{ c:A4->A3 // ∀ a,gF Tryz.f183 [(0,a)]=some (c a) }).1 Acw
def A1x:A3:=(⟨_,by conv=>lhs;cbv⟩:{ c // gF Tryz.f186 []=some c }).1
def Acz:A4:=(⟨_,by conv=>lhs;cbv⟩:{ c // gL Tryz.f189 0 []=some c }).1
def Pj:A3:=(⟨_,by intro a;conv=>lhs;cbv⟩:{ c:A4->A3 // ∀ a,gF Tryz.f189 [(0,a)]=some (c a) }).1 Acz
def AcB:A4:=(⟨_,by conv=>lhs;cbv⟩:{ c // gL Tryz.f192 0 []=some c }).1
def A1C:A3:=(⟨_,by intro a;conv=>lhs;cbv⟩:{ c:A4->A3 // ∀ a,gF Tryz.f192 [(0,a)]=some (c a) }).1 AcB
def Pk:A3:=(⟨_,by conv=>lhs;cbv⟩:{ c // gF Tryz.f195 []=some c }).1
def A1H:A3:=(⟨_,by conv=>lhs;cbv⟩:{ c // gF Tryz.f198 [] [[[0],[1],[2],[3],[4],[5],[6],[7],[8],[9],[10],[11],[12],[13],[14],[15],[16],[17],[18],[19],[20],[21],[22],[23]]]=some c }).1
def A45:A4:=(⟨_,by conv=>lhs;cbv⟩:{ c // gL Tryz.f201 0 [] [[[0],[1],[2],[4],[5],[6],[7],[8],[3,8],[9],[10],[11],[12]],[[0],[1],[2],[4],[5],[6],[7],[8],[9],[3,9],[10],[11],[12],[13]],[[0],[1],[2],[4],[5],[6],[7],[8],[9],[11],[12],[13],[14],[3,14,9],[10,14],[15],[16],[17],[18]]]=some c }).1
def A8C:A3:=(⟨_,by intro a;conv=>lhs;cbv⟩:{ c:A4->A3 // ∀ a,gF Tryz.f201 [(0,a)]=some (c a) }).1 A45
def A1J:A3:=(⟨_,by conv=>lhs;cbv⟩:{ c // gF Tryz.f206 []=some c }).1
def A1L:A3:=(⟨_,by conv=>lhs;cbv⟩:{ c // gF Tryz.f209 []=some c }).1
def A1O:A3:=(⟨_,by conv=>lhs;cbv⟩:{ c // gF Tryz.f212 []=some c }).1
def A8F:A3:=(⟨_,by conv=>lhs;cbv⟩:{ c // gF Tryz.f218 []=some c }).1
def T7:A3:=(⟨_,by conv=>lhs;cbv⟩:{ c // gF Tryz.f221 []=some c }).1
def A1Y:A3:=(⟨_,by conv=>lhs;cbv⟩:{ c // gF Tryz.f224 []=some c }).1
def A20:A3:=(⟨_,by conv=>lhs;cbv⟩:{ c // gF Tryz.f227 []=some c }).1
def T8:A3:=(⟨_,by conv=>lhs;cbv⟩:{ c // gF Tryz.f230 []=some c }).1
def T9:A3:=(⟨_,by conv=>lhs;cbv⟩:{ c // gF Tryz.f234 [] [[[0],[1],[2],[3],[4],[5],[6],[7],[8],[9],[10],[11],[12],[13],[14],[15],[16],[17],[18],[19],[20],[21],[22],[23],[24],[25],[26],[27],[28],[29],[30],[31],[32],[33],[34],[35],[36],[37],[38],[39],[40],[41],[42],[43],[44],[45],[46],[47],[48],[49],[50],[51]]]=some c }).1
def Po:A3:=(⟨_,by conv=>lhs;cbv⟩:{ c // gF Tryz.f237 [] [[[0],[1],[2],[3],[4],[5],[6],[7],[8],[9],[10],[11],[12],[13],[14],[15],[16],[17],[18],[19],[20],[21,18,15],[22]]]=some c }).1
def A26:A3:=(⟨_,by conv=>lhs;cbv⟩:{ c // gF Tryz.f240 []=some c }).1
def A46:A4:=(⟨_,by conv=>lhs;cbv⟩:{ c // gL Tryz.f243 0 []=some c }).1
def A29:A3:=(⟨_,by intro a;conv=>lhs;cbv⟩:{ c:A4->A3 // ∀ a,gF Tryz.f243 [(0,a)]=some (c a) }).1 A46
def A2b:A3:=(⟨_,by conv=>lhs;cbv⟩:{ c // gF Tryz.f246 []=some c }).1
end Go.AM
