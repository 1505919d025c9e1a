/-
  Own work, part of the proof of these laws: the code of the functions that the law reaches, as the machine has it; read off the program as the text is compiled.
-/
import Derived.Test.YtpnaenhghnkggaaGreatDoorCoA
set_option maxRecDepth 10000
set_option maxHeartbeats 64000000
set_option linter.unusedVariables false
set_option linter.unusedSimpArgs false
set_option maxRecDepth 100000
set_option maxHeartbeats 4000000
namespace Go.AM
open Go Go.Proofs
def A6f:A4:=(⟨_,by conv=>lhs;cbv⟩:{ c // gF Tryz.f25 []=some c }).1
def AiA:A4:=(⟨_,by conv=>lhs;cbv⟩:{ c // gF Tryz.f31 []=some c }).1
def AbR:A4:=(⟨_,by conv=>lhs;cbv⟩:{ c // gF Tryz.f39 []=some c }).1
def Aku:A1:=(⟨_,by conv=>lhs;cbv⟩:{ c // gL Tryz.f43 0 []=some c }).1
def AbV:A4:=(⟨_,by intro a;conv=>lhs;cbv⟩:{ c:A1->A4 // ∀a,gF Tryz.f43 [(0,a)]=some (c a) }).1 Aku
def Akv:A1:=(⟨_,by conv=>lhs;cbv⟩:{ c // gL Tryz.f46 0 []=some c }).1
def A6h:A4:=(⟨_,by intro a;conv=>lhs;cbv⟩:{ c:A1->A4 // ∀a,gF Tryz.f46 [(0,a)]=some (c a) }).1 Akv
def A0A:A4:=(⟨_,by conv=>lhs;cbv⟩:{ c // gF Tryz.f50 []=some c }).1
def Al8:A1:=(⟨_,by conv=>lhs;cbv⟩:{ c // gL Tryz.f68 2 []=some c }).1
def AkI:A1:=(⟨_,by conv=>lhs;cbv⟩:{ c // gL Tryz.f68 0 []=some c }).1
def A6n:A4:=(⟨_,by intro a b;conv=>lhs;cbv⟩:{ c:A1->A1->A4 // ∀a b,gF Tryz.f68 [(0,a),(2,b)]=some (c a b) }).1 AkI Al8
def A6p:A4:=(⟨_,by conv=>lhs;cbv⟩:{ c // gF Tryz.f71 []=some c }).1
def AkL:A1:=(⟨_,by conv=>lhs;cbv⟩:{ c // gL Tryz.f74 0 []=some c }).1
def Acd:A4:=(⟨_,by intro a;conv=>lhs;cbv⟩:{ c:A1->A4 // ∀a,gF Tryz.f74 [(0,a)]=some (c a) }).1 AkL
def QJ:A1:=(⟨_,by conv=>lhs;cbv⟩:{ c // gL Tryz.f77 6 []=some c }).1
def Alm:A1:=(⟨_,by conv=>lhs;cbv⟩:{ c // gL Tryz.f77 4 []=some c }).1
def Ala:A1:=(⟨_,by conv=>lhs;cbv⟩:{ c // gL Tryz.f77 2 []=some c }).1
def AkM:A1:=(⟨_,by conv=>lhs;cbv⟩:{ c // gL Tryz.f77 0 []=some c }).1
def A6r:A4:=(⟨_,by intro a b d e;conv=>lhs;cbv⟩:{ c:A1->A1->A1->A1->A4 // ∀a b d e,gF Tryz.f77 [(0,a),(2,b),(4,d),(6,e)]=some (c a b d e) }).1 AkM Ala Alm QJ
def A6s:A4:=(⟨_,by conv=>lhs;cbv⟩:{ c // gF Tryz.f81 []=some c }).1
def Tp:A4:=(⟨_,by conv=>lhs;cbv⟩:{ c // gF Tryz.f86 []=some c }).1
def Ach:A4:=(⟨_,by conv=>lhs;cbv⟩:{ c // gF Tryz.f95 []=some c }).1
def Acj:A4:=(⟨_,by conv=>lhs;cbv⟩:{ c // gF Tryz.f98 []=some c }).1
def Aln:A1:=(⟨_,by conv=>lhs;cbv⟩:{ c // gL Tryz.f101 4 []=some c }).1
def Alf:A1:=(⟨_,by conv=>lhs;cbv⟩:{ c // gL Tryz.f101 2 []=some c }).1
def AkY:A1:=(⟨_,by intro a b;conv=>lhs;cbv⟩:{ c:A1->A1->A1 // ∀a b,gL Tryz.f101 0 [(2,a),(4,b)]=some (c a b) }).1 Alf Aln
def A6v:A4:=(⟨_,by intro a;conv=>lhs;cbv⟩:{ c:A1->A4 // ∀a,gF Tryz.f101 [(0,a)]=some (c a) }).1 AkY
def Agk:A1:=(⟨_,by conv=>lhs;cbv⟩:{ c // gL Tryz.f104 0 []=some c }).1
def A2M:A4:=(⟨_,by intro a;conv=>lhs;cbv⟩:{ c:A1->A4 // ∀a,gF Tryz.f104 [(0,a)]=some (c a) }).1 Agk
def A2P:A4:=(⟨_,by conv=>lhs;cbv⟩:{ c // gF Tryz.f107 []=some c }).1
def A2V:A4:=(⟨_,by conv=>lhs;cbv⟩:{ c // gF Tryz.f123 []=some c }).1
def A30:A4:=(⟨_,by conv=>lhs;cbv⟩:{ c // gF Tryz.f131 []=some c }).1
def A32:A4:=(⟨_,by conv=>lhs;cbv⟩:{ c // gF Tryz.f134 []=some c }).1
def Agu:A1:=(⟨_,by conv=>lhs;cbv⟩:{ c // gL Tryz.f137 0 []=some c }).1
def UN:A4:=(⟨_,by intro a;conv=>lhs;cbv⟩:{ c:A1->A4 // ∀a,gF Tryz.f137 [(0,a)]=some (c a) }).1 Agu
def Agv:A1:=(⟨_,by conv=>lhs;cbv⟩:{ c // gL Tryz.f140 0 []=some c }).1
def A36:A4:=(⟨_,by intro a;conv=>lhs;cbv⟩:{ c:A1->A4 // ∀a,gF Tryz.f140 [(0,a)]=some (c a) }).1 Agv
def A38:A4:=(⟨_,by conv=>lhs;cbv⟩:{ c // gF Tryz.f143 []=some c }).1
def A3b:A4:=(⟨_,by conv=>lhs;cbv⟩:{ c // gF Tryz.f146 []=some c }).1
def UP:A4:=(⟨_,by conv=>lhs;cbv⟩:{ c // gF Tryz.f149 []=some c }).1
def ER:A1:=(⟨_,by conv=>lhs;cbv⟩:{ c // gL Tryz.f152 0 []=some c }).1
def Cy:A4:=(⟨_,by intro a;conv=>lhs;cbv⟩:{ c:A1->A4 // ∀a,gF Tryz.f152 [(0,a)] [[[0],[1],[2],[3],[4],[5],[6],[7],[8],[9],[10],[11],[12],[13],[14],[15],[16],[17],[18],[19],[20],[21],[22],[23],[24],[25],[26],[27],[28],[29],[30],[31],[32],[33],[34],[35],[36],[37],[38]],[[0],[1],[2],[3],[4],[6],[7],[9],[10],[11],[12],[5,10],[8,10],[13],[14],[15]],[[0],[1],[2],[3],[4],[6],[7],[9],[10],[11],[12],[5,10],[8,10],[13],[14],[15]]]=some (c a) }).1 ER
def N5:A4:=(⟨_,by conv=>lhs;cbv⟩:{ c // gF Tryz.f157 [] [[[0],[1],[2],[3],[4],[5],[6],[7],[8],[9],[10],[11],[12],[13],[14],[15],[16],[17],[18],[19],[20],[21],[22],[23],[24],[25],[26],[27],[28],[29],[30],[31],[32],[33],[34],[35],[36]]]=some c }).1
def AgB:A1:=(⟨_,by conv=>lhs;cbv⟩:{ c // gL Tryz.f163 0 []=some c }).1
def A3j:A4:=(⟨_,by intro a;conv=>lhs;cbv⟩:{ c:A1->A4 // ∀a,gF Tryz.f163 [(0,a)]=some (c a) }).1 AgB
def A3m:A4:=(⟨_,by conv=>lhs;cbv⟩:{ c // gF Tryz.f166 []=some c }).1
def AgC:A1:=(⟨_,by conv=>lhs;cbv⟩:{ c // gL Tryz.f169 0 []=some c }).1
def A3o:A4:=(⟨_,by intro a;conv=>lhs;cbv⟩:{ c:A1->A4 // ∀a,gF Tryz.f169 [(0,a)]=some (c a) }).1 AgC
def AgH:A1:=(⟨_,by conv=>lhs;cbv⟩:{ c // gL Tryz.f179 0 []=some c }).1
def A3r:A4:=(⟨_,by intro a;conv=>lhs;cbv⟩:{ c:A1->A4 // ∀a,gF Tryz.f179 [(0,a)]=some (c a) }).1 AgH
def Ah8:A1:=(⟨_,by conv=>lhs;cbv⟩:{ c // gL Tryz.f183 2 []=some c }).1
def AgJ:A1:=(⟨_,by intro a;conv=>lhs;cbv⟩:{ c:A1->A1 // ∀a,gL Tryz.f183 0 [(2,a)]=some (c a) }).1 Ah8
def A3v:A4:=(⟨_,by intro a;conv=>lhs;cbv⟩:{ c:A1->A4 // ∀a,gF Tryz.f183 [(0,a)]=some (c a) }).1 AgJ
def A3x:A4:=(⟨_,by conv=>lhs;cbv⟩:{ c // gF Tryz.f186 []=some c }).1
def AgL:A1:=(⟨_,by conv=>lhs;cbv⟩:{ c // gL Tryz.f189 0 []=some c }).1
def Qx:A4:=(⟨_,by intro a;conv=>lhs;cbv⟩:{ c:A1->A4 // ∀a,gF Tryz.f189 [(0,a)]=some (c a) }).1 AgL
def AgN:A1:=(⟨_,by conv=>lhs;cbv⟩:{ c // gL Tryz.f192 0 []=some c }).1
def A3C:A4:=(⟨_,by intro a;conv=>lhs;cbv⟩:{ c:A1->A4 // ∀a,gF Tryz.f192 [(0,a)]=some (c a) }).1 AgN
def Qy:A4:=(⟨_,by conv=>lhs;cbv⟩:{ c // gF Tryz.f195 []=some c }).1
def A3H:A4:=(⟨_,by conv=>lhs;cbv⟩:{ c // gF Tryz.f198 [] [[[0],[1],[2],[3],[4],[5],[6],[7],[8],[9],[10],[11],[12],[13],[14],[15],[16],[17],[18],[19],[20],[21],[22],[23]]]=some c }).1
def A6L:A1:=(⟨_,by conv=>lhs;cbv⟩:{ c // gL Tryz.f201 0 [] [[[0],[1],[2],[4],[5],[6],[7],[8],[3,8],[9],[10],[11],[12]],[[0],[1],[2],[4],[5],[6],[7],[8],[9],[3,9],[10],[11],[12],[13]],[[0],[1],[2],[4],[5],[6],[7],[8],[9],[11],[12],[13],[14],[3,14,9],[10,14],[15],[16],[17],[18]]]=some c }).1
def AbG:A4:=(⟨_,by intro a;conv=>lhs;cbv⟩:{ c:A1->A4 // ∀a,gF Tryz.f201 [(0,a)]=some (c a) }).1 A6L
def A3J:A4:=(⟨_,by conv=>lhs;cbv⟩:{ c // gF Tryz.f206 []=some c }).1
def A3L:A4:=(⟨_,by conv=>lhs;cbv⟩:{ c // gF Tryz.f209 []=some c }).1
def A3O:A4:=(⟨_,by conv=>lhs;cbv⟩:{ c // gF Tryz.f212 []=some c }).1
def AbJ:A4:=(⟨_,by conv=>lhs;cbv⟩:{ c // gF Tryz.f218 []=some c }).1
def UX:A4:=(⟨_,by conv=>lhs;cbv⟩:{ c // gF Tryz.f221 []=some c }).1
def A3Y:A4:=(⟨_,by conv=>lhs;cbv⟩:{ c // gF Tryz.f224 []=some c }).1
def A40:A4:=(⟨_,by conv=>lhs;cbv⟩:{ c // gF Tryz.f227 []=some c }).1
def UY:A4:=(⟨_,by conv=>lhs;cbv⟩:{ c // gF Tryz.f230 []=some c }).1
def UZ:A4:=(⟨_,by conv=>lhs;cbv⟩:{ c // gF Tryz.f234 [] [[[0],[1],[2],[3],[4],[5],[6],[7],[8],[9],[10],[11],[12],[13],[14],[15],[16],[17],[18],[19],[20],[21],[22],[23],[24],[25],[26],[27],[28],[29],[30],[31],[32],[33],[34],[35],[36],[37],[38],[39],[40],[41],[42],[43],[44],[45],[46],[47],[48],[49],[50],[51]]]=some c }).1
def QB:A4:=(⟨_,by conv=>lhs;cbv⟩:{ c // gF Tryz.f237 [] [[[0],[1],[2],[3],[4],[5],[6],[7],[8],[9],[10],[11],[12],[13],[14],[15],[16],[17],[18],[19],[20],[21,18,15],[22]]]=some c }).1
def A46:A4:=(⟨_,by conv=>lhs;cbv⟩:{ c // gF Tryz.f240 []=some c }).1
def A6M:A1:=(⟨_,by conv=>lhs;cbv⟩:{ c // gL Tryz.f243 0 []=some c }).1
def A49:A4:=(⟨_,by intro a;conv=>lhs;cbv⟩:{ c:A1->A4 // ∀a,gF Tryz.f243 [(0,a)]=some (c a) }).1 A6M
def A4b:A4:=(⟨_,by conv=>lhs;cbv⟩:{ c // gF Tryz.f246 []=some c }).1
end Go.AM
