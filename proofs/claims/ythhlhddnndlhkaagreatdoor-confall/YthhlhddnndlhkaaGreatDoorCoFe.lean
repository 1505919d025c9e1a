/-
  Own work, part of the proof of these laws: the code of the functions that the law reaches, as the machine has it; read off the program as the text is compiled.
-/
import Derived.Test.YthhlhddnndlhkaaGreatDoorCoA
set_option maxRecDepth 10000
set_option maxHeartbeats 64000000
set_option linter.unusedVariables false
set_option linter.unusedSimpArgs false
set_option maxRecDepth 100000
set_option maxHeartbeats 4000000
namespace Go.AM
open Go Go.Proofs
def Mk:A2:=(⟨_,by conv=>lhs;cbv⟩:{ c // gL Tryz.f17 0 []=some c }).1
def A3k:A3:=(⟨_,by intro a;conv=>lhs;cbv⟩:{ c:A2->A3 // ∀ a,gF Tryz.f17 [(0,a)]=some (c a) }).1 Mk
def A8Z:A3:=(⟨_,by conv=>lhs;cbv⟩:{ c // gF Tryz.f26 []=some c }).1
def Ada:A3:=(⟨_,by conv=>lhs;cbv⟩:{ c // gF Tryz.f35 [] [[[0],[1],[2],[3],[4],[5],[6],[7],[8],[9],[10],[11],[12],[13],[14],[15],[16],[17],[18],[19],[20],[21],[22],[23],[24,22],[25],[26],[27],[28],[29],[30],[31],[32],[33],[34],[35]]]=some c }).1
def Ao6:A2:=(⟨_,by conv=>lhs;cbv⟩:{ c // gL Tryz.f37 0 []=some c }).1
def A3o:A3:=(⟨_,by intro a;conv=>lhs;cbv⟩:{ c:A2->A3 // ∀ a,gF Tryz.f37 [(0,a)]=some (c a) }).1 Ao6
def A94:A3:=(⟨_,by conv=>lhs;cbv⟩:{ c // gF Tryz.f39 []=some c }).1
def Ap0:A2:=(⟨_,by conv=>lhs;cbv⟩:{ c // gL Tryz.f49 8 [] [[[0],[1],[2],[3],[4],[5],[6],[7],[8],[9],[10],[11],[12],[13],[14],[15],[16],[17],[18],[19],[20],[21],[22],[23],[24],[25],[26],[27],[28],[29],[30],[31],[32],[33],[34],[35],[36]]]=some c }).1
def AoX:A2:=(⟨_,by conv=>lhs;cbv⟩:{ c // gL Tryz.f49 6 [] [[[0],[1],[2],[3],[4],[5],[6],[7],[8],[9],[10],[11],[12],[13],[15],[16],[17],[18],[19],[20],[14,20,17,7],[21,7],[22],[23]]]=some c }).1
def AoT:A2:=(⟨_,by conv=>lhs;cbv⟩:{ c // gL Tryz.f49 4 []=some c }).1
def AoH:A2:=(⟨_,by conv=>lhs;cbv⟩:{ c // gL Tryz.f49 2 [] [[[0],[1],[2],[3],[4],[5],[6],[7],[8],[9],[10],[11],[12],[13],[14],[15],[16],[17],[18],[19],[20],[21],[22],[23],[24]],[[0],[1],[2],[3],[4],[5],[6],[7],[8],[9],[10],[11],[12],[13],[14],[15],[16],[17],[18],[19,5,2],[20],[21]]]=some c }).1
def Aob:A2:=(⟨_,by intro a;conv=>lhs;cbv⟩:{ c:A2->A2 // ∀ a,gL Tryz.f49 0 [(2,a)]=some (c a) }).1 AoH
def A3s:A3:=(⟨_,by intro a b d e;conv=>lhs;cbv⟩:{ c:A2->A2->A2->A2->A3 // ∀ a b d e,gF Tryz.f49 [(0,a),(4,b),(6,d),(8,e)]=some (c a b d e) }).1 Aob AoT AoX Ap0
def AoK:A2:=(⟨_,by conv=>lhs;cbv⟩:{ c // gL Tryz.f61 2 [] [[[0],[1],[2],[3],[4],[5],[6],[7],[8],[9],[10],[11],[12],[13],[14],[15],[16],[17],[18],[19],[20],[21],[22],[23],[24],[25],[26],[27]]]=some c }).1
def Aog:A2:=(⟨_,by intro a;conv=>lhs;cbv⟩:{ c:A2->A2 // ∀ a,gL Tryz.f61 0 [(2,a)] [[[0],[1],[2],[3],[4],[5],[6],[7],[8],[9],[10],[11],[12],[13],[14],[15],[16],[17],[18],[19],[20],[21],[22],[23],[24],[25],[26],[27],[28],[29],[30],[31],[32],[33],[34],[35],[36],[37],[38]],[[0],[1],[2],[3],[4],[5],[6],[7],[8],[9],[10],[11],[12],[13],[14],[15],[16],[17],[18,9,7,3,1],[19],[20],[21]]]=some (c a) }).1 AoK
def A9h:A3:=(⟨_,by intro a;conv=>lhs;cbv⟩:{ c:A2->A3 // ∀ a,gF Tryz.f61 [(0,a)]=some (c a) }).1 Aog
def AoL:A2:=(⟨_,by conv=>lhs;cbv⟩:{ c // gL Tryz.f65 2 [] [[[0],[1],[2],[3],[4],[5],[6],[7],[8],[9]],[[0],[1],[2],[3],[4],[5],[6],[7],[8],[9],[10],[11],[12],[13],[14],[15],[16,4],[17],[18]]]=some c }).1
def Aoi:A2:=(⟨_,by intro a;conv=>lhs;cbv⟩:{ c:A2->A2 // ∀ a,gL Tryz.f65 0 [(2,a)]=some (c a) }).1 AoL
def A9k:A3:=(⟨_,by intro a;conv=>lhs;cbv⟩:{ c:A2->A3 // ∀ a,gF Tryz.f65 [(0,a)]=some (c a) }).1 Aoi
def Aon:A2:=(⟨_,by conv=>lhs;cbv⟩:{ c // gL Tryz.f71 0 []=some c }).1
def A9p:A3:=(⟨_,by intro a;conv=>lhs;cbv⟩:{ c:A2->A3 // ∀ a,gF Tryz.f71 [(0,a)]=some (c a) }).1 Aon
def Add:A3:=(⟨_,by conv=>lhs;cbv⟩:{ c // gF Tryz.f85 []=some c }).1
def Aot:A2:=(⟨_,by conv=>lhs;cbv⟩:{ c // gL Tryz.f87 0 []=some c }).1
def A9C:A3:=(⟨_,by intro a;conv=>lhs;cbv⟩:{ c:A2->A3 // ∀ a,gF Tryz.f87 [(0,a)]=some (c a) }).1 Aot
def Aov:A2:=(⟨_,by conv=>lhs;cbv⟩:{ c // gL Tryz.f90 0 []=some c }).1
def A9F:A3:=(⟨_,by intro a;conv=>lhs;cbv⟩:{ c:A2->A3 // ∀ a,gF Tryz.f90 [(0,a)]=some (c a) }).1 Aov
def Aow:A2:=(⟨_,by conv=>lhs;cbv⟩:{ c // gL Tryz.f92 0 []=some c }).1
def A9H:A3:=(⟨_,by intro a;conv=>lhs;cbv⟩:{ c:A2->A3 // ∀ a,gF Tryz.f92 [(0,a)]=some (c a) }).1 Aow
def Akd:A2:=(⟨_,by conv=>lhs;cbv⟩:{ c // gL Tryz.f107 0 []=some c }).1
def Zn:A3:=(⟨_,by intro a;conv=>lhs;cbv⟩:{ c:A2->A3 // ∀ a,gF Tryz.f107 [(0,a)]=some (c a) }).1 Akd
def Akk:A2:=(⟨_,by conv=>lhs;cbv⟩:{ c // gL Tryz.f122 0 []=some c }).1
def Zu:A3:=(⟨_,by intro a;conv=>lhs;cbv⟩:{ c:A2->A3 // ∀ a,gF Tryz.f122 [(0,a)]=some (c a) }).1 Akk
def Al3:A2:=(⟨_,by conv=>lhs;cbv⟩:{ c // gL Tryz.f129 2 []=some c }).1
def Gd:A2:=(⟨_,by intro a;conv=>lhs;cbv⟩:{ c:A2->A2 // ∀ a,gL Tryz.f129 0 [(2,a)]=some (c a) }).1 Al3
def Zw:A3:=(⟨_,by intro a;conv=>lhs;cbv⟩:{ c:A2->A3 // ∀ a,gF Tryz.f129 [(0,a)]=some (c a) }).1 Gd
def PH:A3:=(⟨_,by conv=>lhs;cbv⟩:{ c // gF Tryz.f132 []=some c }).1
def Alf:A2:=(⟨_,by conv=>lhs;cbv⟩:{ c // gL Tryz.f134 4 []=some c }).1
def Ge:A2:=(⟨_,by intro a;conv=>lhs;cbv⟩:{ c:A2->A2 // ∀ a,gL Tryz.f134 2 [(4,a)]=some (c a) }).1 Alf
def Akp:A2:=(⟨_,by intro a;conv=>lhs;cbv⟩:{ c:A2->A2 // ∀ a,gL Tryz.f134 0 [(2,a)]=some (c a) }).1 Ge
def RZ:A3:=(⟨_,by intro a;conv=>lhs;cbv⟩:{ c:A2->A3 // ∀ a,gF Tryz.f134 [(0,a)]=some (c a) }).1 Akp
def PJ:A3:=(⟨_,by conv=>lhs;cbv⟩:{ c // gF Tryz.f146 []=some c }).1
def ZJ:A3:=(⟨_,by conv=>lhs;cbv⟩:{ c // gF Tryz.f149 []=some c }).1
def ZN:A3:=(⟨_,by conv=>lhs;cbv⟩:{ c // gF Tryz.f156 []=some c }).1
def PM:A3:=(⟨_,by conv=>lhs;cbv⟩:{ c // gF Tryz.f184 []=some c }).1
def Al9:A2:=(⟨_,by conv=>lhs;cbv⟩:{ c // gL Tryz.f187 2 [] [[[0],[1],[2],[3],[4],[5],[6],[7],[8],[9]],[[0],[1],[2],[3],[4],[5],[6],[7],[8],[9],[10],[11],[12],[13],[14],[15],[16],[17],[18],[19],[20],[21],[22]]]=some c }).1
def AkI:A2:=(⟨_,by intro a;conv=>lhs;cbv⟩:{ c:A2->A2 // ∀ a,gL Tryz.f187 0 [(2,a)]=some (c a) }).1 Al9
def A05:A3:=(⟨_,by intro a;conv=>lhs;cbv⟩:{ c:A2->A3 // ∀ a,gF Tryz.f187 [(0,a)]=some (c a) }).1 AkI
def AkL:A2:=(⟨_,by conv=>lhs;cbv⟩:{ c // gL Tryz.f192 0 []=some c }).1
def A09:A3:=(⟨_,by intro a;conv=>lhs;cbv⟩:{ c:A2->A3 // ∀ a,gF Tryz.f192 [(0,a)]=some (c a) }).1 AkL
def A0a:A3:=(⟨_,by conv=>lhs;cbv⟩:{ c // gF Tryz.f194 []=some c }).1
def A0E:A3:=(⟨_,by conv=>lhs;cbv⟩:{ c // gF Tryz.f233 []=some c }).1
end Go.AM
