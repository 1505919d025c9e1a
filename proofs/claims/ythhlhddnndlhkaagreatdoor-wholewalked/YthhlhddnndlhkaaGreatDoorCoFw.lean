/-
  Own work, part of the proof of these laws: the code of the functions that the law reaches, as the machine has it; read off the program as the text is compiled.
-/
import Derived.Test.YthhlhddnndlhkaaGreatDoorCoA
set_option maxRecDepth 10000
set_option maxHeartbeats 64000000
set_option linter.unusedVariables false
set_option linter.unusedSimpArgs false
set_option maxRecDepth 100000
set_option maxHeartbeats 4000000
namespace Go.AM
open Go Go.Proofs
def ES:A3:=(⟨_,by conv=>lhs;cbv⟩:{ c // gF Tryz.f13 [] [[[0],[1],[2],[3],[4],[5],[6],[8],[7],[9]],[[0],[1],[2],[3],[4],[5],[6],[7],[9],[12],[8,0],[10,0],[11],[13]]]=some c }).1
def Mk:A2:=(⟨_,by conv=>lhs;cbv⟩:{ c // gL Tryz.f17 0 []=some c }).1
def A3k:A3:=(⟨_,by intro a;conv=>lhs;cbv⟩:{ c:A2->A3 // ∀ a,gF Tryz.f17 [(0,a)]=some (c a) }).1 Mk
def A3n:A3:=(⟨_,by conv=>lhs;cbv⟩:{ c // gF Tryz.f33 []=some c }).1
def Aoa:A2:=(⟨_,by conv=>lhs;cbv⟩:{ c // gL Tryz.f48 0 []=some c }).1
def A99:A3:=(⟨_,by intro a;conv=>lhs;cbv⟩:{ c:A2->A3 // ∀ a,gF Tryz.f48 [(0,a)]=some (c a) }).1 Aoa
def A9a:A3:=(⟨_,by conv=>lhs;cbv⟩:{ c // gF Tryz.f50 []=some c }).1
def Adc:A3:=(⟨_,by conv=>lhs;cbv⟩:{ c // gF Tryz.f54 []=some c }).1
def AoK:A2:=(⟨_,by conv=>lhs;cbv⟩:{ c // gL Tryz.f61 2 [] [[[0],[1],[2],[3],[4],[5],[6],[7],[8],[9],[10],[11],[12],[13],[14],[15],[16],[17],[18],[19],[20],[21],[22],[23],[24],[25],[26],[27]]]=some c }).1
def Aog:A2:=(⟨_,by intro a;conv=>lhs;cbv⟩:{ c:A2->A2 // ∀ a,gL Tryz.f61 0 [(2,a)] [[[0],[1],[2],[3],[4],[5],[6],[7],[8],[9],[10],[11],[12],[13],[14],[15],[16],[17],[18],[19],[20],[21],[22],[23],[24],[25],[26],[27],[28],[29],[30],[31],[32],[33],[34],[35],[36],[37],[38]],[[0],[1],[2],[3],[4],[5],[6],[7],[8],[9],[10],[11],[12],[13],[14],[15],[16],[17],[18,9,7,3,1],[19],[20],[21]]]=some (c a) }).1 AoK
def A9h:A3:=(⟨_,by intro a;conv=>lhs;cbv⟩:{ c:A2->A3 // ∀ a,gF Tryz.f61 [(0,a)]=some (c a) }).1 Aog
def A9i:A3:=(⟨_,by conv=>lhs;cbv⟩:{ c // gF Tryz.f63 []=some c }).1
def AoL:A2:=(⟨_,by conv=>lhs;cbv⟩:{ c // gL Tryz.f65 2 [] [[[0],[1],[2],[3],[4],[5],[6],[7],[8],[9]],[[0],[1],[2],[3],[4],[5],[6],[7],[8],[9],[10],[11],[12],[13],[14],[15],[16,4],[17],[18]]]=some c }).1
def Aoi:A2:=(⟨_,by intro a;conv=>lhs;cbv⟩:{ c:A2->A2 // ∀ a,gL Tryz.f65 0 [(2,a)]=some (c a) }).1 AoL
def A9k:A3:=(⟨_,by intro a;conv=>lhs;cbv⟩:{ c:A2->A3 // ∀ a,gF Tryz.f65 [(0,a)]=some (c a) }).1 Aoi
def A9s:A3:=(⟨_,by conv=>lhs;cbv⟩:{ c // gF Tryz.f73 []=some c }).1
def Aou:A2:=(⟨_,by conv=>lhs;cbv⟩:{ c // gL Tryz.f89 0 []=some c }).1
def A9E:A3:=(⟨_,by intro a;conv=>lhs;cbv⟩:{ c:A2->A3 // ∀ a,gF Tryz.f89 [(0,a)]=some (c a) }).1 Aou
def AoA:A2:=(⟨_,by conv=>lhs;cbv⟩:{ c // gL Tryz.f98 0 []=some c }).1
def Ade:A3:=(⟨_,by intro a;conv=>lhs;cbv⟩:{ c:A2->A3 // ∀ a,gF Tryz.f98 [(0,a)]=some (c a) }).1 AoA
def AoB:A2:=(⟨_,by conv=>lhs;cbv⟩:{ c // gL Tryz.f101 0 []=some c }).1
def A9O:A3:=(⟨_,by intro a;conv=>lhs;cbv⟩:{ c:A2->A3 // ∀ a,gF Tryz.f101 [(0,a)]=some (c a) }).1 AoB
def Akb:A2:=(⟨_,by conv=>lhs;cbv⟩:{ c // gL Tryz.f103 0 []=some c }).1
def Zk:A3:=(⟨_,by intro a;conv=>lhs;cbv⟩:{ c:A2->A3 // ∀ a,gF Tryz.f103 [(0,a)]=some (c a) }).1 Akb
def Zm:A3:=(⟨_,by conv=>lhs;cbv⟩:{ c // gF Tryz.f105 []=some c }).1
def Akd:A2:=(⟨_,by conv=>lhs;cbv⟩:{ c // gL Tryz.f107 0 []=some c }).1
def Zn:A3:=(⟨_,by intro a;conv=>lhs;cbv⟩:{ c:A2->A3 // ∀ a,gF Tryz.f107 [(0,a)]=some (c a) }).1 Akd
def Aki:A2:=(⟨_,by conv=>lhs;cbv⟩:{ c // gL Tryz.f114 0 [] [[[0],[1],[2],[3],[4],[5],[6],[7],[8],[9],[10],[11],[12],[13],[14],[16],[17],[18],[15,18,11,9,7,5,3,1],[19,11,9,7,5,3,1],[20],[21]]]=some c }).1
def Zs:A3:=(⟨_,by intro a;conv=>lhs;cbv⟩:{ c:A2->A3 // ∀ a,gF Tryz.f114 [(0,a)]=some (c a) }).1 Aki
def Akk:A2:=(⟨_,by conv=>lhs;cbv⟩:{ c // gL Tryz.f122 0 []=some c }).1
def Zu:A3:=(⟨_,by intro a;conv=>lhs;cbv⟩:{ c:A2->A3 // ∀ a,gF Tryz.f122 [(0,a)]=some (c a) }).1 Akk
def Al3:A2:=(⟨_,by conv=>lhs;cbv⟩:{ c // gL Tryz.f129 2 []=some c }).1
def Gd:A2:=(⟨_,by intro a;conv=>lhs;cbv⟩:{ c:A2->A2 // ∀ a,gL Tryz.f129 0 [(2,a)]=some (c a) }).1 Al3
def Zw:A3:=(⟨_,by intro a;conv=>lhs;cbv⟩:{ c:A2->A3 // ∀ a,gF Tryz.f129 [(0,a)]=some (c a) }).1 Gd
def Zx:A3:=(⟨_,by conv=>lhs;cbv⟩:{ c // gF Tryz.f131 []=some c }).1
def Ale:A2:=(⟨_,by conv=>lhs;cbv⟩:{ c // gL Tryz.f133 4 []=some c }).1
def Al4:A2:=(⟨_,by intro a;conv=>lhs;cbv⟩:{ c:A2->A2 // ∀ a,gL Tryz.f133 2 [(4,a)] [[[0],[1],[2],[3],[4],[5],[6],[7],[8],[9]],[[0],[1],[2],[3],[4],[5],[6],[7],[8],[9],[10],[11],[12],[13],[14],[15],[16],[17],[18],[19],[20],[21],[22],[23],[24],[25],[26],[27],[28],[29],[30],[31]]]=some (c a) }).1 Ale
def Ako:A2:=(⟨_,by intro a;conv=>lhs;cbv⟩:{ c:A2->A2 // ∀ a,gL Tryz.f133 0 [(2,a)] [[[0],[1],[2],[3],[4],[5],[6],[7],[8],[9],[10],[11],[12],[13],[14],[15],[16],[17],[18],[19],[20],[21],[22],[23],[24],[25],[26],[27],[28],[29],[30]],[[0],[1],[2],[3],[4],[5],[6],[7],[8],[9]]]=some (c a) }).1 Al4
def Zy:A3:=(⟨_,by intro a;conv=>lhs;cbv⟩:{ c:A2->A3 // ∀ a,gF Tryz.f133 [(0,a)]=some (c a) }).1 Ako
def Aks:A2:=(⟨_,by conv=>lhs;cbv⟩:{ c // gL Tryz.f145 0 [] [[[0],[1],[2],[3],[4],[5],[6],[7],[8],[9]],[[0],[1],[2],[3],[4],[5],[6],[7]],[[0],[1],[2],[3],[4],[5],[6],[7],[8],[9],[10],[11],[12],[13],[14]]]=some c }).1
def Hw:A3:=(⟨_,by intro a;conv=>lhs;cbv⟩:{ c:A2->A3 // ∀ a,gF Tryz.f145 [(0,a)]=some (c a) }).1 Aks
def Akt:A2:=(⟨_,by conv=>lhs;cbv⟩:{ c // gL Tryz.f154 0 []=some c }).1
def ZM:A3:=(⟨_,by intro a;conv=>lhs;cbv⟩:{ c:A2->A3 // ∀ a,gF Tryz.f154 [(0,a)]=some (c a) }).1 Akt
def ZN:A3:=(⟨_,by conv=>lhs;cbv⟩:{ c // gF Tryz.f156 []=some c }).1
def L0:A3:=(⟨_,by conv=>lhs;cbv⟩:{ c // gF Tryz.f165 []=some c }).1
def Al8:A2:=(⟨_,by conv=>lhs;cbv⟩:{ c // gL Tryz.f186 2 [] [[[0],[1],[2],[3],[4],[5],[6],[7],[8],[9]],[[0],[1],[2],[3],[4],[5],[6],[7],[8],[9],[10],[11],[12],[13],[14],[15],[16],[17],[18],[19],[20],[21],[22],[23],[24],[25],[26],[27],[28],[29],[30],[31],[32]]]=some c }).1
def AkH:A2:=(⟨_,by conv=>lhs;cbv⟩:{ c // gL Tryz.f186 0 [] [[[0],[1],[2],[3],[4],[5],[6],[7],[8],[9],[10],[11],[12],[13],[14],[15],[16],[17],[18],[19],[20],[21],[22]]]=some c }).1
def S8:A3:=(⟨_,by intro a b;conv=>lhs;cbv⟩:{ c:A2->A2->A3 // ∀ a b,gF Tryz.f186 [(0,a),(2,b)]=some (c a b) }).1 AkH Al8
def A06:A3:=(⟨_,by conv=>lhs;cbv⟩:{ c // gF Tryz.f188 []=some c }).1
def PN:A3:=(⟨_,by conv=>lhs;cbv⟩:{ c // gF Tryz.f193 []=some c }).1
def A0j:A3:=(⟨_,by conv=>lhs;cbv⟩:{ c // gF Tryz.f205 []=some c }).1
def A0E:A3:=(⟨_,by conv=>lhs;cbv⟩:{ c // gF Tryz.f233 []=some c }).1
end Go.AM
