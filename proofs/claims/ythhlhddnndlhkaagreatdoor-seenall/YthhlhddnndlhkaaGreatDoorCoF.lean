/-
  Own work, part of the proof of these laws: the code of the functions that the law reaches, as the machine has it; read off the program as the text is compiled.
-/
import Derived.Test.YthhlhddnndlhkaaGreatDoorCoA
set_option maxRecDepth 10000
set_option maxHeartbeats 64000000
set_option linter.unusedVariables false
set_option linter.unusedSimpArgs false
set_option maxRecDepth 100000
set_option maxHeartbeats 4000000
namespace Go.AM
open Go Go.Proofs
def Ad9:A3:=(⟨_,by conv=>lhs;cbv⟩:{ c // gF Tryz.f15 []=some c }).1
def A3l:A3:=(⟨_,by conv=>lhs;cbv⟩:{ c // gF Tryz.f18 []=some c }).1
def A3m:A3:=(⟨_,by conv=>lhs;cbv⟩:{ c // gF Tryz.f20 []=some c }).1
def Ao0:A2:=(⟨_,by conv=>lhs;cbv⟩:{ c // gL Tryz.f23 0 []=some c }).1
def A8W:A3:=(⟨_,by intro a;conv=>lhs;cbv⟩:{ c:A2->A3 // ∀ a,gF Tryz.f23 [(0,a)]=some (c a) }).1 Ao0
def AoE:A2:=(⟨_,by conv=>lhs;cbv⟩:{ c // gL Tryz.f25 2 [] [[[0],[1],[2],[3],[4],[5],[6],[8],[9],[10],[11],[12],[13],[7,13,10,0],[14,0],[15]],[[0],[1],[2],[3],[4],[5],[6],[7],[8],[9],[10],[11],[12],[13],[14],[15],[16],[17],[18],[19,5,2],[20],[21]]]=some c }).1
def Ao2:A2:=(⟨_,by intro a;conv=>lhs;cbv⟩:{ c:A2->A2 // ∀ a,gL Tryz.f25 0 [(2,a)]=some (c a) }).1 AoE
def A8Y:A3:=(⟨_,by intro a;conv=>lhs;cbv⟩:{ c:A2->A3 // ∀ a,gF Tryz.f25 [(0,a)]=some (c a) }).1 Ao2
def A12:A3:=(⟨_,by conv=>lhs;cbv⟩:{ c // gF Tryz.f31 []=some c }).1
def Adc:A3:=(⟨_,by conv=>lhs;cbv⟩:{ c // gF Tryz.f54 []=some c }).1
def AoK:A2:=(⟨_,by conv=>lhs;cbv⟩:{ c // gL Tryz.f61 2 [] [[[0],[1],[2],[3],[4],[5],[6],[7],[8],[9],[10],[11],[12],[13],[14],[15],[16],[17],[18],[19],[20],[21],[22],[23],[24],[25],[26],[27]]]=some c }).1
def Aog:A2:=(⟨_,by intro a;conv=>lhs;cbv⟩:{ c:A2->A2 // ∀ a,gL Tryz.f61 0 [(2,a)] [[[0],[1],[2],[3],[4],[5],[6],[7],[8],[9],[10],[11],[12],[13],[14],[15],[16],[17],[18],[19],[20],[21],[22],[23],[24],[25],[26],[27],[28],[29],[30],[31],[32],[33],[34],[35],[36],[37],[38]],[[0],[1],[2],[3],[4],[5],[6],[7],[8],[9],[10],[11],[12],[13],[14],[15],[16],[17],[18,9,7,3,1],[19],[20],[21]]]=some (c a) }).1 AoK
def A9h:A3:=(⟨_,by intro a;conv=>lhs;cbv⟩:{ c:A2->A3 // ∀ a,gF Tryz.f61 [(0,a)]=some (c a) }).1 Aog
def A9i:A3:=(⟨_,by conv=>lhs;cbv⟩:{ c // gF Tryz.f63 []=some c }).1
def AoL:A2:=(⟨_,by conv=>lhs;cbv⟩:{ c // gL Tryz.f65 2 [] [[[0],[1],[2],[3],[4],[5],[6],[7],[8],[9]],[[0],[1],[2],[3],[4],[5],[6],[7],[8],[9],[10],[11],[12],[13],[14],[15],[16,4],[17],[18]]]=some c }).1
def Aoi:A2:=(⟨_,by intro a;conv=>lhs;cbv⟩:{ c:A2->A2 // ∀ a,gL Tryz.f65 0 [(2,a)]=some (c a) }).1 AoL
def A9k:A3:=(⟨_,by intro a;conv=>lhs;cbv⟩:{ c:A2->A3 // ∀ a,gF Tryz.f65 [(0,a)]=some (c a) }).1 Aoi
def Aon:A2:=(⟨_,by conv=>lhs;cbv⟩:{ c // gL Tryz.f71 0 []=some c }).1
def A9p:A3:=(⟨_,by intro a;conv=>lhs;cbv⟩:{ c:A2->A3 // ∀ a,gF Tryz.f71 [(0,a)]=some (c a) }).1 Aon
def A9s:A3:=(⟨_,by conv=>lhs;cbv⟩:{ c // gF Tryz.f73 []=some c }).1
def Aow:A2:=(⟨_,by conv=>lhs;cbv⟩:{ c // gL Tryz.f92 0 []=some c }).1
def A9H:A3:=(⟨_,by intro a;conv=>lhs;cbv⟩:{ c:A2->A3 // ∀ a,gF Tryz.f92 [(0,a)]=some (c a) }).1 Aow
def Akd:A2:=(⟨_,by conv=>lhs;cbv⟩:{ c // gL Tryz.f107 0 []=some c }).1
def Zn:A3:=(⟨_,by intro a;conv=>lhs;cbv⟩:{ c:A2->A3 // ∀ a,gF Tryz.f107 [(0,a)]=some (c a) }).1 Akd
def Akk:A2:=(⟨_,by conv=>lhs;cbv⟩:{ c // gL Tryz.f122 0 []=some c }).1
def Zu:A3:=(⟨_,by intro a;conv=>lhs;cbv⟩:{ c:A2->A3 // ∀ a,gF Tryz.f122 [(0,a)]=some (c a) }).1 Akk
def Al3:A2:=(⟨_,by conv=>lhs;cbv⟩:{ c // gL Tryz.f129 2 []=some c }).1
def Gd:A2:=(⟨_,by intro a;conv=>lhs;cbv⟩:{ c:A2->A2 // ∀ a,gL Tryz.f129 0 [(2,a)]=some (c a) }).1 Al3
def Zw:A3:=(⟨_,by intro a;conv=>lhs;cbv⟩:{ c:A2->A3 // ∀ a,gF Tryz.f129 [(0,a)]=some (c a) }).1 Gd
def Zx:A3:=(⟨_,by conv=>lhs;cbv⟩:{ c // gF Tryz.f131 []=some c }).1
def Ale:A2:=(⟨_,by conv=>lhs;cbv⟩:{ c // gL Tryz.f133 4 []=some c }).1
def Al4:A2:=(⟨_,by intro a;conv=>lhs;cbv⟩:{ c:A2->A2 // ∀ a,gL Tryz.f133 2 [(4,a)] [[[0],[1],[2],[3],[4],[5],[6],[7],[8],[9]],[[0],[1],[2],[3],[4],[5],[6],[7],[8],[9],[10],[11],[12],[13],[14],[15],[16],[17],[18],[19],[20],[21],[22],[23],[24],[25],[26],[27],[28],[29],[30],[31]]]=some (c a) }).1 Ale
def Ako:A2:=(⟨_,by intro a;conv=>lhs;cbv⟩:{ c:A2->A2 // ∀ a,gL Tryz.f133 0 [(2,a)] [[[0],[1],[2],[3],[4],[5],[6],[7],[8],[9],[10],[11],[12],[13],[14],[15],[16],[17],[18],[19],[20],[21],[22],[23],[24],[25],[26],[27],[28],[29],[30]],[[0],[1],[2],[3],[4],[5],[6],[7],[8],[9]]]=some (c a) }).1 Al4
def Zy:A3:=(⟨_,by intro a;conv=>lhs;cbv⟩:{ c:A2->A3 // ∀ a,gF Tryz.f133 [(0,a)]=some (c a) }).1 Ako
def Aku:A2:=(⟨_,by conv=>lhs;cbv⟩:{ c // gL Tryz.f155 0 []=some c }).1
def S1:A3:=(⟨_,by intro a;conv=>lhs;cbv⟩:{ c:A2->A3 // ∀ a,gF Tryz.f155 [(0,a)]=some (c a) }).1 Aku
def PK:A3:=(⟨_,by conv=>lhs;cbv⟩:{ c // gF Tryz.f157 [] [[[0],[1],[2],[3],[4],[5],[6],[7],[8],[9]],[[0],[1],[2],[3],[4],[5],[6],[7],[8],[9,6,2,0],[10],[11]]]=some c }).1
def Al8:A2:=(⟨_,by conv=>lhs;cbv⟩:{ c // gL Tryz.f186 2 [] [[[0],[1],[2],[3],[4],[5],[6],[7],[8],[9]],[[0],[1],[2],[3],[4],[5],[6],[7],[8],[9],[10],[11],[12],[13],[14],[15],[16],[17],[18],[19],[20],[21],[22],[23],[24],[25],[26],[27],[28],[29],[30],[31],[32]]]=some c }).1
def AkH:A2:=(⟨_,by conv=>lhs;cbv⟩:{ c // gL Tryz.f186 0 [] [[[0],[1],[2],[3],[4],[5],[6],[7],[8],[9],[10],[11],[12],[13],[14],[15],[16],[17],[18],[19],[20],[21],[22]]]=some c }).1
def S8:A3:=(⟨_,by intro a b;conv=>lhs;cbv⟩:{ c:A2->A2->A3 // ∀ a b,gF Tryz.f186 [(0,a),(2,b)]=some (c a b) }).1 AkH Al8
def A06:A3:=(⟨_,by conv=>lhs;cbv⟩:{ c // gF Tryz.f188 []=some c }).1
end Go.AM
