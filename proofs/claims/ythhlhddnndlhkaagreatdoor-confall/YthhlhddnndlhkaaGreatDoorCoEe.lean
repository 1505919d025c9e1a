/-
  Own work, part of the proof of these laws: the code of the functions that the law reaches, as the machine has it; read off the program as the text is compiled.
-/
import Derived.Test.YthhlhddnndlhkaaGreatDoorCoA
set_option maxRecDepth 10000
set_option maxHeartbeats 64000000
set_option linter.unusedVariables false
set_option linter.unusedSimpArgs false
set_option maxRecDepth 100000
set_option maxHeartbeats 4000000
namespace Go.AM
open Go Go.Proofs
def As3:A2:=(⟨_,by conv=>lhs;cbv⟩:{ c // gL Tryz.f7 0 []=some c }).1
def A6R:A3:=(⟨_,by intro a;conv=>lhs;cbv⟩:{ c:A2->A3 // ∀ a,gF Tryz.f7 [(0,a)] [[[0],[1],[3],[4],[2,4,3],[5],[6],[7]],[[0],[1],[2],[3],[4],[5],[6],[7],[9],[10],[11],[8],[12],[13],[14],[15],[16],[19],[20],[17,20,19],[18],[21],[22],[23],[24]]]=some (c a) }).1 As3
def A3l:A3:=(⟨_,by conv=>lhs;cbv⟩:{ c // gF Tryz.f18 []=some c }).1
def A3n:A3:=(⟨_,by conv=>lhs;cbv⟩:{ c // gF Tryz.f33 []=some c }).1
def AoF:A2:=(⟨_,by conv=>lhs;cbv⟩:{ c // gL Tryz.f36 2 []=some c }).1
def Ao5:A2:=(⟨_,by intro a;conv=>lhs;cbv⟩:{ c:A2->A2 // ∀ a,gL Tryz.f36 0 [(2,a)]=some (c a) }).1 AoF
def XF:A3:=(⟨_,by intro a;conv=>lhs;cbv⟩:{ c:A2->A3 // ∀ a,gF Tryz.f36 [(0,a)]=some (c a) }).1 Ao5
def AoZ:A2:=(⟨_,by conv=>lhs;cbv⟩:{ c // gL Tryz.f38 8 []=some c }).1
def A1d:A2:=(⟨_,by conv=>lhs;cbv⟩:{ c // gL Tryz.f38 6 []=some c }).1
def AoS:A2:=(⟨_,by intro a;conv=>lhs;cbv⟩:{ c:A2->A2 // ∀ a,gL Tryz.f38 4 [(6,a)]=some (c a) }).1 A1d
def AoG:A2:=(⟨_,by intro a;conv=>lhs;cbv⟩:{ c:A2->A2 // ∀ a,gL Tryz.f38 2 [(4,a)]=some (c a) }).1 AoS
def Ao7:A2:=(⟨_,by intro a;conv=>lhs;cbv⟩:{ c:A2->A2 // ∀ a,gL Tryz.f38 0 [(2,a)]=some (c a) }).1 AoG
def A3p:A3:=(⟨_,by intro a b;conv=>lhs;cbv⟩:{ c:A2->A2->A3 // ∀ a b,gF Tryz.f38 [(0,a),(8,b)]=some (c a b) }).1 Ao7 AoZ
def Ao8:A2:=(⟨_,by conv=>lhs;cbv⟩:{ c // gL Tryz.f40 0 []=some c }).1
def A3q:A3:=(⟨_,by intro a;conv=>lhs;cbv⟩:{ c:A2->A3 // ∀ a,gF Tryz.f40 [(0,a)]=some (c a) }).1 Ao8
def AoD:A2:=(⟨_,by conv=>lhs;cbv⟩:{ c // gL Tryz.f58 1 []=some c }).1
def Jg:A3:=(⟨_,by intro a;conv=>lhs;cbv⟩:{ c:A2->A3 // ∀ a,gF Tryz.f58 [(1,a)] [[[0],[1],[2],[3],[4],[5],[6],[7],[8],[9],[10],[11],[12],[13],[14]],[[0],[1],[2],[3],[4],[5],[6],[7],[8],[13],[9],[10],[11],[12],[14],[15]],[[0],[1],[2],[3],[4],[5],[6],[7],[8],[9],[10],[11],[12]]]=some (c a) }).1 AoD
def Aoh:A2:=(⟨_,by conv=>lhs;cbv⟩:{ c // gL Tryz.f64 0 []=some c }).1
def A9j:A3:=(⟨_,by intro a;conv=>lhs;cbv⟩:{ c:A2->A3 // ∀ a,gF Tryz.f64 [(0,a)]=some (c a) }).1 Aoh
def AoM:A2:=(⟨_,by conv=>lhs;cbv⟩:{ c // gL Tryz.f66 2 []=some c }).1
def Aoj:A2:=(⟨_,by intro a;conv=>lhs;cbv⟩:{ c:A2->A2 // ∀ a,gL Tryz.f66 0 [(2,a)]=some (c a) }).1 AoM
def A9l:A3:=(⟨_,by intro a;conv=>lhs;cbv⟩:{ c:A2->A3 // ∀ a,gF Tryz.f66 [(0,a)]=some (c a) }).1 Aoj
def AoV:A2:=(⟨_,by conv=>lhs;cbv⟩:{ c // gL Tryz.f83 4 []=some c }).1
def AoO:A2:=(⟨_,by intro a;conv=>lhs;cbv⟩:{ c:A2->A2 // ∀ a,gL Tryz.f83 2 [(4,a)]=some (c a) }).1 AoV
def Aor:A2:=(⟨_,by conv=>lhs;cbv⟩:{ c // gL Tryz.f83 0 []=some c }).1
def A9z:A3:=(⟨_,by intro a b;conv=>lhs;cbv⟩:{ c:A2->A2->A3 // ∀ a b,gF Tryz.f83 [(0,a),(2,b)]=some (c a b) }).1 Aor AoO
def AoW:A2:=(⟨_,by conv=>lhs;cbv⟩:{ c // gL Tryz.f86 4 []=some c }).1
def AoP:A2:=(⟨_,by intro a;conv=>lhs;cbv⟩:{ c:A2->A2 // ∀ a,gL Tryz.f86 2 [(4,a)]=some (c a) }).1 AoW
def Aos:A2:=(⟨_,by intro a;conv=>lhs;cbv⟩:{ c:A2->A2 // ∀ a,gL Tryz.f86 0 [(2,a)]=some (c a) }).1 AoP
def A9B:A3:=(⟨_,by intro a;conv=>lhs;cbv⟩:{ c:A2->A3 // ∀ a,gF Tryz.f86 [(0,a)]=some (c a) }).1 Aos
def Aou:A2:=(⟨_,by conv=>lhs;cbv⟩:{ c // gL Tryz.f89 0 []=some c }).1
def A9E:A3:=(⟨_,by intro a;conv=>lhs;cbv⟩:{ c:A2->A3 // ∀ a,gF Tryz.f89 [(0,a)]=some (c a) }).1 Aou
def AbZ:A2:=(⟨_,by conv=>lhs;cbv⟩:{ c // gL Tryz.f91 0 []=some c }).1
def A9G:A3:=(⟨_,by intro a;conv=>lhs;cbv⟩:{ c:A2->A3 // ∀ a,gF Tryz.f91 [(0,a)]=some (c a) }).1 AbZ
def Mb:A3:=(⟨_,by conv=>lhs;cbv⟩:{ c // gF Tryz.f106 []=some c }).1
def Al0:A2:=(⟨_,by conv=>lhs;cbv⟩:{ c // gL Tryz.f108 2 []=some c }).1
def Ake:A2:=(⟨_,by intro a;conv=>lhs;cbv⟩:{ c:A2->A2 // ∀ a,gL Tryz.f108 0 [(2,a)]=some (c a) }).1 Al0
def Zo:A3:=(⟨_,by intro a;conv=>lhs;cbv⟩:{ c:A2->A3 // ∀ a,gF Tryz.f108 [(0,a)]=some (c a) }).1 Ake
def YG:A2:=(⟨_,by conv=>lhs;cbv⟩:{ c // gL Tryz.f125 0 []=some c }).1
def RX:A3:=(⟨_,by intro a;conv=>lhs;cbv⟩:{ c:A2->A3 // ∀ a,gF Tryz.f125 [(0,a)]=some (c a) }).1 YG
def Akn:A2:=(⟨_,by conv=>lhs;cbv⟩:{ c // gL Tryz.f130 0 []=some c }).1
def PG:A3:=(⟨_,by intro a;conv=>lhs;cbv⟩:{ c:A2->A3 // ∀ a,gF Tryz.f130 [(0,a)]=some (c a) }).1 Akn
def Ale:A2:=(⟨_,by conv=>lhs;cbv⟩:{ c // gL Tryz.f133 4 []=some c }).1
def Al4:A2:=(⟨_,by intro a;conv=>lhs;cbv⟩:{ c:A2->A2 // ∀ a,gL Tryz.f133 2 [(4,a)] [[[0],[1],[2],[3],[4],[5],[6],[7],[8],[9]],[[0],[1],[2],[3],[4],[5],[6],[7],[8],[9],[10],[11],[12],[13],[14],[15],[16],[17],[18],[19],[20],[21],[22],[23],[24],[25],[26],[27],[28],[29],[30],[31]]]=some (c a) }).1 Ale
def Ako:A2:=(⟨_,by intro a;conv=>lhs;cbv⟩:{ c:A2->A2 // ∀ a,gL Tryz.f133 0 [(2,a)] [[[0],[1],[2],[3],[4],[5],[6],[7],[8],[9],[10],[11],[12],[13],[14],[15],[16],[17],[18],[19],[20],[21],[22],[23],[24],[25],[26],[27],[28],[29],[30]],[[0],[1],[2],[3],[4],[5],[6],[7],[8],[9]]]=some (c a) }).1 Al4
def Zy:A3:=(⟨_,by intro a;conv=>lhs;cbv⟩:{ c:A2->A3 // ∀ a,gF Tryz.f133 [(0,a)]=some (c a) }).1 Ako
def Aks:A2:=(⟨_,by conv=>lhs;cbv⟩:{ c // gL Tryz.f145 0 [] [[[0],[1],[2],[3],[4],[5],[6],[7],[8],[9]],[[0],[1],[2],[3],[4],[5],[6],[7]],[[0],[1],[2],[3],[4],[5],[6],[7],[8],[9],[10],[11],[12],[13],[14]]]=some c }).1
def Hw:A3:=(⟨_,by intro a;conv=>lhs;cbv⟩:{ c:A2->A3 // ∀ a,gF Tryz.f145 [(0,a)]=some (c a) }).1 Aks
def ZI:A3:=(⟨_,by conv=>lhs;cbv⟩:{ c // gF Tryz.f148 []=some c }).1
def Aku:A2:=(⟨_,by conv=>lhs;cbv⟩:{ c // gL Tryz.f155 0 []=some c }).1
def S1:A3:=(⟨_,by intro a;conv=>lhs;cbv⟩:{ c:A2->A3 // ∀ a,gF Tryz.f155 [(0,a)]=some (c a) }).1 Aku
def PK:A3:=(⟨_,by conv=>lhs;cbv⟩:{ c // gF Tryz.f157 [] [[[0],[1],[2],[3],[4],[5],[6],[7],[8],[9]],[[0],[1],[2],[3],[4],[5],[6],[7],[8],[9,6,2,0],[10],[11]]]=some c }).1
def Al8:A2:=(⟨_,by conv=>lhs;cbv⟩:{ c // gL Tryz.f186 2 [] [[[0],[1],[2],[3],[4],[5],[6],[7],[8],[9]],[[0],[1],[2],[3],[4],[5],[6],[7],[8],[9],[10],[11],[12],[13],[14],[15],[16],[17],[18],[19],[20],[21],[22],[23],[24],[25],[26],[27],[28],[29],[30],[31],[32]]]=some c }).1
def AkH:A2:=(⟨_,by conv=>lhs;cbv⟩:{ c // gL Tryz.f186 0 [] [[[0],[1],[2],[3],[4],[5],[6],[7],[8],[9],[10],[11],[12],[13],[14],[15],[16],[17],[18],[19],[20],[21],[22]]]=some c }).1
def S8:A3:=(⟨_,by intro a b;conv=>lhs;cbv⟩:{ c:A2->A2->A3 // ∀ a b,gF Tryz.f186 [(0,a),(2,b)]=some (c a b) }).1 AkH Al8
def A06:A3:=(⟨_,by conv=>lhs;cbv⟩:{ c // gF Tryz.f188 []=some c }).1
def PN:A3:=(⟨_,by conv=>lhs;cbv⟩:{ c // gF Tryz.f193 []=some c }).1
def A0b:A3:=(⟨_,by conv=>lhs;cbv⟩:{ c // gF Tryz.f195 []=some c }).1
end Go.AM
