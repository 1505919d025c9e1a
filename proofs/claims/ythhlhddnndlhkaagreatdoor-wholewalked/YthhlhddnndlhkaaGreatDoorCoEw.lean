/-
  Own work, part of the proof of these laws: the code of the functions that the law reaches, as the machine has it; read off the program as the text is compiled.
-/
import Derived.Test.YthhlhddnndlhkaaGreatDoorCoA
set_option maxRecDepth 10000
set_option maxHeartbeats 64000000
set_option linter.unusedVariables false
set_option linter.unusedSimpArgs false
set_option maxRecDepth 100000
set_option maxHeartbeats 4000000
namespace Go.AM
open Go Go.Proofs
def A9I:A3:=(⟨_,by conv=>lhs;cbv⟩:{ c // gF Tryz.f12 []=some c }).1
def AnZ:A2:=(⟨_,by conv=>lhs;cbv⟩:{ c // gL Tryz.f14 0 []=some c }).1
def P5:A3:=(⟨_,by intro a;conv=>lhs;cbv⟩:{ c:A2->A3 // ∀ a,gF Tryz.f14 [(0,a)]=some (c a) }).1 AnZ
def A8T:A3:=(⟨_,by conv=>lhs;cbv⟩:{ c // gF Tryz.f19 []=some c }).1
def Adb:A3:=(⟨_,by conv=>lhs;cbv⟩:{ c // gF Tryz.f46 []=some c }).1
def Ap0:A2:=(⟨_,by conv=>lhs;cbv⟩:{ c // gL Tryz.f49 8 [] [[[0],[1],[2],[3],[4],[5],[6],[7],[8],[9],[10],[11],[12],[13],[14],[15],[16],[17],[18],[19],[20],[21],[22],[23],[24],[25],[26],[27],[28],[29],[30],[31],[32],[33],[34],[35],[36]]]=some c }).1
def AoX:A2:=(⟨_,by conv=>lhs;cbv⟩:{ c // gL Tryz.f49 6 [] [[[0],[1],[2],[3],[4],[5],[6],[7],[8],[9],[10],[11],[12],[13],[15],[16],[17],[18],[19],[20],[14,20,17,7],[21,7],[22],[23]]]=some c }).1
def AoT:A2:=(⟨_,by conv=>lhs;cbv⟩:{ c // gL Tryz.f49 4 []=some c }).1
def AoH:A2:=(⟨_,by conv=>lhs;cbv⟩:{ c // gL Tryz.f49 2 [] [[[0],[1],[2],[3],[4],[5],[6],[7],[8],[9],[10],[11],[12],[13],[14],[15],[16],[17],[18],[19],[20],[21],[22],[23],[24]],[[0],[1],[2],[3],[4],[5],[6],[7],[8],[9],[10],[11],[12],[13],[14],[15],[16],[17],[18],[19,5,2],[20],[21]]]=some c }).1
def Aob:A2:=(⟨_,by intro a;conv=>lhs;cbv⟩:{ c:A2->A2 // ∀ a,gL Tryz.f49 0 [(2,a)]=some (c a) }).1 AoH
def A3s:A3:=(⟨_,by intro a b d e;conv=>lhs;cbv⟩:{ c:A2->A2->A2->A2->A3 // ∀ a b d e,gF Tryz.f49 [(0,a),(4,b),(6,d),(8,e)]=some (c a b d e) }).1 Aob AoT AoX Ap0
def A3t:A3:=(⟨_,by conv=>lhs;cbv⟩:{ c // gF Tryz.f52 []=some c }).1
def AoD:A2:=(⟨_,by conv=>lhs;cbv⟩:{ c // gL Tryz.f58 1 []=some c }).1
def Jg:A3:=(⟨_,by intro a;conv=>lhs;cbv⟩:{ c:A2->A3 // ∀ a,gF Tryz.f58 [(1,a)] [[[0],[1],[2],[3],[4],[5],[6],[7],[8],[9],[10],[11],[12],[13],[14]],[[0],[1],[2],[3],[4],[5],[6],[7],[8],[13],[9],[10],[11],[12],[14],[15]],[[0],[1],[2],[3],[4],[5],[6],[7],[8],[9],[10],[11],[12]]]=some (c a) }).1 AoD
def A3u:A3:=(⟨_,by conv=>lhs;cbv⟩:{ c // gF Tryz.f62 []=some c }).1
def Aoh:A2:=(⟨_,by conv=>lhs;cbv⟩:{ c // gL Tryz.f64 0 []=some c }).1
def A9j:A3:=(⟨_,by intro a;conv=>lhs;cbv⟩:{ c:A2->A3 // ∀ a,gF Tryz.f64 [(0,a)]=some (c a) }).1 Aoh
def AoM:A2:=(⟨_,by conv=>lhs;cbv⟩:{ c // gL Tryz.f66 2 []=some c }).1
def Aoj:A2:=(⟨_,by intro a;conv=>lhs;cbv⟩:{ c:A2->A2 // ∀ a,gL Tryz.f66 0 [(2,a)]=some (c a) }).1 AoM
def A9l:A3:=(⟨_,by intro a;conv=>lhs;cbv⟩:{ c:A2->A3 // ∀ a,gF Tryz.f66 [(0,a)]=some (c a) }).1 Aoj
def AoV:A2:=(⟨_,by conv=>lhs;cbv⟩:{ c // gL Tryz.f83 4 []=some c }).1
def AoO:A2:=(⟨_,by intro a;conv=>lhs;cbv⟩:{ c:A2->A2 // ∀ a,gL Tryz.f83 2 [(4,a)]=some (c a) }).1 AoV
def Aor:A2:=(⟨_,by conv=>lhs;cbv⟩:{ c // gL Tryz.f83 0 []=some c }).1
def A9z:A3:=(⟨_,by intro a b;conv=>lhs;cbv⟩:{ c:A2->A2->A3 // ∀ a b,gF Tryz.f83 [(0,a),(2,b)]=some (c a b) }).1 Aor AoO
def Aow:A2:=(⟨_,by conv=>lhs;cbv⟩:{ c // gL Tryz.f92 0 []=some c }).1
def A9H:A3:=(⟨_,by intro a;conv=>lhs;cbv⟩:{ c:A2->A3 // ∀ a,gF Tryz.f92 [(0,a)]=some (c a) }).1 Aow
def A3z:A3:=(⟨_,by conv=>lhs;cbv⟩:{ c // gF Tryz.f100 []=some c }).1
def AoC:A2:=(⟨_,by conv=>lhs;cbv⟩:{ c // gL Tryz.f102 0 []=some c }).1
def A9P:A3:=(⟨_,by intro a;conv=>lhs;cbv⟩:{ c:A2->A3 // ∀ a,gF Tryz.f102 [(0,a)]=some (c a) }).1 AoC
def Akc:A2:=(⟨_,by conv=>lhs;cbv⟩:{ c // gL Tryz.f104 0 [] [[[0],[1],[2],[3],[4],[5],[6],[7],[8],[9],[10],[11],[12],[13],[14],[15],[16],[17],[18],[19],[20],[21],[22],[23],[24],[25],[26],[27],[28],[29],[30],[31],[32],[33],[34]]]=some c }).1
def Zl:A3:=(⟨_,by intro a;conv=>lhs;cbv⟩:{ c:A2->A3 // ∀ a,gF Tryz.f104 [(0,a)]=some (c a) }).1 Akc
def Mb:A3:=(⟨_,by conv=>lhs;cbv⟩:{ c // gF Tryz.f106 []=some c }).1
def Al0:A2:=(⟨_,by conv=>lhs;cbv⟩:{ c // gL Tryz.f108 2 []=some c }).1
def Ake:A2:=(⟨_,by intro a;conv=>lhs;cbv⟩:{ c:A2->A2 // ∀ a,gL Tryz.f108 0 [(2,a)]=some (c a) }).1 Al0
def Zo:A3:=(⟨_,by intro a;conv=>lhs;cbv⟩:{ c:A2->A3 // ∀ a,gF Tryz.f108 [(0,a)]=some (c a) }).1 Ake
def RU:A3:=(⟨_,by conv=>lhs;cbv⟩:{ c // gF Tryz.f116 []=some c }).1
def YG:A2:=(⟨_,by conv=>lhs;cbv⟩:{ c // gL Tryz.f125 0 []=some c }).1
def RX:A3:=(⟨_,by intro a;conv=>lhs;cbv⟩:{ c:A2->A3 // ∀ a,gF Tryz.f125 [(0,a)]=some (c a) }).1 YG
def Akn:A2:=(⟨_,by conv=>lhs;cbv⟩:{ c // gL Tryz.f130 0 []=some c }).1
def PG:A3:=(⟨_,by intro a;conv=>lhs;cbv⟩:{ c:A2->A3 // ∀ a,gF Tryz.f130 [(0,a)]=some (c a) }).1 Akn
def PH:A3:=(⟨_,by conv=>lhs;cbv⟩:{ c // gF Tryz.f132 []=some c }).1
def Alf:A2:=(⟨_,by conv=>lhs;cbv⟩:{ c // gL Tryz.f134 4 []=some c }).1
def Ge:A2:=(⟨_,by intro a;conv=>lhs;cbv⟩:{ c:A2->A2 // ∀ a,gL Tryz.f134 2 [(4,a)]=some (c a) }).1 Alf
def Akp:A2:=(⟨_,by intro a;conv=>lhs;cbv⟩:{ c:A2->A2 // ∀ a,gL Tryz.f134 0 [(2,a)]=some (c a) }).1 Ge
def RZ:A3:=(⟨_,by intro a;conv=>lhs;cbv⟩:{ c:A2->A3 // ∀ a,gF Tryz.f134 [(0,a)]=some (c a) }).1 Akp
def PJ:A3:=(⟨_,by conv=>lhs;cbv⟩:{ c // gF Tryz.f146 []=some c }).1
def Aku:A2:=(⟨_,by conv=>lhs;cbv⟩:{ c // gL Tryz.f155 0 []=some c }).1
def S1:A3:=(⟨_,by intro a;conv=>lhs;cbv⟩:{ c:A2->A3 // ∀ a,gF Tryz.f155 [(0,a)]=some (c a) }).1 Aku
def PK:A3:=(⟨_,by conv=>lhs;cbv⟩:{ c // gF Tryz.f157 [] [[[0],[1],[2],[3],[4],[5],[6],[7],[8],[9]],[[0],[1],[2],[3],[4],[5],[6],[7],[8],[9,6,2,0],[10],[11]]]=some c }).1
def PM:A3:=(⟨_,by conv=>lhs;cbv⟩:{ c // gF Tryz.f184 []=some c }).1
def Al9:A2:=(⟨_,by conv=>lhs;cbv⟩:{ c // gL Tryz.f187 2 [] [[[0],[1],[2],[3],[4],[5],[6],[7],[8],[9]],[[0],[1],[2],[3],[4],[5],[6],[7],[8],[9],[10],[11],[12],[13],[14],[15],[16],[17],[18],[19],[20],[21],[22]]]=some c }).1
def AkI:A2:=(⟨_,by intro a;conv=>lhs;cbv⟩:{ c:A2->A2 // ∀ a,gL Tryz.f187 0 [(2,a)]=some (c a) }).1 Al9
def A05:A3:=(⟨_,by intro a;conv=>lhs;cbv⟩:{ c:A2->A3 // ∀ a,gF Tryz.f187 [(0,a)]=some (c a) }).1 AkI
def AkL:A2:=(⟨_,by conv=>lhs;cbv⟩:{ c // gL Tryz.f192 0 []=some c }).1
def A09:A3:=(⟨_,by intro a;conv=>lhs;cbv⟩:{ c:A2->A3 // ∀ a,gF Tryz.f192 [(0,a)]=some (c a) }).1 AkL
def A0i:A3:=(⟨_,by conv=>lhs;cbv⟩:{ c // gF Tryz.f204 []=some c }).1
def A0k:A3:=(⟨_,by conv=>lhs;cbv⟩:{ c // gF Tryz.f206 []=some c }).1
end Go.AM
