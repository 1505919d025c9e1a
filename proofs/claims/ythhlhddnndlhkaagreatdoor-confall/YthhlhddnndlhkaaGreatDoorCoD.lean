/-
  Own work, part of the proof of these laws: the code of the functions that the law reaches, as the machine has it; read off the program as the text is compiled.
-/
import Derived.Test.YthhlhddnndlhkaaGreatDoorCoA
set_option maxRecDepth 10000
set_option maxHeartbeats 64000000
set_option linter.unusedVariables false
set_option linter.unusedSimpArgs false
set_option maxRecDepth 100000
set_option maxHeartbeats 4000000
namespace Go.AM
open Go Go.Proofs
def A0T:A3:=(⟨_,by conv=>lhs;cbv⟩:{ c // gF Tryz.f28 []=some c }).1
def A95:A3:=(⟨_,by conv=>lhs;cbv⟩:{ c // gF Tryz.f41 []=some c }).1
def A98:A3:=(⟨_,by conv=>lhs;cbv⟩:{ c // gF Tryz.f44 []=some c }).1
def A9d:A3:=(⟨_,by conv=>lhs;cbv⟩:{ c // gF Tryz.f53 []=some c }).1
def AoI:A2:=(⟨_,by conv=>lhs;cbv⟩:{ c // gL Tryz.f57 2 []=some c }).1
def Aod:A2:=(⟨_,by conv=>lhs;cbv⟩:{ c // gL Tryz.f57 0 []=some c }).1
def A9f:A3:=(⟨_,by intro a b;conv=>lhs;cbv⟩:{ c:A2->A2->A3 // ∀ a b,gF Tryz.f57 [(0,a),(2,b)]=some (c a b) }).1 Aod AoI
def Aok:A2:=(⟨_,by conv=>lhs;cbv⟩:{ c // gL Tryz.f67 0 []=some c }).1
def A9m:A3:=(⟨_,by intro a;conv=>lhs;cbv⟩:{ c:A2->A3 // ∀ a,gF Tryz.f67 [(0,a)]=some (c a) }).1 Aok
def A9o:A3:=(⟨_,by conv=>lhs;cbv⟩:{ c // gF Tryz.f70 []=some c }).1
def A9u:A3:=(⟨_,by conv=>lhs;cbv⟩:{ c // gF Tryz.f77 []=some c }).1
def A9w:A3:=(⟨_,by conv=>lhs;cbv⟩:{ c // gF Tryz.f80 []=some c }).1
def A9A:A3:=(⟨_,by conv=>lhs;cbv⟩:{ c // gF Tryz.f84 []=some c }).1
def AoQ:A2:=(⟨_,by conv=>lhs;cbv⟩:{ c // gL Tryz.f94 2 []=some c }).1
def Aoy:A2:=(⟨_,by intro a;conv=>lhs;cbv⟩:{ c:A2->A2 // ∀ a,gL Tryz.f94 0 [(2,a)]=some (c a) }).1 AoQ
def A9K:A3:=(⟨_,by intro a;conv=>lhs;cbv⟩:{ c:A2->A3 // ∀ a,gF Tryz.f94 [(0,a)]=some (c a) }).1 Aoy
def A9N:A3:=(⟨_,by conv=>lhs;cbv⟩:{ c // gF Tryz.f97 []=some c }).1
def Zq:A3:=(⟨_,by conv=>lhs;cbv⟩:{ c // gF Tryz.f110 []=some c }).1
def Alc:A2:=(⟨_,by conv=>lhs;cbv⟩:{ c // gL Tryz.f113 4 []=some c }).1
def Al1:A2:=(⟨_,by conv=>lhs;cbv⟩:{ c // gL Tryz.f113 2 []=some c }).1
def Akh:A2:=(⟨_,by intro a b;conv=>lhs;cbv⟩:{ c:A2->A2->A2 // ∀ a b,gL Tryz.f113 0 [(2,a),(4,b)]=some (c a b) }).1 Al1 Alc
def RS:A3:=(⟨_,by intro a;conv=>lhs;cbv⟩:{ c:A2->A3 // ∀ a,gF Tryz.f113 [(0,a)]=some (c a) }).1 Akh
def PE:A3:=(⟨_,by conv=>lhs;cbv⟩:{ c // gF Tryz.f118 []=some c }).1
def Zt:A3:=(⟨_,by conv=>lhs;cbv⟩:{ c // gF Tryz.f121 []=some c }).1
def KY:A3:=(⟨_,by conv=>lhs;cbv⟩:{ c // gF Tryz.f126 []=some c }).1
def KZ:A3:=(⟨_,by conv=>lhs;cbv⟩:{ c // gF Tryz.f135 [] [[[0],[1],[2],[3],[4],[5],[6],[7],[8],[9],[10],[11],[12],[13],[14],[15],[16],[17],[18],[19],[20],[21],[22],[23],[24],[25],[26],[27],[28],[29],[30],[31],[32],[33],[34]]]=some c }).1
def Akq:A2:=(⟨_,by conv=>lhs;cbv⟩:{ c // gL Tryz.f138 0 []=some c }).1
def ZB:A3:=(⟨_,by intro a;conv=>lhs;cbv⟩:{ c:A2->A3 // ∀ a,gF Tryz.f138 [(0,a)]=some (c a) }).1 Akq
def ZE:A3:=(⟨_,by conv=>lhs;cbv⟩:{ c // gF Tryz.f141 []=some c }).1
def PI:A3:=(⟨_,by conv=>lhs;cbv⟩:{ c // gF Tryz.f144 []=some c }).1
def ZK:A3:=(⟨_,by conv=>lhs;cbv⟩:{ c // gF Tryz.f151 []=some c }).1
def Akv:A2:=(⟨_,by conv=>lhs;cbv⟩:{ c // gL Tryz.f158 0 []=some c }).1
def ZO:A3:=(⟨_,by intro a;conv=>lhs;cbv⟩:{ c:A2->A3 // ∀ a,gF Tryz.f158 [(0,a)]=some (c a) }).1 Akv
def Akw:A2:=(⟨_,by conv=>lhs;cbv⟩:{ c // gL Tryz.f161 0 []=some c }).1
def ZR:A3:=(⟨_,by intro a;conv=>lhs;cbv⟩:{ c:A2->A3 // ∀ a,gF Tryz.f161 [(0,a)]=some (c a) }).1 Akw
def Aky:A2:=(⟨_,by conv=>lhs;cbv⟩:{ c // gL Tryz.f164 0 []=some c }).1
def ZS:A3:=(⟨_,by intro a;conv=>lhs;cbv⟩:{ c:A2->A3 // ∀ a,gF Tryz.f164 [(0,a)]=some (c a) }).1 Aky
def ZT:A3:=(⟨_,by conv=>lhs;cbv⟩:{ c // gF Tryz.f168 []=some c }).1
def AkC:A2:=(⟨_,by conv=>lhs;cbv⟩:{ c // gL Tryz.f171 0 []=some c }).1
def ZW:A3:=(⟨_,by intro a;conv=>lhs;cbv⟩:{ c:A2->A3 // ∀ a,gF Tryz.f171 [(0,a)]=some (c a) }).1 AkC
def ZZ:A3:=(⟨_,by conv=>lhs;cbv⟩:{ c // gF Tryz.f174 []=some c }).1
def A01:A3:=(⟨_,by conv=>lhs;cbv⟩:{ c // gF Tryz.f177 []=some c }).1
def Adv:A2:=(⟨_,by conv=>lhs;cbv⟩:{ c // gL Tryz.f180 2 []=some c }).1
def Adr:A2:=(⟨_,by conv=>lhs;cbv⟩:{ c // gL Tryz.f180 0 []=some c }).1
def L4:A3:=(⟨_,by intro a b;conv=>lhs;cbv⟩:{ c:A2->A2->A3 // ∀ a b,gF Tryz.f180 [(0,a),(2,b)]=some (c a b) }).1 Adr Adv
def A03:A3:=(⟨_,by conv=>lhs;cbv⟩:{ c // gF Tryz.f183 []=some c }).1
def S9:A3:=(⟨_,by conv=>lhs;cbv⟩:{ c // gF Tryz.f190 []=some c }).1
def A0d:A3:=(⟨_,by conv=>lhs;cbv⟩:{ c // gF Tryz.f198 []=some c }).1
def PO:A3:=(⟨_,by conv=>lhs;cbv⟩:{ c // gF Tryz.f201 [] [[[0],[1],[2],[3],[4],[5],[6],[7],[8],[9],[10],[11],[12],[13],[14],[15],[16],[17],[18],[19],[20],[21],[22],[23],[24],[25]],[[0],[1],[2],[3],[4],[5],[6],[7],[8],[9],[10],[11],[12]]]=some c }).1
def PQ:A3:=(⟨_,by conv=>lhs;cbv⟩:{ c // gF Tryz.f207 [] [[[0],[1],[2],[3],[4],[5],[6],[7],[8],[9],[10],[11],[12],[13],[14],[15],[16,14,11],[17]],[[0],[1],[2],[3],[4],[5],[6],[7],[8],[9],[10],[11],[12],[13],[14],[15],[16],[17],[18],[19],[20],[21],[22],[23],[24],[25],[26],[27],[28],[29],[30],[31],[32]]]=some c }).1
def Sa:A3:=(⟨_,by conv=>lhs;cbv⟩:{ c // gF Tryz.f210 []=some c }).1
def AkN:A2:=(⟨_,by conv=>lhs;cbv⟩:{ c // gL Tryz.f213 0 []=some c }).1
def A0p:A3:=(⟨_,by intro a;conv=>lhs;cbv⟩:{ c:A2->A3 // ∀ a,gF Tryz.f213 [(0,a)]=some (c a) }).1 AkN
def A0r:A3:=(⟨_,by conv=>lhs;cbv⟩:{ c // gF Tryz.f216 []=some c }).1
def A0t:A3:=(⟨_,by conv=>lhs;cbv⟩:{ c // gF Tryz.f219 []=some c }).1
def Ala:A2:=(⟨_,by conv=>lhs;cbv⟩:{ c // gL Tryz.f222 2 []=some c }).1
def A0w:A3:=(⟨_,by intro a;conv=>lhs;cbv⟩:{ c:A2->A3 // ∀ a,gF Tryz.f222 [(2,a)]=some (c a) }).1 Ala
def AkS:A2:=(⟨_,by conv=>lhs;cbv⟩:{ c // gL Tryz.f225 0 []=some c }).1
def A0y:A3:=(⟨_,by intro a;conv=>lhs;cbv⟩:{ c:A2->A3 // ∀ a,gF Tryz.f225 [(0,a)]=some (c a) }).1 AkS
def Sb:A3:=(⟨_,by conv=>lhs;cbv⟩:{ c // gF Tryz.f228 []=some c }).1
def L6:A3:=(⟨_,by conv=>lhs;cbv⟩:{ c // gF Tryz.f231 [] [[[0],[1],[2],[3],[4],[5],[6],[7,1],[8],[9],[10]],[[0],[1],[2],[3],[4],[5],[6],[7],[8],[9],[10],[14],[15],[16],[11,16,4],[12],[13],[17,13,4],[18],[19]],[[0],[1],[2],[5],[6],[7],[3,7],[4,7],[8],[9],[10]]]=some c }).1
def A0F:A3:=(⟨_,by conv=>lhs;cbv⟩:{ c // gF Tryz.f235 []=some c }).1
def A0H:A3:=(⟨_,by conv=>lhs;cbv⟩:{ c // gF Tryz.f238 []=some c }).1
def A76:A2:=(⟨_,by conv=>lhs;cbv⟩:{ c // gL Tryz.f241 0 []=some c }).1
def A0J:A3:=(⟨_,by intro a;conv=>lhs;cbv⟩:{ c:A2->A3 // ∀ a,gF Tryz.f241 [(0,a)]=some (c a) }).1 A76
def A0M:A3:=(⟨_,by conv=>lhs;cbv⟩:{ c // gF Tryz.f244 []=some c }).1
def Alb:A2:=(⟨_,by conv=>lhs;cbv⟩:{ c // gL Tryz.f247 2 []=some c }).1
def L7:A3:=(⟨_,by intro a;conv=>lhs;cbv⟩:{ c:A2->A3 // ∀ a,gF Tryz.f247 [(2,a)] [[[0],[1],[2],[3],[4],[5],[6],[7],[8],[9],[10],[11],[12]],[[0],[1],[2],[4],[5],[6],[3,5],[7],[8],[9],[10]],[[0],[1],[2],[3],[4],[5],[6],[7]]]=some (c a) }).1 Alb
def A0R:A3:=(⟨_,by conv=>lhs;cbv⟩:{ c // gF Tryz.f250 []=some c }).1
def AkW:A2:=(⟨_,by conv=>lhs;cbv⟩:{ c // gL Tryz.f253 0 []=some c }).1
def A0U:A3:=(⟨_,by intro a;conv=>lhs;cbv⟩:{ c:A2->A3 // ∀ a,gF Tryz.f253 [(0,a)]=some (c a) }).1 AkW
def A0X:A3:=(⟨_,by conv=>lhs;cbv⟩:{ c // gF Tryz.f256 []=some c }).1
def AkZ:A2:=(⟨_,by conv=>lhs;cbv⟩:{ c // gL Tryz.f259 0 []=some c }).1
def A10:A3:=(⟨_,by intro a;conv=>lhs;cbv⟩:{ c:A2->A3 // ∀ a,gF Tryz.f259 [(0,a)]=some (c a) }).1 AkZ
end Go.AM
