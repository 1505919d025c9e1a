/-
  Own work, part of the proof of these laws: the code of the functions that the law reaches, as the machine has it; read off the program as the text is compiled.
-/
import Derived.Test.YtpnaenhghnkggaaGreatDoorCoA
set_option maxRecDepth 10000
set_option maxHeartbeats 64000000
set_option linter.unusedVariables false
set_option linter.unusedSimpArgs false
set_option maxRecDepth 100000
set_option maxHeartbeats 4000000
namespace Go.AM
open Go Go.Proofs
def Aoy:A4:=(⟨_,by conv=>lhs;cbv⟩:{ c // gF Tryz.f8 []=some c }).1
def A0y:A4:=(⟨_,by conv=>lhs;cbv⟩:{ c // gF Tryz.f30 []=some c }).1
def Alt:A1:=(⟨_,by conv=>lhs;cbv⟩:{ c // gL Tryz.f35 8 []=some c }).1
def Alp:A1:=(⟨_,by intro a;conv=>lhs;cbv⟩:{ c:A1->A1 // ∀a,gL Tryz.f35 6 [(8,a)]=some (c a) }).1 Alt
def Alh:A1:=(⟨_,by conv=>lhs;cbv⟩:{ c // gL Tryz.f35 4 []=some c }).1
def Al3:A1:=(⟨_,by intro a;conv=>lhs;cbv⟩:{ c:A1->A1 // ∀a,gL Tryz.f35 2 [(4,a)]=some (c a) }).1 Alh
def Akp:A1:=(⟨_,by conv=>lhs;cbv⟩:{ c // gL Tryz.f35 0 [] [[[0],[1],[2],[3],[4],[5],[6],[7],[8],[9],[10]],[[0],[1],[2],[3],[4],[5],[6],[7],[8],[9],[10],[11],[12],[13],[14],[15],[16],[17],[18],[19],[20],[21],[22],[23],[24],[25],[26],[27],[28],[29],[30],[31],[32],[33],[34],[35]]]=some c }).1
def To:A4:=(⟨_,by intro a b d;conv=>lhs;cbv⟩:{ c:A1->A1->A1->A4 // ∀a b d,gF Tryz.f35 [(0,a),(2,b),(6,d)]=some (c a b d) }).1 Akp Al3 Alp
def Akt:A1:=(⟨_,by conv=>lhs;cbv⟩:{ c // gL Tryz.f42 0 []=some c }).1
def AbU:A4:=(⟨_,by intro a;conv=>lhs;cbv⟩:{ c:A1->A4 // ∀a,gF Tryz.f42 [(0,a)]=some (c a) }).1 Akt
def AbX:A4:=(⟨_,by conv=>lhs;cbv⟩:{ c // gF Tryz.f45 []=some c }).1
def A0z:A4:=(⟨_,by conv=>lhs;cbv⟩:{ c // gF Tryz.f49 []=some c }).1
def A0B:A4:=(⟨_,by conv=>lhs;cbv⟩:{ c // gF Tryz.f60 []=some c }).1
def Ac9:A4:=(⟨_,by conv=>lhs;cbv⟩:{ c // gF Tryz.f70 []=some c }).1
def QI:A1:=(⟨_,by conv=>lhs;cbv⟩:{ c // gL Tryz.f73 0 []=some c }).1
def Acc:A4:=(⟨_,by intro a;conv=>lhs;cbv⟩:{ c:A1->A4 // ∀a,gF Tryz.f73 [(0,a)]=some (c a) }).1 QI
def Ace:A4:=(⟨_,by conv=>lhs;cbv⟩:{ c // gF Tryz.f76 []=some c }).1
def AiG:A4:=(⟨_,by conv=>lhs;cbv⟩:{ c // gF Tryz.f79 []=some c }).1
def QC:A4:=(⟨_,by conv=>lhs;cbv⟩:{ c // gF Tryz.f84 []=some c }).1
def AcI:A1:=(⟨_,by conv=>lhs;cbv⟩:{ c // gL Tryz.f94 2 [] [[[0],[1],[2],[3],[4],[5],[6],[7],[8],[9]],[[0],[1],[2],[3],[4],[5],[6],[7],[8],[9],[10],[11],[12],[13],[14],[15],[16],[17],[18],[19],[20],[21],[22],[23],[24],[25],[26],[27]]]=some c }).1
def AkV:A1:=(⟨_,by intro a;conv=>lhs;cbv⟩:{ c:A1->A1 // ∀a,gL Tryz.f94 0 [(2,a)] [[[0],[1],[2],[3],[4],[5],[6],[7],[8],[9],[10],[11],[12],[13],[14],[15],[16],[17],[18],[19],[20],[21],[22]],[[0],[1],[2],[3],[4],[5],[6],[7],[8],[9]]]=some (c a) }).1 AcI
def A6t:A4:=(⟨_,by intro a;conv=>lhs;cbv⟩:{ c:A1->A4 // ∀a,gF Tryz.f94 [(0,a)]=some (c a) }).1 AkV
def AcH:A1:=(⟨_,by conv=>lhs;cbv⟩:{ c // gL Tryz.f97 0 []=some c }).1
def Aci:A4:=(⟨_,by intro a;conv=>lhs;cbv⟩:{ c:A1->A4 // ∀a,gF Tryz.f97 [(0,a)]=some (c a) }).1 AcH
def AkX:A1:=(⟨_,by conv=>lhs;cbv⟩:{ c // gL Tryz.f100 0 [] [[[0],[1],[2],[3],[4],[5],[6],[7],[8],[9],[10],[11],[12],[13],[14],[15],[16],[17,15,12],[18]],[[0],[1],[2],[3],[4],[5],[6],[7],[8],[9],[10],[11],[12],[13],[14],[15],[16],[17],[18],[19]]]=some c }).1
def A6u:A4:=(⟨_,by intro a;conv=>lhs;cbv⟩:{ c:A1->A4 // ∀a,gF Tryz.f100 [(0,a)]=some (c a) }).1 AkX
def A2L:A4:=(⟨_,by conv=>lhs;cbv⟩:{ c // gF Tryz.f103 []=some c }).1
def A2O:A4:=(⟨_,by conv=>lhs;cbv⟩:{ c // gF Tryz.f106 []=some c }).1
def A2T:A4:=(⟨_,by conv=>lhs;cbv⟩:{ c // gF Tryz.f121 []=some c }).1
def Va:A1:=(⟨_,by conv=>lhs;cbv⟩:{ c // gL Tryz.f130 0 []=some c }).1
def A2Z:A4:=(⟨_,by intro a;conv=>lhs;cbv⟩:{ c:A1->A4 // ∀a,gF Tryz.f130 [(0,a)]=some (c a) }).1 Va
def Vd:A1:=(⟨_,by conv=>lhs;cbv⟩:{ c // gL Tryz.f133 0 []=some c }).1
def A31:A4:=(⟨_,by intro a;conv=>lhs;cbv⟩:{ c:A1->A4 // ∀a,gF Tryz.f133 [(0,a)]=some (c a) }).1 Vd
def A33:A4:=(⟨_,by conv=>lhs;cbv⟩:{ c // gF Tryz.f136 []=some c }).1
def A35:A4:=(⟨_,by conv=>lhs;cbv⟩:{ c // gF Tryz.f139 []=some c }).1
def A37:A4:=(⟨_,by conv=>lhs;cbv⟩:{ c // gF Tryz.f142 []=some c }).1
def A3a:A4:=(⟨_,by conv=>lhs;cbv⟩:{ c // gF Tryz.f145 []=some c }).1
def A3c:A4:=(⟨_,by conv=>lhs;cbv⟩:{ c // gF Tryz.f148 []=some c }).1
def A6N:A1:=(⟨_,by conv=>lhs;cbv⟩:{ c // gL Tryz.f151 2 []=some c }).1
def A6J:A1:=(⟨_,by conv=>lhs;cbv⟩:{ c // gL Tryz.f151 0 []=some c }).1
def A3d:A4:=(⟨_,by intro a b;conv=>lhs;cbv⟩:{ c:A1->A1->A4 // ∀a b,gF Tryz.f151 [(0,a),(2,b)]=some (c a b) }).1 A6J A6N
def Agx:A1:=(⟨_,by conv=>lhs;cbv⟩:{ c // gL Tryz.f154 0 []=some c }).1
def A3f:A4:=(⟨_,by intro a;conv=>lhs;cbv⟩:{ c:A1->A4 // ∀a,gF Tryz.f154 [(0,a)]=some (c a) }).1 Agx
def A3i:A4:=(⟨_,by conv=>lhs;cbv⟩:{ c // gF Tryz.f162 []=some c }).1
def A6K:A1:=(⟨_,by conv=>lhs;cbv⟩:{ c // gL Tryz.f165 0 [] [[[0],[1],[2],[3],[4],[5],[6],[7],[8],[9],[10]],[[0],[1],[2],[3],[4],[5],[6],[7],[8],[9],[10],[11],[12]]]=some c }).1
def A3l:A4:=(⟨_,by intro a;conv=>lhs;cbv⟩:{ c:A1->A4 // ∀a,gF Tryz.f165 [(0,a)]=some (c a) }).1 A6K
def UR:A4:=(⟨_,by conv=>lhs;cbv⟩:{ c // gF Tryz.f168 []=some c }).1
def Ah7:A1:=(⟨_,by conv=>lhs;cbv⟩:{ c // gL Tryz.f177 2 []=some c }).1
def AgG:A1:=(⟨_,by intro a;conv=>lhs;cbv⟩:{ c:A1->A1 // ∀a,gL Tryz.f177 0 [(2,a)]=some (c a) }).1 Ah7
def UU:A4:=(⟨_,by intro a;conv=>lhs;cbv⟩:{ c:A1->A4 // ∀a,gF Tryz.f177 [(0,a)]=some (c a) }).1 AgG
def AgI:A1:=(⟨_,by conv=>lhs;cbv⟩:{ c // gL Tryz.f182 0 [] [[[0],[1],[2],[3],[4],[5],[6],[7],[8],[9],[10],[11]],[[0],[1],[2],[3],[4],[5],[6],[7],[8],[9],[10],[11,1],[12],[13]]]=some c }).1
def A3u:A4:=(⟨_,by intro a;conv=>lhs;cbv⟩:{ c:A1->A4 // ∀a,gF Tryz.f182 [(0,a)]=some (c a) }).1 AgI
def A3w:A4:=(⟨_,by conv=>lhs;cbv⟩:{ c // gF Tryz.f185 []=some c }).1
def A3z:A4:=(⟨_,by conv=>lhs;cbv⟩:{ c // gF Tryz.f188 []=some c }).1
def AgM:A1:=(⟨_,by conv=>lhs;cbv⟩:{ c // gL Tryz.f191 0 []=some c }).1
def A3B:A4:=(⟨_,by intro a;conv=>lhs;cbv⟩:{ c:A1->A4 // ∀a,gF Tryz.f191 [(0,a)]=some (c a) }).1 AgM
def AgO:A1:=(⟨_,by conv=>lhs;cbv⟩:{ c // gL Tryz.f194 0 []=some c }).1
def A3E:A4:=(⟨_,by intro a;conv=>lhs;cbv⟩:{ c:A1->A4 // ∀a,gF Tryz.f194 [(0,a)]=some (c a) }).1 AgO
def A3G:A4:=(⟨_,by conv=>lhs;cbv⟩:{ c // gF Tryz.f197 []=some c }).1
def AbF:A4:=(⟨_,by conv=>lhs;cbv⟩:{ c // gF Tryz.f200 []=some c }).1
def Aha:A1:=(⟨_,by conv=>lhs;cbv⟩:{ c // gL Tryz.f203 2 []=some c }).1
def Vg:A1:=(⟨_,by intro a;conv=>lhs;cbv⟩:{ c:A1->A1 // ∀a,gL Tryz.f203 0 [(2,a)]=some (c a) }).1 Aha
def N6:A4:=(⟨_,by intro a;conv=>lhs;cbv⟩:{ c:A1->A4 // ∀a,gF Tryz.f203 [(0,a)]=some (c a) }).1 Vg
def Qz:A4:=(⟨_,by conv=>lhs;cbv⟩:{ c // gF Tryz.f208 [] [[[0],[1],[2],[3],[4],[5],[6],[7],[8],[9],[10],[11],[12],[13],[14],[15],[16],[17],[18],[19],[20],[21],[22],[23],[24],[25]],[[0],[1],[2],[3],[4],[5],[6],[7],[8],[9],[10],[11],[12]]]=some c }).1
def A3N:A4:=(⟨_,by conv=>lhs;cbv⟩:{ c // gF Tryz.f211 []=some c }).1
def A3Q:A4:=(⟨_,by conv=>lhs;cbv⟩:{ c // gF Tryz.f214 []=some c }).1
def A3V:A4:=(⟨_,by conv=>lhs;cbv⟩:{ c // gF Tryz.f220 []=some c }).1
def AgT:A1:=(⟨_,by conv=>lhs;cbv⟩:{ c // gL Tryz.f223 0 []=some c }).1
def A3X:A4:=(⟨_,by intro a;conv=>lhs;cbv⟩:{ c:A1->A4 // ∀a,gF Tryz.f223 [(0,a)]=some (c a) }).1 AgT
def A3Z:A4:=(⟨_,by conv=>lhs;cbv⟩:{ c // gF Tryz.f226 []=some c }).1
def AbL:A4:=(⟨_,by conv=>lhs;cbv⟩:{ c // gF Tryz.f229 []=some c }).1
def AgV:A1:=(⟨_,by conv=>lhs;cbv⟩:{ c // gL Tryz.f233 0 []=some c }).1
def A41:A4:=(⟨_,by intro a;conv=>lhs;cbv⟩:{ c:A1->A4 // ∀a,gF Tryz.f233 [(0,a)]=some (c a) }).1 AgV
def A43:A4:=(⟨_,by conv=>lhs;cbv⟩:{ c // gF Tryz.f236 []=some c }).1
def A45:A4:=(⟨_,by conv=>lhs;cbv⟩:{ c // gF Tryz.f239 []=some c }).1
def AgX:A1:=(⟨_,by conv=>lhs;cbv⟩:{ c // gL Tryz.f242 0 []=some c }).1
def A48:A4:=(⟨_,by intro a;conv=>lhs;cbv⟩:{ c:A1->A4 // ∀a,gF Tryz.f242 [(0,a)]=some (c a) }).1 AgX
def AgY:A1:=(⟨_,by conv=>lhs;cbv⟩:{ c // gL Tryz.f245 0 []=some c }).1
def A4a:A4:=(⟨_,by intro a;conv=>lhs;cbv⟩:{ c:A1->A4 // ∀a,gF Tryz.f245 [(0,a)]=some (c a) }).1 AgY
end Go.AM
