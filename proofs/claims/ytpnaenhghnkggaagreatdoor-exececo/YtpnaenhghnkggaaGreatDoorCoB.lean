/-
  Own work, part of the proof of these laws: the code of the functions that the law reaches, as the machine has it; read off the program as the text is compiled.
-/
import Derived.Test.YtpnaenhghnkggaaGreatDoorCoA
set_option maxRecDepth 10000
set_option maxHeartbeats 64000000
set_option linter.unusedVariables false
set_option linter.unusedSimpArgs false
set_option maxRecDepth 100000
set_option maxHeartbeats 4000000
namespace Go.AM
open Go Go.Proofs
def AiU:A3:=(⟨_,by conv=>lhs;cbv⟩:{ c // gF Tryz.f8 []=some c }).1
def RM:A3:=(⟨_,by conv=>lhs;cbv⟩:{ c // gF Tryz.f30 []=some c }).1
def AfY:A4:=(⟨_,by conv=>lhs;cbv⟩:{ c // gL Tryz.f35 8 []=some c }).1
def AfX:A4:=(⟨_,by intro a;conv=>lhs;cbv⟩:{ c:A4->A4 // ∀ a,gL Tryz.f35 6 [(8,a)]=some (c a) }).1 AfY
def AfT:A4:=(⟨_,by conv=>lhs;cbv⟩:{ c // gL Tryz.f35 4 []=some c }).1
def AfM:A4:=(⟨_,by intro a;conv=>lhs;cbv⟩:{ c:A4->A4 // ∀ a,gL Tryz.f35 2 [(4,a)]=some (c a) }).1 AfT
def Afo:A4:=(⟨_,by conv=>lhs;cbv⟩:{ c // gL Tryz.f35 0 [] [[[0],[1],[2],[3],[4],[5],[6],[7],[8],[9],[10]],[[0],[1],[2],[3],[4],[5],[6],[7],[8],[9],[10],[11],[12],[13],[14],[15],[16],[17],[18],[19],[20],[21],[22],[23],[24],[25],[26],[27],[28],[29],[30],[31],[32],[33],[34],[35]]]=some c }).1
def RN:A3:=(⟨_,by intro a b d;conv=>lhs;cbv⟩:{ c:A4->A4->A4->A3 // ∀ a b d,gF Tryz.f35 [(0,a),(2,b),(6,d)]=some (c a b d) }).1 Afo AfM AfX
def Afq:A4:=(⟨_,by conv=>lhs;cbv⟩:{ c // gL Tryz.f42 0 []=some c }).1
def A8O:A3:=(⟨_,by intro a;conv=>lhs;cbv⟩:{ c:A4->A3 // ∀ a,gF Tryz.f42 [(0,a)]=some (c a) }).1 Afq
def A8R:A3:=(⟨_,by conv=>lhs;cbv⟩:{ c // gF Tryz.f45 []=some c }).1
def YD:A3:=(⟨_,by conv=>lhs;cbv⟩:{ c // gF Tryz.f49 []=some c }).1
def YF:A3:=(⟨_,by conv=>lhs;cbv⟩:{ c // gF Tryz.f60 []=some c }).1
def A91:A3:=(⟨_,by conv=>lhs;cbv⟩:{ c // gF Tryz.f70 []=some c }).1
def Pv:A4:=(⟨_,by conv=>lhs;cbv⟩:{ c // gL Tryz.f73 0 []=some c }).1
def A93:A3:=(⟨_,by intro a;conv=>lhs;cbv⟩:{ c:A4->A3 // ∀ a,gF Tryz.f73 [(0,a)]=some (c a) }).1 Pv
def A95:A3:=(⟨_,by conv=>lhs;cbv⟩:{ c // gF Tryz.f76 []=some c }).1
def Ae2:A3:=(⟨_,by conv=>lhs;cbv⟩:{ c // gF Tryz.f79 []=some c }).1
def Pp:A3:=(⟨_,by conv=>lhs;cbv⟩:{ c // gF Tryz.f84 []=some c }).1
def A9t:A4:=(⟨_,by conv=>lhs;cbv⟩:{ c // gL Tryz.f94 2 [] [[[0],[1],[2],[3],[4],[5],[6],[7],[8],[9]],[[0],[1],[2],[3],[4],[5],[6],[7],[8],[9],[10],[11],[12],[13],[14],[15],[16],[17],[18],[19],[20],[21],[22],[23],[24],[25],[26],[27]]]=some c }).1
def AfG:A4:=(⟨_,by intro a;conv=>lhs;cbv⟩:{ c:A4->A4 // ∀ a,gL Tryz.f94 0 [(2,a)] [[[0],[1],[2],[3],[4],[5],[6],[7],[8],[9],[10],[11],[12],[13],[14],[15],[16],[17],[18],[19],[20],[21],[22]],[[0],[1],[2],[3],[4],[5],[6],[7],[8],[9]]]=some (c a) }).1 A9t
def A3S:A3:=(⟨_,by intro a;conv=>lhs;cbv⟩:{ c:A4->A3 // ∀ a,gF Tryz.f94 [(0,a)]=some (c a) }).1 AfG
def A9s:A4:=(⟨_,by conv=>lhs;cbv⟩:{ c // gL Tryz.f97 0 []=some c }).1
def A98:A3:=(⟨_,by intro a;conv=>lhs;cbv⟩:{ c:A4->A3 // ∀ a,gF Tryz.f97 [(0,a)]=some (c a) }).1 A9s
def AfI:A4:=(⟨_,by conv=>lhs;cbv⟩:{ c // gL Tryz.f100 0 [] [[[0],[1],[2],[3],[4],[5],[6],[7],[8],[9],[10],[11],[12],[13],[14],[15],[16],[17,15,12],[18]],[[0],[1],[2],[3],[4],[5],[6],[7],[8],[9],[10],[11],[12],[13],[14],[15],[16],[17],[18],[19]]]=some c }).1
def A3T:A3:=(⟨_,by intro a;conv=>lhs;cbv⟩:{ c:A4->A3 // ∀ a,gF Tryz.f100 [(0,a)]=some (c a) }).1 AfI
def A0O:A3:=(⟨_,by conv=>lhs;cbv⟩:{ c // gF Tryz.f103 []=some c }).1
def A0R:A3:=(⟨_,by conv=>lhs;cbv⟩:{ c // gF Tryz.f106 []=some c }).1
def A0U:A3:=(⟨_,by conv=>lhs;cbv⟩:{ c // gF Tryz.f121 []=some c }).1
def Tj:A4:=(⟨_,by conv=>lhs;cbv⟩:{ c // gL Tryz.f130 0 []=some c }).1
def A10:A3:=(⟨_,by intro a;conv=>lhs;cbv⟩:{ c:A4->A3 // ∀ a,gF Tryz.f130 [(0,a)]=some (c a) }).1 Tj
def Tk:A4:=(⟨_,by conv=>lhs;cbv⟩:{ c // gL Tryz.f133 0 []=some c }).1
def A12:A3:=(⟨_,by intro a;conv=>lhs;cbv⟩:{ c:A4->A3 // ∀ a,gF Tryz.f133 [(0,a)]=some (c a) }).1 Tk
def A14:A3:=(⟨_,by conv=>lhs;cbv⟩:{ c // gF Tryz.f136 []=some c }).1
def A16:A3:=(⟨_,by conv=>lhs;cbv⟩:{ c // gF Tryz.f139 []=some c }).1
def A18:A3:=(⟨_,by conv=>lhs;cbv⟩:{ c // gF Tryz.f142 []=some c }).1
def A1b:A3:=(⟨_,by conv=>lhs;cbv⟩:{ c // gF Tryz.f145 []=some c }).1
def A1d:A3:=(⟨_,by conv=>lhs;cbv⟩:{ c // gF Tryz.f148 []=some c }).1
def A47:A4:=(⟨_,by conv=>lhs;cbv⟩:{ c // gL Tryz.f151 2 []=some c }).1
def A43:A4:=(⟨_,by conv=>lhs;cbv⟩:{ c // gL Tryz.f151 0 []=some c }).1
def A1e:A3:=(⟨_,by intro a b;conv=>lhs;cbv⟩:{ c:A4->A4->A3 // ∀ a b,gF Tryz.f151 [(0,a),(2,b)]=some (c a b) }).1 A43 A47
def Acm:A4:=(⟨_,by conv=>lhs;cbv⟩:{ c // gL Tryz.f154 0 []=some c }).1
def A1g:A3:=(⟨_,by intro a;conv=>lhs;cbv⟩:{ c:A4->A3 // ∀ a,gF Tryz.f154 [(0,a)]=some (c a) }).1 Acm
def A1i:A3:=(⟨_,by conv=>lhs;cbv⟩:{ c // gF Tryz.f162 []=some c }).1
def A44:A4:=(⟨_,by conv=>lhs;cbv⟩:{ c // gL Tryz.f165 0 [] [[[0],[1],[2],[3],[4],[5],[6],[7],[8],[9],[10]],[[0],[1],[2],[3],[4],[5],[6],[7],[8],[9],[10],[11],[12]]]=some c }).1
def A1l:A3:=(⟨_,by intro a;conv=>lhs;cbv⟩:{ c:A4->A3 // ∀ a,gF Tryz.f165 [(0,a)]=some (c a) }).1 A44
def T0:A3:=(⟨_,by conv=>lhs;cbv⟩:{ c // gF Tryz.f168 []=some c }).1
def AcQ:A4:=(⟨_,by conv=>lhs;cbv⟩:{ c // gL Tryz.f177 2 []=some c }).1
def Acs:A4:=(⟨_,by intro a;conv=>lhs;cbv⟩:{ c:A4->A4 // ∀ a,gL Tryz.f177 0 [(2,a)]=some (c a) }).1 AcQ
def T4:A3:=(⟨_,by intro a;conv=>lhs;cbv⟩:{ c:A4->A3 // ∀ a,gF Tryz.f177 [(0,a)]=some (c a) }).1 Acs
def Acv:A4:=(⟨_,by conv=>lhs;cbv⟩:{ c // gL Tryz.f182 0 [] [[[0],[1],[2],[3],[4],[5],[6],[7],[8],[9],[10],[11]],[[0],[1],[2],[3],[4],[5],[6],[7],[8],[9],[10],[11,1],[12],[13]]]=some c }).1
def A1u:A3:=(⟨_,by intro a;conv=>lhs;cbv⟩:{ c:A4->A3 // ∀ a,gF Tryz.f182 [(0,a)]=some (c a) }).1 Acv
def A1w:A3:=(⟨_,by conv=>lhs;cbv⟩:{ c // gF Tryz.f185 []=some c }).1
def A1z:A3:=(⟨_,by conv=>lhs;cbv⟩:{ c // gF Tryz.f188 []=some c }).1
def AcA:A4:=(⟨_,by conv=>lhs;cbv⟩:{ c // gL Tryz.f191 0 []=some c }).1
def A1B:A3:=(⟨_,by intro a;conv=>lhs;cbv⟩:{ c:A4->A3 // ∀ a,gF Tryz.f191 [(0,a)]=some (c a) }).1 AcA
def AcC:A4:=(⟨_,by conv=>lhs;cbv⟩:{ c // gL Tryz.f194 0 []=some c }).1
def A1E:A3:=(⟨_,by intro a;conv=>lhs;cbv⟩:{ c:A4->A3 // ∀ a,gF Tryz.f194 [(0,a)]=some (c a) }).1 AcC
def A1G:A3:=(⟨_,by conv=>lhs;cbv⟩:{ c // gF Tryz.f197 []=some c }).1
def A8B:A3:=(⟨_,by conv=>lhs;cbv⟩:{ c // gF Tryz.f200 []=some c }).1
def AcT:A4:=(⟨_,by conv=>lhs;cbv⟩:{ c // gL Tryz.f203 2 []=some c }).1
def AcE:A4:=(⟨_,by intro a;conv=>lhs;cbv⟩:{ c:A4->A4 // ∀ a,gL Tryz.f203 0 [(2,a)]=some (c a) }).1 AcT
def Pl:A3:=(⟨_,by intro a;conv=>lhs;cbv⟩:{ c:A4->A3 // ∀ a,gF Tryz.f203 [(0,a)]=some (c a) }).1 AcE
def Pm:A3:=(⟨_,by conv=>lhs;cbv⟩:{ c // gF Tryz.f208 [] [[[0],[1],[2],[3],[4],[5],[6],[7],[8],[9],[10],[11],[12],[13],[14],[15],[16],[17],[18],[19],[20],[21],[22],[23],[24],[25]],[[0],[1],[2],[3],[4],[5],[6],[7],[8],[9],[10],[11],[12]]]=some c }).1
def A1N:A3:=(⟨_,by conv=>lhs;cbv⟩:{ c // gF Tryz.f211 []=some c }).1
def A1Q:A3:=(⟨_,by conv=>lhs;cbv⟩:{ c // gF Tryz.f214 []=some c }).1
def A1V:A3:=(⟨_,by conv=>lhs;cbv⟩:{ c // gF Tryz.f220 []=some c }).1
def AcH:A4:=(⟨_,by conv=>lhs;cbv⟩:{ c // gL Tryz.f223 0 []=some c }).1
def A1X:A3:=(⟨_,by intro a;conv=>lhs;cbv⟩:{ c:A4->A3 // ∀ a,gF Tryz.f223 [(0,a)]=some (c a) }).1 AcH
def A1Z:A3:=(⟨_,by conv=>lhs;cbv⟩:{ c // gF Tryz.f226 []=some c }).1
def A8H:A3:=(⟨_,by conv=>lhs;cbv⟩:{ c // gF Tryz.f229 []=some c }).1
def AcJ:A4:=(⟨_,by conv=>lhs;cbv⟩:{ c // gL Tryz.f233 0 []=some c }).1
def A21:A3:=(⟨_,by intro a;conv=>lhs;cbv⟩:{ c:A4->A3 // ∀ a,gF Tryz.f233 [(0,a)]=some (c a) }).1 AcJ
def A23:A3:=(⟨_,by conv=>lhs;cbv⟩:{ c // gF Tryz.f236 []=some c }).1
def A25:A3:=(⟨_,by conv=>lhs;cbv⟩:{ c // gF Tryz.f239 []=some c }).1
def AcL:A4:=(⟨_,by conv=>lhs;cbv⟩:{ c // gL Tryz.f242 0 []=some c }).1
def A28:A3:=(⟨_,by intro a;conv=>lhs;cbv⟩:{ c:A4->A3 // ∀ a,gF Tryz.f242 [(0,a)]=some (c a) }).1 AcL
def AcM:A4:=(⟨_,by conv=>lhs;cbv⟩:{ c // gL Tryz.f245 0 []=some c }).1
def A2a:A3:=(⟨_,by intro a;conv=>lhs;cbv⟩:{ c:A4->A3 // ∀ a,gF Tryz.f245 [(0,a)]=some (c a) }).1 AcM
end Go.AM
