/-
  Own work, part of the proof of these laws: the code of the functions that the law reaches, as the machine has it; read off the program as the text is compiled.
-/
import Derived.Test.YtpnaenhghnkggabGreatDoorCoA
set_option maxRecDepth 10000
set_option maxHeartbeats 64000000
set_option linter.unusedVariables false
set_option linter.unusedSimpArgs false
set_option maxRecDepth 100000
set_option maxHeartbeats 4000000
namespace Go.AM
open Go Go.Proofs
def AhZ:A1:=(⟨_,by conv=>lhs;cbv⟩:{ c // gL Tryz.f17 0 []=some c }).1
def Ag9:A4:=(⟨_,by intro a;conv=>lhs;cbv⟩:{ c:A1->A4 // ∀ a,gF Tryz.f17 [(0,a)]=some (c a) }).1 AhZ
def Agb:A4:=(⟨_,by conv=>lhs;cbv⟩:{ c // gF Tryz.f28 []=some c }).1
def ZH:A4:=(⟨_,by conv=>lhs;cbv⟩:{ c // gF Tryz.f35 []=some c }).1
def Aa3:A4:=(⟨_,by conv=>lhs;cbv⟩:{ c // gF Tryz.f38 []=some c }).1
def AiD:A1:=(⟨_,by conv=>lhs;cbv⟩:{ c // gL Tryz.f43 2 []=some c }).1
def A3o:A1:=(⟨_,by intro a;conv=>lhs;cbv⟩:{ c:A1->A1 // ∀ a,gL Tryz.f43 0 [(2,a)]=some (c a) }).1 AiD
def A57:A4:=(⟨_,by intro a;conv=>lhs;cbv⟩:{ c:A1->A4 // ∀ a,gF Tryz.f43 [(0,a)]=some (c a) }).1 A3o
def QA:A1:=(⟨_,by conv=>lhs;cbv⟩:{ c // gL Tryz.f58 6 []=some c }).1
def AiS:A1:=(⟨_,by conv=>lhs;cbv⟩:{ c // gL Tryz.f58 4 []=some c }).1
def AiJ:A1:=(⟨_,by conv=>lhs;cbv⟩:{ c // gL Tryz.f58 2 []=some c }).1
def Aif:A1:=(⟨_,by conv=>lhs;cbv⟩:{ c // gL Tryz.f58 0 []=some c }).1
def A59:A4:=(⟨_,by intro a b d e;conv=>lhs;cbv⟩:{ c:A1->A1->A1->A1->A4 // ∀ a b d e,gF Tryz.f58 [(0,a),(2,b),(4,d),(6,e)]=some (c a b d e) }).1 Aif AiJ AiS QA
def Aab:A4:=(⟨_,by conv=>lhs;cbv⟩:{ c // gF Tryz.f62 []=some c }).1
def Aih:A1:=(⟨_,by conv=>lhs;cbv⟩:{ c // gL Tryz.f66 0 []=some c }).1
def Aad:A4:=(⟨_,by intro a;conv=>lhs;cbv⟩:{ c:A1->A4 // ∀ a,gF Tryz.f66 [(0,a)]=some (c a) }).1 Aih
def Aae:A4:=(⟨_,by conv=>lhs;cbv⟩:{ c // gF Tryz.f69 []=some c }).1
def A5e:A4:=(⟨_,by conv=>lhs;cbv⟩:{ c // gF Tryz.f72 []=some c }).1
def Aaj:A4:=(⟨_,by conv=>lhs;cbv⟩:{ c // gF Tryz.f76 []=some c }).1
def A3q:A1:=(⟨_,by conv=>lhs;cbv⟩:{ c // gL Tryz.f79 0 []=some c }).1
def Aam:A4:=(⟨_,by intro a;conv=>lhs;cbv⟩:{ c:A1->A4 // ∀ a,gF Tryz.f79 [(0,a)]=some (c a) }).1 A3q
def Aip:A1:=(⟨_,by conv=>lhs;cbv⟩:{ c // gL Tryz.f86 0 [] [[[0],[1],[2],[3],[4],[5],[6],[7],[8],[9],[10],[11],[12],[13],[14],[15],[16],[17],[18],[19],[20],[21],[22]],[[0],[1],[2],[3],[4],[5],[6],[7],[8],[9]]]=some c }).1
def Agn:A4:=(⟨_,by intro a;conv=>lhs;cbv⟩:{ c:A1->A4 // ∀ a,gF Tryz.f86 [(0,a)]=some (c a) }).1 Aip
def Air:A1:=(⟨_,by conv=>lhs;cbv⟩:{ c // gL Tryz.f89 0 []=some c }).1
def Ago:A4:=(⟨_,by intro a;conv=>lhs;cbv⟩:{ c:A1->A4 // ∀ a,gF Tryz.f89 [(0,a)]=some (c a) }).1 Air
def Aav:A4:=(⟨_,by conv=>lhs;cbv⟩:{ c // gF Tryz.f100 []=some c }).1
def A5y:A1:=(⟨_,by conv=>lhs;cbv⟩:{ c // gL Tryz.f103 2 []=some c }).1
def A5u:A1:=(⟨_,by conv=>lhs;cbv⟩:{ c // gL Tryz.f103 0 []=some c }).1
def A1N:A4:=(⟨_,by intro a b;conv=>lhs;cbv⟩:{ c:A1->A1->A4 // ∀ a b,gF Tryz.f103 [(0,a),(2,b)]=some (c a b) }).1 A5u A5y
def A1P:A4:=(⟨_,by conv=>lhs;cbv⟩:{ c // gF Tryz.f106 []=some c }).1
def A1S:A4:=(⟨_,by conv=>lhs;cbv⟩:{ c // gF Tryz.f109 []=some c }).1
def Aen:A1:=(⟨_,by conv=>lhs;cbv⟩:{ c // gL Tryz.f112 0 []=some c }).1
def Ng:A4:=(⟨_,by intro a;conv=>lhs;cbv⟩:{ c:A1->A4 // ∀ a,gF Tryz.f112 [(0,a)]=some (c a) }).1 Aen
def Aeo:A1:=(⟨_,by conv=>lhs;cbv⟩:{ c // gL Tryz.f117 0 []=some c }).1
def A1X:A4:=(⟨_,by intro a;conv=>lhs;cbv⟩:{ c:A1->A4 // ∀ a,gF Tryz.f117 [(0,a)]=some (c a) }).1 Aeo
def Aep:A1:=(⟨_,by conv=>lhs;cbv⟩:{ c // gL Tryz.f120 0 []=some c }).1
def A20:A4:=(⟨_,by intro a;conv=>lhs;cbv⟩:{ c:A1->A4 // ∀ a,gF Tryz.f120 [(0,a)]=some (c a) }).1 Aep
def Aeq:A1:=(⟨_,by conv=>lhs;cbv⟩:{ c // gL Tryz.f123 0 []=some c }).1
def A23:A4:=(⟨_,by intro a;conv=>lhs;cbv⟩:{ c:A1->A4 // ∀ a,gF Tryz.f123 [(0,a)]=some (c a) }).1 Aeq
def Aer:A1:=(⟨_,by conv=>lhs;cbv⟩:{ c // gL Tryz.f126 0 []=some c }).1
def A25:A4:=(⟨_,by intro a;conv=>lhs;cbv⟩:{ c:A1->A4 // ∀ a,gF Tryz.f126 [(0,a)]=some (c a) }).1 Aer
def LG:A4:=(⟨_,by conv=>lhs;cbv⟩:{ c // gF Tryz.f130 [] [[[0],[1],[2],[3],[4],[5],[6],[7],[8],[9],[10],[11],[12],[13],[14],[15],[16],[17],[18],[19],[20],[21],[22],[23],[24],[25],[26],[27],[28],[29],[30],[31],[32],[33],[34]]]=some c }).1
def Aev:A1:=(⟨_,by conv=>lhs;cbv⟩:{ c // gL Tryz.f135 0 []=some c }).1
def A9E:A4:=(⟨_,by intro a;conv=>lhs;cbv⟩:{ c:A1->A4 // ∀ a,gF Tryz.f135 [(0,a)]=some (c a) }).1 Aev
def A2a:A4:=(⟨_,by conv=>lhs;cbv⟩:{ c // gF Tryz.f143 []=some c }).1
def AeC:A1:=(⟨_,by conv=>lhs;cbv⟩:{ c // gL Tryz.f146 0 []=some c }).1
def A2c:A4:=(⟨_,by intro a;conv=>lhs;cbv⟩:{ c:A1->A4 // ∀ a,gF Tryz.f146 [(0,a)]=some (c a) }).1 AeC
def AeE:A1:=(⟨_,by conv=>lhs;cbv⟩:{ c // gL Tryz.f149 0 []=some c }).1
def A2f:A4:=(⟨_,by intro a;conv=>lhs;cbv⟩:{ c:A1->A4 // ∀ a,gF Tryz.f149 [(0,a)]=some (c a) }).1 AeE
def A2h:A4:=(⟨_,by conv=>lhs;cbv⟩:{ c // gF Tryz.f152 []=some c }).1
def A9L:A4:=(⟨_,by conv=>lhs;cbv⟩:{ c // gF Tryz.f155 []=some c }).1
def AeG:A1:=(⟨_,by conv=>lhs;cbv⟩:{ c // gL Tryz.f158 0 []=some c }).1
def A2k:A4:=(⟨_,by intro a;conv=>lhs;cbv⟩:{ c:A1->A4 // ∀ a,gF Tryz.f158 [(0,a)]=some (c a) }).1 AeG
def A2m:A4:=(⟨_,by conv=>lhs;cbv⟩:{ c // gF Tryz.f162 []=some c }).1
def A2n:A4:=(⟨_,by conv=>lhs;cbv⟩:{ c // gF Tryz.f165 []=some c }).1
def AeJ:A1:=(⟨_,by conv=>lhs;cbv⟩:{ c // gL Tryz.f168 0 [] [[[0],[1],[2],[3],[4],[5],[6],[7],[8],[9],[10],[11],[12],[13],[14],[15],[16],[17,15,12],[18]],[[0],[1],[2],[3],[4],[5],[6],[7],[8],[9],[10],[11],[12],[13],[14],[15],[16],[17],[18],[19]]]=some c }).1
def Ue:A4:=(⟨_,by intro a;conv=>lhs;cbv⟩:{ c:A1->A4 // ∀ a,gF Tryz.f168 [(0,a)]=some (c a) }).1 AeJ
def Af6:A1:=(⟨_,by conv=>lhs;cbv⟩:{ c // gL Tryz.f171 2 []=some c }).1
def AeL:A1:=(⟨_,by conv=>lhs;cbv⟩:{ c // gL Tryz.f171 0 []=some c }).1
def Ug:A4:=(⟨_,by intro a b;conv=>lhs;cbv⟩:{ c:A1->A1->A4 // ∀ a b,gF Tryz.f171 [(0,a),(2,b)]=some (c a b) }).1 AeL Af6
def MA:A1:=(⟨_,by conv=>lhs;cbv⟩:{ c // gL Tryz.f174 0 []=some c }).1
def A2t:A4:=(⟨_,by intro a;conv=>lhs;cbv⟩:{ c:A1->A4 // ∀ a,gF Tryz.f174 [(0,a)]=some (c a) }).1 MA
def A2w:A4:=(⟨_,by conv=>lhs;cbv⟩:{ c // gF Tryz.f177 []=some c }).1
def AeP:A1:=(⟨_,by conv=>lhs;cbv⟩:{ c // gL Tryz.f181 0 []=some c }).1
def A2z:A4:=(⟨_,by intro a;conv=>lhs;cbv⟩:{ c:A1->A4 // ∀ a,gF Tryz.f181 [(0,a)]=some (c a) }).1 AeP
def A2C:A4:=(⟨_,by conv=>lhs;cbv⟩:{ c // gF Tryz.f185 []=some c }).1
def Af8:A1:=(⟨_,by conv=>lhs;cbv⟩:{ c // gL Tryz.f188 2 []=some c }).1
def Qq:A4:=(⟨_,by intro a;conv=>lhs;cbv⟩:{ c:A1->A4 // ∀ a,gF Tryz.f188 [(2,a)] [[[0],[1],[2],[3],[4],[5],[6],[7],[8],[9],[10],[11],[12]],[[0],[1],[2],[4],[5],[6],[3,5],[7],[8],[9],[10]],[[0],[1],[2],[3],[4],[5],[6],[7]]]=some (c a) }).1 Af8
def A9P:A4:=(⟨_,by conv=>lhs;cbv⟩:{ c // gF Tryz.f191 []=some c }).1
def AeR:A1:=(⟨_,by conv=>lhs;cbv⟩:{ c // gL Tryz.f194 0 []=some c }).1
def A9S:A4:=(⟨_,by intro a;conv=>lhs;cbv⟩:{ c:A1->A4 // ∀ a,gF Tryz.f194 [(0,a)]=some (c a) }).1 AeR
def A2I:A4:=(⟨_,by conv=>lhs;cbv⟩:{ c // gF Tryz.f197 []=some c }).1
def Uz:A1:=(⟨_,by conv=>lhs;cbv⟩:{ c // gL Tryz.f200 0 []=some c }).1
def A2K:A4:=(⟨_,by intro a;conv=>lhs;cbv⟩:{ c:A1->A4 // ∀ a,gF Tryz.f200 [(0,a)]=some (c a) }).1 Uz
def AeU:A1:=(⟨_,by conv=>lhs;cbv⟩:{ c // gL Tryz.f203 0 []=some c }).1
def A2L:A4:=(⟨_,by intro a;conv=>lhs;cbv⟩:{ c:A1->A4 // ∀ a,gF Tryz.f203 [(0,a)]=some (c a) }).1 AeU
def Ul:A4:=(⟨_,by conv=>lhs;cbv⟩:{ c // gF Tryz.f206 []=some c }).1
def A2P:A4:=(⟨_,by conv=>lhs;cbv⟩:{ c // gF Tryz.f209 []=some c }).1
def A2R:A4:=(⟨_,by conv=>lhs;cbv⟩:{ c // gF Tryz.f212 []=some c }).1
def A2X:A4:=(⟨_,by conv=>lhs;cbv⟩:{ c // gF Tryz.f218 []=some c }).1
def AeY:A1:=(⟨_,by conv=>lhs;cbv⟩:{ c // gL Tryz.f221 0 []=some c }).1
def A30:A4:=(⟨_,by intro a;conv=>lhs;cbv⟩:{ c:A1->A4 // ∀ a,gF Tryz.f221 [(0,a)]=some (c a) }).1 AeY
def AeZ:A1:=(⟨_,by conv=>lhs;cbv⟩:{ c // gL Tryz.f224 0 []=some c }).1
def A32:A4:=(⟨_,by intro a;conv=>lhs;cbv⟩:{ c:A1->A4 // ∀ a,gF Tryz.f224 [(0,a)]=some (c a) }).1 AeZ
def Af0:A1:=(⟨_,by conv=>lhs;cbv⟩:{ c // gL Tryz.f227 0 []=some c }).1
def A35:A4:=(⟨_,by intro a;conv=>lhs;cbv⟩:{ c:A1->A4 // ∀ a,gF Tryz.f227 [(0,a)]=some (c a) }).1 Af0
def A38:A4:=(⟨_,by conv=>lhs;cbv⟩:{ c // gF Tryz.f230 []=some c }).1
end Go.AM
