/-
  Own work, part of the proof of these laws: the code of the functions that the law reaches, as the machine has it; read off the program as the text is compiled.
-/
import Derived.Test.YtpnaenhghnkggaaGreatDoorCoA
set_option maxRecDepth 10000
set_option maxHeartbeats 64000000
set_option linter.unusedVariables false
set_option linter.unusedSimpArgs false
set_option maxRecDepth 100000
set_option maxHeartbeats 4000000
namespace Go.AM
open Go Go.Proofs
def Aj7:A4:=(⟨_,by conv=>lhs;cbv⟩:{ c // gL Tryz.f5 2 [] [[[0],[1],[2],[3],[4],[5],[6],[7],[8],[9],[10],[11],[12],[13],[14],[15],[16],[17],[18],[19],[20],[21],[22],[23],[24],[25],[26],[27],[28],[29],[30],[31],[32],[33],[34],[35],[36],[37],[38],[39]]]=some c }).1
def Aj4:A4:=(⟨_,by intro a;conv=>lhs;cbv⟩:{ c:A4->A4 // ∀ a,gL Tryz.f5 0 [(2,a)]=some (c a) }).1 Aj7
def A8D:A3:=(⟨_,by intro a;conv=>lhs;cbv⟩:{ c:A4->A3 // ∀ a,gF Tryz.f5 [(0,a)] [[[0],[1],[2],[3],[4],[5],[6],[7],[8],[9],[10],[11],[12],[13],[14],[15],[16],[17],[18],[19],[20],[21,19],[22],[23],[24]],[[0],[1],[3],[4],[5],[6],[7],[2,7,5,3],[8],[9],[10]]]=some (c a) }).1 Aj4
def AiT:A3:=(⟨_,by conv=>lhs;cbv⟩:{ c // gF Tryz.f7 [] [[[0],[1],[2],[3],[4],[5],[6],[7],[8],[9],[10],[11],[12],[13],[14],[15],[16],[17],[18],[19],[20],[21],[22],[23],[24],[25],[26],[27],[28],[29],[30],[31],[32],[33],[34],[35],[36],[37],[38],[39],[40],[41],[42],[45],[46],[47],[43,46],[44],[48],[49],[50],[51],[52],[53],[54],[55]]]=some c }).1
def Afl:A4:=(⟨_,by conv=>lhs;cbv⟩:{ c // gL Tryz.f13 0 []=some c }).1
def AdY:A3:=(⟨_,by intro a;conv=>lhs;cbv⟩:{ c:A4->A3 // ∀ a,gF Tryz.f13 [(0,a)]=some (c a) }).1 Afl
def RL:A3:=(⟨_,by conv=>lhs;cbv⟩:{ c // gF Tryz.f21 []=some c }).1
def AfK:A4:=(⟨_,by conv=>lhs;cbv⟩:{ c // gL Tryz.f23 2 []=some c }).1
def Afm:A4:=(⟨_,by intro a;conv=>lhs;cbv⟩:{ c:A4->A4 // ∀ a,gL Tryz.f23 0 [(2,a)]=some (c a) }).1 AfK
def A8E:A3:=(⟨_,by intro a;conv=>lhs;cbv⟩:{ c:A4->A3 // ∀ a,gF Tryz.f23 [(0,a)]=some (c a) }).1 Afm
def YC:A3:=(⟨_,by conv=>lhs;cbv⟩:{ c // gF Tryz.f26 []=some c }).1
def Ae0:A3:=(⟨_,by conv=>lhs;cbv⟩:{ c // gF Tryz.f29 []=some c }).1
def Afu:A4:=(⟨_,by conv=>lhs;cbv⟩:{ c // gL Tryz.f54 0 []=some c }).1
def A8V:A3:=(⟨_,by intro a;conv=>lhs;cbv⟩:{ c:A4->A3 // ∀ a,gF Tryz.f54 [(0,a)]=some (c a) }).1 Afu
def A3K:A3:=(⟨_,by conv=>lhs;cbv⟩:{ c // gF Tryz.f62 []=some c }).1
def Afx:A4:=(⟨_,by conv=>lhs;cbv⟩:{ c // gL Tryz.f64 0 []=some c }).1
def A8X:A3:=(⟨_,by intro a;conv=>lhs;cbv⟩:{ c:A4->A3 // ∀ a,gF Tryz.f64 [(0,a)]=some (c a) }).1 Afx
def AfO:A4:=(⟨_,by conv=>lhs;cbv⟩:{ c // gL Tryz.f66 2 []=some c }).1
def Afz:A4:=(⟨_,by intro a;conv=>lhs;cbv⟩:{ c:A4->A4 // ∀ a,gL Tryz.f66 0 [(2,a)]=some (c a) }).1 AfO
def A8Z:A3:=(⟨_,by intro a;conv=>lhs;cbv⟩:{ c:A4->A3 // ∀ a,gF Tryz.f66 [(0,a)]=some (c a) }).1 Afz
def Ace:A4:=(⟨_,by conv=>lhs;cbv⟩:{ c // gL Tryz.f113 0 [] [[[0],[1],[2],[3],[4],[5],[6],[7],[8],[9]],[[0],[1],[2],[3],[4],[5],[6],[7]],[[0],[1],[2],[3],[4],[5],[6],[7],[8],[9],[10],[11],[12],[13],[14]]]=some c }).1
def Jm:A3:=(⟨_,by intro a;conv=>lhs;cbv⟩:{ c:A4->A3 // ∀ a,gF Tryz.f113 [(0,a)]=some (c a) }).1 Ace
def SQ:A3:=(⟨_,by conv=>lhs;cbv⟩:{ c // gF Tryz.f115 []=some c }).1
def Pd:A3:=(⟨_,by conv=>lhs;cbv⟩:{ c // gF Tryz.f117 []=some c }).1
def SS:A3:=(⟨_,by conv=>lhs;cbv⟩:{ c // gF Tryz.f119 []=some c }).1
def ST:A3:=(⟨_,by conv=>lhs;cbv⟩:{ c // gF Tryz.f124 []=some c }).1
def Aci:A4:=(⟨_,by conv=>lhs;cbv⟩:{ c // gL Tryz.f127 0 []=some c }).1
def A0Z:A3:=(⟨_,by intro a;conv=>lhs;cbv⟩:{ c:A4->A3 // ∀ a,gF Tryz.f127 [(0,a)]=some (c a) }).1 Aci
def SV:A3:=(⟨_,by conv=>lhs;cbv⟩:{ c // gF Tryz.f129 []=some c }).1
def Pi:A3:=(⟨_,by conv=>lhs;cbv⟩:{ c // gF Tryz.f175 []=some c }).1
def KD:A3:=(⟨_,by conv=>lhs;cbv⟩:{ c // gF Tryz.f178 []=some c }).1
def A1R:A3:=(⟨_,by conv=>lhs;cbv⟩:{ c // gF Tryz.f215 []=some c }).1
def A1T:A3:=(⟨_,by conv=>lhs;cbv⟩:{ c // gF Tryz.f217 []=some c }).1
end Go.AM
