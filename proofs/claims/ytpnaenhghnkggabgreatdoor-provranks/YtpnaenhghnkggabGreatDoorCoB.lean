/-
  Own work, part of the proof of these laws: the code of the functions that the law reaches, as the machine has it; read off the program as the text is compiled.
-/
import Derived.Test.YtpnaenhghnkggabGreatDoorCoA
set_option maxRecDepth 10000
set_option maxHeartbeats 64000000
set_option linter.unusedVariables false
set_option linter.unusedSimpArgs false
set_option maxRecDepth 100000
set_option maxHeartbeats 4000000
namespace Go.AM
open Go Go.Proofs
def AlW:A4:=(⟨_,by conv=>lhs;cbv⟩:{ c // gF Tryz.f9 []=some c }).1
def A9X:A4:=(⟨_,by conv=>lhs;cbv⟩:{ c // gF Tryz.f27 []=some c }).1
def ZG:A4:=(⟨_,by conv=>lhs;cbv⟩:{ c // gF Tryz.f31 []=some c }).1
def Aa2:A4:=(⟨_,by conv=>lhs;cbv⟩:{ c // gF Tryz.f37 []=some c }).1
def UC:A1:=(⟨_,by conv=>lhs;cbv⟩:{ c // gL Tryz.f41 0 []=some c }).1
def Age:A4:=(⟨_,by intro a;conv=>lhs;cbv⟩:{ c:A1->A4 // ∀ a,gF Tryz.f41 [(0,a)]=some (c a) }).1 UC
def ZJ:A4:=(⟨_,by conv=>lhs;cbv⟩:{ c // gF Tryz.f51 []=some c }).1
def Agl:A4:=(⟨_,by conv=>lhs;cbv⟩:{ c // gF Tryz.f60 []=some c }).1
def SN:A4:=(⟨_,by conv=>lhs;cbv⟩:{ c // gF Tryz.f65 []=some c }).1
def Aii:A1:=(⟨_,by conv=>lhs;cbv⟩:{ c // gL Tryz.f68 0 []=some c }).1
def A5d:A4:=(⟨_,by intro a;conv=>lhs;cbv⟩:{ c:A1->A4 // ∀ a,gF Tryz.f68 [(0,a)]=some (c a) }).1 Aii
def AiK:A1:=(⟨_,by conv=>lhs;cbv⟩:{ c // gL Tryz.f71 2 []=some c }).1
def Aik:A1:=(⟨_,by intro a;conv=>lhs;cbv⟩:{ c:A1->A1 // ∀ a,gL Tryz.f71 0 [(2,a)]=some (c a) }).1 AiK
def Aag:A4:=(⟨_,by intro a;conv=>lhs;cbv⟩:{ c:A1->A4 // ∀ a,gF Tryz.f71 [(0,a)]=some (c a) }).1 Aik
def ZK:A4:=(⟨_,by conv=>lhs;cbv⟩:{ c // gF Tryz.f74 []=some c }).1
def Aal:A4:=(⟨_,by conv=>lhs;cbv⟩:{ c // gF Tryz.f78 []=some c }).1
def Aio:A1:=(⟨_,by conv=>lhs;cbv⟩:{ c // gL Tryz.f84 0 []=some c }).1
def Aar:A4:=(⟨_,by intro a;conv=>lhs;cbv⟩:{ c:A1->A4 // ∀ a,gF Tryz.f84 [(0,a)]=some (c a) }).1 Aio
def A5h:A4:=(⟨_,by conv=>lhs;cbv⟩:{ c // gF Tryz.f88 []=some c }).1
def AiO:A1:=(⟨_,by conv=>lhs;cbv⟩:{ c // gL Tryz.f99 2 []=some c }).1
def Aiw:A1:=(⟨_,by conv=>lhs;cbv⟩:{ c // gL Tryz.f99 0 []=some c }).1
def A5l:A4:=(⟨_,by intro a b;conv=>lhs;cbv⟩:{ c:A1->A1->A4 // ∀ a b,gF Tryz.f99 [(0,a),(2,b)]=some (c a b) }).1 Aiw AiO
def Du:A1:=(⟨_,by conv=>lhs;cbv⟩:{ c // gL Tryz.f102 3 [] [[[0],[1],[2],[3],[4],[5],[6],[7],[8],[9],[10],[11],[12]],[[0],[1],[2],[3],[4],[5],[6],[9],[10],[11],[12],[13],[7,13],[8],[14],[15]],[[0],[1],[2],[3],[4],[5],[6],[7],[8],[9],[10],[11],[12]]]=some c }).1
def UE:A1:=(⟨_,by conv=>lhs;cbv⟩:{ c // gL Tryz.f102 0 []=some c }).1
def ZM:A4:=(⟨_,by intro a b;conv=>lhs;cbv⟩:{ c:A1->A1->A4 // ∀ a b,gF Tryz.f102 [(0,a),(3,b)] [[[0],[1],[2],[3],[4],[5],[6],[7],[8],[9],[10],[11]],[[0],[1],[2],[3],[4],[5],[6],[7],[8]],[[0],[1],[2],[3],[4],[5],[6],[7],[8],[9],[10],[11],[12],[13,6],[14],[15]],[[0],[1],[2],[3],[4],[5],[6],[7],[8],[9],[10]],[[0],[1],[2],[3],[4],[5],[6],[7],[8],[9],[10],[11],[12],[13],[14],[15,8,4],[16],[17],[18]]]=some (c a b) }).1 UE Du
def Uw:A1:=(⟨_,by conv=>lhs;cbv⟩:{ c // gL Tryz.f105 0 []=some c }).1
def A1O:A4:=(⟨_,by intro a;conv=>lhs;cbv⟩:{ c:A1->A4 // ∀ a,gF Tryz.f105 [(0,a)]=some (c a) }).1 Uw
def A1R:A4:=(⟨_,by conv=>lhs;cbv⟩:{ c // gF Tryz.f108 []=some c }).1
def U9:A4:=(⟨_,by conv=>lhs;cbv⟩:{ c // gF Tryz.f111 []=some c }).1
def A1W:A4:=(⟨_,by conv=>lhs;cbv⟩:{ c // gF Tryz.f116 []=some c }).1
def A5v:A1:=(⟨_,by conv=>lhs;cbv⟩:{ c // gL Tryz.f119 0 [] [[[0],[1],[2],[3],[4],[5],[6],[7],[8],[9],[10]],[[0],[1],[2],[3],[4],[5],[6],[7],[8],[9],[10],[11],[12]]]=some c }).1
def A1Z:A4:=(⟨_,by intro a;conv=>lhs;cbv⟩:{ c:A1->A4 // ∀ a,gF Tryz.f119 [(0,a)]=some (c a) }).1 A5v
def A22:A4:=(⟨_,by conv=>lhs;cbv⟩:{ c // gF Tryz.f122 []=some c }).1
def Ua:A4:=(⟨_,by conv=>lhs;cbv⟩:{ c // gF Tryz.f125 []=some c }).1
def Aet:A1:=(⟨_,by conv=>lhs;cbv⟩:{ c // gL Tryz.f128 0 []=some c }).1
def Ql:A4:=(⟨_,by intro a;conv=>lhs;cbv⟩:{ c:A1->A4 // ∀ a,gF Tryz.f128 [(0,a)]=some (c a) }).1 Aet
def A9D:A4:=(⟨_,by conv=>lhs;cbv⟩:{ c // gF Tryz.f134 []=some c }).1
def A9G:A4:=(⟨_,by conv=>lhs;cbv⟩:{ c // gF Tryz.f137 []=some c }).1
def A2b:A4:=(⟨_,by conv=>lhs;cbv⟩:{ c // gF Tryz.f145 []=some c }).1
def Af3:A1:=(⟨_,by conv=>lhs;cbv⟩:{ c // gL Tryz.f148 2 []=some c }).1
def A2e:A4:=(⟨_,by intro a;conv=>lhs;cbv⟩:{ c:A1->A4 // ∀ a,gF Tryz.f148 [(2,a)]=some (c a) }).1 Af3
def AeF:A1:=(⟨_,by conv=>lhs;cbv⟩:{ c // gL Tryz.f151 0 []=some c }).1
def A2g:A4:=(⟨_,by intro a;conv=>lhs;cbv⟩:{ c:A1->A4 // ∀ a,gF Tryz.f151 [(0,a)]=some (c a) }).1 AeF
def Uc:A4:=(⟨_,by conv=>lhs;cbv⟩:{ c // gF Tryz.f154 []=some c }).1
def A2j:A4:=(⟨_,by conv=>lhs;cbv⟩:{ c // gF Tryz.f157 [] [[[0],[1],[2],[3],[4],[5],[6],[7,1],[8],[9],[10]],[[0],[1],[2],[3],[4],[5],[6],[7],[8],[9],[10],[14],[15],[16],[11,16,4],[12],[13],[17,13,4],[18],[19]],[[0],[1],[2],[5],[6],[7],[3,7],[4,7],[8],[9],[10]]]=some c }).1
def A2l:A4:=(⟨_,by conv=>lhs;cbv⟩:{ c // gF Tryz.f161 []=some c }).1
def A9N:A4:=(⟨_,by conv=>lhs;cbv⟩:{ c // gF Tryz.f164 []=some c }).1
def AeI:A1:=(⟨_,by conv=>lhs;cbv⟩:{ c // gL Tryz.f167 0 []=some c }).1
def A2p:A4:=(⟨_,by intro a;conv=>lhs;cbv⟩:{ c:A1->A4 // ∀ a,gF Tryz.f167 [(0,a)]=some (c a) }).1 AeI
def A2q:A4:=(⟨_,by conv=>lhs;cbv⟩:{ c // gF Tryz.f170 []=some c }).1
def Af7:A1:=(⟨_,by conv=>lhs;cbv⟩:{ c // gL Tryz.f173 2 []=some c }).1
def AeM:A1:=(⟨_,by intro a;conv=>lhs;cbv⟩:{ c:A1->A1 // ∀ a,gL Tryz.f173 0 [(2,a)] [[[0],[1],[2],[3],[4],[5],[6],[7],[8],[9],[10],[11],[12],[13],[14],[15],[16],[17],[18],[19],[20],[21],[22]]]=some (c a) }).1 Af7
def A2s:A4:=(⟨_,by intro a;conv=>lhs;cbv⟩:{ c:A1->A4 // ∀ a,gF Tryz.f173 [(0,a)]=some (c a) }).1 AeM
def Uy:A1:=(⟨_,by conv=>lhs;cbv⟩:{ c // gL Tryz.f176 0 []=some c }).1
def A2v:A4:=(⟨_,by intro a;conv=>lhs;cbv⟩:{ c:A1->A4 // ∀ a,gF Tryz.f176 [(0,a)]=some (c a) }).1 Uy
def AeO:A1:=(⟨_,by conv=>lhs;cbv⟩:{ c // gL Tryz.f179 0 []=some c }).1
def A2y:A4:=(⟨_,by intro a;conv=>lhs;cbv⟩:{ c:A1->A4 // ∀ a,gF Tryz.f179 [(0,a)]=some (c a) }).1 AeO
def A2B:A4:=(⟨_,by conv=>lhs;cbv⟩:{ c // gF Tryz.f183 []=some c }).1
def A2E:A4:=(⟨_,by conv=>lhs;cbv⟩:{ c // gF Tryz.f187 []=some c }).1
def A2G:A4:=(⟨_,by conv=>lhs;cbv⟩:{ c // gF Tryz.f190 []=some c }).1
def Uh:A4:=(⟨_,by conv=>lhs;cbv⟩:{ c // gF Tryz.f193 []=some c }).1
def Ui:A4:=(⟨_,by conv=>lhs;cbv⟩:{ c // gF Tryz.f196 [] [[[0],[1],[2],[3],[4],[5],[6],[7],[8],[9],[10],[11],[12],[13],[14],[15],[16],[17],[18],[19],[20],[21],[22],[23],[24],[25],[26],[27],[28],[29],[30],[31],[32],[33],[34],[35],[36],[37],[38],[39],[40],[41],[42],[43],[44],[45],[46],[47],[48],[49],[50],[51]]]=some c }).1
def Qr:A4:=(⟨_,by conv=>lhs;cbv⟩:{ c // gF Tryz.f199 [] [[[0],[1],[2],[3],[4],[5],[6],[7],[8],[9],[10],[11],[12],[13],[14],[15],[16],[17],[18],[19],[20],[21,18,15],[22]]]=some c }).1
def AeT:A1:=(⟨_,by conv=>lhs;cbv⟩:{ c // gL Tryz.f202 0 []=some c }).1
def Uk:A4:=(⟨_,by intro a;conv=>lhs;cbv⟩:{ c:A1->A4 // ∀ a,gF Tryz.f202 [(0,a)]=some (c a) }).1 AeT
def Qs:A4:=(⟨_,by conv=>lhs;cbv⟩:{ c // gF Tryz.f205 [] [[[0],[1],[2],[3],[4],[5],[6],[7],[8],[9],[10],[11],[12],[13],[14],[15],[16,14,11],[17]],[[0],[1],[2],[3],[4],[5],[6],[7],[8],[9],[10],[11],[12],[13],[14],[15],[16],[17],[18],[19],[20],[21],[22],[23],[24],[25],[26],[27],[28],[29],[30],[31],[32]]]=some c }).1
def A2O:A4:=(⟨_,by conv=>lhs;cbv⟩:{ c // gF Tryz.f208 []=some c }).1
def Qt:A4:=(⟨_,by conv=>lhs;cbv⟩:{ c // gF Tryz.f211 []=some c }).1
def AeW:A1:=(⟨_,by conv=>lhs;cbv⟩:{ c // gL Tryz.f214 0 []=some c }).1
def A2T:A4:=(⟨_,by intro a;conv=>lhs;cbv⟩:{ c:A1->A4 // ∀ a,gF Tryz.f214 [(0,a)]=some (c a) }).1 AeW
def AeX:A1:=(⟨_,by conv=>lhs;cbv⟩:{ c // gL Tryz.f220 0 []=some c }).1
def A2Z:A4:=(⟨_,by intro a;conv=>lhs;cbv⟩:{ c:A1->A4 // ∀ a,gF Tryz.f220 [(0,a)]=some (c a) }).1 AeX
def J9:A4:=(⟨_,by conv=>lhs;cbv⟩:{ c // gF Tryz.f223 []=some c }).1
def A34:A4:=(⟨_,by conv=>lhs;cbv⟩:{ c // gF Tryz.f226 []=some c }).1
def A37:A4:=(⟨_,by conv=>lhs;cbv⟩:{ c // gF Tryz.f229 []=some c }).1
end Go.AM
