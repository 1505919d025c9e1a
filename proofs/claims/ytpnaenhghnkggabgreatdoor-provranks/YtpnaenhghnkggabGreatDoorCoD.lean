/-
  Own work, part of the proof of these laws: the code of the functions that the law reaches, as the machine has it; read off the program as the text is compiled.
-/
import Derived.Test.YtpnaenhghnkggabGreatDoorCoA
set_option maxRecDepth 10000
set_option maxHeartbeats 64000000
set_option linter.unusedVariables false
set_option linter.unusedSimpArgs false
set_option maxRecDepth 100000
set_option maxHeartbeats 4000000
namespace Go.AM
open Go Go.Proofs
def A9W:A4:=(⟨_,by conv=>lhs;cbv⟩:{ c // gF Tryz.f25 []=some c }).1
def AiB:A1:=(⟨_,by conv=>lhs;cbv⟩:{ c // gL Tryz.f29 2 []=some c }).1
def Ai2:A1:=(⟨_,by conv=>lhs;cbv⟩:{ c // gL Tryz.f29 0 []=some c }).1
def Agc:A4:=(⟨_,by intro a b;conv=>lhs;cbv⟩:{ c:A1->A1->A4 // ∀ a b,gF Tryz.f29 [(0,a),(2,b)]=some (c a b) }).1 Ai2 AiB
def Aa1:A4:=(⟨_,by conv=>lhs;cbv⟩:{ c // gF Tryz.f36 []=some c }).1
def Agd:A4:=(⟨_,by conv=>lhs;cbv⟩:{ c // gF Tryz.f40 []=some c }).1
def AiY:A1:=(⟨_,by conv=>lhs;cbv⟩:{ c // gL Tryz.f50 8 []=some c }).1
def AiW:A1:=(⟨_,by intro a;conv=>lhs;cbv⟩:{ c:A1->A1 // ∀ a,gL Tryz.f50 6 [(8,a)]=some (c a) }).1 AiY
def AiR:A1:=(⟨_,by conv=>lhs;cbv⟩:{ c // gL Tryz.f50 4 []=some c }).1
def AiE:A1:=(⟨_,by intro a;conv=>lhs;cbv⟩:{ c:A1->A1 // ∀ a,gL Tryz.f50 2 [(4,a)]=some (c a) }).1 AiR
def Ai8:A1:=(⟨_,by conv=>lhs;cbv⟩:{ c // gL Tryz.f50 0 [] [[[0],[1],[2],[3],[4],[5],[6],[7],[8],[9],[10]],[[0],[1],[2],[3],[4],[5],[6],[7],[8],[9],[10],[11],[12],[13],[14],[15],[16],[17],[18],[19],[20],[21],[22],[23],[24],[25],[26],[27],[28],[29],[30],[31],[32],[33],[34],[35]]]=some c }).1
def ZI:A4:=(⟨_,by intro a b d;conv=>lhs;cbv⟩:{ c:A1->A1->A1->A4 // ∀ a b d,gF Tryz.f50 [(0,a),(2,b),(6,d)]=some (c a b d) }).1 Ai8 AiE AiW
def A5a:A4:=(⟨_,by conv=>lhs;cbv⟩:{ c // gF Tryz.f59 [] [[[0],[1],[2],[3],[4],[5],[6],[7],[8],[9],[10],[11],[12],[13]],[[0],[1],[2],[3],[4],[5],[6],[7],[8],[9],[10],[11],[12],[13],[14]]]=some c }).1
def A5b:A4:=(⟨_,by conv=>lhs;cbv⟩:{ c // gF Tryz.f63 []=some c }).1
def A5c:A4:=(⟨_,by conv=>lhs;cbv⟩:{ c // gF Tryz.f67 []=some c }).1
def Aij:A1:=(⟨_,by conv=>lhs;cbv⟩:{ c // gL Tryz.f70 0 [] [[[0],[1],[2],[3],[4],[5],[6],[7],[8],[9],[10],[11]],[[0],[1],[2],[3],[4],[5],[6],[7],[8],[9],[10],[11,1],[12],[13]]]=some c }).1
def Aaf:A4:=(⟨_,by intro a;conv=>lhs;cbv⟩:{ c:A1->A4 // ∀ a,gF Tryz.f70 [(0,a)]=some (c a) }).1 Aij
def Ail:A1:=(⟨_,by conv=>lhs;cbv⟩:{ c // gL Tryz.f73 0 []=some c }).1
def Aah:A4:=(⟨_,by intro a;conv=>lhs;cbv⟩:{ c:A1->A4 // ∀ a,gF Tryz.f73 [(0,a)]=some (c a) }).1 Ail
def AaJ:A1:=(⟨_,by conv=>lhs;cbv⟩:{ c // gL Tryz.f77 0 []=some c }).1
def Aak:A4:=(⟨_,by intro a;conv=>lhs;cbv⟩:{ c:A1->A4 // ∀ a,gF Tryz.f77 [(0,a)]=some (c a) }).1 AaJ
def Aim:A1:=(⟨_,by conv=>lhs;cbv⟩:{ c // gL Tryz.f80 0 []=some c }).1
def A5f:A4:=(⟨_,by intro a;conv=>lhs;cbv⟩:{ c:A1->A4 // ∀ a,gF Tryz.f80 [(0,a)]=some (c a) }).1 Aim
def AaK:A1:=(⟨_,by conv=>lhs;cbv⟩:{ c // gL Tryz.f87 2 [] [[[0],[1],[2],[3],[4],[5],[6],[7],[8],[9]],[[0],[1],[2],[3],[4],[5],[6],[7],[8],[9],[10],[11],[12],[13],[14],[15],[16],[17],[18],[19],[20],[21],[22],[23],[24],[25],[26],[27]]]=some c }).1
def Aiq:A1:=(⟨_,by intro a;conv=>lhs;cbv⟩:{ c:A1->A1 // ∀ a,gL Tryz.f87 0 [(2,a)] [[[0],[1],[2],[3],[4],[5],[6],[7],[8],[9],[10],[11],[12],[13],[14],[15],[16],[17],[18],[19],[20],[21],[22]],[[0],[1],[2],[3],[4],[5],[6],[7],[8],[9]]]=some (c a) }).1 AaK
def Aas:A4:=(⟨_,by intro a;conv=>lhs;cbv⟩:{ c:A1->A4 // ∀ a,gF Tryz.f87 [(0,a)]=some (c a) }).1 Aiq
def ZL:A4:=(⟨_,by conv=>lhs;cbv⟩:{ c // gF Tryz.f94 [] [[[0],[1],[2],[3],[4],[5],[6],[7],[8],[9],[10],[11],[12],[13],[14],[15],[16],[17],[18],[19],[20],[21],[22],[23],[24],[25],[26],[27],[28],[29],[30],[31],[32],[33],[34],[35],[36]]]=some c }).1
def A5m:A4:=(⟨_,by conv=>lhs;cbv⟩:{ c // gF Tryz.f101 []=some c }).1
def EB:A1:=(⟨_,by conv=>lhs;cbv⟩:{ c // gL Tryz.f104 0 []=some c }).1
def CK:A4:=(⟨_,by intro a;conv=>lhs;cbv⟩:{ c:A1->A4 // ∀ a,gF Tryz.f104 [(0,a)] [[[0],[1],[2],[3],[4],[5],[6],[7],[8],[9],[10],[11],[12],[13],[14],[15],[16],[17],[18],[19],[20],[21],[22],[23],[24],[25],[26],[27],[28],[29],[30],[31],[32],[33],[34],[35],[36],[37],[38]],[[0],[1],[2],[3],[4],[6],[7],[9],[10],[11],[12],[5,10],[8,10],[13],[14],[15]],[[0],[1],[2],[3],[4],[6],[7],[9],[10],[11],[12],[5,10],[8,10],[13],[14],[15]]]=some (c a) }).1 EB
def A1Q:A4:=(⟨_,by conv=>lhs;cbv⟩:{ c // gF Tryz.f107 []=some c }).1
def A1T:A4:=(⟨_,by conv=>lhs;cbv⟩:{ c // gF Tryz.f110 []=some c }).1
def Nh:A4:=⟨[],.block 0 (.loop (.seq (.seq (.reg [o 4 (.mov (.t 0)),o 5 (.bin .neq none (.t 4) (.c (.i .u64 0)))]) (.cond (.t 5) (.skip) (.exit 0))) (.seq (.block 1 (.reg [o 10 (.mov (.t 1)),o 11 (.mov (.t 0)),o 12 (.call (.c (.f AW [] [])) [(.t 11)]),o 13 (.call (.t 10) [(.t 12)])])) (.reg [o 6 (.mov (.t 0)),o 7 (.mov (.t 0)),o 8 (.bin .sub none (.t 7) (.c (.i .u64 1))),o 9 (.bin .and none (.t 6) (.t 8)),o 0 (.mov (.t 9))]))))⟩
def Ux:A1:=(⟨_,by conv=>lhs;cbv⟩:{ c // gL Tryz.f118 0 [] [[[0],[1],[2],[3],[4],[5],[6],[7],[8],[9],[10]],[[0],[1],[2],[3],[4],[5],[6],[7],[8],[9],[10]],[[0],[1],[2],[3],[4],[5],[6],[7],[8],[9],[10],[11],[12]],[[0],[1],[2],[3],[4],[5],[6],[7],[8],[9],[10],[11],[12],[13],[14],[15],[16],[17],[18],[19],[20],[21],[22],[23],[24],[25],[26],[27]]]=some c }).1
def A1Y:A4:=(⟨_,by intro a;conv=>lhs;cbv⟩:{ c:A1->A4 // ∀ a,gF Tryz.f118 [(0,a)]=some (c a) }).1 Ux
def A21:A4:=(⟨_,by conv=>lhs;cbv⟩:{ c // gF Tryz.f121 []=some c }).1
def A24:A4:=(⟨_,by conv=>lhs;cbv⟩:{ c // gF Tryz.f124 []=some c }).1
def Aes:A1:=(⟨_,by conv=>lhs;cbv⟩:{ c // gL Tryz.f127 0 []=some c }).1
def A26:A4:=(⟨_,by intro a;conv=>lhs;cbv⟩:{ c:A1->A4 // ∀ a,gF Tryz.f127 [(0,a)]=some (c a) }).1 Aes
def Qm:A4:=(⟨_,by conv=>lhs;cbv⟩:{ c // gF Tryz.f133 []=some c }).1
def Aew:A1:=(⟨_,by conv=>lhs;cbv⟩:{ c // gL Tryz.f136 0 []=some c }).1
def A9F:A4:=(⟨_,by intro a;conv=>lhs;cbv⟩:{ c:A1->A4 // ∀ a,gF Tryz.f136 [(0,a)]=some (c a) }).1 Aew
def AeB:A1:=(⟨_,by conv=>lhs;cbv⟩:{ c // gL Tryz.f144 0 []=some c }).1
def Qn:A4:=(⟨_,by intro a;conv=>lhs;cbv⟩:{ c:A1->A4 // ∀ a,gF Tryz.f144 [(0,a)]=some (c a) }).1 AeB
def AeD:A1:=(⟨_,by conv=>lhs;cbv⟩:{ c // gL Tryz.f147 0 []=some c }).1
def A2d:A4:=(⟨_,by intro a;conv=>lhs;cbv⟩:{ c:A1->A4 // ∀ a,gF Tryz.f147 [(0,a)]=some (c a) }).1 AeD
def Qo:A4:=(⟨_,by conv=>lhs;cbv⟩:{ c // gF Tryz.f150 []=some c }).1
def A2i:A4:=(⟨_,by conv=>lhs;cbv⟩:{ c // gF Tryz.f153 [] [[[0],[1],[2],[3],[4],[5],[6],[7],[8],[9],[10],[11],[12],[13],[14],[15],[16],[17],[18],[19],[20],[21],[22],[23]]]=some c }).1
def A5w:A1:=(⟨_,by conv=>lhs;cbv⟩:{ c // gL Tryz.f156 0 [] [[[0],[1],[2],[4],[5],[6],[7],[8],[3,8],[9],[10],[11],[12]],[[0],[1],[2],[4],[5],[6],[7],[8],[9],[3,9],[10],[11],[12],[13]],[[0],[1],[2],[4],[5],[6],[7],[8],[9],[11],[12],[13],[14],[3,14,9],[10,14],[15],[16],[17],[18]]]=some c }).1
def A9M:A4:=(⟨_,by intro a;conv=>lhs;cbv⟩:{ c:A1->A4 // ∀ a,gF Tryz.f156 [(0,a)]=some (c a) }).1 A5w
def Af4:A1:=(⟨_,by conv=>lhs;cbv⟩:{ c // gL Tryz.f159 2 []=some c }).1
def AeH:A1:=(⟨_,by intro a;conv=>lhs;cbv⟩:{ c:A1->A1 // ∀ a,gL Tryz.f159 0 [(2,a)]=some (c a) }).1 Af4
def Ud:A4:=(⟨_,by intro a;conv=>lhs;cbv⟩:{ c:A1->A4 // ∀ a,gF Tryz.f159 [(0,a)]=some (c a) }).1 AeH
def Qp:A4:=(⟨_,by conv=>lhs;cbv⟩:{ c // gF Tryz.f163 [] [[[0],[1],[2],[3],[4],[5],[6],[7],[8],[9],[10],[11],[12],[13],[14],[15],[16],[17],[18],[19],[20],[21],[22],[23],[24],[25]],[[0],[1],[2],[3],[4],[5],[6],[7],[8],[9],[10],[11],[12]]]=some c }).1
def A2o:A4:=(⟨_,by conv=>lhs;cbv⟩:{ c // gF Tryz.f166 []=some c }).1
def Af9:A1:=(⟨_,by conv=>lhs;cbv⟩:{ c // gL Tryz.f169 4 []=some c }).1
def Af5:A1:=(⟨_,by conv=>lhs;cbv⟩:{ c // gL Tryz.f169 2 []=some c }).1
def AeK:A1:=(⟨_,by intro a b;conv=>lhs;cbv⟩:{ c:A1->A1->A1 // ∀ a b,gL Tryz.f169 0 [(2,a),(4,b)]=some (c a b) }).1 Af5 Af9
def Uf:A4:=(⟨_,by intro a;conv=>lhs;cbv⟩:{ c:A1->A4 // ∀ a,gF Tryz.f169 [(0,a)]=some (c a) }).1 AeK
def A2r:A4:=(⟨_,by conv=>lhs;cbv⟩:{ c // gF Tryz.f172 []=some c }).1
def AeN:A1:=(⟨_,by conv=>lhs;cbv⟩:{ c // gL Tryz.f175 0 []=some c }).1
def A2u:A4:=(⟨_,by intro a;conv=>lhs;cbv⟩:{ c:A1->A4 // ∀ a,gF Tryz.f175 [(0,a)]=some (c a) }).1 AeN
def A2x:A4:=(⟨_,by conv=>lhs;cbv⟩:{ c // gF Tryz.f178 []=some c }).1
def A2A:A4:=(⟨_,by conv=>lhs;cbv⟩:{ c // gF Tryz.f182 []=some c }).1
def AeQ:A1:=(⟨_,by conv=>lhs;cbv⟩:{ c // gL Tryz.f186 0 []=some c }).1
def A2D:A4:=(⟨_,by intro a;conv=>lhs;cbv⟩:{ c:A1->A4 // ∀ a,gF Tryz.f186 [(0,a)]=some (c a) }).1 AeQ
def A2F:A4:=(⟨_,by conv=>lhs;cbv⟩:{ c // gF Tryz.f189 []=some c }).1
def A9Q:A4:=(⟨_,by conv=>lhs;cbv⟩:{ c // gF Tryz.f192 []=some c }).1
def AeS:A1:=(⟨_,by conv=>lhs;cbv⟩:{ c // gL Tryz.f195 0 []=some c }).1
def A2H:A4:=(⟨_,by intro a;conv=>lhs;cbv⟩:{ c:A1->A4 // ∀ a,gF Tryz.f195 [(0,a)]=some (c a) }).1 AeS
def A2J:A4:=(⟨_,by conv=>lhs;cbv⟩:{ c // gF Tryz.f198 []=some c }).1
def Uj:A4:=(⟨_,by conv=>lhs;cbv⟩:{ c // gF Tryz.f201 []=some c }).1
def A2M:A4:=(⟨_,by conv=>lhs;cbv⟩:{ c // gF Tryz.f204 []=some c }).1
def A2N:A4:=(⟨_,by conv=>lhs;cbv⟩:{ c // gF Tryz.f207 []=some c }).1
def AeV:A1:=(⟨_,by conv=>lhs;cbv⟩:{ c // gL Tryz.f210 0 []=some c }).1
def A2Q:A4:=(⟨_,by intro a;conv=>lhs;cbv⟩:{ c:A1->A4 // ∀ a,gF Tryz.f210 [(0,a)]=some (c a) }).1 AeV
def A2S:A4:=(⟨_,by conv=>lhs;cbv⟩:{ c // gF Tryz.f213 []=some c }).1
def A2Y:A4:=(⟨_,by conv=>lhs;cbv⟩:{ c // gF Tryz.f219 []=some c }).1
def A5x:A1:=(⟨_,by conv=>lhs;cbv⟩:{ c // gL Tryz.f222 0 []=some c }).1
def A31:A4:=(⟨_,by intro a;conv=>lhs;cbv⟩:{ c:A1->A4 // ∀ a,gF Tryz.f222 [(0,a)]=some (c a) }).1 A5x
def A33:A4:=(⟨_,by conv=>lhs;cbv⟩:{ c // gF Tryz.f225 []=some c }).1
def A36:A4:=(⟨_,by conv=>lhs;cbv⟩:{ c // gF Tryz.f228 []=some c }).1
end Go.AM
