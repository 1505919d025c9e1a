/-
  Own work, part of the proof of these laws: the code of the functions that the law reaches, as the machine has it; read off the program as the text is compiled.
-/
import Derived.Test.YthhlhddnndlhkaaGreatDoorCoA
set_option maxRecDepth 10000
set_option maxHeartbeats 64000000
set_option linter.unusedVariables false
set_option linter.unusedSimpArgs false
set_option maxRecDepth 100000
set_option maxHeartbeats 4000000
namespace Go.AM
open Go Go.Proofs
def A8S:A3:=(⟨_,by conv=>lhs;cbv⟩:{ c // gF Tryz.f16 []=some c }).1
def Ao3:A2:=(⟨_,by conv=>lhs;cbv⟩:{ c // gL Tryz.f30 0 []=some c }).1
def XD:A3:=(⟨_,by intro a;conv=>lhs;cbv⟩:{ c:A2->A3 // ∀ a,gF Tryz.f30 [(0,a)]=some (c a) }).1 Ao3
def Ao9:A2:=(⟨_,by conv=>lhs;cbv⟩:{ c // gL Tryz.f42 0 []=some c }).1
def A96:A3:=(⟨_,by intro a;conv=>lhs;cbv⟩:{ c:A2->A3 // ∀ a,gF Tryz.f42 [(0,a)]=some (c a) }).1 Ao9
def A13:A3:=(⟨_,by conv=>lhs;cbv⟩:{ c // gF Tryz.f45 []=some c }).1
def P6:A3:=(⟨_,by conv=>lhs;cbv⟩:{ c // gF Tryz.f55 []=some c }).1
def Ap1:A2:=(⟨_,by conv=>lhs;cbv⟩:{ c // gL Tryz.f59 8 []=some c }).1
def AoY:A2:=(⟨_,by intro a;conv=>lhs;cbv⟩:{ c:A2->A2 // ∀ a,gL Tryz.f59 6 [(8,a)]=some (c a) }).1 Ap1
def AoU:A2:=(⟨_,by conv=>lhs;cbv⟩:{ c // gL Tryz.f59 4 []=some c }).1
def AoJ:A2:=(⟨_,by intro a;conv=>lhs;cbv⟩:{ c:A2->A2 // ∀ a,gL Tryz.f59 2 [(4,a)]=some (c a) }).1 AoU
def Aoe:A2:=(⟨_,by conv=>lhs;cbv⟩:{ c // gL Tryz.f59 0 [] [[[0],[1],[2],[3],[4],[5],[6],[7],[8],[9],[10]],[[0],[1],[2],[3],[4],[5],[6],[7],[8],[9],[10],[11],[12],[13],[14],[15],[16],[17],[18],[19],[20],[21],[22],[23],[24],[25],[26],[27],[28],[29],[30],[31],[32],[33],[34],[35]]]=some c }).1
def XG:A3:=(⟨_,by intro a b d;conv=>lhs;cbv⟩:{ c:A2->A2->A2->A3 // ∀ a b d,gF Tryz.f59 [(0,a),(2,b),(6,d)]=some (c a b d) }).1 Aoe AoJ AoY
def Aol:A2:=(⟨_,by conv=>lhs;cbv⟩:{ c // gL Tryz.f68 0 []=some c }).1
def A9n:A3:=(⟨_,by intro a;conv=>lhs;cbv⟩:{ c:A2->A3 // ∀ a,gF Tryz.f68 [(0,a)]=some (c a) }).1 Aol
def A3w:A3:=(⟨_,by conv=>lhs;cbv⟩:{ c // gF Tryz.f75 []=some c }).1
def AoN:A2:=(⟨_,by conv=>lhs;cbv⟩:{ c // gL Tryz.f78 2 []=some c }).1
def Aoq:A2:=(⟨_,by intro a;conv=>lhs;cbv⟩:{ c:A2->A2 // ∀ a,gL Tryz.f78 0 [(2,a)]=some (c a) }).1 AoN
def A3y:A3:=(⟨_,by intro a;conv=>lhs;cbv⟩:{ c:A2->A3 // ∀ a,gF Tryz.f78 [(0,a)]=some (c a) }).1 Aoq
def A9x:A3:=(⟨_,by conv=>lhs;cbv⟩:{ c // gF Tryz.f81 []=some c }).1
def A9D:A3:=(⟨_,by conv=>lhs;cbv⟩:{ c // gF Tryz.f88 []=some c }).1
def A9L:A3:=(⟨_,by conv=>lhs;cbv⟩:{ c // gF Tryz.f95 []=some c }).1
def AoR:A2:=(⟨_,by conv=>lhs;cbv⟩:{ c // gL Tryz.f99 2 []=some c }).1
def Ac0:A2:=(⟨_,by intro a;conv=>lhs;cbv⟩:{ c:A2->A2 // ∀ a,gL Tryz.f99 0 [(2,a)]=some (c a) }).1 AoR
def P7:A3:=(⟨_,by intro a;conv=>lhs;cbv⟩:{ c:A2->A3 // ∀ a,gF Tryz.f99 [(0,a)]=some (c a) }).1 Ac0
def Akf:A2:=(⟨_,by conv=>lhs;cbv⟩:{ c // gL Tryz.f111 0 []=some c }).1
def Zr:A3:=(⟨_,by intro a;conv=>lhs;cbv⟩:{ c:A2->A3 // ∀ a,gF Tryz.f111 [(0,a)]=some (c a) }).1 Akf
def RT:A3:=(⟨_,by conv=>lhs;cbv⟩:{ c // gF Tryz.f115 []=some c }).1
def R2:A2:=(⟨_,by conv=>lhs;cbv⟩:{ c // gL Tryz.f119 6 []=some c }).1
def Ald:A2:=(⟨_,by conv=>lhs;cbv⟩:{ c // gL Tryz.f119 4 []=some c }).1
def Al2:A2:=(⟨_,by conv=>lhs;cbv⟩:{ c // gL Tryz.f119 2 []=some c }).1
def Akj:A2:=(⟨_,by conv=>lhs;cbv⟩:{ c // gL Tryz.f119 0 []=some c }).1
def RV:A3:=(⟨_,by intro a b d e;conv=>lhs;cbv⟩:{ c:A2->A2->A2->A2->A3 // ∀ a b d e,gF Tryz.f119 [(0,a),(2,b),(4,d),(6,e)]=some (c a b d e) }).1 Akj Al2 Ald R2
def RW:A3:=(⟨_,by conv=>lhs;cbv⟩:{ c // gF Tryz.f123 []=some c }).1
def Akl:A2:=(⟨_,by conv=>lhs;cbv⟩:{ c // gL Tryz.f127 0 [] [[[0],[1],[2],[3],[4],[5],[6],[7],[8],[9],[10],[11],[12],[13],[14],[15],[16],[17],[18],[19],[20],[21],[22]],[[0],[1],[2],[3],[4],[5],[6],[7],[8],[9]]]=some c }).1
def Zv:A3:=(⟨_,by intro a;conv=>lhs;cbv⟩:{ c:A2->A3 // ∀ a,gF Tryz.f127 [(0,a)]=some (c a) }).1 Akl
def Zz:A3:=(⟨_,by conv=>lhs;cbv⟩:{ c // gF Tryz.f136 []=some c }).1
def Akr:A2:=(⟨_,by conv=>lhs;cbv⟩:{ c // gL Tryz.f139 0 []=some c }).1
def ZC:A3:=(⟨_,by intro a;conv=>lhs;cbv⟩:{ c:A2->A3 // ∀ a,gF Tryz.f139 [(0,a)]=some (c a) }).1 Akr
def ZF:A3:=(⟨_,by conv=>lhs;cbv⟩:{ c // gF Tryz.f142 []=some c }).1
def ZH:A3:=(⟨_,by conv=>lhs;cbv⟩:{ c // gF Tryz.f147 []=some c }).1
def S0:A3:=(⟨_,by conv=>lhs;cbv⟩:{ c // gF Tryz.f152 []=some c }).1
def A74:A2:=(⟨_,by conv=>lhs;cbv⟩:{ c // gL Tryz.f159 0 [] [[[0],[1],[2],[3],[4],[5],[6],[7],[8],[9],[10]],[[0],[1],[2],[3],[4],[5],[6],[7],[8],[9],[10]],[[0],[1],[2],[3],[4],[5],[6],[7],[8],[9],[10],[11],[12]],[[0],[1],[2],[3],[4],[5],[6],[7],[8],[9],[10],[11],[12],[13],[14],[15],[16],[17],[18],[19],[20],[21],[22],[23],[24],[25],[26],[27]]]=some c }).1
def ZP:A3:=(⟨_,by intro a;conv=>lhs;cbv⟩:{ c:A2->A3 // ∀ a,gF Tryz.f159 [(0,a)]=some (c a) }).1 A74
def S3:A3:=(⟨_,by conv=>lhs;cbv⟩:{ c // gF Tryz.f162 []=some c }).1
def Al5:A2:=(⟨_,by conv=>lhs;cbv⟩:{ c // gL Tryz.f166 2 []=some c }).1
def Akz:A2:=(⟨_,by conv=>lhs;cbv⟩:{ c // gL Tryz.f166 0 []=some c }).1
def S5:A3:=(⟨_,by intro a b;conv=>lhs;cbv⟩:{ c:A2->A2->A3 // ∀ a b,gF Tryz.f166 [(0,a),(2,b)]=some (c a b) }).1 Akz Al5
def Al6:A2:=(⟨_,by conv=>lhs;cbv⟩:{ c // gL Tryz.f169 2 []=some c }).1
def AkB:A2:=(⟨_,by intro a;conv=>lhs;cbv⟩:{ c:A2->A2 // ∀ a,gL Tryz.f169 0 [(2,a)] [[[0],[1],[2],[3],[4],[5],[6],[7],[8],[9],[10],[11],[12],[13],[14],[15],[16],[17],[18],[19],[20],[21],[22]]]=some (c a) }).1 Al6
def ZU:A3:=(⟨_,by intro a;conv=>lhs;cbv⟩:{ c:A2->A3 // ∀ a,gF Tryz.f169 [(0,a)]=some (c a) }).1 AkB
def AkD:A2:=(⟨_,by conv=>lhs;cbv⟩:{ c // gL Tryz.f172 0 []=some c }).1
def ZX:A3:=(⟨_,by intro a;conv=>lhs;cbv⟩:{ c:A2->A3 // ∀ a,gF Tryz.f172 [(0,a)]=some (c a) }).1 AkD
def A00:A3:=(⟨_,by conv=>lhs;cbv⟩:{ c // gF Tryz.f175 []=some c }).1
def S7:A3:=(⟨_,by conv=>lhs;cbv⟩:{ c // gF Tryz.f178 []=some c }).1
def Hc:A2:=(⟨_,by conv=>lhs;cbv⟩:{ c // gL Tryz.f181 0 []=some c }).1
def Cw:A3:=(⟨_,by intro a;conv=>lhs;cbv⟩:{ c:A2->A3 // ∀ a,gF Tryz.f181 [(0,a)] [[[0],[1],[2],[3],[4],[5],[6],[7],[8],[9],[10],[11],[12],[13],[14],[15],[16],[17],[18],[19],[20],[21],[22],[23],[24],[25],[26],[27],[28],[29],[30],[31],[32],[33],[34],[35],[36],[37],[38]],[[0],[1],[2],[3],[4],[6],[7],[9],[10],[11],[12],[5,10],[8,10],[13],[14],[15]],[[0],[1],[2],[3],[4],[6],[7],[9],[10],[11],[12],[5,10],[8,10],[13],[14],[15]]]=some (c a) }).1 Hc
def A04:A3:=(⟨_,by conv=>lhs;cbv⟩:{ c // gF Tryz.f185 []=some c }).1
def AkK:A2:=(⟨_,by conv=>lhs;cbv⟩:{ c // gL Tryz.f191 0 []=some c }).1
def A08:A3:=(⟨_,by intro a;conv=>lhs;cbv⟩:{ c:A2->A3 // ∀ a,gF Tryz.f191 [(0,a)]=some (c a) }).1 AkK
def A0e:A3:=(⟨_,by conv=>lhs;cbv⟩:{ c // gF Tryz.f199 []=some c }).1
def A0g:A3:=(⟨_,by conv=>lhs;cbv⟩:{ c // gF Tryz.f202 []=some c }).1
def A75:A2:=(⟨_,by conv=>lhs;cbv⟩:{ c // gL Tryz.f208 0 []=some c }).1
def A0l:A3:=(⟨_,by intro a;conv=>lhs;cbv⟩:{ c:A2->A3 // ∀ a,gF Tryz.f208 [(0,a)]=some (c a) }).1 A75
def A0n:A3:=(⟨_,by conv=>lhs;cbv⟩:{ c // gF Tryz.f211 []=some c }).1
def PR:A3:=(⟨_,by conv=>lhs;cbv⟩:{ c // gF Tryz.f214 []=some c }).1
def A0s:A3:=(⟨_,by conv=>lhs;cbv⟩:{ c // gF Tryz.f217 []=some c }).1
def AkP:A2:=(⟨_,by conv=>lhs;cbv⟩:{ c // gL Tryz.f220 0 []=some c }).1
def A0u:A3:=(⟨_,by intro a;conv=>lhs;cbv⟩:{ c:A2->A3 // ∀ a,gF Tryz.f220 [(0,a)]=some (c a) }).1 AkP
def AkR:A2:=(⟨_,by conv=>lhs;cbv⟩:{ c // gL Tryz.f223 0 []=some c }).1
def A0x:A3:=(⟨_,by intro a;conv=>lhs;cbv⟩:{ c:A2->A3 // ∀ a,gF Tryz.f223 [(0,a)]=some (c a) }).1 AkR
def A0z:A3:=(⟨_,by conv=>lhs;cbv⟩:{ c // gF Tryz.f226 []=some c }).1
def A0B:A3:=(⟨_,by conv=>lhs;cbv⟩:{ c // gF Tryz.f229 []=some c }).1
def AkT:A2:=(⟨_,by conv=>lhs;cbv⟩:{ c // gL Tryz.f232 0 []=some c }).1
def A0D:A3:=(⟨_,by intro a;conv=>lhs;cbv⟩:{ c:A2->A3 // ∀ a,gF Tryz.f232 [(0,a)]=some (c a) }).1 AkT
def AkU:A2:=(⟨_,by conv=>lhs;cbv⟩:{ c // gL Tryz.f236 0 []=some c }).1
def A0G:A3:=(⟨_,by intro a;conv=>lhs;cbv⟩:{ c:A2->A3 // ∀ a,gF Tryz.f236 [(0,a)]=some (c a) }).1 AkU
def A0I:A3:=(⟨_,by conv=>lhs;cbv⟩:{ c // gF Tryz.f239 []=some c }).1
def A0K:A3:=(⟨_,by conv=>lhs;cbv⟩:{ c // gF Tryz.f242 []=some c }).1
def AkV:A2:=(⟨_,by conv=>lhs;cbv⟩:{ c // gL Tryz.f245 0 []=some c }).1
def A0N:A3:=(⟨_,by intro a;conv=>lhs;cbv⟩:{ c:A2->A3 // ∀ a,gF Tryz.f245 [(0,a)]=some (c a) }).1 AkV
def A0P:A3:=(⟨_,by conv=>lhs;cbv⟩:{ c // gF Tryz.f248 []=some c }).1
def A0S:A3:=(⟨_,by conv=>lhs;cbv⟩:{ c // gF Tryz.f251 []=some c }).1
def AkX:A2:=(⟨_,by conv=>lhs;cbv⟩:{ c // gL Tryz.f254 0 []=some c }).1
def A0V:A3:=(⟨_,by intro a;conv=>lhs;cbv⟩:{ c:A2->A3 // ∀ a,gF Tryz.f254 [(0,a)]=some (c a) }).1 AkX
def A0Y:A3:=(⟨_,by conv=>lhs;cbv⟩:{ c // gF Tryz.f257 []=some c }).1
def Adt:A2:=(⟨_,by conv=>lhs;cbv⟩:{ c // gL Tryz.f260 0 []=some c }).1
def A11:A3:=(⟨_,by intro a;conv=>lhs;cbv⟩:{ c:A2->A3 // ∀ a,gF Tryz.f260 [(0,a)]=some (c a) }).1 Adt
end Go.AM
