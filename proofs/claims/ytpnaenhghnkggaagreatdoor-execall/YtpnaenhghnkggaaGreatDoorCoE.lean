/-
  Own work, part of the proof of these laws: the code of the functions that the law reaches, as the machine has it; read off the program as the text is compiled.
-/
import Derived.Test.YtpnaenhghnkggaaGreatDoorCoA
set_option maxRecDepth 10000
set_option maxHeartbeats 64000000
set_option linter.unusedVariables false
set_option linter.unusedSimpArgs false
set_option maxRecDepth 100000
set_option maxHeartbeats 4000000
namespace Go.AM
open Go Go.Proofs
def AiQ:A1:=(⟨_,by conv=>lhs;cbv⟩:{ c // gL Tryz.f3 0 [] [[[0],[1],[2],[3],[4],[5],[10],[6],[7],[8],[9],[11],[12]],[[0],[1],[2],[3],[4],[5],[10],[6],[7],[8],[9],[11],[12]],[[0],[1],[2],[3],[4],[5],[6],[7],[8],[9],[10],[11],[12],[13],[14],[15,7],[16],[17],[18],[19]]]=some c }).1
def A9E:A4:=(⟨_,by intro a;conv=>lhs;cbv⟩:{ c:A1->A4 // ∀a,gF Tryz.f3 [(0,a)]=some (c a) }).1 AiQ
def A0W:A1:=(⟨_,by conv=>lhs;cbv⟩:{ c // gL Tryz.f9 0 []=some c }).1
def Aoz:A4:=(⟨_,by intro a;conv=>lhs;cbv⟩:{ c:A1->A4 // ∀a,gF Tryz.f9 [(0,a)]=some (c a) }).1 A0W
def AoX:A1:=(⟨_,by conv=>lhs;cbv⟩:{ c // gL Tryz.f11 4 []=some c }).1
def AoU:A1:=(⟨_,by intro a;conv=>lhs;cbv⟩:{ c:A1->A1 // ∀a,gL Tryz.f11 2 [(4,a)]=some (c a) }).1 AoX
def AoR:A1:=(⟨_,by conv=>lhs;cbv⟩:{ c // gL Tryz.f11 0 []=some c }).1
def A9F:A4:=(⟨_,by intro a b;conv=>lhs;cbv⟩:{ c:A1->A1->A4 // ∀a b,gF Tryz.f11 [(0,a),(2,b)]=some (c a b) }).1 AoR AoU
def Akl:A1:=(⟨_,by conv=>lhs;cbv⟩:{ c // gL Tryz.f13 0 []=some c }).1
def Ait:A4:=(⟨_,by intro a;conv=>lhs;cbv⟩:{ c:A1->A4 // ∀a,gF Tryz.f13 [(0,a)]=some (c a) }).1 Akl
def K9:A1:=(⟨_,by conv=>lhs;cbv⟩:{ c // gL Tryz.f15 0 []=some c }).1
def Aiv:A4:=(⟨_,by intro a;conv=>lhs;cbv⟩:{ c:A1->A4 // ∀a,gF Tryz.f15 [(0,a)] [[[0],[1],[2],[4],[5],[6],[9],[3,6],[7],[8],[10]],[[0],[1],[2],[3],[4],[5],[6],[7],[8],[9],[10],[11],[12],[13],[14]],[[0],[1],[2],[3],[4],[5],[6],[7],[8],[9],[10],[11],[12]],[[0],[1],[2],[3],[4],[5],[6],[7],[8],[9],[10]],[[0],[1],[2],[3],[4],[5],[6],[7],[8],[9],[10],[11]],[[0],[1],[2],[3],[4],[5],[6],[7],[8],[9],[10],[11],[12],[13],[14],[15]]]=some (c a) }).1 K9
def Aix:A4:=(⟨_,by conv=>lhs;cbv⟩:{ c // gF Tryz.f20 []=some c }).1
def A6d:A4:=(⟨_,by conv=>lhs;cbv⟩:{ c // gF Tryz.f22 []=some c }).1
def Aiy:A4:=(⟨_,by conv=>lhs;cbv⟩:{ c // gF Tryz.f26 []=some c }).1
def A6g:A4:=(⟨_,by conv=>lhs;cbv⟩:{ c // gF Tryz.f29 []=some c }).1
def Als:A1:=(⟨_,by conv=>lhs;cbv⟩:{ c // gL Tryz.f34 8 [] [[[0],[1],[2],[3],[4],[5],[6],[7],[8],[9],[10],[11],[12],[13],[14],[15],[16],[17],[18],[19],[20],[21],[22],[23],[24],[25],[26],[27],[28],[29],[30],[31],[32],[33],[34],[35],[36]]]=some c }).1
def Alo:A1:=(⟨_,by conv=>lhs;cbv⟩:{ c // gL Tryz.f34 6 [] [[[0],[1],[2],[3],[4],[5],[6],[7],[8],[9],[10],[11],[12],[13],[15],[16],[17],[18],[19],[20],[14,20,17,7],[21,7],[22],[23]]]=some c }).1
def Alg:A1:=(⟨_,by conv=>lhs;cbv⟩:{ c // gL Tryz.f34 4 []=some c }).1
def Al2:A1:=(⟨_,by conv=>lhs;cbv⟩:{ c // gL Tryz.f34 2 [] [[[0],[1],[2],[3],[4],[5],[6],[7],[8],[9],[10],[11],[12],[13],[14],[15],[16],[17],[18],[19],[20],[21],[22],[23],[24]],[[0],[1],[2],[3],[4],[5],[6],[7],[8],[9],[10],[11],[12],[13],[14],[15],[16],[17],[18],[19,5,2],[20],[21]]]=some c }).1
def Ako:A1:=(⟨_,by intro a;conv=>lhs;cbv⟩:{ c:A1->A1 // ∀a,gL Tryz.f34 0 [(2,a)]=some (c a) }).1 Al2
def AbQ:A4:=(⟨_,by intro a b d e;conv=>lhs;cbv⟩:{ c:A1->A1->A1->A1->A4 // ∀a b d e,gF Tryz.f34 [(0,a),(4,b),(6,d),(8,e)]=some (c a b d e) }).1 Ako Alg Alo Als
def Akr:A1:=(⟨_,by conv=>lhs;cbv⟩:{ c // gL Tryz.f37 0 []=some c }).1
def AiC:A4:=(⟨_,by intro a;conv=>lhs;cbv⟩:{ c:A1->A4 // ∀a,gF Tryz.f37 [(0,a)]=some (c a) }).1 Akr
def AbT:A4:=(⟨_,by conv=>lhs;cbv⟩:{ c // gF Tryz.f41 []=some c }).1
def A6i:A4:=(⟨_,by conv=>lhs;cbv⟩:{ c // gF Tryz.f52 []=some c }).1
def Aky:A1:=(⟨_,by conv=>lhs;cbv⟩:{ c // gL Tryz.f54 0 []=some c }).1
def Ac1:A4:=(⟨_,by intro a;conv=>lhs;cbv⟩:{ c:A1->A4 // ∀a,gF Tryz.f54 [(0,a)]=some (c a) }).1 Aky
def Alu:A1:=(⟨_,by conv=>lhs;cbv⟩:{ c // gL Tryz.f56 8 []=some c }).1
def Alq:A1:=(⟨_,by intro a;conv=>lhs;cbv⟩:{ c:A1->A1 // ∀a,gL Tryz.f56 6 [(8,a)] [[[0],[1],[2],[3],[4],[5],[6],[7],[8],[9],[10],[11],[12],[13]],[[0],[1],[2],[3],[4],[5],[6],[7],[8],[9],[10]]]=some (c a) }).1 Alu
def Ali:A1:=(⟨_,by conv=>lhs;cbv⟩:{ c // gL Tryz.f56 4 [] [[[0],[1],[2],[3],[4],[5],[6],[7],[8],[9],[10],[11],[12],[13],[14],[15],[16],[17],[18],[19],[20],[21],[22],[23],[24],[25],[26],[27],[28,8,5,2],[29],[30]]]=some c }).1
def Al4:A1:=(⟨_,by intro a;conv=>lhs;cbv⟩:{ c:A1->A1 // ∀a,gL Tryz.f56 2 [(4,a)]=some (c a) }).1 Ali
def AkA:A1:=(⟨_,by intro a;conv=>lhs;cbv⟩:{ c:A1->A1 // ∀a,gL Tryz.f56 0 [(2,a)]=some (c a) }).1 Al4
def Ac2:A4:=(⟨_,by intro a b;conv=>lhs;cbv⟩:{ c:A1->A1->A4 // ∀a b,gF Tryz.f56 [(0,a),(6,b)]=some (c a b) }).1 AkA Alq
def Alr:A1:=(⟨_,by conv=>lhs;cbv⟩:{ c // gL Tryz.f58 6 []=some c }).1
def Alj:A1:=(⟨_,by intro a;conv=>lhs;cbv⟩:{ c:A1->A1 // ∀a,gL Tryz.f58 4 [(6,a)]=some (c a) }).1 Alr
def Al5:A1:=(⟨_,by intro a;conv=>lhs;cbv⟩:{ c:A1->A1 // ∀a,gL Tryz.f58 2 [(4,a)]=some (c a) }).1 Alj
def AkC:A1:=(⟨_,by intro a;conv=>lhs;cbv⟩:{ c:A1->A1 // ∀a,gL Tryz.f58 0 [(2,a)]=some (c a) }).1 Al5
def Ac4:A4:=(⟨_,by intro a;conv=>lhs;cbv⟩:{ c:A1->A4 // ∀a,gF Tryz.f58 [(0,a)]=some (c a) }).1 AkC
def Alk:A1:=(⟨_,by conv=>lhs;cbv⟩:{ c // gL Tryz.f61 4 []=some c }).1
def Al6:A1:=(⟨_,by intro a;conv=>lhs;cbv⟩:{ c:A1->A1 // ∀a,gL Tryz.f61 2 [(4,a)]=some (c a) }).1 Alk
def AkD:A1:=(⟨_,by conv=>lhs;cbv⟩:{ c // gL Tryz.f61 0 []=some c }).1
def AiF:A4:=(⟨_,by intro a b;conv=>lhs;cbv⟩:{ c:A1->A1->A4 // ∀a b,gF Tryz.f61 [(0,a),(2,b)]=some (c a b) }).1 AkD Al6
def AkE:A1:=(⟨_,by conv=>lhs;cbv⟩:{ c // gL Tryz.f63 0 []=some c }).1
def A6m:A4:=(⟨_,by intro a;conv=>lhs;cbv⟩:{ c:A1->A4 // ∀a,gF Tryz.f63 [(0,a)]=some (c a) }).1 AkE
def AkG:A1:=(⟨_,by conv=>lhs;cbv⟩:{ c // gL Tryz.f65 0 []=some c }).1
def Ac6:A4:=(⟨_,by intro a;conv=>lhs;cbv⟩:{ c:A1->A4 // ∀a,gF Tryz.f65 [(0,a)]=some (c a) }).1 AkG
def Ac8:A4:=(⟨_,by conv=>lhs;cbv⟩:{ c // gF Tryz.f67 []=some c }).1
def Vi:A1:=(⟨_,by conv=>lhs;cbv⟩:{ c // gL Tryz.f83 0 []=some c }).1
def Acf:A4:=(⟨_,by intro a;conv=>lhs;cbv⟩:{ c:A1->A4 // ∀a,gF Tryz.f83 [(0,a)]=some (c a) }).1 Vi
def AkO:A1:=(⟨_,by conv=>lhs;cbv⟩:{ c // gL Tryz.f87 0 []=some c }).1
def AiI:A4:=(⟨_,by intro a;conv=>lhs;cbv⟩:{ c:A1->A4 // ∀a,gF Tryz.f87 [(0,a)]=some (c a) }).1 AkO
def AkQ:A1:=(⟨_,by conv=>lhs;cbv⟩:{ c // gL Tryz.f89 0 []=some c }).1
def AiK:A4:=(⟨_,by intro a;conv=>lhs;cbv⟩:{ c:A1->A4 // ∀a,gF Tryz.f89 [(0,a)]=some (c a) }).1 AkQ
def Ald:A1:=(⟨_,by conv=>lhs;cbv⟩:{ c // gL Tryz.f91 2 [] [[[0],[1],[2],[3],[4],[5],[6],[7],[8],[9],[10],[11],[12],[13],[14],[15],[16],[17],[18],[19],[20],[21],[22],[23],[24],[25],[26],[27]]]=some c }).1
def AkS:A1:=(⟨_,by intro a;conv=>lhs;cbv⟩:{ c:A1->A1 // ∀a,gL Tryz.f91 0 [(2,a)] [[[0],[1],[2],[3],[4],[5],[6],[7],[8],[9],[10],[11],[12],[13],[14],[15],[16],[17],[18],[19],[20],[21],[22],[23],[24],[25],[26],[27],[28],[29],[30],[31],[32],[33],[34],[35],[36],[37],[38]],[[0],[1],[2],[3],[4],[5],[6],[7],[8],[9],[10],[11],[12],[13],[14],[15],[16],[17],[18,9,7,3,1],[19],[20],[21]]]=some (c a) }).1 Ald
def AiM:A4:=(⟨_,by intro a;conv=>lhs;cbv⟩:{ c:A1->A4 // ∀a,gF Tryz.f91 [(0,a)]=some (c a) }).1 AkS
def Ahd:A1:=(⟨_,by conv=>lhs;cbv⟩:{ c // gL Tryz.f108 4 []=some c }).1
def AgZ:A1:=(⟨_,by conv=>lhs;cbv⟩:{ c // gL Tryz.f108 2 []=some c }).1
def Agm:A1:=(⟨_,by intro a;conv=>lhs;cbv⟩:{ c:A1->A1 // ∀a,gL Tryz.f108 0 [(2,a)]=some (c a) }).1 AgZ
def UC:A4:=(⟨_,by intro a b;conv=>lhs;cbv⟩:{ c:A1->A1->A4 // ∀a b,gF Tryz.f108 [(0,a),(4,b)]=some (c a b) }).1 Agm Ahd
def UD:A4:=(⟨_,by conv=>lhs;cbv⟩:{ c // gF Tryz.f110 []=some c }).1
def Ah0:A1:=(⟨_,by conv=>lhs;cbv⟩:{ c // gL Tryz.f112 2 [] [[[0],[1],[2],[3],[4],[5],[6],[7],[8],[9],[10],[11],[12],[13],[14],[15],[16],[18],[19],[20],[17,19,18,13,10,8,5],[21,13,10,8,5],[22],[23],[24]]]=some c }).1
def Ago:A1:=(⟨_,by intro a;conv=>lhs;cbv⟩:{ c:A1->A1 // ∀a,gL Tryz.f112 0 [(2,a)]=some (c a) }).1 Ah0
def A2R:A4:=(⟨_,by intro a;conv=>lhs;cbv⟩:{ c:A1->A4 // ∀a,gF Tryz.f112 [(0,a)]=some (c a) }).1 Ago
def Abz:A4:=(⟨_,by conv=>lhs;cbv⟩:{ c // gF Tryz.f114 []=some c }).1
def Agq:A1:=(⟨_,by conv=>lhs;cbv⟩:{ c // gL Tryz.f116 0 [] [[[0],[1],[2],[3],[4],[5],[6],[7],[8],[9],[10],[11],[12],[13],[14],[16],[17],[18],[15,18,11,9,7,5,3,1],[19,11,9,7,5,3,1],[20],[21]]]=some c }).1
def A2S:A4:=(⟨_,by intro a;conv=>lhs;cbv⟩:{ c:A1->A4 // ∀a,gF Tryz.f116 [(0,a)]=some (c a) }).1 Agq
def UH:A4:=(⟨_,by conv=>lhs;cbv⟩:{ c // gF Tryz.f118 []=some c }).1
def A2U:A4:=(⟨_,by conv=>lhs;cbv⟩:{ c // gF Tryz.f122 []=some c }).1
def Ah1:A1:=(⟨_,by conv=>lhs;cbv⟩:{ c // gL Tryz.f126 2 []=some c }).1
def Ags:A1:=(⟨_,by intro a;conv=>lhs;cbv⟩:{ c:A1->A1 // ∀a,gL Tryz.f126 0 [(2,a)]=some (c a) }).1 Ah1
def A2X:A4:=(⟨_,by intro a;conv=>lhs;cbv⟩:{ c:A1->A4 // ∀a,gF Tryz.f126 [(0,a)]=some (c a) }).1 Ags
def UK:A4:=(⟨_,by conv=>lhs;cbv⟩:{ c // gF Tryz.f128 []=some c }).1
def Agy:A1:=(⟨_,by conv=>lhs;cbv⟩:{ c // gL Tryz.f155 0 []=some c }).1
def A3g:A4:=(⟨_,by intro a;conv=>lhs;cbv⟩:{ c:A1->A4 // ∀a,gF Tryz.f155 [(0,a)]=some (c a) }).1 Agy
def Ah4:A1:=(⟨_,by conv=>lhs;cbv⟩:{ c // gL Tryz.f158 2 []=some c }).1
def Ef:A1:=(⟨_,by intro a;conv=>lhs;cbv⟩:{ c:A1->A1 // ∀a,gL Tryz.f158 0 [(2,a)]=some (c a) }).1 Ah4
def AbB:A4:=(⟨_,by intro a;conv=>lhs;cbv⟩:{ c:A1->A4 // ∀a,gF Tryz.f158 [(0,a)]=some (c a) }).1 Ef
def UQ:A4:=(⟨_,by conv=>lhs;cbv⟩:{ c // gF Tryz.f160 [] [[[0],[1],[2],[3],[4],[5],[6],[7],[8],[9]],[[0],[1],[2],[3],[4],[5],[6],[7],[8],[9,6,2,0],[10],[11]]]=some c }).1
def US:A4:=(⟨_,by conv=>lhs;cbv⟩:{ c // gF Tryz.f173 [] [[[0],[1],[2],[3],[4],[5],[6],[7],[8],[9],[10]],[[0],[1],[2],[3],[4],[5],[6],[7],[8],[9]],[[0],[1],[2],[3],[4],[5],[6],[7],[8],[9]]]=some c }).1
def AbE:A4:=(⟨_,by conv=>lhs;cbv⟩:{ c // gF Tryz.f175 []=some c }).1
def LD:A4:=(⟨_,by conv=>lhs;cbv⟩:{ c // gF Tryz.f178 []=some c }).1
def Ahb:A1:=(⟨_,by conv=>lhs;cbv⟩:{ c // gL Tryz.f204 2 [] [[[0],[1],[2],[3],[4],[5],[6],[7],[8],[9]],[[0],[1],[2],[3],[4],[5],[6],[7],[8],[9],[10],[11],[12],[13],[14],[15],[16],[17],[18],[19],[20],[21],[22]]]=some c }).1
def AgQ:A1:=(⟨_,by intro a;conv=>lhs;cbv⟩:{ c:A1->A1 // ∀a,gL Tryz.f204 0 [(2,a)]=some (c a) }).1 Ahb
def AbH:A4:=(⟨_,by intro a;conv=>lhs;cbv⟩:{ c:A1->A4 // ∀a,gF Tryz.f204 [(0,a)]=some (c a) }).1 AgQ
def A3R:A4:=(⟨_,by conv=>lhs;cbv⟩:{ c // gF Tryz.f215 []=some c }).1
def A3T:A4:=(⟨_,by conv=>lhs;cbv⟩:{ c // gF Tryz.f217 []=some c }).1
end Go.AM
