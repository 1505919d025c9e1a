/-
  Own work, part of the proof of these laws: the code of the functions that the law reaches, as the machine has it; read off the program as the text is compiled.
-/
import Derived.Test.YtpnaenhghnkggabGreatDoorCoA
set_option maxRecDepth 10000
set_option maxHeartbeats 64000000
set_option linter.unusedVariables false
set_option linter.unusedSimpArgs false
set_option maxRecDepth 100000
set_option maxHeartbeats 4000000
namespace Go.AM
open Go Go.Proofs
def AaL:A1:=(⟨_,by conv=>lhs;cbv⟩:{ c // gL Tryz.f4 4 []=some c }).1
def Amh:A1:=(⟨_,by conv=>lhs;cbv⟩:{ c // gL Tryz.f4 2 [] [[[0],[1],[2],[3],[4],[5],[6],[7]],[[0],[1],[2],[3],[4],[5],[6],[7],[8],[9],[10],[11],[12],[13],[14],[15],[16],[17],[18,9],[19],[20],[21],[22],[23]],[[0],[1],[2],[3],[4],[5],[6],[7],[8],[9],[10],[11],[12],[13],[14],[15],[16],[17],[18],[19],[20],[21],[22],[23],[24],[25],[26],[27],[28],[29],[30],[31],[32],[33],[34],[35],[36],[37],[38],[39],[40],[41],[42],[44],[45],[46],[47],[43,47],[48],[49],[50]],[[0],[1],[2],[3],[4],[5],[6],[7],[8],[9],[10],[11],[12],[13],[14],[15],[16],[17],[18],[19],[20],[21],[22],[23],[24],[25],[26],[27],[28],[29],[30],[31],[32]]]=some c }).1
def Amd:A1:=(⟨_,by intro a b;conv=>lhs;cbv⟩:{ c:A1->A1->A1 // ∀ a b,gL Tryz.f4 0 [(2,a),(4,b)] [[[0],[1],[2],[3],[4],[5],[6],[7],[8],[9],[10]],[[0],[1],[2],[3],[4],[5],[6],[7],[8]],[[0],[1],[2],[3],[4],[5],[6],[7],[8],[9],[10],[11],[12],[13],[14],[15],[16],[17],[18],[19]],[[0],[1],[2],[3],[4],[5],[6],[8],[7],[9]]]=some (c a b) }).1 Amh AaL
def A9B:A4:=(⟨_,by intro a;conv=>lhs;cbv⟩:{ c:A1->A4 // ∀ a,gF Tryz.f4 [(0,a)]=some (c a) }).1 Amd
def AlV:A4:=(⟨_,by conv=>lhs;cbv⟩:{ c // gF Tryz.f7 [] [[[0],[1],[2],[3],[4],[5],[6],[7],[8],[9],[10],[11],[12],[13],[14],[15],[16],[17],[18],[19],[20],[21],[22],[23],[24],[25],[26],[27],[28],[29],[30],[31],[32],[33],[34],[35],[36],[37],[38],[39],[40],[41],[42],[43],[44],[45],[46],[47],[48],[49],[50],[51],[52],[53],[54],[55],[56],[57],[58],[59],[60],[61],[62],[63],[64],[65],[66],[67],[68],[69],[70],[71],[72],[73],[74],[75],[76],[77]]]=some c }).1
def P1:A1:=(⟨_,by conv=>lhs;cbv⟩:{ c // gL Tryz.f10 0 []=some c }).1
def AhP:A4:=(⟨_,by intro a;conv=>lhs;cbv⟩:{ c:A1->A4 // ∀ a,gF Tryz.f10 [(0,a)]=some (c a) }).1 P1
def Amg:A1:=(⟨_,by conv=>lhs;cbv⟩:{ c // gL Tryz.f12 0 []=some c }).1
def AhQ:A4:=(⟨_,by intro a;conv=>lhs;cbv⟩:{ c:A1->A4 // ∀ a,gF Tryz.f12 [(0,a)]=some (c a) }).1 Amg
def A54:A4:=(⟨_,by conv=>lhs;cbv⟩:{ c // gF Tryz.f14 []=some c }).1
def AiP:A1:=(⟨_,by conv=>lhs;cbv⟩:{ c // gL Tryz.f16 4 [] [[[0],[1],[2],[3],[4],[5],[6],[7],[8],[9],[10],[11],[12],[13],[14],[15],[16],[17],[18],[19],[20],[21],[22],[23],[24],[25],[26],[27],[28],[29],[30],[31],[32],[33],[34],[35],[36]]]=some c }).1
def Aiz:A1:=(⟨_,by intro a;conv=>lhs;cbv⟩:{ c:A1->A1 // ∀ a,gL Tryz.f16 2 [(4,a)]=some (c a) }).1 AiP
def AhY:A1:=(⟨_,by intro a;conv=>lhs;cbv⟩:{ c:A1->A1 // ∀ a,gL Tryz.f16 0 [(2,a)]=some (c a) }).1 Aiz
def A9C:A4:=(⟨_,by intro a;conv=>lhs;cbv⟩:{ c:A1->A4 // ∀ a,gF Tryz.f16 [(0,a)]=some (c a) }).1 AhY
def ZF:A4:=(⟨_,by conv=>lhs;cbv⟩:{ c // gF Tryz.f19 []=some c }).1
def AiX:A1:=(⟨_,by conv=>lhs;cbv⟩:{ c // gL Tryz.f23 8 [] [[[0],[1],[2],[3],[4],[5],[6],[7],[8],[9],[10],[11],[12],[13],[14],[15],[16],[17],[18],[19],[20],[21],[22],[23],[24],[25],[26],[27],[28],[29],[30],[31],[32],[33],[34],[35],[36]]]=some c }).1
def AiV:A1:=(⟨_,by conv=>lhs;cbv⟩:{ c // gL Tryz.f23 6 [] [[[0],[1],[2],[3],[4],[5],[6],[7],[8],[9],[10],[11],[12],[13],[15],[16],[17],[18],[19],[20],[14,20,17,7],[21,7],[22],[23]]]=some c }).1
def AiQ:A1:=(⟨_,by conv=>lhs;cbv⟩:{ c // gL Tryz.f23 4 []=some c }).1
def AiA:A1:=(⟨_,by conv=>lhs;cbv⟩:{ c // gL Tryz.f23 2 [] [[[0],[1],[2],[3],[4],[5],[6],[7],[8],[9],[10],[11],[12],[13],[14],[15],[16],[17],[18],[19],[20],[21],[22],[23],[24]],[[0],[1],[2],[3],[4],[5],[6],[7],[8],[9],[10],[11],[12],[13],[14],[15],[16],[17],[18],[19,5,2],[20],[21]]]=some c }).1
def Ai1:A1:=(⟨_,by intro a;conv=>lhs;cbv⟩:{ c:A1->A1 // ∀ a,gL Tryz.f23 0 [(2,a)]=some (c a) }).1 AiA
def A9U:A4:=(⟨_,by intro a b d e;conv=>lhs;cbv⟩:{ c:A1->A1->A1->A1->A4 // ∀ a b d e,gF Tryz.f23 [(0,a),(4,b),(6,d),(8,e)]=some (c a b d e) }).1 Ai1 AiQ AiV AiX
def Aga:A4:=(⟨_,by conv=>lhs;cbv⟩:{ c // gF Tryz.f26 []=some c }).1
def UA:A1:=(⟨_,by conv=>lhs;cbv⟩:{ c // gL Tryz.f32 0 []=some c }).1
def A9Y:A4:=(⟨_,by intro a;conv=>lhs;cbv⟩:{ c:A1->A4 // ∀ a,gF Tryz.f32 [(0,a)]=some (c a) }).1 UA
def UB:A1:=(⟨_,by conv=>lhs;cbv⟩:{ c // gL Tryz.f34 0 []=some c }).1
def Aa0:A4:=(⟨_,by intro a;conv=>lhs;cbv⟩:{ c:A1->A4 // ∀ a,gF Tryz.f34 [(0,a)]=some (c a) }).1 UB
def A58:A4:=(⟨_,by conv=>lhs;cbv⟩:{ c // gF Tryz.f44 []=some c }).1
def Ai5:A1:=(⟨_,by conv=>lhs;cbv⟩:{ c // gL Tryz.f46 0 []=some c }).1
def Aa6:A4:=(⟨_,by intro a;conv=>lhs;cbv⟩:{ c:A1->A4 // ∀ a,gF Tryz.f46 [(0,a)]=some (c a) }).1 Ai5
def Ai7:A1:=(⟨_,by conv=>lhs;cbv⟩:{ c // gL Tryz.f48 0 [] [[[0],[1],[2],[3],[4],[5],[6],[7],[8],[9],[10],[11],[12],[13],[14],[15],[16],[17],[18],[19],[20],[21],[22],[23],[24],[25],[26],[27],[28],[29],[30],[31],[32],[33],[34]]]=some c }).1
def Aa8:A4:=(⟨_,by intro a;conv=>lhs;cbv⟩:{ c:A1->A4 // ∀ a,gF Tryz.f48 [(0,a)]=some (c a) }).1 Ai7
def Ai9:A1:=(⟨_,by conv=>lhs;cbv⟩:{ c // gL Tryz.f52 0 []=some c }).1
def Agf:A4:=(⟨_,by intro a;conv=>lhs;cbv⟩:{ c:A1->A4 // ∀ a,gF Tryz.f52 [(0,a)]=some (c a) }).1 Ai9
def Aib:A1:=(⟨_,by conv=>lhs;cbv⟩:{ c // gL Tryz.f54 0 []=some c }).1
def Agh:A4:=(⟨_,by intro a;conv=>lhs;cbv⟩:{ c:A1->A4 // ∀ a,gF Tryz.f54 [(0,a)]=some (c a) }).1 Aib
def AiH:A1:=(⟨_,by conv=>lhs;cbv⟩:{ c // gL Tryz.f56 2 [] [[[0],[1],[2],[3],[4],[5],[6],[7],[8],[9],[10],[11],[12],[13],[14],[15],[16],[17],[18],[19],[20],[21],[22],[23],[24],[25],[26],[27]]]=some c }).1
def Aid:A1:=(⟨_,by intro a;conv=>lhs;cbv⟩:{ c:A1->A1 // ∀ a,gL Tryz.f56 0 [(2,a)] [[[0],[1],[2],[3],[4],[5],[6],[7],[8],[9],[10],[11],[12],[13],[14],[15],[16],[17],[18],[19],[20],[21],[22],[23],[24],[25],[26],[27],[28],[29],[30],[31],[32],[33],[34],[35],[36],[37],[38]],[[0],[1],[2],[3],[4],[5],[6],[7],[8],[9],[10],[11],[12],[13],[14],[15],[16],[17],[18,9,7,3,1],[19],[20],[21]]]=some (c a) }).1 AiH
def Agj:A4:=(⟨_,by intro a;conv=>lhs;cbv⟩:{ c:A1->A4 // ∀ a,gF Tryz.f56 [(0,a)]=some (c a) }).1 Aid
def Aig:A1:=(⟨_,by conv=>lhs;cbv⟩:{ c // gL Tryz.f61 0 []=some c }).1
def Agm:A4:=(⟨_,by intro a;conv=>lhs;cbv⟩:{ c:A1->A4 // ∀ a,gF Tryz.f61 [(0,a)]=some (c a) }).1 Aig
def AiL:A1:=(⟨_,by conv=>lhs;cbv⟩:{ c // gL Tryz.f75 2 []=some c }).1
def A3p:A1:=(⟨_,by intro a;conv=>lhs;cbv⟩:{ c:A1->A1 // ∀ a,gL Tryz.f75 0 [(2,a)]=some (c a) }).1 AiL
def Aai:A4:=(⟨_,by intro a;conv=>lhs;cbv⟩:{ c:A1->A4 // ∀ a,gF Tryz.f75 [(0,a)]=some (c a) }).1 A3p
def Aao:A4:=(⟨_,by conv=>lhs;cbv⟩:{ c // gF Tryz.f82 []=some c }).1
def A5g:A4:=(⟨_,by conv=>lhs;cbv⟩:{ c // gF Tryz.f85 []=some c }).1
def AiT:A1:=(⟨_,by conv=>lhs;cbv⟩:{ c // gL Tryz.f91 4 []=some c }).1
def GG:A1:=(⟨_,by intro a;conv=>lhs;cbv⟩:{ c:A1->A1 // ∀ a,gL Tryz.f91 2 [(4,a)]=some (c a) }).1 AiT
def Ait:A1:=(⟨_,by intro a;conv=>lhs;cbv⟩:{ c:A1->A1 // ∀ a,gL Tryz.f91 0 [(2,a)]=some (c a) }).1 GG
def Aau:A4:=(⟨_,by intro a;conv=>lhs;cbv⟩:{ c:A1->A4 // ∀ a,gF Tryz.f91 [(0,a)]=some (c a) }).1 Ait
def A5i:A4:=(⟨_,by conv=>lhs;cbv⟩:{ c // gF Tryz.f93 []=some c }).1
def Aiv:A1:=(⟨_,by conv=>lhs;cbv⟩:{ c // gL Tryz.f96 0 []=some c }).1
def A5j:A4:=(⟨_,by intro a;conv=>lhs;cbv⟩:{ c:A1->A4 // ∀ a,gF Tryz.f96 [(0,a)]=some (c a) }).1 Aiv
def A5k:A4:=(⟨_,by conv=>lhs;cbv⟩:{ c // gF Tryz.f98 [] [[[0],[1],[2],[3],[4],[5],[6],[7],[8],[9]],[[0],[1],[2],[3],[4],[5],[6],[7],[8],[9,6,2,0],[10],[11]]]=some c }).1
def A1V:A4:=(⟨_,by conv=>lhs;cbv⟩:{ c // gF Tryz.f114 []=some c }).1
def Aeu:A1:=(⟨_,by conv=>lhs;cbv⟩:{ c // gL Tryz.f131 0 [] [[[0],[1],[2],[3],[4],[5],[6],[7],[8],[9],[10],[11],[12],[13],[14],[16],[17],[18],[15,18,11,9,7,5,3,1],[19,11,9,7,5,3,1],[20],[21]]]=some c }).1
def A28:A4:=(⟨_,by intro a;conv=>lhs;cbv⟩:{ c:A1->A4 // ∀ a,gF Tryz.f131 [(0,a)]=some (c a) }).1 Aeu
def Aex:A1:=(⟨_,by conv=>lhs;cbv⟩:{ c // gL Tryz.f138 0 []=some c }).1
def A9H:A4:=(⟨_,by intro a;conv=>lhs;cbv⟩:{ c:A1->A4 // ∀ a,gF Tryz.f138 [(0,a)]=some (c a) }).1 Aex
def Aez:A1:=(⟨_,by conv=>lhs;cbv⟩:{ c // gL Tryz.f140 0 []=some c }).1
def A9I:A4:=(⟨_,by intro a;conv=>lhs;cbv⟩:{ c:A1->A4 // ∀ a,gF Tryz.f140 [(0,a)]=some (c a) }).1 Aez
def A9K:A4:=(⟨_,by conv=>lhs;cbv⟩:{ c // gF Tryz.f142 []=some c }).1
def A9O:A4:=(⟨_,by conv=>lhs;cbv⟩:{ c // gF Tryz.f184 []=some c }).1
def A2V:A4:=(⟨_,by conv=>lhs;cbv⟩:{ c // gF Tryz.f216 []=some c }).1
end Go.AM
