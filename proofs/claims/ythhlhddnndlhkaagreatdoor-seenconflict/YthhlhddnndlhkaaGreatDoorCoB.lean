/-
  Own work, part of the proof of the laws SeenLasts, SeenCalm, SeenConflict: the code of the functions that the law reaches, as the machine has it; read off the program as the text is compiled.
-/
import Derived.Test.YthhlhddnndlhkaaGreatDoorCoA
set_option maxRecDepth 4000
set_option linter.unusedVariables false
set_option linter.unusedSimpArgs false
set_option linter.unusedSectionVars false
set_option linter.unnecessarySimpa false
set_option maxRecDepth 100000
set_option maxHeartbeats 4000000
namespace Go.AM
open Go Go.Proofs
def AjU:A1:=(⟨_,by conv=>lhs;cbv⟩:{ c // gL Tryz.f4 0 [] [[[0],[1],[2],[4],[5],[6],[3,5,4],[7],[8],[9],[10],[11],[12],[13],[14],[15],[16],[17],[18],[19],[20],[21]]]=some c }).1
def T7:A3:=(⟨_,by intro a;conv=>lhs;cbv⟩:{ c:A1→A3 // ∀ a,gF Tryz.f4 [(0,a)] [[[0],[1],[2],[3],[4],[5],[6],[8],[7],[9]],[[0],[1],[2],[3],[4],[5],[6],[7],[9],[12],[8,0],[10,0],[11],[13]],[[0],[1],[3],[4],[2,4,3],[5],[6],[7]]]=some (c a) }).1 AjU
def AfM:A3:=(⟨_,by conv=>lhs;cbv⟩:{ c // gF Tryz.f16 []=some c }).1
def A6G:A3:=(⟨_,by conv=>lhs;cbv⟩:{ c // gF Tryz.f22 []=some c }).1
def Z5:A3:=(⟨_,by conv=>lhs;cbv⟩:{ c // gF Tryz.f28 []=some c }).1
def TX:A3:=(⟨_,by conv=>lhs;cbv⟩:{ c // gF Tryz.f32 [] [[[0],[1],[2],[3],[4],[5],[6],[7],[8],[9],[10],[11],[12],[13],[14],[15],[16],[17],[18],[19],[20],[21],[22],[23],[24],[25],[26],[27],[28],[29],[30],[31],[32],[33],[34],[35],[36]]]=some c }).1
def Ag1:A1:=(⟨_,by conv=>lhs;cbv⟩:{ c // gL Tryz.f42 0 []=some c }).1
def A8X:A3:=(⟨_,by intro a;conv=>lhs;cbv⟩:{ c:A1→A3 // ∀ a,gF Tryz.f42 [(0,a)]=some (c a) }).1 Ag1
def Ah3:A1:=(⟨_,by conv=>lhs;cbv⟩:{ c // gL Tryz.f49 8 [] [[[0],[1],[2],[3],[4],[5],[6],[7],[8],[9],[10],[11],[12],[13],[14],[15],[16],[17],[18],[19],[20],[21],[22],[23],[24],[25],[26],[27],[28],[29],[30],[31],[32],[33],[34],[35],[36]]]=some c }).1
def Ah1:A1:=(⟨_,by conv=>lhs;cbv⟩:{ c // gL Tryz.f49 6 [] [[[0],[1],[2],[3],[4],[5],[6],[7],[8],[9],[10],[11],[12],[13],[15],[16],[17],[18],[19],[20],[14,20,17,7],[21,7],[22],[23]]]=some c }).1
def AgU:A1:=(⟨_,by conv=>lhs;cbv⟩:{ c // gL Tryz.f49 4 []=some c }).1
def AgE:A1:=(⟨_,by conv=>lhs;cbv⟩:{ c // gL Tryz.f49 2 [] [[[0],[1],[2],[3],[4],[5],[6],[7],[8],[9],[10],[11],[12],[13],[14],[15],[16],[17],[18],[19],[20],[21],[22],[23],[24]],[[0],[1],[2],[3],[4],[5],[6],[7],[8],[9],[10],[11],[12],[13],[14],[15],[16],[17],[18],[19,5,2],[20],[21]]]=some c }).1
def Ag2:A1:=(⟨_,by intro a;conv=>lhs;cbv⟩:{ c:A1→A1 // ∀ a,gL Tryz.f49 0 [(2,a)]=some (c a) }).1 AgE
def Aev:A3:=(⟨_,by intro a b d e;conv=>lhs;cbv⟩:{ c:A1→A1→A1→A1→A3 // ∀ a b d e,gF Tryz.f49 [(0,a),(4,b),(6,d),(8,e)]=some (c a b d e) }).1 Ag2 AgU Ah1 Ah3
def TY:A3:=(⟨_,by conv=>lhs;cbv⟩:{ c // gF Tryz.f55 []=some c }).1
def Ah4:A1:=(⟨_,by conv=>lhs;cbv⟩:{ c // gL Tryz.f59 8 []=some c }).1
def Ah2:A1:=(⟨_,by intro a;conv=>lhs;cbv⟩:{ c:A1→A1 // ∀ a,gL Tryz.f59 6 [(8,a)]=some (c a) }).1 Ah4
def AgV:A1:=(⟨_,by conv=>lhs;cbv⟩:{ c // gL Tryz.f59 4 []=some c }).1
def AgG:A1:=(⟨_,by intro a;conv=>lhs;cbv⟩:{ c:A1→A1 // ∀ a,gL Tryz.f59 2 [(4,a)]=some (c a) }).1 AgV
def Ag5:A1:=(⟨_,by conv=>lhs;cbv⟩:{ c // gL Tryz.f59 0 [] [[[0],[1],[2],[3],[4],[5],[6],[7],[8],[9],[10]],[[0],[1],[2],[3],[4],[5],[6],[7],[8],[9],[10],[11],[12],[13],[14],[15],[16],[17],[18],[19],[20],[21],[22],[23],[24],[25],[26],[27],[28],[29],[30],[31],[32],[33],[34],[35]]]=some c }).1
def TZ:A3:=(⟨_,by intro a b d;conv=>lhs;cbv⟩:{ c:A1→A1→A1→A3 // ∀ a b d,gF Tryz.f59 [(0,a),(2,b),(6,d)]=some (c a b d) }).1 Ag5 AgG Ah2
def A95:A3:=(⟨_,by conv=>lhs;cbv⟩:{ c // gF Tryz.f63 []=some c }).1
def Agb:A1:=(⟨_,by conv=>lhs;cbv⟩:{ c // gL Tryz.f67 0 []=some c }).1
def A96:A3:=(⟨_,by intro a;conv=>lhs;cbv⟩:{ c:A1→A3 // ∀ a,gF Tryz.f67 [(0,a)]=some (c a) }).1 Agb
def Age:A1:=(⟨_,by conv=>lhs;cbv⟩:{ c // gL Tryz.f71 0 []=some c }).1
def A9a:A3:=(⟨_,by intro a;conv=>lhs;cbv⟩:{ c:A1→A3 // ∀ a,gF Tryz.f71 [(0,a)]=some (c a) }).1 Age
def A45:A3:=(⟨_,by conv=>lhs;cbv⟩:{ c // gF Tryz.f75 []=some c }).1
def A9f:A3:=(⟨_,by conv=>lhs;cbv⟩:{ c // gF Tryz.f79 []=some c }).1
def AgW:A1:=(⟨_,by conv=>lhs;cbv⟩:{ c // gL Tryz.f83 4 []=some c }).1
def AgL:A1:=(⟨_,by intro a;conv=>lhs;cbv⟩:{ c:A1→A1 // ∀ a,gL Tryz.f83 2 [(4,a)]=some (c a) }).1 AgW
def Agi:A1:=(⟨_,by conv=>lhs;cbv⟩:{ c // gL Tryz.f83 0 []=some c }).1
def A9j:A3:=(⟨_,by intro a b;conv=>lhs;cbv⟩:{ c:A1→A1→A3 // ∀ a b,gF Tryz.f83 [(0,a),(2,b)]=some (c a b) }).1 Agi AgL
def Agk:A1:=(⟨_,by conv=>lhs;cbv⟩:{ c // gL Tryz.f92 0 []=some c }).1
def AeC:A3:=(⟨_,by intro a;conv=>lhs;cbv⟩:{ c:A1→A3 // ∀ a,gF Tryz.f92 [(0,a)]=some (c a) }).1 Agk
def Agn:A1:=(⟨_,by conv=>lhs;cbv⟩:{ c // gL Tryz.f96 0 []=some c }).1
def A9p:A3:=(⟨_,by intro a;conv=>lhs;cbv⟩:{ c:A1→A3 // ∀ a,gF Tryz.f96 [(0,a)]=some (c a) }).1 Agn
def Ago:A1:=(⟨_,by conv=>lhs;cbv⟩:{ c // gL Tryz.f107 0 []=some c }).1
def AeE:A3:=(⟨_,by intro a;conv=>lhs;cbv⟩:{ c:A1→A3 // ∀ a,gF Tryz.f107 [(0,a)]=some (c a) }).1 Ago
def Agq:A1:=(⟨_,by conv=>lhs;cbv⟩:{ c // gL Tryz.f111 0 []=some c }).1
def A9t:A3:=(⟨_,by intro a;conv=>lhs;cbv⟩:{ c:A1→A3 // ∀ a,gF Tryz.f111 [(0,a)]=some (c a) }).1 Agq
def Z8:A3:=(⟨_,by conv=>lhs;cbv⟩:{ c // gF Tryz.f117 []=some c }).1
def A9u:A3:=(⟨_,by conv=>lhs;cbv⟩:{ c // gF Tryz.f121 []=some c }).1
def Vy:A1:=(⟨_,by conv=>lhs;cbv⟩:{ c // gL Tryz.f125 0 []=some c }).1
def A4d:A3:=(⟨_,by intro a;conv=>lhs;cbv⟩:{ c:A1→A3 // ∀ a,gF Tryz.f125 [(0,a)]=some (c a) }).1 Vy
def AgR:A1:=(⟨_,by conv=>lhs;cbv⟩:{ c // gL Tryz.f129 2 []=some c }).1
def Agx:A1:=(⟨_,by intro a;conv=>lhs;cbv⟩:{ c:A1→A1 // ∀ a,gL Tryz.f129 0 [(2,a)]=some (c a) }).1 AgR
def AeG:A3:=(⟨_,by intro a;conv=>lhs;cbv⟩:{ c:A1→A3 // ∀ a,gF Tryz.f129 [(0,a)]=some (c a) }).1 Agx
def AgZ:A1:=(⟨_,by conv=>lhs;cbv⟩:{ c // gL Tryz.f133 4 []=some c }).1
def AgS:A1:=(⟨_,by intro a;conv=>lhs;cbv⟩:{ c:A1→A1 // ∀ a,gL Tryz.f133 2 [(4,a)] [[[0],[1],[2],[3],[4],[5],[6],[7],[8],[9]],[[0],[1],[2],[3],[4],[5],[6],[7],[8],[9],[10],[11],[12],[13],[14],[15],[16],[17],[18],[19],[20],[21],[22],[23],[24],[25],[26],[27],[28],[29],[30],[31]]]=some (c a) }).1 AgZ
def Agz:A1:=(⟨_,by intro a;conv=>lhs;cbv⟩:{ c:A1→A1 // ∀ a,gL Tryz.f133 0 [(2,a)] [[[0],[1],[2],[3],[4],[5],[6],[7],[8],[9],[10],[11],[12],[13],[14],[15],[16],[17],[18],[19],[20],[21],[22],[23],[24],[25],[26],[27],[28],[29],[30]],[[0],[1],[2],[3],[4],[5],[6],[7],[8],[9]]]=some (c a) }).1 AgS
def AeJ:A3:=(⟨_,by intro a;conv=>lhs;cbv⟩:{ c:A1→A3 // ∀ a,gF Tryz.f133 [(0,a)]=some (c a) }).1 Agz
def A9z:A3:=(⟨_,by conv=>lhs;cbv⟩:{ c // gF Tryz.f137 []=some c }).1
def A1a:A3:=(⟨_,by conv=>lhs;cbv⟩:{ c // gF Tryz.f141 []=some c }).1
def AcL:A1:=(⟨_,by conv=>lhs;cbv⟩:{ c // gL Tryz.f145 0 [] [[[0],[1],[2],[3],[4],[5],[6],[7],[8],[9]],[[0],[1],[2],[3],[4],[5],[6],[7]],[[0],[1],[2],[3],[4],[5],[6],[7],[8],[9],[10],[11],[12],[13],[14]]]=some c }).1
def KB:A3:=(⟨_,by intro a;conv=>lhs;cbv⟩:{ c:A1→A3 // ∀ a,gF Tryz.f145 [(0,a)]=some (c a) }).1 AcL
def A1e:A3:=(⟨_,by conv=>lhs;cbv⟩:{ c // gF Tryz.f151 []=some c }).1
def A8L:A3:=(⟨_,by conv=>lhs;cbv⟩:{ c // gF Tryz.f156 []=some c }).1
def A4o:A1:=(⟨_,by conv=>lhs;cbv⟩:{ c // gL Tryz.f160 0 [] [[[0],[1],[2],[3],[4],[5],[6],[7],[8],[9],[10]],[[0],[1],[2],[3],[4],[5],[6],[7],[8],[9],[10],[11],[12]]]=some c }).1
def A1i:A3:=(⟨_,by intro a;conv=>lhs;cbv⟩:{ c:A1→A3 // ∀ a,gF Tryz.f160 [(0,a)]=some (c a) }).1 A4o
def AcQ:A1:=(⟨_,by conv=>lhs;cbv⟩:{ c // gL Tryz.f164 0 []=some c }).1
def A1k:A3:=(⟨_,by intro a;conv=>lhs;cbv⟩:{ c:A1→A3 // ∀ a,gF Tryz.f164 [(0,a)]=some (c a) }).1 AcQ
def Adj:A1:=(⟨_,by conv=>lhs;cbv⟩:{ c // gL Tryz.f169 2 []=some c }).1
def AcT:A1:=(⟨_,by intro a;conv=>lhs;cbv⟩:{ c:A1→A1 // ∀ a,gL Tryz.f169 0 [(2,a)] [[[0],[1],[2],[3],[4],[5],[6],[7],[8],[9],[10],[11],[12],[13],[14],[15],[16],[17],[18],[19],[20],[21],[22]]]=some (c a) }).1 Adj
def A1m:A3:=(⟨_,by intro a;conv=>lhs;cbv⟩:{ c:A1→A3 // ∀ a,gF Tryz.f169 [(0,a)]=some (c a) }).1 AcT
def AcW:A1:=(⟨_,by conv=>lhs;cbv⟩:{ c // gL Tryz.f173 0 []=some c }).1
def A1q:A3:=(⟨_,by intro a;conv=>lhs;cbv⟩:{ c:A1→A3 // ∀ a,gF Tryz.f173 [(0,a)]=some (c a) }).1 AcW
def A1t:A3:=(⟨_,by conv=>lhs;cbv⟩:{ c // gF Tryz.f177 []=some c }).1
def EU:A1:=(⟨_,by conv=>lhs;cbv⟩:{ c // gL Tryz.f181 0 []=some c }).1
def Cu:A3:=(⟨_,by intro a;conv=>lhs;cbv⟩:{ c:A1→A3 // ∀ a,gF Tryz.f181 [(0,a)] [[[0],[1],[2],[3],[4],[5],[6],[7],[8],[9],[10],[11],[12],[13],[14],[15],[16],[17],[18],[19],[20],[21],[22],[23],[24],[25],[26],[27],[28],[29],[30],[31],[32],[33],[34],[35],[36],[37],[38]],[[0],[1],[2],[3],[4],[6],[7],[9],[10],[11],[12],[5,10],[8,10],[13],[14],[15]],[[0],[1],[2],[3],[4],[6],[7],[9],[10],[11],[12],[5,10],[8,10],[13],[14],[15]]]=some (c a) }).1 EU
def A1w:A3:=(⟨_,by conv=>lhs;cbv⟩:{ c // gF Tryz.f185 []=some c }).1
def Ad1:A1:=(⟨_,by conv=>lhs;cbv⟩:{ c // gL Tryz.f189 0 []=some c }).1
def A1x:A3:=(⟨_,by intro a;conv=>lhs;cbv⟩:{ c:A1→A3 // ∀ a,gF Tryz.f189 [(0,a)]=some (c a) }).1 Ad1
def Rk:A3:=(⟨_,by conv=>lhs;cbv⟩:{ c // gF Tryz.f193 []=some c }).1
def A1D:A3:=(⟨_,by conv=>lhs;cbv⟩:{ c // gF Tryz.f200 []=some c }).1
def Rm:A3:=(⟨_,by conv=>lhs;cbv⟩:{ c // gF Tryz.f207 [] [[[0],[1],[2],[3],[4],[5],[6],[7],[8],[9],[10],[11],[12],[13],[14],[15],[16,14,11],[17]],[[0],[1],[2],[3],[4],[5],[6],[7],[8],[9],[10],[11],[12],[13],[14],[15],[16],[17],[18],[19],[20],[21],[22],[23],[24],[25],[26],[27],[28],[29],[30],[31],[32]]]=some c }).1
def A1I:A3:=(⟨_,by conv=>lhs;cbv⟩:{ c // gF Tryz.f211 []=some c }).1
def A1L:A3:=(⟨_,by conv=>lhs;cbv⟩:{ c // gF Tryz.f215 []=some c }).1
def A1O:A3:=(⟨_,by conv=>lhs;cbv⟩:{ c // gF Tryz.f219 []=some c }).1
def Ad9:A1:=(⟨_,by conv=>lhs;cbv⟩:{ c // gL Tryz.f223 0 []=some c }).1
def A1S:A3:=(⟨_,by intro a;conv=>lhs;cbv⟩:{ c:A1→A3 // ∀ a,gF Tryz.f223 [(0,a)]=some (c a) }).1 Ad9
def A1V:A3:=(⟨_,by conv=>lhs;cbv⟩:{ c // gF Tryz.f227 [] [[[0],[1],[2],[3],[4],[5],[6],[7],[8],[9],[10],[11],[12],[13],[14],[15],[16],[17],[18],[19],[20],[21],[22],[23]]]=some c }).1
def Rq:A3:=(⟨_,by conv=>lhs;cbv⟩:{ c // gF Tryz.f231 [] [[[0],[1],[2],[3],[4],[5],[6],[7,1],[8],[9],[10]],[[0],[1],[2],[3],[4],[5],[6],[7],[8],[9],[10],[14],[15],[16],[11,16,4],[12],[13],[17,13,4],[18],[19]],[[0],[1],[2],[5],[6],[7],[3,7],[4,7],[8],[9],[10]]]=some c }).1
def A1Z:A3:=(⟨_,by conv=>lhs;cbv⟩:{ c // gF Tryz.f235 []=some c }).1
def A22:A3:=(⟨_,by conv=>lhs;cbv⟩:{ c // gF Tryz.f239 []=some c }).1
def A25:A3:=(⟨_,by conv=>lhs;cbv⟩:{ c // gF Tryz.f243 []=some c }).1
def Ado:A1:=(⟨_,by conv=>lhs;cbv⟩:{ c // gL Tryz.f247 2 []=some c }).1
def Rs:A3:=(⟨_,by intro a;conv=>lhs;cbv⟩:{ c:A1→A3 // ∀ a,gF Tryz.f247 [(2,a)] [[[0],[1],[2],[3],[4],[5],[6],[7],[8],[9],[10],[11],[12]],[[0],[1],[2],[4],[5],[6],[3,5],[7],[8],[9],[10]],[[0],[1],[2],[3],[4],[5],[6],[7]]]=some (c a) }).1 Ado
def A2c:A3:=(⟨_,by conv=>lhs;cbv⟩:{ c // gF Tryz.f251 []=some c }).1
def A2f:A3:=(⟨_,by conv=>lhs;cbv⟩:{ c // gF Tryz.f255 []=some c }).1
def Adh:A1:=(⟨_,by conv=>lhs;cbv⟩:{ c // gL Tryz.f259 0 []=some c }).1
def A2j:A3:=(⟨_,by intro a;conv=>lhs;cbv⟩:{ c:A1→A3 // ∀ a,gF Tryz.f259 [(0,a)]=some (c a) }).1 Adh
end Go.AM
