/-
  Own work, part of the proof of CoheExec: the code of the functions that the law reaches, as the machine has it; read off the program as the text is compiled.
-/
import Derived.Test.YtpcpldaangchaaaGreatDoorCoA
set_option maxRecDepth 4000
set_option linter.unusedVariables false
set_option linter.unusedSimpArgs false
set_option linter.unusedSectionVars false
set_option linter.unnecessarySimpa false
set_option maxRecDepth 100000
set_option maxHeartbeats 4000000
namespace Go.AM
open Go Go.Proofs
def Ac6:A2:=(⟨_,by conv=>lhs;cbv⟩:{ c // gF Tryz.f10 []=some c }).1
def Agf:A1:=(⟨_,by conv=>lhs;cbv⟩:{ c // gL Tryz.f17 0 []=some c }).1
def A3U:A2:=(⟨_,by intro a;conv=>lhs;cbv⟩:{ c:A1→A2 // ∀ a,gF Tryz.f17 [(0,a)]=some (c a) }).1 Agf
def AcU:A1:=(⟨_,by conv=>lhs;cbv⟩:{ c // gL Tryz.f21 2 [] [[[0],[1],[2],[3],[4],[5],[6],[7],[8],[9],[10],[11],[12],[13],[14],[15],[16],[18],[19],[20],[17,19,18,13,10,8,5],[21,13,10,8,5],[22],[23],[24]]]=some c }).1
def Acj:A1:=(⟨_,by intro a;conv=>lhs;cbv⟩:{ c:A1→A1 // ∀ a,gL Tryz.f21 0 [(2,a)]=some (c a) }).1 AcU
def A1p:A2:=(⟨_,by intro a;conv=>lhs;cbv⟩:{ c:A1→A2 // ∀ a,gF Tryz.f21 [(0,a)]=some (c a) }).1 Acj
def AaS:A2:=(⟨_,by conv=>lhs;cbv⟩:{ c // gF Tryz.f34 []=some c }).1
def AcW:A1:=(⟨_,by conv=>lhs;cbv⟩:{ c // gL Tryz.f42 2 []=some c }).1
def Acm:A1:=(⟨_,by conv=>lhs;cbv⟩:{ c // gL Tryz.f42 0 []=some c }).1
def A5O:A2:=(⟨_,by intro a b;conv=>lhs;cbv⟩:{ c:A1→A1→A2 // ∀ a b,gF Tryz.f42 [(0,a),(2,b)]=some (c a b) }).1 Acm AcW
def Aco:A1:=(⟨_,by conv=>lhs;cbv⟩:{ c // gL Tryz.f48 0 [] [[[0],[1],[2],[3],[4],[5],[6],[7],[8],[9],[10],[11],[12],[13],[14],[16],[17],[18],[15,18,11,9,7,5,3,1],[19,11,9,7,5,3,1],[20],[21]]]=some c }).1
def A5Q:A2:=(⟨_,by intro a;conv=>lhs;cbv⟩:{ c:A1→A2 // ∀ a,gF Tryz.f48 [(0,a)]=some (c a) }).1 Aco
def A5S:A2:=(⟨_,by conv=>lhs;cbv⟩:{ c // gF Tryz.f53 []=some c }).1
def A1r:A2:=(⟨_,by conv=>lhs;cbv⟩:{ c // gF Tryz.f57 []=some c }).1
def Adc:A1:=(⟨_,by conv=>lhs;cbv⟩:{ c // gL Tryz.f61 4 []=some c }).1
def Ad0:A1:=(⟨_,by conv=>lhs;cbv⟩:{ c // gL Tryz.f61 2 []=some c }).1
def Acr:A1:=(⟨_,by intro a;conv=>lhs;cbv⟩:{ c:A1→A1 // ∀ a,gL Tryz.f61 0 [(2,a)]=some (c a) }).1 Ad0
def WR:A2:=(⟨_,by intro a b;conv=>lhs;cbv⟩:{ c:A1→A1→A2 // ∀ a b,gF Tryz.f61 [(0,a),(4,b)]=some (c a b) }).1 Acr Adc
def Acu:A1:=(⟨_,by conv=>lhs;cbv⟩:{ c // gL Tryz.f67 0 [] [[[0],[1],[2],[3],[4],[5],[6],[7],[8],[9],[10],[11],[12],[13],[14],[15],[16],[17],[18],[19],[20],[21],[22]],[[0],[1],[2],[3],[4],[5],[6],[7],[8],[9]]]=some c }).1
def A5Y:A2:=(⟨_,by intro a;conv=>lhs;cbv⟩:{ c:A1→A2 // ∀ a,gF Tryz.f67 [(0,a)]=some (c a) }).1 Acu
def A6y:A1:=(⟨_,by conv=>lhs;cbv⟩:{ c // gL Tryz.f83 0 []=some c }).1
def A61:A2:=(⟨_,by intro a;conv=>lhs;cbv⟩:{ c:A1→A2 // ∀ a,gF Tryz.f83 [(0,a)]=some (c a) }).1 A6y
def Add:A1:=(⟨_,by conv=>lhs;cbv⟩:{ c // gL Tryz.f87 4 []=some c }).1
def Ad1:A1:=(⟨_,by conv=>lhs;cbv⟩:{ c // gL Tryz.f87 2 []=some c }).1
def Acz:A1:=(⟨_,by intro a b;conv=>lhs;cbv⟩:{ c:A1→A1→A1 // ∀ a b,gL Tryz.f87 0 [(2,a),(4,b)]=some (c a b) }).1 Ad1 Add
def AaZ:A2:=(⟨_,by intro a;conv=>lhs;cbv⟩:{ c:A1→A2 // ∀ a,gF Tryz.f87 [(0,a)]=some (c a) }).1 Acz
def Ab1:A2:=(⟨_,by conv=>lhs;cbv⟩:{ c // gF Tryz.f91 []=some c }).1
def Nu:A2:=(⟨_,by conv=>lhs;cbv⟩:{ c // gF Tryz.f98 [] [[[0],[1],[2],[3],[4],[5],[6],[7],[8],[9],[10],[11],[12],[13]],[[0],[1],[2],[3],[4],[5],[6],[7],[8],[9],[10],[11],[12],[13],[14]]]=some c }).1
def PQ:A2:=(⟨_,by conv=>lhs;cbv⟩:{ c // gF Tryz.f104 []=some c }).1
def Ad4:A1:=(⟨_,by conv=>lhs;cbv⟩:{ c // gL Tryz.f112 2 []=some c }).1
def AcG:A1:=(⟨_,by conv=>lhs;cbv⟩:{ c // gL Tryz.f112 0 []=some c }).1
def A1x:A2:=(⟨_,by intro a b;conv=>lhs;cbv⟩:{ c:A1→A1→A2 // ∀ a b,gF Tryz.f112 [(0,a),(2,b)]=some (c a b) }).1 AcG Ad4
def Ad5:A1:=(⟨_,by conv=>lhs;cbv⟩:{ c // gL Tryz.f116 2 []=some c }).1
def AcI:A1:=(⟨_,by intro a;conv=>lhs;cbv⟩:{ c:A1→A1 // ∀ a,gL Tryz.f116 0 [(2,a)] [[[0],[1],[2],[3],[4],[5],[6],[7],[8],[9],[10],[11],[12],[13],[14],[15],[16],[17],[18],[19],[20],[21],[22]]]=some (c a) }).1 Ad5
def A66:A2:=(⟨_,by intro a;conv=>lhs;cbv⟩:{ c:A1→A2 // ∀ a,gF Tryz.f116 [(0,a)]=some (c a) }).1 AcI
def Adg:A1:=(⟨_,by conv=>lhs;cbv⟩:{ c // gL Tryz.f121 4 []=some c }).1
def Gp:A1:=(⟨_,by intro a;conv=>lhs;cbv⟩:{ c:A1→A1 // ∀ a,gL Tryz.f121 2 [(4,a)]=some (c a) }).1 Adg
def AcL:A1:=(⟨_,by intro a;conv=>lhs;cbv⟩:{ c:A1→A1 // ∀ a,gL Tryz.f121 0 [(2,a)]=some (c a) }).1 Gp
def A1A:A2:=(⟨_,by intro a;conv=>lhs;cbv⟩:{ c:A1→A2 // ∀ a,gF Tryz.f121 [(0,a)]=some (c a) }).1 AcL
def WW:A2:=(⟨_,by conv=>lhs;cbv⟩:{ c // gF Tryz.f125 []=some c }).1
def A1D:A2:=(⟨_,by conv=>lhs;cbv⟩:{ c // gF Tryz.f129 []=some c }).1
def RX:A2:=(⟨_,by conv=>lhs;cbv⟩:{ c // gF Tryz.f133 [] [[[0],[1],[2],[3],[4],[5],[6],[7],[8],[9],[10],[11],[12],[13],[14],[15],[16],[17],[18],[19],[20],[21],[22],[23],[24],[25],[26],[27],[28],[29],[30],[31],[32],[33],[34],[35],[36]]]=some c }).1
def A6g:A2:=(⟨_,by conv=>lhs;cbv⟩:{ c // gF Tryz.f141 []=some c }).1
def AcQ:A1:=(⟨_,by conv=>lhs;cbv⟩:{ c // gL Tryz.f150 0 []=some c }).1
def Ab7:A2:=(⟨_,by intro a;conv=>lhs;cbv⟩:{ c:A1→A2 // ∀ a,gF Tryz.f150 [(0,a)]=some (c a) }).1 AcQ
def A6l:A2:=(⟨_,by conv=>lhs;cbv⟩:{ c // gF Tryz.f155 []=some c }).1
def A6n:A2:=(⟨_,by conv=>lhs;cbv⟩:{ c // gF Tryz.f160 []=some c }).1
def J2:A1:=(⟨_,by conv=>lhs;cbv⟩:{ c // gL Tryz.f164 0 []=some c }).1
def Dj:A2:=(⟨_,by intro a;conv=>lhs;cbv⟩:{ c:A1→A2 // ∀ a,gF Tryz.f164 [(0,a)] [[[0],[1],[2],[3],[4],[5],[6],[7],[8],[9],[10],[11],[12],[13],[14],[15],[16],[17],[18],[19],[20],[21],[22],[23],[24],[25],[26],[27],[28],[29],[30],[31],[32],[33],[34],[35],[36],[37],[38]],[[0],[1],[2],[3],[4],[6],[7],[9],[10],[11],[12],[5,10],[8,10],[13],[14],[15]],[[0],[1],[2],[3],[4],[6],[7],[9],[10],[11],[12],[5,10],[8,10],[13],[14],[15]]]=some (c a) }).1 J2
def PG:A2:=(⟨_,by conv=>lhs;cbv⟩:{ c // gF Tryz.f169 [] [[[0],[1],[2],[3],[4],[5],[6],[7],[8],[9],[10],[11],[12],[13],[14],[15],[16,14,11],[17]],[[0],[1],[2],[3],[4],[5],[6],[7],[8],[9],[10],[11],[12],[13],[14],[15],[16],[17],[18],[19],[20],[21],[22],[23],[24],[25],[26],[27],[28],[29],[30],[31],[32]]]=some c }).1
def YW:A2:=(⟨_,by conv=>lhs;cbv⟩:{ c // gF Tryz.f173 []=some c }).1
def A9q:A1:=(⟨_,by conv=>lhs;cbv⟩:{ c // gL Tryz.f177 0 []=some c }).1
def YZ:A2:=(⟨_,by intro a;conv=>lhs;cbv⟩:{ c:A1→A2 // ∀ a,gF Tryz.f177 [(0,a)]=some (c a) }).1 A9q
def A9r:A1:=(⟨_,by conv=>lhs;cbv⟩:{ c // gL Tryz.f181 0 []=some c }).1
def Z5:A2:=(⟨_,by intro a;conv=>lhs;cbv⟩:{ c:A1→A2 // ∀ a,gF Tryz.f181 [(0,a)]=some (c a) }).1 A9r
def PI:A2:=(⟨_,by conv=>lhs;cbv⟩:{ c // gF Tryz.f185 []=some c }).1
def A9u:A1:=(⟨_,by conv=>lhs;cbv⟩:{ c // gL Tryz.f189 0 [] [[[0],[1],[2],[3],[4],[5],[6],[7],[8],[9],[10],[11]],[[0],[1],[2],[3],[4],[5],[6],[7],[8],[9],[10],[11,1],[12],[13]]]=some c }).1
def Zd:A2:=(⟨_,by intro a;conv=>lhs;cbv⟩:{ c:A1→A2 // ∀ a,gF Tryz.f189 [(0,a)]=some (c a) }).1 A9u
def Zf:A2:=(⟨_,by conv=>lhs;cbv⟩:{ c // gF Tryz.f193 []=some c }).1
def A5K:A2:=(⟨_,by conv=>lhs;cbv⟩:{ c // gF Tryz.f198 []=some c }).1
def Zj:A2:=(⟨_,by conv=>lhs;cbv⟩:{ c // gF Tryz.f207 []=some c }).1
def A9x:A1:=(⟨_,by conv=>lhs;cbv⟩:{ c // gL Tryz.f211 0 []=some c }).1
def PK:A2:=(⟨_,by intro a;conv=>lhs;cbv⟩:{ c:A1→A2 // ∀ a,gF Tryz.f211 [(0,a)]=some (c a) }).1 A9x
def A9N:A1:=(⟨_,by conv=>lhs;cbv⟩:{ c // gL Tryz.f215 2 []=some c }).1
def Zp:A2:=(⟨_,by intro a;conv=>lhs;cbv⟩:{ c:A1→A2 // ∀ a,gF Tryz.f215 [(2,a)]=some (c a) }).1 A9N
def Zs:A2:=(⟨_,by conv=>lhs;cbv⟩:{ c // gF Tryz.f219 []=some c }).1
def A1O:A1:=(⟨_,by conv=>lhs;cbv⟩:{ c // gL Tryz.f223 0 [] [[[0],[1],[2],[4],[5],[6],[7],[8],[3,8],[9],[10],[11],[12]],[[0],[1],[2],[4],[5],[6],[7],[8],[9],[3,9],[10],[11],[12],[13]],[[0],[1],[2],[4],[5],[6],[7],[8],[9],[11],[12],[13],[14],[3,14,9],[10,14],[15],[16],[17],[18]]]=some c }).1
def Zv:A2:=(⟨_,by intro a;conv=>lhs;cbv⟩:{ c:A1→A2 // ∀ a,gF Tryz.f223 [(0,a)]=some (c a) }).1 A1O
def Zy:A2:=(⟨_,by conv=>lhs;cbv⟩:{ c // gF Tryz.f227 []=some c }).1
def ZB:A2:=(⟨_,by conv=>lhs;cbv⟩:{ c // gF Tryz.f231 []=some c }).1
def A9F:A1:=(⟨_,by conv=>lhs;cbv⟩:{ c // gL Tryz.f244 0 []=some c }).1
def ZE:A2:=(⟨_,by intro a;conv=>lhs;cbv⟩:{ c:A1→A2 // ∀ a,gF Tryz.f244 [(0,a)]=some (c a) }).1 A9F
def PN:A2:=(⟨_,by conv=>lhs;cbv⟩:{ c // gF Tryz.f248 [] [[[0],[1],[2],[3],[4],[5],[6],[7],[8],[9],[10],[11],[12],[13],[14],[15],[16],[17],[18],[19],[20],[21,18,15],[22]]]=some c }).1
def ZK:A2:=(⟨_,by conv=>lhs;cbv⟩:{ c // gF Tryz.f252 []=some c }).1
def ZN:A2:=(⟨_,by conv=>lhs;cbv⟩:{ c // gF Tryz.f256 []=some c }).1
def A9I:A1:=(⟨_,by conv=>lhs;cbv⟩:{ c // gL Tryz.f273 0 []=some c }).1
def ZQ:A2:=(⟨_,by intro a;conv=>lhs;cbv⟩:{ c:A1→A2 // ∀ a,gF Tryz.f273 [(0,a)]=some (c a) }).1 A9I
def A9J:A1:=(⟨_,by conv=>lhs;cbv⟩:{ c // gL Tryz.f277 0 []=some c }).1
def ZU:A2:=(⟨_,by intro a;conv=>lhs;cbv⟩:{ c:A1→A2 // ∀ a,gF Tryz.f277 [(0,a)]=some (c a) }).1 A9J
end Go.AM
