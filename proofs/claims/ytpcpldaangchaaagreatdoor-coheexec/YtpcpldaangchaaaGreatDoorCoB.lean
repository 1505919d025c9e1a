/-
  Own work, part of the proof of CoheExec: the code of the functions that the law reaches, as the machine has it; read off the program as the text is compiled.
-/
import Derived.Test.YtpcpldaangchaaaGreatDoorCoA
set_option maxRecDepth 4000
set_option linter.unusedVariables false
set_option linter.unusedSimpArgs false
set_option linter.unusedSectionVars false
set_option linter.unnecessarySimpa false
set_option maxRecDepth 100000
set_option maxHeartbeats 4000000
namespace Go.AM
open Go Go.Proofs
def Ra:A2:=(⟨_,by conv=>lhs;cbv⟩:{ c // gF Tryz.f4 [] [[[0],[1],[2],[3],[4],[5],[6],[8],[9],[7,9,8],[10],[11],[12]],[[0],[1],[2],[3],[4],[5],[6],[7],[8],[9],[10],[11],[12],[13],[14]],[[0],[1],[2],[3],[4],[5],[6],[7],[8],[9],[10]],[[0],[1],[2],[3],[4],[5],[6],[7],[8],[9],[10],[11]],[[0],[1],[2],[3],[4],[5],[6],[7],[8],[9],[10],[11],[12],[13],[14],[15]],[[0],[1],[3],[4],[2,4,3],[5],[6],[7]]]=some c }).1
def ZX:A2:=(⟨_,by conv=>lhs;cbv⟩:{ c // gF Tryz.f15 []=some c }).1
def Agh:A1:=(⟨_,by conv=>lhs;cbv⟩:{ c // gL Tryz.f19 2 []=some c }).1
def A6z:A1:=(⟨_,by intro a;conv=>lhs;cbv⟩:{ c:A1→A1 // ∀ a,gL Tryz.f19 0 [(2,a)]=some (c a) }).1 Agh
def A6b:A2:=(⟨_,by intro a;conv=>lhs;cbv⟩:{ c:A1→A2 // ∀ a,gF Tryz.f19 [(0,a)]=some (c a) }).1 A6z
def Adi:A1:=(⟨_,by conv=>lhs;cbv⟩:{ c // gL Tryz.f26 8 []=some c }).1
def Adh:A1:=(⟨_,by intro a;conv=>lhs;cbv⟩:{ c:A1→A1 // ∀ a,gL Tryz.f26 6 [(8,a)]=some (c a) }).1 Adi
def Ada:A1:=(⟨_,by conv=>lhs;cbv⟩:{ c // gL Tryz.f26 4 []=some c }).1
def AcV:A1:=(⟨_,by intro a;conv=>lhs;cbv⟩:{ c:A1→A1 // ∀ a,gL Tryz.f26 2 [(4,a)]=some (c a) }).1 Ada
def Ack:A1:=(⟨_,by conv=>lhs;cbv⟩:{ c // gL Tryz.f26 0 [] [[[0],[1],[2],[3],[4],[5],[6],[7],[8],[9],[10]],[[0],[1],[2],[3],[4],[5],[6],[7],[8],[9],[10],[11],[12],[13],[14],[15],[16],[17],[18],[19],[20],[21],[22],[23],[24],[25],[26],[27],[28],[29],[30],[31],[32],[33],[34],[35]]]=some c }).1
def RT:A2:=(⟨_,by intro a b d;conv=>lhs;cbv⟩:{ c:A1→A1→A1→A2 // ∀ a b d,gF Tryz.f26 [(0,a),(2,b),(6,d)]=some (c a b d) }).1 Ack AcV Adh
def A5M:A2:=(⟨_,by conv=>lhs;cbv⟩:{ c // gF Tryz.f40 []=some c }).1
def A5P:A2:=(⟨_,by conv=>lhs;cbv⟩:{ c // gF Tryz.f44 []=some c }).1
def AaV:A2:=(⟨_,by conv=>lhs;cbv⟩:{ c // gF Tryz.f50 []=some c }).1
def A5U:A2:=(⟨_,by conv=>lhs;cbv⟩:{ c // gF Tryz.f55 []=some c }).1
def WQ:A2:=(⟨_,by conv=>lhs;cbv⟩:{ c // gF Tryz.f59 []=some c }).1
def WT:A2:=(⟨_,by conv=>lhs;cbv⟩:{ c // gF Tryz.f63 [] [[[0],[1],[2],[3],[4],[5],[6],[7],[8],[9],[10]],[[0],[1],[2],[3],[4],[5],[6],[7],[8],[9]],[[0],[1],[2],[3],[4],[5],[6],[7],[8],[9]]]=some c }).1
def A6B:A1:=(⟨_,by conv=>lhs;cbv⟩:{ c // gL Tryz.f69 2 [] [[[0],[1],[2],[3],[4],[5],[6],[7],[8],[9]],[[0],[1],[2],[3],[4],[5],[6],[7],[8],[9],[10],[11],[12],[13],[14],[15],[16],[17],[18],[19],[20],[21],[22],[23],[24],[25],[26],[27]]]=some c }).1
def Acw:A1:=(⟨_,by intro a;conv=>lhs;cbv⟩:{ c:A1→A1 // ∀ a,gL Tryz.f69 0 [(2,a)] [[[0],[1],[2],[3],[4],[5],[6],[7],[8],[9],[10],[11],[12],[13],[14],[15],[16],[17],[18],[19],[20],[21],[22]],[[0],[1],[2],[3],[4],[5],[6],[7],[8],[9]]]=some (c a) }).1 A6B
def A1t:A2:=(⟨_,by intro a;conv=>lhs;cbv⟩:{ c:A1→A2 // ∀ a,gF Tryz.f69 [(0,a)]=some (c a) }).1 Acw
def Acx:A1:=(⟨_,by conv=>lhs;cbv⟩:{ c // gL Tryz.f85 0 []=some c }).1
def AaX:A2:=(⟨_,by intro a;conv=>lhs;cbv⟩:{ c:A1→A2 // ∀ a,gF Tryz.f85 [(0,a)]=some (c a) }).1 Acx
def AcB:A1:=(⟨_,by conv=>lhs;cbv⟩:{ c // gL Tryz.f89 0 []=some c }).1
def A63:A2:=(⟨_,by intro a;conv=>lhs;cbv⟩:{ c:A1→A2 // ∀ a,gF Tryz.f89 [(0,a)]=some (c a) }).1 AcB
def AcD:A1:=(⟨_,by conv=>lhs;cbv⟩:{ c // gL Tryz.f93 0 []=some c }).1
def Ab3:A2:=(⟨_,by intro a;conv=>lhs;cbv⟩:{ c:A1→A2 // ∀ a,gF Tryz.f93 [(0,a)]=some (c a) }).1 AcD
def A1v:A2:=(⟨_,by conv=>lhs;cbv⟩:{ c // gF Tryz.f101 []=some c }).1
def RW:A2:=(⟨_,by conv=>lhs;cbv⟩:{ c // gF Tryz.f106 []=some c }).1
def A65:A2:=(⟨_,by conv=>lhs;cbv⟩:{ c // gF Tryz.f114 []=some c }).1
def AcJ:A1:=(⟨_,by conv=>lhs;cbv⟩:{ c // gL Tryz.f118 0 []=some c }).1
def A68:A2:=(⟨_,by intro a;conv=>lhs;cbv⟩:{ c:A1→A2 // ∀ a,gF Tryz.f118 [(0,a)]=some (c a) }).1 AcJ
def WV:A2:=(⟨_,by conv=>lhs;cbv⟩:{ c // gF Tryz.f123 []=some c }).1
def WX:A2:=(⟨_,by conv=>lhs;cbv⟩:{ c // gF Tryz.f127 []=some c }).1
def AcP:A1:=(⟨_,by conv=>lhs;cbv⟩:{ c // gL Tryz.f131 0 []=some c }).1
def A6c:A2:=(⟨_,by intro a;conv=>lhs;cbv⟩:{ c:A1→A2 // ∀ a,gF Tryz.f131 [(0,a)]=some (c a) }).1 AcP
def A6e:A2:=(⟨_,by conv=>lhs;cbv⟩:{ c // gF Tryz.f135 []=some c }).1
def A0c:A1:=(⟨_,by conv=>lhs;cbv⟩:{ c // gL Tryz.f144 0 []=some c }).1
def A6h:A2:=(⟨_,by intro a;conv=>lhs;cbv⟩:{ c:A1→A2 // ∀ a,gF Tryz.f144 [(0,a)]=some (c a) }).1 A0c
def A0d:A1:=(⟨_,by conv=>lhs;cbv⟩:{ c // gL Tryz.f153 0 [] [[[0],[1],[2],[3],[4],[5],[6],[7],[8],[9],[10]],[[0],[1],[2],[3],[4],[5],[6],[7],[8],[9],[10]],[[0],[1],[2],[3],[4],[5],[6],[7],[8],[9],[10],[11],[12]],[[0],[1],[2],[3],[4],[5],[6],[7],[8],[9],[10],[11],[12],[13],[14],[15],[16],[17],[18],[19],[20],[21],[22],[23],[24],[25],[26],[27]]]=some c }).1
def A6j:A2:=(⟨_,by intro a;conv=>lhs;cbv⟩:{ c:A1→A2 // ∀ a,gF Tryz.f153 [(0,a)]=some (c a) }).1 A0d
def A6m:A2:=(⟨_,by conv=>lhs;cbv⟩:{ c // gF Tryz.f157 []=some c }).1
def Cg:A1:=(⟨_,by conv=>lhs;cbv⟩:{ c // gL Tryz.f162 3 [] [[[0],[1],[2],[3],[4],[5],[6],[7],[8],[9],[10],[11],[12]],[[0],[1],[2],[3],[4],[5],[6],[9],[10],[11],[12],[13],[7,13],[8],[14],[15]],[[0],[1],[2],[3],[4],[5],[6],[7],[8],[9],[10],[11],[12]]]=some c }).1
def P6:A1:=(⟨_,by conv=>lhs;cbv⟩:{ c // gL Tryz.f162 0 []=some c }).1
def PE:A2:=(⟨_,by intro a b;conv=>lhs;cbv⟩:{ c:A1→A1→A2 // ∀ a b,gF Tryz.f162 [(0,a),(3,b)] [[[0],[1],[2],[3],[4],[5],[6],[7],[8],[9],[10],[11]],[[0],[1],[2],[3],[4],[5],[6],[7],[8]],[[0],[1],[2],[3],[4],[5],[6],[7],[8],[9],[10],[11],[12],[13,6],[14],[15]],[[0],[1],[2],[3],[4],[5],[6],[7],[8],[9],[10]],[[0],[1],[2],[3],[4],[5],[6],[7],[8],[9],[10],[11],[12],[13],[14],[15,8,4],[16],[17],[18]]]=some (c a b) }).1 P6 Cg
def A9n:A1:=(⟨_,by conv=>lhs;cbv⟩:{ c // gL Tryz.f166 0 []=some c }).1
def YT:A2:=(⟨_,by intro a;conv=>lhs;cbv⟩:{ c:A1→A2 // ∀ a,gF Tryz.f166 [(0,a)]=some (c a) }).1 A9n
def YV:A2:=(⟨_,by conv=>lhs;cbv⟩:{ c // gF Tryz.f171 []=some c }).1
def YX:A2:=(⟨_,by conv=>lhs;cbv⟩:{ c // gF Tryz.f175 []=some c }).1
def Z0:A2:=(⟨_,by conv=>lhs;cbv⟩:{ c // gF Tryz.f179 []=some c }).1
def Z7:A2:=(⟨_,by conv=>lhs;cbv⟩:{ c // gF Tryz.f183 []=some c }).1
def Za:A2:=(⟨_,by conv=>lhs;cbv⟩:{ c // gF Tryz.f187 []=some c }).1
def A5I:A2:=(⟨_,by conv=>lhs;cbv⟩:{ c // gF Tryz.f191 []=some c }).1
def Zg:A2:=(⟨_,by conv=>lhs;cbv⟩:{ c // gF Tryz.f195 []=some c }).1
def A5L:A2:=(⟨_,by conv=>lhs;cbv⟩:{ c // gF Tryz.f204 []=some c }).1
def Zk:A2:=(⟨_,by conv=>lhs;cbv⟩:{ c // gF Tryz.f209 []=some c }).1
def A9y:A1:=(⟨_,by conv=>lhs;cbv⟩:{ c // gL Tryz.f213 0 []=some c }).1
def Zn:A2:=(⟨_,by intro a;conv=>lhs;cbv⟩:{ c:A1→A2 // ∀ a,gF Tryz.f213 [(0,a)]=some (c a) }).1 A9y
def PL:A2:=(⟨_,by conv=>lhs;cbv⟩:{ c // gF Tryz.f217 []=some c }).1
def Tj:A2:=(⟨_,by conv=>lhs;cbv⟩:{ c // gF Tryz.f221 []=some c }).1
def A9C:A1:=(⟨_,by conv=>lhs;cbv⟩:{ c // gL Tryz.f225 0 []=some c }).1
def Zw:A2:=(⟨_,by intro a;conv=>lhs;cbv⟩:{ c:A1→A2 // ∀ a,gF Tryz.f225 [(0,a)]=some (c a) }).1 A9C
def A9D:A1:=(⟨_,by conv=>lhs;cbv⟩:{ c // gL Tryz.f229 0 []=some c }).1
def ZA:A2:=(⟨_,by intro a;conv=>lhs;cbv⟩:{ c:A1→A2 // ∀ a,gF Tryz.f229 [(0,a)]=some (c a) }).1 A9D
def A5N:A2:=(⟨_,by conv=>lhs;cbv⟩:{ c // gF Tryz.f234 []=some c }).1
def ZF:A2:=(⟨_,by conv=>lhs;cbv⟩:{ c // gF Tryz.f246 []=some c }).1
def ZI:A2:=(⟨_,by conv=>lhs;cbv⟩:{ c // gF Tryz.f250 []=some c }).1
def ZL:A2:=(⟨_,by conv=>lhs;cbv⟩:{ c // gF Tryz.f254 []=some c }).1
def MG:A2:=(⟨_,by conv=>lhs;cbv⟩:{ c // gF Tryz.f258 []=some c }).1
def ZS:A2:=(⟨_,by conv=>lhs;cbv⟩:{ c // gF Tryz.f275 []=some c }).1
def A1P:A1:=(⟨_,by conv=>lhs;cbv⟩:{ c // gL Tryz.f279 0 []=some c }).1
def ZW:A2:=(⟨_,by intro a;conv=>lhs;cbv⟩:{ c:A1→A2 // ∀ a,gF Tryz.f279 [(0,a)]=some (c a) }).1 A1P
end Go.AM
