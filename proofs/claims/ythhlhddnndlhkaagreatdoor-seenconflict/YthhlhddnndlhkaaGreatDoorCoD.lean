/-
  Own work, part of the proof of the laws SeenLasts, SeenCalm, SeenConflict: the code of the functions that the law reaches, as the machine has it; read off the program as the text is compiled.
-/
import Derived.Test.YthhlhddnndlhkaaGreatDoorCoA
set_option maxRecDepth 4000
set_option linter.unusedVariables false
set_option linter.unusedSimpArgs false
set_option linter.unusedSectionVars false
set_option linter.unnecessarySimpa false
set_option maxRecDepth 100000
set_option maxHeartbeats 4000000
namespace Go.AM
open Go Go.Proofs
def AjW:A1:=(⟨_,by conv=>lhs;cbv⟩:{ c // gL Tryz.f6 0 []=some c }).1
def A6F:A3:=(⟨_,by intro a;conv=>lhs;cbv⟩:{ c:A1→A3 // ∀ a,gF Tryz.f6 [(0,a)]=some (c a) }).1 AjW
def AfO:A3:=(⟨_,by conv=>lhs;cbv⟩:{ c // gF Tryz.f19 []=some c }).1
def A8I:A3:=(⟨_,by conv=>lhs;cbv⟩:{ c // gF Tryz.f26 []=some c }).1
def AfZ:A1:=(⟨_,by conv=>lhs;cbv⟩:{ c // gL Tryz.f30 0 []=some c }).1
def TW:A3:=(⟨_,by intro a;conv=>lhs;cbv⟩:{ c:A1→A3 // ∀ a,gF Tryz.f30 [(0,a)]=some (c a) }).1 AfZ
def Ag0:A1:=(⟨_,by conv=>lhs;cbv⟩:{ c // gL Tryz.f34 0 []=some c }).1
def A8T:A3:=(⟨_,by intro a;conv=>lhs;cbv⟩:{ c:A1→A3 // ∀ a,gF Tryz.f34 [(0,a)]=some (c a) }).1 Ag0
def A8Z:A3:=(⟨_,by conv=>lhs;cbv⟩:{ c // gF Tryz.f44 []=some c }).1
def A91:A3:=(⟨_,by conv=>lhs;cbv⟩:{ c // gF Tryz.f53 []=some c }).1
def AgF:A1:=(⟨_,by conv=>lhs;cbv⟩:{ c // gL Tryz.f57 2 []=some c }).1
def Ag4:A1:=(⟨_,by conv=>lhs;cbv⟩:{ c // gL Tryz.f57 0 []=some c }).1
def A93:A3:=(⟨_,by intro a b;conv=>lhs;cbv⟩:{ c:A1→A1→A3 // ∀ a b,gF Tryz.f57 [(0,a),(2,b)]=some (c a b) }).1 Ag4 AgF
def AgH:A1:=(⟨_,by conv=>lhs;cbv⟩:{ c // gL Tryz.f61 2 [] [[[0],[1],[2],[3],[4],[5],[6],[7],[8],[9],[10],[11],[12],[13],[14],[15],[16],[17],[18],[19],[20],[21],[22],[23],[24],[25],[26],[27]]]=some c }).1
def Ag7:A1:=(⟨_,by intro a;conv=>lhs;cbv⟩:{ c:A1→A1 // ∀ a,gL Tryz.f61 0 [(2,a)] [[[0],[1],[2],[3],[4],[5],[6],[7],[8],[9],[10],[11],[12],[13],[14],[15],[16],[17],[18],[19],[20],[21],[22],[23],[24],[25],[26],[27],[28],[29],[30],[31],[32],[33],[34],[35],[36],[37],[38]],[[0],[1],[2],[3],[4],[5],[6],[7],[8],[9],[10],[11],[12],[13],[14],[15],[16],[17],[18,9,7,3,1],[19],[20],[21]]]=some (c a) }).1 AgH
def Aex:A3:=(⟨_,by intro a;conv=>lhs;cbv⟩:{ c:A1→A3 // ∀ a,gF Tryz.f61 [(0,a)]=some (c a) }).1 Ag7
def AgI:A1:=(⟨_,by conv=>lhs;cbv⟩:{ c // gL Tryz.f65 2 [] [[[0],[1],[2],[3],[4],[5],[6],[7],[8],[9]],[[0],[1],[2],[3],[4],[5],[6],[7],[8],[9],[10],[11],[12],[13],[14],[15],[16,4],[17],[18]]]=some c }).1
def Ag9:A1:=(⟨_,by intro a;conv=>lhs;cbv⟩:{ c:A1→A1 // ∀ a,gL Tryz.f65 0 [(2,a)]=some (c a) }).1 AgI
def Aez:A3:=(⟨_,by intro a;conv=>lhs;cbv⟩:{ c:A1→A3 // ∀ a,gF Tryz.f65 [(0,a)]=some (c a) }).1 Ag9
def Agd:A1:=(⟨_,by conv=>lhs;cbv⟩:{ c // gL Tryz.f69 0 []=some c }).1
def A98:A3:=(⟨_,by intro a;conv=>lhs;cbv⟩:{ c:A1→A3 // ∀ a,gF Tryz.f69 [(0,a)]=some (c a) }).1 Agd
def A9c:A3:=(⟨_,by conv=>lhs;cbv⟩:{ c // gF Tryz.f73 []=some c }).1
def A9e:A3:=(⟨_,by conv=>lhs;cbv⟩:{ c // gF Tryz.f77 []=some c }).1
def A9h:A3:=(⟨_,by conv=>lhs;cbv⟩:{ c // gF Tryz.f81 []=some c }).1
def A9l:A3:=(⟨_,by conv=>lhs;cbv⟩:{ c // gF Tryz.f88 []=some c }).1
def AgM:A1:=(⟨_,by conv=>lhs;cbv⟩:{ c // gL Tryz.f94 2 []=some c }).1
def Agm:A1:=(⟨_,by intro a;conv=>lhs;cbv⟩:{ c:A1→A1 // ∀ a,gL Tryz.f94 0 [(2,a)]=some (c a) }).1 AgM
def A9n:A3:=(⟨_,by intro a;conv=>lhs;cbv⟩:{ c:A1→A3 // ∀ a,gF Tryz.f94 [(0,a)]=some (c a) }).1 Agm
def AgN:A1:=(⟨_,by conv=>lhs;cbv⟩:{ c // gL Tryz.f99 2 []=some c }).1
def A2y:A1:=(⟨_,by intro a;conv=>lhs;cbv⟩:{ c:A1→A1 // ∀ a,gL Tryz.f99 0 [(2,a)]=some (c a) }).1 AgN
def U0:A3:=(⟨_,by intro a;conv=>lhs;cbv⟩:{ c:A1→A3 // ∀ a,gF Tryz.f99 [(0,a)]=some (c a) }).1 A2y
def A9S:A1:=(⟨_,by conv=>lhs;cbv⟩:{ c // gL Tryz.f109 0 []=some c }).1
def A9r:A3:=(⟨_,by intro a;conv=>lhs;cbv⟩:{ c:A1→A3 // ∀ a,gF Tryz.f109 [(0,a)]=some (c a) }).1 A9S
def AgX:A1:=(⟨_,by conv=>lhs;cbv⟩:{ c // gL Tryz.f113 4 []=some c }).1
def AgP:A1:=(⟨_,by conv=>lhs;cbv⟩:{ c // gL Tryz.f113 2 []=some c }).1
def Ags:A1:=(⟨_,by intro a b;conv=>lhs;cbv⟩:{ c:A1→A1→A1 // ∀ a b,gL Tryz.f113 0 [(2,a),(4,b)]=some (c a b) }).1 AgP AgX
def A49:A3:=(⟨_,by intro a;conv=>lhs;cbv⟩:{ c:A1→A3 // ∀ a,gF Tryz.f113 [(0,a)]=some (c a) }).1 Ags
def Rz:A1:=(⟨_,by conv=>lhs;cbv⟩:{ c // gL Tryz.f119 6 []=some c }).1
def AgY:A1:=(⟨_,by conv=>lhs;cbv⟩:{ c // gL Tryz.f119 4 []=some c }).1
def AgQ:A1:=(⟨_,by conv=>lhs;cbv⟩:{ c // gL Tryz.f119 2 []=some c }).1
def Agt:A1:=(⟨_,by conv=>lhs;cbv⟩:{ c // gL Tryz.f119 0 []=some c }).1
def A4b:A3:=(⟨_,by intro a b d e;conv=>lhs;cbv⟩:{ c:A1→A1→A1→A1→A3 // ∀ a b d e,gF Tryz.f119 [(0,a),(2,b),(4,d),(6,e)]=some (c a b d e) }).1 Agt AgQ AgY Rz
def A4c:A3:=(⟨_,by conv=>lhs;cbv⟩:{ c // gF Tryz.f123 []=some c }).1
def Agv:A1:=(⟨_,by conv=>lhs;cbv⟩:{ c // gL Tryz.f127 0 [] [[[0],[1],[2],[3],[4],[5],[6],[7],[8],[9],[10],[11],[12],[13],[14],[15],[16],[17],[18],[19],[20],[21],[22]],[[0],[1],[2],[3],[4],[5],[6],[7],[8],[9]]]=some c }).1
def A9w:A3:=(⟨_,by intro a;conv=>lhs;cbv⟩:{ c:A1→A3 // ∀ a,gF Tryz.f127 [(0,a)]=some (c a) }).1 Agv
def A9x:A3:=(⟨_,by conv=>lhs;cbv⟩:{ c // gF Tryz.f131 []=some c }).1
def Ru:A3:=(⟨_,by conv=>lhs;cbv⟩:{ c // gF Tryz.f135 [] [[[0],[1],[2],[3],[4],[5],[6],[7],[8],[9],[10],[11],[12],[13],[14],[15],[16],[17],[18],[19],[20],[21],[22],[23],[24],[25],[26],[27],[28],[29],[30],[31],[32],[33],[34]]]=some c }).1
def AgC:A1:=(⟨_,by conv=>lhs;cbv⟩:{ c // gL Tryz.f139 0 []=some c }).1
def A9B:A3:=(⟨_,by intro a;conv=>lhs;cbv⟩:{ c:A1→A3 // ∀ a,gF Tryz.f139 [(0,a)]=some (c a) }).1 AgC
def A1c:A3:=(⟨_,by conv=>lhs;cbv⟩:{ c // gF Tryz.f143 []=some c }).1
def A1d:A3:=(⟨_,by conv=>lhs;cbv⟩:{ c // gF Tryz.f147 []=some c }).1
def Vt:A1:=(⟨_,by conv=>lhs;cbv⟩:{ c // gL Tryz.f153 0 []=some c }).1
def A1f:A3:=(⟨_,by intro a;conv=>lhs;cbv⟩:{ c:A1→A3 // ∀ a,gF Tryz.f153 [(0,a)]=some (c a) }).1 Vt
def AcN:A1:=(⟨_,by conv=>lhs;cbv⟩:{ c // gL Tryz.f158 0 []=some c }).1
def A1g:A3:=(⟨_,by intro a;conv=>lhs;cbv⟩:{ c:A1→A3 // ∀ a,gF Tryz.f158 [(0,a)]=some (c a) }).1 AcN
def V6:A3:=(⟨_,by conv=>lhs;cbv⟩:{ c // gF Tryz.f162 []=some c }).1
def AcS:A1:=(⟨_,by conv=>lhs;cbv⟩:{ c // gL Tryz.f167 0 []=some c }).1
def Rh:A3:=(⟨_,by intro a;conv=>lhs;cbv⟩:{ c:A1→A3 // ∀ a,gF Tryz.f167 [(0,a)]=some (c a) }).1 AcS
def AcU:A1:=(⟨_,by conv=>lhs;cbv⟩:{ c // gL Tryz.f171 0 []=some c }).1
def A1o:A3:=(⟨_,by intro a;conv=>lhs;cbv⟩:{ c:A1→A3 // ∀ a,gF Tryz.f171 [(0,a)]=some (c a) }).1 AcU
def A1s:A3:=(⟨_,by conv=>lhs;cbv⟩:{ c // gF Tryz.f175 []=some c }).1
def CM:A1:=(⟨_,by conv=>lhs;cbv⟩:{ c // gL Tryz.f179 3 [] [[[0],[1],[2],[3],[4],[5],[6],[7],[8],[9],[10],[11],[12]],[[0],[1],[2],[3],[4],[5],[6],[9],[10],[11],[12],[13],[7,13],[8],[14],[15]],[[0],[1],[2],[3],[4],[5],[6],[7],[8],[9],[10],[11],[12]]]=some c }).1
def QE:A1:=(⟨_,by conv=>lhs;cbv⟩:{ c // gL Tryz.f179 0 []=some c }).1
def Ri:A3:=(⟨_,by intro a b;conv=>lhs;cbv⟩:{ c:A1→A1→A3 // ∀ a b,gF Tryz.f179 [(0,a),(3,b)] [[[0],[1],[2],[3],[4],[5],[6],[7],[8],[9],[10],[11]],[[0],[1],[2],[3],[4],[5],[6],[7],[8]],[[0],[1],[2],[3],[4],[5],[6],[7],[8],[9],[10],[11],[12],[13,6],[14],[15]],[[0],[1],[2],[3],[4],[5],[6],[7],[8],[9],[10]],[[0],[1],[2],[3],[4],[5],[6],[7],[8],[9],[10],[11],[12],[13],[14],[15,8,4],[16],[17],[18]]]=some (c a b) }).1 QE CM
def A1v:A3:=(⟨_,by conv=>lhs;cbv⟩:{ c // gF Tryz.f183 []=some c }).1
def Adm:A1:=(⟨_,by conv=>lhs;cbv⟩:{ c // gL Tryz.f187 2 [] [[[0],[1],[2],[3],[4],[5],[6],[7],[8],[9]],[[0],[1],[2],[3],[4],[5],[6],[7],[8],[9],[10],[11],[12],[13],[14],[15],[16],[17],[18],[19],[20],[21],[22]]]=some c }).1
def Ad0:A1:=(⟨_,by intro a;conv=>lhs;cbv⟩:{ c:A1→A1 // ∀ a,gL Tryz.f187 0 [(2,a)]=some (c a) }).1 Adm
def A8Q:A3:=(⟨_,by intro a;conv=>lhs;cbv⟩:{ c:A1→A3 // ∀ a,gF Tryz.f187 [(0,a)]=some (c a) }).1 Ad0
def Ad2:A1:=(⟨_,by conv=>lhs;cbv⟩:{ c // gL Tryz.f191 0 []=some c }).1
def A1y:A3:=(⟨_,by intro a;conv=>lhs;cbv⟩:{ c:A1→A3 // ∀ a,gF Tryz.f191 [(0,a)]=some (c a) }).1 Ad2
def A1B:A3:=(⟨_,by conv=>lhs;cbv⟩:{ c // gF Tryz.f198 []=some c }).1
def A1E:A3:=(⟨_,by conv=>lhs;cbv⟩:{ c // gF Tryz.f202 []=some c }).1
def A1H:A3:=(⟨_,by conv=>lhs;cbv⟩:{ c // gF Tryz.f209 []=some c }).1
def Ad5:A1:=(⟨_,by conv=>lhs;cbv⟩:{ c // gL Tryz.f213 0 []=some c }).1
def A1K:A3:=(⟨_,by intro a;conv=>lhs;cbv⟩:{ c:A1→A3 // ∀ a,gF Tryz.f213 [(0,a)]=some (c a) }).1 Ad5
def A1N:A3:=(⟨_,by conv=>lhs;cbv⟩:{ c // gF Tryz.f217 []=some c }).1
def Ad8:A1:=(⟨_,by conv=>lhs;cbv⟩:{ c // gL Tryz.f221 0 []=some c }).1
def A1Q:A3:=(⟨_,by intro a;conv=>lhs;cbv⟩:{ c:A1→A3 // ∀ a,gF Tryz.f221 [(0,a)]=some (c a) }).1 Ad8
def Ada:A1:=(⟨_,by conv=>lhs;cbv⟩:{ c // gL Tryz.f225 0 []=some c }).1
def A1T:A3:=(⟨_,by intro a;conv=>lhs;cbv⟩:{ c:A1→A3 // ∀ a,gF Tryz.f225 [(0,a)]=some (c a) }).1 Ada
def A1W:A3:=(⟨_,by conv=>lhs;cbv⟩:{ c // gF Tryz.f229 []=some c }).1
def A8U:A3:=(⟨_,by conv=>lhs;cbv⟩:{ c // gF Tryz.f233 []=some c }).1
def Vg:A3:=(⟨_,by conv=>lhs;cbv⟩:{ c // gF Tryz.f237 [] [[[0],[1],[2],[3],[4],[5],[6],[7],[8],[9],[10],[11],[12],[13],[14],[15],[16],[17],[18],[19],[20],[21],[22],[23],[24],[25],[26],[27],[28],[29],[30],[31],[32],[33],[34],[35],[36],[37],[38],[39],[40],[41],[42],[43],[44],[45],[46],[47],[48],[49],[50],[51]]]=some c }).1
def Vw:A1:=(⟨_,by conv=>lhs;cbv⟩:{ c // gL Tryz.f241 0 []=some c }).1
def A23:A3:=(⟨_,by intro a;conv=>lhs;cbv⟩:{ c:A1→A3 // ∀ a,gF Tryz.f241 [(0,a)]=some (c a) }).1 Vw
def Add:A1:=(⟨_,by conv=>lhs;cbv⟩:{ c // gL Tryz.f245 0 []=some c }).1
def A27:A3:=(⟨_,by intro a;conv=>lhs;cbv⟩:{ c:A1→A3 // ∀ a,gF Tryz.f245 [(0,a)]=some (c a) }).1 Add
def A2a:A3:=(⟨_,by conv=>lhs;cbv⟩:{ c // gF Tryz.f249 []=some c }).1
def Ade:A1:=(⟨_,by conv=>lhs;cbv⟩:{ c // gL Tryz.f253 0 []=some c }).1
def A2d:A3:=(⟨_,by intro a;conv=>lhs;cbv⟩:{ c:A1→A3 // ∀ a,gF Tryz.f253 [(0,a)]=some (c a) }).1 Ade
def A2h:A3:=(⟨_,by conv=>lhs;cbv⟩:{ c // gF Tryz.f257 []=some c }).1
def JF:A3:=(⟨_,by conv=>lhs;cbv⟩:{ c // gF Tryz.f261 []=some c }).1
end Go.AM
