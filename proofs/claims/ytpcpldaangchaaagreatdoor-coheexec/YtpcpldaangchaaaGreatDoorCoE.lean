/-
  Own work, part of the proof of CoheExec: the code of the functions that the law reaches, as the machine has it; read off the program as the text is compiled.
-/
import Derived.Test.YtpcpldaangchaaaGreatDoorCoA
set_option maxRecDepth 4000
set_option linter.unusedVariables false
set_option linter.unusedSimpArgs false
set_option linter.unusedSectionVars false
set_option linter.unnecessarySimpa false
set_option maxRecDepth 100000
set_option maxHeartbeats 4000000
namespace Go.AM
open Go Go.Proofs
def Ag3:A2:=(⟨_,by conv=>lhs;cbv⟩:{ c // gF Tryz.f13 []=some c }).1
def Ac8:A2:=(⟨_,by conv=>lhs;cbv⟩:{ c // gF Tryz.f18 []=some c }).1
def A5H:A2:=(⟨_,by conv=>lhs;cbv⟩:{ c // gF Tryz.f22 []=some c }).1
def AaT:A2:=(⟨_,by conv=>lhs;cbv⟩:{ c // gF Tryz.f36 []=some c }).1
def RU:A2:=(⟨_,by conv=>lhs;cbv⟩:{ c // gF Tryz.f43 []=some c }).1
def A1q:A2:=(⟨_,by conv=>lhs;cbv⟩:{ c // gF Tryz.f49 []=some c }).1
def A5T:A2:=(⟨_,by conv=>lhs;cbv⟩:{ c // gF Tryz.f54 []=some c }).1
def A5W:A2:=(⟨_,by conv=>lhs;cbv⟩:{ c // gF Tryz.f58 []=some c }).1
def WS:A2:=(⟨_,by conv=>lhs;cbv⟩:{ c // gF Tryz.f62 []=some c }).1
def Acv:A1:=(⟨_,by conv=>lhs;cbv⟩:{ c // gL Tryz.f68 0 []=some c }).1
def A5Z:A2:=(⟨_,by intro a;conv=>lhs;cbv⟩:{ c:A1→A2 // ∀ a,gF Tryz.f68 [(0,a)]=some (c a) }).1 Acv
def AaW:A2:=(⟨_,by conv=>lhs;cbv⟩:{ c // gF Tryz.f84 []=some c }).1
def AcA:A1:=(⟨_,by conv=>lhs;cbv⟩:{ c // gL Tryz.f88 0 []=some c }).1
def A62:A2:=(⟨_,by intro a;conv=>lhs;cbv⟩:{ c:A1→A2 // ∀ a,gF Tryz.f88 [(0,a)]=some (c a) }).1 AcA
def Ab2:A2:=(⟨_,by conv=>lhs;cbv⟩:{ c // gF Tryz.f92 []=some c }).1
def A64:A2:=(⟨_,by conv=>lhs;cbv⟩:{ c // gF Tryz.f99 []=some c }).1
def RV:A2:=(⟨_,by conv=>lhs;cbv⟩:{ c // gF Tryz.f105 []=some c }).1
def AcH:A1:=(⟨_,by conv=>lhs;cbv⟩:{ c // gL Tryz.f113 0 []=some c }).1
def A1y:A2:=(⟨_,by intro a;conv=>lhs;cbv⟩:{ c:A1→A2 // ∀ a,gF Tryz.f113 [(0,a)]=some (c a) }).1 AcH
def PV:A1:=(⟨_,by conv=>lhs;cbv⟩:{ c // gL Tryz.f117 0 []=some c }).1
def A67:A2:=(⟨_,by intro a;conv=>lhs;cbv⟩:{ c:A1→A2 // ∀ a,gF Tryz.f117 [(0,a)]=some (c a) }).1 PV
def AcM:A1:=(⟨_,by conv=>lhs;cbv⟩:{ c // gL Tryz.f122 0 [] [[[0],[1],[2],[3],[4],[5],[6],[7],[8],[9]],[[0],[1],[2],[3],[4],[5],[6],[7]],[[0],[1],[2],[3],[4],[5],[6],[7],[8],[9],[10],[11],[12],[13],[14]]]=some c }).1
def Nv:A2:=(⟨_,by intro a;conv=>lhs;cbv⟩:{ c:A1→A2 // ∀ a,gF Tryz.f122 [(0,a)]=some (c a) }).1 AcM
def Ad8:A1:=(⟨_,by conv=>lhs;cbv⟩:{ c // gL Tryz.f126 2 [] [[[0],[1],[2],[3],[4],[5],[6],[7],[8],[9]],[[0],[1],[2],[3],[4],[5],[6],[7],[8],[9],[10],[11],[12],[13],[14],[15],[16],[17],[18],[19],[20],[21],[22],[23],[24],[25],[26],[27],[28],[29],[30],[31],[32]]]=some c }).1
def AcO:A1:=(⟨_,by conv=>lhs;cbv⟩:{ c // gL Tryz.f126 0 [] [[[0],[1],[2],[3],[4],[5],[6],[7],[8],[9],[10],[11],[12],[13],[14],[15],[16],[17],[18],[19],[20],[21],[22]]]=some c }).1
def A1C:A2:=(⟨_,by intro a b;conv=>lhs;cbv⟩:{ c:A1→A1→A2 // ∀ a b,gF Tryz.f126 [(0,a),(2,b)]=some (c a b) }).1 AcO Ad8
def A6a:A2:=(⟨_,by conv=>lhs;cbv⟩:{ c // gF Tryz.f130 []=some c }).1
def Ab4:A2:=(⟨_,by conv=>lhs;cbv⟩:{ c // gF Tryz.f134 []=some c }).1
def Ab5:A2:=(⟨_,by conv=>lhs;cbv⟩:{ c // gF Tryz.f143 []=some c }).1
def AcR:A1:=(⟨_,by conv=>lhs;cbv⟩:{ c // gL Tryz.f152 0 []=some c }).1
def A6i:A2:=(⟨_,by intro a;conv=>lhs;cbv⟩:{ c:A1→A2 // ∀ a,gF Tryz.f152 [(0,a)]=some (c a) }).1 AcR
def AcS:A1:=(⟨_,by conv=>lhs;cbv⟩:{ c // gL Tryz.f156 0 []=some c }).1
def Ab8:A2:=(⟨_,by intro a;conv=>lhs;cbv⟩:{ c:A1→A2 // ∀ a,gF Tryz.f156 [(0,a)]=some (c a) }).1 AcS
def A1F:A2:=(⟨_,by conv=>lhs;cbv⟩:{ c // gF Tryz.f161 []=some c }).1
def P7:A1:=(⟨_,by conv=>lhs;cbv⟩:{ c // gL Tryz.f165 0 []=some c }).1
def YS:A2:=(⟨_,by intro a;conv=>lhs;cbv⟩:{ c:A1→A2 // ∀ a,gF Tryz.f165 [(0,a)]=some (c a) }).1 P7
def Tu:A1:=(⟨_,by conv=>lhs;cbv⟩:{ c // gL Tryz.f170 0 []=some c }).1
def YU:A2:=(⟨_,by intro a;conv=>lhs;cbv⟩:{ c:A1→A2 // ∀ a,gF Tryz.f170 [(0,a)]=some (c a) }).1 Tu
def A9p:A1:=(⟨_,by conv=>lhs;cbv⟩:{ c // gL Tryz.f174 0 []=some c }).1
def Th:A2:=(⟨_,by intro a;conv=>lhs;cbv⟩:{ c:A1→A2 // ∀ a,gF Tryz.f174 [(0,a)]=some (c a) }).1 A9p
def PH:A2:=(⟨_,by conv=>lhs;cbv⟩:{ c // gF Tryz.f178 []=some c }).1
def A9L:A1:=(⟨_,by conv=>lhs;cbv⟩:{ c // gL Tryz.f182 2 [] [[[0],[1],[2],[3],[4],[5],[6],[7],[8],[9]],[[0],[1],[2],[3],[4],[5],[6],[7],[8],[9],[10],[11],[12],[13],[14],[15],[16],[17],[18],[19],[20],[21],[22]]]=some c }).1
def A9s:A1:=(⟨_,by intro a;conv=>lhs;cbv⟩:{ c:A1→A1 // ∀ a,gL Tryz.f182 0 [(2,a)]=some (c a) }).1 A9L
def Z6:A2:=(⟨_,by intro a;conv=>lhs;cbv⟩:{ c:A1→A2 // ∀ a,gF Tryz.f182 [(0,a)]=some (c a) }).1 A9s
def Tv:A1:=(⟨_,by conv=>lhs;cbv⟩:{ c // gL Tryz.f186 0 []=some c }).1
def Z9:A2:=(⟨_,by intro a;conv=>lhs;cbv⟩:{ c:A1→A2 // ∀ a,gF Tryz.f186 [(0,a)]=some (c a) }).1 Tv
def A9M:A1:=(⟨_,by conv=>lhs;cbv⟩:{ c // gL Tryz.f190 2 []=some c }).1
def A9v:A1:=(⟨_,by intro a;conv=>lhs;cbv⟩:{ c:A1→A1 // ∀ a,gL Tryz.f190 0 [(2,a)]=some (c a) }).1 A9M
def Ze:A2:=(⟨_,by intro a;conv=>lhs;cbv⟩:{ c:A1→A2 // ∀ a,gF Tryz.f190 [(0,a)]=some (c a) }).1 A9v
def MF:A2:=⟨[],.block 0 (.loop (.seq (.seq (.reg [o 4 (.mov (.t 0)),o 5 (.bin .neq none (.t 4) (.c (.i .u64 0)))]) (.cond (.t 5) (.skip) (.exit 0))) (.seq (.block 1 (.reg [o 10 (.mov (.t 1)),o 11 (.mov (.t 0)),o 12 (.call (.c (.f AL [] [])) [(.t 11)]),o 13 (.call (.t 10) [(.t 12)])])) (.reg [o 6 (.mov (.t 0)),o 7 (.mov (.t 0)),o 8 (.bin .sub none (.t 7) (.c (.i .u64 1))),o 9 (.bin .and none (.t 6) (.t 8)),o 0 (.mov (.t 9))]))))⟩
def Zh:A2:=(⟨_,by conv=>lhs;cbv⟩:{ c // gF Tryz.f199 []=some c }).1
def PJ:A2:=(⟨_,by conv=>lhs;cbv⟩:{ c // gF Tryz.f208 [] [[[0],[1],[2],[3],[4],[5],[6],[7],[8],[9],[10],[11],[12],[13],[14],[15],[16],[17],[18],[19],[20],[21],[22],[23],[24],[25]],[[0],[1],[2],[3],[4],[5],[6],[7],[8],[9],[10],[11],[12]]]=some c }).1
def Zm:A2:=(⟨_,by conv=>lhs;cbv⟩:{ c // gF Tryz.f212 []=some c }).1
def A9A:A1:=(⟨_,by conv=>lhs;cbv⟩:{ c // gL Tryz.f216 0 []=some c }).1
def Zq:A2:=(⟨_,by intro a;conv=>lhs;cbv⟩:{ c:A1→A2 // ∀ a,gF Tryz.f216 [(0,a)]=some (c a) }).1 A9A
def Zt:A2:=(⟨_,by conv=>lhs;cbv⟩:{ c // gF Tryz.f220 [] [[[0],[1],[2],[3],[4],[5],[6],[7],[8],[9],[10],[11],[12],[13],[14],[15],[16],[17],[18],[19],[20],[21],[22],[23]]]=some c }).1
def PM:A2:=(⟨_,by conv=>lhs;cbv⟩:{ c // gF Tryz.f224 [] [[[0],[1],[2],[3],[4],[5],[6],[7,1],[8],[9],[10]],[[0],[1],[2],[3],[4],[5],[6],[7],[8],[9],[10],[14],[15],[16],[11,16,4],[12],[13],[17,13,4],[18],[19]],[[0],[1],[2],[5],[6],[7],[3,7],[4,7],[8],[9],[10]]]=some c }).1
def Zz:A2:=(⟨_,by conv=>lhs;cbv⟩:{ c // gF Tryz.f228 []=some c }).1
def A9E:A1:=(⟨_,by conv=>lhs;cbv⟩:{ c // gL Tryz.f232 0 []=some c }).1
def ZC:A2:=(⟨_,by intro a;conv=>lhs;cbv⟩:{ c:A1→A2 // ∀ a,gF Tryz.f232 [(0,a)]=some (c a) }).1 A9E
def Tl:A2:=(⟨_,by conv=>lhs;cbv⟩:{ c // gF Tryz.f245 [] [[[0],[1],[2],[3],[4],[5],[6],[7],[8],[9],[10],[11],[12],[13],[14],[15],[16],[17],[18],[19],[20],[21],[22],[23],[24],[25],[26],[27],[28],[29],[30],[31],[32],[33],[34],[35],[36],[37],[38],[39],[40],[41],[42],[43],[44],[45],[46],[47],[48],[49],[50],[51]]]=some c }).1
def Tw:A1:=(⟨_,by conv=>lhs;cbv⟩:{ c // gL Tryz.f249 0 []=some c }).1
def ZH:A2:=(⟨_,by intro a;conv=>lhs;cbv⟩:{ c:A1→A2 // ∀ a,gF Tryz.f249 [(0,a)]=some (c a) }).1 Tw
def A9O:A1:=(⟨_,by conv=>lhs;cbv⟩:{ c // gL Tryz.f253 2 []=some c }).1
def PO:A2:=(⟨_,by intro a;conv=>lhs;cbv⟩:{ c:A1→A2 // ∀ a,gF Tryz.f253 [(2,a)] [[[0],[1],[2],[3],[4],[5],[6],[7],[8],[9],[10],[11],[12]],[[0],[1],[2],[4],[5],[6],[3,5],[7],[8],[9],[10]],[[0],[1],[2],[3],[4],[5],[6],[7]]]=some (c a) }).1 A9O
def ZO:A2:=(⟨_,by conv=>lhs;cbv⟩:{ c // gF Tryz.f257 []=some c }).1
def ZR:A2:=(⟨_,by conv=>lhs;cbv⟩:{ c // gF Tryz.f274 []=some c }).1
def A9K:A1:=(⟨_,by conv=>lhs;cbv⟩:{ c // gL Tryz.f278 0 []=some c }).1
def ZV:A2:=(⟨_,by intro a;conv=>lhs;cbv⟩:{ c:A1→A2 // ∀ a,gF Tryz.f278 [(0,a)]=some (c a) }).1 A9K
end Go.AM
