/-
  Own work, part of the proof of the laws SeenLasts, SeenCalm, SeenConflict: the code of the functions that the law reaches, as the machine has it; read off the program as the text is compiled.
-/
import Derived.Test.YthhlhddnndlhkaaGreatDoorCoA
set_option maxRecDepth 4000
set_option linter.unusedVariables false
set_option linter.unusedSimpArgs false
set_option linter.unusedSectionVars false
set_option linter.unnecessarySimpa false
set_option maxRecDepth 100000
set_option maxHeartbeats 4000000
namespace Go.AM
open Go Go.Proofs
def AjG:A3:=(⟨_,by conv=>lhs;cbv⟩:{ c // gF Tryz.f15 []=some c }).1
def AfP:A3:=(⟨_,by conv=>lhs;cbv⟩:{ c // gF Tryz.f21 []=some c }).1
def A8J:A3:=(⟨_,by conv=>lhs;cbv⟩:{ c // gF Tryz.f27 []=some c }).1
def Z6:A3:=(⟨_,by conv=>lhs;cbv⟩:{ c // gF Tryz.f31 []=some c }).1
def A8W:A3:=(⟨_,by conv=>lhs;cbv⟩:{ c // gF Tryz.f41 []=some c }).1
def Z7:A3:=(⟨_,by conv=>lhs;cbv⟩:{ c // gF Tryz.f45 []=some c }).1
def Aew:A3:=(⟨_,by conv=>lhs;cbv⟩:{ c // gF Tryz.f54 []=some c }).1
def AgD:A1:=(⟨_,by conv=>lhs;cbv⟩:{ c // gL Tryz.f58 1 []=some c }).1
def Jd:A3:=(⟨_,by intro a;conv=>lhs;cbv⟩:{ c:A1→A3 // ∀ a,gF Tryz.f58 [(1,a)] [[[0],[1],[2],[3],[4],[5],[6],[7],[8],[9],[10],[11],[12],[13],[14]],[[0],[1],[2],[3],[4],[5],[6],[7],[8],[13],[9],[10],[11],[12],[14],[15]],[[0],[1],[2],[3],[4],[5],[6],[7],[8],[9],[10],[11],[12]]]=some (c a) }).1 AgD
def A44:A3:=(⟨_,by conv=>lhs;cbv⟩:{ c // gF Tryz.f62 []=some c }).1
def AgJ:A1:=(⟨_,by conv=>lhs;cbv⟩:{ c // gL Tryz.f66 2 []=some c }).1
def Aga:A1:=(⟨_,by intro a;conv=>lhs;cbv⟩:{ c:A1→A1 // ∀ a,gL Tryz.f66 0 [(2,a)]=some (c a) }).1 AgJ
def AeA:A3:=(⟨_,by intro a;conv=>lhs;cbv⟩:{ c:A1→A3 // ∀ a,gF Tryz.f66 [(0,a)]=some (c a) }).1 Aga
def A99:A3:=(⟨_,by conv=>lhs;cbv⟩:{ c // gF Tryz.f70 []=some c }).1
def Agf:A1:=(⟨_,by conv=>lhs;cbv⟩:{ c // gL Tryz.f74 0 []=some c }).1
def A9d:A3:=(⟨_,by intro a;conv=>lhs;cbv⟩:{ c:A1→A3 // ∀ a,gF Tryz.f74 [(0,a)]=some (c a) }).1 Agf
def AgK:A1:=(⟨_,by conv=>lhs;cbv⟩:{ c // gL Tryz.f78 2 []=some c }).1
def Agh:A1:=(⟨_,by intro a;conv=>lhs;cbv⟩:{ c:A1→A1 // ∀ a,gL Tryz.f78 0 [(2,a)]=some (c a) }).1 AgK
def A47:A3:=(⟨_,by intro a;conv=>lhs;cbv⟩:{ c:A1→A3 // ∀ a,gF Tryz.f78 [(0,a)]=some (c a) }).1 Agh
def Vx:A1:=(⟨_,by conv=>lhs;cbv⟩:{ c // gL Tryz.f82 0 []=some c }).1
def A9i:A3:=(⟨_,by intro a;conv=>lhs;cbv⟩:{ c:A1→A3 // ∀ a,gF Tryz.f82 [(0,a)]=some (c a) }).1 Vx
def Agj:A1:=(⟨_,by conv=>lhs;cbv⟩:{ c // gL Tryz.f89 0 []=some c }).1
def AeB:A3:=(⟨_,by intro a;conv=>lhs;cbv⟩:{ c:A1→A3 // ∀ a,gF Tryz.f89 [(0,a)]=some (c a) }).1 Agj
def A9o:A3:=(⟨_,by conv=>lhs;cbv⟩:{ c // gF Tryz.f95 []=some c }).1
def AeD:A3:=(⟨_,by conv=>lhs;cbv⟩:{ c // gF Tryz.f106 []=some c }).1
def A9s:A3:=(⟨_,by conv=>lhs;cbv⟩:{ c // gF Tryz.f110 []=some c }).1
def A4a:A3:=(⟨_,by conv=>lhs;cbv⟩:{ c // gF Tryz.f115 []=some c }).1
def Q1:A3:=(⟨_,by conv=>lhs;cbv⟩:{ c // gF Tryz.f120 [] [[[0],[1],[2],[3],[4],[5],[6],[7],[8],[9],[10],[11],[12],[13]],[[0],[1],[2],[3],[4],[5],[6],[7],[8],[9],[10],[11],[12],[13],[14]]]=some c }).1
def Za:A3:=(⟨_,by conv=>lhs;cbv⟩:{ c // gF Tryz.f124 []=some c }).1
def A9T:A1:=(⟨_,by conv=>lhs;cbv⟩:{ c // gL Tryz.f128 2 [] [[[0],[1],[2],[3],[4],[5],[6],[7],[8],[9]],[[0],[1],[2],[3],[4],[5],[6],[7],[8],[9],[10],[11],[12],[13],[14],[15],[16],[17],[18],[19],[20],[21],[22],[23],[24],[25],[26],[27]]]=some c }).1
def Agw:A1:=(⟨_,by intro a;conv=>lhs;cbv⟩:{ c:A1→A1 // ∀ a,gL Tryz.f128 0 [(2,a)] [[[0],[1],[2],[3],[4],[5],[6],[7],[8],[9],[10],[11],[12],[13],[14],[15],[16],[17],[18],[19],[20],[21],[22]],[[0],[1],[2],[3],[4],[5],[6],[7],[8],[9]]]=some (c a) }).1 A9T
def A4e:A3:=(⟨_,by intro a;conv=>lhs;cbv⟩:{ c:A1→A3 // ∀ a,gF Tryz.f128 [(0,a)]=some (c a) }).1 Agw
def AeI:A3:=(⟨_,by conv=>lhs;cbv⟩:{ c // gF Tryz.f132 []=some c }).1
def A9y:A3:=(⟨_,by conv=>lhs;cbv⟩:{ c // gF Tryz.f136 []=some c }).1
def A2z:A1:=(⟨_,by conv=>lhs;cbv⟩:{ c // gL Tryz.f140 0 []=some c }).1
def A9C:A3:=(⟨_,by intro a;conv=>lhs;cbv⟩:{ c:A1→A3 // ∀ a,gF Tryz.f140 [(0,a)]=some (c a) }).1 A2z
def Rf:A3:=(⟨_,by conv=>lhs;cbv⟩:{ c // gF Tryz.f144 []=some c }).1
def Pf:A3:=⟨[],.block 0 (.loop (.seq (.seq (.reg [o 4 (.mov (.t 0)),o 5 (.bin .neq none (.t 4) (.c (.i .u64 0)))]) (.cond (.t 5) (.skip) (.exit 0))) (.seq (.block 1 (.reg [o 10 (.mov (.t 1)),o 11 (.mov (.t 0)),o 12 (.call (.c (.f AT [] [])) [(.t 11)]),o 13 (.call (.t 10) [(.t 12)])])) (.reg [o 6 (.mov (.t 0)),o 7 (.mov (.t 0)),o 8 (.bin .sub none (.t 7) (.c (.i .u64 1))),o 9 (.bin .and none (.t 6) (.t 8)),o 0 (.mov (.t 9))]))))⟩
def AcM:A1:=(⟨_,by conv=>lhs;cbv⟩:{ c // gL Tryz.f155 0 []=some c }).1
def A8K:A3:=(⟨_,by intro a;conv=>lhs;cbv⟩:{ c:A1→A3 // ∀ a,gF Tryz.f155 [(0,a)]=some (c a) }).1 AcM
def Vu:A1:=(⟨_,by conv=>lhs;cbv⟩:{ c // gL Tryz.f159 0 [] [[[0],[1],[2],[3],[4],[5],[6],[7],[8],[9],[10]],[[0],[1],[2],[3],[4],[5],[6],[7],[8],[9],[10]],[[0],[1],[2],[3],[4],[5],[6],[7],[8],[9],[10],[11],[12]],[[0],[1],[2],[3],[4],[5],[6],[7],[8],[9],[10],[11],[12],[13],[14],[15],[16],[17],[18],[19],[20],[21],[22],[23],[24],[25],[26],[27]]]=some c }).1
def A1h:A3:=(⟨_,by intro a;conv=>lhs;cbv⟩:{ c:A1→A3 // ∀ a,gF Tryz.f159 [(0,a)]=some (c a) }).1 Vu
def AcP:A1:=(⟨_,by conv=>lhs;cbv⟩:{ c // gL Tryz.f163 0 []=some c }).1
def V7:A3:=(⟨_,by intro a;conv=>lhs;cbv⟩:{ c:A1→A3 // ∀ a,gF Tryz.f163 [(0,a)]=some (c a) }).1 AcP
def A1l:A3:=(⟨_,by conv=>lhs;cbv⟩:{ c // gF Tryz.f168 []=some c }).1
def AcV:A1:=(⟨_,by conv=>lhs;cbv⟩:{ c // gL Tryz.f172 0 []=some c }).1
def A1p:A3:=(⟨_,by intro a;conv=>lhs;cbv⟩:{ c:A1→A3 // ∀ a,gF Tryz.f172 [(0,a)]=some (c a) }).1 AcV
def Adk:A1:=(⟨_,by conv=>lhs;cbv⟩:{ c // gL Tryz.f176 2 []=some c }).1
def AcX:A1:=(⟨_,by conv=>lhs;cbv⟩:{ c // gL Tryz.f176 0 []=some c }).1
def V9:A3:=(⟨_,by intro a b;conv=>lhs;cbv⟩:{ c:A1→A1→A3 // ∀ a b,gF Tryz.f176 [(0,a),(2,b)]=some (c a b) }).1 AcX Adk
def A4t:A1:=(⟨_,by conv=>lhs;cbv⟩:{ c // gL Tryz.f180 2 []=some c }).1
def A4p:A1:=(⟨_,by conv=>lhs;cbv⟩:{ c // gL Tryz.f180 0 []=some c }).1
def Rj:A3:=(⟨_,by intro a b;conv=>lhs;cbv⟩:{ c:A1→A1→A3 // ∀ a b,gF Tryz.f180 [(0,a),(2,b)]=some (c a b) }).1 A4p A4t
def A8O:A3:=(⟨_,by conv=>lhs;cbv⟩:{ c // gF Tryz.f184 []=some c }).1
def A8R:A3:=(⟨_,by conv=>lhs;cbv⟩:{ c // gF Tryz.f188 []=some c }).1
def Ad3:A1:=(⟨_,by conv=>lhs;cbv⟩:{ c // gL Tryz.f192 0 []=some c }).1
def A1z:A3:=(⟨_,by intro a;conv=>lhs;cbv⟩:{ c:A1→A3 // ∀ a,gF Tryz.f192 [(0,a)]=some (c a) }).1 Ad3
def A1C:A3:=(⟨_,by conv=>lhs;cbv⟩:{ c // gF Tryz.f199 []=some c }).1
def Ad4:A1:=(⟨_,by conv=>lhs;cbv⟩:{ c // gL Tryz.f203 0 []=some c }).1
def A1F:A3:=(⟨_,by intro a;conv=>lhs;cbv⟩:{ c:A1→A3 // ∀ a,gF Tryz.f203 [(0,a)]=some (c a) }).1 Ad4
def Ve:A3:=(⟨_,by conv=>lhs;cbv⟩:{ c // gF Tryz.f210 []=some c }).1
def Rn:A3:=(⟨_,by conv=>lhs;cbv⟩:{ c // gF Tryz.f214 []=some c }).1
def Ad6:A1:=(⟨_,by conv=>lhs;cbv⟩:{ c // gL Tryz.f218 0 []=some c }).1
def Ro:A3:=(⟨_,by intro a;conv=>lhs;cbv⟩:{ c:A1→A3 // ∀ a,gF Tryz.f218 [(0,a)]=some (c a) }).1 Ad6
def Adn:A1:=(⟨_,by conv=>lhs;cbv⟩:{ c // gL Tryz.f222 2 []=some c }).1
def A1R:A3:=(⟨_,by intro a;conv=>lhs;cbv⟩:{ c:A1→A3 // ∀ a,gF Tryz.f222 [(2,a)]=some (c a) }).1 Adn
def A1U:A3:=(⟨_,by conv=>lhs;cbv⟩:{ c // gF Tryz.f226 []=some c }).1
def A4q:A1:=(⟨_,by conv=>lhs;cbv⟩:{ c // gL Tryz.f230 0 [] [[[0],[1],[2],[4],[5],[6],[7],[8],[3,8],[9],[10],[11],[12]],[[0],[1],[2],[4],[5],[6],[7],[8],[9],[3,9],[10],[11],[12],[13]],[[0],[1],[2],[4],[5],[6],[7],[8],[9],[11],[12],[13],[14],[3,14,9],[10,14],[15],[16],[17],[18]]]=some c }).1
def A1X:A3:=(⟨_,by intro a;conv=>lhs;cbv⟩:{ c:A1→A3 // ∀ a,gF Tryz.f230 [(0,a)]=some (c a) }).1 A4q
def A8V:A3:=(⟨_,by conv=>lhs;cbv⟩:{ c // gF Tryz.f234 []=some c }).1
def A21:A3:=(⟨_,by conv=>lhs;cbv⟩:{ c // gF Tryz.f238 []=some c }).1
def A24:A3:=(⟨_,by conv=>lhs;cbv⟩:{ c // gF Tryz.f242 []=some c }).1
def A28:A3:=(⟨_,by conv=>lhs;cbv⟩:{ c // gF Tryz.f246 []=some c }).1
def A2b:A3:=(⟨_,by conv=>lhs;cbv⟩:{ c // gF Tryz.f250 []=some c }).1
def Adf:A1:=(⟨_,by conv=>lhs;cbv⟩:{ c // gL Tryz.f254 0 []=some c }).1
def A2e:A3:=(⟨_,by intro a;conv=>lhs;cbv⟩:{ c:A1→A3 // ∀ a,gF Tryz.f254 [(0,a)]=some (c a) }).1 Adf
def Adg:A1:=(⟨_,by conv=>lhs;cbv⟩:{ c // gL Tryz.f258 0 []=some c }).1
def A2i:A3:=(⟨_,by intro a;conv=>lhs;cbv⟩:{ c:A1→A3 // ∀ a,gF Tryz.f258 [(0,a)]=some (c a) }).1 Adg
end Go.AM
