/-
  Own work, part of the proof of the laws SeenLasts, SeenCalm, SeenConflict: the code of the functions that the law reaches, as the machine has it; read off the program as the text is compiled.
-/
import Derived.Test.YthhlhddnndlhkaaGreatDoorCoA
set_option maxRecDepth 4000
set_option linter.unusedVariables false
set_option linter.unusedSimpArgs false
set_option linter.unusedSectionVars false
set_option linter.unnecessarySimpa false
set_option maxRecDepth 100000
set_option maxHeartbeats 4000000
namespace Go.AM
open Go Go.Proofs
def AjY:A1:=(⟨_,by conv=>lhs;cbv⟩:{ c // gL Tryz.f5 2 []=some c }).1
def AjV:A1:=(⟨_,by intro a;conv=>lhs;cbv⟩:{ c:A1→A1 // ∀ a,gL Tryz.f5 0 [(2,a)]=some (c a) }).1 AjY
def A6E:A3:=(⟨_,by intro a;conv=>lhs;cbv⟩:{ c:A1→A3 // ∀ a,gF Tryz.f5 [(0,a)]=some (c a) }).1 AjV
def A4s:A1:=(⟨_,by conv=>lhs;cbv⟩:{ c // gL Tryz.f17 0 []=some c }).1
def AfN:A3:=(⟨_,by intro a;conv=>lhs;cbv⟩:{ c:A1→A3 // ∀ a,gF Tryz.f17 [(0,a)]=some (c a) }).1 A4s
def AjX:A1:=(⟨_,by conv=>lhs;cbv⟩:{ c // gL Tryz.f24 0 []=some c }).1
def AfQ:A3:=(⟨_,by intro a;conv=>lhs;cbv⟩:{ c:A1→A3 // ∀ a,gF Tryz.f24 [(0,a)]=some (c a) }).1 AjX
def A8N:A3:=(⟨_,by conv=>lhs;cbv⟩:{ c // gF Tryz.f29 []=some c }).1
def A8S:A3:=(⟨_,by conv=>lhs;cbv⟩:{ c // gF Tryz.f33 []=some c }).1
def A8Y:A3:=(⟨_,by conv=>lhs;cbv⟩:{ c // gF Tryz.f43 []=some c }).1
def Ag3:A1:=(⟨_,by conv=>lhs;cbv⟩:{ c // gL Tryz.f51 0 []=some c }).1
def A90:A3:=(⟨_,by intro a;conv=>lhs;cbv⟩:{ c:A1→A3 // ∀ a,gF Tryz.f51 [(0,a)]=some (c a) }).1 Ag3
def A92:A3:=(⟨_,by conv=>lhs;cbv⟩:{ c // gF Tryz.f56 []=some c }).1
def Ag6:A1:=(⟨_,by conv=>lhs;cbv⟩:{ c // gL Tryz.f60 0 []=some c }).1
def A94:A3:=(⟨_,by intro a;conv=>lhs;cbv⟩:{ c:A1→A3 // ∀ a,gF Tryz.f60 [(0,a)]=some (c a) }).1 Ag6
def Ag8:A1:=(⟨_,by conv=>lhs;cbv⟩:{ c // gL Tryz.f64 0 []=some c }).1
def Aey:A3:=(⟨_,by intro a;conv=>lhs;cbv⟩:{ c:A1→A3 // ∀ a,gF Tryz.f64 [(0,a)]=some (c a) }).1 Ag8
def Agc:A1:=(⟨_,by conv=>lhs;cbv⟩:{ c // gL Tryz.f68 0 []=some c }).1
def A97:A3:=(⟨_,by intro a;conv=>lhs;cbv⟩:{ c:A1→A3 // ∀ a,gF Tryz.f68 [(0,a)]=some (c a) }).1 Agc
def A9b:A3:=(⟨_,by conv=>lhs;cbv⟩:{ c // gF Tryz.f72 []=some c }).1
def Agg:A1:=(⟨_,by conv=>lhs;cbv⟩:{ c // gL Tryz.f76 0 []=some c }).1
def A46:A3:=(⟨_,by intro a;conv=>lhs;cbv⟩:{ c:A1→A3 // ∀ a,gF Tryz.f76 [(0,a)]=some (c a) }).1 Agg
def A9g:A3:=(⟨_,by conv=>lhs;cbv⟩:{ c // gF Tryz.f80 []=some c }).1
def A9k:A3:=(⟨_,by conv=>lhs;cbv⟩:{ c // gF Tryz.f84 []=some c }).1
def Agl:A1:=(⟨_,by conv=>lhs;cbv⟩:{ c // gL Tryz.f93 0 [] [[[0],[1],[2],[3],[4],[5],[6],[7],[8],[9],[10],[11]],[[0],[1],[2],[3],[4],[5],[6],[7],[8],[9],[10],[11,1],[12],[13]]]=some c }).1
def A9m:A3:=(⟨_,by intro a;conv=>lhs;cbv⟩:{ c:A1→A3 // ∀ a,gF Tryz.f93 [(0,a)]=some (c a) }).1 Agl
def A9q:A3:=(⟨_,by conv=>lhs;cbv⟩:{ c // gF Tryz.f97 []=some c }).1
def AgO:A1:=(⟨_,by conv=>lhs;cbv⟩:{ c // gL Tryz.f108 2 []=some c }).1
def Agp:A1:=(⟨_,by intro a;conv=>lhs;cbv⟩:{ c:A1→A1 // ∀ a,gL Tryz.f108 0 [(2,a)]=some (c a) }).1 AgO
def AeF:A3:=(⟨_,by intro a;conv=>lhs;cbv⟩:{ c:A1→A3 // ∀ a,gF Tryz.f108 [(0,a)]=some (c a) }).1 Agp
def Agr:A1:=(⟨_,by conv=>lhs;cbv⟩:{ c // gL Tryz.f112 0 [] [[[0],[1],[2],[3],[4],[5],[6],[7],[8],[9],[10],[11],[12],[13],[14],[15],[16],[17,15,12],[18]],[[0],[1],[2],[3],[4],[5],[6],[7],[8],[9],[10],[11],[12],[13],[14],[15],[16],[17],[18],[19]]]=some c }).1
def A48:A3:=(⟨_,by intro a;conv=>lhs;cbv⟩:{ c:A1→A3 // ∀ a,gF Tryz.f112 [(0,a)]=some (c a) }).1 Agr
def Z9:A3:=(⟨_,by conv=>lhs;cbv⟩:{ c // gF Tryz.f118 []=some c }).1
def Agu:A1:=(⟨_,by conv=>lhs;cbv⟩:{ c // gL Tryz.f122 0 []=some c }).1
def A9v:A3:=(⟨_,by intro a;conv=>lhs;cbv⟩:{ c:A1→A3 // ∀ a,gF Tryz.f122 [(0,a)]=some (c a) }).1 Agu
def Rt:A3:=(⟨_,by conv=>lhs;cbv⟩:{ c // gF Tryz.f126 []=some c }).1
def Agy:A1:=(⟨_,by conv=>lhs;cbv⟩:{ c // gL Tryz.f130 0 []=some c }).1
def AeH:A3:=(⟨_,by intro a;conv=>lhs;cbv⟩:{ c:A1→A3 // ∀ a,gF Tryz.f130 [(0,a)]=some (c a) }).1 Agy
def Ah0:A1:=(⟨_,by conv=>lhs;cbv⟩:{ c // gL Tryz.f134 4 []=some c }).1
def AgT:A1:=(⟨_,by intro a;conv=>lhs;cbv⟩:{ c:A1→A1 // ∀ a,gL Tryz.f134 2 [(4,a)]=some (c a) }).1 Ah0
def AgA:A1:=(⟨_,by intro a;conv=>lhs;cbv⟩:{ c:A1→A1 // ∀ a,gL Tryz.f134 0 [(2,a)]=some (c a) }).1 AgT
def AeK:A3:=(⟨_,by intro a;conv=>lhs;cbv⟩:{ c:A1→A3 // ∀ a,gF Tryz.f134 [(0,a)]=some (c a) }).1 AgA
def AgB:A1:=(⟨_,by conv=>lhs;cbv⟩:{ c // gL Tryz.f138 0 []=some c }).1
def A9A:A3:=(⟨_,by intro a;conv=>lhs;cbv⟩:{ c:A1→A3 // ∀ a,gF Tryz.f138 [(0,a)]=some (c a) }).1 AgB
def A1b:A3:=(⟨_,by conv=>lhs;cbv⟩:{ c // gF Tryz.f142 []=some c }).1
def Rg:A3:=(⟨_,by conv=>lhs;cbv⟩:{ c // gF Tryz.f146 []=some c }).1
def V5:A3:=(⟨_,by conv=>lhs;cbv⟩:{ c // gF Tryz.f152 []=some c }).1
def A8M:A3:=(⟨_,by conv=>lhs;cbv⟩:{ c // gF Tryz.f157 [] [[[0],[1],[2],[3],[4],[5],[6],[7],[8],[9]],[[0],[1],[2],[3],[4],[5],[6],[7],[8],[9,6,2,0],[10],[11]]]=some c }).1
def AcO:A1:=(⟨_,by conv=>lhs;cbv⟩:{ c // gL Tryz.f161 0 []=some c }).1
def A1j:A3:=(⟨_,by intro a;conv=>lhs;cbv⟩:{ c:A1→A3 // ∀ a,gF Tryz.f161 [(0,a)]=some (c a) }).1 AcO
def Adi:A1:=(⟨_,by conv=>lhs;cbv⟩:{ c // gL Tryz.f166 2 []=some c }).1
def AcR:A1:=(⟨_,by conv=>lhs;cbv⟩:{ c // gL Tryz.f166 0 []=some c }).1
def V8:A3:=(⟨_,by intro a b;conv=>lhs;cbv⟩:{ c:A1→A1→A3 // ∀ a b,gF Tryz.f166 [(0,a),(2,b)]=some (c a b) }).1 AcR Adi
def Nw:A1:=(⟨_,by conv=>lhs;cbv⟩:{ c // gL Tryz.f170 0 []=some c }).1
def A1n:A3:=(⟨_,by intro a;conv=>lhs;cbv⟩:{ c:A1→A3 // ∀ a,gF Tryz.f170 [(0,a)]=some (c a) }).1 Nw
def A1r:A3:=(⟨_,by conv=>lhs;cbv⟩:{ c // gF Tryz.f174 []=some c }).1
def Va:A3:=(⟨_,by conv=>lhs;cbv⟩:{ c // gF Tryz.f178 []=some c }).1
def AcY:A1:=(⟨_,by conv=>lhs;cbv⟩:{ c // gL Tryz.f182 0 []=some c }).1
def A1u:A3:=(⟨_,by intro a;conv=>lhs;cbv⟩:{ c:A1→A3 // ∀ a,gF Tryz.f182 [(0,a)]=some (c a) }).1 AcY
def Adl:A1:=(⟨_,by conv=>lhs;cbv⟩:{ c // gL Tryz.f186 2 [] [[[0],[1],[2],[3],[4],[5],[6],[7],[8],[9]],[[0],[1],[2],[3],[4],[5],[6],[7],[8],[9],[10],[11],[12],[13],[14],[15],[16],[17],[18],[19],[20],[21],[22],[23],[24],[25],[26],[27],[28],[29],[30],[31],[32]]]=some c }).1
def AcZ:A1:=(⟨_,by conv=>lhs;cbv⟩:{ c // gL Tryz.f186 0 [] [[[0],[1],[2],[3],[4],[5],[6],[7],[8],[9],[10],[11],[12],[13],[14],[15],[16],[17],[18],[19],[20],[21],[22]]]=some c }).1
def A8P:A3:=(⟨_,by intro a b;conv=>lhs;cbv⟩:{ c:A1→A1→A3 // ∀ a b,gF Tryz.f186 [(0,a),(2,b)]=some (c a b) }).1 AcZ Adl
def Vd:A3:=(⟨_,by conv=>lhs;cbv⟩:{ c // gF Tryz.f190 []=some c }).1
def A1A:A3:=(⟨_,by conv=>lhs;cbv⟩:{ c // gF Tryz.f196 []=some c }).1
def Rl:A3:=(⟨_,by conv=>lhs;cbv⟩:{ c // gF Tryz.f201 [] [[[0],[1],[2],[3],[4],[5],[6],[7],[8],[9],[10],[11],[12],[13],[14],[15],[16],[17],[18],[19],[20],[21],[22],[23],[24],[25]],[[0],[1],[2],[3],[4],[5],[6],[7],[8],[9],[10],[11],[12]]]=some c }).1
def Vv:A1:=(⟨_,by conv=>lhs;cbv⟩:{ c // gL Tryz.f208 0 []=some c }).1
def A1G:A3:=(⟨_,by intro a;conv=>lhs;cbv⟩:{ c:A1→A3 // ∀ a,gF Tryz.f208 [(0,a)]=some (c a) }).1 Vv
def A1J:A3:=(⟨_,by conv=>lhs;cbv⟩:{ c // gF Tryz.f212 []=some c }).1
def A1M:A3:=(⟨_,by conv=>lhs;cbv⟩:{ c // gF Tryz.f216 []=some c }).1
def Ad7:A1:=(⟨_,by conv=>lhs;cbv⟩:{ c // gL Tryz.f220 0 []=some c }).1
def A1P:A3:=(⟨_,by intro a;conv=>lhs;cbv⟩:{ c:A1→A3 // ∀ a,gF Tryz.f220 [(0,a)]=some (c a) }).1 Ad7
def Rp:A3:=(⟨_,by conv=>lhs;cbv⟩:{ c // gF Tryz.f224 []=some c }).1
def Vf:A3:=(⟨_,by conv=>lhs;cbv⟩:{ c // gF Tryz.f228 []=some c }).1
def Adb:A1:=(⟨_,by conv=>lhs;cbv⟩:{ c // gL Tryz.f232 0 []=some c }).1
def A1Y:A3:=(⟨_,by intro a;conv=>lhs;cbv⟩:{ c:A1→A3 // ∀ a,gF Tryz.f232 [(0,a)]=some (c a) }).1 Adb
def Adc:A1:=(⟨_,by conv=>lhs;cbv⟩:{ c // gL Tryz.f236 0 []=some c }).1
def A20:A3:=(⟨_,by intro a;conv=>lhs;cbv⟩:{ c:A1→A3 // ∀ a,gF Tryz.f236 [(0,a)]=some (c a) }).1 Adc
def Rr:A3:=(⟨_,by conv=>lhs;cbv⟩:{ c // gF Tryz.f240 [] [[[0],[1],[2],[3],[4],[5],[6],[7],[8],[9],[10],[11],[12],[13],[14],[15],[16],[17],[18],[19],[20],[21,18,15],[22]]]=some c }).1
def A26:A3:=(⟨_,by conv=>lhs;cbv⟩:{ c // gF Tryz.f244 []=some c }).1
def A29:A3:=(⟨_,by conv=>lhs;cbv⟩:{ c // gF Tryz.f248 []=some c }).1
def Pg:A3:=(⟨_,by conv=>lhs;cbv⟩:{ c // gF Tryz.f252 []=some c }).1
def A2g:A3:=(⟨_,by conv=>lhs;cbv⟩:{ c // gF Tryz.f256 []=some c }).1
def A4r:A1:=(⟨_,by conv=>lhs;cbv⟩:{ c // gL Tryz.f260 0 []=some c }).1
def A2k:A3:=(⟨_,by intro a;conv=>lhs;cbv⟩:{ c:A1→A3 // ∀ a,gF Tryz.f260 [(0,a)]=some (c a) }).1 A4r
end Go.AM
