/-
  Own work, part of the proof of these laws: the code of the functions that the law reaches, as the machine has it; read off the program as the text is compiled.
-/
import Derived.Test.YtpnaenhghnkggabGreatDoorCoA
set_option maxRecDepth 10000
set_option maxHeartbeats 64000000
set_option linter.unusedVariables false
set_option linter.unusedSimpArgs false
set_option maxRecDepth 100000
set_option maxHeartbeats 4000000
namespace Go.AM
open Go Go.Proofs
def Amc:A1:=(⟨_,by conv=>lhs;cbv⟩:{ c // gL Tryz.f3 0 []=some c }).1
def A7B:A4:=(⟨_,by intro a;conv=>lhs;cbv⟩:{ c:A1->A4 // ∀ a,gF Tryz.f3 [(0,a)] [[[0],[1],[3],[4],[2,4,3],[5],[6],[7],[8],[9],[11],[12],[10,12,11],[13],[14],[15],[16],[17],[18],[19],[21],[22],[23],[20,22,21],[24],[25],[26],[27]]]=some (c a) }).1 Amc
def Ami:A1:=(⟨_,by conv=>lhs;cbv⟩:{ c // gL Tryz.f5 2 [] [[[0],[1],[2],[3],[4],[5],[6],[7],[8],[9],[10],[11],[12],[13],[14],[15],[16],[17],[18],[19],[20],[21],[22],[23],[24]]]=some c }).1
def Ame:A1:=(⟨_,by intro a;conv=>lhs;cbv⟩:{ c:A1->A1 // ∀ a,gL Tryz.f5 0 [(2,a)]=some (c a) }).1 Ami
def A9T:A4:=(⟨_,by intro a;conv=>lhs;cbv⟩:{ c:A1->A4 // ∀ a,gF Tryz.f5 [(0,a)]=some (c a) }).1 Ame
def Amj:A1:=(⟨_,by conv=>lhs;cbv⟩:{ c // gL Tryz.f8 2 []=some c }).1
def Amf:A1:=(⟨_,by intro a;conv=>lhs;cbv⟩:{ c:A1->A1 // ∀ a,gL Tryz.f8 0 [(2,a)]=some (c a) }).1 Amj
def Aaa:A4:=(⟨_,by intro a;conv=>lhs;cbv⟩:{ c:A1->A4 // ∀ a,gF Tryz.f8 [(0,a)]=some (c a) }).1 Amf
def Qz:A1:=(⟨_,by conv=>lhs;cbv⟩:{ c // gL Tryz.f11 2 []=some c }).1
def ZZ:A1:=(⟨_,by intro a;conv=>lhs;cbv⟩:{ c:A1->A1 // ∀ a,gL Tryz.f11 0 [(2,a)]=some (c a) }).1 Qz
def Aap:A4:=(⟨_,by intro a;conv=>lhs;cbv⟩:{ c:A1->A4 // ∀ a,gF Tryz.f11 [(0,a)]=some (c a) }).1 ZZ
def ZE:A4:=(⟨_,by conv=>lhs;cbv⟩:{ c // gF Tryz.f13 []=some c }).1
def Aiy:A1:=(⟨_,by conv=>lhs;cbv⟩:{ c // gL Tryz.f15 2 []=some c }).1
def AhX:A1:=(⟨_,by conv=>lhs;cbv⟩:{ c // gL Tryz.f15 0 []=some c }).1
def A55:A4:=(⟨_,by intro a b;conv=>lhs;cbv⟩:{ c:A1->A1->A4 // ∀ a b,gF Tryz.f15 [(0,a),(2,b)]=some (c a b) }).1 AhX Aiy
def A56:A4:=(⟨_,by conv=>lhs;cbv⟩:{ c // gF Tryz.f18 []=some c }).1
def Ai0:A1:=(⟨_,by conv=>lhs;cbv⟩:{ c // gL Tryz.f22 0 []=some c }).1
def A9R:A4:=(⟨_,by intro a;conv=>lhs;cbv⟩:{ c:A1->A4 // ∀ a,gF Tryz.f22 [(0,a)]=some (c a) }).1 Ai0
def A9V:A4:=(⟨_,by conv=>lhs;cbv⟩:{ c // gF Tryz.f24 []=some c }).1
def Aix:A1:=(⟨_,by conv=>lhs;cbv⟩:{ c // gL Tryz.f30 1 []=some c }).1
def Ju:A4:=(⟨_,by intro a;conv=>lhs;cbv⟩:{ c:A1->A4 // ∀ a,gF Tryz.f30 [(1,a)] [[[0],[1],[2],[3],[4],[5],[6],[7],[8],[9],[10],[11],[12],[13],[14]],[[0],[1],[2],[3],[4],[5],[6],[7],[8],[13],[9],[10],[11],[12],[14],[15]],[[0],[1],[2],[3],[4],[5],[6],[7],[8],[9],[10],[11],[12]]]=some (c a) }).1 Aix
def A9Z:A4:=(⟨_,by conv=>lhs;cbv⟩:{ c // gF Tryz.f33 []=some c }).1
def AiC:A1:=(⟨_,by conv=>lhs;cbv⟩:{ c // gL Tryz.f39 2 []=some c }).1
def Ai3:A1:=(⟨_,by intro a;conv=>lhs;cbv⟩:{ c:A1->A1 // ∀ a,gL Tryz.f39 0 [(2,a)]=some (c a) }).1 AiC
def Aa4:A4:=(⟨_,by intro a;conv=>lhs;cbv⟩:{ c:A1->A4 // ∀ a,gF Tryz.f39 [(0,a)]=some (c a) }).1 Ai3
def Ai4:A1:=(⟨_,by conv=>lhs;cbv⟩:{ c // gL Tryz.f45 0 []=some c }).1
def Aa5:A4:=(⟨_,by intro a;conv=>lhs;cbv⟩:{ c:A1->A4 // ∀ a,gF Tryz.f45 [(0,a)]=some (c a) }).1 Ai4
def Ai6:A1:=(⟨_,by conv=>lhs;cbv⟩:{ c // gL Tryz.f47 0 []=some c }).1
def Aa7:A4:=(⟨_,by intro a;conv=>lhs;cbv⟩:{ c:A1->A4 // ∀ a,gF Tryz.f47 [(0,a)]=some (c a) }).1 Ai6
def Aa9:A4:=(⟨_,by conv=>lhs;cbv⟩:{ c // gF Tryz.f49 []=some c }).1
def AiF:A1:=(⟨_,by conv=>lhs;cbv⟩:{ c // gL Tryz.f53 2 [] [[[0],[1],[2],[3],[4],[5],[6],[7],[8],[9]],[[0],[1],[2],[3],[4],[5],[6],[7],[8],[9],[10],[11],[12],[13],[14],[15],[16,4],[17],[18]]]=some c }).1
def Aia:A1:=(⟨_,by intro a;conv=>lhs;cbv⟩:{ c:A1->A1 // ∀ a,gL Tryz.f53 0 [(2,a)]=some (c a) }).1 AiF
def Agg:A4:=(⟨_,by intro a;conv=>lhs;cbv⟩:{ c:A1->A4 // ∀ a,gF Tryz.f53 [(0,a)]=some (c a) }).1 Aia
def AiG:A1:=(⟨_,by conv=>lhs;cbv⟩:{ c // gL Tryz.f55 2 []=some c }).1
def Aic:A1:=(⟨_,by intro a;conv=>lhs;cbv⟩:{ c:A1->A1 // ∀ a,gL Tryz.f55 0 [(2,a)]=some (c a) }).1 AiG
def Agi:A4:=(⟨_,by intro a;conv=>lhs;cbv⟩:{ c:A1->A4 // ∀ a,gF Tryz.f55 [(0,a)]=some (c a) }).1 Aic
def AiI:A1:=(⟨_,by conv=>lhs;cbv⟩:{ c // gL Tryz.f57 2 []=some c }).1
def Aie:A1:=(⟨_,by intro a;conv=>lhs;cbv⟩:{ c:A1->A1 // ∀ a,gL Tryz.f57 0 [(2,a)]=some (c a) }).1 AiI
def Agk:A4:=(⟨_,by intro a;conv=>lhs;cbv⟩:{ c:A1->A4 // ∀ a,gF Tryz.f57 [(0,a)]=some (c a) }).1 Aie
def UD:A1:=(⟨_,by conv=>lhs;cbv⟩:{ c // gL Tryz.f64 0 []=some c }).1
def Aac:A4:=(⟨_,by intro a;conv=>lhs;cbv⟩:{ c:A1->A4 // ∀ a,gF Tryz.f64 [(0,a)]=some (c a) }).1 UD
def Ain:A1:=(⟨_,by conv=>lhs;cbv⟩:{ c // gL Tryz.f81 0 []=some c }).1
def Aan:A4:=(⟨_,by intro a;conv=>lhs;cbv⟩:{ c:A1->A4 // ∀ a,gF Tryz.f81 [(0,a)]=some (c a) }).1 Ain
def Aaq:A4:=(⟨_,by conv=>lhs;cbv⟩:{ c // gF Tryz.f83 []=some c }).1
def Ais:A1:=(⟨_,by conv=>lhs;cbv⟩:{ c // gL Tryz.f90 0 []=some c }).1
def Aat:A4:=(⟨_,by intro a;conv=>lhs;cbv⟩:{ c:A1->A4 // ∀ a,gF Tryz.f90 [(0,a)]=some (c a) }).1 Ais
def AiU:A1:=(⟨_,by conv=>lhs;cbv⟩:{ c // gL Tryz.f92 4 []=some c }).1
def AiM:A1:=(⟨_,by intro a;conv=>lhs;cbv⟩:{ c:A1->A1 // ∀ a,gL Tryz.f92 2 [(4,a)] [[[0],[1],[2],[3],[4],[5],[6],[7],[8],[9]],[[0],[1],[2],[3],[4],[5],[6],[7],[8],[9],[10],[11],[12],[13],[14],[15],[16],[17],[18],[19],[20],[21],[22],[23],[24],[25],[26],[27],[28],[29],[30],[31]]]=some (c a) }).1 AiU
def Aiu:A1:=(⟨_,by intro a;conv=>lhs;cbv⟩:{ c:A1->A1 // ∀ a,gL Tryz.f92 0 [(2,a)] [[[0],[1],[2],[3],[4],[5],[6],[7],[8],[9],[10],[11],[12],[13],[14],[15],[16],[17],[18],[19],[20],[21],[22],[23],[24],[25],[26],[27],[28],[29],[30]],[[0],[1],[2],[3],[4],[5],[6],[7],[8],[9]]]=some (c a) }).1 AiM
def Agp:A4:=(⟨_,by intro a;conv=>lhs;cbv⟩:{ c:A1->A4 // ∀ a,gF Tryz.f92 [(0,a)]=some (c a) }).1 Aiu
def AiN:A1:=(⟨_,by conv=>lhs;cbv⟩:{ c // gL Tryz.f95 2 []=some c }).1
def GF:A1:=(⟨_,by intro a;conv=>lhs;cbv⟩:{ c:A1->A1 // ∀ a,gL Tryz.f95 0 [(2,a)]=some (c a) }).1 AiN
def Agq:A4:=(⟨_,by intro a;conv=>lhs;cbv⟩:{ c:A1->A4 // ∀ a,gF Tryz.f95 [(0,a)]=some (c a) }).1 GF
def Agr:A4:=(⟨_,by conv=>lhs;cbv⟩:{ c // gF Tryz.f97 []=some c }).1
def A1U:A4:=(⟨_,by conv=>lhs;cbv⟩:{ c // gF Tryz.f113 []=some c }).1
def A27:A4:=(⟨_,by conv=>lhs;cbv⟩:{ c // gF Tryz.f129 []=some c }).1
def Ub:A4:=(⟨_,by conv=>lhs;cbv⟩:{ c // gF Tryz.f132 []=some c }).1
def Af1:A1:=(⟨_,by conv=>lhs;cbv⟩:{ c // gL Tryz.f139 2 [] [[[0],[1],[2],[3],[4],[5],[6],[7],[8],[9]],[[0],[1],[2],[3],[4],[5],[6],[7],[8],[9],[10],[11],[12],[13],[14],[15],[16],[17],[18],[19],[20],[21],[22],[23],[24],[25],[26],[27],[28],[29],[30],[31],[32]]]=some c }).1
def Aey:A1:=(⟨_,by conv=>lhs;cbv⟩:{ c // gL Tryz.f139 0 [] [[[0],[1],[2],[3],[4],[5],[6],[7],[8],[9],[10],[11],[12],[13],[14],[15],[16],[17],[18],[19],[20],[21],[22]]]=some c }).1
def A29:A4:=(⟨_,by intro a b;conv=>lhs;cbv⟩:{ c:A1->A1->A4 // ∀ a b,gF Tryz.f139 [(0,a),(2,b)]=some (c a b) }).1 Aey Af1
def Af2:A1:=(⟨_,by conv=>lhs;cbv⟩:{ c // gL Tryz.f141 2 [] [[[0],[1],[2],[3],[4],[5],[6],[7],[8],[9]],[[0],[1],[2],[3],[4],[5],[6],[7],[8],[9],[10],[11],[12],[13],[14],[15],[16],[17],[18],[19],[20],[21],[22]]]=some c }).1
def AeA:A1:=(⟨_,by intro a;conv=>lhs;cbv⟩:{ c:A1->A1 // ∀ a,gL Tryz.f141 0 [(2,a)]=some (c a) }).1 Af2
def A9J:A4:=(⟨_,by intro a;conv=>lhs;cbv⟩:{ c:A1->A4 // ∀ a,gF Tryz.f141 [(0,a)]=some (c a) }).1 AeA
def LH:A4:=(⟨_,by conv=>lhs;cbv⟩:{ c // gF Tryz.f180 []=some c }).1
def A2U:A4:=(⟨_,by conv=>lhs;cbv⟩:{ c // gF Tryz.f215 []=some c }).1
def A2W:A4:=(⟨_,by conv=>lhs;cbv⟩:{ c // gF Tryz.f217 []=some c }).1
end Go.AM
