/-
  Own work, part of the proof of these laws: the code of the functions that the law reaches, as the machine has it; read off the program as the text is compiled.
-/
import Derived.Test.YtpnaenhghnkggaaGreatDoorCoA
set_option maxRecDepth 10000
set_option maxHeartbeats 64000000
set_option linter.unusedVariables false
set_option linter.unusedSimpArgs false
set_option maxRecDepth 100000
set_option maxHeartbeats 4000000
namespace Go.AM
open Go Go.Proofs
def Aj8:A4:=(⟨_,by conv=>lhs;cbv⟩:{ c // gL Tryz.f6 2 [] [[[0],[1],[2],[3],[4],[5],[6],[7],[8],[9],[10],[11],[12],[13],[14],[15],[16],[17],[18],[19],[20,17,15,12,10],[21]],[[0],[1],[2],[3],[4],[5],[6],[7],[8],[9],[10],[12],[13],[14],[15],[16],[17],[18],[19],[20],[21],[22],[11,22,19,17,14],[23],[24],[25]]]=some c }).1
def Aj5:A4:=(⟨_,by intro a;conv=>lhs;cbv⟩:{ c:A4->A4 // ∀ a,gL Tryz.f6 0 [(2,a)]=some (c a) }).1 Aj8
def A8L:A3:=(⟨_,by intro a;conv=>lhs;cbv⟩:{ c:A4->A3 // ∀ a,gF Tryz.f6 [(0,a)]=some (c a) }).1 Aj5
def Aja:A4:=(⟨_,by conv=>lhs;cbv⟩:{ c // gL Tryz.f11 4 []=some c }).1
def Aj9:A4:=(⟨_,by intro a;conv=>lhs;cbv⟩:{ c:A4->A4 // ∀ a,gL Tryz.f11 2 [(4,a)]=some (c a) }).1 Aja
def Aj6:A4:=(⟨_,by conv=>lhs;cbv⟩:{ c // gL Tryz.f11 0 []=some c }).1
def A6K:A3:=(⟨_,by intro a b;conv=>lhs;cbv⟩:{ c:A4->A4->A3 // ∀ a b,gF Tryz.f11 [(0,a),(2,b)]=some (c a b) }).1 Aj6 Aj9
def A8A:A3:=(⟨_,by conv=>lhs;cbv⟩:{ c // gF Tryz.f20 []=some c }).1
def A3G:A3:=(⟨_,by conv=>lhs;cbv⟩:{ c // gF Tryz.f22 []=some c }).1
def A3H:A3:=(⟨_,by conv=>lhs;cbv⟩:{ c // gF Tryz.f24 []=some c }).1
def AdZ:A3:=(⟨_,by conv=>lhs;cbv⟩:{ c // gF Tryz.f28 []=some c }).1
def A8T:A3:=(⟨_,by conv=>lhs;cbv⟩:{ c // gF Tryz.f48 []=some c }).1
def AfU:A4:=(⟨_,by conv=>lhs;cbv⟩:{ c // gL Tryz.f61 4 []=some c }).1
def AfN:A4:=(⟨_,by intro a;conv=>lhs;cbv⟩:{ c:A4->A4 // ∀ a,gL Tryz.f61 2 [(4,a)]=some (c a) }).1 AfU
def Afv:A4:=(⟨_,by conv=>lhs;cbv⟩:{ c // gL Tryz.f61 0 []=some c }).1
def A8W:A3:=(⟨_,by intro a b;conv=>lhs;cbv⟩:{ c:A4->A4->A3 // ∀ a b,gF Tryz.f61 [(0,a),(2,b)]=some (c a b) }).1 Afv AfN
def Afw:A4:=(⟨_,by conv=>lhs;cbv⟩:{ c // gL Tryz.f63 0 []=some c }).1
def A3L:A3:=(⟨_,by intro a;conv=>lhs;cbv⟩:{ c:A4->A3 // ∀ a,gF Tryz.f63 [(0,a)]=some (c a) }).1 Afw
def Afy:A4:=(⟨_,by conv=>lhs;cbv⟩:{ c // gL Tryz.f65 0 []=some c }).1
def A8Y:A3:=(⟨_,by intro a;conv=>lhs;cbv⟩:{ c:A4->A3 // ∀ a,gF Tryz.f65 [(0,a)]=some (c a) }).1 Afy
def A90:A3:=(⟨_,by conv=>lhs;cbv⟩:{ c // gF Tryz.f67 []=some c }).1
def Pc:A3:=(⟨_,by conv=>lhs;cbv⟩:{ c // gF Tryz.f114 []=some c }).1
def Acf:A4:=(⟨_,by conv=>lhs;cbv⟩:{ c // gL Tryz.f116 0 [] [[[0],[1],[2],[3],[4],[5],[6],[7],[8],[9],[10],[11],[12],[13],[14],[16],[17],[18],[15,18,11,9,7,5,3,1],[19,11,9,7,5,3,1],[20],[21]]]=some c }).1
def A0T:A3:=(⟨_,by intro a;conv=>lhs;cbv⟩:{ c:A4->A3 // ∀ a,gF Tryz.f116 [(0,a)]=some (c a) }).1 Acf
def SR:A3:=(⟨_,by conv=>lhs;cbv⟩:{ c // gF Tryz.f118 []=some c }).1
def A0V:A3:=(⟨_,by conv=>lhs;cbv⟩:{ c // gF Tryz.f122 []=some c }).1
def AcN:A4:=(⟨_,by conv=>lhs;cbv⟩:{ c // gL Tryz.f126 2 []=some c }).1
def Ach:A4:=(⟨_,by intro a;conv=>lhs;cbv⟩:{ c:A4->A4 // ∀ a,gL Tryz.f126 0 [(2,a)]=some (c a) }).1 AcN
def A0Y:A3:=(⟨_,by intro a;conv=>lhs;cbv⟩:{ c:A4->A3 // ∀ a,gF Tryz.f126 [(0,a)]=some (c a) }).1 Ach
def SU:A3:=(⟨_,by conv=>lhs;cbv⟩:{ c // gF Tryz.f128 []=some c }).1
def Acq:A4:=(⟨_,by conv=>lhs;cbv⟩:{ c // gL Tryz.f174 0 []=some c }).1
def A1q:A3:=(⟨_,by intro a;conv=>lhs;cbv⟩:{ c:A4->A3 // ∀ a,gF Tryz.f174 [(0,a)]=some (c a) }).1 Acq
def AcP:A4:=(⟨_,by conv=>lhs;cbv⟩:{ c // gL Tryz.f176 2 []=some c }).1
def Acr:A4:=(⟨_,by intro a;conv=>lhs;cbv⟩:{ c:A4->A4 // ∀ a,gL Tryz.f176 0 [(2,a)]=some (c a) }).1 AcP
def T3:A3:=(⟨_,by intro a;conv=>lhs;cbv⟩:{ c:A4->A3 // ∀ a,gF Tryz.f176 [(0,a)]=some (c a) }).1 Acr
def A1s:A3:=(⟨_,by conv=>lhs;cbv⟩:{ c // gF Tryz.f180 []=some c }).1
def A1S:A3:=(⟨_,by conv=>lhs;cbv⟩:{ c // gF Tryz.f216 []=some c }).1
end Go.AM
