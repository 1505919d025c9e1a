/-
  Own work, part of the proof of CoheExec: the code of the functions that the law reaches, as the machine has it; read off the program as the text is compiled.
-/
import Derived.Test.YtpcpldaangchaaaGreatDoorCoA
set_option maxRecDepth 4000
set_option linter.unusedVariables false
set_option linter.unusedSimpArgs false
set_option linter.unusedSectionVars false
set_option linter.unnecessarySimpa false
set_option maxRecDepth 100000
set_option maxHeartbeats 4000000
namespace Go.AM
open Go Go.Proofs
def Ag2:A2:=(⟨_,by conv=>lhs;cbv⟩:{ c // gF Tryz.f9 []=some c }).1
def Ac7:A2:=(⟨_,by conv=>lhs;cbv⟩:{ c // gF Tryz.f16 []=some c }).1
def Agg:A1:=(⟨_,by conv=>lhs;cbv⟩:{ c // gL Tryz.f20 0 []=some c }).1
def A98:A2:=(⟨_,by intro a;conv=>lhs;cbv⟩:{ c:A1→A2 // ∀ a,gF Tryz.f20 [(0,a)]=some (c a) }).1 Agg
def Acl:A1:=(⟨_,by conv=>lhs;cbv⟩:{ c // gL Tryz.f32 0 []=some c }).1
def AaR:A2:=(⟨_,by intro a;conv=>lhs;cbv⟩:{ c:A1→A2 // ∀ a,gF Tryz.f32 [(0,a)]=some (c a) }).1 Acl
def AaU:A2:=(⟨_,by conv=>lhs;cbv⟩:{ c // gF Tryz.f41 []=some c }).1
def AcX:A1:=(⟨_,by conv=>lhs;cbv⟩:{ c // gL Tryz.f47 2 []=some c }).1
def Acn:A1:=(⟨_,by intro a;conv=>lhs;cbv⟩:{ c:A1→A1 // ∀ a,gL Tryz.f47 0 [(2,a)]=some (c a) }).1 AcX
def WO:A2:=(⟨_,by intro a;conv=>lhs;cbv⟩:{ c:A1→A2 // ∀ a,gF Tryz.f47 [(0,a)]=some (c a) }).1 Acn
def AcY:A1:=(⟨_,by conv=>lhs;cbv⟩:{ c // gL Tryz.f52 2 [] [[[0],[1],[2],[3],[4],[5],[6],[7],[8],[9]],[[0],[1],[2],[3],[4],[5],[6],[7],[8],[9],[10],[11],[12],[13],[14],[15],[16,4],[17],[18]]]=some c }).1
def Acp:A1:=(⟨_,by intro a;conv=>lhs;cbv⟩:{ c:A1→A1 // ∀ a,gL Tryz.f52 0 [(2,a)]=some (c a) }).1 AcY
def A5R:A2:=(⟨_,by intro a;conv=>lhs;cbv⟩:{ c:A1→A2 // ∀ a,gF Tryz.f52 [(0,a)]=some (c a) }).1 Acp
def Adb:A1:=(⟨_,by conv=>lhs;cbv⟩:{ c // gL Tryz.f56 4 []=some c }).1
def AcZ:A1:=(⟨_,by intro a;conv=>lhs;cbv⟩:{ c:A1→A1 // ∀ a,gL Tryz.f56 2 [(4,a)]=some (c a) }).1 Adb
def Acq:A1:=(⟨_,by conv=>lhs;cbv⟩:{ c // gL Tryz.f56 0 []=some c }).1
def A5V:A2:=(⟨_,by intro a b;conv=>lhs;cbv⟩:{ c:A1→A1→A2 // ∀ a b,gF Tryz.f56 [(0,a),(2,b)]=some (c a b) }).1 Acq AcZ
def A1s:A2:=(⟨_,by conv=>lhs;cbv⟩:{ c // gF Tryz.f60 []=some c }).1
def Acs:A1:=(⟨_,by conv=>lhs;cbv⟩:{ c // gL Tryz.f64 0 []=some c }).1
def A5X:A2:=(⟨_,by intro a;conv=>lhs;cbv⟩:{ c:A1→A2 // ∀ a,gF Tryz.f64 [(0,a)]=some (c a) }).1 Acs
def A60:A2:=(⟨_,by conv=>lhs;cbv⟩:{ c // gF Tryz.f71 []=some c }).1
def Acy:A1:=(⟨_,by conv=>lhs;cbv⟩:{ c // gL Tryz.f86 0 [] [[[0],[1],[2],[3],[4],[5],[6],[7],[8],[9],[10],[11],[12],[13],[14],[15],[16],[17,15,12],[18]],[[0],[1],[2],[3],[4],[5],[6],[7],[8],[9],[10],[11],[12],[13],[14],[15],[16],[17],[18],[19]]]=some c }).1
def AaY:A2:=(⟨_,by intro a;conv=>lhs;cbv⟩:{ c:A1→A2 // ∀ a,gF Tryz.f86 [(0,a)]=some (c a) }).1 Acy
def AcC:A1:=(⟨_,by conv=>lhs;cbv⟩:{ c // gL Tryz.f90 0 []=some c }).1
def Ab0:A2:=(⟨_,by intro a;conv=>lhs;cbv⟩:{ c:A1→A2 // ∀ a,gF Tryz.f90 [(0,a)]=some (c a) }).1 AcC
def PW:A1:=(⟨_,by conv=>lhs;cbv⟩:{ c // gL Tryz.f97 6 []=some c }).1
def Ade:A1:=(⟨_,by conv=>lhs;cbv⟩:{ c // gL Tryz.f97 4 []=some c }).1
def Ad2:A1:=(⟨_,by conv=>lhs;cbv⟩:{ c // gL Tryz.f97 2 []=some c }).1
def AcE:A1:=(⟨_,by conv=>lhs;cbv⟩:{ c // gL Tryz.f97 0 []=some c }).1
def A1u:A2:=(⟨_,by intro a b d e;conv=>lhs;cbv⟩:{ c:A1→A1→A1→A1→A2 // ∀ a b d e,gF Tryz.f97 [(0,a),(2,b),(4,d),(6,e)]=some (c a b d e) }).1 AcE Ad2 Ade PW
def WU:A2:=(⟨_,by conv=>lhs;cbv⟩:{ c // gF Tryz.f102 []=some c }).1
def Ad3:A1:=(⟨_,by conv=>lhs;cbv⟩:{ c // gL Tryz.f111 2 []=some c }).1
def AcF:A1:=(⟨_,by intro a;conv=>lhs;cbv⟩:{ c:A1→A1 // ∀ a,gL Tryz.f111 0 [(2,a)]=some (c a) }).1 Ad3
def A1w:A2:=(⟨_,by intro a;conv=>lhs;cbv⟩:{ c:A1→A2 // ∀ a,gF Tryz.f111 [(0,a)]=some (c a) }).1 AcF
def A1z:A2:=(⟨_,by conv=>lhs;cbv⟩:{ c // gF Tryz.f115 []=some c }).1
def Adf:A1:=(⟨_,by conv=>lhs;cbv⟩:{ c // gL Tryz.f120 4 []=some c }).1
def Ad6:A1:=(⟨_,by intro a;conv=>lhs;cbv⟩:{ c:A1→A1 // ∀ a,gL Tryz.f120 2 [(4,a)] [[[0],[1],[2],[3],[4],[5],[6],[7],[8],[9]],[[0],[1],[2],[3],[4],[5],[6],[7],[8],[9],[10],[11],[12],[13],[14],[15],[16],[17],[18],[19],[20],[21],[22],[23],[24],[25],[26],[27],[28],[29],[30],[31]]]=some (c a) }).1 Adf
def AcK:A1:=(⟨_,by intro a;conv=>lhs;cbv⟩:{ c:A1→A1 // ∀ a,gL Tryz.f120 0 [(2,a)] [[[0],[1],[2],[3],[4],[5],[6],[7],[8],[9],[10],[11],[12],[13],[14],[15],[16],[17],[18],[19],[20],[21],[22],[23],[24],[25],[26],[27],[28],[29],[30]],[[0],[1],[2],[3],[4],[5],[6],[7],[8],[9]]]=some (c a) }).1 Ad6
def A69:A2:=(⟨_,by intro a;conv=>lhs;cbv⟩:{ c:A1→A2 // ∀ a,gF Tryz.f120 [(0,a)]=some (c a) }).1 AcK
def Ad7:A1:=(⟨_,by conv=>lhs;cbv⟩:{ c // gL Tryz.f124 2 []=some c }).1
def AcN:A1:=(⟨_,by intro a;conv=>lhs;cbv⟩:{ c:A1→A1 // ∀ a,gL Tryz.f124 0 [(2,a)]=some (c a) }).1 Ad7
def A1B:A2:=(⟨_,by intro a;conv=>lhs;cbv⟩:{ c:A1→A2 // ∀ a,gF Tryz.f124 [(0,a)]=some (c a) }).1 AcN
def WY:A2:=(⟨_,by conv=>lhs;cbv⟩:{ c // gF Tryz.f128 []=some c }).1
def A6d:A2:=(⟨_,by conv=>lhs;cbv⟩:{ c // gF Tryz.f132 []=some c }).1
def A6f:A2:=(⟨_,by conv=>lhs;cbv⟩:{ c // gF Tryz.f137 []=some c }).1
def Ab6:A2:=(⟨_,by conv=>lhs;cbv⟩:{ c // gF Tryz.f148 []=some c }).1
def A6A:A1:=(⟨_,by conv=>lhs;cbv⟩:{ c // gL Tryz.f154 0 [] [[[0],[1],[2],[3],[4],[5],[6],[7],[8],[9],[10]],[[0],[1],[2],[3],[4],[5],[6],[7],[8],[9],[10],[11],[12]]]=some c }).1
def A6k:A2:=(⟨_,by intro a;conv=>lhs;cbv⟩:{ c:A1→A2 // ∀ a,gF Tryz.f154 [(0,a)]=some (c a) }).1 A6A
def Ad9:A1:=(⟨_,by conv=>lhs;cbv⟩:{ c // gL Tryz.f159 2 []=some c }).1
def AcT:A1:=(⟨_,by conv=>lhs;cbv⟩:{ c // gL Tryz.f159 0 []=some c }).1
def A1E:A2:=(⟨_,by intro a b;conv=>lhs;cbv⟩:{ c:A1→A1→A2 // ∀ a b,gF Tryz.f159 [(0,a),(2,b)]=some (c a b) }).1 AcT Ad9
def A1Q:A1:=(⟨_,by conv=>lhs;cbv⟩:{ c // gL Tryz.f163 2 []=some c }).1
def A1N:A1:=(⟨_,by conv=>lhs;cbv⟩:{ c // gL Tryz.f163 0 []=some c }).1
def PF:A2:=(⟨_,by intro a b;conv=>lhs;cbv⟩:{ c:A1→A1→A2 // ∀ a b,gF Tryz.f163 [(0,a),(2,b)]=some (c a b) }).1 A1N A1Q
def A9o:A1:=(⟨_,by conv=>lhs;cbv⟩:{ c // gL Tryz.f167 0 []=some c }).1
def Tf:A2:=(⟨_,by intro a;conv=>lhs;cbv⟩:{ c:A1→A2 // ∀ a,gF Tryz.f167 [(0,a)]=some (c a) }).1 A9o
def Tg:A2:=(⟨_,by conv=>lhs;cbv⟩:{ c // gF Tryz.f172 []=some c }).1
def YY:A2:=(⟨_,by conv=>lhs;cbv⟩:{ c // gF Tryz.f176 []=some c }).1
def Z4:A2:=(⟨_,by conv=>lhs;cbv⟩:{ c // gF Tryz.f180 []=some c }).1
def A9t:A1:=(⟨_,by conv=>lhs;cbv⟩:{ c // gL Tryz.f184 0 []=some c }).1
def Z8:A2:=(⟨_,by intro a;conv=>lhs;cbv⟩:{ c:A1→A2 // ∀ a,gF Tryz.f184 [(0,a)]=some (c a) }).1 A9t
def Zb:A2:=(⟨_,by conv=>lhs;cbv⟩:{ c // gF Tryz.f188 []=some c }).1
def Ti:A2:=(⟨_,by conv=>lhs;cbv⟩:{ c // gF Tryz.f192 []=some c }).1
def A9w:A1:=(⟨_,by conv=>lhs;cbv⟩:{ c // gL Tryz.f197 0 []=some c }).1
def A5J:A2:=(⟨_,by intro a;conv=>lhs;cbv⟩:{ c:A1→A2 // ∀ a,gF Tryz.f197 [(0,a)]=some (c a) }).1 A9w
def Zi:A2:=(⟨_,by conv=>lhs;cbv⟩:{ c // gF Tryz.f206 []=some c }).1
def Zl:A2:=(⟨_,by conv=>lhs;cbv⟩:{ c // gF Tryz.f210 []=some c }).1
def A9z:A1:=(⟨_,by conv=>lhs;cbv⟩:{ c // gL Tryz.f214 0 []=some c }).1
def Zo:A2:=(⟨_,by intro a;conv=>lhs;cbv⟩:{ c:A1→A2 // ∀ a,gF Tryz.f214 [(0,a)]=some (c a) }).1 A9z
def A9B:A1:=(⟨_,by conv=>lhs;cbv⟩:{ c // gL Tryz.f218 0 []=some c }).1
def Zr:A2:=(⟨_,by intro a;conv=>lhs;cbv⟩:{ c:A1→A2 // ∀ a,gF Tryz.f218 [(0,a)]=some (c a) }).1 A9B
def Zu:A2:=(⟨_,by conv=>lhs;cbv⟩:{ c // gF Tryz.f222 []=some c }).1
def Zx:A2:=(⟨_,by conv=>lhs;cbv⟩:{ c // gF Tryz.f226 []=some c }).1
def Tk:A2:=(⟨_,by conv=>lhs;cbv⟩:{ c // gF Tryz.f230 []=some c }).1
def ZD:A2:=(⟨_,by conv=>lhs;cbv⟩:{ c // gF Tryz.f235 []=some c }).1
def ZG:A2:=(⟨_,by conv=>lhs;cbv⟩:{ c // gF Tryz.f247 []=some c }).1
def A9G:A1:=(⟨_,by conv=>lhs;cbv⟩:{ c // gL Tryz.f251 0 []=some c }).1
def ZJ:A2:=(⟨_,by intro a;conv=>lhs;cbv⟩:{ c:A1→A2 // ∀ a,gF Tryz.f251 [(0,a)]=some (c a) }).1 A9G
def ZM:A2:=(⟨_,by conv=>lhs;cbv⟩:{ c // gF Tryz.f255 []=some c }).1
def A9H:A1:=(⟨_,by conv=>lhs;cbv⟩:{ c // gL Tryz.f259 0 []=some c }).1
def ZP:A2:=(⟨_,by intro a;conv=>lhs;cbv⟩:{ c:A1→A2 // ∀ a,gF Tryz.f259 [(0,a)]=some (c a) }).1 A9H
def ZT:A2:=(⟨_,by conv=>lhs;cbv⟩:{ c // gF Tryz.f276 []=some c }).1
def HY:A2:=(⟨_,by conv=>lhs;cbv⟩:{ c // gF Tryz.f280 []=some c }).1
end Go.AM
