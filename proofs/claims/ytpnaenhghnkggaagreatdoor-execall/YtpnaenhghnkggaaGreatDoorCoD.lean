/-
  Own work, part of the proof of these laws: the code of the functions that the law reaches, as the machine has it; read off the program as the text is compiled.
-/
import Derived.Test.YtpnaenhghnkggaaGreatDoorCoA
set_option maxRecDepth 10000
set_option maxHeartbeats 64000000
set_option linter.unusedVariables false
set_option linter.unusedSimpArgs false
set_option maxRecDepth 100000
set_option maxHeartbeats 4000000
namespace Go.AM
open Go Go.Proofs
def AbO:A4:=(⟨_,by conv=>lhs;cbv⟩:{ c // gF Tryz.f27 []=some c }).1
def Al1:A1:=(⟨_,by conv=>lhs;cbv⟩:{ c // gL Tryz.f32 2 []=some c }).1
def Akn:A1:=(⟨_,by conv=>lhs;cbv⟩:{ c // gL Tryz.f32 0 []=some c }).1
def AbP:A4:=(⟨_,by intro a b;conv=>lhs;cbv⟩:{ c:A1->A1->A4 // ∀a b,gF Tryz.f32 [(0,a),(2,b)]=some (c a b) }).1 Akn Al1
def Aks:A1:=(⟨_,by conv=>lhs;cbv⟩:{ c // gL Tryz.f40 0 []=some c }).1
def AbS:A4:=(⟨_,by intro a;conv=>lhs;cbv⟩:{ c:A1->A4 // ∀a,gF Tryz.f40 [(0,a)]=some (c a) }).1 Aks
def AbW:A4:=(⟨_,by conv=>lhs;cbv⟩:{ c // gF Tryz.f44 []=some c }).1
def AbY:A4:=(⟨_,by conv=>lhs;cbv⟩:{ c // gF Tryz.f47 []=some c }).1
def Akw:A1:=(⟨_,by conv=>lhs;cbv⟩:{ c // gL Tryz.f51 0 []=some c }).1
def Ac0:A4:=(⟨_,by intro a;conv=>lhs;cbv⟩:{ c:A1->A4 // ∀a,gF Tryz.f51 [(0,a)]=some (c a) }).1 Akw
def AkJ:A1:=(⟨_,by conv=>lhs;cbv⟩:{ c // gL Tryz.f69 0 []=some c }).1
def A6o:A4:=(⟨_,by intro a;conv=>lhs;cbv⟩:{ c:A1->A4 // ∀a,gF Tryz.f69 [(0,a)]=some (c a) }).1 AkJ
def Al9:A1:=(⟨_,by conv=>lhs;cbv⟩:{ c // gL Tryz.f72 2 []=some c }).1
def AkK:A1:=(⟨_,by intro a;conv=>lhs;cbv⟩:{ c:A1->A1 // ∀a,gL Tryz.f72 0 [(2,a)] [[[0],[1],[2],[3],[4],[5],[6],[7],[8],[9],[10],[11],[12],[13],[14],[15],[16],[17],[18],[19],[20],[21],[22]]]=some (c a) }).1 Al9
def Aca:A4:=(⟨_,by intro a;conv=>lhs;cbv⟩:{ c:A1->A4 // ∀a,gF Tryz.f72 [(0,a)]=some (c a) }).1 AkK
def A6q:A4:=(⟨_,by conv=>lhs;cbv⟩:{ c // gF Tryz.f75 []=some c }).1
def A0C:A4:=(⟨_,by conv=>lhs;cbv⟩:{ c // gF Tryz.f78 [] [[[0],[1],[2],[3],[4],[5],[6],[7],[8],[9],[10],[11],[12],[13]],[[0],[1],[2],[3],[4],[5],[6],[7],[8],[9],[10],[11],[12],[13],[14]]]=some c }).1
def A0D:A4:=(⟨_,by conv=>lhs;cbv⟩:{ c // gF Tryz.f82 []=some c }).1
def AkU:A1:=(⟨_,by conv=>lhs;cbv⟩:{ c // gL Tryz.f93 0 [] [[[0],[1],[2],[3],[4],[5],[6],[7],[8],[9],[10],[11],[12],[13],[14],[15],[16],[17],[18],[19],[20],[21],[22]],[[0],[1],[2],[3],[4],[5],[6],[7],[8],[9]]]=some c }).1
def Acg:A4:=(⟨_,by intro a;conv=>lhs;cbv⟩:{ c:A1->A4 // ∀a,gF Tryz.f93 [(0,a)]=some (c a) }).1 AkU
def A0F:A4:=(⟨_,by conv=>lhs;cbv⟩:{ c // gF Tryz.f96 []=some c }).1
def AkW:A1:=(⟨_,by conv=>lhs;cbv⟩:{ c // gL Tryz.f99 0 []=some c }).1
def Ack:A4:=(⟨_,by intro a;conv=>lhs;cbv⟩:{ c:A1->A4 // ∀a,gF Tryz.f99 [(0,a)]=some (c a) }).1 AkW
def Tq:A4:=⟨[],.block 0 (.loop (.seq (.seq (.reg [o 4 (.mov (.t 0)),o 5 (.bin .neq none (.t 4) (.c (.i .u64 0)))]) (.cond (.t 5) (.skip) (.exit 0))) (.seq (.block 1 (.reg [o 10 (.mov (.t 1)),o 11 (.mov (.t 0)),o 12 (.call (.c (.f AY [] [])) [(.t 11)]),o 13 (.call (.t 10) [(.t 12)])])) (.reg [o 6 (.mov (.t 0)),o 7 (.mov (.t 0)),o 8 (.bin .sub none (.t 7) (.c (.i .u64 1))),o 9 (.bin .and none (.t 6) (.t 8)),o 0 (.mov (.t 9))]))))⟩
def Agl:A1:=(⟨_,by conv=>lhs;cbv⟩:{ c // gL Tryz.f105 0 []=some c }).1
def A2N:A4:=(⟨_,by intro a;conv=>lhs;cbv⟩:{ c:A1->A4 // ∀a,gF Tryz.f105 [(0,a)]=some (c a) }).1 Agl
def Agr:A1:=(⟨_,by conv=>lhs;cbv⟩:{ c // gL Tryz.f120 0 []=some c }).1
def Qt:A4:=(⟨_,by intro a;conv=>lhs;cbv⟩:{ c:A1->A4 // ∀a,gF Tryz.f120 [(0,a)]=some (c a) }).1 Agr
def A2W:A4:=(⟨_,by conv=>lhs;cbv⟩:{ c // gF Tryz.f125 []=some c }).1
def Qu:A4:=(⟨_,by conv=>lhs;cbv⟩:{ c // gF Tryz.f132 [] [[[0],[1],[2],[3],[4],[5],[6],[7],[8],[9],[10],[11],[12],[13],[14],[15],[16,14,11],[17]],[[0],[1],[2],[3],[4],[5],[6],[7],[8],[9],[10],[11],[12],[13],[14],[15],[16],[17],[18],[19],[20],[21],[22],[23],[24],[25],[26],[27],[28],[29],[30],[31],[32]]]=some c }).1
def UM:A4:=(⟨_,by conv=>lhs;cbv⟩:{ c // gF Tryz.f135 []=some c }).1
def A34:A4:=(⟨_,by conv=>lhs;cbv⟩:{ c // gF Tryz.f138 []=some c }).1
def Qv:A4:=(⟨_,by conv=>lhs;cbv⟩:{ c // gF Tryz.f141 []=some c }).1
def Ve:A1:=(⟨_,by conv=>lhs;cbv⟩:{ c // gL Tryz.f144 0 []=some c }).1
def A39:A4:=(⟨_,by intro a;conv=>lhs;cbv⟩:{ c:A1->A4 // ∀a,gF Tryz.f144 [(0,a)]=some (c a) }).1 Ve
def Ah2:A1:=(⟨_,by conv=>lhs;cbv⟩:{ c // gL Tryz.f147 2 []=some c }).1
def Agw:A1:=(⟨_,by conv=>lhs;cbv⟩:{ c // gL Tryz.f147 0 []=some c }).1
def UO:A4:=(⟨_,by intro a b;conv=>lhs;cbv⟩:{ c:A1->A1->A4 // ∀a b,gF Tryz.f147 [(0,a),(2,b)]=some (c a b) }).1 Agw Ah2
def CL:A1:=(⟨_,by conv=>lhs;cbv⟩:{ c // gL Tryz.f150 3 [] [[[0],[1],[2],[3],[4],[5],[6],[7],[8],[9],[10],[11],[12]],[[0],[1],[2],[3],[4],[5],[6],[9],[10],[11],[12],[13],[7,13],[8],[14],[15]],[[0],[1],[2],[3],[4],[5],[6],[7],[8],[9],[10],[11],[12]]]=some c }).1
def PG:A1:=(⟨_,by conv=>lhs;cbv⟩:{ c // gL Tryz.f150 0 []=some c }).1
def Qw:A4:=(⟨_,by intro a b;conv=>lhs;cbv⟩:{ c:A1->A1->A4 // ∀a b,gF Tryz.f150 [(0,a),(3,b)] [[[0],[1],[2],[3],[4],[5],[6],[7],[8],[9],[10],[11]],[[0],[1],[2],[3],[4],[5],[6],[7],[8]],[[0],[1],[2],[3],[4],[5],[6],[7],[8],[9],[10],[11],[12],[13,6],[14],[15]],[[0],[1],[2],[3],[4],[5],[6],[7],[8],[9],[10]],[[0],[1],[2],[3],[4],[5],[6],[7],[8],[9],[10],[11],[12],[13],[14],[15,8,4],[16],[17],[18]]]=some (c a b) }).1 PG CL
def PH:A1:=(⟨_,by conv=>lhs;cbv⟩:{ c // gL Tryz.f153 0 []=some c }).1
def A3e:A4:=(⟨_,by intro a;conv=>lhs;cbv⟩:{ c:A1->A4 // ∀a,gF Tryz.f153 [(0,a)]=some (c a) }).1 PH
def AgA:A1:=(⟨_,by conv=>lhs;cbv⟩:{ c // gL Tryz.f161 0 []=some c }).1
def A3h:A4:=(⟨_,by intro a;conv=>lhs;cbv⟩:{ c:A1->A4 // ∀a,gF Tryz.f161 [(0,a)]=some (c a) }).1 AgA
def Vf:A1:=(⟨_,by conv=>lhs;cbv⟩:{ c // gL Tryz.f164 0 [] [[[0],[1],[2],[3],[4],[5],[6],[7],[8],[9],[10]],[[0],[1],[2],[3],[4],[5],[6],[7],[8],[9],[10]],[[0],[1],[2],[3],[4],[5],[6],[7],[8],[9],[10],[11],[12]],[[0],[1],[2],[3],[4],[5],[6],[7],[8],[9],[10],[11],[12],[13],[14],[15],[16],[17],[18],[19],[20],[21],[22],[23],[24],[25],[26],[27]]]=some c }).1
def A3k:A4:=(⟨_,by intro a;conv=>lhs;cbv⟩:{ c:A1->A4 // ∀a,gF Tryz.f164 [(0,a)]=some (c a) }).1 Vf
def A3n:A4:=(⟨_,by conv=>lhs;cbv⟩:{ c // gF Tryz.f167 []=some c }).1
def A3p:A4:=(⟨_,by conv=>lhs;cbv⟩:{ c // gF Tryz.f170 []=some c }).1
def A3t:A4:=(⟨_,by conv=>lhs;cbv⟩:{ c // gF Tryz.f181 []=some c }).1
def UV:A4:=(⟨_,by conv=>lhs;cbv⟩:{ c // gF Tryz.f184 []=some c }).1
def AgK:A1:=(⟨_,by conv=>lhs;cbv⟩:{ c // gL Tryz.f187 0 []=some c }).1
def A3y:A4:=(⟨_,by intro a;conv=>lhs;cbv⟩:{ c:A1->A4 // ∀a,gF Tryz.f187 [(0,a)]=some (c a) }).1 AgK
def A3A:A4:=(⟨_,by conv=>lhs;cbv⟩:{ c // gF Tryz.f190 []=some c }).1
def Ah9:A1:=(⟨_,by conv=>lhs;cbv⟩:{ c // gL Tryz.f193 2 []=some c }).1
def A3D:A4:=(⟨_,by intro a;conv=>lhs;cbv⟩:{ c:A1->A4 // ∀a,gF Tryz.f193 [(2,a)]=some (c a) }).1 Ah9
def AgP:A1:=(⟨_,by conv=>lhs;cbv⟩:{ c // gL Tryz.f196 0 []=some c }).1
def A3F:A4:=(⟨_,by intro a;conv=>lhs;cbv⟩:{ c:A1->A4 // ∀a,gF Tryz.f196 [(0,a)]=some (c a) }).1 AgP
def UW:A4:=(⟨_,by conv=>lhs;cbv⟩:{ c // gF Tryz.f199 []=some c }).1
def A3I:A4:=(⟨_,by conv=>lhs;cbv⟩:{ c // gF Tryz.f202 [] [[[0],[1],[2],[3],[4],[5],[6],[7,1],[8],[9],[10]],[[0],[1],[2],[3],[4],[5],[6],[7],[8],[9],[10],[14],[15],[16],[11,16,4],[12],[13],[17,13,4],[18],[19]],[[0],[1],[2],[5],[6],[7],[3,7],[4,7],[8],[9],[10]]]=some c }).1
def A3K:A4:=(⟨_,by conv=>lhs;cbv⟩:{ c // gF Tryz.f207 []=some c }).1
def AgR:A1:=(⟨_,by conv=>lhs;cbv⟩:{ c // gL Tryz.f210 0 []=some c }).1
def A3M:A4:=(⟨_,by intro a;conv=>lhs;cbv⟩:{ c:A1->A4 // ∀a,gF Tryz.f210 [(0,a)]=some (c a) }).1 AgR
def AgS:A1:=(⟨_,by conv=>lhs;cbv⟩:{ c // gL Tryz.f213 0 []=some c }).1
def A3P:A4:=(⟨_,by intro a;conv=>lhs;cbv⟩:{ c:A1->A4 // ∀a,gF Tryz.f213 [(0,a)]=some (c a) }).1 AgS
def A3U:A4:=(⟨_,by conv=>lhs;cbv⟩:{ c // gF Tryz.f219 []=some c }).1
def A3W:A4:=(⟨_,by conv=>lhs;cbv⟩:{ c // gF Tryz.f222 []=some c }).1
def Ahc:A1:=(⟨_,by conv=>lhs;cbv⟩:{ c // gL Tryz.f225 2 []=some c }).1
def QA:A4:=(⟨_,by intro a;conv=>lhs;cbv⟩:{ c:A1->A4 // ∀a,gF Tryz.f225 [(2,a)] [[[0],[1],[2],[3],[4],[5],[6],[7],[8],[9],[10],[11],[12]],[[0],[1],[2],[4],[5],[6],[3,5],[7],[8],[9],[10]],[[0],[1],[2],[3],[4],[5],[6],[7]]]=some (c a) }).1 Ahc
def AbK:A4:=(⟨_,by conv=>lhs;cbv⟩:{ c // gF Tryz.f228 []=some c }).1
def AgU:A1:=(⟨_,by conv=>lhs;cbv⟩:{ c // gL Tryz.f231 0 []=some c }).1
def AbM:A4:=(⟨_,by intro a;conv=>lhs;cbv⟩:{ c:A1->A4 // ∀a,gF Tryz.f231 [(0,a)]=some (c a) }).1 AgU
def A42:A4:=(⟨_,by conv=>lhs;cbv⟩:{ c // gF Tryz.f235 []=some c }).1
def Vh:A1:=(⟨_,by conv=>lhs;cbv⟩:{ c // gL Tryz.f238 0 []=some c }).1
def A44:A4:=(⟨_,by intro a;conv=>lhs;cbv⟩:{ c:A1->A4 // ∀a,gF Tryz.f238 [(0,a)]=some (c a) }).1 Vh
def AgW:A1:=(⟨_,by conv=>lhs;cbv⟩:{ c // gL Tryz.f241 0 []=some c }).1
def A47:A4:=(⟨_,by intro a;conv=>lhs;cbv⟩:{ c:A1->A4 // ∀a,gF Tryz.f241 [(0,a)]=some (c a) }).1 AgW
def Jl:A4:=(⟨_,by conv=>lhs;cbv⟩:{ c // gF Tryz.f244 []=some c }).1
end Go.AM
