/-
  Own work, part of the proof of these laws: the code of the functions that the law reaches, as the machine has it; read off the program as the text is compiled.
-/
import Derived.Test.YtpnaenhghnkggaaGreatDoorCoA
set_option maxRecDepth 10000
set_option maxHeartbeats 64000000
set_option linter.unusedVariables false
set_option linter.unusedSimpArgs false
set_option maxRecDepth 100000
set_option maxHeartbeats 4000000
namespace Go.AM
open Go Go.Proofs
def A8J:A3:=(⟨_,by conv=>lhs;cbv⟩:{ c // gF Tryz.f27 []=some c }).1
def AfL:A4:=(⟨_,by conv=>lhs;cbv⟩:{ c // gL Tryz.f32 2 []=some c }).1
def Afn:A4:=(⟨_,by conv=>lhs;cbv⟩:{ c // gL Tryz.f32 0 []=some c }).1
def A8K:A3:=(⟨_,by intro a b;conv=>lhs;cbv⟩:{ c:A4->A4->A3 // ∀ a b,gF Tryz.f32 [(0,a),(2,b)]=some (c a b) }).1 Afn AfL
def Afp:A4:=(⟨_,by conv=>lhs;cbv⟩:{ c // gL Tryz.f40 0 []=some c }).1
def A8N:A3:=(⟨_,by intro a;conv=>lhs;cbv⟩:{ c:A4->A3 // ∀ a,gF Tryz.f40 [(0,a)]=some (c a) }).1 Afp
def A8Q:A3:=(⟨_,by conv=>lhs;cbv⟩:{ c // gF Tryz.f44 []=some c }).1
def A8S:A3:=(⟨_,by conv=>lhs;cbv⟩:{ c // gF Tryz.f47 []=some c }).1
def Aft:A4:=(⟨_,by conv=>lhs;cbv⟩:{ c // gL Tryz.f51 0 []=some c }).1
def A8U:A3:=(⟨_,by intro a;conv=>lhs;cbv⟩:{ c:A4->A3 // ∀ a,gF Tryz.f51 [(0,a)]=some (c a) }).1 Aft
def AfB:A4:=(⟨_,by conv=>lhs;cbv⟩:{ c // gL Tryz.f69 0 []=some c }).1
def A3N:A3:=(⟨_,by intro a;conv=>lhs;cbv⟩:{ c:A4->A3 // ∀ a,gF Tryz.f69 [(0,a)]=some (c a) }).1 AfB
def AfQ:A4:=(⟨_,by conv=>lhs;cbv⟩:{ c // gL Tryz.f72 2 []=some c }).1
def AfC:A4:=(⟨_,by intro a;conv=>lhs;cbv⟩:{ c:A4->A4 // ∀ a,gL Tryz.f72 0 [(2,a)] [[[0],[1],[2],[3],[4],[5],[6],[7],[8],[9],[10],[11],[12],[13],[14],[15],[16],[17],[18],[19],[20],[21],[22]]]=some (c a) }).1 AfQ
def A92:A3:=(⟨_,by intro a;conv=>lhs;cbv⟩:{ c:A4->A3 // ∀ a,gF Tryz.f72 [(0,a)]=some (c a) }).1 AfC
def A3P:A3:=(⟨_,by conv=>lhs;cbv⟩:{ c // gF Tryz.f75 []=some c }).1
def MN:A3:=(⟨_,by conv=>lhs;cbv⟩:{ c // gF Tryz.f78 [] [[[0],[1],[2],[3],[4],[5],[6],[7],[8],[9],[10],[11],[12],[13]],[[0],[1],[2],[3],[4],[5],[6],[7],[8],[9],[10],[11],[12],[13],[14]]]=some c }).1
def YG:A3:=(⟨_,by conv=>lhs;cbv⟩:{ c // gF Tryz.f82 []=some c }).1
def AfF:A4:=(⟨_,by conv=>lhs;cbv⟩:{ c // gL Tryz.f93 0 [] [[[0],[1],[2],[3],[4],[5],[6],[7],[8],[9],[10],[11],[12],[13],[14],[15],[16],[17],[18],[19],[20],[21],[22]],[[0],[1],[2],[3],[4],[5],[6],[7],[8],[9]]]=some c }).1
def A96:A3:=(⟨_,by intro a;conv=>lhs;cbv⟩:{ c:A4->A3 // ∀ a,gF Tryz.f93 [(0,a)]=some (c a) }).1 AfF
def YH:A3:=(⟨_,by conv=>lhs;cbv⟩:{ c // gF Tryz.f96 []=some c }).1
def AfH:A4:=(⟨_,by conv=>lhs;cbv⟩:{ c // gL Tryz.f99 0 []=some c }).1
def A9a:A3:=(⟨_,by intro a;conv=>lhs;cbv⟩:{ c:A4->A3 // ∀ a,gF Tryz.f99 [(0,a)]=some (c a) }).1 AfH
def RP:A3:=⟨[],.block 0 (.loop (.seq (.seq (.reg [o 4 (.mov (.t 0)),o 5 (.bin .neq none (.t 4) (.c (.i .u64 0)))]) (.cond (.t 5) (.skip) (.exit 0))) (.seq (.block 1 (.reg [o 10 (.mov (.t 1)),o 11 (.mov (.t 0)),o 12 (.call (.c (.f AI [] [])) [(.t 11)]),o 13 (.call (.t 10) [(.t 12)])])) (.reg [o 6 (.mov (.t 0)),o 7 (.mov (.t 0)),o 8 (.bin .sub none (.t 7) (.c (.i .u64 1))),o 9 (.bin .and none (.t 6) (.t 8)),o 0 (.mov (.t 9))]))))⟩
def Acd:A4:=(⟨_,by conv=>lhs;cbv⟩:{ c // gL Tryz.f105 0 []=some c }).1
def A0Q:A3:=(⟨_,by intro a;conv=>lhs;cbv⟩:{ c:A4->A3 // ∀ a,gF Tryz.f105 [(0,a)]=some (c a) }).1 Acd
def Acg:A4:=(⟨_,by conv=>lhs;cbv⟩:{ c // gL Tryz.f120 0 []=some c }).1
def Pe:A3:=(⟨_,by intro a;conv=>lhs;cbv⟩:{ c:A4->A3 // ∀ a,gF Tryz.f120 [(0,a)]=some (c a) }).1 Acg
def A0X:A3:=(⟨_,by conv=>lhs;cbv⟩:{ c // gF Tryz.f125 []=some c }).1
def Pf:A3:=(⟨_,by conv=>lhs;cbv⟩:{ c // gF Tryz.f132 [] [[[0],[1],[2],[3],[4],[5],[6],[7],[8],[9],[10],[11],[12],[13],[14],[15],[16,14,11],[17]],[[0],[1],[2],[3],[4],[5],[6],[7],[8],[9],[10],[11],[12],[13],[14],[15],[16],[17],[18],[19],[20],[21],[22],[23],[24],[25],[26],[27],[28],[29],[30],[31],[32]]]=some c }).1
def SW:A3:=(⟨_,by conv=>lhs;cbv⟩:{ c // gF Tryz.f135 []=some c }).1
def A15:A3:=(⟨_,by conv=>lhs;cbv⟩:{ c // gF Tryz.f138 []=some c }).1
def Pg:A3:=(⟨_,by conv=>lhs;cbv⟩:{ c // gF Tryz.f141 []=some c }).1
def Tl:A4:=(⟨_,by conv=>lhs;cbv⟩:{ c // gL Tryz.f144 0 []=some c }).1
def A1a:A3:=(⟨_,by intro a;conv=>lhs;cbv⟩:{ c:A4->A3 // ∀ a,gF Tryz.f144 [(0,a)]=some (c a) }).1 Tl
def AcO:A4:=(⟨_,by conv=>lhs;cbv⟩:{ c // gL Tryz.f147 2 []=some c }).1
def Acl:A4:=(⟨_,by conv=>lhs;cbv⟩:{ c // gL Tryz.f147 0 []=some c }).1
def SY:A3:=(⟨_,by intro a b;conv=>lhs;cbv⟩:{ c:A4->A4->A3 // ∀ a b,gF Tryz.f147 [(0,a),(2,b)]=some (c a b) }).1 Acl AcO
def Ct:A4:=(⟨_,by conv=>lhs;cbv⟩:{ c // gL Tryz.f150 3 [] [[[0],[1],[2],[3],[4],[5],[6],[7],[8],[9],[10],[11],[12]],[[0],[1],[2],[3],[4],[5],[6],[9],[10],[11],[12],[13],[7,13],[8],[14],[15]],[[0],[1],[2],[3],[4],[5],[6],[7],[8],[9],[10],[11],[12]]]=some c }).1
def Ns:A4:=(⟨_,by conv=>lhs;cbv⟩:{ c // gL Tryz.f150 0 []=some c }).1
def Ph:A3:=(⟨_,by intro a b;conv=>lhs;cbv⟩:{ c:A4->A4->A3 // ∀ a b,gF Tryz.f150 [(0,a),(3,b)] [[[0],[1],[2],[3],[4],[5],[6],[7],[8],[9],[10],[11]],[[0],[1],[2],[3],[4],[5],[6],[7],[8]],[[0],[1],[2],[3],[4],[5],[6],[7],[8],[9],[10],[11],[12],[13,6],[14],[15]],[[0],[1],[2],[3],[4],[5],[6],[7],[8],[9],[10]],[[0],[1],[2],[3],[4],[5],[6],[7],[8],[9],[10],[11],[12],[13],[14],[15,8,4],[16],[17],[18]]]=some (c a b) }).1 Ns Ct
def Nt:A4:=(⟨_,by conv=>lhs;cbv⟩:{ c // gL Tryz.f153 0 []=some c }).1
def A1f:A3:=(⟨_,by intro a;conv=>lhs;cbv⟩:{ c:A4->A3 // ∀ a,gF Tryz.f153 [(0,a)]=some (c a) }).1 Nt
def Acn:A4:=(⟨_,by conv=>lhs;cbv⟩:{ c // gL Tryz.f161 0 []=some c }).1
def A1h:A3:=(⟨_,by intro a;conv=>lhs;cbv⟩:{ c:A4->A3 // ∀ a,gF Tryz.f161 [(0,a)]=some (c a) }).1 Acn
def Tn:A4:=(⟨_,by conv=>lhs;cbv⟩:{ c // gL Tryz.f164 0 [] [[[0],[1],[2],[3],[4],[5],[6],[7],[8],[9],[10]],[[0],[1],[2],[3],[4],[5],[6],[7],[8],[9],[10]],[[0],[1],[2],[3],[4],[5],[6],[7],[8],[9],[10],[11],[12]],[[0],[1],[2],[3],[4],[5],[6],[7],[8],[9],[10],[11],[12],[13],[14],[15],[16],[17],[18],[19],[20],[21],[22],[23],[24],[25],[26],[27]]]=some c }).1
def A1k:A3:=(⟨_,by intro a;conv=>lhs;cbv⟩:{ c:A4->A3 // ∀ a,gF Tryz.f164 [(0,a)]=some (c a) }).1 Tn
def A1n:A3:=(⟨_,by conv=>lhs;cbv⟩:{ c // gF Tryz.f167 []=some c }).1
def A1p:A3:=(⟨_,by conv=>lhs;cbv⟩:{ c // gF Tryz.f170 []=some c }).1
def A1t:A3:=(⟨_,by conv=>lhs;cbv⟩:{ c // gF Tryz.f181 []=some c }).1
def T5:A3:=(⟨_,by conv=>lhs;cbv⟩:{ c // gF Tryz.f184 []=some c }).1
def Acx:A4:=(⟨_,by conv=>lhs;cbv⟩:{ c // gL Tryz.f187 0 []=some c }).1
def A1y:A3:=(⟨_,by intro a;conv=>lhs;cbv⟩:{ c:A4->A3 // ∀ a,gF Tryz.f187 [(0,a)]=some (c a) }).1 Acx
def A1A:A3:=(⟨_,by conv=>lhs;cbv⟩:{ c // gF Tryz.f190 []=some c }).1
def AcS:A4:=(⟨_,by conv=>lhs;cbv⟩:{ c // gL Tryz.f193 2 []=some c }).1
def A1D:A3:=(⟨_,by intro a;conv=>lhs;cbv⟩:{ c:A4->A3 // ∀ a,gF Tryz.f193 [(2,a)]=some (c a) }).1 AcS
def AcD:A4:=(⟨_,by conv=>lhs;cbv⟩:{ c // gL Tryz.f196 0 []=some c }).1
def A1F:A3:=(⟨_,by intro a;conv=>lhs;cbv⟩:{ c:A4->A3 // ∀ a,gF Tryz.f196 [(0,a)]=some (c a) }).1 AcD
def T6:A3:=(⟨_,by conv=>lhs;cbv⟩:{ c // gF Tryz.f199 []=some c }).1
def A1I:A3:=(⟨_,by conv=>lhs;cbv⟩:{ c // gF Tryz.f202 [] [[[0],[1],[2],[3],[4],[5],[6],[7,1],[8],[9],[10]],[[0],[1],[2],[3],[4],[5],[6],[7],[8],[9],[10],[14],[15],[16],[11,16,4],[12],[13],[17,13,4],[18],[19]],[[0],[1],[2],[5],[6],[7],[3,7],[4,7],[8],[9],[10]]]=some c }).1
def A1K:A3:=(⟨_,by conv=>lhs;cbv⟩:{ c // gF Tryz.f207 []=some c }).1
def AcF:A4:=(⟨_,by conv=>lhs;cbv⟩:{ c // gL Tryz.f210 0 []=some c }).1
def A1M:A3:=(⟨_,by intro a;conv=>lhs;cbv⟩:{ c:A4->A3 // ∀ a,gF Tryz.f210 [(0,a)]=some (c a) }).1 AcF
def AcG:A4:=(⟨_,by conv=>lhs;cbv⟩:{ c // gL Tryz.f213 0 []=some c }).1
def A1P:A3:=(⟨_,by intro a;conv=>lhs;cbv⟩:{ c:A4->A3 // ∀ a,gF Tryz.f213 [(0,a)]=some (c a) }).1 AcG
def A1U:A3:=(⟨_,by conv=>lhs;cbv⟩:{ c // gF Tryz.f219 []=some c }).1
def A1W:A3:=(⟨_,by conv=>lhs;cbv⟩:{ c // gF Tryz.f222 []=some c }).1
def AcU:A4:=(⟨_,by conv=>lhs;cbv⟩:{ c // gL Tryz.f225 2 []=some c }).1
def Pn:A3:=(⟨_,by intro a;conv=>lhs;cbv⟩:{ c:A4->A3 // ∀ a,gF Tryz.f225 [(2,a)] [[[0],[1],[2],[3],[4],[5],[6],[7],[8],[9],[10],[11],[12]],[[0],[1],[2],[4],[5],[6],[3,5],[7],[8],[9],[10]],[[0],[1],[2],[3],[4],[5],[6],[7]]]=some (c a) }).1 AcU
def A8G:A3:=(⟨_,by conv=>lhs;cbv⟩:{ c // gF Tryz.f228 []=some c }).1
def AcI:A4:=(⟨_,by conv=>lhs;cbv⟩:{ c // gL Tryz.f231 0 []=some c }).1
def A8I:A3:=(⟨_,by intro a;conv=>lhs;cbv⟩:{ c:A4->A3 // ∀ a,gF Tryz.f231 [(0,a)]=some (c a) }).1 AcI
def A22:A3:=(⟨_,by conv=>lhs;cbv⟩:{ c // gF Tryz.f235 []=some c }).1
def To:A4:=(⟨_,by conv=>lhs;cbv⟩:{ c // gL Tryz.f238 0 []=some c }).1
def A24:A3:=(⟨_,by intro a;conv=>lhs;cbv⟩:{ c:A4->A3 // ∀ a,gF Tryz.f238 [(0,a)]=some (c a) }).1 To
def AcK:A4:=(⟨_,by conv=>lhs;cbv⟩:{ c // gL Tryz.f241 0 []=some c }).1
def A27:A3:=(⟨_,by intro a;conv=>lhs;cbv⟩:{ c:A4->A3 // ∀ a,gF Tryz.f241 [(0,a)]=some (c a) }).1 AcK
def HF:A3:=(⟨_,by conv=>lhs;cbv⟩:{ c // gF Tryz.f244 []=some c }).1
end Go.AM
