/-
  Own work, part of the proof of CoheLess: the code of the functions that the law reaches, as the machine has it; read off the program as the text is compiled.
-/
import Derived.Test.YtpcpldaangchaaaGreatDoorCoA
set_option maxRecDepth 4000
set_option linter.unusedVariables false
set_option linter.unusedSimpArgs false
set_option linter.unusedSectionVars false
set_option linter.unnecessarySimpa false
set_option maxRecDepth 100000
set_option maxHeartbeats 4000000
namespace Go.AM
open Go Go.Proofs
def A26 : A1 := (⟨_, by conv => lhs; cbv⟩ : { c // gL Tryz.f11 0 [] = some c }).1
def Ab8 : A2 := (⟨_, by intro a; conv => lhs; cbv⟩ : { c : A1 → A2 // ∀ a, gF Tryz.f11 [(0, a)] = some (c a) }).1 A26
def AeQ : A1 := (⟨_, by conv => lhs; cbv⟩ : { c // gL Tryz.f19 2 [] = some c }).1
def AfB : A1 := (⟨_, by intro a; conv => lhs; cbv⟩ : { c : A1 → A1 // ∀ a, gL Tryz.f19 0 [(2, a)] = some (c a) }).1 AeQ
def A7D : A2 := (⟨_, by intro a; conv => lhs; cbv⟩ : { c : A1 → A2 // ∀ a, gF Tryz.f19 [(0, a)] = some (c a) }).1 AfB
def Ab0 : A1 := (⟨_, by conv => lhs; cbv⟩ : { c // gL Tryz.f26 8 [] = some c }).1
def Abx : A1 := (⟨_, by intro a; conv => lhs; cbv⟩ : { c : A1 → A1 // ∀ a, gL Tryz.f26 6 [(8, a)] = some (c a) }).1 Ab0
def AbA : A1 := (⟨_, by conv => lhs; cbv⟩ : { c // gL Tryz.f26 4 [] = some c }).1
def AaS : A1 := (⟨_, by intro a; conv => lhs; cbv⟩ : { c : A1 → A1 // ∀ a, gL Tryz.f26 2 [(4, a)] = some (c a) }).1 AbA
def Abj : A1 := (⟨_, by conv => lhs; cbv⟩ : { c // gL Tryz.f26 0 [] [[[0], [1], [2], [3], [4], [5], [6], [7], [8], [9], [10]], [[0], [1], [2], [3], [4], [5], [6], [7], [8], [9], [10], [11], [12], [13], [14], [15], [16], [17], [18], [19], [20], [21], [22], [23], [24], [25], [26], [27], [28], [29], [30], [31], [32], [33], [34], [35]]] = some c }).1
def Rl : A2 := (⟨_, by intro a b d; conv => lhs; cbv⟩ : { c : A1 → A1 → A1 → A2 // ∀ a b d, gF Tryz.f26 [(0, a), (2, b), (6, d)] = some (c a b d) }).1 Abj AaS Abx
def VE : A2 := (⟨_, by conv => lhs; cbv⟩ : { c // gF Tryz.f36 [] = some c }).1
def Aai : A1 := (⟨_, by conv => lhs; cbv⟩ : { c // gL Tryz.f42 2 [] = some c }).1
def Aas : A1 := (⟨_, by conv => lhs; cbv⟩ : { c // gL Tryz.f42 0 [] = some c }).1
def A4E : A2 := (⟨_, by intro a b; conv => lhs; cbv⟩ : { c : A1 → A1 → A2 // ∀ a b, gF Tryz.f42 [(0, a), (2, b)] = some (c a b) }).1 Aas Aai
def Aar : A1 := (⟨_, by conv => lhs; cbv⟩ : { c // gL Tryz.f46 8 [] [[[0], [1], [2], [3], [4], [5], [6], [7], [8], [9], [10], [11], [12], [13], [14], [15], [16], [17], [18], [19], [20], [21], [22], [23], [24], [25], [26], [27], [28], [29], [30], [31], [32], [33], [34], [35], [36]]] = some c }).1
def Acl : A1 := (⟨_, by conv => lhs; cbv⟩ : { c // gL Tryz.f46 6 [] [[[0], [1], [2], [3], [4], [5], [6], [7], [8], [9], [10], [11], [12], [13], [15], [16], [17], [18], [19], [20], [14, 20, 17, 7], [21, 7], [22], [23]]] = some c }).1
def AaC : A1 := (⟨_, by conv => lhs; cbv⟩ : { c // gL Tryz.f46 4 [] = some c }).1
def AbM : A1 := (⟨_, by conv => lhs; cbv⟩ : { c // gL Tryz.f46 2 [] [[[0], [1], [2], [3], [4], [5], [6], [7], [8], [9], [10], [11], [12], [13], [14], [15], [16], [17], [18], [19], [20], [21], [22], [23], [24]], [[0], [1], [2], [3], [4], [5], [6], [7], [8], [9], [10], [11], [12], [13], [14], [15], [16], [17], [18], [19, 5, 2], [20], [21]]] = some c }).1
def Ac6 : A1 := (⟨_, by intro a; conv => lhs; cbv⟩ : { c : A1 → A1 // ∀ a, gL Tryz.f46 0 [(2, a)] = some (c a) }).1 AbM
def A9M : A2 := (⟨_, by intro a b d e; conv => lhs; cbv⟩ : { c : A1 → A1 → A1 → A1 → A2 // ∀ a b d e, gF Tryz.f46 [(0, a), (4, b), (6, d), (8, e)] = some (c a b d e) }).1 Ac6 AaC Acl Aar
def A23 : A2 := (⟨_, by conv => lhs; cbv⟩ : { c // gF Tryz.f50 [] = some c }).1
def A6s : A2 := (⟨_, by conv => lhs; cbv⟩ : { c // gF Tryz.f54 [] = some c }).1
def A9r : A2 := (⟨_, by conv => lhs; cbv⟩ : { c // gF Tryz.f59 [] = some c }).1
def Aa7 : A1 := (⟨_, by conv => lhs; cbv⟩ : { c // gL Tryz.f67 0 [] [[[0], [1], [2], [3], [4], [5], [6], [7], [8], [9], [10], [11], [12], [13], [14], [15], [16], [17], [18], [19], [20], [21], [22]], [[0], [1], [2], [3], [4], [5], [6], [7], [8], [9]]] = some c }).1
def A6b : A2 := (⟨_, by intro a; conv => lhs; cbv⟩ : { c : A1 → A2 // ∀ a, gF Tryz.f67 [(0, a)] = some (c a) }).1 Aa7
def A6T : A1 := (⟨_, by conv => lhs; cbv⟩ : { c // gL Tryz.f83 0 [] = some c }).1
def A4O : A2 := (⟨_, by intro a; conv => lhs; cbv⟩ : { c : A1 → A2 // ∀ a, gF Tryz.f83 [(0, a)] = some (c a) }).1 A6T
def Acc : A1 := (⟨_, by conv => lhs; cbv⟩ : { c // gL Tryz.f87 4 [] = some c }).1
def Acd : A1 := (⟨_, by conv => lhs; cbv⟩ : { c // gL Tryz.f87 2 [] = some c }).1
def AaM : A1 := (⟨_, by intro a b; conv => lhs; cbv⟩ : { c : A1 → A1 → A1 // ∀ a b, gL Tryz.f87 0 [(2, a), (4, b)] = some (c a b) }).1 Acd Acc
def A0y : A2 := (⟨_, by intro a; conv => lhs; cbv⟩ : { c : A1 → A2 // ∀ a, gF Tryz.f87 [(0, a)] = some (c a) }).1 AaM
def A4m : A2 := (⟨_, by conv => lhs; cbv⟩ : { c // gF Tryz.f91 [] = some c }).1
def WZ : A2 := (⟨_, by conv => lhs; cbv⟩ : { c // gF Tryz.f98 [] [[[0], [1], [2], [3], [4], [5], [6], [7], [8], [9], [10], [11], [12], [13]], [[0], [1], [2], [3], [4], [5], [6], [7], [8], [9], [10], [11], [12], [13], [14]]] = some c }).1
def We : A2 := (⟨_, by conv => lhs; cbv⟩ : { c // gF Tryz.f102 [] = some c }).1
def Ru : A2 := (⟨_, by conv => lhs; cbv⟩ : { c // gF Tryz.f106 [] = some c }).1
def AbJ : A1 := (⟨_, by conv => lhs; cbv⟩ : { c // gL Tryz.f110 2 [] [[[0], [1], [2], [3], [4], [5], [6], [7], [8], [9], [10], [11], [12], [13], [14], [15], [16], [17], [18], [19], [20], [21], [22], [23], [24], [25], [26], [27]]] = some c }).1
def Ab6 : A1 := (⟨_, by intro a; conv => lhs; cbv⟩ : { c : A1 → A1 // ∀ a, gL Tryz.f110 0 [(2, a)] [[[0], [1], [2], [3], [4], [5], [6], [7], [8], [9], [10], [11], [12], [13], [14], [15], [16], [17], [18], [19], [20], [21], [22], [23], [24], [25], [26], [27], [28], [29], [30], [31], [32], [33], [34], [35], [36], [37], [38]], [[0], [1], [2], [3], [4], [5], [6], [7], [8], [9], [10], [11], [12], [13], [14], [15], [16], [17], [18, 9, 7, 3, 1], [19], [20], [21]]] = some (c a) }).1 AbJ
def A9v : A2 := (⟨_, by intro a; conv => lhs; cbv⟩ : { c : A1 → A2 // ∀ a, gF Tryz.f110 [(0, a)] = some (c a) }).1 Ab6
def A6S : A2 := (⟨_, by conv => lhs; cbv⟩ : { c // gF Tryz.f114 [] = some c }).1
def Abw : A1 := (⟨_, by conv => lhs; cbv⟩ : { c // gL Tryz.f118 0 [] = some c }).1
def A6Y : A2 := (⟨_, by intro a; conv => lhs; cbv⟩ : { c : A1 → A2 // ∀ a, gF Tryz.f118 [(0, a)] = some (c a) }).1 Abw
def AbH : A1 := (⟨_, by conv => lhs; cbv⟩ : { c // gL Tryz.f124 2 [] = some c }).1
def AbZ : A1 := (⟨_, by intro a; conv => lhs; cbv⟩ : { c : A1 → A1 // ∀ a, gL Tryz.f124 0 [(2, a)] = some (c a) }).1 AbH
def A9L : A2 := (⟨_, by intro a; conv => lhs; cbv⟩ : { c : A1 → A2 // ∀ a, gF Tryz.f124 [(0, a)] = some (c a) }).1 AbZ
def A15 : A2 := (⟨_, by conv => lhs; cbv⟩ : { c // gF Tryz.f129 [] = some c }).1
def Rz : A2 := (⟨_, by conv => lhs; cbv⟩ : { c // gF Tryz.f133 [] [[[0], [1], [2], [3], [4], [5], [6], [7], [8], [9], [10], [11], [12], [13], [14], [15], [16], [17], [18], [19], [20], [21], [22], [23], [24], [25], [26], [27], [28], [29], [30], [31], [32], [33], [34], [35], [36]]] = some c }).1
def A73 : A2 := (⟨_, by conv => lhs; cbv⟩ : { c // gF Tryz.f141 [] = some c }).1
def AcA : A1 := (⟨_, by conv => lhs; cbv⟩ : { c // gL Tryz.f150 0 [] = some c }).1
def A6a : A2 := (⟨_, by intro a; conv => lhs; cbv⟩ : { c : A1 → A2 // ∀ a, gF Tryz.f150 [(0, a)] = some (c a) }).1 AcA
def A7d : A2 := (⟨_, by conv => lhs; cbv⟩ : { c // gF Tryz.f155 [] = some c }).1
def ZF : A2 := (⟨_, by conv => lhs; cbv⟩ : { c // gF Tryz.f160 [] = some c }).1
def E6 : A1 := (⟨_, by conv => lhs; cbv⟩ : { c // gL Tryz.f164 0 [] = some c }).1
def C4 : A2 := (⟨_, by intro a; conv => lhs; cbv⟩ : { c : A1 → A2 // ∀ a, gF Tryz.f164 [(0, a)] [[[0], [1], [2], [3], [4], [5], [6], [7], [8], [9], [10], [11], [12], [13], [14], [15], [16], [17], [18], [19], [20], [21], [22], [23], [24], [25], [26], [27], [28], [29], [30], [31], [32], [33], [34], [35], [36], [37], [38]], [[0], [1], [2], [3], [4], [6], [7], [9], [10], [11], [12], [5, 10], [8, 10], [13], [14], [15]], [[0], [1], [2], [3], [4], [6], [7], [9], [10], [11], [12], [5, 10], [8, 10], [13], [14], [15]]] = some (c a) }).1 E6
def A86 : A1 := (⟨_, by conv => lhs; cbv⟩ : { c // gL Tryz.f168 2 [] = some c }).1
def A8x : A1 := (⟨_, by intro a; conv => lhs; cbv⟩ : { c : A1 → A1 // ∀ a, gL Tryz.f168 0 [(2, a)] = some (c a) }).1 A86
def A6B : A2 := (⟨_, by intro a; conv => lhs; cbv⟩ : { c : A1 → A2 // ∀ a, gF Tryz.f168 [(0, a)] = some (c a) }).1 A8x
def SW : A2 := (⟨_, by conv => lhs; cbv⟩ : { c // gF Tryz.f172 [] = some c }).1
def ZY : A2 := (⟨_, by conv => lhs; cbv⟩ : { c // gF Tryz.f176 [] = some c }).1
def Xq : A2 := (⟨_, by conv => lhs; cbv⟩ : { c // gF Tryz.f180 [] = some c }).1
def Tn : A1 := (⟨_, by conv => lhs; cbv⟩ : { c // gL Tryz.f186 0 [] = some c }).1
def Y8 : A2 := (⟨_, by intro a; conv => lhs; cbv⟩ : { c : A1 → A2 // ∀ a, gF Tryz.f186 [(0, a)] = some (c a) }).1 Tn
def A7X : A1 := (⟨_, by conv => lhs; cbv⟩ : { c // gL Tryz.f190 2 [] = some c }).1
def A97 : A1 := (⟨_, by intro a; conv => lhs; cbv⟩ : { c : A1 → A1 // ∀ a, gL Tryz.f190 0 [(2, a)] = some (c a) }).1 A7X
def Ze : A2 := (⟨_, by intro a; conv => lhs; cbv⟩ : { c : A1 → A2 // ∀ a, gF Tryz.f190 [(0, a)] = some (c a) }).1 A97
def Mp : A2 := ⟨[], .block 0 (.loop (.seq (.seq (.reg [o 4 (.mov (.t 0)), o 5 (.bin .neq none (.t 4) (.c (.i .u64 0)))]) (.cond (.t 5) (.skip) (.exit 0))) (.seq (.block 1 (.reg [o 10 (.mov (.t 1)), o 11 (.mov (.t 0)), o 12 (.call (.c (.f AE [] [])) [(.t 11)]), o 13 (.call (.t 10) [(.t 12)])])) (.reg [o 6 (.mov (.t 0)), o 7 (.mov (.t 0)), o 8 (.bin .sub none (.t 7) (.c (.i .u64 1))), o 9 (.bin .and none (.t 6) (.t 8)), o 0 (.mov (.t 9))]))))⟩
def A04 : A2 := (⟨_, by conv => lhs; cbv⟩ : { c // gF Tryz.f199 [] = some c }).1
def Q4 : A2 := (⟨_, by conv => lhs; cbv⟩ : { c // gF Tryz.f208 [] [[[0], [1], [2], [3], [4], [5], [6], [7], [8], [9], [10], [11], [12], [13], [14], [15], [16], [17], [18], [19], [20], [21], [22], [23], [24], [25]], [[0], [1], [2], [3], [4], [5], [6], [7], [8], [9], [10], [11], [12]]] = some c }).1
def Yz : A2 := (⟨_, by conv => lhs; cbv⟩ : { c // gF Tryz.f212 [] = some c }).1
def A7I : A1 := (⟨_, by conv => lhs; cbv⟩ : { c // gL Tryz.f216 0 [] = some c }).1
def XS : A2 := (⟨_, by intro a; conv => lhs; cbv⟩ : { c : A1 → A2 // ∀ a, gF Tryz.f216 [(0, a)] = some (c a) }).1 A7I
def ZE : A2 := (⟨_, by conv => lhs; cbv⟩ : { c // gF Tryz.f220 [] [[[0], [1], [2], [3], [4], [5], [6], [7], [8], [9], [10], [11], [12], [13], [14], [15], [16], [17], [18], [19], [20], [21], [22], [23]]] = some c }).1
def PW : A2 := (⟨_, by conv => lhs; cbv⟩ : { c // gF Tryz.f224 [] [[[0], [1], [2], [3], [4], [5], [6], [7, 1], [8], [9], [10]], [[0], [1], [2], [3], [4], [5], [6], [7], [8], [9], [10], [14], [15], [16], [11, 16, 4], [12], [13], [17, 13, 4], [18], [19]], [[0], [1], [2], [5], [6], [7], [3, 7], [4, 7], [8], [9], [10]]] = some c }).1
def A3R : A2 := (⟨_, by conv => lhs; cbv⟩ : { c // gF Tryz.f228 [] = some c }).1
def A95 : A1 := (⟨_, by conv => lhs; cbv⟩ : { c // gL Tryz.f232 0 [] = some c }).1
def A07 : A2 := (⟨_, by intro a; conv => lhs; cbv⟩ : { c : A1 → A2 // ∀ a, gF Tryz.f232 [(0, a)] = some (c a) }).1 A95
def Uc : A2 := (⟨_, by conv => lhs; cbv⟩ : { c // gF Tryz.f245 [] [[[0], [1], [2], [3], [4], [5], [6], [7], [8], [9], [10], [11], [12], [13], [14], [15], [16], [17], [18], [19], [20], [21], [22], [23], [24], [25], [26], [27], [28], [29], [30], [31], [32], [33], [34], [35], [36], [37], [38], [39], [40], [41], [42], [43], [44], [45], [46], [47], [48], [49], [50], [51]]] = some c }).1
def UE : A1 := (⟨_, by conv => lhs; cbv⟩ : { c // gL Tryz.f249 0 [] = some c }).1
def Yu : A2 := (⟨_, by intro a; conv => lhs; cbv⟩ : { c : A1 → A2 // ∀ a, gF Tryz.f249 [(0, a)] = some (c a) }).1 UE
def A8q : A1 := (⟨_, by conv => lhs; cbv⟩ : { c // gL Tryz.f253 2 [] = some c }).1
def PM : A2 := (⟨_, by intro a; conv => lhs; cbv⟩ : { c : A1 → A2 // ∀ a, gF Tryz.f253 [(2, a)] [[[0], [1], [2], [3], [4], [5], [6], [7], [8], [9], [10], [11], [12]], [[0], [1], [2], [4], [5], [6], [3, 5], [7], [8], [9], [10]], [[0], [1], [2], [3], [4], [5], [6], [7]]] = some (c a) }).1 A8q
def Yo : A2 := (⟨_, by conv => lhs; cbv⟩ : { c // gF Tryz.f257 [] = some c }).1
def Yp : A2 := (⟨_, by conv => lhs; cbv⟩ : { c // gF Tryz.f274 [] = some c }).1
def A7U : A1 := (⟨_, by conv => lhs; cbv⟩ : { c // gL Tryz.f278 0 [] = some c }).1
def YY : A2 := (⟨_, by intro a; conv => lhs; cbv⟩ : { c : A1 → A2 // ∀ a, gF Tryz.f278 [(0, a)] = some (c a) }).1 A7U
end Go.AM
