/-
  Own work, part of the proof of CoheAll: the code of the functions that the law reaches, as the machine has it; read off the program as the text is compiled.
-/
import Derived.Test.YtpcpldaangchaaaGreatDoorCoA
set_option maxRecDepth 4000
set_option linter.unusedVariables false
set_option linter.unusedSimpArgs false
set_option linter.unusedSectionVars false
set_option linter.unnecessarySimpa false
set_option maxRecDepth 100000
set_option maxHeartbeats 4000000
namespace Go.AM
open Go Go.Proofs
def A4d : A2 := (⟨_, by conv => lhs; cbv⟩ : { c // gF Tryz.f3 [] [[[0], [1], [3], [4], [2, 4, 3], [5], [6], [7], [8], [9], [11], [12], [10, 12, 11], [13], [14], [15], [16], [17], [18], [19], [20], [22], [23], [24], [25], [21, 23, 22], [26], [27], [28], [29]]] = some c }).1
def A99 : A2 := (⟨_, by conv => lhs; cbv⟩ : { c // gF Tryz.f12 [] [[[0], [1], [2], [3], [4], [5], [6], [7], [8], [9], [10]], [[0], [1], [2], [3], [4], [5], [6], [7], [8], [9], [10], [11]], [[0], [1], [2], [3], [4], [5], [6], [7], [8], [9], [10], [11], [12], [13], [14], [15]]] = some c }).1
def Abg : A2 := (⟨_, by conv => lhs; cbv⟩ : { c // gF Tryz.f16 [] = some c }).1
def AcK : A1 := (⟨_, by conv => lhs; cbv⟩ : { c // gL Tryz.f26 8 [] = some c }).1
def Abq : A1 := (⟨_, by intro a; conv => lhs; cbv⟩ : { c : A1 → A1 // ∀ a, gL Tryz.f26 6 [(8, a)] = some (c a) }).1 AcK
def Adc : A1 := (⟨_, by conv => lhs; cbv⟩ : { c // gL Tryz.f26 4 [] = some c }).1
def AbT : A1 := (⟨_, by intro a; conv => lhs; cbv⟩ : { c : A1 → A1 // ∀ a, gL Tryz.f26 2 [(4, a)] = some (c a) }).1 Adc
def AcZ : A1 := (⟨_, by conv => lhs; cbv⟩ : { c // gL Tryz.f26 0 [] [[[0], [1], [2], [3], [4], [5], [6], [7], [8], [9], [10]], [[0], [1], [2], [3], [4], [5], [6], [7], [8], [9], [10], [11], [12], [13], [14], [15], [16], [17], [18], [19], [20], [21], [22], [23], [24], [25], [26], [27], [28], [29], [30], [31], [32], [33], [34], [35]]] = some c }).1
def Sm : A2 := (⟨_, by intro a b d; conv => lhs; cbv⟩ : { c : A1 → A1 → A1 → A2 // ∀ a b d, gF Tryz.f26 [(0, a), (2, b), (6, d)] = some (c a b d) }).1 AcZ AbT Abq
def Wv : A2 := (⟨_, by conv => lhs; cbv⟩ : { c // gF Tryz.f36 [] = some c }).1
def Abi : A1 := (⟨_, by conv => lhs; cbv⟩ : { c // gL Tryz.f42 2 [] = some c }).1
def AbX : A1 := (⟨_, by conv => lhs; cbv⟩ : { c // gL Tryz.f42 0 [] = some c }).1
def A5b : A2 := (⟨_, by intro a b; conv => lhs; cbv⟩ : { c : A1 → A1 → A2 // ∀ a b, gF Tryz.f42 [(0, a), (2, b)] = some (c a b) }).1 AbX Abi
def Abl : A1 := (⟨_, by conv => lhs; cbv⟩ : { c // gL Tryz.f46 8 [] [[[0], [1], [2], [3], [4], [5], [6], [7], [8], [9], [10], [11], [12], [13], [14], [15], [16], [17], [18], [19], [20], [21], [22], [23], [24], [25], [26], [27], [28], [29], [30], [31], [32], [33], [34], [35], [36]]] = some c }).1
def Adg : A1 := (⟨_, by conv => lhs; cbv⟩ : { c // gL Tryz.f46 6 [] = some c }).1
def Ad0 : A1 := (⟨_, by conv => lhs; cbv⟩ : { c // gL Tryz.f46 4 [] = some c }).1
def Aca : A1 := (⟨_, by conv => lhs; cbv⟩ : { c // gL Tryz.f46 2 [] [[[0], [1], [2], [3], [4], [5], [6], [7], [8], [9], [10], [11], [12], [13], [14], [15], [16], [17], [18], [19], [20], [21], [22], [23], [24]], [[0], [1], [2], [3], [4], [5], [6], [7], [8], [9], [10], [11], [12], [13], [14], [15], [16], [17], [18], [19, 5, 2], [20], [21]]] = some c }).1
def Ads : A1 := (⟨_, by intro a; conv => lhs; cbv⟩ : { c : A1 → A1 // ∀ a, gL Tryz.f46 0 [(2, a)] = some (c a) }).1 Aca
def AaG : A2 := (⟨_, by intro a b d e; conv => lhs; cbv⟩ : { c : A1 → A1 → A1 → A1 → A2 // ∀ a b d e, gF Tryz.f46 [(0, a), (4, b), (6, d), (8, e)] = some (c a b d e) }).1 Ads Ad0 Adg Abl
def A2j : A2 := (⟨_, by conv => lhs; cbv⟩ : { c // gF Tryz.f50 [] = some c }).1
def A8a : A2 := (⟨_, by conv => lhs; cbv⟩ : { c // gF Tryz.f54 [] = some c }).1
def AaL : A2 := (⟨_, by conv => lhs; cbv⟩ : { c // gF Tryz.f59 [] = some c }).1
def Adq : A1 := (⟨_, by conv => lhs; cbv⟩ : { c // gL Tryz.f67 0 [] [[[0], [1], [2], [3], [4], [5], [6], [7], [8], [9], [10], [11], [12], [13], [14], [15], [16], [17], [18], [19], [20], [21], [22]], [[0], [1], [2], [3], [4], [5], [6], [7], [8], [9]]] = some c }).1
def A6p : A2 := (⟨_, by intro a; conv => lhs; cbv⟩ : { c : A1 → A2 // ∀ a, gF Tryz.f67 [(0, a)] = some (c a) }).1 Adq
def A7j : A1 := (⟨_, by conv => lhs; cbv⟩ : { c // gL Tryz.f83 0 [] = some c }).1
def A85 : A2 := (⟨_, by intro a; conv => lhs; cbv⟩ : { c : A1 → A2 // ∀ a, gF Tryz.f83 [(0, a)] = some (c a) }).1 A7j
def AbR : A1 := (⟨_, by conv => lhs; cbv⟩ : { c // gL Tryz.f87 4 [] = some c }).1
def Ade : A1 := (⟨_, by conv => lhs; cbv⟩ : { c // gL Tryz.f87 2 [] = some c }).1
def AcV : A1 := (⟨_, by intro a b; conv => lhs; cbv⟩ : { c : A1 → A1 → A1 // ∀ a b, gL Tryz.f87 0 [(2, a), (4, b)] = some (c a b) }).1 Ade AbR
def A39 : A2 := (⟨_, by intro a; conv => lhs; cbv⟩ : { c : A1 → A2 // ∀ a, gF Tryz.f87 [(0, a)] = some (c a) }).1 AcV
def A7E : A2 := (⟨_, by conv => lhs; cbv⟩ : { c // gF Tryz.f91 [] = some c }).1
def Xq : A2 := (⟨_, by conv => lhs; cbv⟩ : { c // gF Tryz.f98 [] = some c }).1
def Yh : A2 := (⟨_, by conv => lhs; cbv⟩ : { c // gF Tryz.f102 [] = some c }).1
def SM : A2 := (⟨_, by conv => lhs; cbv⟩ : { c // gF Tryz.f106 [] = some c }).1
def Ad6 : A1 := (⟨_, by conv => lhs; cbv⟩ : { c // gL Tryz.f110 2 [] = some c }).1
def AcN : A1 := (⟨_, by intro a; conv => lhs; cbv⟩ : { c : A1 → A1 // ∀ a, gL Tryz.f110 0 [(2, a)] [[[0], [1], [2], [3], [4], [5], [6], [7], [8], [9], [10], [11], [12], [13], [14], [15], [16], [17], [18], [19], [20], [21], [22], [23], [24], [25], [26], [27], [28], [29], [30], [31], [32], [33], [34], [35], [36], [37], [38]], [[0], [1], [2], [3], [4], [5], [6], [7], [8], [9], [10], [11], [12], [13], [14], [15], [16], [17], [18, 9, 7, 3, 1], [19], [20], [21]]] = some (c a) }).1 Ad6
def AaX : A2 := (⟨_, by intro a; conv => lhs; cbv⟩ : { c : A1 → A2 // ∀ a, gF Tryz.f110 [(0, a)] = some (c a) }).1 AcN
def A6A : A2 := (⟨_, by conv => lhs; cbv⟩ : { c // gF Tryz.f114 [] = some c }).1
def Ac2 : A1 := (⟨_, by conv => lhs; cbv⟩ : { c // gL Tryz.f118 0 [] = some c }).1
def A6k : A2 := (⟨_, by intro a; conv => lhs; cbv⟩ : { c : A1 → A2 // ∀ a, gF Tryz.f118 [(0, a)] = some (c a) }).1 Ac2
def AcO : A1 := (⟨_, by conv => lhs; cbv⟩ : { c // gL Tryz.f124 2 [] = some c }).1
def Abr : A1 := (⟨_, by intro a; conv => lhs; cbv⟩ : { c : A1 → A1 // ∀ a, gL Tryz.f124 0 [(2, a)] = some (c a) }).1 AcO
def AaH : A2 := (⟨_, by intro a; conv => lhs; cbv⟩ : { c : A1 → A2 // ∀ a, gF Tryz.f124 [(0, a)] = some (c a) }).1 Abr
def A1K : A2 := (⟨_, by conv => lhs; cbv⟩ : { c // gF Tryz.f129 [] = some c }).1
def SQ : A2 := (⟨_, by conv => lhs; cbv⟩ : { c // gF Tryz.f133 [] [[[0], [1], [2], [3], [4], [5], [6], [7], [8], [9], [10], [11], [12], [13], [14], [15], [16], [17], [18], [19], [20], [21], [22], [23], [24], [25], [26], [27], [28], [29], [30], [31], [32], [33], [34], [35], [36]]] = some c }).1
def A6y : A2 := (⟨_, by conv => lhs; cbv⟩ : { c // gF Tryz.f141 [] = some c }).1
def AbJ : A1 := (⟨_, by conv => lhs; cbv⟩ : { c // gL Tryz.f150 0 [] = some c }).1
def A76 : A2 := (⟨_, by intro a; conv => lhs; cbv⟩ : { c : A1 → A2 // ∀ a, gF Tryz.f150 [(0, a)] = some (c a) }).1 AbJ
def ZJ : A2 := (⟨_, by conv => lhs; cbv⟩ : { c // gF Tryz.f155 [] = some c }).1
def Zs : A2 := (⟨_, by conv => lhs; cbv⟩ : { c // gF Tryz.f160 [] = some c }).1
def Er : A1 := (⟨_, by conv => lhs; cbv⟩ : { c // gL Tryz.f164 0 [] = some c }).1
def Cf : A2 := (⟨_, by intro a; conv => lhs; cbv⟩ : { c : A1 → A2 // ∀ a, gF Tryz.f164 [(0, a)] [[[0], [1], [2], [3], [4], [5], [6], [7], [8], [9], [10], [11], [12], [13], [14], [15], [16], [17], [18], [19], [20], [21], [22], [23], [24], [25], [26], [27], [28], [29], [30], [31], [32], [33], [34], [35], [36], [37], [38]], [[0], [1], [2], [3], [4], [6], [7], [9], [10], [11], [12], [5, 10], [8, 10], [13], [14], [15]], [[0], [1], [2], [3], [4], [6], [7], [9], [10], [11], [12], [5, 10], [8, 10], [13], [14], [15]]] = some (c a) }).1 Er
def Aa3 : A1 := (⟨_, by conv => lhs; cbv⟩ : { c // gL Tryz.f168 2 [] = some c }).1
def A9H : A1 := (⟨_, by intro a; conv => lhs; cbv⟩ : { c : A1 → A1 // ∀ a, gL Tryz.f168 0 [(2, a)] = some (c a) }).1 Aa3
def A6b : A2 := (⟨_, by intro a; conv => lhs; cbv⟩ : { c : A1 → A2 // ∀ a, gF Tryz.f168 [(0, a)] = some (c a) }).1 A9H
def U6 : A2 := (⟨_, by conv => lhs; cbv⟩ : { c // gF Tryz.f172 [] = some c }).1
def A0r : A2 := (⟨_, by conv => lhs; cbv⟩ : { c // gF Tryz.f176 [] = some c }).1
def A0v : A2 := (⟨_, by conv => lhs; cbv⟩ : { c // gF Tryz.f180 [] = some c }).1
def Vd : A1 := (⟨_, by conv => lhs; cbv⟩ : { c // gL Tryz.f186 0 [] = some c }).1
def YX : A2 := (⟨_, by intro a; conv => lhs; cbv⟩ : { c : A1 → A2 // ∀ a, gF Tryz.f186 [(0, a)] = some (c a) }).1 Vd
def A9d : A1 := (⟨_, by conv => lhs; cbv⟩ : { c // gL Tryz.f190 2 [] = some c }).1
def Aa6 : A1 := (⟨_, by intro a; conv => lhs; cbv⟩ : { c : A1 → A1 // ∀ a, gL Tryz.f190 0 [(2, a)] = some (c a) }).1 A9d
def ZK : A2 := (⟨_, by intro a; conv => lhs; cbv⟩ : { c : A1 → A2 // ∀ a, gF Tryz.f190 [(0, a)] = some (c a) }).1 Aa6
def Nm : A2 := ⟨[], .block 0 (.loop (.seq (.seq (.reg [o 4 (.mov (.t 0)), o 5 (.bin .neq none (.t 4) (.c (.i .u64 0)))]) (.cond (.t 5) (.skip) (.exit 0))) (.seq (.block 1 (.reg [o 10 (.mov (.t 1)), o 11 (.mov (.t 0)), o 12 (.call (.c (.f AL [] [])) [(.t 11)]), o 13 (.call (.t 10) [(.t 12)])])) (.reg [o 6 (.mov (.t 0)), o 7 (.mov (.t 0)), o 8 (.bin .sub none (.t 7) (.c (.i .u64 1))), o 9 (.bin .and none (.t 6) (.t 8)), o 0 (.mov (.t 9))]))))⟩
def ZO : A2 := (⟨_, by conv => lhs; cbv⟩ : { c // gF Tryz.f199 [] = some c }).1
def Qi : A2 := (⟨_, by conv => lhs; cbv⟩ : { c // gF Tryz.f208 [] [[[0], [1], [2], [3], [4], [5], [6], [7], [8], [9], [10], [11], [12], [13], [14], [15], [16], [17], [18], [19], [20], [21], [22], [23], [24], [25]], [[0], [1], [2], [3], [4], [5], [6], [7], [8], [9], [10], [11], [12]]] = some c }).1
def A0Z : A2 := (⟨_, by conv => lhs; cbv⟩ : { c // gF Tryz.f212 [] = some c }).1
def A9q : A1 := (⟨_, by conv => lhs; cbv⟩ : { c // gL Tryz.f216 0 [] = some c }).1
def A0Q : A2 := (⟨_, by intro a; conv => lhs; cbv⟩ : { c : A1 → A2 // ∀ a, gF Tryz.f216 [(0, a)] = some (c a) }).1 A9q
def Zq : A2 := (⟨_, by conv => lhs; cbv⟩ : { c // gF Tryz.f220 [] = some c }).1
def PF : A2 := (⟨_, by conv => lhs; cbv⟩ : { c // gF Tryz.f224 [] [[[0], [1], [2], [3], [4], [5], [6], [7, 1], [8], [9], [10]], [[0], [1], [2], [3], [4], [5], [6], [7], [8], [9], [10], [14], [15], [16], [11, 16, 4], [12], [13], [17, 13, 4], [18], [19]], [[0], [1], [2], [5], [6], [7], [3, 7], [4, 7], [8], [9], [10]]] = some c }).1
def A0p : A2 := (⟨_, by conv => lhs; cbv⟩ : { c // gF Tryz.f228 [] = some c }).1
def Aa0 : A1 := (⟨_, by conv => lhs; cbv⟩ : { c // gL Tryz.f232 0 [] = some c }).1
def Zi : A2 := (⟨_, by intro a; conv => lhs; cbv⟩ : { c : A1 → A2 // ∀ a, gF Tryz.f232 [(0, a)] = some (c a) }).1 Aa0
def SX : A2 := (⟨_, by conv => lhs; cbv⟩ : { c // gF Tryz.f245 [] [[[0], [1], [2], [3], [4], [5], [6], [7], [8], [9], [10], [11], [12], [13], [14], [15], [16], [17], [18], [19], [20], [21], [22], [23], [24], [25], [26], [27], [28], [29], [30], [31], [32], [33], [34], [35], [36], [37], [38], [39], [40], [41], [42], [43], [44], [45], [46], [47], [48], [49], [50], [51]]] = some c }).1
def TN : A1 := (⟨_, by conv => lhs; cbv⟩ : { c // gL Tryz.f249 0 [] = some c }).1
def A0g : A2 := (⟨_, by intro a; conv => lhs; cbv⟩ : { c : A1 → A2 // ∀ a, gF Tryz.f249 [(0, a)] = some (c a) }).1 TN
def A8p : A1 := (⟨_, by conv => lhs; cbv⟩ : { c // gL Tryz.f253 2 [] = some c }).1
def QC : A2 := (⟨_, by intro a; conv => lhs; cbv⟩ : { c : A1 → A2 // ∀ a, gF Tryz.f253 [(2, a)] [[[0], [1], [2], [3], [4], [5], [6], [7], [8], [9], [10], [11], [12]], [[0], [1], [2], [4], [5], [6], [3, 5], [7], [8], [9], [10]], [[0], [1], [2], [3], [4], [5], [6], [7]]] = some (c a) }).1 A8p
def Yz : A2 := (⟨_, by conv => lhs; cbv⟩ : { c // gF Tryz.f257 [] = some c }).1
def Zm : A2 := (⟨_, by conv => lhs; cbv⟩ : { c // gF Tryz.f274 [] = some c }).1
def A9w : A1 := (⟨_, by conv => lhs; cbv⟩ : { c // gL Tryz.f278 0 [] = some c }).1
def YG : A2 := (⟨_, by intro a; conv => lhs; cbv⟩ : { c : A1 → A2 // ∀ a, gF Tryz.f278 [(0, a)] = some (c a) }).1 A9w
end Go.AM
