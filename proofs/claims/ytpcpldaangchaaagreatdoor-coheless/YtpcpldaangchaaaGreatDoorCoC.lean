/-
  Own work, part of the proof of CoheLess: the code of the functions that the law reaches, as the machine has it; read off the program as the text is compiled.
-/
import Derived.Test.YtpcpldaangchaaaGreatDoorCoA
set_option maxRecDepth 4000
set_option linter.unusedVariables false
set_option linter.unusedSimpArgs false
set_option linter.unusedSectionVars false
set_option linter.unnecessarySimpa false
set_option maxRecDepth 100000
set_option maxHeartbeats 4000000
namespace Go.AM
open Go Go.Proofs
def Aeh : A2 := (⟨_, by conv => lhs; cbv⟩ : { c // gF Tryz.f9 [] = some c }).1
def Z4 : A2 := (⟨_, by conv => lhs; cbv⟩ : { c // gF Tryz.f15 [] = some c }).1
def Aat : A2 := (⟨_, by conv => lhs; cbv⟩ : { c // gF Tryz.f22 [] = some c }).1
def WH : A2 := (⟨_, by conv => lhs; cbv⟩ : { c // gF Tryz.f34 [] = some c }).1
def A76 : A2 := (⟨_, by conv => lhs; cbv⟩ : { c // gF Tryz.f40 [] = some c }).1
def A4K : A2 := (⟨_, by conv => lhs; cbv⟩ : { c // gF Tryz.f44 [] = some c }).1
def Abl : A1 := (⟨_, by conv => lhs; cbv⟩ : { c // gL Tryz.f48 0 [] [[[0], [1], [2], [3], [4], [5], [6], [7], [8], [9], [10], [11], [12], [13], [14], [16], [17], [18], [15, 18, 11, 9, 7, 5, 3, 1], [19, 11, 9, 7, 5, 3, 1], [20], [21]]] = some c }).1
def A4Y : A2 := (⟨_, by intro a; conv => lhs; cbv⟩ : { c : A1 → A2 // ∀ a, gF Tryz.f48 [(0, a)] = some (c a) }).1 Abl
def Aao : A1 := (⟨_, by conv => lhs; cbv⟩ : { c // gL Tryz.f52 2 [] [[[0], [1], [2], [3], [4], [5], [6], [7], [8], [9]], [[0], [1], [2], [3], [4], [5], [6], [7], [8], [9], [10], [11], [12], [13], [14], [15], [16, 4], [17], [18]]] = some c }).1
def Ab4 : A1 := (⟨_, by intro a; conv => lhs; cbv⟩ : { c : A1 → A1 // ∀ a, gL Tryz.f52 0 [(2, a)] = some (c a) }).1 Aao
def Aa1 : A2 := (⟨_, by intro a; conv => lhs; cbv⟩ : { c : A1 → A2 // ∀ a, gF Tryz.f52 [(0, a)] = some (c a) }).1 Ab4
def A9O : A2 := (⟨_, by conv => lhs; cbv⟩ : { c // gF Tryz.f57 [] = some c }).1
def A9s : A2 := (⟨_, by conv => lhs; cbv⟩ : { c // gF Tryz.f62 [] = some c }).1
def A5e : A1 := (⟨_, by conv => lhs; cbv⟩ : { c // gL Tryz.f69 2 [] [[[0], [1], [2], [3], [4], [5], [6], [7], [8], [9]], [[0], [1], [2], [3], [4], [5], [6], [7], [8], [9], [10], [11], [12], [13], [14], [15], [16], [17], [18], [19], [20], [21], [22], [23], [24], [25], [26], [27]]] = some c }).1
def AbK : A1 := (⟨_, by intro a; conv => lhs; cbv⟩ : { c : A1 → A1 // ∀ a, gL Tryz.f69 0 [(2, a)] [[[0], [1], [2], [3], [4], [5], [6], [7], [8], [9], [10], [11], [12], [13], [14], [15], [16], [17], [18], [19], [20], [21], [22]], [[0], [1], [2], [3], [4], [5], [6], [7], [8], [9]]] = some (c a) }).1 A5e
def A1L : A2 := (⟨_, by intro a; conv => lhs; cbv⟩ : { c : A1 → A2 // ∀ a, gF Tryz.f69 [(0, a)] = some (c a) }).1 AbK
def Acn : A1 := (⟨_, by conv => lhs; cbv⟩ : { c // gL Tryz.f85 0 [] = some c }).1
def A5Z : A2 := (⟨_, by intro a; conv => lhs; cbv⟩ : { c : A1 → A2 // ∀ a, gF Tryz.f85 [(0, a)] = some (c a) }).1 Acn
def AaN : A1 := (⟨_, by conv => lhs; cbv⟩ : { c // gL Tryz.f89 0 [] = some c }).1
def A3Y : A2 := (⟨_, by intro a; conv => lhs; cbv⟩ : { c : A1 → A2 // ∀ a, gF Tryz.f89 [(0, a)] = some (c a) }).1 AaN
def AcG : A1 := (⟨_, by conv => lhs; cbv⟩ : { c // gL Tryz.f93 0 [] = some c }).1
def A2k : A2 := (⟨_, by intro a; conv => lhs; cbv⟩ : { c : A1 → A2 // ∀ a, gF Tryz.f93 [(0, a)] = some (c a) }).1 AcG
def Acw : A1 := (⟨_, by conv => lhs; cbv⟩ : { c // gL Tryz.f100 0 [] = some c }).1
def A71 : A2 := (⟨_, by intro a; conv => lhs; cbv⟩ : { c : A1 → A2 // ∀ a, gF Tryz.f100 [(0, a)] = some (c a) }).1 Acw
def P1 : A2 := (⟨_, by conv => lhs; cbv⟩ : { c // gF Tryz.f104 [] = some c }).1
def AaP : A1 := (⟨_, by conv => lhs; cbv⟩ : { c // gL Tryz.f108 0 [] = some c }).1
def A9t : A2 := (⟨_, by intro a; conv => lhs; cbv⟩ : { c : A1 → A2 // ∀ a, gF Tryz.f108 [(0, a)] = some (c a) }).1 AaP
def Ac0 : A1 := (⟨_, by conv => lhs; cbv⟩ : { c // gL Tryz.f112 2 [] = some c }).1
def Aci : A1 := (⟨_, by conv => lhs; cbv⟩ : { c // gL Tryz.f112 0 [] = some c }).1
def A0h : A2 := (⟨_, by intro a b; conv => lhs; cbv⟩ : { c : A1 → A1 → A2 // ∀ a b, gF Tryz.f112 [(0, a), (2, b)] = some (c a b) }).1 Aci Ac0
def AcF : A1 := (⟨_, by conv => lhs; cbv⟩ : { c // gL Tryz.f116 2 [] = some c }).1
def Acu : A1 := (⟨_, by intro a; conv => lhs; cbv⟩ : { c : A1 → A1 // ∀ a, gL Tryz.f116 0 [(2, a)] [[[0], [1], [2], [3], [4], [5], [6], [7], [8], [9], [10], [11], [12], [13], [14], [15], [16], [17], [18], [19], [20], [21], [22]]] = some (c a) }).1 AcF
def A5j : A2 := (⟨_, by intro a; conv => lhs; cbv⟩ : { c : A1 → A2 // ∀ a, gF Tryz.f116 [(0, a)] = some (c a) }).1 Acu
def AbV : A1 := (⟨_, by conv => lhs; cbv⟩ : { c // gL Tryz.f120 4 [] = some c }).1
def Aab : A1 := (⟨_, by intro a; conv => lhs; cbv⟩ : { c : A1 → A1 // ∀ a, gL Tryz.f120 2 [(4, a)] [[[0], [1], [2], [3], [4], [5], [6], [7], [8], [9]], [[0], [1], [2], [3], [4], [5], [6], [7], [8], [9], [10], [11], [12], [13], [14], [15], [16], [17], [18], [19], [20], [21], [22], [23], [24], [25], [26], [27], [28], [29], [30], [31]]] = some (c a) }).1 AbV
def Aac : A1 := (⟨_, by intro a; conv => lhs; cbv⟩ : { c : A1 → A1 // ∀ a, gL Tryz.f120 0 [(2, a)] [[[0], [1], [2], [3], [4], [5], [6], [7], [8], [9], [10], [11], [12], [13], [14], [15], [16], [17], [18], [19], [20], [21], [22], [23], [24], [25], [26], [27], [28], [29], [30]], [[0], [1], [2], [3], [4], [5], [6], [7], [8], [9]]] = some (c a) }).1 Aab
def A9w : A2 := (⟨_, by intro a; conv => lhs; cbv⟩ : { c : A1 → A2 // ∀ a, gF Tryz.f120 [(0, a)] = some (c a) }).1 Aac
def Ac7 : A1 := (⟨_, by conv => lhs; cbv⟩ : { c // gL Tryz.f126 2 [] [[[0], [1], [2], [3], [4], [5], [6], [7], [8], [9]], [[0], [1], [2], [3], [4], [5], [6], [7], [8], [9], [10], [11], [12], [13], [14], [15], [16], [17], [18], [19], [20], [21], [22], [23], [24], [25], [26], [27], [28], [29], [30], [31], [32]]] = some c }).1
def AbR : A1 := (⟨_, by conv => lhs; cbv⟩ : { c // gL Tryz.f126 0 [] [[[0], [1], [2], [3], [4], [5], [6], [7], [8], [9], [10], [11], [12], [13], [14], [15], [16], [17], [18], [19], [20], [21], [22]]] = some c }).1
def A9Z : A2 := (⟨_, by intro a b; conv => lhs; cbv⟩ : { c : A1 → A1 → A2 // ∀ a b, gF Tryz.f126 [(0, a), (2, b)] = some (c a b) }).1 AbR Ac7
def Aam : A1 := (⟨_, by conv => lhs; cbv⟩ : { c // gL Tryz.f131 0 [] = some c }).1
def A6p : A2 := (⟨_, by intro a; conv => lhs; cbv⟩ : { c : A1 → A2 // ∀ a, gF Tryz.f131 [(0, a)] = some (c a) }).1 Aam
def A4x : A2 := (⟨_, by conv => lhs; cbv⟩ : { c // gF Tryz.f135 [] = some c }).1
def ZW : A1 := (⟨_, by conv => lhs; cbv⟩ : { c // gL Tryz.f144 0 [] = some c }).1
def A4h : A2 := (⟨_, by intro a; conv => lhs; cbv⟩ : { c : A1 → A2 // ∀ a, gF Tryz.f144 [(0, a)] = some (c a) }).1 ZW
def Ys : A1 := (⟨_, by conv => lhs; cbv⟩ : { c // gL Tryz.f153 0 [] [[[0], [1], [2], [3], [4], [5], [6], [7], [8], [9], [10]], [[0], [1], [2], [3], [4], [5], [6], [7], [8], [9], [10]], [[0], [1], [2], [3], [4], [5], [6], [7], [8], [9], [10], [11], [12]], [[0], [1], [2], [3], [4], [5], [6], [7], [8], [9], [10], [11], [12], [13], [14], [15], [16], [17], [18], [19], [20], [21], [22], [23], [24], [25], [26], [27]]] = some c }).1
def A6C : A2 := (⟨_, by intro a; conv => lhs; cbv⟩ : { c : A1 → A2 // ∀ a, gF Tryz.f153 [(0, a)] = some (c a) }).1 Ys
def Yc : A2 := (⟨_, by conv => lhs; cbv⟩ : { c // gF Tryz.f157 [] = some c }).1
def Cl : A1 := (⟨_, by conv => lhs; cbv⟩ : { c // gL Tryz.f162 3 [] [[[0], [1], [2], [3], [4], [5], [6], [7], [8], [9], [10], [11], [12]], [[0], [1], [2], [3], [4], [5], [6], [9], [10], [11], [12], [13], [7, 13], [8], [14], [15]], [[0], [1], [2], [3], [4], [5], [6], [7], [8], [9], [10], [11], [12]]] = some c }).1
def NG : A1 := (⟨_, by conv => lhs; cbv⟩ : { c // gL Tryz.f162 0 [] = some c }).1
def Q1 : A2 := (⟨_, by intro a b; conv => lhs; cbv⟩ : { c : A1 → A1 → A2 // ∀ a b, gF Tryz.f162 [(0, a), (3, b)] [[[0], [1], [2], [3], [4], [5], [6], [7], [8], [9], [10], [11]], [[0], [1], [2], [3], [4], [5], [6], [7], [8]], [[0], [1], [2], [3], [4], [5], [6], [7], [8], [9], [10], [11], [12], [13, 6], [14], [15]], [[0], [1], [2], [3], [4], [5], [6], [7], [8], [9], [10]], [[0], [1], [2], [3], [4], [5], [6], [7], [8], [9], [10], [11], [12], [13], [14], [15, 8, 4], [16], [17], [18]]] = some (c a b) }).1 NG Cl
def A8B : A1 := (⟨_, by conv => lhs; cbv⟩ : { c // gL Tryz.f166 0 [] = some c }).1
def ZA : A2 := (⟨_, by intro a; conv => lhs; cbv⟩ : { c : A1 → A2 // ∀ a, gF Tryz.f166 [(0, a)] = some (c a) }).1 A8B
def Sn : A1 := (⟨_, by conv => lhs; cbv⟩ : { c // gL Tryz.f170 0 [] = some c }).1
def XM : A2 := (⟨_, by intro a; conv => lhs; cbv⟩ : { c : A1 → A2 // ∀ a, gF Tryz.f170 [(0, a)] = some (c a) }).1 Sn
def A8e : A1 := (⟨_, by conv => lhs; cbv⟩ : { c // gL Tryz.f174 0 [] = some c }).1
def Um : A2 := (⟨_, by intro a; conv => lhs; cbv⟩ : { c : A1 → A2 // ∀ a, gF Tryz.f174 [(0, a)] = some (c a) }).1 A8e
def Pg : A2 := (⟨_, by conv => lhs; cbv⟩ : { c // gF Tryz.f178 [] = some c }).1
def A8G : A1 := (⟨_, by conv => lhs; cbv⟩ : { c // gL Tryz.f182 2 [] [[[0], [1], [2], [3], [4], [5], [6], [7], [8], [9]], [[0], [1], [2], [3], [4], [5], [6], [7], [8], [9], [10], [11], [12], [13], [14], [15], [16], [17], [18], [19], [20], [21], [22]]] = some c }).1
def A8v : A1 := (⟨_, by intro a; conv => lhs; cbv⟩ : { c : A1 → A1 // ∀ a, gL Tryz.f182 0 [(2, a)] = some (c a) }).1 A8G
def A56 : A2 := (⟨_, by intro a; conv => lhs; cbv⟩ : { c : A1 → A2 // ∀ a, gF Tryz.f182 [(0, a)] = some (c a) }).1 A8v
def ZU : A2 := (⟨_, by conv => lhs; cbv⟩ : { c // gF Tryz.f188 [] = some c }).1
def Uv : A2 := (⟨_, by conv => lhs; cbv⟩ : { c // gF Tryz.f192 [] = some c }).1
def A7u : A1 := (⟨_, by conv => lhs; cbv⟩ : { c // gL Tryz.f197 0 [] = some c }).1
def Z5 : A2 := (⟨_, by intro a; conv => lhs; cbv⟩ : { c : A1 → A2 // ∀ a, gF Tryz.f197 [(0, a)] = some (c a) }).1 A7u
def Xs : A2 := (⟨_, by conv => lhs; cbv⟩ : { c // gF Tryz.f206 [] = some c }).1
def Zf : A2 := (⟨_, by conv => lhs; cbv⟩ : { c // gF Tryz.f210 [] = some c }).1
def A8b : A1 := (⟨_, by conv => lhs; cbv⟩ : { c // gL Tryz.f214 0 [] = some c }).1
def ZJ : A2 := (⟨_, by intro a; conv => lhs; cbv⟩ : { c : A1 → A2 // ∀ a, gF Tryz.f214 [(0, a)] = some (c a) }).1 A8b
def A7p : A1 := (⟨_, by conv => lhs; cbv⟩ : { c // gL Tryz.f218 0 [] = some c }).1
def ZG : A2 := (⟨_, by intro a; conv => lhs; cbv⟩ : { c : A1 → A2 // ∀ a, gF Tryz.f218 [(0, a)] = some (c a) }).1 A7p
def ZB : A2 := (⟨_, by conv => lhs; cbv⟩ : { c // gF Tryz.f222 [] = some c }).1
def Xu : A2 := (⟨_, by conv => lhs; cbv⟩ : { c // gF Tryz.f226 [] = some c }).1
def Ua : A2 := (⟨_, by conv => lhs; cbv⟩ : { c // gF Tryz.f230 [] = some c }).1
def YF : A2 := (⟨_, by conv => lhs; cbv⟩ : { c // gF Tryz.f235 [] = some c }).1
def Yt : A2 := (⟨_, by conv => lhs; cbv⟩ : { c // gF Tryz.f247 [] = some c }).1
def A8E : A1 := (⟨_, by conv => lhs; cbv⟩ : { c // gL Tryz.f251 0 [] = some c }).1
def YM : A2 := (⟨_, by intro a; conv => lhs; cbv⟩ : { c : A1 → A2 // ∀ a, gF Tryz.f251 [(0, a)] = some (c a) }).1 A8E
def XZ : A2 := (⟨_, by conv => lhs; cbv⟩ : { c // gF Tryz.f255 [] = some c }).1
def A94 : A1 := (⟨_, by conv => lhs; cbv⟩ : { c // gL Tryz.f259 0 [] = some c }).1
def XJ : A2 := (⟨_, by intro a; conv => lhs; cbv⟩ : { c : A1 → A2 // ∀ a, gF Tryz.f259 [(0, a)] = some (c a) }).1 A94
def YK : A2 := (⟨_, by conv => lhs; cbv⟩ : { c // gF Tryz.f276 [] = some c }).1
def HF : A2 := (⟨_, by conv => lhs; cbv⟩ : { c // gF Tryz.f280 [] = some c }).1
end Go.AM
