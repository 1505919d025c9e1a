/-
  Own work, part of the proof of CoheAll: the code of the functions that the law reaches, as the machine has it; read off the program as the text is compiled.
-/
import Derived.Test.YtpcpldaangchaaaGreatDoorCoA
set_option maxRecDepth 4000
set_option linter.unusedVariables false
set_option linter.unusedSimpArgs false
set_option linter.unusedSectionVars false
set_option linter.unnecessarySimpa false
set_option maxRecDepth 100000
set_option maxHeartbeats 4000000
namespace Go.AM
open Go Go.Proofs
def Acf : A2 := (⟨_, by conv => lhs; cbv⟩ : { c // gF Tryz.f10 [] = some c }).1
def A9v : A2 := (⟨_, by conv => lhs; cbv⟩ : { c // gF Tryz.f14 [] = some c }).1
def AcG : A1 := (⟨_, by conv => lhs; cbv⟩ : { c // gL Tryz.f20 0 [] = some c }).1
def AaV : A2 := (⟨_, by intro a; conv => lhs; cbv⟩ : { c : A1 → A2 // ∀ a, gF Tryz.f20 [(0, a)] = some (c a) }).1 AcG
def Yl : A2 := (⟨_, by conv => lhs; cbv⟩ : { c // gF Tryz.f34 [] = some c }).1
def A5K : A2 := (⟨_, by conv => lhs; cbv⟩ : { c // gF Tryz.f40 [] = some c }).1
def A5a : A2 := (⟨_, by conv => lhs; cbv⟩ : { c // gF Tryz.f44 [] = some c }).1
def AbA : A1 := (⟨_, by conv => lhs; cbv⟩ : { c // gL Tryz.f48 0 [] = some c }).1
def A5i : A2 := (⟨_, by intro a; conv => lhs; cbv⟩ : { c : A1 → A2 // ∀ a, gF Tryz.f48 [(0, a)] = some (c a) }).1 AbA
def Acd : A1 := (⟨_, by conv => lhs; cbv⟩ : { c // gL Tryz.f52 2 [] = some c }).1
def Adh : A1 := (⟨_, by intro a; conv => lhs; cbv⟩ : { c : A1 → A1 // ∀ a, gL Tryz.f52 0 [(2, a)] = some (c a) }).1 Acd
def A5S : A2 := (⟨_, by intro a; conv => lhs; cbv⟩ : { c : A1 → A2 // ∀ a, gF Tryz.f52 [(0, a)] = some (c a) }).1 Adh
def AaY : A2 := (⟨_, by conv => lhs; cbv⟩ : { c // gF Tryz.f57 [] = some c }).1
def Y8 : A2 := (⟨_, by conv => lhs; cbv⟩ : { c // gF Tryz.f62 [] = some c }).1
def A7D : A1 := (⟨_, by conv => lhs; cbv⟩ : { c // gL Tryz.f69 2 [] [[[0], [1], [2], [3], [4], [5], [6], [7], [8], [9]], [[0], [1], [2], [3], [4], [5], [6], [7], [8], [9], [10], [11], [12], [13], [14], [15], [16], [17], [18], [19], [20], [21], [22], [23], [24], [25], [26], [27]]] = some c }).1
def Acb : A1 := (⟨_, by intro a; conv => lhs; cbv⟩ : { c : A1 → A1 // ∀ a, gL Tryz.f69 0 [(2, a)] [[[0], [1], [2], [3], [4], [5], [6], [7], [8], [9], [10], [11], [12], [13], [14], [15], [16], [17], [18], [19], [20], [21], [22]], [[0], [1], [2], [3], [4], [5], [6], [7], [8], [9]]] = some (c a) }).1 A7D
def A2T : A2 := (⟨_, by intro a; conv => lhs; cbv⟩ : { c : A1 → A2 // ∀ a, gF Tryz.f69 [(0, a)] = some (c a) }).1 Acb
def Ad4 : A1 := (⟨_, by conv => lhs; cbv⟩ : { c // gL Tryz.f85 0 [] = some c }).1
def A7n : A2 := (⟨_, by intro a; conv => lhs; cbv⟩ : { c : A1 → A2 // ∀ a, gF Tryz.f85 [(0, a)] = some (c a) }).1 Ad4
def Adf : A1 := (⟨_, by conv => lhs; cbv⟩ : { c // gL Tryz.f89 0 [] = some c }).1
def A83 : A2 := (⟨_, by intro a; conv => lhs; cbv⟩ : { c : A1 → A2 // ∀ a, gF Tryz.f89 [(0, a)] = some (c a) }).1 Adf
def Ab4 : A1 := (⟨_, by conv => lhs; cbv⟩ : { c // gL Tryz.f93 0 [] = some c }).1
def A1T : A2 := (⟨_, by intro a; conv => lhs; cbv⟩ : { c : A1 → A2 // ∀ a, gF Tryz.f93 [(0, a)] = some (c a) }).1 Ab4
def AbU : A1 := (⟨_, by conv => lhs; cbv⟩ : { c // gL Tryz.f100 0 [] = some c }).1
def A5X : A2 := (⟨_, by intro a; conv => lhs; cbv⟩ : { c : A1 → A2 // ∀ a, gF Tryz.f100 [(0, a)] = some (c a) }).1 AbU
def QM : A2 := (⟨_, by conv => lhs; cbv⟩ : { c // gF Tryz.f104 [] = some c }).1
def Ab9 : A1 := (⟨_, by conv => lhs; cbv⟩ : { c // gL Tryz.f108 0 [] = some c }).1
def AaI : A2 := (⟨_, by intro a; conv => lhs; cbv⟩ : { c : A1 → A2 // ∀ a, gF Tryz.f108 [(0, a)] = some (c a) }).1 Ab9
def AcW : A1 := (⟨_, by conv => lhs; cbv⟩ : { c // gL Tryz.f112 2 [] = some c }).1
def AcH : A1 := (⟨_, by conv => lhs; cbv⟩ : { c // gL Tryz.f112 0 [] = some c }).1
def A1N : A2 := (⟨_, by intro a b; conv => lhs; cbv⟩ : { c : A1 → A1 → A2 // ∀ a b, gF Tryz.f112 [(0, a), (2, b)] = some (c a b) }).1 AcH AcW
def Adn : A1 := (⟨_, by conv => lhs; cbv⟩ : { c // gL Tryz.f116 2 [] = some c }).1
def Ad1 : A1 := (⟨_, by intro a; conv => lhs; cbv⟩ : { c : A1 → A1 // ∀ a, gL Tryz.f116 0 [(2, a)] = some (c a) }).1 Adn
def A5k : A2 := (⟨_, by intro a; conv => lhs; cbv⟩ : { c : A1 → A2 // ∀ a, gF Tryz.f116 [(0, a)] = some (c a) }).1 Ad1
def Abw : A1 := (⟨_, by conv => lhs; cbv⟩ : { c // gL Tryz.f120 4 [] = some c }).1
def Abm : A1 := (⟨_, by intro a; conv => lhs; cbv⟩ : { c : A1 → A1 // ∀ a, gL Tryz.f120 2 [(4, a)] [[[0], [1], [2], [3], [4], [5], [6], [7], [8], [9]], [[0], [1], [2], [3], [4], [5], [6], [7], [8], [9], [10], [11], [12], [13], [14], [15], [16], [17], [18], [19], [20], [21], [22], [23], [24], [25], [26], [27], [28], [29], [30], [31]]] = some (c a) }).1 Abw
def AbZ : A1 := (⟨_, by intro a; conv => lhs; cbv⟩ : { c : A1 → A1 // ∀ a, gL Tryz.f120 0 [(2, a)] [[[0], [1], [2], [3], [4], [5], [6], [7], [8], [9], [10], [11], [12], [13], [14], [15], [16], [17], [18], [19], [20], [21], [22], [23], [24], [25], [26], [27], [28], [29], [30]], [[0], [1], [2], [3], [4], [5], [6], [7], [8], [9]]] = some (c a) }).1 Abm
def A50 : A2 := (⟨_, by intro a; conv => lhs; cbv⟩ : { c : A1 → A2 // ∀ a, gF Tryz.f120 [(0, a)] = some (c a) }).1 AbZ
def Ab0 : A1 := (⟨_, by conv => lhs; cbv⟩ : { c // gL Tryz.f126 2 [] [[[0], [1], [2], [3], [4], [5], [6], [7], [8], [9]], [[0], [1], [2], [3], [4], [5], [6], [7], [8], [9], [10], [11], [12], [13], [14], [15], [16], [17], [18], [19], [20], [21], [22], [23], [24], [25], [26], [27], [28], [29], [30], [31], [32]]] = some c }).1
def AcR : A1 := (⟨_, by conv => lhs; cbv⟩ : { c // gL Tryz.f126 0 [] = some c }).1
def A38 : A2 := (⟨_, by intro a b; conv => lhs; cbv⟩ : { c : A1 → A1 → A2 // ∀ a b, gF Tryz.f126 [(0, a), (2, b)] = some (c a b) }).1 AcR Ab0
def AbL : A1 := (⟨_, by conv => lhs; cbv⟩ : { c // gL Tryz.f131 0 [] = some c }).1
def A6e : A2 := (⟨_, by intro a; conv => lhs; cbv⟩ : { c : A1 → A2 // ∀ a, gF Tryz.f131 [(0, a)] = some (c a) }).1 AbL
def A89 : A2 := (⟨_, by conv => lhs; cbv⟩ : { c // gF Tryz.f135 [] = some c }).1
def A0x : A1 := (⟨_, by conv => lhs; cbv⟩ : { c // gL Tryz.f144 0 [] = some c }).1
def A5j : A2 := (⟨_, by intro a; conv => lhs; cbv⟩ : { c : A1 → A2 // ∀ a, gF Tryz.f144 [(0, a)] = some (c a) }).1 A0x
def Ze : A1 := (⟨_, by conv => lhs; cbv⟩ : { c // gL Tryz.f153 0 [] [[[0], [1], [2], [3], [4], [5], [6], [7], [8], [9], [10]], [[0], [1], [2], [3], [4], [5], [6], [7], [8], [9], [10]], [[0], [1], [2], [3], [4], [5], [6], [7], [8], [9], [10], [11], [12]], [[0], [1], [2], [3], [4], [5], [6], [7], [8], [9], [10], [11], [12], [13], [14], [15], [16], [17], [18], [19], [20], [21], [22], [23], [24], [25], [26], [27]]] = some c }).1
def A5P : A2 := (⟨_, by intro a; conv => lhs; cbv⟩ : { c : A1 → A2 // ∀ a, gF Tryz.f153 [(0, a)] = some (c a) }).1 Ze
def Yy : A2 := (⟨_, by conv => lhs; cbv⟩ : { c // gF Tryz.f157 [] = some c }).1
def Cs : A1 := (⟨_, by conv => lhs; cbv⟩ : { c // gL Tryz.f162 3 [] [[[0], [1], [2], [3], [4], [5], [6], [7], [8], [9], [10], [11], [12]], [[0], [1], [2], [3], [4], [5], [6], [9], [10], [11], [12], [13], [7, 13], [8], [14], [15]], [[0], [1], [2], [3], [4], [5], [6], [7], [8], [9], [10], [11], [12]]] = some c }).1
def Pt : A1 := (⟨_, by conv => lhs; cbv⟩ : { c // gL Tryz.f162 0 [] = some c }).1
def Qt : A2 := (⟨_, by intro a b; conv => lhs; cbv⟩ : { c : A1 → A1 → A2 // ∀ a b, gF Tryz.f162 [(0, a), (3, b)] [[[0], [1], [2], [3], [4], [5], [6], [7], [8], [9], [10], [11]], [[0], [1], [2], [3], [4], [5], [6], [7], [8]], [[0], [1], [2], [3], [4], [5], [6], [7], [8], [9], [10], [11], [12], [13, 6], [14], [15]], [[0], [1], [2], [3], [4], [5], [6], [7], [8], [9], [10]], [[0], [1], [2], [3], [4], [5], [6], [7], [8], [9], [10], [11], [12], [13], [14], [15, 8, 4], [16], [17], [18]]] = some (c a b) }).1 Pt Cs
def Aai : A1 := (⟨_, by conv => lhs; cbv⟩ : { c // gL Tryz.f166 0 [] = some c }).1
def ZS : A2 := (⟨_, by intro a; conv => lhs; cbv⟩ : { c : A1 → A2 // ∀ a, gF Tryz.f166 [(0, a)] = some (c a) }).1 Aai
def UA : A1 := (⟨_, by conv => lhs; cbv⟩ : { c // gL Tryz.f170 0 [] = some c }).1
def Z8 : A2 := (⟨_, by intro a; conv => lhs; cbv⟩ : { c : A1 → A2 // ∀ a, gF Tryz.f170 [(0, a)] = some (c a) }).1 UA
def A8t : A1 := (⟨_, by conv => lhs; cbv⟩ : { c // gL Tryz.f174 0 [] = some c }).1
def Tf : A2 := (⟨_, by intro a; conv => lhs; cbv⟩ : { c : A1 → A2 // ∀ a, gF Tryz.f174 [(0, a)] = some (c a) }).1 A8t
def Qo : A2 := (⟨_, by conv => lhs; cbv⟩ : { c // gF Tryz.f178 [] = some c }).1
def A9K : A1 := (⟨_, by conv => lhs; cbv⟩ : { c // gL Tryz.f182 2 [] [[[0], [1], [2], [3], [4], [5], [6], [7], [8], [9]], [[0], [1], [2], [3], [4], [5], [6], [7], [8], [9], [10], [11], [12], [13], [14], [15], [16], [17], [18], [19], [20], [21], [22]]] = some c }).1
def Aaq : A1 := (⟨_, by intro a; conv => lhs; cbv⟩ : { c : A1 → A1 // ∀ a, gL Tryz.f182 0 [(2, a)] = some (c a) }).1 A9K
def A0a : A2 := (⟨_, by intro a; conv => lhs; cbv⟩ : { c : A1 → A2 // ∀ a, gF Tryz.f182 [(0, a)] = some (c a) }).1 Aaq
def Yw : A2 := (⟨_, by conv => lhs; cbv⟩ : { c // gF Tryz.f188 [] = some c }).1
def UU : A2 := (⟨_, by conv => lhs; cbv⟩ : { c // gF Tryz.f192 [] = some c }).1
def Aal : A1 := (⟨_, by conv => lhs; cbv⟩ : { c // gL Tryz.f197 0 [] = some c }).1
def A0T : A2 := (⟨_, by intro a; conv => lhs; cbv⟩ : { c : A1 → A2 // ∀ a, gF Tryz.f197 [(0, a)] = some (c a) }).1 Aal
def A17 : A2 := (⟨_, by conv => lhs; cbv⟩ : { c // gF Tryz.f206 [] = some c }).1
def A0Y : A2 := (⟨_, by conv => lhs; cbv⟩ : { c // gF Tryz.f210 [] = some c }).1
def A8G : A1 := (⟨_, by conv => lhs; cbv⟩ : { c // gL Tryz.f214 0 [] = some c }).1
def Zt : A2 := (⟨_, by intro a; conv => lhs; cbv⟩ : { c : A1 → A2 // ∀ a, gF Tryz.f214 [(0, a)] = some (c a) }).1 A8G
def A8Y : A1 := (⟨_, by conv => lhs; cbv⟩ : { c // gL Tryz.f218 0 [] = some c }).1
def YY : A2 := (⟨_, by intro a; conv => lhs; cbv⟩ : { c : A1 → A2 // ∀ a, gF Tryz.f218 [(0, a)] = some (c a) }).1 A8Y
def ZX : A2 := (⟨_, by conv => lhs; cbv⟩ : { c // gF Tryz.f222 [] = some c }).1
def A0O : A2 := (⟨_, by conv => lhs; cbv⟩ : { c // gF Tryz.f226 [] = some c }).1
def T0 : A2 := (⟨_, by conv => lhs; cbv⟩ : { c // gF Tryz.f230 [] = some c }).1
def A0n : A2 := (⟨_, by conv => lhs; cbv⟩ : { c // gF Tryz.f235 [] = some c }).1
def ZN : A2 := (⟨_, by conv => lhs; cbv⟩ : { c // gF Tryz.f247 [] = some c }).1
def Aaf : A1 := (⟨_, by conv => lhs; cbv⟩ : { c // gL Tryz.f251 0 [] = some c }).1
def Ys : A2 := (⟨_, by intro a; conv => lhs; cbv⟩ : { c : A1 → A2 // ∀ a, gF Tryz.f251 [(0, a)] = some (c a) }).1 Aaf
def Zj : A2 := (⟨_, by conv => lhs; cbv⟩ : { c // gF Tryz.f255 [] = some c }).1
def A8m : A1 := (⟨_, by conv => lhs; cbv⟩ : { c // gL Tryz.f259 0 [] = some c }).1
def A0J : A2 := (⟨_, by intro a; conv => lhs; cbv⟩ : { c : A1 → A2 // ∀ a, gF Tryz.f259 [(0, a)] = some (c a) }).1 A8m
def A0d : A2 := (⟨_, by conv => lhs; cbv⟩ : { c // gF Tryz.f276 [] = some c }).1
def J8 : A2 := (⟨_, by conv => lhs; cbv⟩ : { c // gF Tryz.f280 [] = some c }).1
end Go.AM
