/-
  Own work, part of the proof of CoheLess: the code of the functions that the law reaches, as the machine has it; read off the program as the text is compiled.
-/
import Derived.Test.YtpcpldaangchaaaGreatDoorCoA
set_option maxRecDepth 4000
set_option linter.unusedVariables false
set_option linter.unusedSimpArgs false
set_option linter.unusedSectionVars false
set_option linter.unnecessarySimpa false
set_option maxRecDepth 100000
set_option maxHeartbeats 4000000
namespace Go.AM
open Go Go.Proofs
def Zn : A2 := (⟨_, by conv => lhs; cbv⟩ : { c // gF Tryz.f6 [] [[[0], [1], [2], [3, 0], [4], [5], [6], [7], [8], [9], [10], [11], [12, 7], [13], [14], [15], [16], [17], [18], [21], [22], [19, 21], [20, 21], [23], [24], [25], [26], [27], [28]]] = some c }).1
def A89 : A2 := (⟨_, by conv => lhs; cbv⟩ : { c // gF Tryz.f13 [] = some c }).1
def AeS : A1 := (⟨_, by conv => lhs; cbv⟩ : { c // gL Tryz.f20 0 [] = some c }).1
def Ael : A2 := (⟨_, by intro a; conv => lhs; cbv⟩ : { c : A1 → A2 // ∀ a, gF Tryz.f20 [(0, a)] = some (c a) }).1 AeS
def Aca : A1 := (⟨_, by conv => lhs; cbv⟩ : { c // gL Tryz.f32 0 [] = some c }).1
def A5a : A2 := (⟨_, by intro a; conv => lhs; cbv⟩ : { c : A1 → A2 // ∀ a, gF Tryz.f32 [(0, a)] = some (c a) }).1 Aca
def Abh : A1 := (⟨_, by conv => lhs; cbv⟩ : { c // gL Tryz.f37 0 [] = some c }).1
def A9B : A2 := (⟨_, by intro a; conv => lhs; cbv⟩ : { c : A1 → A2 // ∀ a, gF Tryz.f37 [(0, a)] = some (c a) }).1 Abh
def Vj : A2 := (⟨_, by conv => lhs; cbv⟩ : { c // gF Tryz.f43 [] = some c }).1
def Abn : A1 := (⟨_, by conv => lhs; cbv⟩ : { c // gL Tryz.f47 2 [] = some c }).1
def Y4 : A1 := (⟨_, by intro a; conv => lhs; cbv⟩ : { c : A1 → A1 // ∀ a, gL Tryz.f47 0 [(2, a)] = some (c a) }).1 Abn
def RH : A2 := (⟨_, by intro a; conv => lhs; cbv⟩ : { c : A1 → A2 // ∀ a, gF Tryz.f47 [(0, a)] = some (c a) }).1 Y4
def Aaz : A1 := (⟨_, by conv => lhs; cbv⟩ : { c // gL Tryz.f51 2 [] = some c }).1
def Aag : A1 := (⟨_, by intro a; conv => lhs; cbv⟩ : { c : A1 → A1 // ∀ a, gL Tryz.f51 0 [(2, a)] = some (c a) }).1 Aaz
def A9E : A2 := (⟨_, by intro a; conv => lhs; cbv⟩ : { c : A1 → A2 // ∀ a, gF Tryz.f51 [(0, a)] = some (c a) }).1 Aag
def A5f : A2 := (⟨_, by conv => lhs; cbv⟩ : { c // gF Tryz.f55 [] = some c }).1
def A9Q : A2 := (⟨_, by conv => lhs; cbv⟩ : { c // gF Tryz.f60 [] = some c }).1
def Ab3 : A1 := (⟨_, by conv => lhs; cbv⟩ : { c // gL Tryz.f68 0 [] = some c }).1
def A4P : A2 := (⟨_, by intro a; conv => lhs; cbv⟩ : { c : A1 → A2 // ∀ a, gF Tryz.f68 [(0, a)] = some (c a) }).1 Ab3
def A45 : A2 := (⟨_, by conv => lhs; cbv⟩ : { c // gF Tryz.f84 [] = some c }).1
def Acr : A1 := (⟨_, by conv => lhs; cbv⟩ : { c // gL Tryz.f88 0 [] = some c }).1
def A68 : A2 := (⟨_, by intro a; conv => lhs; cbv⟩ : { c : A1 → A2 // ∀ a, gF Tryz.f88 [(0, a)] = some (c a) }).1 Acr
def A6M : A2 := (⟨_, by conv => lhs; cbv⟩ : { c // gF Tryz.f92 [] = some c }).1
def A6P : A2 := (⟨_, by conv => lhs; cbv⟩ : { c // gF Tryz.f99 [] = some c }).1
def UA : A1 := (⟨_, by conv => lhs; cbv⟩ : { c // gL Tryz.f103 0 [] = some c }).1
def A0r : A2 := (⟨_, by intro a; conv => lhs; cbv⟩ : { c : A1 → A2 // ∀ a, gF Tryz.f103 [(0, a)] = some (c a) }).1 UA
def Abt : A1 := (⟨_, by conv => lhs; cbv⟩ : { c // gL Tryz.f107 0 [] = some c }).1
def A9T : A2 := (⟨_, by intro a; conv => lhs; cbv⟩ : { c : A1 → A2 // ∀ a, gF Tryz.f107 [(0, a)] = some (c a) }).1 Abt
def AaR : A1 := (⟨_, by conv => lhs; cbv⟩ : { c // gL Tryz.f111 2 [] = some c }).1
def AbN : A1 := (⟨_, by intro a; conv => lhs; cbv⟩ : { c : A1 → A1 // ∀ a, gL Tryz.f111 0 [(2, a)] = some (c a) }).1 AaR
def A0C : A2 := (⟨_, by intro a; conv => lhs; cbv⟩ : { c : A1 → A2 // ∀ a, gF Tryz.f111 [(0, a)] = some (c a) }).1 AbN
def A0k : A2 := (⟨_, by conv => lhs; cbv⟩ : { c // gF Tryz.f115 [] = some c }).1
def Aa0 : A2 := (⟨_, by conv => lhs; cbv⟩ : { c // gF Tryz.f119 [] [[[0], [1], [2], [3], [4], [5], [6], [7], [8], [9]], [[0], [1], [2], [3], [4], [5], [6], [7], [8], [9, 6, 2, 0], [10], [11]]] = some c }).1
def X2 : A2 := (⟨_, by conv => lhs; cbv⟩ : { c // gF Tryz.f125 [] = some c }).1
def A4C : A2 := (⟨_, by conv => lhs; cbv⟩ : { c // gF Tryz.f130 [] = some c }).1
def A4e : A2 := (⟨_, by conv => lhs; cbv⟩ : { c // gF Tryz.f134 [] = some c }).1
def A50 : A2 := (⟨_, by conv => lhs; cbv⟩ : { c // gF Tryz.f143 [] = some c }).1
def AaD : A1 := (⟨_, by conv => lhs; cbv⟩ : { c // gL Tryz.f152 0 [] = some c }).1
def A5R : A2 := (⟨_, by intro a; conv => lhs; cbv⟩ : { c : A1 → A2 // ∀ a, gF Tryz.f152 [(0, a)] = some (c a) }).1 AaD
def A9e : A1 := (⟨_, by conv => lhs; cbv⟩ : { c // gL Tryz.f156 0 [] = some c }).1
def Yr : A2 := (⟨_, by intro a; conv => lhs; cbv⟩ : { c : A1 → A2 // ∀ a, gF Tryz.f156 [(0, a)] = some (c a) }).1 A9e
def T5 : A2 := (⟨_, by conv => lhs; cbv⟩ : { c // gF Tryz.f161 [] = some c }).1
def NI : A1 := (⟨_, by conv => lhs; cbv⟩ : { c // gL Tryz.f165 0 [] = some c }).1
def XW : A2 := (⟨_, by intro a; conv => lhs; cbv⟩ : { c : A1 → A2 // ∀ a, gF Tryz.f165 [(0, a)] = some (c a) }).1 NI
def PQ : A2 := (⟨_, by conv => lhs; cbv⟩ : { c // gF Tryz.f169 [] [[[0], [1], [2], [3], [4], [5], [6], [7], [8], [9], [10], [11], [12], [13], [14], [15], [16, 14, 11], [17]], [[0], [1], [2], [3], [4], [5], [6], [7], [8], [9], [10], [11], [12], [13], [14], [15], [16], [17], [18], [19], [20], [21], [22], [23], [24], [25], [26], [27], [28], [29], [30], [31], [32]]] = some c }).1
def Z9 : A2 := (⟨_, by conv => lhs; cbv⟩ : { c // gF Tryz.f173 [] = some c }).1
def A9d : A1 := (⟨_, by conv => lhs; cbv⟩ : { c // gL Tryz.f177 0 [] = some c }).1
def ZI : A2 := (⟨_, by intro a; conv => lhs; cbv⟩ : { c : A1 → A2 // ∀ a, gF Tryz.f177 [(0, a)] = some (c a) }).1 A9d
def A7A : A1 := (⟨_, by conv => lhs; cbv⟩ : { c // gL Tryz.f181 0 [] = some c }).1
def A5W : A2 := (⟨_, by intro a; conv => lhs; cbv⟩ : { c : A1 → A2 // ∀ a, gF Tryz.f181 [(0, a)] = some (c a) }).1 A7A
def YQ : A2 := (⟨_, by conv => lhs; cbv⟩ : { c // gF Tryz.f187 [] = some c }).1
def Zp : A2 := (⟨_, by conv => lhs; cbv⟩ : { c // gF Tryz.f191 [] = some c }).1
def YH : A2 := (⟨_, by conv => lhs; cbv⟩ : { c // gF Tryz.f195 [] = some c }).1
def YS : A2 := (⟨_, by conv => lhs; cbv⟩ : { c // gF Tryz.f204 [] = some c }).1
def YZ : A2 := (⟨_, by conv => lhs; cbv⟩ : { c // gF Tryz.f209 [] = some c }).1
def A9j : A1 := (⟨_, by conv => lhs; cbv⟩ : { c // gL Tryz.f213 0 [] = some c }).1
def YP : A2 := (⟨_, by intro a; conv => lhs; cbv⟩ : { c : A1 → A2 // ∀ a, gF Tryz.f213 [(0, a)] = some (c a) }).1 A9j
def Pf : A2 := (⟨_, by conv => lhs; cbv⟩ : { c // gF Tryz.f217 [] = some c }).1
def Sx : A2 := (⟨_, by conv => lhs; cbv⟩ : { c // gF Tryz.f221 [] = some c }).1
def A8l : A1 := (⟨_, by conv => lhs; cbv⟩ : { c // gL Tryz.f225 0 [] = some c }).1
def A70 : A2 := (⟨_, by intro a; conv => lhs; cbv⟩ : { c : A1 → A2 // ∀ a, gF Tryz.f225 [(0, a)] = some (c a) }).1 A8l
def A90 : A1 := (⟨_, by conv => lhs; cbv⟩ : { c // gL Tryz.f229 0 [] = some c }).1
def YD : A2 := (⟨_, by intro a; conv => lhs; cbv⟩ : { c : A1 → A2 // ∀ a, gF Tryz.f229 [(0, a)] = some (c a) }).1 A90
def A6H : A2 := (⟨_, by conv => lhs; cbv⟩ : { c // gF Tryz.f234 [] = some c }).1
def ZL : A2 := (⟨_, by conv => lhs; cbv⟩ : { c // gF Tryz.f246 [] = some c }).1
def Ya : A2 := (⟨_, by conv => lhs; cbv⟩ : { c // gF Tryz.f250 [] = some c }).1
def Zx : A2 := (⟨_, by conv => lhs; cbv⟩ : { c // gF Tryz.f254 [] = some c }).1
def Ms : A2 := (⟨_, by conv => lhs; cbv⟩ : { c // gF Tryz.f258 [] = some c }).1
def XF : A2 := (⟨_, by conv => lhs; cbv⟩ : { c // gF Tryz.f275 [] = some c }).1
def A1t : A1 := (⟨_, by conv => lhs; cbv⟩ : { c // gL Tryz.f279 0 [] = some c }).1
def XG : A2 := (⟨_, by intro a; conv => lhs; cbv⟩ : { c : A1 → A2 // ∀ a, gF Tryz.f279 [(0, a)] = some (c a) }).1 A1t
end Go.AM
