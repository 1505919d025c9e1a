/-
  Own work, part of the proof of CoheAll: the code of the functions that the law reaches, as the machine has it; read off the program as the text is compiled.
-/
import Derived.Test.YtpcpldaangchaaaGreatDoorCoA
set_option maxRecDepth 4000
set_option linter.unusedVariables false
set_option linter.unusedSimpArgs false
set_option linter.unusedSectionVars false
set_option linter.unnecessarySimpa false
set_option maxRecDepth 100000
set_option maxHeartbeats 4000000
namespace Go.AM
open Go Go.Proofs
def Agk : A2 := (⟨_, by conv => lhs; cbv⟩ : { c // gF Tryz.f9 [] = some c }).1
def A9S : A2 := (⟨_, by conv => lhs; cbv⟩ : { c // gF Tryz.f13 [] = some c }).1
def AfF : A1 := (⟨_, by conv => lhs; cbv⟩ : { c // gL Tryz.f19 2 [] = some c }).1
def Aff : A1 := (⟨_, by intro a; conv => lhs; cbv⟩ : { c : A1 → A1 // ∀ a, gL Tryz.f19 0 [(2, a)] = some (c a) }).1 AfF
def A9U : A2 := (⟨_, by intro a; conv => lhs; cbv⟩ : { c : A1 → A2 // ∀ a, gF Tryz.f19 [(0, a)] = some (c a) }).1 Aff
def Ad3 : A1 := (⟨_, by conv => lhs; cbv⟩ : { c // gL Tryz.f32 0 [] = some c }).1
def A69 : A2 := (⟨_, by intro a; conv => lhs; cbv⟩ : { c : A1 → A2 // ∀ a, gF Tryz.f32 [(0, a)] = some (c a) }).1 Ad3
def Abv : A1 := (⟨_, by conv => lhs; cbv⟩ : { c // gL Tryz.f37 0 [] = some c }).1
def Wn : A2 := (⟨_, by intro a; conv => lhs; cbv⟩ : { c : A1 → A2 // ∀ a, gF Tryz.f37 [(0, a)] = some (c a) }).1 Abv
def WX : A2 := (⟨_, by conv => lhs; cbv⟩ : { c // gF Tryz.f43 [] = some c }).1
def Abb : A1 := (⟨_, by conv => lhs; cbv⟩ : { c // gL Tryz.f47 2 [] = some c }).1
def YF : A1 := (⟨_, by intro a; conv => lhs; cbv⟩ : { c : A1 → A1 // ∀ a, gL Tryz.f47 0 [(2, a)] = some (c a) }).1 Abb
def Sf : A2 := (⟨_, by intro a; conv => lhs; cbv⟩ : { c : A1 → A2 // ∀ a, gF Tryz.f47 [(0, a)] = some (c a) }).1 YF
def AcI : A1 := (⟨_, by conv => lhs; cbv⟩ : { c // gL Tryz.f51 2 [] = some c }).1
def AcQ : A1 := (⟨_, by intro a; conv => lhs; cbv⟩ : { c : A1 → A1 // ∀ a, gL Tryz.f51 0 [(2, a)] = some (c a) }).1 AcI
def A7B : A2 := (⟨_, by intro a; conv => lhs; cbv⟩ : { c : A1 → A2 // ∀ a, gF Tryz.f51 [(0, a)] = some (c a) }).1 AcQ
def A68 : A2 := (⟨_, by conv => lhs; cbv⟩ : { c // gF Tryz.f55 [] = some c }).1
def Aaw : A2 := (⟨_, by conv => lhs; cbv⟩ : { c // gF Tryz.f60 [] = some c }).1
def AbK : A1 := (⟨_, by conv => lhs; cbv⟩ : { c // gL Tryz.f68 0 [] = some c }).1
def A64 : A2 := (⟨_, by intro a; conv => lhs; cbv⟩ : { c : A1 → A2 // ∀ a, gF Tryz.f68 [(0, a)] = some (c a) }).1 AbK
def A7k : A2 := (⟨_, by conv => lhs; cbv⟩ : { c // gF Tryz.f84 [] = some c }).1
def Acr : A1 := (⟨_, by conv => lhs; cbv⟩ : { c // gL Tryz.f88 0 [] = some c }).1
def A6C : A2 := (⟨_, by intro a; conv => lhs; cbv⟩ : { c : A1 → A2 // ∀ a, gF Tryz.f88 [(0, a)] = some (c a) }).1 Acr
def A5c : A2 := (⟨_, by conv => lhs; cbv⟩ : { c // gF Tryz.f92 [] = some c }).1
def A6f : A2 := (⟨_, by conv => lhs; cbv⟩ : { c // gF Tryz.f99 [] = some c }).1
def Th : A1 := (⟨_, by conv => lhs; cbv⟩ : { c // gL Tryz.f103 0 [] = some c }).1
def A2i : A2 := (⟨_, by intro a; conv => lhs; cbv⟩ : { c : A1 → A2 // ∀ a, gF Tryz.f103 [(0, a)] = some (c a) }).1 Th
def AcD : A1 := (⟨_, by conv => lhs; cbv⟩ : { c // gL Tryz.f107 0 [] = some c }).1
def AaN : A2 := (⟨_, by intro a; conv => lhs; cbv⟩ : { c : A1 → A2 // ∀ a, gF Tryz.f107 [(0, a)] = some (c a) }).1 AcD
def Adt : A1 := (⟨_, by conv => lhs; cbv⟩ : { c // gL Tryz.f111 2 [] = some c }).1
def Ad2 : A1 := (⟨_, by intro a; conv => lhs; cbv⟩ : { c : A1 → A1 // ∀ a, gL Tryz.f111 0 [(2, a)] = some (c a) }).1 Adt
def A3r : A2 := (⟨_, by intro a; conv => lhs; cbv⟩ : { c : A1 → A2 // ∀ a, gF Tryz.f111 [(0, a)] = some (c a) }).1 Ad2
def A2A : A2 := (⟨_, by conv => lhs; cbv⟩ : { c // gF Tryz.f115 [] = some c }).1
def XQ : A2 := (⟨_, by conv => lhs; cbv⟩ : { c // gF Tryz.f119 [] = some c }).1
def WO : A2 := (⟨_, by conv => lhs; cbv⟩ : { c // gF Tryz.f125 [] = some c }).1
def A7m : A2 := (⟨_, by conv => lhs; cbv⟩ : { c // gF Tryz.f130 [] = some c }).1
def A7l : A2 := (⟨_, by conv => lhs; cbv⟩ : { c // gF Tryz.f134 [] = some c }).1
def A78 : A2 := (⟨_, by conv => lhs; cbv⟩ : { c // gF Tryz.f143 [] = some c }).1
def Abu : A1 := (⟨_, by conv => lhs; cbv⟩ : { c // gL Tryz.f152 0 [] = some c }).1
def A7V : A2 := (⟨_, by intro a; conv => lhs; cbv⟩ : { c : A1 → A2 // ∀ a, gF Tryz.f152 [(0, a)] = some (c a) }).1 Abu
def A8H : A1 := (⟨_, by conv => lhs; cbv⟩ : { c // gL Tryz.f156 0 [] = some c }).1
def A0B : A2 := (⟨_, by intro a; conv => lhs; cbv⟩ : { c : A1 → A2 // ∀ a, gF Tryz.f156 [(0, a)] = some (c a) }).1 A8H
def US : A2 := (⟨_, by conv => lhs; cbv⟩ : { c // gF Tryz.f161 [] = some c }).1
def Pe : A1 := (⟨_, by conv => lhs; cbv⟩ : { c // gL Tryz.f165 0 [] = some c }).1
def A0e : A2 := (⟨_, by intro a; conv => lhs; cbv⟩ : { c : A1 → A2 // ∀ a, gF Tryz.f165 [(0, a)] = some (c a) }).1 Pe
def Q8 : A2 := (⟨_, by conv => lhs; cbv⟩ : { c // gF Tryz.f169 [] [[[0], [1], [2], [3], [4], [5], [6], [7], [8], [9], [10], [11], [12], [13], [14], [15], [16, 14, 11], [17]], [[0], [1], [2], [3], [4], [5], [6], [7], [8], [9], [10], [11], [12], [13], [14], [15], [16], [17], [18], [19], [20], [21], [22], [23], [24], [25], [26], [27], [28], [29], [30], [31], [32]]] = some c }).1
def Z6 : A2 := (⟨_, by conv => lhs; cbv⟩ : { c // gF Tryz.f173 [] = some c }).1
def A92 : A1 := (⟨_, by conv => lhs; cbv⟩ : { c // gL Tryz.f177 0 [] = some c }).1
def A0D : A2 := (⟨_, by intro a; conv => lhs; cbv⟩ : { c : A1 → A2 // ∀ a, gF Tryz.f177 [(0, a)] = some (c a) }).1 A92
def Aao : A1 := (⟨_, by conv => lhs; cbv⟩ : { c // gL Tryz.f181 0 [] = some c }).1
def ZF : A2 := (⟨_, by intro a; conv => lhs; cbv⟩ : { c : A1 → A2 // ∀ a, gF Tryz.f181 [(0, a)] = some (c a) }).1 Aao
def A0P : A2 := (⟨_, by conv => lhs; cbv⟩ : { c // gF Tryz.f187 [] = some c }).1
def A07 : A2 := (⟨_, by conv => lhs; cbv⟩ : { c // gF Tryz.f191 [] = some c }).1
def Zx : A2 := (⟨_, by conv => lhs; cbv⟩ : { c // gF Tryz.f195 [] = some c }).1
def A0V : A2 := (⟨_, by conv => lhs; cbv⟩ : { c // gF Tryz.f204 [] = some c }).1
def YP : A2 := (⟨_, by conv => lhs; cbv⟩ : { c // gF Tryz.f209 [] = some c }).1
def A97 : A1 := (⟨_, by conv => lhs; cbv⟩ : { c // gL Tryz.f213 0 [] = some c }).1
def A08 : A2 := (⟨_, by intro a; conv => lhs; cbv⟩ : { c : A1 → A2 // ∀ a, gF Tryz.f213 [(0, a)] = some (c a) }).1 A97
def QZ : A2 := (⟨_, by conv => lhs; cbv⟩ : { c // gF Tryz.f217 [] = some c }).1
def Vm : A2 := (⟨_, by conv => lhs; cbv⟩ : { c // gF Tryz.f221 [] = some c }).1
def A8z : A1 := (⟨_, by conv => lhs; cbv⟩ : { c // gL Tryz.f225 0 [] = some c }).1
def A0E : A2 := (⟨_, by intro a; conv => lhs; cbv⟩ : { c : A1 → A2 // ∀ a, gF Tryz.f225 [(0, a)] = some (c a) }).1 A8z
def A9z : A1 := (⟨_, by conv => lhs; cbv⟩ : { c // gL Tryz.f229 0 [] = some c }).1
def A06 : A2 := (⟨_, by intro a; conv => lhs; cbv⟩ : { c : A1 → A2 // ∀ a, gF Tryz.f229 [(0, a)] = some (c a) }).1 A9z
def A5Q : A2 := (⟨_, by conv => lhs; cbv⟩ : { c // gF Tryz.f234 [] = some c }).1
def YW : A2 := (⟨_, by conv => lhs; cbv⟩ : { c // gF Tryz.f246 [] = some c }).1
def A0H : A2 := (⟨_, by conv => lhs; cbv⟩ : { c // gF Tryz.f250 [] = some c }).1
def YK : A2 := (⟨_, by conv => lhs; cbv⟩ : { c // gF Tryz.f254 [] = some c }).1
def MH : A2 := (⟨_, by conv => lhs; cbv⟩ : { c // gF Tryz.f258 [] = some c }).1
def YQ : A2 := (⟨_, by conv => lhs; cbv⟩ : { c // gF Tryz.f275 [] = some c }).1
def A2G : A1 := (⟨_, by conv => lhs; cbv⟩ : { c // gL Tryz.f279 0 [] = some c }).1
def Yv : A2 := (⟨_, by intro a; conv => lhs; cbv⟩ : { c : A1 → A2 // ∀ a, gF Tryz.f279 [(0, a)] = some (c a) }).1 A2G
end Go.AM
