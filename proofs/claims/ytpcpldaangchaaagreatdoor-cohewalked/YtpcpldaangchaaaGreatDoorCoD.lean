/-
  Own work, part of the proof of CoheWalked: the code of the functions that the law reaches, as the machine has it; read off the program as the text is compiled.
-/
import Derived.Test.YtpcpldaangchaaaGreatDoorCoA
set_option maxRecDepth 4000
set_option linter.unusedVariables false
set_option linter.unusedSimpArgs false
set_option linter.unusedSectionVars false
set_option linter.unnecessarySimpa false
set_option maxRecDepth 100000
set_option maxHeartbeats 4000000
namespace Go.AM
open Go Go.Proofs
def Abn : A2 := (⟨_, by conv => lhs; cbv⟩ : { c // gF Tryz.f10 [] = some c }).1
def Adr : A4 := (⟨_, by conv => lhs; cbv⟩ : { c // gL Tryz.f19 2 [] = some c }).1
def Adf : A4 := (⟨_, by intro a; conv => lhs; cbv⟩ : { c : A4 → A4 // ∀ a, gL Tryz.f19 0 [(2, a)] = some (c a) }).1 Adr
def A5s : A2 := (⟨_, by intro a; conv => lhs; cbv⟩ : { c : A4 → A2 // ∀ a, gF Tryz.f19 [(0, a)] = some (c a) }).1 Adf
def Aa4 : A4 := (⟨_, by conv => lhs; cbv⟩ : { c // gL Tryz.f32 0 [] = some c }).1
def A5b : A2 := (⟨_, by intro a; conv => lhs; cbv⟩ : { c : A4 → A2 // ∀ a, gF Tryz.f32 [(0, a)] = some (c a) }).1 Aa4
def A9A : A2 := (⟨_, by conv => lhs; cbv⟩ : { c // gF Tryz.f41 [] = some c }).1
def Aas : A4 := (⟨_, by conv => lhs; cbv⟩ : { c // gL Tryz.f47 2 [] = some c }).1
def Aap : A4 := (⟨_, by intro a; conv => lhs; cbv⟩ : { c : A4 → A4 // ∀ a, gL Tryz.f47 0 [(2, a)] = some (c a) }).1 Aas
def Wj : A2 := (⟨_, by intro a; conv => lhs; cbv⟩ : { c : A4 → A2 // ∀ a, gF Tryz.f47 [(0, a)] = some (c a) }).1 Aap
def A5D : A2 := (⟨_, by conv => lhs; cbv⟩ : { c // gF Tryz.f53 [] = some c }).1
def A18 : A2 := (⟨_, by conv => lhs; cbv⟩ : { c // gF Tryz.f57 [] = some c }).1
def Aa5 : A4 := (⟨_, by conv => lhs; cbv⟩ : { c // gL Tryz.f64 0 [] = some c }).1
def A6j : A2 := (⟨_, by intro a; conv => lhs; cbv⟩ : { c : A4 → A2 // ∀ a, gF Tryz.f64 [(0, a)] = some (c a) }).1 Aa5
def A6t : A2 := (⟨_, by conv => lhs; cbv⟩ : { c // gF Tryz.f71 [] = some c }).1
def AaR : A4 := (⟨_, by conv => lhs; cbv⟩ : { c // gL Tryz.f86 0 [] [[[0], [1], [2], [3], [4], [5], [6], [7], [8], [9], [10], [11], [12], [13], [14], [15], [16], [17, 15, 12], [18]], [[0], [1], [2], [3], [4], [5], [6], [7], [8], [9], [10], [11], [12], [13], [14], [15], [16], [17], [18], [19]]] = some c }).1
def A1v : A2 := (⟨_, by intro a; conv => lhs; cbv⟩ : { c : A4 → A2 // ∀ a, gF Tryz.f86 [(0, a)] = some (c a) }).1 AaR
def A9Z : A4 := (⟨_, by conv => lhs; cbv⟩ : { c // gL Tryz.f90 0 [] = some c }).1
def A6y : A2 := (⟨_, by intro a; conv => lhs; cbv⟩ : { c : A4 → A2 // ∀ a, gF Tryz.f90 [(0, a)] = some (c a) }).1 A9Z
def Q7 : A4 := (⟨_, by conv => lhs; cbv⟩ : { c // gL Tryz.f97 6 [] = some c }).1
def AaY : A4 := (⟨_, by conv => lhs; cbv⟩ : { c // gL Tryz.f97 4 [] = some c }).1
def AbO : A4 := (⟨_, by conv => lhs; cbv⟩ : { c // gL Tryz.f97 2 [] = some c }).1
def AbW : A4 := (⟨_, by conv => lhs; cbv⟩ : { c // gL Tryz.f97 0 [] = some c }).1
def A1b : A2 := (⟨_, by intro a b d e; conv => lhs; cbv⟩ : { c : A4 → A4 → A4 → A4 → A2 // ∀ a b d e, gF Tryz.f97 [(0, a), (2, b), (4, d), (6, e)] = some (c a b d e) }).1 AbW AbO AaY Q7
def WQ : A2 := (⟨_, by conv => lhs; cbv⟩ : { c // gF Tryz.f102 [] = some c }).1
def AbB : A4 := (⟨_, by conv => lhs; cbv⟩ : { c // gL Tryz.f112 2 [] = some c }).1
def AaZ : A4 := (⟨_, by conv => lhs; cbv⟩ : { c // gL Tryz.f112 0 [] = some c }).1
def A1h : A2 := (⟨_, by intro a b; conv => lhs; cbv⟩ : { c : A4 → A4 → A2 // ∀ a b, gF Tryz.f112 [(0, a), (2, b)] = some (c a b) }).1 AaZ AbB
def Ab0 : A4 := (⟨_, by conv => lhs; cbv⟩ : { c // gL Tryz.f116 2 [] = some c }).1
def Aai : A4 := (⟨_, by intro a; conv => lhs; cbv⟩ : { c : A4 → A4 // ∀ a, gL Tryz.f116 0 [(2, a)] [[[0], [1], [2], [3], [4], [5], [6], [7], [8], [9], [10], [11], [12], [13], [14], [15], [16], [17], [18], [19], [20], [21], [22]]] = some (c a) }).1 Ab0
def A4i : A2 := (⟨_, by intro a; conv => lhs; cbv⟩ : { c : A4 → A2 // ∀ a, gF Tryz.f116 [(0, a)] = some (c a) }).1 Aai
def Wi : A2 := (⟨_, by conv => lhs; cbv⟩ : { c // gF Tryz.f123 [] = some c }).1
def A1R : A2 := (⟨_, by conv => lhs; cbv⟩ : { c // gF Tryz.f129 [] = some c }).1
def RR : A2 := (⟨_, by conv => lhs; cbv⟩ : { c // gF Tryz.f133 [] [[[0], [1], [2], [3], [4], [5], [6], [7], [8], [9], [10], [11], [12], [13], [14], [15], [16], [17], [18], [19], [20], [21], [22], [23], [24], [25], [26], [27], [28], [29], [30], [31], [32], [33], [34], [35], [36]]] = some c }).1
def A5U : A2 := (⟨_, by conv => lhs; cbv⟩ : { c // gF Tryz.f141 [] = some c }).1
def Abw : A4 := (⟨_, by conv => lhs; cbv⟩ : { c // gL Tryz.f150 0 [] = some c }).1
def A4X : A2 := (⟨_, by intro a; conv => lhs; cbv⟩ : { c : A4 → A2 // ∀ a, gF Tryz.f150 [(0, a)] = some (c a) }).1 Abw
def A58 : A2 := (⟨_, by conv => lhs; cbv⟩ : { c // gF Tryz.f155 [] = some c }).1
def A5L : A2 := (⟨_, by conv => lhs; cbv⟩ : { c // gF Tryz.f160 [] = some c }).1
def Ld : A4 := (⟨_, by conv => lhs; cbv⟩ : { c // gL Tryz.f164 0 [] = some c }).1
def EF : A2 := (⟨_, by intro a; conv => lhs; cbv⟩ : { c : A4 → A2 // ∀ a, gF Tryz.f164 [(0, a)] [[[0], [1], [2], [3], [4], [5], [6], [7], [8], [9], [10], [11], [12], [13], [14], [15], [16], [17], [18], [19], [20], [21], [22], [23], [24], [25], [26], [27], [28], [29], [30], [31], [32], [33], [34], [35], [36], [37], [38]], [[0], [1], [2], [3], [4], [6], [7], [9], [10], [11], [12], [5, 10], [8, 10], [13], [14], [15]], [[0], [1], [2], [3], [4], [6], [7], [9], [10], [11], [12], [5, 10], [8, 10], [13], [14], [15]]] = some (c a) }).1 Ld
def YH : A4 := (⟨_, by conv => lhs; cbv⟩ : { c // gL Tryz.f170 0 [] = some c }).1
def A69 : A2 := (⟨_, by intro a; conv => lhs; cbv⟩ : { c : A4 → A2 // ∀ a, gF Tryz.f170 [(0, a)] = some (c a) }).1 YH
def AaL : A4 := (⟨_, by conv => lhs; cbv⟩ : { c // gL Tryz.f174 0 [] = some c }).1
def A20 : A2 := (⟨_, by intro a; conv => lhs; cbv⟩ : { c : A4 → A2 // ∀ a, gF Tryz.f174 [(0, a)] = some (c a) }).1 AaL
def Py : A2 := (⟨_, by conv => lhs; cbv⟩ : { c // gF Tryz.f178 [] = some c }).1
def Qa : A2 := (⟨_, by conv => lhs; cbv⟩ : { c // gF Tryz.f185 [] = some c }).1
def A90 : A4 := (⟨_, by conv => lhs; cbv⟩ : { c // gL Tryz.f189 0 [] [[[0], [1], [2], [3], [4], [5], [6], [7], [8], [9], [10], [11]], [[0], [1], [2], [3], [4], [5], [6], [7], [8], [9], [10], [11, 1], [12], [13]]] = some c }).1
def ZK : A2 := (⟨_, by intro a; conv => lhs; cbv⟩ : { c : A4 → A2 // ∀ a, gF Tryz.f189 [(0, a)] = some (c a) }).1 A90
def XX : A2 := (⟨_, by conv => lhs; cbv⟩ : { c // gF Tryz.f193 [] = some c }).1
def YO : A2 := (⟨_, by conv => lhs; cbv⟩ : { c // gF Tryz.f198 [] = some c }).1
def A06 : A2 := (⟨_, by conv => lhs; cbv⟩ : { c // gF Tryz.f207 [] = some c }).1
def A7s : A4 := (⟨_, by conv => lhs; cbv⟩ : { c // gL Tryz.f211 0 [] = some c }).1
def Pv : A2 := (⟨_, by intro a; conv => lhs; cbv⟩ : { c : A4 → A2 // ∀ a, gF Tryz.f211 [(0, a)] = some (c a) }).1 A7s
def A7y : A4 := (⟨_, by conv => lhs; cbv⟩ : { c // gL Tryz.f215 2 [] = some c }).1
def XP : A2 := (⟨_, by intro a; conv => lhs; cbv⟩ : { c : A4 → A2 // ∀ a, gF Tryz.f215 [(2, a)] = some (c a) }).1 A7y
def Ye : A2 := (⟨_, by conv => lhs; cbv⟩ : { c // gF Tryz.f219 [] = some c }).1
def A0l : A4 := (⟨_, by conv => lhs; cbv⟩ : { c // gL Tryz.f223 0 [] [[[0], [1], [2], [4], [5], [6], [7], [8], [3, 8], [9], [10], [11], [12]], [[0], [1], [2], [4], [5], [6], [7], [8], [9], [3, 9], [10], [11], [12], [13]], [[0], [1], [2], [4], [5], [6], [7], [8], [9], [11], [12], [13], [14], [3, 14, 9], [10, 14], [15], [16], [17], [18]]] = some c }).1
def YM : A2 := (⟨_, by intro a; conv => lhs; cbv⟩ : { c : A4 → A2 // ∀ a, gF Tryz.f223 [(0, a)] = some (c a) }).1 A0l
def A94 : A4 := (⟨_, by conv => lhs; cbv⟩ : { c // gL Tryz.f229 0 [] = some c }).1
def ZB : A2 := (⟨_, by intro a; conv => lhs; cbv⟩ : { c : A4 → A2 // ∀ a, gF Tryz.f229 [(0, a)] = some (c a) }).1 A94
def A4v : A2 := (⟨_, by conv => lhs; cbv⟩ : { c // gF Tryz.f234 [] = some c }).1
def Y4 : A2 := (⟨_, by conv => lhs; cbv⟩ : { c // gF Tryz.f246 [] = some c }).1
def XO : A2 := (⟨_, by conv => lhs; cbv⟩ : { c // gF Tryz.f250 [] = some c }).1
def Yy : A2 := (⟨_, by conv => lhs; cbv⟩ : { c // gF Tryz.f254 [] = some c }).1
def Mn : A2 := (⟨_, by conv => lhs; cbv⟩ : { c // gF Tryz.f258 [] = some c }).1
def YG : A2 := (⟨_, by conv => lhs; cbv⟩ : { c // gF Tryz.f275 [] = some c }).1
def A2u : A4 := (⟨_, by conv => lhs; cbv⟩ : { c // gL Tryz.f279 0 [] = some c }).1
def Ym : A2 := (⟨_, by intro a; conv => lhs; cbv⟩ : { c : A4 → A2 // ∀ a, gF Tryz.f279 [(0, a)] = some (c a) }).1 A2u
end Go.AM
