/-
  Own work, part of the proof of CoheAll: the code of the functions that the law reaches, as the machine has it; read off the program as the text is compiled.
-/
import Derived.Test.YtpcpldaangchaaaGreatDoorCoA
set_option maxRecDepth 4000
set_option linter.unusedVariables false
set_option linter.unusedSimpArgs false
set_option linter.unusedSectionVars false
set_option linter.unnecessarySimpa false
set_option maxRecDepth 100000
set_option maxHeartbeats 4000000
namespace Go.AM
open Go Go.Proofs
def A2c : A1 := (⟨_, by conv => lhs; cbv⟩ : { c // gL Tryz.f11 0 [] = some c }).1
def Ada : A2 := (⟨_, by intro a; conv => lhs; cbv⟩ : { c : A1 → A2 // ∀ a, gF Tryz.f11 [(0, a)] = some (c a) }).1 A2c
def Zo : A2 := (⟨_, by conv => lhs; cbv⟩ : { c // gF Tryz.f15 [] = some c }).1
def A5U : A2 := (⟨_, by conv => lhs; cbv⟩ : { c // gF Tryz.f22 [] = some c }).1
def WE : A2 := (⟨_, by conv => lhs; cbv⟩ : { c // gF Tryz.f35 [] = some c }).1
def AaE : A2 := (⟨_, by conv => lhs; cbv⟩ : { c // gF Tryz.f41 [] = some c }).1
def Ac7 : A1 := (⟨_, by conv => lhs; cbv⟩ : { c // gL Tryz.f45 1 [] = some c }).1
def HB : A2 := (⟨_, by intro a; conv => lhs; cbv⟩ : { c : A1 → A2 // ∀ a, gF Tryz.f45 [(1, a)] [[[0], [1], [2], [3], [4], [5], [6], [7], [8], [9], [10], [11], [12], [13], [14]], [[0], [1], [2], [3], [4], [5], [6], [7], [8], [13], [9], [10], [11], [12], [14], [15]], [[0], [1], [2], [3], [4], [5], [6], [7], [8], [9], [10], [11], [12]]] = some (c a) }).1 Ac7
def A3s : A2 := (⟨_, by conv => lhs; cbv⟩ : { c // gF Tryz.f49 [] = some c }).1
def A5N : A2 := (⟨_, by conv => lhs; cbv⟩ : { c // gF Tryz.f53 [] = some c }).1
def A7e : A2 := (⟨_, by conv => lhs; cbv⟩ : { c // gF Tryz.f58 [] = some c }).1
def Abd : A1 := (⟨_, by conv => lhs; cbv⟩ : { c // gL Tryz.f64 0 [] = some c }).1
def A81 : A2 := (⟨_, by intro a; conv => lhs; cbv⟩ : { c : A1 → A2 // ∀ a, gF Tryz.f64 [(0, a)] = some (c a) }).1 Abd
def A7U : A2 := (⟨_, by conv => lhs; cbv⟩ : { c // gF Tryz.f71 [] = some c }).1
def AbB : A1 := (⟨_, by conv => lhs; cbv⟩ : { c // gL Tryz.f86 0 [] [[[0], [1], [2], [3], [4], [5], [6], [7], [8], [9], [10], [11], [12], [13], [14], [15], [16], [17, 15, 12], [18]], [[0], [1], [2], [3], [4], [5], [6], [7], [8], [9], [10], [11], [12], [13], [14], [15], [16], [17], [18], [19]]] = some c }).1
def A2z : A2 := (⟨_, by intro a; conv => lhs; cbv⟩ : { c : A1 → A2 // ∀ a, gF Tryz.f86 [(0, a)] = some (c a) }).1 AbB
def Acp : A1 := (⟨_, by conv => lhs; cbv⟩ : { c // gL Tryz.f90 0 [] = some c }).1
def A5D : A2 := (⟨_, by intro a; conv => lhs; cbv⟩ : { c : A1 → A2 // ∀ a, gF Tryz.f90 [(0, a)] = some (c a) }).1 Acp
def QJ : A1 := (⟨_, by conv => lhs; cbv⟩ : { c // gL Tryz.f97 6 [] = some c }).1
def Adk : A1 := (⟨_, by conv => lhs; cbv⟩ : { c // gL Tryz.f97 4 [] = some c }).1
def AcE : A1 := (⟨_, by conv => lhs; cbv⟩ : { c // gL Tryz.f97 2 [] = some c }).1
def AbW : A1 := (⟨_, by conv => lhs; cbv⟩ : { c // gL Tryz.f97 0 [] = some c }).1
def A2X : A2 := (⟨_, by intro a b d e; conv => lhs; cbv⟩ : { c : A1 → A1 → A1 → A1 → A2 // ∀ a b d e, gF Tryz.f97 [(0, a), (2, b), (4, d), (6, e)] = some (c a b d e) }).1 AbW AcE Adk QJ
def A1w : A2 := (⟨_, by conv => lhs; cbv⟩ : { c // gF Tryz.f101 [] = some c }).1
def RP : A2 := (⟨_, by conv => lhs; cbv⟩ : { c // gF Tryz.f105 [] = some c }).1
def AbI : A1 := (⟨_, by conv => lhs; cbv⟩ : { c // gL Tryz.f109 2 [] = some c }).1
def Ad7 : A1 := (⟨_, by intro a; conv => lhs; cbv⟩ : { c : A1 → A1 // ∀ a, gL Tryz.f109 0 [(2, a)] = some (c a) }).1 AbI
def AaQ : A2 := (⟨_, by intro a; conv => lhs; cbv⟩ : { c : A1 → A2 // ∀ a, gF Tryz.f109 [(0, a)] = some (c a) }).1 Ad7
def Ad8 : A1 := (⟨_, by conv => lhs; cbv⟩ : { c // gL Tryz.f113 0 [] = some c }).1
def A3h : A2 := (⟨_, by intro a; conv => lhs; cbv⟩ : { c : A1 → A2 // ∀ a, gF Tryz.f113 [(0, a)] = some (c a) }).1 Ad8
def Q7 : A1 := (⟨_, by conv => lhs; cbv⟩ : { c // gL Tryz.f117 0 [] = some c }).1
def A6c : A2 := (⟨_, by intro a; conv => lhs; cbv⟩ : { c : A1 → A2 // ∀ a, gF Tryz.f117 [(0, a)] = some (c a) }).1 Q7
def Abf : A1 := (⟨_, by conv => lhs; cbv⟩ : { c // gL Tryz.f121 4 [] = some c }).1
def GJ : A1 := (⟨_, by intro a; conv => lhs; cbv⟩ : { c : A1 → A1 // ∀ a, gL Tryz.f121 2 [(4, a)] = some (c a) }).1 Abf
def AcF : A1 := (⟨_, by intro a; conv => lhs; cbv⟩ : { c : A1 → A1 // ∀ a, gL Tryz.f121 0 [(2, a)] = some (c a) }).1 GJ
def A1V : A2 := (⟨_, by intro a; conv => lhs; cbv⟩ : { c : A1 → A2 // ∀ a, gF Tryz.f121 [(0, a)] = some (c a) }).1 AcF
def XU : A2 := (⟨_, by conv => lhs; cbv⟩ : { c // gF Tryz.f127 [] = some c }).1
def A7J : A2 := (⟨_, by conv => lhs; cbv⟩ : { c // gF Tryz.f132 [] = some c }).1
def A5s : A2 := (⟨_, by conv => lhs; cbv⟩ : { c // gF Tryz.f137 [] = some c }).1
def A1g : A2 := (⟨_, by conv => lhs; cbv⟩ : { c // gF Tryz.f148 [] = some c }).1
def A6O : A1 := (⟨_, by conv => lhs; cbv⟩ : { c // gL Tryz.f154 0 [] = some c }).1
def A6w : A2 := (⟨_, by intro a; conv => lhs; cbv⟩ : { c : A1 → A2 // ∀ a, gF Tryz.f154 [(0, a)] = some (c a) }).1 A6O
def A9k : A1 := (⟨_, by conv => lhs; cbv⟩ : { c // gL Tryz.f159 2 [] = some c }).1
def A9L : A1 := (⟨_, by conv => lhs; cbv⟩ : { c // gL Tryz.f159 0 [] = some c }).1
def Um : A2 := (⟨_, by intro a b; conv => lhs; cbv⟩ : { c : A1 → A1 → A2 // ∀ a b, gF Tryz.f159 [(0, a), (2, b)] = some (c a b) }).1 A9L A9k
def A31 : A1 := (⟨_, by conv => lhs; cbv⟩ : { c // gL Tryz.f163 2 [] = some c }).1
def A1X : A1 := (⟨_, by conv => lhs; cbv⟩ : { c // gL Tryz.f163 0 [] = some c }).1
def PA : A2 := (⟨_, by intro a b; conv => lhs; cbv⟩ : { c : A1 → A1 → A2 // ∀ a b, gF Tryz.f163 [(0, a), (2, b)] = some (c a b) }).1 A1X A31
def Aan : A1 := (⟨_, by conv => lhs; cbv⟩ : { c // gL Tryz.f167 0 [] = some c }).1
def Vf : A2 := (⟨_, by intro a; conv => lhs; cbv⟩ : { c : A1 → A2 // ∀ a, gF Tryz.f167 [(0, a)] = some (c a) }).1 Aan
def A00 : A2 := (⟨_, by conv => lhs; cbv⟩ : { c // gF Tryz.f171 [] = some c }).1
def A0z : A2 := (⟨_, by conv => lhs; cbv⟩ : { c // gF Tryz.f175 [] = some c }).1
def YT : A2 := (⟨_, by conv => lhs; cbv⟩ : { c // gF Tryz.f179 [] = some c }).1
def A0l : A2 := (⟨_, by conv => lhs; cbv⟩ : { c // gF Tryz.f183 [] = some c }).1
def Aap : A1 := (⟨_, by conv => lhs; cbv⟩ : { c // gL Tryz.f189 0 [] = some c }).1
def ZW : A2 := (⟨_, by intro a; conv => lhs; cbv⟩ : { c : A1 → A2 // ∀ a, gF Tryz.f189 [(0, a)] = some (c a) }).1 Aap
def A09 : A2 := (⟨_, by conv => lhs; cbv⟩ : { c // gF Tryz.f193 [] = some c }).1
def A0q : A2 := (⟨_, by conv => lhs; cbv⟩ : { c // gF Tryz.f198 [] = some c }).1
def Za : A2 := (⟨_, by conv => lhs; cbv⟩ : { c // gF Tryz.f207 [] = some c }).1
def A9F : A1 := (⟨_, by conv => lhs; cbv⟩ : { c // gL Tryz.f211 0 [] = some c }).1
def Qe : A2 := (⟨_, by intro a; conv => lhs; cbv⟩ : { c : A1 → A2 // ∀ a, gF Tryz.f211 [(0, a)] = some (c a) }).1 A9F
def A9x : A1 := (⟨_, by conv => lhs; cbv⟩ : { c // gL Tryz.f215 2 [] = some c }).1
def ZM : A2 := (⟨_, by intro a; conv => lhs; cbv⟩ : { c : A1 → A2 // ∀ a, gF Tryz.f215 [(2, a)] = some (c a) }).1 A9x
def A14 : A2 := (⟨_, by conv => lhs; cbv⟩ : { c // gF Tryz.f219 [] = some c }).1
def A2W : A1 := (⟨_, by conv => lhs; cbv⟩ : { c // gL Tryz.f223 0 [] [[[0], [1], [2], [4], [5], [6], [7], [8], [3, 8], [9], [10], [11], [12]], [[0], [1], [2], [4], [5], [6], [7], [8], [9], [3, 9], [10], [11], [12], [13]], [[0], [1], [2], [4], [5], [6], [7], [8], [9], [11], [12], [13], [14], [3, 14, 9], [10, 14], [15], [16], [17], [18]]] = some c }).1
def A0R : A2 := (⟨_, by intro a; conv => lhs; cbv⟩ : { c : A1 → A2 // ∀ a, gF Tryz.f223 [(0, a)] = some (c a) }).1 A2W
def A15 : A2 := (⟨_, by conv => lhs; cbv⟩ : { c // gF Tryz.f227 [] = some c }).1
def A0s : A2 := (⟨_, by conv => lhs; cbv⟩ : { c // gF Tryz.f231 [] = some c }).1
def Aam : A1 := (⟨_, by conv => lhs; cbv⟩ : { c // gL Tryz.f244 0 [] = some c }).1
def A0c : A2 := (⟨_, by intro a; conv => lhs; cbv⟩ : { c : A1 → A2 // ∀ a, gF Tryz.f244 [(0, a)] = some (c a) }).1 Aam
def PD : A2 := (⟨_, by conv => lhs; cbv⟩ : { c // gF Tryz.f248 [] = some c }).1
def A0y : A2 := (⟨_, by conv => lhs; cbv⟩ : { c // gF Tryz.f252 [] = some c }).1
def A0h : A2 := (⟨_, by conv => lhs; cbv⟩ : { c // gF Tryz.f256 [] = some c }).1
def A8E : A1 := (⟨_, by conv => lhs; cbv⟩ : { c // gL Tryz.f273 0 [] = some c }).1
def A0A : A2 := (⟨_, by intro a; conv => lhs; cbv⟩ : { c : A1 → A2 // ∀ a, gF Tryz.f273 [(0, a)] = some (c a) }).1 A8E
def A9X : A1 := (⟨_, by conv => lhs; cbv⟩ : { c // gL Tryz.f277 0 [] = some c }).1
def Zy : A2 := (⟨_, by intro a; conv => lhs; cbv⟩ : { c : A1 → A2 // ∀ a, gF Tryz.f277 [(0, a)] = some (c a) }).1 A9X
end Go.AM
