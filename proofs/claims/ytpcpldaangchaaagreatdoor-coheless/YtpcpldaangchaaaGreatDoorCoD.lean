/-
  Own work, part of the proof of CoheLess: the code of the functions that the law reaches, as the machine has it; read off the program as the text is compiled.
-/
import Derived.Test.YtpcpldaangchaaaGreatDoorCoA
set_option maxRecDepth 4000
set_option linter.unusedVariables false
set_option linter.unusedSimpArgs false
set_option linter.unusedSectionVars false
set_option linter.unnecessarySimpa false
set_option maxRecDepth 100000
set_option maxHeartbeats 4000000
namespace Go.AM
open Go Go.Proofs
def AaU : A2 := (⟨_, by conv => lhs; cbv⟩ : { c // gF Tryz.f10 [] = some c }).1
def Af7 : A2 := (⟨_, by conv => lhs; cbv⟩ : { c // gF Tryz.f16 [] = some c }).1
def A4y : A2 := (⟨_, by conv => lhs; cbv⟩ : { c // gF Tryz.f23 [] = some c }).1
def A9K : A2 := (⟨_, by conv => lhs; cbv⟩ : { c // gF Tryz.f35 [] = some c }).1
def A9F : A2 := (⟨_, by conv => lhs; cbv⟩ : { c // gF Tryz.f41 [] = some c }).1
def Abe : A1 := (⟨_, by conv => lhs; cbv⟩ : { c // gL Tryz.f45 1 [] = some c }).1
def H5 : A2 := (⟨_, by intro a; conv => lhs; cbv⟩ : { c : A1 → A2 // ∀ a, gF Tryz.f45 [(1, a)] [[[0], [1], [2], [3], [4], [5], [6], [7], [8], [9], [10], [11], [12], [13], [14]], [[0], [1], [2], [3], [4], [5], [6], [7], [8], [13], [9], [10], [11], [12], [14], [15]], [[0], [1], [2], [3], [4], [5], [6], [7], [8], [9], [10], [11], [12]]] = some (c a) }).1 Abe
def A1g : A2 := (⟨_, by conv => lhs; cbv⟩ : { c // gF Tryz.f49 [] = some c }).1
def A6v : A2 := (⟨_, by conv => lhs; cbv⟩ : { c // gF Tryz.f53 [] = some c }).1
def A4b : A2 := (⟨_, by conv => lhs; cbv⟩ : { c // gF Tryz.f58 [] = some c }).1
def AaW : A1 := (⟨_, by conv => lhs; cbv⟩ : { c // gL Tryz.f64 0 [] = some c }).1
def A4X : A2 := (⟨_, by intro a; conv => lhs; cbv⟩ : { c : A1 → A2 // ∀ a, gF Tryz.f64 [(0, a)] = some (c a) }).1 AaW
def A6V : A2 := (⟨_, by conv => lhs; cbv⟩ : { c // gF Tryz.f71 [] = some c }).1
def Aay : A1 := (⟨_, by conv => lhs; cbv⟩ : { c // gL Tryz.f86 0 [] [[[0], [1], [2], [3], [4], [5], [6], [7], [8], [9], [10], [11], [12], [13], [14], [15], [16], [17, 15, 12], [18]], [[0], [1], [2], [3], [4], [5], [6], [7], [8], [9], [10], [11], [12], [13], [14], [15], [16], [17], [18], [19]]] = some c }).1
def A25 : A2 := (⟨_, by intro a; conv => lhs; cbv⟩ : { c : A1 → A2 // ∀ a, gF Tryz.f86 [(0, a)] = some (c a) }).1 Aay
def AcD : A1 := (⟨_, by conv => lhs; cbv⟩ : { c // gL Tryz.f90 0 [] = some c }).1
def A54 : A2 := (⟨_, by intro a; conv => lhs; cbv⟩ : { c : A1 → A2 // ∀ a, gF Tryz.f90 [(0, a)] = some (c a) }).1 AcD
def NW : A1 := (⟨_, by conv => lhs; cbv⟩ : { c // gL Tryz.f97 6 [] = some c }).1
def Aax : A1 := (⟨_, by conv => lhs; cbv⟩ : { c // gL Tryz.f97 4 [] = some c }).1
def AaF : A1 := (⟨_, by conv => lhs; cbv⟩ : { c // gL Tryz.f97 2 [] = some c }).1
def Abp : A1 := (⟨_, by conv => lhs; cbv⟩ : { c // gL Tryz.f97 0 [] = some c }).1
def A1P : A2 := (⟨_, by intro a b d e; conv => lhs; cbv⟩ : { c : A1 → A1 → A1 → A1 → A2 // ∀ a b d e, gF Tryz.f97 [(0, a), (2, b), (4, d), (6, e)] = some (c a b d e) }).1 Abp AaF Aax NW
def A18 : A2 := (⟨_, by conv => lhs; cbv⟩ : { c // gF Tryz.f101 [] = some c }).1
def A9R : A2 := (⟨_, by conv => lhs; cbv⟩ : { c // gF Tryz.f105 [] = some c }).1
def Acp : A1 := (⟨_, by conv => lhs; cbv⟩ : { c // gL Tryz.f109 2 [] = some c }).1
def Acs : A1 := (⟨_, by intro a; conv => lhs; cbv⟩ : { c : A1 → A1 // ∀ a, gL Tryz.f109 0 [(2, a)] = some (c a) }).1 Acp
def A9N : A2 := (⟨_, by intro a; conv => lhs; cbv⟩ : { c : A1 → A2 // ∀ a, gF Tryz.f109 [(0, a)] = some (c a) }).1 Acs
def Ab9 : A1 := (⟨_, by conv => lhs; cbv⟩ : { c // gL Tryz.f113 0 [] = some c }).1
def A2j : A2 := (⟨_, by intro a; conv => lhs; cbv⟩ : { c : A1 → A2 // ∀ a, gF Tryz.f113 [(0, a)] = some (c a) }).1 Ab9
def NZ : A1 := (⟨_, by conv => lhs; cbv⟩ : { c // gL Tryz.f117 0 [] = some c }).1
def A6o : A2 := (⟨_, by intro a; conv => lhs; cbv⟩ : { c : A1 → A2 // ∀ a, gF Tryz.f117 [(0, a)] = some (c a) }).1 NZ
def AcJ : A1 := (⟨_, by conv => lhs; cbv⟩ : { c // gL Tryz.f121 4 [] = some c }).1
def Abi : A1 := (⟨_, by intro a; conv => lhs; cbv⟩ : { c : A1 → A1 // ∀ a, gL Tryz.f121 2 [(4, a)] = some (c a) }).1 AcJ
def AbW : A1 := (⟨_, by intro a; conv => lhs; cbv⟩ : { c : A1 → A1 // ∀ a, gL Tryz.f121 0 [(2, a)] = some (c a) }).1 Abi
def A9V : A2 := (⟨_, by intro a; conv => lhs; cbv⟩ : { c : A1 → A2 // ∀ a, gF Tryz.f121 [(0, a)] = some (c a) }).1 AbW
def VY : A2 := (⟨_, by conv => lhs; cbv⟩ : { c // gF Tryz.f127 [] = some c }).1
def A6R : A2 := (⟨_, by conv => lhs; cbv⟩ : { c // gF Tryz.f132 [] = some c }).1
def A4L : A2 := (⟨_, by conv => lhs; cbv⟩ : { c // gF Tryz.f137 [] = some c }).1
def A0F : A2 := (⟨_, by conv => lhs; cbv⟩ : { c // gF Tryz.f148 [] = some c }).1
def A6f : A1 := (⟨_, by conv => lhs; cbv⟩ : { c // gL Tryz.f154 0 [] [[[0], [1], [2], [3], [4], [5], [6], [7], [8], [9], [10]], [[0], [1], [2], [3], [4], [5], [6], [7], [8], [9], [10], [11], [12]]] = some c }).1
def A4w : A2 := (⟨_, by intro a; conv => lhs; cbv⟩ : { c : A1 → A2 // ∀ a, gF Tryz.f154 [(0, a)] = some (c a) }).1 A6f
def A7s : A1 := (⟨_, by conv => lhs; cbv⟩ : { c // gL Tryz.f159 2 [] = some c }).1
def A9n : A1 := (⟨_, by conv => lhs; cbv⟩ : { c // gL Tryz.f159 0 [] = some c }).1
def UB : A2 := (⟨_, by intro a b; conv => lhs; cbv⟩ : { c : A1 → A1 → A2 // ∀ a b, gF Tryz.f159 [(0, a), (2, b)] = some (c a b) }).1 A9n A7s
def A0q : A1 := (⟨_, by conv => lhs; cbv⟩ : { c // gL Tryz.f163 2 [] = some c }).1
def A1S : A1 := (⟨_, by conv => lhs; cbv⟩ : { c // gL Tryz.f163 0 [] = some c }).1
def Qy : A2 := (⟨_, by intro a b; conv => lhs; cbv⟩ : { c : A1 → A1 → A2 // ∀ a b, gF Tryz.f163 [(0, a), (2, b)] = some (c a b) }).1 A1S A0q
def A87 : A1 := (⟨_, by conv => lhs; cbv⟩ : { c // gL Tryz.f167 0 [] = some c }).1
def A4v : A2 := (⟨_, by intro a; conv => lhs; cbv⟩ : { c : A1 → A2 // ∀ a, gF Tryz.f167 [(0, a)] = some (c a) }).1 A87
def A03 : A2 := (⟨_, by conv => lhs; cbv⟩ : { c // gF Tryz.f171 [] = some c }).1
def Xy : A2 := (⟨_, by conv => lhs; cbv⟩ : { c // gF Tryz.f175 [] = some c }).1
def Xz : A2 := (⟨_, by conv => lhs; cbv⟩ : { c // gF Tryz.f179 [] = some c }).1
def A5P : A2 := (⟨_, by conv => lhs; cbv⟩ : { c // gF Tryz.f183 [] = some c }).1
def A7P : A1 := (⟨_, by conv => lhs; cbv⟩ : { c // gL Tryz.f189 0 [] [[[0], [1], [2], [3], [4], [5], [6], [7], [8], [9], [10], [11]], [[0], [1], [2], [3], [4], [5], [6], [7], [8], [9], [10], [11, 1], [12], [13]]] = some c }).1
def ZZ : A2 := (⟨_, by intro a; conv => lhs; cbv⟩ : { c : A1 → A2 // ∀ a, gF Tryz.f189 [(0, a)] = some (c a) }).1 A7P
def Yg : A2 := (⟨_, by conv => lhs; cbv⟩ : { c // gF Tryz.f193 [] = some c }).1
def Zw : A2 := (⟨_, by conv => lhs; cbv⟩ : { c // gF Tryz.f198 [] = some c }).1
def Y1 : A2 := (⟨_, by conv => lhs; cbv⟩ : { c // gF Tryz.f207 [] = some c }).1
def A8f : A1 := (⟨_, by conv => lhs; cbv⟩ : { c // gL Tryz.f211 0 [] = some c }).1
def NX : A2 := (⟨_, by intro a; conv => lhs; cbv⟩ : { c : A1 → A2 // ∀ a, gF Tryz.f211 [(0, a)] = some (c a) }).1 A8f
def A7T : A1 := (⟨_, by conv => lhs; cbv⟩ : { c // gL Tryz.f215 2 [] = some c }).1
def ZR : A2 := (⟨_, by intro a; conv => lhs; cbv⟩ : { c : A1 → A2 // ∀ a, gF Tryz.f215 [(2, a)] = some (c a) }).1 A7T
def XB : A2 := (⟨_, by conv => lhs; cbv⟩ : { c // gF Tryz.f219 [] = some c }).1
def A0f : A1 := (⟨_, by conv => lhs; cbv⟩ : { c // gL Tryz.f223 0 [] [[[0], [1], [2], [4], [5], [6], [7], [8], [3, 8], [9], [10], [11], [12]], [[0], [1], [2], [4], [5], [6], [7], [8], [9], [3, 9], [10], [11], [12], [13]], [[0], [1], [2], [4], [5], [6], [7], [8], [9], [11], [12], [13], [14], [3, 14, 9], [10, 14], [15], [16], [17], [18]]] = some c }).1
def Zh : A2 := (⟨_, by intro a; conv => lhs; cbv⟩ : { c : A1 → A2 // ∀ a, gF Tryz.f223 [(0, a)] = some (c a) }).1 A0f
def Zv : A2 := (⟨_, by conv => lhs; cbv⟩ : { c // gF Tryz.f227 [] = some c }).1
def YX : A2 := (⟨_, by conv => lhs; cbv⟩ : { c // gF Tryz.f231 [] = some c }).1
def A7r : A1 := (⟨_, by conv => lhs; cbv⟩ : { c // gL Tryz.f244 0 [] = some c }).1
def ZK : A2 := (⟨_, by intro a; conv => lhs; cbv⟩ : { c : A1 → A2 // ∀ a, gF Tryz.f244 [(0, a)] = some (c a) }).1 A7r
def P7 : A2 := (⟨_, by conv => lhs; cbv⟩ : { c // gF Tryz.f248 [] [[[0], [1], [2], [3], [4], [5], [6], [7], [8], [9], [10], [11], [12], [13], [14], [15], [16], [17], [18], [19], [20], [21, 18, 15], [22]]] = some c }).1
def A06 : A2 := (⟨_, by conv => lhs; cbv⟩ : { c // gF Tryz.f252 [] = some c }).1
def Zj : A2 := (⟨_, by conv => lhs; cbv⟩ : { c // gF Tryz.f256 [] = some c }).1
def A7F : A1 := (⟨_, by conv => lhs; cbv⟩ : { c // gL Tryz.f273 0 [] = some c }).1
def Yl : A2 := (⟨_, by intro a; conv => lhs; cbv⟩ : { c : A1 → A2 // ∀ a, gF Tryz.f273 [(0, a)] = some (c a) }).1 A7F
def A8C : A1 := (⟨_, by conv => lhs; cbv⟩ : { c // gL Tryz.f277 0 [] = some c }).1
def Zq : A2 := (⟨_, by intro a; conv => lhs; cbv⟩ : { c : A1 → A2 // ∀ a, gF Tryz.f277 [(0, a)] = some (c a) }).1 A8C
end Go.AM
