/-
  Own work, part of the proof of CoheWalked: the code of the functions that the law reaches, as the machine has it; read off the program as the text is compiled.
-/
import Derived.Test.YtpcpldaangchaaaGreatDoorCoA
set_option maxRecDepth 4000
set_option linter.unusedVariables false
set_option linter.unusedSimpArgs false
set_option linter.unusedSectionVars false
set_option linter.unnecessarySimpa false
set_option maxRecDepth 100000
set_option maxHeartbeats 4000000
namespace Go.AM
open Go Go.Proofs
def A3d : A2 := (⟨_, by conv => lhs; cbv⟩ : { c // gF Tryz.f5 [] = some c }).1
def Zk : A2 := (⟨_, by conv => lhs; cbv⟩ : { c // gF Tryz.f15 [] = some c }).1
def Abq : A2 := (⟨_, by conv => lhs; cbv⟩ : { c // gF Tryz.f22 [] = some c }).1
def We : A2 := (⟨_, by conv => lhs; cbv⟩ : { c // gF Tryz.f36 [] = some c }).1
def S9 : A2 := (⟨_, by conv => lhs; cbv⟩ : { c // gF Tryz.f43 [] = some c }).1
def A1f : A2 := (⟨_, by conv => lhs; cbv⟩ : { c // gF Tryz.f49 [] = some c }).1
def A5V : A2 := (⟨_, by conv => lhs; cbv⟩ : { c // gF Tryz.f55 [] = some c }).1
def Vx : A2 := (⟨_, by conv => lhs; cbv⟩ : { c // gF Tryz.f59 [] = some c }).1
def Aaq : A4 := (⟨_, by conv => lhs; cbv⟩ : { c // gL Tryz.f68 0 [] = some c }).1
def A5N : A2 := (⟨_, by intro a; conv => lhs; cbv⟩ : { c : A4 → A2 // ∀ a, gF Tryz.f68 [(0, a)] = some (c a) }).1 Aaq
def A6d : A2 := (⟨_, by conv => lhs; cbv⟩ : { c // gF Tryz.f84 [] = some c }).1
def Abp : A4 := (⟨_, by conv => lhs; cbv⟩ : { c // gL Tryz.f88 0 [] = some c }).1
def A6l : A2 := (⟨_, by intro a; conv => lhs; cbv⟩ : { c : A4 → A2 // ∀ a, gF Tryz.f88 [(0, a)] = some (c a) }).1 Abp
def A4h : A2 := (⟨_, by conv => lhs; cbv⟩ : { c // gF Tryz.f92 [] = some c }).1
def A5Z : A2 := (⟨_, by conv => lhs; cbv⟩ : { c // gF Tryz.f99 [] = some c }).1
def Rq : A2 := (⟨_, by conv => lhs; cbv⟩ : { c // gF Tryz.f106 [] = some c }).1
def A62 : A2 := (⟨_, by conv => lhs; cbv⟩ : { c // gF Tryz.f114 [] = some c }).1
def Abk : A4 := (⟨_, by conv => lhs; cbv⟩ : { c // gL Tryz.f118 0 [] = some c }).1
def A4l : A2 := (⟨_, by intro a; conv => lhs; cbv⟩ : { c : A4 → A2 // ∀ a, gF Tryz.f118 [(0, a)] = some (c a) }).1 Abk
def Va : A2 := (⟨_, by conv => lhs; cbv⟩ : { c // gF Tryz.f125 [] = some c }).1
def Abs : A4 := (⟨_, by conv => lhs; cbv⟩ : { c // gL Tryz.f131 0 [] = some c }).1
def A6v : A2 := (⟨_, by intro a; conv => lhs; cbv⟩ : { c : A4 → A2 // ∀ a, gF Tryz.f131 [(0, a)] = some (c a) }).1 Abs
def A6x : A2 := (⟨_, by conv => lhs; cbv⟩ : { c // gF Tryz.f135 [] = some c }).1
def Za : A4 := (⟨_, by conv => lhs; cbv⟩ : { c // gL Tryz.f144 0 [] = some c }).1
def A6E : A2 := (⟨_, by intro a; conv => lhs; cbv⟩ : { c : A4 → A2 // ∀ a, gF Tryz.f144 [(0, a)] = some (c a) }).1 Za
def XI : A4 := (⟨_, by conv => lhs; cbv⟩ : { c // gL Tryz.f153 0 [] [[[0], [1], [2], [3], [4], [5], [6], [7], [8], [9], [10]], [[0], [1], [2], [3], [4], [5], [6], [7], [8], [9], [10]], [[0], [1], [2], [3], [4], [5], [6], [7], [8], [9], [10], [11], [12]], [[0], [1], [2], [3], [4], [5], [6], [7], [8], [9], [10], [11], [12], [13], [14], [15], [16], [17], [18], [19], [20], [21], [22], [23], [24], [25], [26], [27]]] = some c }).1
def A4Y : A2 := (⟨_, by intro a; conv => lhs; cbv⟩ : { c : A4 → A2 // ∀ a, gF Tryz.f153 [(0, a)] = some (c a) }).1 XI
def A51 : A2 := (⟨_, by conv => lhs; cbv⟩ : { c // gF Tryz.f157 [] = some c }).1
def Dc : A4 := (⟨_, by conv => lhs; cbv⟩ : { c // gL Tryz.f162 3 [] [[[0], [1], [2], [3], [4], [5], [6], [7], [8], [9], [10], [11], [12]], [[0], [1], [2], [3], [4], [5], [6], [9], [10], [11], [12], [13], [7, 13], [8], [14], [15]], [[0], [1], [2], [3], [4], [5], [6], [7], [8], [9], [10], [11], [12]]] = some c }).1
def Uf : A4 := (⟨_, by conv => lhs; cbv⟩ : { c // gL Tryz.f162 0 [] = some c }).1
def Xk : A2 := (⟨_, by intro a b; conv => lhs; cbv⟩ : { c : A4 → A4 → A2 // ∀ a b, gF Tryz.f162 [(0, a), (3, b)] [[[0], [1], [2], [3], [4], [5], [6], [7], [8], [9], [10], [11]], [[0], [1], [2], [3], [4], [5], [6], [7], [8]], [[0], [1], [2], [3], [4], [5], [6], [7], [8], [9], [10], [11], [12], [13, 6], [14], [15]], [[0], [1], [2], [3], [4], [5], [6], [7], [8], [9], [10]], [[0], [1], [2], [3], [4], [5], [6], [7], [8], [9], [10], [11], [12], [13], [14], [15, 8, 4], [16], [17], [18]]] = some (c a b) }).1 Uf Dc
def Abd : A4 := (⟨_, by conv => lhs; cbv⟩ : { c // gL Tryz.f166 0 [] = some c }).1
def A5a : A2 := (⟨_, by intro a; conv => lhs; cbv⟩ : { c : A4 → A2 // ∀ a, gF Tryz.f166 [(0, a)] = some (c a) }).1 Abd
def A1O : A2 := (⟨_, by conv => lhs; cbv⟩ : { c // gF Tryz.f172 [] = some c }).1
def Y2 : A2 := (⟨_, by conv => lhs; cbv⟩ : { c // gF Tryz.f176 [] = some c }).1
def ZC : A2 := (⟨_, by conv => lhs; cbv⟩ : { c // gF Tryz.f180 [] = some c }).1
def Yr : A2 := (⟨_, by conv => lhs; cbv⟩ : { c // gF Tryz.f187 [] = some c }).1
def Zp : A2 := (⟨_, by conv => lhs; cbv⟩ : { c // gF Tryz.f191 [] = some c }).1
def YQ : A2 := (⟨_, by conv => lhs; cbv⟩ : { c // gF Tryz.f195 [] = some c }).1
def YW : A2 := (⟨_, by conv => lhs; cbv⟩ : { c // gF Tryz.f204 [] = some c }).1
def XF : A2 := (⟨_, by conv => lhs; cbv⟩ : { c // gF Tryz.f209 [] = some c }).1
def A8z : A4 := (⟨_, by conv => lhs; cbv⟩ : { c // gL Tryz.f213 0 [] = some c }).1
def ZE : A2 := (⟨_, by intro a; conv => lhs; cbv⟩ : { c : A4 → A2 // ∀ a, gF Tryz.f213 [(0, a)] = some (c a) }).1 A8z
def Q3 : A2 := (⟨_, by conv => lhs; cbv⟩ : { c // gF Tryz.f217 [] = some c }).1
def TR : A2 := (⟨_, by conv => lhs; cbv⟩ : { c // gF Tryz.f221 [] = some c }).1
def Y6 : A2 := (⟨_, by conv => lhs; cbv⟩ : { c // gF Tryz.f226 [] = some c }).1
def Yu : A2 := (⟨_, by conv => lhs; cbv⟩ : { c // gF Tryz.f231 [] = some c }).1
def A97 : A4 := (⟨_, by conv => lhs; cbv⟩ : { c // gL Tryz.f244 0 [] = some c }).1
def XZ : A2 := (⟨_, by intro a; conv => lhs; cbv⟩ : { c : A4 → A2 // ∀ a, gF Tryz.f244 [(0, a)] = some (c a) }).1 A97
def Pd : A2 := (⟨_, by conv => lhs; cbv⟩ : { c // gF Tryz.f248 [] [[[0], [1], [2], [3], [4], [5], [6], [7], [8], [9], [10], [11], [12], [13], [14], [15], [16], [17], [18], [19], [20], [21, 18, 15], [22]]] = some c }).1
def XN : A2 := (⟨_, by conv => lhs; cbv⟩ : { c // gF Tryz.f252 [] = some c }).1
def Zb : A2 := (⟨_, by conv => lhs; cbv⟩ : { c // gF Tryz.f256 [] = some c }).1
def A89 : A4 := (⟨_, by conv => lhs; cbv⟩ : { c // gL Tryz.f273 0 [] = some c }).1
def XC : A2 := (⟨_, by intro a; conv => lhs; cbv⟩ : { c : A4 → A2 // ∀ a, gF Tryz.f273 [(0, a)] = some (c a) }).1 A89
def A7M : A4 := (⟨_, by conv => lhs; cbv⟩ : { c // gL Tryz.f277 0 [] = some c }).1
def YS : A2 := (⟨_, by intro a; conv => lhs; cbv⟩ : { c : A4 → A2 // ∀ a, gF Tryz.f277 [(0, a)] = some (c a) }).1 A7M
end Go.AM
