/-
  Own work, part of the proof of CoheWalked: the code of the functions that the law reaches, as the machine has it; read off the program as the text is compiled.
-/
import Derived.Test.YtpcpldaangchaaaGreatDoorCoA
set_option maxRecDepth 4000
set_option linter.unusedVariables false
set_option linter.unusedSimpArgs false
set_option linter.unusedSectionVars false
set_option linter.unnecessarySimpa false
set_option maxRecDepth 100000
set_option maxHeartbeats 4000000
namespace Go.AM
open Go Go.Proofs
def Ado : A2 := (⟨_, by conv => lhs; cbv⟩ : { c // gF Tryz.f9 [] = some c }).1
def AbC : A2 := (⟨_, by conv => lhs; cbv⟩ : { c // gF Tryz.f18 [] = some c }).1
def AeI : A4 := (⟨_, by conv => lhs; cbv⟩ : { c // gL Tryz.f26 8 [] = some c }).1
def AdZ : A4 := (⟨_, by intro a; conv => lhs; cbv⟩ : { c : A4 → A4 // ∀ a, gL Tryz.f26 6 [(8, a)] = some (c a) }).1 AeI
def AdU : A4 := (⟨_, by conv => lhs; cbv⟩ : { c // gL Tryz.f26 4 [] = some c }).1
def Aek : A4 := (⟨_, by intro a; conv => lhs; cbv⟩ : { c : A4 → A4 // ∀ a, gL Tryz.f26 2 [(4, a)] = some (c a) }).1 AdU
def Ada : A4 := (⟨_, by conv => lhs; cbv⟩ : { c // gL Tryz.f26 0 [] [[[0], [1], [2], [3], [4], [5], [6], [7], [8], [9], [10]], [[0], [1], [2], [3], [4], [5], [6], [7], [8], [9], [10], [11], [12], [13], [14], [15], [16], [17], [18], [19], [20], [21], [22], [23], [24], [25], [26], [27], [28], [29], [30], [31], [32], [33], [34], [35]]] = some c }).1
def A2H : A2 := (⟨_, by intro a b d; conv => lhs; cbv⟩ : { c : A4 → A4 → A4 → A2 // ∀ a b d, gF Tryz.f26 [(0, a), (2, b), (6, d)] = some (c a b d) }).1 Ada Aek AdZ
def A4O : A2 := (⟨_, by conv => lhs; cbv⟩ : { c // gF Tryz.f40 [] = some c }).1
def A6Q : A2 := (⟨_, by conv => lhs; cbv⟩ : { c // gF Tryz.f44 [] = some c }).1
def A2x : A2 := (⟨_, by conv => lhs; cbv⟩ : { c // gF Tryz.f50 [] = some c }).1
def Abe : A4 := (⟨_, by conv => lhs; cbv⟩ : { c // gL Tryz.f56 4 [] = some c }).1
def Aa1 : A4 := (⟨_, by intro a; conv => lhs; cbv⟩ : { c : A4 → A4 // ∀ a, gL Tryz.f56 2 [(4, a)] = some (c a) }).1 Abe
def AbE : A4 := (⟨_, by conv => lhs; cbv⟩ : { c // gL Tryz.f56 0 [] = some c }).1
def A4b : A2 := (⟨_, by intro a b; conv => lhs; cbv⟩ : { c : A4 → A4 → A2 // ∀ a b, gF Tryz.f56 [(0, a), (2, b)] = some (c a b) }).1 AbE Aa1
def A2l : A2 := (⟨_, by conv => lhs; cbv⟩ : { c // gF Tryz.f60 [] = some c }).1
def A71 : A4 := (⟨_, by conv => lhs; cbv⟩ : { c // gL Tryz.f69 2 [] [[[0], [1], [2], [3], [4], [5], [6], [7], [8], [9]], [[0], [1], [2], [3], [4], [5], [6], [7], [8], [9], [10], [11], [12], [13], [14], [15], [16], [17], [18], [19], [20], [21], [22], [23], [24], [25], [26], [27]]] = some c }).1
def AaA : A4 := (⟨_, by intro a; conv => lhs; cbv⟩ : { c : A4 → A4 // ∀ a, gL Tryz.f69 0 [(2, a)] [[[0], [1], [2], [3], [4], [5], [6], [7], [8], [9], [10], [11], [12], [13], [14], [15], [16], [17], [18], [19], [20], [21], [22]], [[0], [1], [2], [3], [4], [5], [6], [7], [8], [9]]] = some (c a) }).1 A71
def A0A : A2 := (⟨_, by intro a; conv => lhs; cbv⟩ : { c : A4 → A2 // ∀ a, gF Tryz.f69 [(0, a)] = some (c a) }).1 AaA
def AbR : A4 := (⟨_, by conv => lhs; cbv⟩ : { c // gL Tryz.f85 0 [] = some c }).1
def A4A : A2 := (⟨_, by intro a; conv => lhs; cbv⟩ : { c : A4 → A2 // ∀ a, gF Tryz.f85 [(0, a)] = some (c a) }).1 AbR
def AbF : A4 := (⟨_, by conv => lhs; cbv⟩ : { c // gL Tryz.f89 0 [] = some c }).1
def A5e : A2 := (⟨_, by intro a; conv => lhs; cbv⟩ : { c : A4 → A2 // ∀ a, gF Tryz.f89 [(0, a)] = some (c a) }).1 AbF
def Aby : A4 := (⟨_, by conv => lhs; cbv⟩ : { c // gL Tryz.f93 0 [] = some c }).1
def A1y : A2 := (⟨_, by intro a; conv => lhs; cbv⟩ : { c : A4 → A2 // ∀ a, gF Tryz.f93 [(0, a)] = some (c a) }).1 Aby
def A2w : A2 := (⟨_, by conv => lhs; cbv⟩ : { c // gF Tryz.f101 [] = some c }).1
def Aa8 : A4 := (⟨_, by conv => lhs; cbv⟩ : { c // gL Tryz.f111 2 [] = some c }).1
def AaB : A4 := (⟨_, by intro a; conv => lhs; cbv⟩ : { c : A4 → A4 // ∀ a, gL Tryz.f111 0 [(2, a)] = some (c a) }).1 Aa8
def A1p : A2 := (⟨_, by intro a; conv => lhs; cbv⟩ : { c : A4 → A2 // ∀ a, gF Tryz.f111 [(0, a)] = some (c a) }).1 AaB
def A2B : A2 := (⟨_, by conv => lhs; cbv⟩ : { c // gF Tryz.f115 [] = some c }).1
def A9V : A4 := (⟨_, by conv => lhs; cbv⟩ : { c // gL Tryz.f122 0 [] [[[0], [1], [2], [3], [4], [5], [6], [7], [8], [9]], [[0], [1], [2], [3], [4], [5], [6], [7]], [[0], [1], [2], [3], [4], [5], [6], [7], [8], [9], [10], [11], [12], [13], [14]]] = some c }).1
def Nr : A2 := (⟨_, by intro a; conv => lhs; cbv⟩ : { c : A4 → A2 // ∀ a, gF Tryz.f122 [(0, a)] = some (c a) }).1 A9V
def WY : A2 := (⟨_, by conv => lhs; cbv⟩ : { c // gF Tryz.f127 [] = some c }).1
def A65 : A2 := (⟨_, by conv => lhs; cbv⟩ : { c // gF Tryz.f132 [] = some c }).1
def A52 : A2 := (⟨_, by conv => lhs; cbv⟩ : { c // gF Tryz.f137 [] = some c }).1
def A2A : A2 := (⟨_, by conv => lhs; cbv⟩ : { c // gF Tryz.f148 [] = some c }).1
def A6i : A4 := (⟨_, by conv => lhs; cbv⟩ : { c // gL Tryz.f154 0 [] [[[0], [1], [2], [3], [4], [5], [6], [7], [8], [9], [10]], [[0], [1], [2], [3], [4], [5], [6], [7], [8], [9], [10], [11], [12]]] = some c }).1
def A6q : A2 := (⟨_, by intro a; conv => lhs; cbv⟩ : { c : A4 → A2 // ∀ a, gF Tryz.f154 [(0, a)] = some (c a) }).1 A6i
def Abl : A4 := (⟨_, by conv => lhs; cbv⟩ : { c // gL Tryz.f159 2 [] = some c }).1
def Abu : A4 := (⟨_, by conv => lhs; cbv⟩ : { c // gL Tryz.f159 0 [] = some c }).1
def A10 : A2 := (⟨_, by intro a b; conv => lhs; cbv⟩ : { c : A4 → A4 → A2 // ∀ a b, gF Tryz.f159 [(0, a), (2, b)] = some (c a b) }).1 Abu Abl
def A6o : A4 := (⟨_, by conv => lhs; cbv⟩ : { c // gL Tryz.f163 2 [] = some c }).1
def A5X : A4 := (⟨_, by conv => lhs; cbv⟩ : { c // gL Tryz.f163 0 [] = some c }).1
def Xf : A2 := (⟨_, by intro a b; conv => lhs; cbv⟩ : { c : A4 → A4 → A2 // ∀ a b, gF Tryz.f163 [(0, a), (2, b)] = some (c a b) }).1 A5X A6o
def Vu : A2 := (⟨_, by conv => lhs; cbv⟩ : { c // gF Tryz.f169 [] [[[0], [1], [2], [3], [4], [5], [6], [7], [8], [9], [10], [11], [12], [13], [14], [15], [16, 14, 11], [17]], [[0], [1], [2], [3], [4], [5], [6], [7], [8], [9], [10], [11], [12], [13], [14], [15], [16], [17], [18], [19], [20], [21], [22], [23], [24], [25], [26], [27], [28], [29], [30], [31], [32]]] = some c }).1
def A63 : A2 := (⟨_, by conv => lhs; cbv⟩ : { c // gF Tryz.f173 [] = some c }).1
def A7X : A4 := (⟨_, by conv => lhs; cbv⟩ : { c // gL Tryz.f177 0 [] = some c }).1
def ZL : A2 := (⟨_, by intro a; conv => lhs; cbv⟩ : { c : A4 → A2 // ∀ a, gF Tryz.f177 [(0, a)] = some (c a) }).1 A7X
def A7n : A4 := (⟨_, by conv => lhs; cbv⟩ : { c // gL Tryz.f184 0 [] = some c }).1
def YB : A2 := (⟨_, by intro a; conv => lhs; cbv⟩ : { c : A4 → A2 // ∀ a, gF Tryz.f184 [(0, a)] = some (c a) }).1 A7n
def A03 : A2 := (⟨_, by conv => lhs; cbv⟩ : { c // gF Tryz.f188 [] = some c }).1
def SP : A2 := (⟨_, by conv => lhs; cbv⟩ : { c // gF Tryz.f192 [] = some c }).1
def A7w : A4 := (⟨_, by conv => lhs; cbv⟩ : { c // gL Tryz.f197 0 [] = some c }).1
def A01 : A2 := (⟨_, by intro a; conv => lhs; cbv⟩ : { c : A4 → A2 // ∀ a, gF Tryz.f197 [(0, a)] = some (c a) }).1 A7w
def Y3 : A2 := (⟨_, by conv => lhs; cbv⟩ : { c // gF Tryz.f206 [] = some c }).1
def Z9 : A2 := (⟨_, by conv => lhs; cbv⟩ : { c // gF Tryz.f210 [] = some c }).1
def A9d : A4 := (⟨_, by conv => lhs; cbv⟩ : { c // gL Tryz.f214 0 [] = some c }).1
def Zt : A2 := (⟨_, by intro a; conv => lhs; cbv⟩ : { c : A4 → A2 // ∀ a, gF Tryz.f214 [(0, a)] = some (c a) }).1 A9d
def A8d : A4 := (⟨_, by conv => lhs; cbv⟩ : { c // gL Tryz.f218 0 [] = some c }).1
def Zr : A2 := (⟨_, by intro a; conv => lhs; cbv⟩ : { c : A4 → A2 // ∀ a, gF Tryz.f218 [(0, a)] = some (c a) }).1 A8d
def ZN : A2 := (⟨_, by conv => lhs; cbv⟩ : { c // gF Tryz.f222 [] = some c }).1
def ZT : A2 := (⟨_, by conv => lhs; cbv⟩ : { c // gF Tryz.f227 [] = some c }).1
def A8a : A4 := (⟨_, by conv => lhs; cbv⟩ : { c // gL Tryz.f232 0 [] = some c }).1
def ZU : A2 := (⟨_, by intro a; conv => lhs; cbv⟩ : { c : A4 → A2 // ∀ a, gF Tryz.f232 [(0, a)] = some (c a) }).1 A8a
def Sj : A2 := (⟨_, by conv => lhs; cbv⟩ : { c // gF Tryz.f245 [] [[[0], [1], [2], [3], [4], [5], [6], [7], [8], [9], [10], [11], [12], [13], [14], [15], [16], [17], [18], [19], [20], [21], [22], [23], [24], [25], [26], [27], [28], [29], [30], [31], [32], [33], [34], [35], [36], [37], [38], [39], [40], [41], [42], [43], [44], [45], [46], [47], [48], [49], [50], [51]]] = some c }).1
def Ti : A4 := (⟨_, by conv => lhs; cbv⟩ : { c // gL Tryz.f249 0 [] = some c }).1
def Yz : A2 := (⟨_, by intro a; conv => lhs; cbv⟩ : { c : A4 → A2 // ∀ a, gF Tryz.f249 [(0, a)] = some (c a) }).1 Ti
def A7U : A4 := (⟨_, by conv => lhs; cbv⟩ : { c // gL Tryz.f253 2 [] = some c }).1
def Qx : A2 := (⟨_, by intro a; conv => lhs; cbv⟩ : { c : A4 → A2 // ∀ a, gF Tryz.f253 [(2, a)] [[[0], [1], [2], [3], [4], [5], [6], [7], [8], [9], [10], [11], [12]], [[0], [1], [2], [4], [5], [6], [3, 5], [7], [8], [9], [10]], [[0], [1], [2], [3], [4], [5], [6], [7]]] = some (c a) }).1 A7U
def ZD : A2 := (⟨_, by conv => lhs; cbv⟩ : { c // gF Tryz.f257 [] = some c }).1
def Yb : A2 := (⟨_, by conv => lhs; cbv⟩ : { c // gF Tryz.f274 [] = some c }).1
def A7R : A4 := (⟨_, by conv => lhs; cbv⟩ : { c // gL Tryz.f278 0 [] = some c }).1
def Ya : A2 := (⟨_, by intro a; conv => lhs; cbv⟩ : { c : A4 → A2 // ∀ a, gF Tryz.f278 [(0, a)] = some (c a) }).1 A7R
end Go.AM
