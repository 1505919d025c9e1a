/-
  Own work, part of the proof of CoheWalked: the code of the functions that the law reaches, as the machine has it; read off the program as the text is compiled.
-/
import Derived.Test.YtpcpldaangchaaaGreatDoorCoA
set_option maxRecDepth 4000
set_option linter.unusedVariables false
set_option linter.unusedSimpArgs false
set_option linter.unusedSectionVars false
set_option linter.unnecessarySimpa false
set_option maxRecDepth 100000
set_option maxHeartbeats 4000000
namespace Go.AM
open Go Go.Proofs
def A7L : A2 := (⟨_, by conv => lhs; cbv⟩ : { c // gF Tryz.f13 [] = some c }).1
def Af4 : A4 := (⟨_, by conv => lhs; cbv⟩ : { c // gL Tryz.f20 0 [] = some c }).1
def A8q : A2 := (⟨_, by intro a; conv => lhs; cbv⟩ : { c : A4 → A2 // ∀ a, gF Tryz.f20 [(0, a)] = some (c a) }).1 Af4
def Xt : A2 := (⟨_, by conv => lhs; cbv⟩ : { c // gF Tryz.f34 [] = some c }).1
def Aal : A4 := (⟨_, by conv => lhs; cbv⟩ : { c // gL Tryz.f42 2 [] = some c }).1
def Aau : A4 := (⟨_, by conv => lhs; cbv⟩ : { c // gL Tryz.f42 0 [] = some c }).1
def A6O : A2 := (⟨_, by intro a b; conv => lhs; cbv⟩ : { c : A4 → A4 → A2 // ∀ a b, gF Tryz.f42 [(0, a), (2, b)] = some (c a b) }).1 Aau Aal
def AaM : A4 := (⟨_, by conv => lhs; cbv⟩ : { c // gL Tryz.f48 0 [] [[[0], [1], [2], [3], [4], [5], [6], [7], [8], [9], [10], [11], [12], [13], [14], [16], [17], [18], [15, 18, 11, 9, 7, 5, 3, 1], [19, 11, 9, 7, 5, 3, 1], [20], [21]]] = some c }).1
def A4n : A2 := (⟨_, by intro a; conv => lhs; cbv⟩ : { c : A4 → A2 // ∀ a, gF Tryz.f48 [(0, a)] = some (c a) }).1 AaM
def A76 : A2 := (⟨_, by conv => lhs; cbv⟩ : { c // gF Tryz.f54 [] = some c }).1
def A6D : A2 := (⟨_, by conv => lhs; cbv⟩ : { c // gF Tryz.f58 [] = some c }).1
def Abt : A4 := (⟨_, by conv => lhs; cbv⟩ : { c // gL Tryz.f67 0 [] [[[0], [1], [2], [3], [4], [5], [6], [7], [8], [9], [10], [11], [12], [13], [14], [15], [16], [17], [18], [19], [20], [21], [22]], [[0], [1], [2], [3], [4], [5], [6], [7], [8], [9]]] = some c }).1
def A79 : A2 := (⟨_, by intro a; conv => lhs; cbv⟩ : { c : A4 → A2 // ∀ a, gF Tryz.f67 [(0, a)] = some (c a) }).1 Abt
def A4w : A4 := (⟨_, by conv => lhs; cbv⟩ : { c // gL Tryz.f83 0 [] = some c }).1
def A4a : A2 := (⟨_, by intro a; conv => lhs; cbv⟩ : { c : A4 → A2 // ∀ a, gF Tryz.f83 [(0, a)] = some (c a) }).1 A4w
def Abi : A4 := (⟨_, by conv => lhs; cbv⟩ : { c // gL Tryz.f87 4 [] = some c }).1
def A9H : A4 := (⟨_, by conv => lhs; cbv⟩ : { c // gL Tryz.f87 2 [] = some c }).1
def Aax : A4 := (⟨_, by intro a b; conv => lhs; cbv⟩ : { c : A4 → A4 → A4 // ∀ a b, gL Tryz.f87 0 [(2, a), (4, b)] = some (c a b) }).1 A9H Abi
def A0U : A2 := (⟨_, by intro a; conv => lhs; cbv⟩ : { c : A4 → A2 // ∀ a, gF Tryz.f87 [(0, a)] = some (c a) }).1 Aax
def A6k : A2 := (⟨_, by conv => lhs; cbv⟩ : { c // gF Tryz.f91 [] = some c }).1
def MY : A2 := (⟨_, by conv => lhs; cbv⟩ : { c // gF Tryz.f98 [] [[[0], [1], [2], [3], [4], [5], [6], [7], [8], [9], [10], [11], [12], [13]], [[0], [1], [2], [3], [4], [5], [6], [7], [8], [9], [10], [11], [12], [13], [14]]] = some c }).1
def PX : A2 := (⟨_, by conv => lhs; cbv⟩ : { c // gF Tryz.f104 [] = some c }).1
def AaC : A4 := (⟨_, by conv => lhs; cbv⟩ : { c // gL Tryz.f113 0 [] = some c }).1
def A1V : A2 := (⟨_, by intro a; conv => lhs; cbv⟩ : { c : A4 → A2 // ∀ a, gF Tryz.f113 [(0, a)] = some (c a) }).1 AaC
def Qn : A4 := (⟨_, by conv => lhs; cbv⟩ : { c // gL Tryz.f117 0 [] = some c }).1
def A4B : A2 := (⟨_, by intro a; conv => lhs; cbv⟩ : { c : A4 → A2 // ∀ a, gF Tryz.f117 [(0, a)] = some (c a) }).1 Qn
def Abf : A4 := (⟨_, by conv => lhs; cbv⟩ : { c // gL Tryz.f124 2 [] = some c }).1
def Ab4 : A4 := (⟨_, by intro a; conv => lhs; cbv⟩ : { c : A4 → A4 // ∀ a, gL Tryz.f124 0 [(2, a)] = some (c a) }).1 Abf
def A0I : A2 := (⟨_, by intro a; conv => lhs; cbv⟩ : { c : A4 → A2 // ∀ a, gF Tryz.f124 [(0, a)] = some (c a) }).1 Ab4
def A4G : A2 := (⟨_, by conv => lhs; cbv⟩ : { c // gF Tryz.f130 [] = some c }).1
def A73 : A2 := (⟨_, by conv => lhs; cbv⟩ : { c // gF Tryz.f134 [] = some c }).1
def A5A : A2 := (⟨_, by conv => lhs; cbv⟩ : { c // gF Tryz.f143 [] = some c }).1
def A9X : A4 := (⟨_, by conv => lhs; cbv⟩ : { c // gL Tryz.f152 0 [] = some c }).1
def A7a : A2 := (⟨_, by intro a; conv => lhs; cbv⟩ : { c : A4 → A2 // ∀ a, gF Tryz.f152 [(0, a)] = some (c a) }).1 A9X
def AaG : A4 := (⟨_, by conv => lhs; cbv⟩ : { c // gL Tryz.f156 0 [] = some c }).1
def A4d : A2 := (⟨_, by intro a; conv => lhs; cbv⟩ : { c : A4 → A2 // ∀ a, gF Tryz.f156 [(0, a)] = some (c a) }).1 AaG
def A2n : A2 := (⟨_, by conv => lhs; cbv⟩ : { c // gF Tryz.f161 [] = some c }).1
def U6 : A4 := (⟨_, by conv => lhs; cbv⟩ : { c // gL Tryz.f165 0 [] = some c }).1
def A6K : A2 := (⟨_, by intro a; conv => lhs; cbv⟩ : { c : A4 → A2 // ∀ a, gF Tryz.f165 [(0, a)] = some (c a) }).1 U6
def A6A : A2 := (⟨_, by conv => lhs; cbv⟩ : { c // gF Tryz.f171 [] = some c }).1
def A4p : A2 := (⟨_, by conv => lhs; cbv⟩ : { c // gF Tryz.f175 [] = some c }).1
def Yt : A2 := (⟨_, by conv => lhs; cbv⟩ : { c // gF Tryz.f179 [] = some c }).1
def Um : A4 := (⟨_, by conv => lhs; cbv⟩ : { c // gL Tryz.f186 0 [] = some c }).1
def YI : A2 := (⟨_, by intro a; conv => lhs; cbv⟩ : { c : A4 → A2 // ∀ a, gF Tryz.f186 [(0, a)] = some (c a) }).1 Um
def A7J : A4 := (⟨_, by conv => lhs; cbv⟩ : { c // gL Tryz.f190 2 [] = some c }).1
def A8m : A4 := (⟨_, by intro a; conv => lhs; cbv⟩ : { c : A4 → A4 // ∀ a, gL Tryz.f190 0 [(2, a)] = some (c a) }).1 A7J
def ZS : A2 := (⟨_, by intro a; conv => lhs; cbv⟩ : { c : A4 → A2 // ∀ a, gF Tryz.f190 [(0, a)] = some (c a) }).1 A8m
def Mh : A2 := ⟨[], .block 0 (.loop (.seq (.seq (.reg [o 4 (.mov (.t 0)), o 5 (.bin .neq none (.t 4) (.c (.i .u64 0)))]) (.cond (.t 5) (.skip) (.exit 0))) (.seq (.block 1 (.reg [o 10 (.mov (.t 1)), o 11 (.mov (.t 0)), o 12 (.call (.c (.f AH [] [])) [(.t 11)]), o 13 (.call (.t 10) [(.t 12)])])) (.reg [o 6 (.mov (.t 0)), o 7 (.mov (.t 0)), o 8 (.bin .sub none (.t 7) (.c (.i .u64 1))), o 9 (.bin .and none (.t 6) (.t 8)), o 0 (.mov (.t 9))]))))⟩
def Yp : A2 := (⟨_, by conv => lhs; cbv⟩ : { c // gF Tryz.f199 [] = some c }).1
def Pu : A2 := (⟨_, by conv => lhs; cbv⟩ : { c // gF Tryz.f208 [] [[[0], [1], [2], [3], [4], [5], [6], [7], [8], [9], [10], [11], [12], [13], [14], [15], [16], [17], [18], [19], [20], [21], [22], [23], [24], [25]], [[0], [1], [2], [3], [4], [5], [6], [7], [8], [9], [10], [11], [12]]] = some c }).1
def XK : A2 := (⟨_, by conv => lhs; cbv⟩ : { c // gF Tryz.f212 [] = some c }).1
def A7E : A4 := (⟨_, by conv => lhs; cbv⟩ : { c // gL Tryz.f216 0 [] = some c }).1
def Zs : A2 := (⟨_, by intro a; conv => lhs; cbv⟩ : { c : A4 → A2 // ∀ a, gF Tryz.f216 [(0, a)] = some (c a) }).1 A7E
def Z4 : A2 := (⟨_, by conv => lhs; cbv⟩ : { c // gF Tryz.f220 [] [[[0], [1], [2], [3], [4], [5], [6], [7], [8], [9], [10], [11], [12], [13], [14], [15], [16], [17], [18], [19], [20], [21], [22], [23]]] = some c }).1
def Po : A2 := (⟨_, by conv => lhs; cbv⟩ : { c // gF Tryz.f224 [] [[[0], [1], [2], [3], [4], [5], [6], [7, 1], [8], [9], [10]], [[0], [1], [2], [3], [4], [5], [6], [7], [8], [9], [10], [14], [15], [16], [11, 16, 4], [12], [13], [17, 13, 4], [18], [19]], [[0], [1], [2], [5], [6], [7], [3, 7], [4, 7], [8], [9], [10]]] = some c }).1
def Uz : A2 := (⟨_, by conv => lhs; cbv⟩ : { c // gF Tryz.f230 [] = some c }).1
def XY : A2 := (⟨_, by conv => lhs; cbv⟩ : { c // gF Tryz.f235 [] = some c }).1
def ZF : A2 := (⟨_, by conv => lhs; cbv⟩ : { c // gF Tryz.f247 [] = some c }).1
def A7N : A4 := (⟨_, by conv => lhs; cbv⟩ : { c // gL Tryz.f251 0 [] = some c }).1
def Yg : A2 := (⟨_, by intro a; conv => lhs; cbv⟩ : { c : A4 → A2 // ∀ a, gF Tryz.f251 [(0, a)] = some (c a) }).1 A7N
def YZ : A2 := (⟨_, by conv => lhs; cbv⟩ : { c // gF Tryz.f255 [] = some c }).1
def A8s : A4 := (⟨_, by conv => lhs; cbv⟩ : { c // gL Tryz.f259 0 [] = some c }).1
def Zh : A2 := (⟨_, by intro a; conv => lhs; cbv⟩ : { c : A4 → A2 // ∀ a, gF Tryz.f259 [(0, a)] = some (c a) }).1 A8s
def Y1 : A2 := (⟨_, by conv => lhs; cbv⟩ : { c // gF Tryz.f276 [] = some c }).1
def HH : A2 := (⟨_, by conv => lhs; cbv⟩ : { c // gF Tryz.f280 [] = some c }).1
end Go.AM
