/-
  Own work, part of the proof of SeenNone: what functions compute (third part), and the law itself.
-/
import Derived.Test.YtpcpldaangchaaaGreatDoorKB
import Derived.Test.YtpcpldaangchaaaGreatDoorKA
import Derived.Test.YtpcpldaangchaaaGreatDoorPl
import Derived.Test.YtpcpldaangchaaaGreatDoorAmE
set_option linter.unusedVariables false
set_option linter.unusedSimpArgs false
set_option linter.unusedSectionVars false
set_option linter.unnecessarySimpa false
namespace Go.AM
open Go Go.Proofs
theorem mask_two {args : List VV} (y x : Option VO) (r : VH) (j : Nat) (h0 : (refs args).contains 1 = true) (h1 : (refs args).contains (j + 1 + 1) = true) : ∃ y' r', kill (maskL args (y :: x :: r)) (y :: x :: r) = y' :: x :: r' ∧ r'[j]? = r[j]? := by
 obtain ⟨⟨y', r'⟩, hr'⟩ := mask_head y x r h0
 refine ⟨y', r', hr', ?_⟩
 have := mask_at (y :: x :: r) (j + 1 + 1) h1
 rw [hr'] at this
 simpa using this
def isGC (v : VV) : Prop := ∃ row, v = .ag row ∧ GC row
section
variable {V : VProg} (C : VCode V) {Q : VV → Prop}
include C
set_option maxHeartbeats 8000000 in
theorem mk_cond_round (l : List U8) (hl : l.length ≤ 1000 ∧ ∀ x ∈ l, x.n < 256) (vals : Int) (hv : 1 ≤ vals ∧ vals ≤ 4) (nl : Nat) (hnl : 1 ≤ nl ∧ nl ≤ 4) (rg : List (List ByteArray)) (hrg : 1 ≤ rg.length ∧ rg.length ≤ 4) (d : Nat) (hd : d ≤ 10)
  (ih : 0 < d → ∀ (a : Nat) (ha : a ≤ l.length) (j : Nat) (r : VH) (hR : r[j]? = some (some (accO T_s_string 1 (rg.map eLS)))) {x0 : Option VO},
   VP3 V n_z134 [.p 1 0 0 0, vHp vals nl, .sl (j + 1 + 1) rg.length 0 rg.length, .i .i64 ((d - 1 : Nat) : Int)] (x0 :: MO l a :: r) fun v h => isGC v ∧ MS x0 l r h)
  (a : Nat) (ha : a ≤ l.length) (j : Nat) (r : VH) (hR0 : r[j]? = some (some (accO T_s_string 1 (rg.map eLS)))) {x0 : Option VO} :
  VP3 V n_z134 [.p 1 0 0 0, vHp vals nl, .sl (j + 1 + 1) rg.length 0 rg.length, .i .i64 d] (x0 :: MO l a :: r) fun v h => isGC v ∧ MS x0 l r h := by
 have hjr : j < r.length := (List.getElem?_eq_some_iff.1 hR0).1
 have hR : ∀ x, (r ++ x)[j]? = some (some (accO T_s_string 1 (rg.map eLS))) := fun x => by rw [List.getElem?_append_left hjr]; exact hR0
 have hbq : (List.length r + 1 == j) = false := by rw [beq_eq_false_iff_ne]; omega
 have hix := accO_ix (ty := T_s_string) (e := 1) (rows := rg.map eLS) (by rw [List.length_map]; omega)
 rw [VP3_fn C.h_z134]
 simp only [f_z134, mH_z134, go_sem, ↓reduceIte]
 refine (mk_Pick C l hl a ha _ _).mono ?_
 rintro _ _ ⟨k, rfl, hk, a, ha, rfl⟩
 by_cases c0 : (0 : Int) < d
 ·by_cases c3 : (3 : Int) < k
  ·have wd : IntKind.i64.wrap (((d : Nat) : Int) - 1) = ((d - 1 : Nat) : Int) := by rw [wrap_i64 (by omega) (by omega)]; omega
   by_cases c4 : (k : Int) = 4
   ·simp only [mH_z134, go_sem, ↓reduceIte, c0, c3, c4, wd]
    refine (ih (by omega) a ha j _ (hR _)).mono ?_
    rintro _ _ ⟨⟨row, rfl, g1⟩, a, ha, rfl⟩
    have g1' := g1
    cases g1 with
    | mk o1 t1 m1 n1 ks1 q1 z1 =>
    try simp only [mH_z134, go_sem, ↓reduceIte, wd, hbq]
    exact ⟨⟨_, rfl, .mk _ _ _ _ _ (by simp) (by intro x hx; rw [List.mem_singleton.1 hx]; exact g1')⟩, a, ha, rfl⟩
   ·simp only [mH_z134, go_sem, ↓reduceIte, c0, c3, c4, wd]
    refine (mk_Pick C l hl a ha _ _).mono ?_
    rintro _ _ ⟨k2, rfl, hk2, a, ha, rfl⟩
    try simp only [mH_z134, go_sem, ↓reduceIte, c0, c3, c4, wd]
    refine (ih (by omega) a ha j _ (hR _)).mono ?_
    rintro _ _ ⟨⟨row, rfl, g1⟩, a, ha, rfl⟩
    have g1' := g1
    cases g1 with
    | mk o1 t1 m1 n1 ks1 q1 z1 =>
    try simp only [mH_z134, go_sem, ↓reduceIte, wd, hbq]
    refine ⟨?_, ?_⟩
    ·obtain ⟨y0, r', hr', hr2⟩ := mask_two (args := [.p 1 0 0 0, vHp vals nl, .sl (j + 1 + 1) rg.length 0 rg.length, .i .i64 ((d - 1 : Nat) : Int)]) x0 (MO l a) (r ++ [some { ty := T_api_Cond, esz := 0, ver := 0, nl := false, rows := [[.i .i64 0, .i .i64 0, .s (bs []), .i .i64 0, .nl]] }, some { ty := T_api_Cond, esz := 0, ver := 0, nl := false, rows := [[.i .i64 o1, .i .i64 t1, .s m1, .i .i64 n1, .ls ks1]] }]) j rfl (by simp [refs])
     rw [hr']
     exact (ih (by omega) a ha j _ (hr2.trans (hR _))).to2
    refine (ih (by omega) a ha j _ (hR _)).mono ?_
    rintro _ _ ⟨⟨row, rfl, g2⟩, a, ha, rfl⟩
    have g2' := g2
    cases g2 with
    | mk o2 t2 m2 n2 ks2 q2 z2 =>
    try simp only [mH_z134, go_sem, ↓reduceIte, wd, hbq]
    exact ⟨⟨_, rfl, .mk _ _ _ _ _ (by simp) (by intro x hx; rcases List.mem_cons.1 hx with rfl | hx; exact g1'; rw [List.mem_singleton.1 hx]; exact g2')⟩, a, ha, rfl⟩
  ·simp only [mH_z134, go_sem, ↓reduceIte, c0, c3]
   refine (mk_Pick C l hl a ha _ _).mono ?_
   rintro _ _ ⟨t, rfl, ht, a, ha, rfl⟩
   have ht : t < rg.length := by have := ht (by omega); omega
   have hrt := getLS ht
   have ht' : (t : Int) < rg.length := by omega
   by_cases k0 : (0 : Int) < k
   ·by_cases z : (0 : Int) < (rg.getD t []).length
    ·try simp only [mH_z134, go_sem, ↓reduceIte, k0, hR, hrt, accO_ver, hix, ht', z, List.length_map, List.getElem?_map]
     refine ⟨by rw [(mask_head x0 (MO l a) _ rfl).choose_spec]; exact (mk_Pick C l hl a ha _ _).to2, ?_⟩
     refine (mk_Pick C l hl a ha _ _).mono ?_
     rintro _ _ ⟨q, rfl, hq, a, ha, rfl⟩
     have hq : q < (rg.getD t []).length := by have := hq (by omega); omega
     try simp only [mH_z134, go_sem, ↓reduceIte, k0, hR, hrt, accO_ver, hix, ht', z, List.length_map, List.getElem?_map, getS hq]
     refine ⟨by rw [(mask_head x0 (MO l a) _ rfl).choose_spec]; exact (mk_Pick C l hl a ha _ _).to2, ?_⟩
     refine (mk_Pick C l hl a ha _ _).mono ?_
     rintro _ _ ⟨n, rfl, hn, a, ha, rfl⟩
     try simp only [mH_z134, go_sem, ↓reduceIte, k0, hR, hrt, accO_ver, hix, ht', z, List.length_map, List.getElem?_map, getS hq]
     exact ⟨⟨_, rfl, .mk _ _ _ _ _ (by simp) (by simp)⟩, a, ha, rfl⟩
    ·try simp only [mH_z134, go_sem, ↓reduceIte, k0, hR, hrt, accO_ver, hix, ht', z, List.length_map, List.getElem?_map]
     refine (mk_Pick C l hl a ha _ _).mono ?_
     rintro _ _ ⟨i, rfl, hi, a, ha, rfl⟩
     have hi : i < 4 := by have := hi (by omega); omega
     try simp only [mH_z134, go_sem, ↓reduceIte, mk_Loc C i hi]
     refine (mk_Pick C l hl a ha _ _).mono ?_
     rintro _ _ ⟨n, rfl, hn, a, ha, rfl⟩
     try simp only [mH_z134, go_sem, ↓reduceIte, mk_Loc C i hi]
     exact ⟨⟨_, rfl, .mk _ _ _ _ _ (by simp) (by simp)⟩, a, ha, rfl⟩
   ·try simp only [mH_z134, go_sem, ↓reduceIte, k0]
    refine (mk_Pick C l hl a ha _ _).mono ?_
    rintro _ _ ⟨i, rfl, hi, a, ha, rfl⟩
    have hi : i < 4 := by have := hi (by omega); omega
    try simp only [mH_z134, go_sem, ↓reduceIte, mk_Loc C i hi]
    refine (mk_Pick C l hl a ha _ _).mono ?_
    rintro _ _ ⟨n, rfl, hn, a, ha, rfl⟩
    try simp only [mH_z134, go_sem, ↓reduceIte, mk_Loc C i hi]
    exact ⟨⟨_, rfl, .mk _ _ _ _ _ (by simp) (by simp)⟩, a, ha, rfl⟩
 ·simp only [mH_z134, go_sem, ↓reduceIte, c0]
  refine (mk_Pick C l hl a ha _ _).mono ?_
  rintro _ _ ⟨t, rfl, ht, a, ha, rfl⟩
  have ht : t < rg.length := by have := ht (by omega); omega
  have hrt := getLS ht
  have ht' : (t : Int) < rg.length := by omega
  by_cases k0 : (0 : Int) < k
  ·by_cases z : (0 : Int) < (rg.getD t []).length
   ·try simp only [mH_z134, go_sem, ↓reduceIte, k0, hR, hrt, accO_ver, hix, ht', z, List.length_map, List.getElem?_map]
    refine ⟨by rw [(mask_head x0 (MO l a) _ rfl).choose_spec]; exact (mk_Pick C l hl a ha _ _).to2, ?_⟩
    refine (mk_Pick C l hl a ha _ _).mono ?_
    rintro _ _ ⟨q, rfl, hq, a, ha, rfl⟩
    have hq : q < (rg.getD t []).length := by have := hq (by omega); omega
    try simp only [mH_z134, go_sem, ↓reduceIte, k0, hR, hrt, accO_ver, hix, ht', z, List.length_map, List.getElem?_map, getS hq]
    refine ⟨by rw [(mask_head x0 (MO l a) _ rfl).choose_spec]; exact (mk_Pick C l hl a ha _ _).to2, ?_⟩
    refine (mk_Pick C l hl a ha _ _).mono ?_
    rintro _ _ ⟨n, rfl, hn, a, ha, rfl⟩
    try simp only [mH_z134, go_sem, ↓reduceIte, k0, hR, hrt, accO_ver, hix, ht', z, List.length_map, List.getElem?_map, getS hq]
    exact ⟨⟨_, rfl, .mk _ _ _ _ _ (by simp) (by simp)⟩, a, ha, rfl⟩
   ·try simp only [mH_z134, go_sem, ↓reduceIte, k0, hR, hrt, accO_ver, hix, ht', z, List.length_map, List.getElem?_map]
    refine (mk_Pick C l hl a ha _ _).mono ?_
    rintro _ _ ⟨i, rfl, hi, a, ha, rfl⟩
    have hi : i < 4 := by have := hi (by omega); omega
    try simp only [mH_z134, go_sem, ↓reduceIte, mk_Loc C i hi]
    refine (mk_Pick C l hl a ha _ _).mono ?_
    rintro _ _ ⟨n, rfl, hn, a, ha, rfl⟩
    try simp only [mH_z134, go_sem, ↓reduceIte, mk_Loc C i hi]
    exact ⟨⟨_, rfl, .mk _ _ _ _ _ (by simp) (by simp)⟩, a, ha, rfl⟩
  ·try simp only [mH_z134, go_sem, ↓reduceIte, k0]
   refine (mk_Pick C l hl a ha _ _).mono ?_
   rintro _ _ ⟨i, rfl, hi, a, ha, rfl⟩
   have hi : i < 4 := by have := hi (by omega); omega
   try simp only [mH_z134, go_sem, ↓reduceIte, mk_Loc C i hi]
   refine (mk_Pick C l hl a ha _ _).mono ?_
   rintro _ _ ⟨n, rfl, hn, a, ha, rfl⟩
   try simp only [mH_z134, go_sem, ↓reduceIte, mk_Loc C i hi]
   exact ⟨⟨_, rfl, .mk _ _ _ _ _ (by simp) (by simp)⟩, a, ha, rfl⟩
theorem mk_cond (l : List U8) (hl : l.length ≤ 1000 ∧ ∀ x ∈ l, x.n < 256) (vals : Int) (hv : 1 ≤ vals ∧ vals ≤ 4) (nl : Nat) (hnl : 1 ≤ nl ∧ nl ≤ 4) (rg : List (List ByteArray)) (hrg : 1 ≤ rg.length ∧ rg.length ≤ 4) (d : Nat) : d ≤ 10 → ∀ (a : Nat) (ha : a ≤ l.length) (j : Nat) (r : VH) (hR : r[j]? = some (some (accO T_s_string 1 (rg.map eLS)))) {x0 : Option VO},
      VP3 V n_z134 [.p 1 0 0 0, vHp vals nl, .sl (j + 1 + 1) rg.length 0 rg.length, .i .i64 d] (x0 :: MO l a :: r) fun v h => isGC v ∧ MS x0 l r h := by
  induction d with
  | zero => exact fun _ => mk_cond_round C l hl vals hv nl hnl rg hrg 0 (by omega) (fun h => absurd h (by omega))
  | succ d ih => exact fun _ => mk_cond_round C l hl vals hv nl hnl rg hrg (d + 1) (by omega) (fun _ => ih (by omega))
end
end Go.AM

namespace Go.AM
open Go Go.Proofs
abbrev oPz : Option VO := some ⟨T_api_Prog, 0, 0, false, [[.s (bs []), .i .i64 0, .nl, .nl, .i .i64 0, .i .i64 0, .i .i64 0, .s (bs []), .i .i64 0, .nl]]⟩
abbrev oPr (n : Nat) (vals ask : Int) (vi vt : Nat) : Option VO := some ⟨T_api_Prog, 0, 0, false, [[.s (bs [109, 97, 100, 101]), .i .i64 vals, .sl (n + 2 + 1 + 1) vi 0 vi, .sl (n + 2 + 1 + 1 + 1) vt 0 vt, .i .i64 ask, .i .i64 0, .i .i64 0, .s (bs []), .i .i64 0, .sl (n + 2 + 1 + 1 + 1 + 1) 0 0 0]]⟩
/-- Locations that have come. -/
def LI (x0 : Option VO) (l : List U8) (vals ask : Int) (r : VH) (k : Nat) (h : VH) : Prop := ∃ (a : Nat) (ini : List (ByteArray × Int)), a ≤ l.length ∧ ini.length = k ∧ ini.map (·.1) = LocL k ∧ (∀ x ∈ ini, 0 ≤ x.2 ∧ x.2 < vals) ∧
 h = x0 :: MO l a :: (r ++ [oPz, oPr r.length vals ask k 0, some (accO T_api_Cell 2 (ini.map eCl)), some nilO, some nilO])
/-- Threads that have come. -/
def TI (x0 : Option VO) (l : List U8) (L : List ByteArray) (vals ask : Int) (nl : Nat) (ini : List (ByteArray × Int)) (r : VH) (k : Nat) (h : VH) : Prop := ∃ (a : Nat) (thr : List (List (List VV))) (rg : List (List ByteArray)), a ≤ l.length ∧ thr.length = k ∧ rg.length = k ∧ (∀ l ∈ thr, l.length ≤ 10 ∧ ∀ s ∈ l, GS L s) ∧ (∀ l ∈ rg, l.length ≤ 4) ∧
 h = x0 :: MO l a :: (r ++ [oPz, oPr r.length vals ask nl k, some (accO T_api_Cell 2 (ini.map eCl)), some (accO T_s_api_Stmt 1 (thr.map fun l => [.ls l])), some nilO, some (accO T_s_string 1 (rg.map eLS))])
theorem LocL_size {nl : Nat} (x : ByteArray) (h : x ∈ LocL nl) : x.size ≤ 1000 := by
 obtain ⟨k, _, rfl⟩ := List.mem_map.1 h
 rcases k with _ | _ | _ | k <;> (show (1 : Nat) ≤ 1000; decide)
theorem LocL_nd (nl : Nat) (h : nl ≤ 4) : (LocL nl).Nodup := by
 rcases (show nl = 0 ∨ nl = 1 ∨ nl = 2 ∨ nl = 3 ∨ nl = 4 by omega) with rfl | rfl | rfl | rfl | rfl <;> decide
theorem LocL_succ (k : Nat) : LocL (k + 1) = LocL k ++ [LocN k] := by unfold LocL; rw [List.range_succ, List.map_append]; rfl
section
variable {V : VProg} (C : VCode V) {Q : VV → Prop}
include C
set_option maxHeartbeats 8000000 in
theorem mk_prog (l : List U8) (hl : l.length ≤ 1000 ∧ ∀ x ∈ l, x.n < 256) (vals : Int) (hv : 2 ≤ vals ∧ vals ≤ 4) (nl : Nat) (hnl : 1 ≤ nl ∧ nl ≤ 4) (th most deep : Nat) (ht : 1 ≤ th ∧ th ≤ 4) (hm : most ≤ 9) (hd : deep ≤ 9) (a : Nat) (ha : a ≤ l.length) (r : VH) {x0 : Option VO} :
  VP3 V n_z86 [.p 1 0 0 0, vHp vals nl, .i .i64 th, .i .i64 most, .i .i64 deep] (x0 :: MO l a :: r) fun v h => (∃ p : PP, v = p.v ∧ GP2 p) ∧ MS x0 l r h := by
 rw [VP3_fn C.h_z86]
 simp only [f_z86, mH_z86, go_sem, ↓reduceIte]
 refine (mk_Pick C l hl a ha _ _).mono ?_
 rintro _ _ ⟨k, rfl, hk, a, ha, rfl⟩
 simp only [mH_z86, go_sem, ↓reduceIte, reserve, rgd, vrigid]
 generalize IntKind.i64.wrap (1 + ↑k) = ask
 refine vfor_rule (by decide) nl (by omega) (I := fun k F h => LI x0 l vals ask r k h ∧ VFr.tmp F 0 = .p 1 0 0 0 ∧ VFr.tmp F 2 = .i .i64 th ∧ VFr.tmp F 3 = .i .i64 most ∧ VFr.tmp F 4 = .i .i64 deep ∧ VFr.tmp F 6 = fHp vals nl ∧ VFr.tmp F 10 = .p (r.length + 1 + 1) 0 0 0 ∧ VFr.tmp F 11 = .p (r.length + 1 + 1 + 1) 0 0 0) ?_ ?_ ?_ 0 _ _ (Nat.zero_le _) ?_ ?_
 ·rintro k F h hk p12 ⟨h1, p0, p2, p3, p4, p6, p10, p11⟩
  simp only [mH_z86, go_sem, ↓reduceIte, p12, p0, p2, p3, p4, p6, p10, p11]
  exact h1
 ·rintro k F h hk p12 ⟨⟨a, ini, ha, hil, him, hiv, rfl⟩, p0, p2, p3, p4, p6, p10, p11⟩
  have b1 : (ini.length + 1) * 24 ≤ two47 := by unfold two47; omega
  subst hil
  simp only [l0_z86, mH_z86, go_sem, ↓reduceIte, p12, p0, p2, p3, p4, p6, p10, p11, mk_Loc C ini.length (by omega), rgd, vrigid, Vc_block]
  refine (mk_Pick C l hl a ha _ _).mono ?_
  rintro _ _ ⟨k1, rfl, hk1, a, ha, rfl⟩
  try simp only [mH_z86, go_sem, ↓reduceIte, p12, p0, p2, p3, p4, p6, p10, p11, rgd, vrigid]
  refine (mk_Pick C l hl a ha _ _).mono ?_
  rintro _ _ ⟨k2, rfl, hk2, a, ha, rfl⟩
  have hk1 := hk1 (by omega)
  have w1 : IntKind.i64.wrap (1 + (k2 : Int)) = 1 + (k2 : Int) := wrap_i64 (by omega) (by have := hk2 (by omega); omega)
  have hq1 : ((k1 : Int)).tmod (1 + (k2 : Int)) = ((k1 % (1 + k2) : Nat) : Int) := by rw [Int.tmod_eq_emod_of_nonneg (by omega), Int.natCast_emod, Int.natCast_add]; rfl
  have hq2 := Nat.mod_le k1 (1 + k2)
  try simp only [mH_z86, go_sem, ↓reduceIte, p12, p0, p2, p3, p4, p6, p10, p11, rgd, vrigid, w1, vbin_rem (show 1 + (k2 : Int) ≠ 0 by omega), hq1, b1]
  refine ⟨.inr ?_, ⟨a, ini ++ [(LocN ini.length, ((k1 % (1 + k2) : Nat) : Int))], ha, by simp, by rw [List.map_append, him, LocL_succ]; rfl, ?_, ?_⟩, ?_⟩
  ·rw [List.all_eq_true]
   intro x hx
   rcases List.mem_append.1 hx with hx | hx
   ·obtain ⟨y, _, rfl⟩ := List.mem_map.1 hx; rfl
   ·rw [List.mem_singleton.1 hx]; rfl
  ·intro x hx
   rcases List.mem_append.1 hx with hx | hx
   ·exact hiv x hx
   ·rw [List.mem_singleton.1 hx]; exact ⟨by show (0 : Int) ≤ _; omega, by show _ < vals; omega⟩
  ·rw [← accO_snocm, List.map_append]; rfl
  ·rw [show decide (List.length r + 1 + 1 < List.length r + 5 + 1 + 1) = true by rw [decide_eq_true_iff]; omega]; rfl
 ·rintro F h ⟨⟨a, ini, ha, hil, him, hiv, rfl⟩, p0, p2, p3, p4, p6, p10, p11⟩
  simp only [mH_z86, go_sem, ↓reduceIte, p0, p2, p3, p4, p6, p10, p11]
  refine vfor_rule (by decide) th (by omega) (I := fun k F h => TI x0 l (LocL nl) vals ask nl ini r k h ∧ VFr.tmp F 0 = .p 1 0 0 0 ∧ VFr.tmp F 2 = .i .i64 th ∧ VFr.tmp F 3 = .i .i64 most ∧ VFr.tmp F 4 = .i .i64 deep ∧ VFr.tmp F 6 = fHp vals nl ∧ VFr.tmp F 10 = .p (r.length + 1 + 1) 0 0 0 ∧ VFr.tmp F 11 = .p (r.length + 1 + 1 + 1) 0 0 0 ∧ VFr.tmp F 13 = .sl (r.length + 5 + 1 + 1) k 0 k) ?_ ?_ ?_ 0 _ _ (Nat.zero_le _) ?_ ?_
  ·rintro k F h hk p14 ⟨h1, p0, p2, p3, p4, p6, p10, p11, p13⟩
   simp only [mH_z86, go_sem, ↓reduceIte, p14, p0, p2, p3, p4, p6, p10, p11, p13]
   exact h1
  ·rintro k F h hk p14 ⟨⟨a, thr, rg, ha, htl, hrl, hth, hrg, rfl⟩, p0, p2, p3, p4, p6, p10, p11, p13⟩
   have b1 : (thr.length + 1) * 24 ≤ two47 := by unfold two47; omega
   have b2 : (rg.length + 1) * 24 ≤ two47 := by unfold two47; omega
   have w1 := vwrap (show most < 9223372036854775807 by omega)
   subst htl
   simp only [l2_z86, mH_z86, go_sem, ↓reduceIte, p14, p0, p2, p3, p4, p6, p10, p11, p13, w1, rgd, vrigid, Vc_block]
   refine (mk_Pick C l hl a ha _ _).mono ?_
   rintro _ _ ⟨k1, rfl, hk1, a, ha, rfl⟩
   have hk1 : k1 < most + 1 := by have := hk1 (by omega); omega
   try simp only [mH_z86, go_sem, ↓reduceIte, p14, p0, p2, p3, p4, p6, p10, p11, p13, rgd, vrigid]
   refine (mk_stmts C l hl vals (by omega) nl hnl deep (by omega) k1 (by omega) a ha _ KR.nil _).mono ?_
   rintro _ _ ⟨⟨rows, g, rfl, hrw, hgs, nm, hn1, hn2, rfl⟩, a, ha, rfl⟩
   try simp only [mH_z86, go_sem, ↓reduceIte, p14, p0, p2, p3, p4, p6, p10, p11, p13, rgd, vrigid, b1, b2, hrl]
   have d1 : decide (List.length r + 1 + 1 < List.length r + 6 + 1 + 1) = true := by rw [decide_eq_true_iff]; omega
   have d2 : decide (List.length r + 1 + 1 + 1 < List.length r + 6 + 1 + 1) = true := by rw [decide_eq_true_iff]; omega
   have d3 : decide (List.length r + 5 + 1 + 1 < List.length r + 6 + 1 + 1) = true := by rw [decide_eq_true_iff]; omega
   refine ⟨.inr ?_, .inr ?_, ⟨a, thr ++ [rows], rg ++ [nm], ha, by simp, by simp [hrl], ?_, ?_, ?_⟩, ?_⟩
   ·rw [List.all_eq_true]
    intro x hx
    rcases List.mem_append.1 hx with hx | hx
    ·obtain ⟨y, _, rfl⟩ := List.mem_map.1 hx; rfl
    ·rw [List.mem_singleton.1 hx]; rfl
   ·rw [List.all_eq_true]
    intro x hx
    rcases List.mem_append.1 hx with hx | hx
    ·obtain ⟨y, _, rfl⟩ := List.mem_map.1 hx; rfl
    ·rw [List.mem_singleton.1 hx]; rfl
   ·intro x hx
    rcases List.mem_append.1 hx with hx | hx
    ·exact hth x hx
    ·rw [List.mem_singleton.1 hx]; exact ⟨by omega, hgs⟩
   ·intro x hx
    rcases List.mem_append.1 hx with hx | hx
    ·exact hrg x hx
    ·rw [List.mem_singleton.1 hx]; exact nodup4 hn1 hn2
   ·rw [← accO_snocm, ← accO_snocm, List.map_append, List.map_append, hrl]; rfl
   ·simp only [d1, d2, d3, go_sem, clV, bel]
  ·rintro F h ⟨⟨a, thr, rg, ha, htl, hrl, hth, hrg, rfl⟩, p0, p2, p3, p4, p6, p10, p11, p13⟩
   subst hrl
   try simp only [mH_z86, go_sem, ↓reduceIte, p0, p2, p3, p4, p6, p10, p11, p13]
   refine (mk_cond C l hl vals (by omega) nl hnl rg (by omega) 2 (by omega) a ha (r.length + 5) _ (by rw [apgk]; rfl)).mono ?_
   rintro _ _ ⟨⟨row, rfl, g1⟩, a, ha, rfl⟩
   have g1' := g1
   cases g1 with
   | mk o1 t1 m1 n1 ks1 q1 z1 =>
   have f1 : ∀ (hh : VH) (d : Nat), mapO (fun row => mapO (frz hh (d + 1)) row) (ini.map eCl) = some (ini.map eCl, []) := fun hh d => mapO_self fun x hx => by obtain ⟨y, _, rfl⟩ := List.mem_map.1 hx; rfl
   have f2 : ∀ (hh : VH) (d : Nat), mapO (fun row => mapO (frz hh (d + 1)) row) (thr.map fun l => [VV.ls l]) = some (thr.map fun l => [VV.ls l], []) := fun hh d => mapO_self fun x hx => by obtain ⟨y, _, rfl⟩ := List.mem_map.1 hx; rfl
   try simp only [mH_z86, go_sem, ↓reduceIte, p0, p2, p3, p4, p6, p10, p11, p13, f1, f2, hil, htl]
   refine ⟨⟨⟨bs [109, 97, 100, 101], vals, ini, thr, ask, o1, t1, m1, n1, ks1⟩, by rw [List.take_of_length_le (by omega), List.take_of_length_le (by omega)], ?_⟩, a, ha, rfl⟩
   refine ⟨⟨by show (4 : Nat) ≤ 1000; decide, by show ini.length ≤ 1000; omega, fun x hx => ?_, by show thr.length ≤ 1000; omega, fun x hx => ?_, g1'⟩, hv.1, hv.2, by show ini.length ≤ 4; omega, by show (ini.map (·.1)).Nodup; rw [him]; exact LocL_nd _ hnl.2, hiv, by show 1 ≤ thr.length; omega, by show thr.length ≤ 4; omega⟩
   ·have : x.1 ∈ LocL nl := him ▸ List.mem_map.2 ⟨x, hx, rfl⟩
    exact LocL_size _ this
   ·have := hth x hx
    exact ⟨by omega, by show ∀ s ∈ x, GS (ini.map (·.1)) s; rw [him]; exact this.2⟩
  ·simp only [mH_z86, go_sem, ↓reduceIte, p0, p2, p3, p4, p6, p10, p11]
  ·simp only [mH_z86, go_sem, ↓reduceIte, p0, p2, p3, p4, p6, p10, p11]
   exact ⟨a, [], [], ha, rfl, rfl, by simp, by simp, rfl⟩
 ·simp only [mH_z86, go_sem, ↓reduceIte]
 ·simp only [mH_z86, go_sem, ↓reduceIte]
  exact ⟨a, [], ha, rfl, rfl, by simp, rfl⟩
end
end Go.AM

namespace Go.AM
open Go Go.Proofs
section
variable {V : VProg} (C : VCode V) {Q : VV → Prop}
include C
def isP (v : VV) : Prop := ∃ p : PP, v = p.v ∧ GP2 p
theorem mk_small (l : List U8) (hl : l.length ≤ 1000 ∧ ∀ x ∈ l, x.n < 256) (vals : Int) (hv : 2 ≤ vals ∧ vals ≤ 4) (nl : Nat) (hnl : 1 ≤ nl ∧ nl ≤ 4) (a : Nat) (ha : a ≤ l.length) (r : VH) {x0 : Option VO} :
  VP3 V n_z46 [.p 1 0 0 0, vHp vals nl] (x0 :: MO l a :: r) fun v h => isP v ∧ MS x0 l r h := by
 rw [VP3_fn C.h_z46]
 simp only [f_z46, mH_z46, go_sem, ↓reduceIte]
 refine (mk_Pick C l hl a ha _ _).mono ?_
 rintro _ _ ⟨k, rfl, hk, a, ha, rfl⟩
 by_cases k0 : (k : Int) = 0
 ·simp only [mH_z46, go_sem, ↓reduceIte, k0, Vc_block]
  refine (mk_prog C l hl vals hv nl hnl 1 3 1 (by omega) (by omega) (by omega) a ha _).mono ?_
  rintro _ _ ⟨⟨p, rfl, hp⟩, a, ha, rfl⟩
  try simp only [mH_z46, go_sem, ↓reduceIte, k0, Vc_block]
  exact ⟨⟨p, rfl, hp⟩, a, ha, rfl⟩
 by_cases k1 : (k : Int) = 1
 ·simp only [mH_z46, go_sem, ↓reduceIte, k0, k1, Vc_block]
  refine (mk_prog C l hl vals hv nl hnl 3 1 0 (by omega) (by omega) (by omega) a ha _).mono ?_
  rintro _ _ ⟨⟨p, rfl, hp⟩, a, ha, rfl⟩
  try simp only [mH_z46, go_sem, ↓reduceIte, k0, Vc_block]
  exact ⟨⟨p, rfl, hp⟩, a, ha, rfl⟩
 ·simp only [mH_z46, go_sem, ↓reduceIte, k0, k1, Vc_block]
  refine (mk_prog C l hl vals hv nl hnl 2 2 1 (by omega) (by omega) (by omega) a ha _).mono ?_
  rintro _ _ ⟨⟨p, rfl, hp⟩, a, ha, rfl⟩
  try simp only [mH_z46, go_sem, ↓reduceIte, k0, Vc_block]
  exact ⟨⟨p, rfl, hp⟩, a, ha, rfl⟩
theorem mk_Small (l : List U8) (hl : l.length ≤ 1000 ∧ ∀ x ∈ l, x.n < 256) (a : Nat) (ha : a ≤ l.length) (r : VH) {x0 : Option VO} :
  VP3 V n_z16 [.p 1 0 0 0] (x0 :: MO l a :: r) fun v h => isP v ∧ MS x0 l r h := by
 rw [VP3_fn C.h_z16]
 simp only [f_z16, mH_z16, go_sem, ↓reduceIte]
 refine (mk_Pick C l hl a ha _ _).mono ?_
 rintro _ _ ⟨k, rfl, hk, a, ha, rfl⟩
 have w1 : IntKind.i64.wrap (1 + (k : Int)) = ((1 + k : Nat) : Int) := by rw [wrap_i64 (by omega) (by have := hk (by omega); omega)]; omega
 simp only [mH_z16, go_sem, ↓reduceIte, w1]
 refine (mk_small C l hl 2 (by omega) (1 + k) (by have := hk (by omega); omega) a ha _).mono ?_
 rintro _ _ ⟨⟨p, rfl, hp⟩, a, ha, rfl⟩
 try simp only [mH_z16, go_sem, ↓reduceIte]
 exact ⟨⟨p, rfl, hp⟩, a, ha, rfl⟩
theorem mk_Made (l : List U8) (x0 : Option VO) {Q : VV → VH → Prop} (hq : Q (.p 1 0 0 0) [x0, MO l 0]) : VP2 V n_z15 [lU l] [x0] Q := by
 rw [VP2_fn C.h_z15]
 simp only [f_z15, mH_z15, go_sem, ↓reduceIte]
 exact hq
theorem mk_Tree (v : VV) (h : isP v) : VP V n_z14 [v] fun x => ∃ (t : Tree) (e : Bool), x = .tu [vT t, .b e] ∧ (e = true → TreeOk t) := by
 obtain ⟨p, rfl, hp⟩ := h
 rw [VP_fn C.c_z14.1 C.c_z14.2]
 obtain ⟨_, ⟨t, e, rfl, ht⟩, qb⟩ := VP_ex (ref12_Build_v C p hp)
 simp only [f_z14, m_z14, go_sem, ↓reduceIte, qb]
 exact ⟨t, _, rfl, fun h => ht (by simpa using h)⟩
theorem mk_SmallTree (l : List U8) (hl : l.length ≤ 1000 ∧ ∀ x ∈ l, x.n < 256) : VP V n_z1 [lU l] fun x => ∃ (t : Tree) (e : Bool), x = .tu [vT t, .b e] ∧ (e = true → TreeOk t ∧ t.nodes.length ≤ 30) := by
 rw [VP_fn C.c_z1.1 C.c_z1.2]
 simp only [f_z1, m_z1, go_sem, ↓reduceIte]
 refine mk_Made C l _ ?_
 refine (mk_Small C l hl 0 (by omega) []).mono ?_
 rintro _ _ ⟨⟨p, rfl, hp⟩, a, ha, rfl⟩
 obtain ⟨_, ⟨t, e, rfl, ht⟩, qt⟩ := VP_ex (mk_Tree C p.v ⟨p, rfl, hp⟩)
 cases e with
 | false =>
  simp only [m_z1, go_sem, ↓reduceIte, qt]
  exact ⟨t, false, rfl, fun h => absurd h (by simp)⟩
 | true =>
  simp only [m_z1, go_sem, ↓reduceIte, qt]
  refine ⟨t, _, rfl, fun h => ⟨ht rfl, ?_⟩⟩
  have := of_decide_eq_true h
  omega
end
end Go.AM

namespace Go.AM
open Go Go.Proofs
section
variable {V : VProg} (C : VCode V) {Q : VV → Prop}
include C
theorem made_Light_v (s : Shape) : VP V n_z4 [vSh s] fun x => ∃ b : Bool, x = .b b ∧ (b = true → SzS s) := by
 rw [VP_fn C.c_z4.1 C.c_z4.2]
 by_cases c1 : (40 : Int) < s.has.length
 ·simp only [f_z4, m_z4, go_sem, ↓reduceIte, c1]
 by_cases c2 : (40 : Int) < s.jf.length
 ·simp only [f_z4, m_z4, go_sem, ↓reduceIte, c1, c2]
 by_cases c3 : (6 : Int) < s.mo.length
 ·simp only [f_z4, m_z4, go_sem, ↓reduceIte, c1, c2, c3]
 simp only [f_z4, m_z4, go_sem, ↓reduceIte, c1, c2, c3]
 refine vfor_rule (by decide) s.mo.length (by omega) (I := fun k F h => h = [] ∧ VFr.tmp F 1 = .fp (eSh s) 0 ∧ ∀ j, j < k → (s.mo.getD j []).length ≤ 20 ∧ ∀ i, i < (s.mo.getD j []).length → ((s.mo.getD j []).getD i []).length ≤ 20) ?_ ?_ ?_ 0 _ _ (Nat.zero_le _) ?_ ?_
 ·rintro k F h hk p3 ⟨rfl, p1, p2⟩
  simp only [m_z4, go_sem, ↓reduceIte, p3, p1]
  exact p2
 ·rintro k F h hk p3 ⟨rfl, p1, p2⟩
  by_cases c4 : (20 : Int) < (s.mo.getD k []).length
  ·simp only [m_z4, go_sem, ↓reduceIte, p3, p1, getLLI hk, c4]
  ·simp only [m_z4, go_sem, ↓reduceIte, p3, p1, getLLI hk, c4]
   refine vfor_rule (by decide) (s.mo.getD k []).length (by omega) (I := fun i F h => h = [] ∧ VFr.tmp F 1 = .fp (eSh s) 0 ∧ VFr.tmp F 3 = .i .i64 k ∧ ∀ j, j < i → ((s.mo.getD k []).getD j []).length ≤ 20) ?_ ?_ ?_ 0 _ _ (Nat.zero_le _) ?_ ?_
   ·rintro i F h hi q4 ⟨rfl, q1, q3, q2⟩
    simp only [m_z4, go_sem, ↓reduceIte, q4, q1, q3, getLLI hk]
    exact q2
   ·rintro i F h hi q4 ⟨rfl, q1, q3, q2⟩
    by_cases c5 : (20 : Int) < ((s.mo.getD k []).getD i []).length
    ·simp only [m_z4, go_sem, ↓reduceIte, q4, q1, q3, getLLI hk, getLI hi, c5]
    ·simp only [m_z4, go_sem, ↓reduceIte, q4, q1, q3, getLLI hk, getLI hi, c5]
     intro j hj
     by_cases e : j = i
     ·subst e; omega
     ·exact q2 j (by omega)
   ·rintro F h ⟨rfl, q1, q3, q2⟩
    simp only [m_z4, go_sem, ↓reduceIte, q1, q3]
    intro j hj
    by_cases e : j = k
    ·subst e; exact ⟨by omega, q2⟩
    ·exact p2 j (by omega)
   ·simp only [m_z4, go_sem, ↓reduceIte, p3, p1]
   ·simp only [m_z4, go_sem, ↓reduceIte, p3, p1]
    intro j hj; omega
 ·rintro F h ⟨rfl, p1, p2⟩
  simp only [m_z4, go_sem, ↓reduceIte, p1]
  refine ⟨by omega, by omega, by omega, fun l hl => ?_, fun l hl c hc => ?_⟩
  ·obtain ⟨j, hj, rfl⟩ := List.mem_iff_getElem.1 hl
   have := (p2 j hj).1
   rw [List.getD_eq_getElem?_getD, List.getElem?_eq_getElem hj] at this
   exact Nat.le_trans this (by omega)
  ·obtain ⟨j, hj, rfl⟩ := List.mem_iff_getElem.1 hl
   obtain ⟨i, hi, rfl⟩ := List.mem_iff_getElem.1 hc
   have := (p2 j hj).2
   rw [List.getD_eq_getElem?_getD, List.getElem?_eq_getElem hj] at this
   have := this i hi
   rw [List.getD_eq_getElem?_getD, Option.getD_some, List.getElem?_eq_getElem hi] at this
   exact Nat.le_trans this (by omega)
 ·simp only [m_z4, go_sem, ↓reduceIte]
 ·simp only [m_z4, go_sem, ↓reduceIte]
  intro j hj; omega
end
end Go.AM

namespace Go.AM
open Go Go.Proofs
section
variable {V : VProg} (C : VCode V) {Q : VV → Prop}
include C
end
end Go.AM

namespace Go.AM
open Go Go.Proofs
theorem nodesF_node {t : Tree} {l : List Int} (h : nodesF t l = true) : ∀ n ∈ l, nodeF t n = true := by
 intro n hn
 obtain ⟨k, hk, rfl⟩ := List.mem_iff_getElem.1 hn
 simp only [nodesF, Bool.and_eq_true] at h
 have := all_range_iff.1 h.1 k hk
 simp only [nodeOkF, Bool.and_eq_true] at this
 have := this.1.1
 rw [List.getD_eq_getElem?_getD, List.getElem?_eq_getElem hk] at this
 exact this
theorem snocI {p : Nat → Bool} {k : Nat} (h : ∀ j, j < k → p j = true) (hk : p k = true) : ∀ j, j < k + 1 → p j = true := by
 intro j hj
 by_cases e : j = k
 ·subst e; exact hk
 ·exact h j (by omega)
theorem formF_f {t : Tree} {s : Shape} (h : nodesF t s.has = true → s.jf.length = s.has.length → s.mo.length = t.locs.length → (List.range s.has.length).all (jfOkF t s) = true → (List.range s.mo.length).all (moOkF t s) = true → (List.range s.has.length).all (onceF t s) = true → False) : false = formF t s := by
 rw [eq_comm, ← Bool.not_eq_true]
 intro e
 simp only [formF, Bool.and_eq_true, decide_eq_true_eq] at e
 exact h e.1.1.1.1.1 e.1.1.1.1.2 e.1.1.1.2 e.1.1.2 e.1.2 e.2
section
variable {V : VProg} (C : VCode V) {Q : VV → Prop}
include C
set_option maxHeartbeats 4000000 in
theorem ref17_Form_v (t : Tree) (ht : TreeOk t) (s : Shape) (hs : SzS s) : VP V n_z5 [vT t, vSh s] Q ↔ Q (.b (formF t s)) := by
 refine VP_eq ?_
 rw [VP_fn C.c_z5.1 C.c_z5.2]
 have hu := ht.up
 have hn := ht.n64
 have hh := hs.has
 have hj := hs.jf
 have hmo := hs.mo
 have s1 := fun (Q : VV → Prop) => ref17_nodes_v C t (by omega) s.has (by omega) (Q := Q)
 cases c1 : nodesF t s.has with
 | false =>
  simp only [f_z5, m_z5, go_sem, ↓reduceIte, s1, c1]
  exact formF_f fun h _ _ _ _ _ => by rw [c1] at h; cases h
 | true =>
 have hnode := nodesF_node c1
 by_cases c2 : ¬ s.jf.length = s.has.length
 ·have c2' : ¬ (s.jf.length : Int) = s.has.length := by omega
  simp only [f_z5, m_z5, go_sem, ↓reduceIte, s1, c1, c2']
  exact formF_f fun _ h _ _ _ _ => c2 h
 have c2 := Decidable.not_not.1 c2
 have c2' : (s.jf.length : Int) = s.has.length := by omega
 by_cases c3 : ¬ s.mo.length = t.locs.length
 ·have c3' : ¬ (s.mo.length : Int) = t.locs.length := by omega
  simp only [f_z5, m_z5, go_sem, ↓reduceIte, s1, c1, c2', c3']
  exact formF_f fun _ _ h _ _ _ => c3 h
 have c3 := Decidable.not_not.1 c3
 have c3' : (s.mo.length : Int) = t.locs.length := by omega
 simp only [f_z5, m_z5, go_sem, ↓reduceIte, s1, c1, c2', c3']
 refine vfor_rule (by decide) s.has.length (by omega) (I := fun k F h => h = [] ∧ VFr.tmp F 2 = .fp (eT t) 0 ∧ VFr.tmp F 3 = .fp (eSh s) 0 ∧ ∀ j, j < k → jfOkF t s j = true) ?_ ?_ ?_ 0 _ _ (Nat.zero_le _) ?_ ?_
 ·rintro k F h hk p5 ⟨rfl, p2, p3, p4⟩
  simp only [m_z5, go_sem, ↓reduceIte, p5, p2, p3]
  exact p4
 ·rintro k F h hk p5 ⟨rfl, p2, p3, p4⟩
  have hkj : k < s.jf.length := by omega
  obtain ⟨n, hn1, hn2⟩ := nodeF_nat (hnode _ (getD_mem' (d := 0) hk))
  have bad : jfOkF t s k = false → false = formF t s := fun h => formF_f fun _ _ _ h1 _ _ => by rw [all_range_f hk h] at h1; cases h1
  have hok : jfOkF t s k = if (t.at n).kind = 2 then inL s.has (s.jf.getD k 0) && isWF t (s.jf.getD k 0) (t.at n).loc && decide ((t.at (s.jf.getD k 0).toNat).val = (t.at n).val) else decide (s.jf.getD k 0 = -1) := by
   unfold jfOkF; rw [hn1, Int.toNat_natCast]
  by_cases k2 : (t.at n).kind = 2
  ·rw [if_pos k2] at hok
   cases w1 : inL s.has (s.jf.getD k 0) with
   | false =>
    simp only [m_z5, go_sem, ↓reduceIte, p5, p2, p3, getI hk, getI hkj, hn1, at_get hn2, k2, ref17_Where_v' C s.has (by omega), wIdx_lt, w1, Vc_block]
    exact bad (by rw [hok, w1]; rfl)
   | true =>
   obtain ⟨m, hm1, hm2⟩ := nodeF_nat (hnode _ (inL_iff.1 w1))
   have hok2 : jfOkF t s k = (decide ((t.at m).kind = 3) && decide ((t.at m).loc = (t.at n).loc) && decide ((t.at m).val = (t.at n).val)) := by
    rw [hok, w1]; unfold isWF; rw [hm1, Int.toNat_natCast, Bool.true_and]
   rw [hm1] at w1
   cases x1 : decide ((t.at m).kind = 3) with
   | false =>
    simp only [m_z5, go_sem, ↓reduceIte, p5, p2, p3, getI hk, getI hkj, hn1, hm1, at_get hn2, at_get hm2, k2, ref17_Where_v' C s.has (by omega), wIdx_lt, w1, x1, Vc_block]
    exact bad (by rw [hok2, x1]; rfl)
   | true =>
   cases x2 : decide ((t.at m).loc = (t.at n).loc) with
   | false =>
    simp only [m_z5, go_sem, ↓reduceIte, p5, p2, p3, getI hk, getI hkj, hn1, hm1, at_get hn2, at_get hm2, k2, ref17_Where_v' C s.has (by omega), wIdx_lt, w1, x1, x2, Vc_block]
    exact bad (by rw [hok2, x1, x2]; rfl)
   | true =>
   cases x3 : decide ((t.at m).val = (t.at n).val) with
   | false =>
    simp only [m_z5, go_sem, ↓reduceIte, p5, p2, p3, getI hk, getI hkj, hn1, hm1, at_get hn2, at_get hm2, k2, ref17_Where_v' C s.has (by omega), wIdx_lt, w1, x1, x2, x3, Vc_block]
    exact bad (by rw [hok2, x1, x2, x3]; rfl)
   | true =>
    simp only [m_z5, go_sem, ↓reduceIte, p5, p2, p3, getI hk, getI hkj, hn1, hm1, at_get hn2, at_get hm2, k2, ref17_Where_v' C s.has (by omega), wIdx_lt, w1, x1, x2, x3, Vc_block]
    exact snocI p4 (by rw [hok2, x1, x2, x3]; rfl)
  ·rw [if_neg k2] at hok
   cases w1 : decide (s.jf.getD k 0 = -1) with
   | false =>
    simp only [m_z5, go_sem, ↓reduceIte, p5, p2, p3, getI hk, getI hkj, hn1, at_get hn2, k2, w1, Vc_block]
    exact bad (by rw [hok, w1])
   | true =>
    simp only [m_z5, go_sem, ↓reduceIte, p5, p2, p3, getI hk, getI hkj, hn1, at_get hn2, k2, w1, Vc_block]
    exact snocI p4 (by rw [hok, w1])
 ·rintro F h ⟨rfl, p2, p3, p4⟩
  have f1 := all_range_t p4
  simp only [m_z5, go_sem, ↓reduceIte, p2, p3]
  refine vfor_rule (by decide) s.mo.length (by omega) (I := fun k F h => h = [] ∧ VFr.tmp F 2 = .fp (eT t) 0 ∧ VFr.tmp F 3 = .fp (eSh s) 0 ∧ ∀ j, j < k → moOkF t s j = true) ?_ ?_ ?_ 0 _ _ (Nat.zero_le _) ?_ ?_
  ·rintro k F h hk p8 ⟨rfl, p2, p3, p4⟩
   simp only [m_z5, go_sem, ↓reduceIte, p8, p2, p3]
   exact p4
  ·rintro k F h hk p8 ⟨rfl, p2, p3, p4⟩
   have hml := hs.mi' k
   have bad : moOkF t s k = false → false = formF t s := fun h => formF_f fun _ _ _ _ h1 _ => by rw [all_range_f hk h] at h1; cases h1
   by_cases z : (s.mo.getD k []).length = 0
   ·have z' : ((s.mo.getD k []).length : Int) = 0 := by omega
    simp only [m_z5, go_sem, ↓reduceIte, p8, p2, p3, getLLI hk, z', Vc_block]
    exact bad (by simp only [moOkF, z]; simp)
   have z' : ¬ ((s.mo.getD k []).length : Int) = 0 := by omega
   have z0 : 0 < (s.mo.getD k []).length := by omega
   by_cases z1 : ¬ ((s.mo.getD k []).getD 0 []).length = 1
   ·have z1' : ¬ (((s.mo.getD k []).getD 0 []).length : Int) = 1 := by omega
    simp only [m_z5, go_sem, ↓reduceIte, p8, p2, p3, getLLI hk, z', getLI z0, z1', Vc_block]
    have : decide ((s.mo.getD k []).getD 0 [] = [(k : Int)]) = false := decide_eq_false fun e => z1 (by rw [e]; rfl)
    exact bad (by simp only [moOkF, this, Bool.and_false, Bool.false_and])
   have z1 := Decidable.not_not.1 z1
   have z1' : (((s.mo.getD k []).getD 0 []).length : Int) = 1 := by omega
   have z2 : 0 < ((s.mo.getD k []).getD 0 []).length := by omega
   cases z3 : decide (((s.mo.getD k []).getD 0 []).getD 0 0 = k) with
   | false =>
    simp only [m_z5, go_sem, ↓reduceIte, p8, p2, p3, getLLI hk, z', getLI z0, z1', getI z2, z3, Vc_block]
    have : decide ((s.mo.getD k []).getD 0 [] = [(k : Int)]) = false := decide_eq_false fun e => by rw [e] at z3; simp at z3
    exact bad (by simp only [moOkF, this, Bool.and_false, Bool.false_and])
   | true =>
   have hmd : moOkF t s k = (List.range (s.mo.getD k []).length).all fun i => decide (i = 0) || classF t ((s.mo.getD k []).getD i []) s.has k := by
    have e1 : (s.mo.getD k []).getD 0 [] = [(k : Int)] := by
     have z3 := of_decide_eq_true z3
     generalize (s.mo.getD k []).getD 0 [] = c at *
     rcases c with _ | ⟨c0, _ | ⟨c1, c⟩⟩
     ·simp at z1
     ·simpa using z3
     ·simp at z1
    have : decide ((s.mo.getD k []).getD 0 [] = [(k : Int)]) = true := decide_eq_true e1
    simp only [moOkF, this, z, decide_false, Bool.not_false, Bool.true_and]
   simp only [m_z5, go_sem, ↓reduceIte, p8, p2, p3, getLLI hk, z', getLI z0, z1', getI z2, z3, Vc_block]
   refine vfor_rule (by decide) (s.mo.getD k []).length (by omega) (I := fun i F h => h = [] ∧ VFr.tmp F 2 = .fp (eT t) 0 ∧ VFr.tmp F 3 = .fp (eSh s) 0 ∧ VFr.tmp F 8 = .i .i64 k ∧ 1 ≤ i ∧ ∀ j, j < i → (decide (j = 0) || classF t ((s.mo.getD k []).getD j []) s.has k) = true) ?_ ?_ ?_ 1 _ _ (by omega) ?_ ?_
   ·rintro i F h hi q9 ⟨rfl, q2, q3, q8, q1, q4⟩
    simp only [m_z5, go_sem, ↓reduceIte, q9, q2, q3, q8, getLLI hk]
    exact ⟨q1, q4⟩
   ·rintro i F h hi q9 ⟨rfl, q2, q3, q8, q1, q4⟩
    have hmc := hs.mc' k i
    have s2 := fun (Q : VV → Prop) => ref17_class_v C t hu ((s.mo.getD k []).getD i []) s.has (by omega) (by omega) hnode k (Q := Q)
    cases c4 : classF t ((s.mo.getD k []).getD i []) s.has k with
    | false =>
     simp only [m_z5, go_sem, ↓reduceIte, q9, q2, q3, q8, getLLI hk, getLI hi, s2, c4, Vc_block]
     exact bad (by rw [hmd]; exact all_range_f hi (by rw [c4, decide_eq_false (by omega)]; rfl))
    | true =>
     simp only [m_z5, go_sem, ↓reduceIte, q9, q2, q3, q8, getLLI hk, getLI hi, s2, c4, Vc_block]
     exact snocI q4 (by rw [c4]; simp)
   ·rintro F h ⟨rfl, q2, q3, q8, q1, q4⟩
    simp only [m_z5, go_sem, ↓reduceIte, q2, q3, q8]
    exact snocI p4 (by rw [hmd]; exact all_range_t q4)
   ·simp only [m_z5, go_sem, ↓reduceIte, p2, p3, p8]
   ·simp only [m_z5, go_sem, ↓reduceIte, p2, p3, p8]
    intro j hj
    simp [show j = 0 by omega]
  ·rintro F h ⟨rfl, p2, p3, p4⟩
   have f2 := all_range_t p4
   simp only [m_z5, go_sem, ↓reduceIte, p2, p3]
   refine vfor_rule (by decide) s.has.length (by omega) (I := fun k F h => h = [] ∧ VFr.tmp F 2 = .fp (eT t) 0 ∧ VFr.tmp F 3 = .fp (eSh s) 0 ∧ ∀ j, j < k → onceF t s j = true) ?_ ?_ ?_ 0 _ _ (Nat.zero_le _) ?_ ?_
   ·rintro k F h hk p10 ⟨rfl, p2, p3, p4⟩
    simp only [m_z5, go_sem, ↓reduceIte, p10, p2, p3]
    exact p4
   ·rintro k F h hk p10 ⟨rfl, p2, p3, p4⟩
    obtain ⟨n, hn1, hn2⟩ := nodeF_nat (hnode _ (getD_mem' (d := 0) hk))
    have bad : onceF t s k = false → false = formF t s := fun h => formF_f fun _ _ _ _ _ h1 => by rw [all_range_f hk h] at h1; cases h1
    have hon : onceF t s k = (!decide ((t.at n).kind = 3) || decide (((s.mo.getD (t.at n).loc.toNat []).filter fun c => inL c (n : Int)).length = 1)) := by unfold onceF; rw [hn1, Int.toNat_natCast]
    cases k3 : decide ((t.at n).kind = 3) with
    | false =>
     simp only [m_z5, go_sem, ↓reduceIte, p10, p2, p3, getI hk, hn1, at_get hn2, k3, Vc_block]
     exact snocI p4 (by rw [hon, k3]; rfl)
    | true =>
    rw [k3, Bool.not_true, Bool.false_or] at hon
    obtain ⟨l1, l2⟩ := ht.wloc hn2 (.inr (of_decide_eq_true k3))
    obtain ⟨lc, hlc⟩ := Int.eq_ofNat_of_zero_le l1
    have hlk : lc < s.mo.length := by omega
    rw [hlc, Int.toNat_natCast] at hon
    simp only [m_z5, go_sem, ↓reduceIte, p10, p2, p3, getI hk, hn1, at_get hn2, k3, Vc_block]
    have hml := hs.mi' lc
    refine vfor_rule (by decide) (s.mo.getD lc []).length (by omega) (I := fun i F h => h = [some ⟨T_api_Node, 0, 0, false, [eN (t.at n)]⟩] ∧ VFr.tmp F 2 = .fp (eT t) 0 ∧ VFr.tmp F 3 = .fp (eSh s) 0 ∧ VFr.tmp F 10 = .i .i64 k ∧ VFr.tmp F 11 = .p 0 0 0 0 ∧ VFr.tmp F 12 = .i .i64 ((((s.mo.getD lc []).take i).filter fun c => inL c (n : Int)).length : Nat)) ?_ ?_ ?_ 0 _ _ (Nat.zero_le _) ?_ ?_
    ·rintro i F h hi q13 ⟨rfl, q2, q3, q10, q11, q12⟩
     simp only [m_z5, go_sem, ↓reduceIte, q13, q2, q3, q10, q11, q12, hlc, getLLI hlk]
    ·rintro i F h hi q13 ⟨rfl, q2, q3, q10, q11, q12⟩
     have hmc := hs.mc' lc i
     have s2 := fun (Q : VV → Prop) => ref17_Where_v' C ((s.mo.getD lc []).getD i []) (by omega) (n : Int) (Q := Q)
     have hst : (s.mo.getD lc []).take (i + 1) = (s.mo.getD lc []).take i ++ [(s.mo.getD lc []).getD i []] := by
      have e := List.take_succ_eq_append_getElem hi
      have e2 : (s.mo.getD lc []).getD i [] = (s.mo.getD lc [])[i] := by rw [List.getD_eq_getElem?_getD, List.getElem?_eq_getElem hi]; rfl
      rw [e2]; exact e
     cases c4 : inL ((s.mo.getD lc []).getD i []) (n : Int) with
     | false =>
      simp only [m_z5, go_sem, ↓reduceIte, q13, q2, q3, q10, q11, q12, hlc, getLLI hlk, getLI hi, getI hk, hn1, s2, wIdx_ge, c4, Vc_block]
      have e : [(s.mo.getD lc []).getD i []].filter (fun c => inL c (n : Int)) = [] := by rw [List.filter_cons, c4]; rfl
      rw [hst, List.filter_append, e, List.append_nil]
     | true =>
      have hle : (((s.mo.getD lc []).take i).filter fun c => inL c (n : Int)).length ≤ 1000 := Nat.le_trans (List.length_filter_le _ _) (by rw [List.length_take]; omega)
      have w1 := vwrap (show (((s.mo.getD lc []).take i).filter fun c => inL c (n : Int)).length < 9223372036854775807 by omega)
      simp only [m_z5, go_sem, ↓reduceIte, q13, q2, q3, q10, q11, q12, hlc, getLLI hlk, getLI hi, getI hk, hn1, s2, wIdx_ge, c4, w1, Vc_block]
      have e : [(s.mo.getD lc []).getD i []].filter (fun c => inL c (n : Int)) = [(s.mo.getD lc []).getD i []] := by rw [List.filter_cons, c4]; rfl
      rw [hst, List.filter_append, e, List.length_append]; rfl
    ·rintro F h ⟨rfl, q2, q3, q10, q11, q12⟩
     by_cases c5 : ((s.mo.getD lc []).filter fun c => inL c (n : Int)).length = 1
     ·simp only [m_z5, go_sem, ↓reduceIte, q2, q3, q10, q11, q12, List.take_length, c5]
      exact snocI p4 (by rw [hon, c5]; rfl)
     ·have c5' : decide ((((s.mo.getD lc []).filter fun c => inL c (n : Int)).length : Int) = 1) = false := decide_eq_false (by omega)
      simp only [m_z5, go_sem, ↓reduceIte, q2, q3, q10, q11, q12, List.take_length, c5']
      exact bad (by rw [hon]; exact decide_eq_false c5)
    ·simp only [m_z5, go_sem, ↓reduceIte, p2, p3, p10]
    ·simp only [m_z5, go_sem, ↓reduceIte, p2, p3, p10]
   ·rintro F h ⟨rfl, p2, p3, p4⟩
    have f3 := all_range_t p4
    simp only [m_z5, go_sem, ↓reduceIte, p2, p3]
    unfold formF
    rw [c1, decide_eq_true c2, decide_eq_true c3, f1, f2, f3]; rfl
   ·simp only [m_z5, go_sem, ↓reduceIte, p2, p3]
   ·simp only [m_z5, go_sem, ↓reduceIte, p2, p3]
    intro j hj; omega
  ·simp only [m_z5, go_sem, ↓reduceIte, p2, p3]
  ·simp only [m_z5, go_sem, ↓reduceIte, p2, p3]
   intro j hj; omega
 ·simp only [m_z5, go_sem, ↓reduceIte]
 ·simp only [m_z5, go_sem, ↓reduceIte]
  intro j hj; omega
end
end Go.AM

namespace Go.AM
open Go Go.Proofs
abbrev eD (t : Tree) : List VV := [.i .i64 t.vals, lS t.locs, .ls (t.regs.map eLS), .ls (t.nodes.map eN), lI (depL t), lW (ovrL t)]
abbrev vD (t : Tree) : VV := .ag (eD t)
theorem mn46 : min 4 6 = 4 := rfl
def hD (t : Tree) (k : Nat) : VH := [some ⟨T_tree_deep, 0, 0, false, [[.i .i64 0, .nl, .nl, .nl, .nl, .nl]]⟩,
 some ⟨T_int, 1, 0, false, (upTo t.nodes.length k (dep t) 0).map eI⟩, some ⟨T_uint64, 1, 0, false, (upTo t.nodes.length k (ovr t) 0#64).map eW⟩,
 some ⟨T_tree_deep, 0, 0, false, [[.i .i64 t.vals, lS t.locs, .ls (t.regs.map eLS), .ls (t.nodes.map eN), .sl 1 0 0 t.nodes.length, .sl 2 0 0 t.nodes.length]]⟩]
section
variable {V : VProg} (C : VCode V) {Q : VV → Prop}
include C
set_option maxHeartbeats 1000000 in
theorem tree_of_v (t : Tree) (ht : TreeOk t) : VP V n_z104 [vT t] Q ↔ Q (.tu [vD t, .b true]) := by
 refine VP_eq ?_
 rw [VP_fn C.c_z104.1 C.c_z104.2]
 have hn := ht.n64
 have hu := ht.up
 have b1 : t.nodes.length * 8 ≤ two47 := by unfold two47; omega
 have s1 := fun (Q : VV → Prop) => lts_May_v C t ht (Q := Q)
 simp only [f_z104, m_z104, go_sem, ↓reduceIte, s1, b1, Int.le_refl, mn46]
 refine vrange_rule (by decide) t.nodes.length (by omega) (I := fun k F h => VFr.tmp F 1 = .fp (eT t) 0 ∧ VFr.tmp F 2 = .p 0 0 0 0 ∧ VFr.tmp F 4 = .p 3 0 0 0 ∧ VFr.tmp F 22 = .ls (t.nodes.map eN) ∧ h = hD t k) ?_ ?_ 0 _ _ (by omega) ?_ ?_ ?_
 ·rintro k F h hk p24 p23 ⟨p1, p2, p4, p22, rfl⟩
  have huk := hu k hk
  by_cases c : 0 ≤ (t.at k).up
  ·obtain ⟨u, hu'⟩ := Int.eq_ofNat_of_zero_le c
   have huu : u < t.nodes.length := by omega
   have g1 := upTo_lt (n := t.nodes.length) (k := k) (j := u) (f := dep t) (z := (0 : Int)) (by omega) huu
   have g2 := upTo_lt (n := t.nodes.length) (k := k) (j := u) (f := ovr t) (z := 0#64) (by omega) huu
   have d1 := dep_le hu (u + 1) u (by omega) huu
   have wd : IntKind.i64.wrap (dep t u + 1) = dep t k := by rw [dep_up hu hk hu', wrap_i64 (by omega) (by omega)]
   have wo := (ovr_up hu hk hu').symm
   simp only [m_z104, go_sem, ↓reduceIte, p24, p23, p1, p2, p4, p22, hD, hk, at_get hk, c, hu', huu, g1, g2, bits_Put_v C, Vc_block, upTo_get hk, wd, wo]
   have e := upTo_set (n := t.nodes.length) (k := k) (f := dep t) (z := (0 : Int)) id
   rw [List.map_id, List.map_id] at e
   rw [show dep t k = id (dep t k) from rfl, e]
  ·simp only [m_z104, go_sem, ↓reduceIte, p24, p23, p1, p2, p4, p22, hD, hk, at_get hk, c, Vc_block]
   rw [upTo_skip (f := dep t) (dep_no (by omega)), upTo_skip (f := ovr t) (ovr_no (by omega))]
 ·rintro F h ⟨p1, p2, p4, p22, rfl⟩
  simp only [m_z104, go_sem, ↓reduceIte, p1, p2, p4, p22, hD]
  rw [upTo_all, upTo_all]; rfl
 ·simp only [m_z104, go_sem, ↓reduceIte]
 ·simp only [m_z104, go_sem, ↓reduceIte]
 ·simp only [m_z104, go_sem, ↓reduceIte]
  rw [hD, upTo_zero, upTo_zero]
theorem tree_start_v (t : Tree) {n : Nat} (hn : n < t.nodes.length) : VP V n_z113 [vD t, .i .i64 n] Q ↔ Q (.b (decide ((t.at n).up < 0))) := by
 refine VP_eq ?_
 rw [VP_fn C.c_z113.1 C.c_z113.2]
 simp only [f_z113, m_z113, go_sem, ↓reduceIte, at_get hn]
theorem tree_beneath_v (t : Tree) (ht : TreeOk t) {a b : Nat} (ha : a < t.nodes.length) (hb : b < t.nodes.length) : VP V n_z138 [vD t, .i .i64 a, .i .i64 b] Q ↔ Q (.b (beneathF t a b)) := by
 refine VP_eq ?_
 rw [VP_fn C.c_z138.1 C.c_z138.2]
 have e := deep_beneath ht.up ht.n64 ha hb
 cases c : decide (dep t a < dep t b) with
 | false =>
  simp only [f_z138, m_z138, go_sem, ↓reduceIte, depL_get ha, depL_get hb, c]
  rw [← e, c]; rfl
 | true =>
  simp only [f_z138, m_z138, go_sem, ↓reduceIte, depL_get ha, depL_get hb, ovrL_get hb, c, bits_Has_v C]
  rw [← e, c]; rfl
set_option maxHeartbeats 8000000 in
theorem tree_against_v (t : Tree) (ht : TreeOk t) {a b : Nat} (ha : a < t.nodes.length) (hb : b < t.nodes.length) : VP V n_z106 [vD t, .i .i64 a, .i .i64 b] Q ↔ Q (.b (againstF t a b)) := by
 refine VP_eq ?_
 rw [VP_fn C.c_z106.1 C.c_z106.2]
 have e : againstF t a b = (!decide ((a : Int) = b) && decide (0 ≤ (t.at a).thread) && decide ((t.at a).thread = (t.at b).thread) && !beneathF t a b && !beneathF t b a) := by
  unfold againstF; rw [nodeF_of ha, nodeF_of hb, Int.toNat_natCast, Int.toNat_natCast]; rfl
 cases c1 : decide ((a : Int) = b) <;> cases c2 : decide (0 ≤ (t.at a).thread) <;> cases c3 : decide ((t.at a).thread = (t.at b).thread) <;> cases c4 : beneathF t a b <;> cases c5 : beneathF t b a <;> rw [c1, c2, c3, c4, c5] at e <;>
  simp only [f_z106, m_z106, go_sem, ↓reduceIte, at_get ha, at_get hb, tree_beneath_v C t ht ha hb, tree_beneath_v C t ht hb ha, c1, c2, c3, c4, c5] <;> first | exact e.symm | (rw [e]; rfl)
theorem tree_Plain_v (n : Node) : VP V n_z115 [vN n] Q ↔ Q (.b (plainF n)) := by
 refine VP_eq ?_
 rw [VP_fn C.c_z115.1 C.c_z115.2]
 cases c1 : decide (n.kind = 3) <;> cases c2 : decide (0 ≤ n.thread) <;> cases c3 : decide (n.mode = 0) <;> cases c4 : n.rmw <;>
  simp only [f_z115, m_z115, go_sem, ↓reduceIte, c1, c2, c3, c4] <;> simp [plainF, c1, c2, c3, c4]
end
end Go.AM

namespace Go.AM
open Go Go.Proofs
theorem rowsW_bel (L : Nat) : ∀ (l : List (List VV)), (∀ r ∈ l, ∃ x, r = [vW x]) → l.all (belL L) = true := by
 intro l h
 rw [List.all_eq_true]
 intro r hr
 obtain ⟨x, rfl⟩ := h r hr
 rfl
theorem rowsW_set {l : List (BitVec 64)} {k : Nat} {x : BitVec 64} : ∀ r ∈ (l.map eW).set k [vW x], ∃ x, r = [vW x] := by
 intro r hr
 rcases List.mem_or_eq_of_mem_set hr with h | h
 ·obtain ⟨y, _, rfl⟩ := List.mem_map.1 h; exact ⟨y, rfl⟩
 ·exact ⟨x, h⟩
theorem rowsW_map {l : List (BitVec 64)} : ∀ r ∈ l.map eW, ∃ x, r = [vW x] := by
 intro r hr
 obtain ⟨y, _, rfl⟩ := List.mem_map.1 hr; exact ⟨y, rfl⟩
theorem setF_zero (p : Nat → Bool) : (setF fun b => decide (b < 0) && p b) = 0#64 := by
 rw [← setF_none]
 exact setF_congr fun j _ => by simp
theorem setF_succ {k : Nat} (hk : k < 64) (p : Nat → Bool) (h : p k = true) : (setF fun b => decide (b < k) && p b) ||| oneF k = setF fun b => decide (b < k + 1) && p b := by
 rw [setF_put _ k hk]
 refine setF_congr fun j _ => ?_
 by_cases e : j = k
 ·subst e; simp [h]
 ·have : (j < k + 1) ↔ (j < k) := by omega
  simp [e, this]
theorem setF_skip {k : Nat} (p : Nat → Bool) (h : p k = false) : (setF fun b => decide (b < k) && p b) = setF fun b => decide (b < k + 1) && p b := by
 refine setF_congr fun j _ => ?_
 by_cases e : j = k
 ·subst e; simp [h]
 ·have : (j < k + 1) ↔ (j < k) := by omega
  simp [this]
section
variable {V : VProg} (C : VCode V) {Q : VV → Prop}
include C
theorem tree_set_v (t : Tree) (hn : t.nodes.length ≤ 64) {gf : Nat} {a c : List VV} (ha : Fz a) (hc : Fz c) (p : Nat → Bool)
  (hp : ∀ (i : Nat), i < t.nodes.length → VP V gf (a ++ [.i .i64 (i : Nat)] ++ c) fun r => r = .b (p i)) :
  VP V n_z112 [vD t, .f gf a c] Q ↔ Q (vW (setF fun b => decide (b < t.nodes.length) && p b)) := by
 refine VP_eq ?_
 rw [VP_fn C.c_z112.1 C.c_z112.2]
 simp only [f_z112, m_z112, go_sem, ↓reduceIte, ha.call hc]
 refine vrange_rule (by decide) t.nodes.length (by omega) (I := fun k F h => VFr.tmp F 1 = .f gf a c ∧ VFr.tmp F 5 = vW (setF fun b => decide (b < k) && p b) ∧ h = []) ?_ ?_ 0 _ _ (by omega) ?_ ?_ ?_
 ·rintro k F h hk p11 p10 ⟨p1, p5, rfl⟩
  have hq := fun Q => VP_eq (hp k hk) (Q := Q)
  have hfz := ha.call hc (h := []) (x := [.i .i64 (k : Nat)]) rfl
  simp only [List.append_assoc, List.cons_append, List.nil_append] at hq hfz
  cases z : p k with
  | false =>
   simp only [m_z112, go_sem, ↓reduceIte, p11, p10, p1, p5, hfz, hq, Fz.bel ha, Fz.bel hc, Vc_block, z]
   rw [setF_skip p z]
  | true =>
   simp only [m_z112, go_sem, ↓reduceIte, p11, p10, p1, p5, hfz, hq, Fz.bel ha, Fz.bel hc, Vc_block, z, bits_Put_v C, setF_succ (show k < 64 by omega) p z]
 ·rintro F h ⟨p1, p5, rfl⟩
  simp only [m_z112, go_sem, ↓reduceIte, p1, p5]
 ·simp only [m_z112, go_sem, ↓reduceIte]
 ·simp only [m_z112, go_sem, ↓reduceIte]
 ·simp only [m_z112, go_sem, ↓reduceIte, setF_zero]
def hR (n k i : Nat) (p : Nat → Nat → Bool) : VH := [some ⟨T_uint64, 1, 0, false, ((upTo n k (fun x => setF fun b => decide (b < n) && p x b) 0#64).map eW).set k [vW (setF fun b => decide (b < i) && p k b)]⟩]
theorem tree_rows_v (t : Tree) (hn : t.nodes.length ≤ 64) {gf : Nat} {a c : List VV} (ha : Fz a) (hc : Fz c) (p : Nat → Nat → Bool)
  (hp : ∀ (i j : Nat), i < t.nodes.length → j < t.nodes.length → VP V gf (a ++ [.i .i64 (i : Nat), .i .i64 (j : Nat)] ++ c) fun r => r = .b (p i j)) :
  VP V n_z105 [vD t, .f gf a c] Q ↔ Q (lW (relL t.nodes.length p)) := by
 refine VP_eq ?_
 rw [VP_fn C.c_z105.1 C.c_z105.2]
 have b1 : t.nodes.length * 8 ≤ two47 := by unfold two47; omega
 simp only [f_z105, m_z105, go_sem, ↓reduceIte, ha.call hc, b1, Int.le_refl]
 refine vrange_rule (by decide) t.nodes.length (by omega) (I := fun k F h => VFr.tmp F 1 = .f gf a c ∧ VFr.tmp F 5 = .sl 0 0 0 t.nodes.length ∧ h = [some ⟨T_uint64, 1, 0, false, (upTo t.nodes.length k (fun x => setF fun b => decide (b < t.nodes.length) && p x b) 0#64).map eW⟩]) ?_ ?_ 0 _ _ (by omega) ?_ ?_ ?_
 ·rintro k F h hk p15 p14 ⟨p1, p5, rfl⟩
  simp only [m_z105, go_sem, ↓reduceIte, p15, p14, p1, p5, Vc_block]
  refine vrange_rule (by decide) t.nodes.length (by omega) (I := fun i F h => VFr.tmp F 1 = .f gf a c ∧ VFr.tmp F 5 = .sl 0 0 0 t.nodes.length ∧ VFr.tmp F 6 = .i .i64 k ∧ VFr.tmp F 15 = .i .i64 k ∧ VFr.tmp F 14 = .i .i64 t.nodes.length ∧ h = hR t.nodes.length k i p) ?_ ?_ 0 _ _ (by omega) ?_ ?_ ?_
  ·rintro i F h hi q20 q19 ⟨q1, q5, q6, q15, q14, rfl⟩
   have hq := fun Q => VP_eq (hp k i hk hi) (Q := Q)
   have hfz := ha.call hc (h := hR t.nodes.length k i p) (x := [.i .i64 (k : Nat), .i .i64 (i : Nat)]) rfl
   simp only [List.append_assoc, List.cons_append, List.nil_append] at hq hfz
   cases z : p k i with
   | false =>
    simp only [m_z105, go_sem, ↓reduceIte, q20, q19, q1, q5, q6, q15, q14, hfz, hq, Fz.bel ha, Fz.bel hc, Vc_block, z]
    refine ⟨rfl, ?_⟩
    rw [hR, hR, setF_skip (fun b => p k b) z]
   | true =>
    rw [hR] at hfz
    have hg : (((upTo t.nodes.length k (fun x => setF fun b => decide (b < t.nodes.length) && p x b) 0#64).map eW).set k [vW (setF fun b => decide (b < i) && p k b)])[k]? = some [vW (setF fun b => decide (b < i) && p k b)] := List.getElem?_set_self (by rw [List.length_map, upTo_len]; exact hk)
    simp only [m_z105, go_sem, ↓reduceIte, q20, q19, q1, q5, q6, q15, q14, hfz, hq, Fz.bel ha, Fz.bel hc, Vc_block, z, bits_Put_v C, hR, hk, hg, List.set_set, setF_succ (show i < 64 by omega) (fun b => p k b) z]
    exact .inr (rowsW_bel _ _ rowsW_set)
  ·rintro F h ⟨q1, q5, q6, q15, q14, rfl⟩
   simp only [m_z105, go_sem, ↓reduceIte, q1, q5, q6, q15, q14, Fz.bel ha, Fz.bel hc]
   have e : hR t.nodes.length k t.nodes.length p = [some ⟨T_uint64, 1, 0, false, (upTo t.nodes.length (k + 1) (fun x => setF fun b => decide (b < t.nodes.length) && p x b) 0#64).map eW⟩] := by rw [hR, upTo_set (f := fun x => setF fun b => decide (b < t.nodes.length) && p x b) eW]
   rw [e]
   exact ⟨⟨.inr (fun x hx => by cases hx; exact rowsW_bel _ _ rowsW_map), trivial⟩, rfl⟩
  ·simp only [m_z105, go_sem, ↓reduceIte, p1, p5, p15, p14]
  ·simp only [m_z105, go_sem, ↓reduceIte, p1, p5, p15, p14]
  ·simp only [m_z105, go_sem, ↓reduceIte, p1, p5, p15, p14, Fz.bel ha, Fz.bel hc]
   rw [hR, setF_zero]
   have e : ((upTo t.nodes.length k (fun x => setF fun b => decide (b < t.nodes.length) && p x b) 0#64).map eW).set k [vW 0#64] = (upTo t.nodes.length k (fun x => setF fun b => decide (b < t.nodes.length) && p x b) 0#64).map eW := by
    have g : ((upTo t.nodes.length k (fun x => setF fun b => decide (b < t.nodes.length) && p x b) 0#64).map eW)[k]? = some [vW 0#64] := by rw [List.getElem?_map, upTo_get hk]; rfl
    obtain ⟨g1, g2⟩ := List.getElem?_eq_some_iff.1 g
    rw [← g2, List.set_getElem_self]
   rw [e]
 ·rintro F h ⟨p1, p5, rfl⟩
  simp only [m_z105, go_sem, ↓reduceIte, p1, p5, upTo_all]
  rfl
 ·simp only [m_z105, go_sem, ↓reduceIte]
 ·simp only [m_z105, go_sem, ↓reduceIte]
 ·simp only [m_z105, go_sem, ↓reduceIte, upTo_zero]
theorem fzD (t : Tree) : Fz [vD t] := fun _ _ => rfl
theorem tree_Conflict_v (t : Tree) (ht : TreeOk t) : VP V n_z63 [vT t] Q ↔ Q (lW (relL t.nodes.length fun a b => againstF t a b)) := by
 refine VP_eq ?_
 rw [VP_fn C.c_z63.1 C.c_z63.2]
 have s1 := fun (Q : VV → Prop) => tree_of_v C t ht (Q := Q)
 have s2 := fun (Q : VV → Prop) => tree_rows_v C t ht.n64 (gf := n_z106) (fzD C t) Fz.nil (fun a b => againstF t a b) (fun i j hi hj => (tree_against_v C t ht hi hj).2 rfl) (Q := Q)
 simp only [f_z63, m_z63, go_sem, ↓reduceIte, s1, s2]
theorem tree_Inits_v (t : Tree) (ht : TreeOk t) : VP V n_z72 [vT t] Q ↔ Q (vW (initsF t)) := by
 refine VP_eq ?_
 rw [VP_fn C.c_z72.1 C.c_z72.2]
 have s1 := fun (Q : VV → Prop) => tree_of_v C t ht (Q := Q)
 have s2 := fun (Q : VV → Prop) => tree_set_v C t ht.n64 (gf := n_z113) (fzD C t) Fz.nil (fun a => decide ((t.at a).up < 0)) (fun i hi => (tree_start_v C t hi).2 rfl) (Q := Q)
 simp only [f_z72, m_z72, go_sem, ↓reduceIte, s1, s2]
 rfl
end
end Go.AM

namespace Go.AM
open Go Go.Proofs
def nw (n : Nat) : AV := .i .u64 (n : Int)
theorem nw_shr {e : Option Eq0} (n k m : Nat) (h : k < 64) (hm : 2 ^ k = m) : binV .shr e (nw n) (.i .u64 k) = some (nw (n / m)) := by
 have := binW_shr (e := e) (a := BitVec.ofNat 64 n) h
 have h0 : ¬ ((k : Int) < 0) := by omega
 simp only [nw, binV, binShift, if_neg h0, IntKind.bits, Option.some.injEq, AV.i.injEq, true_and, Int.toNat_natCast]
 rw [Nat.min_eq_left (by omega)]
 rw [show ((2 : Int) ^ k) = ((2 ^ k : Nat) : Int) by simp, Int.fdiv_eq_ediv_of_nonneg _ (Int.natCast_nonneg _), hm]
 rfl
theorem nw_and {e : Option Eq0} (n m : Nat) (hn : n < 18446744073709551616) (hm : m < 18446744073709551616) : binV .and e (nw n) (nw m) = some (nw (n &&& m)) := by
 have h := binW_and (e := e) (a := BitVec.ofNat 64 n) (b := BitVec.ofNat 64 m)
 have e1 : Wd (BitVec.ofNat 64 n) = nw n := by unfold Wd nw; rw [BitVec.toNat_ofNat, Nat.mod_eq_of_lt hn]
 have e2 : Wd (BitVec.ofNat 64 m) = nw m := by unfold Wd nw; rw [BitVec.toNat_ofNat, Nat.mod_eq_of_lt hm]
 rw [e1, e2] at h
 rw [h]
 congr 1
 unfold Wd nw
 rw [BitVec.toNat_and, BitVec.toNat_ofNat, BitVec.toNat_ofNat, Nat.mod_eq_of_lt hn, Nat.mod_eq_of_lt hm]
theorem nw_add {e : Option Eq0} (n m : Nat) (h : n + m < 18446744073709551616) : binV .add e (nw n) (nw m) = some (nw (n + m)) := by
 simp only [nw, binV, binI, if_true, wrap_u64, Option.some.injEq, AV.i.injEq, true_and]
 omega
def wv (n : Nat) : VV := .i .u64 (n : Int)
theorem wv_bin {op : BinOp} {e : Option Eq0} {a b c : Nat} (h : binV op e (nw a) (nw b) = some (nw c)) : vbin op e (wv a) (wv b) = some (wv c) := by
 show (binV op e (nw a) (nw b)).bind ofSc = _
 rw [h]; rfl
section
variable {V : VProg} (C : VCode V) {Q : VV → Prop}
include C
set_option maxHeartbeats 2000000 in
theorem OnesCount64_v (w : BitVec 64) : VP V n_z119 [vW w] Q ↔ Q (.i .i64 ((listN w).length : Nat)) := by
 refine VP_eq ?_
 rw [VP_fn C.c_z119.1 C.c_z119.2]
 have hw : vW w = wv w.toNat := rfl
 have hx := w.isLt
 obtain ⟨l1, l2, l3, l4, l5, l6, l7⟩ := s_lt hx
 have hp := popc_list w
 rw [hw]
 generalize w.toNat = x at *
 have c0 : VV.i .u64 6148914691236517205 = wv 6148914691236517205 := rfl
 have c1 : VV.i .u64 3689348814741910323 = wv 3689348814741910323 := rfl
 have c2 : VV.i .u64 1085102592571150095 = wv 1085102592571150095 := rfl
 have k2 : VV.i .u64 2 = wv 2 := rfl
 have k4 : VV.i .u64 4 = wv 4 := rfl
 have k8 : VV.i .u64 8 = wv 8 := rfl
 have k16 : VV.i .u64 16 = wv 16 := rfl
 have k32 : VV.i .u64 32 = wv 32 := rfl
 have k1 : vW 1#64 = wv 1 := rfl
 have t1 : ∀ e n, vbin .shr e (wv n) (wv 1) = some (wv (n / 2)) := fun e n => wv_bin (nw_shr n 1 2 (by omega) rfl)
 have t2 : ∀ e n, vbin .shr e (wv n) (wv 2) = some (wv (n / 4)) := fun e n => wv_bin (nw_shr n 2 4 (by omega) rfl)
 have t4 : ∀ e n, vbin .shr e (wv n) (wv 4) = some (wv (n / 16)) := fun e n => wv_bin (nw_shr n 4 16 (by omega) rfl)
 have t8 : ∀ e n, vbin .shr e (wv n) (wv 8) = some (wv (n / 256)) := fun e n => wv_bin (nw_shr n 8 256 (by omega) rfl)
 have t16 : ∀ e n, vbin .shr e (wv n) (wv 16) = some (wv (n / 65536)) := fun e n => wv_bin (nw_shr n 16 65536 (by omega) rfl)
 have t32 : ∀ e n, vbin .shr e (wv n) (wv 32) = some (wv (n / 4294967296)) := fun e n => wv_bin (nw_shr n 32 4294967296 (by omega) rfl)
 have b1 : ∀ e, vbin .and e (wv (x / 2)) (wv 6148914691236517205) = some (wv (x / 2 &&& 6148914691236517205)) := fun e => wv_bin (nw_and _ _ (by omega) (by omega))
 have b2 : ∀ e, vbin .and e (wv x) (wv 6148914691236517205) = some (wv (x &&& 6148914691236517205)) := fun e => wv_bin (nw_and _ _ (by omega) (by omega))
 have b3 : ∀ e, vbin .add e (wv (x / 2 &&& 6148914691236517205)) (wv (x &&& 6148914691236517205)) = some (wv (s1 x)) := fun e => wv_bin (nw_add _ _ l1)
 generalize hy1 : s1 x = y1 at *
 have d1 : ∀ e, vbin .and e (wv (y1 / 4)) (wv 3689348814741910323) = some (wv (y1 / 4 &&& 3689348814741910323)) := fun e => wv_bin (nw_and _ _ (by omega) (by omega))
 have d2 : ∀ e, vbin .and e (wv y1) (wv 3689348814741910323) = some (wv (y1 &&& 3689348814741910323)) := fun e => wv_bin (nw_and _ _ (by omega) (by omega))
 have d3 : ∀ e, vbin .add e (wv (y1 / 4 &&& 3689348814741910323)) (wv (y1 &&& 3689348814741910323)) = some (wv (s2 y1)) := fun e => wv_bin (nw_add _ _ l2)
 generalize hy2 : s2 y1 = y2 at *
 have f1 : ∀ e, vbin .add e (wv (y2 / 16)) (wv y2) = some (wv (y2 / 16 + y2)) := fun e => wv_bin (nw_add _ _ l3)
 have f2 : ∀ e, vbin .and e (wv (y2 / 16 + y2)) (wv 1085102592571150095) = some (wv (s3 y2)) := fun e => wv_bin (nw_and _ _ l3 (by omega))
 generalize hy3 : s3 y2 = y3 at *
 have g1 : ∀ e, vbin .add e (wv y3) (wv (y3 / 256)) = some (wv (s4 y3)) := fun e => wv_bin (nw_add _ _ l5)
 generalize hy4 : s4 y3 = y4 at *
 have g2 : ∀ e, vbin .add e (wv y4) (wv (y4 / 65536)) = some (wv (s5 y4)) := fun e => wv_bin (nw_add _ _ l6)
 generalize hy5 : s5 y4 = y5 at *
 have g3 : ∀ e, vbin .add e (wv y5) (wv (y5 / 4294967296)) = some (wv (s6 y5)) := fun e => wv_bin (nw_add _ _ (by have : s6 y5 = y5 + y5 / 4294967296 := rfl; omega))
 generalize hy6 : s6 y5 = y6 at *
 have g4 : ∀ e, vbin .and e (.i .i64 (IntKind.i64.wrap (y6 : Int))) (.i .i64 127) = some (.i .i64 ((y6 % 128 : Nat) : Int)) := by
  intro e
  rw [wrap_i64 (by omega) (by omega)]
  have w2 : (BitVec.ofInt 64 (y6 : Int)).toNat = y6 := by
   rw [BitVec.ofInt_natCast, BitVec.toNat_ofNat]
   exact Nat.mod_eq_of_lt (by omega)
  have w3 : (BitVec.ofInt 64 127).toNat = 127 := rfl
  have w4 : y6 &&& 127 = y6 % 128 := Nat.and_two_pow_sub_one_eq_mod y6 7
  have w5 : (BitVec.ofInt 64 (y6 : Int) &&& BitVec.ofInt 64 127).toNat = y6 % 128 := by
   rw [BitVec.toNat_and, w2, w3, w4]
  have h : binV .and e (.i .i64 (y6 : Int)) (.i .i64 127) = some (.i .i64 ((y6 % 128 : Nat) : Int)) := by
   simp only [binV, binI, if_true, Option.some.injEq, AV.i.injEq, true_and]
   show IntKind.i64.wrap (((BitVec.ofInt 64 (y6 : Int) &&& BitVec.ofInt 64 127).toNat : Nat) : Int) = _
   rw [w5, wrap_i64 (by omega) (by omega)]
  show (binV .and e (.i .i64 (y6 : Int)) (.i .i64 127)).bind ofSc = _
  rw [h]; rfl
 have hcv : ∀ h, convV .i64 (wv y6) h = some (.i .i64 (IntKind.i64.wrap (y6 : Int)), h) := fun _ => rfl
 simp only [f_z119, m_z119, go_sem, ↓reduceIte, c0, c1, c2, k1, k2, k4, k8, k16, k32, t1, t2, t4, t8, t16, t32, b1, b2, b3, d1, d2, d3, f1, f2, g1, g2, g3, hcv, g4, hp]
theorem bits_Count_v (w : BitVec 64) : VP V n_z81 [vW w] Q ↔ Q (.i .i64 ((listN w).length : Nat)) := by
 refine VP_eq ?_
 rw [VP_fn C.c_z81.1 C.c_z81.2]
 simp only [f_z81, m_z81, go_sem, ↓reduceIte, OnesCount64_v C]
end
end Go.AM

namespace Go.AM
open Go Go.Proofs
abbrev cfL (t : Tree) : Rows := relL t.nodes.length fun a b => againstF t a b
abbrev eFm (t : Tree) (s : Shape) : List VV := [.i .i64 t.vals, lS t.locs, .ls (t.regs.map eLS), .ls (t.nodes.map eN), lI s.has, lI s.jf, .ls (s.mo.map eLLI), vW (ofF s.has), lW (cfL t)]
theorem mn47 : min 4 9 = 4 := rfl
theorem mn3 : min 3 5 = 3 := rfl
section
variable {V : VProg} (C : VCode V) {Q : VV → Prop}
include C
theorem shape_of_v (t : Tree) (ht : TreeOk t) (s : Shape) (hs : SzS s) : VP V n_z34 [vT t, vSh s] Q ↔ Q (.fp (eFm t s) 0) := by
 refine VP_eq ?_
 rw [VP_fn C.c_z34.1 C.c_z34.2]
 have hh := hs.has
 have s1 := fun (Q : VV → Prop) => tree_Conflict_v C t ht (Q := Q)
 simp only [f_z34, m_z34, go_sem, ↓reduceIte, s1, bits_Of_v C s.has (by omega), mn47, mn3]
theorem shape_write_v (t : Tree) (ht : TreeOk t) (s : Shape) (hn : NodeL t s.has) (n loc : Int) : VP V n_z74 [.fp (eFm t s) 0, .i .i64 n, .i .i64 loc] Q ↔ Q (.b (writeF t s.has n loc)) := by
 refine VP_eq ?_
 rw [VP_fn C.c_z74.1 C.c_z74.2]
 have h64 := ht.n64
 cases c1 : inL s.has n with
 | false =>
  simp only [f_z74, m_z74, go_sem, ↓reduceIte, bits_Has_v C, hn.has h64, c1]
  simp [writeF, c1]
 | true =>
  obtain ⟨m, rfl, hm⟩ := nodeF_nat (hn n (inL_iff.1 c1))
  have e : writeF t s.has m loc = (decide ((t.at m).kind = 3) && decide ((t.at m).loc = loc)) := by
   unfold writeF isWF; rw [c1, Int.toNat_natCast, Bool.true_and]
  cases c2 : decide ((t.at m).kind = 3) <;> cases c3 : decide ((t.at m).loc = loc) <;> rw [c2, c3] at e <;>
   simp only [f_z74, m_z74, go_sem, ↓reduceIte, bits_Has_v C, hn.has h64, c1, at_get hm, c2, c3] <;> first | exact e.symm | (rw [e]; rfl)
set_option maxHeartbeats 4000000 in
theorem shape_equal_v (t : Tree) (ht : TreeOk t) (s : Shape) (n : Nat) (hn : n < t.nodes.length) (l : List Int) (hl : l.length ≤ 1000) (hv : NodeL t l) : VP V n_z75 [.fp (eFm t s) 0, .i .i64 n, lI l] Q ↔ Q (.b (l.all fun m => sameClassF t n m)) := by
 refine VP_eq ?_
 rw [VP_fn C.c_z75.1 C.c_z75.2]
 have h64 := ht.n64
 simp only [f_z75, m_z75, go_sem, ↓reduceIte]
 refine vrange_rule (by decide) l.length (by omega) (I := fun k F h => VFr.tmp F 0 = .fp (eFm t s) 0 ∧ VFr.tmp F 1 = .i .i64 n ∧ VFr.tmp F 11 = lI l ∧ h = [] ∧ ∀ (j : Nat) (hj : j < l.length), j < k → sameClassF t n l[j] = true) ?_ ?_ 0 _ _ (by omega) ?_ ?_ ?_
 ·rintro k F h hk p13 p12 ⟨p0, p1, p11, rfl, p2⟩
  obtain ⟨m, hm1, hm⟩ := nodeF_nat (hv l[k] (List.getElem_mem hk))
  have hgk : l[k]? = some (m : Int) := by rw [List.getElem?_eq_getElem hk, hm1]
  have e : sameClassF t n m = (plainF (t.at n) && plainF (t.at m) && decide ((t.at n).val = (t.at m).val) && againstF t n m) := by
   unfold sameClassF; rw [Int.toNat_natCast, Int.toNat_natCast]
  have hcf : (cfL t)[n]? = some (setF fun b => decide (b < t.nodes.length) && againstF t n b) := relL_get hn
  have hhas : hasF (setF fun b => decide (b < t.nodes.length) && againstF t n b) (m : Int) = againstF t n m := by
   have := relL_has (p := fun a b => againstF t a b) h64 hn hm
   rw [List.getD_eq_getElem?_getD, relL_get hn, Option.getD_some] at this
   exact this
  have bad : sameClassF t n m = false → false = l.all fun m => sameClassF t n m := fun h => by
   rw [eq_comm, List.all_eq_false]
   exact ⟨l[k], List.getElem_mem hk, by rw [hm1, h]; simp⟩
  have good : sameClassF t n m = true → ∀ (j : Nat) (hj : j < l.length), j < k + 1 → sameClassF t n l[j] = true := fun h j hj hjk => by
   by_cases e : j = k
   ·subst e; rw [hm1]; exact h
   ·exact p2 j hj (by omega)
  cases c1 : plainF (t.at n) with
  | false =>
   simp only [m_z75, go_sem, ↓reduceIte, p13, p12, p0, p1, p11, hk, hgk, at_get hn, at_get hm, tree_Plain_v C, c1, Vc_block]
   exact bad (by rw [e, c1]; rfl)
  | true =>
  cases c2 : plainF (t.at m) with
  | false =>
   simp only [m_z75, go_sem, ↓reduceIte, p13, p12, p0, p1, p11, hk, hgk, at_get hn, at_get hm, tree_Plain_v C, c1, c2, Vc_block]
   exact bad (by rw [e, c1, c2]; rfl)
  | true =>
  cases c3 : decide ((t.at n).val = (t.at m).val) with
  | false =>
   simp only [m_z75, go_sem, ↓reduceIte, p13, p12, p0, p1, p11, hk, hgk, at_get hn, at_get hm, tree_Plain_v C, c1, c2, c3, Vc_block]
   exact bad (by rw [e, c1, c2, c3]; rfl)
  | true =>
  cases c4 : againstF t n m with
  | false =>
   simp only [m_z75, go_sem, ↓reduceIte, p13, p12, p0, p1, p11, hk, hgk, at_get hn, at_get hm, tree_Plain_v C, c1, c2, c3, hcf, bits_Has_v C, hhas, c4, Vc_block]
   exact bad (by rw [e, c1, c2, c3, c4]; rfl)
  | true =>
   simp only [m_z75, go_sem, ↓reduceIte, p13, p12, p0, p1, p11, hk, hgk, at_get hn, at_get hm, tree_Plain_v C, c1, c2, c3, hcf, bits_Has_v C, hhas, c4, Vc_block]
   exact good (by rw [e, c1, c2, c3, c4]; rfl)
 ·rintro F h ⟨p0, p1, p11, rfl, p2⟩
  simp only [m_z75, go_sem, ↓reduceIte, p0, p1, p11]
  rw [eq_comm, List.all_eq_true]
  intro x hx
  obtain ⟨j, hj, rfl⟩ := List.mem_iff_getElem.1 hx
  exact p2 j hj hj
 ·simp only [m_z75, go_sem, ↓reduceIte]
 ·simp only [m_z75, go_sem, ↓reduceIte]
 ·simp only [m_z75, go_sem, ↓reduceIte]
  intro j hj hjk; omega
end
end Go.AM

namespace Go.AM
open Go Go.Proofs
section
variable {V : VProg} (C : VCode V) {Q : VV → Prop}
include C
set_option maxHeartbeats 4000000 in
theorem shape_class_v (t : Tree) (ht : TreeOk t) (s : Shape) (hn : NodeL t s.has) (l : List Int) (hl : l.length ≤ 1000) (loc : Int) : VP V n_z80 [.fp (eFm t s) 0, lI l, .i .i64 loc] Q ↔ Q (.b (classS t l s.has loc)) := by
 refine VP_eq ?_
 rw [VP_fn C.c_z80.1 C.c_z80.2]
 have h64 := ht.n64
 simp only [f_z80, m_z80, go_sem, ↓reduceIte]
 refine vrange_rule (by decide) l.length (by omega) (I := fun k F h => VFr.tmp F 0 = .fp (eFm t s) 0 ∧ VFr.tmp F 1 = lI l ∧ VFr.tmp F 2 = .i .i64 loc ∧ VFr.tmp F 9 = lI l ∧ h = [] ∧ ∀ j, j < k → classAtS t l s.has loc j = true) ?_ ?_ 0 _ _ (by omega) ?_ ?_ ?_
 ·rintro k F h hk p11 p10 ⟨p0, p1, p2, p9, rfl, p3⟩
  have bad : classAtS t l s.has loc k = false → false = classS t l s.has loc := fun h => by rw [classS, all_range_f hk h]; rfl
  have hw := fun (n loc : Int) (Q : VV → Prop) => shape_write_v C t ht s hn n loc (Q := Q)
  cases c1 : writeF t s.has (l.getD k 0) loc with
  | false =>
   simp only [m_z80, go_sem, ↓reduceIte, p11, p10, p0, p1, p2, p9, getI hk, hk, hw, c1, Vc_block]
   exact bad (by rw [classAtS, c1]; rfl)
  | true =>
  have c1' : inL s.has (l.getD k 0) = true := by simp only [writeF, Bool.and_eq_true] at c1; exact c1.1
  obtain ⟨m, hm1, hm⟩ := nodeF_nat (hn _ (inL_iff.1 c1'))
  have e0 : classAtS t l s.has loc k = (decide (0 ≤ (t.at m).thread) && risF l k && (!decide (1 < l.length) || plainF (t.at m)) && (decide (k = 0) || (l.take k).all fun x => sameClassF t m x)) := by
   unfold classAtS; rw [c1, hm1, Int.toNat_natCast]; rfl
  have hris : risF l k = (decide (k = 0) || decide (l.getD (k - 1) 0 < (m : Int))) := by rw [risF, hm1]
  rw [hm1] at c1
  cases c2 : decide ((t.at m).thread < 0) with
  | true =>
   simp only [m_z80, go_sem, ↓reduceIte, p11, p10, p0, p1, p2, p9, getI hk, hk, hw, c1, Vc_block, hm1, at_get hm, c2]
   have : decide (0 ≤ (t.at m).thread) = false := by have := of_decide_eq_true c2; exact decide_eq_false (by omega)
   exact bad (by rw [e0, this]; rfl)
  | false =>
  have c2' : decide (0 ≤ (t.at m).thread) = true := by have := of_decide_eq_false c2; exact decide_eq_true (by omega)
  rw [c2', Bool.true_and] at e0
  have pl : ∀ b, decide ((1 : Int) < l.length) = b → decide (1 < l.length) = b := fun b h => by rw [← h]; congr 1; exact propext ⟨fun h => by omega, fun h => by omega⟩
  by_cases z : k = 0
  ·subst z
   have r0 : risF l 0 = true := by rw [hris]; rfl
   rw [r0, Bool.true_and] at e0
   cases c5 : decide ((1 : Int) < l.length) with
   | false =>
    rw [pl _ c5] at e0
    simp only [m_z80, go_sem, ↓reduceIte, p11, p10, p0, p1, p2, p9, getI hk, hk, hw, c1, Vc_block, hm1, at_get hm, c2, c5, dz0]
    exact snocI p3 (by rw [e0]; rfl)
   | true =>
    rw [pl _ c5] at e0
    cases c6 : plainF (t.at m) with
    | false =>
     simp only [m_z80, go_sem, ↓reduceIte, p11, p10, p0, p1, p2, p9, getI hk, hk, hw, c1, Vc_block, hm1, at_get hm, c2, c5, c6, dz0, tree_Plain_v C]
     exact bad (by rw [e0, c6]; rfl)
    | true =>
     simp only [m_z80, go_sem, ↓reduceIte, p11, p10, p0, p1, p2, p9, getI hk, hk, hw, c1, Vc_block, hm1, at_get hm, c2, c5, c6, dz0, tree_Plain_v C]
     exact snocI p3 (by rw [e0, c6]; rfl)
  ·have z0 : decide ((0 : Int) < (k : Int)) = true := decide_eq_true (by omega)
   have hk1 : k - 1 < l.length := by omega
   have zw := vwrap_pred (show 0 < k by omega) (by omega)
   have hl1 : decide ((1 : Int) < l.length) = true := decide_eq_true (by omega)
   rw [pl _ hl1, decide_eq_false z, Bool.false_or] at e0
   rw [decide_eq_false z, Bool.false_or] at hris
   have hvk : NodeL t (l.take k) := by
    intro x hx
    obtain ⟨j, hj, rfl⟩ := List.mem_iff_getElem.1 hx
    rw [List.length_take] at hj
    rw [List.getElem_take]
    have := p3 j (by omega)
    simp only [classAtS, writeF, Bool.and_eq_true] at this
    have := hn _ (inL_iff.1 this.1.1.1.1.1)
    rw [List.getD_eq_getElem?_getD, List.getElem?_eq_getElem (by omega)] at this
    exact this
   have hkl : k ≤ l.length := by omega
   have heq := fun (Q : VV → Prop) => shape_equal_v C t ht s m hm (l.take k) (by rw [List.length_take]; omega) hvk (Q := Q)
   cases c4 : decide ((m : Int) ≤ l.getD (k - 1) 0) with
   | true =>
    have r1 : risF l k = false := by rw [hris]; have := of_decide_eq_true c4; exact decide_eq_false (by omega)
    simp only [m_z80, go_sem, ↓reduceIte, p11, p10, p0, p1, p2, p9, getI hk, getI hk1, hk, hw, c1, Vc_block, hm1, at_get hm, c2, z0, zw, c4]
    exact bad (by rw [e0, r1]; rfl)
   | false =>
    have r1 : risF l k = true := by rw [hris]; have := of_decide_eq_false c4; exact decide_eq_true (by omega)
    rw [r1, Bool.true_and] at e0
    cases c6 : plainF (t.at m) with
    | false =>
     simp only [m_z80, go_sem, ↓reduceIte, p11, p10, p0, p1, p2, p9, getI hk, getI hk1, hk, hw, c1, Vc_block, hm1, at_get hm, c2, z0, zw, c4, hl1, c6, tree_Plain_v C]
     exact bad (by rw [e0, c6]; rfl)
    | true =>
     rw [c6, Bool.or_true, Bool.true_and] at e0
     cases c7 : (l.take k).all fun x => sameClassF t m x with
     | false =>
      simp only [m_z80, go_sem, ↓reduceIte, p11, p10, p0, p1, p2, p9, getI hk, getI hk1, hk, hw, c1, Vc_block, hm1, at_get hm, c2, z0, zw, c4, hl1, c6, tree_Plain_v C, heq, c7, hkl]
      exact bad (by rw [e0]; exact c7)
     | true =>
      simp only [m_z80, go_sem, ↓reduceIte, p11, p10, p0, p1, p2, p9, getI hk, getI hk1, hk, hw, c1, Vc_block, hm1, at_get hm, c2, z0, zw, c4, hl1, c6, tree_Plain_v C, heq, c7, hkl]
      exact snocI p3 (by rw [e0]; exact c7)
 ·rintro F h ⟨p0, p1, p2, p9, rfl, p3⟩
  simp only [m_z80, go_sem, ↓reduceIte, p0, p1, p2, p9]
  rw [classS, all_range_t p3]
  simp
 ·simp only [m_z80, go_sem, ↓reduceIte]
 ·simp only [m_z80, go_sem, ↓reduceIte]
 ·simp only [m_z80, go_sem, ↓reduceIte]
  intro j hj; omega
set_option maxHeartbeats 4000000 in
theorem shape_nodes_v (t : Tree) (ht : TreeOk t) (s : Shape) (hs : SzS s) : VP V n_z35 [.fp (eFm t s) 0] Q ↔ Q (.b (nodesF t s.has)) := by
 refine VP_eq ?_
 rw [VP_fn C.c_z35.1 C.c_z35.2]
 have h64 := ht.n64
 have hh := hs.has
 generalize hl : s.has = l at *
 simp only [f_z35, m_z35, go_sem, ↓reduceIte, hl]
 refine vrange_rule (by decide) l.length (by omega) (I := fun k F h => VFr.tmp F 0 = .fp (eFm t s) 0 ∧ VFr.tmp F 10 = lI l ∧ h = [] ∧ ∀ j, j < k → nodeOkF t l j = true) ?_ ?_ 0 _ _ (by omega) ?_ ?_ ?_
 ·rintro k F h hk p12 p11 ⟨p0, p10, rfl, p3⟩
  have bad : nodeOkF t l k = false → false = nodesF t l := fun h => by rw [nodesF, all_range_f hk h]; rfl
  cases c0 : nodeF t (l.getD k 0) with
  | false =>
   have cc : decide (l.getD k 0 < 0) = true ∨ (decide (l.getD k 0 < 0) = false ∧ decide ((t.nodes.length : Int) ≤ l.getD k 0) = true) := by
    simp only [nodeF, Bool.and_eq_false_iff, decide_eq_false_iff_not] at c0
    by_cases d : l.getD k 0 < 0
    ·exact .inl (decide_eq_true d)
    ·exact .inr ⟨decide_eq_false d, decide_eq_true (by omega)⟩
   rcases cc with cc | ⟨cc, cc2⟩
   ·simp only [m_z35, go_sem, ↓reduceIte, p12, p11, p0, p10, getI hk, hk, cc, Vc_block, hl]
    exact bad (by rw [nodeOkF, c0]; rfl)
   ·simp only [m_z35, go_sem, ↓reduceIte, p12, p11, p0, p10, getI hk, hk, cc, cc2, Vc_block, hl]
    exact bad (by rw [nodeOkF, c0]; rfl)
  | true =>
  obtain ⟨m, hm1, hm⟩ := nodeF_nat c0
  have q1 : decide ((m : Int) < 0) = false := decide_eq_false (by omega)
  have q2 : decide ((t.nodes.length : Int) ≤ m) = false := decide_eq_false (by omega)
  have q3 : decide (t.nodes.length ≤ m) = false := decide_eq_false (by omega)
  have hup := ht.up m hm
  have e0 : nodeOkF t l k = (risF l k && (decide ((t.at m).up < 0) || inL l (t.at m).up)) := by
   unfold nodeOkF; rw [c0, hm1, Int.toNat_natCast, Bool.true_and]
  have hris : risF l k = (decide (k = 0) || decide (l.getD (k - 1) 0 < (m : Int))) := by rw [risF, hm1]
  have upc : (decide (0 ≤ (t.at m).up) = true ∧ decide ((t.at m).up < 0) = false ∧ hasF (ofF l) (t.at m).up = inL l (t.at m).up) ∨ (decide (0 ≤ (t.at m).up) = false ∧ decide ((t.at m).up < 0) = true) := by
   by_cases d : 0 ≤ (t.at m).up
   ·exact .inl ⟨decide_eq_true d, decide_eq_false (by omega), ofF_has l d (by omega)⟩
   ·exact .inr ⟨decide_eq_false d, decide_eq_true (by omega)⟩
  have zc : (decide ((0 : Int) < (k : Int)) = false ∧ risF l k = true) ∨ (decide ((0 : Int) < (k : Int)) = true ∧ 0 < k ∧ risF l k = decide (l.getD (k - 1) 0 < (m : Int))) := by
   by_cases z : k = 0
   ·subst z; exact .inl ⟨rfl, by rw [hris]; rfl⟩
   ·exact .inr ⟨decide_eq_true (by omega), by omega, by rw [hris, decide_eq_false z, Bool.false_or]⟩
  rcases zc with ⟨z0, r1⟩ | ⟨z0, zp, r0⟩
  ·rw [r1, Bool.true_and] at e0
   rcases upc with ⟨u1, u2, u3⟩ | ⟨u1, u2⟩
   ·rw [u2, Bool.false_or] at e0
    cases c5 : inL l (t.at m).up with
    | false =>
     simp only [m_z35, go_sem, ↓reduceIte, p12, p11, p0, p10, getI hk, hk, hm1, q1, q2, q3, z0, at_get hm, u1, u3, c5, Vc_block, bits_Has_v C, hl]
     exact bad (by rw [e0, c5])
    | true =>
     simp only [m_z35, go_sem, ↓reduceIte, p12, p11, p0, p10, getI hk, hk, hm1, q1, q2, q3, z0, at_get hm, u1, u3, c5, Vc_block, bits_Has_v C, hl]
     exact snocI p3 (by rw [e0, c5])
   ·simp only [m_z35, go_sem, ↓reduceIte, p12, p11, p0, p10, getI hk, hk, hm1, q1, q2, q3, z0, at_get hm, u1, Vc_block, bits_Has_v C, hl]
    exact snocI p3 (by rw [e0, u2]; rfl)
  ·have hk1 : k - 1 < l.length := by omega
   have zw := vwrap_pred zp (by omega)
   cases c4 : decide ((m : Int) ≤ l.getD (k - 1) 0) with
   | true =>
    have r1 : risF l k = false := by rw [r0]; have := of_decide_eq_true c4; exact decide_eq_false (by omega)
    simp only [m_z35, go_sem, ↓reduceIte, p12, p11, p0, p10, getI hk, getI hk1, hk, hm1, q1, q2, q3, z0, zw, c4, Vc_block, hl]
    exact bad (by rw [e0, r1]; rfl)
   | false =>
    have r1 : risF l k = true := by rw [r0]; have := of_decide_eq_false c4; exact decide_eq_true (by omega)
    rw [r1, Bool.true_and] at e0
    rcases upc with ⟨u1, u2, u3⟩ | ⟨u1, u2⟩
    ·rw [u2, Bool.false_or] at e0
     cases c5 : inL l (t.at m).up with
     | false =>
      simp only [m_z35, go_sem, ↓reduceIte, p12, p11, p0, p10, getI hk, getI hk1, hk, hm1, q1, q2, q3, z0, zw, c4, at_get hm, u1, u3, c5, Vc_block, bits_Has_v C, hl]
      exact bad (by rw [e0, c5])
     | true =>
      simp only [m_z35, go_sem, ↓reduceIte, p12, p11, p0, p10, getI hk, getI hk1, hk, hm1, q1, q2, q3, z0, zw, c4, at_get hm, u1, u3, c5, Vc_block, bits_Has_v C, hl]
      exact snocI p3 (by rw [e0, c5])
    ·simp only [m_z35, go_sem, ↓reduceIte, p12, p11, p0, p10, getI hk, getI hk1, hk, hm1, q1, q2, q3, z0, zw, c4, at_get hm, u1, Vc_block, bits_Has_v C, hl]
     exact snocI p3 (by rw [e0, u2]; rfl)
 ·rintro F h ⟨p0, p10, rfl, p3⟩
  have s1 := fun (Q : VV → Prop) => tree_Inits_v C t ht (Q := Q)
  simp only [m_z35, go_sem, ↓reduceIte, p0, p10, s1, bits_Within_v C, hl]
  rw [nodesF, all_range_t p3, within_eq, Bool.true_and]
 ·simp only [m_z35, go_sem, ↓reduceIte, hl]
 ·simp only [m_z35, go_sem, ↓reduceIte, hl]
 ·simp only [m_z35, go_sem, ↓reduceIte, hl]
  intro j hj; omega
end
end Go.AM

namespace Go.AM
open Go Go.Proofs
section
variable {V : VProg} (C : VCode V) {Q : VV → Prop}
include C
set_option maxHeartbeats 4000000 in
theorem shape_justified_v (t : Tree) (ht : TreeOk t) (s : Shape) (hs : SzS s) (hn : NodeL t s.has) : VP V n_z36 [.fp (eFm t s) 0] Q ↔ Q (.b (justF t s)) := by
 refine VP_eq ?_
 rw [VP_fn C.c_z36.1 C.c_z36.2]
 have h64 := ht.n64
 have hh := hs.has
 by_cases c2 : ¬ s.jf.length = s.has.length
 ·have c2' : ¬ (s.jf.length : Int) = s.has.length := by omega
  simp only [f_z36, m_z36, go_sem, ↓reduceIte, c2']
  rw [justF, decide_eq_false c2]; rfl
 have c2 := Decidable.not_not.1 c2
 have c2' : (s.jf.length : Int) = s.has.length := by omega
 simp only [f_z36, m_z36, go_sem, ↓reduceIte, c2']
 refine vrange_rule (by decide) s.has.length (by omega) (I := fun k F h => VFr.tmp F 0 = .fp (eFm t s) 0 ∧ VFr.tmp F 24 = lI s.has ∧ h = [] ∧ ∀ j, j < k → jfOkF t s j = true) ?_ ?_ 0 _ _ (by omega) ?_ ?_ ?_
 ·rintro k F h hk p26 p25 ⟨p0, p24, rfl, p3⟩
  have bad : jfOkF t s k = false → false = justF t s := fun h => by rw [justF, all_range_f hk h, Bool.and_false]
  have hkj : k < s.jf.length := by omega
  have hw := fun (n loc : Int) (Q : VV → Prop) => shape_write_v C t ht s hn n loc (Q := Q)
  obtain ⟨n, hn1, hn2⟩ := nodeF_nat (hn _ (getD_mem' (d := 0) hk))
  have hok : jfOkF t s k = if (t.at n).kind = 2 then inL s.has (s.jf.getD k 0) && isWF t (s.jf.getD k 0) (t.at n).loc && decide ((t.at (s.jf.getD k 0).toNat).val = (t.at n).val) else decide (s.jf.getD k 0 = -1) := by
   unfold jfOkF; rw [hn1, Int.toNat_natCast]
  by_cases k2 : (t.at n).kind = 2
  ·rw [if_pos k2] at hok
   cases w1 : writeF t s.has (s.jf.getD k 0) (t.at n).loc with
   | false =>
    simp only [m_z36, go_sem, ↓reduceIte, p26, p25, p0, p24, getI hk, hk, getI hkj, hkj, hn1, at_get hn2, k2, hw, w1, Vc_block]
    exact bad (by rw [hok, show (inL s.has (s.jf.getD k 0) && isWF t (s.jf.getD k 0) (t.at n).loc) = writeF t s.has (s.jf.getD k 0) (t.at n).loc from rfl, w1]; rfl)
   | true =>
   have w2 : inL s.has (s.jf.getD k 0) = true := by simp only [writeF, Bool.and_eq_true] at w1; exact w1.1
   obtain ⟨m, hm1, hm2⟩ := nodeF_nat (hn _ (inL_iff.1 w2))
   have hok2 : jfOkF t s k = decide ((t.at m).val = (t.at n).val) := by
    rw [hok, show (inL s.has (s.jf.getD k 0) && isWF t (s.jf.getD k 0) (t.at n).loc) = writeF t s.has (s.jf.getD k 0) (t.at n).loc from rfl, w1, hm1, Int.toNat_natCast, Bool.true_and]
   rw [hm1] at w1
   cases x3 : decide ((t.at m).val = (t.at n).val) with
   | false =>
    simp only [m_z36, go_sem, ↓reduceIte, p26, p25, p0, p24, getI hk, hk, getI hkj, hkj, hn1, at_get hn2, k2, hw, w1, hm1, at_get hm2, x3, Vc_block]
    exact bad (by rw [hok2, x3])
   | true =>
    simp only [m_z36, go_sem, ↓reduceIte, p26, p25, p0, p24, getI hk, hk, getI hkj, hkj, hn1, at_get hn2, k2, hw, w1, hm1, at_get hm2, x3, Vc_block]
    exact snocI p3 (by rw [hok2, x3])
  ·rw [if_neg k2] at hok
   cases w1 : decide (s.jf.getD k 0 = -1) with
   | false =>
    simp only [m_z36, go_sem, ↓reduceIte, p26, p25, p0, p24, getI hk, hk, getI hkj, hkj, hn1, at_get hn2, k2, w1, Vc_block]
    exact bad (by rw [hok, w1])
   | true =>
    simp only [m_z36, go_sem, ↓reduceIte, p26, p25, p0, p24, getI hk, hk, getI hkj, hkj, hn1, at_get hn2, k2, w1, Vc_block]
    exact snocI p3 (by rw [hok, w1])
 ·rintro F h ⟨p0, p24, rfl, p3⟩
  simp only [m_z36, go_sem, ↓reduceIte, p0, p24]
  rw [justF, decide_eq_true c2, all_range_t p3]; rfl
 ·simp only [m_z36, go_sem, ↓reduceIte]
 ·simp only [m_z36, go_sem, ↓reduceIte]
 ·simp only [m_z36, go_sem, ↓reduceIte]
  intro j hj; omega
end
end Go.AM

namespace Go.AM
open Go Go.Proofs
abbrev hAl (i : Nat) (l : List Int) : VH := [some ⟨T_int, 1, i, false, l.map eI⟩]
theorem flat_le : ∀ (l : List (List Int)), (∀ c ∈ l, c.length ≤ 1000) → l.flatten.length ≤ 1000 * l.length := by
 intro l
 induction l with
 | nil => intro _; simp
 | cons c l ih =>
  intro h
  have h1 := h c List.mem_cons_self
  have h2 := ih fun d hd => h d (List.mem_cons_of_mem _ hd)
  rw [List.flatten_cons, List.length_append, List.length_cons]
  omega
theorem rowsI_bel (L : Nat) (l : List Int) : (l.map eI).all (belL L) = true := by
 rw [List.all_eq_true]
 intro r hr
 obtain ⟨x, _, rfl⟩ := List.mem_map.1 hr
 rfl
section
variable {V : VProg} (C : VCode V) {Q : VV → Prop}
include C
set_option maxHeartbeats 4000000 in
theorem shape_placed_v (t : Tree) (ht : TreeOk t) (s : Shape) (hs : SzS s) (hn : NodeL t s.has) : VP V n_z37 [.fp (eFm t s) 0] Q ↔ Q (.b (placedF t s)) := by
 refine VP_eq ?_
 rw [VP_fn C.c_z37.1 C.c_z37.2]
 have h64 := ht.n64
 have hh := hs.has
 have hmo := hs.mo
 by_cases c2 : ¬ s.mo.length = t.locs.length
 ·have c2' : ¬ (s.mo.length : Int) = t.locs.length := by omega
  simp only [f_z37, m_z37, go_sem, ↓reduceIte, c2']
  rw [placedF, decide_eq_false c2]; rfl
 have c2 := Decidable.not_not.1 c2
 have c2' : (s.mo.length : Int) = t.locs.length := by omega
 simp only [f_z37, m_z37, go_sem, ↓reduceIte, c2']
 refine vrange_rule (by decide) s.mo.length (by omega) (I := fun k F h => VFr.tmp F 0 = .fp (eFm t s) 0 ∧ VFr.tmp F 28 = .ls (s.mo.map eLLI) ∧ h = [] ∧ ∀ j, j < k → plOkF t s j = true) ?_ ?_ 0 _ _ (by omega) ?_ ?_ ?_
 ·rintro k F h hk p30 p29 ⟨p0, p28, rfl, p3⟩
  have bad : plOkF t s k = false → false = placedF t s := fun h => by rw [placedF, all_range_f hk h, Bool.and_false]
  have hml := hs.mi' k
  have hmc := hs.mc' k
  have hgm := getLLI hk
  generalize hm : s.mo.getD k [] = m at *
  by_cases z : m.length = 0
  ·have z' : (m.length : Int) = 0 := by omega
   simp only [m_z37, go_sem, ↓reduceIte, p30, p29, p0, p28, hgm, hk, z', Vc_block]
   exact bad (by simp only [plOkF, hm, z]; simp)
  have z' : ¬ (m.length : Int) = 0 := by omega
  have z0 : 0 < m.length := by omega
  have heq : ∀ (Q : VV → Prop), VP V n_z43 [.ls ((m.getD 0 []).map eI), .ls [[.i .i64 k]]] Q ↔ Q (.b (decide (m.getD 0 [] = [(k : Int)]))) := fun Q => slices_Equal_v C (m.getD 0 []) [(k : Int)] (by have := hmc 0; omega) (Q := Q)
  cases z3 : decide (m.getD 0 [] = [(k : Int)]) with
  | false =>
   simp only [m_z37, go_sem, ↓reduceIte, p30, p29, p0, p28, hgm, hk, z', getLI z0, heq, z3, Vc_block]
   exact bad (by simp only [plOkF, hm, z3, Bool.and_false, Bool.false_and])
  | true =>
  have hN : 1 ≤ m.length := z0
  obtain ⟨D, hD⟩ : ∃ D, D = m.drop 1 := ⟨_, rfl⟩
  have hDl : D.length = m.length - 1 := by rw [hD, List.length_drop]
  have hdr : (m.drop 1).take (m.length - 1) = D := by rw [← hD, List.take_of_length_le (by omega)]
  have hmin : min (m.length - 1) (m.length - 1) = D.length := by rw [Nat.min_self, hDl]
  have hDc : ∀ c ∈ D, c.length ≤ 1000 := by
   intro c hc
   obtain ⟨i, hi, rfl⟩ := List.mem_iff_getElem.1 (List.mem_of_mem_drop (hD ▸ hc))
   have := hmc i
   rw [List.getD_eq_getElem?_getD, List.getElem?_eq_getElem hi] at this
   exact this
  have hall : allF m k = (k : Int) :: D.flatten := by rw [allF, hD]
  have hpl : plOkF t s k = (D.all (fun c => classS t c s.has k) && decide ((allF m k).length = wantF t s k) && decide ((listN (ofF (allF m k))).length = wantF t s k)) := by
   simp only [plOkF, hm, z3, decide_eq_false z, Bool.not_false, Bool.true_and, ← hD]
  simp only [m_z37, go_sem, ↓reduceIte, p30, p29, p0, p28, hgm, hk, z', getLI z0, heq, z3, hN, hdr, hmin, Vc_block]
  refine vrange_rule (by decide) D.length (by omega) (I := fun i F h => VFr.tmp F 0 = .fp (eFm t s) 0 ∧ VFr.tmp F 28 = .ls (s.mo.map eLLI) ∧ VFr.tmp F 3 = .i .i64 k ∧ VFr.tmp F 30 = .i .i64 k ∧ VFr.tmp F 29 = .i .i64 s.mo.length ∧ VFr.tmp F 50 = .ls (D.map eLI) ∧ VFr.tmp F 5 = .sl 0 i 0 ((D.take i).flatten.length + 1) ∧ h = hAl i ((k : Int) :: (D.take i).flatten) ∧ ∀ (j : Nat) (hj : j < D.length), j < i → classS t D[j] s.has k = true) ?_ ?_ 0 _ _ (by omega) ?_ ?_ ?_
  ·rintro i F h hi q52 q51 ⟨q0, q28, q3, q30, q29, q50, q5, rfl, q4⟩
   have hc1 := hDc _ (List.getElem_mem hi)
   have hcl := fun (Q : VV → Prop) => shape_class_v C t ht s hn D[i] hc1 k (Q := Q)
   have hgi : D[i]? = some D[i] := List.getElem?_eq_getElem hi
   have hfl := flat_le (D.take i) (fun c hc => hDc c (List.mem_of_mem_take hc))
   rw [List.length_take] at hfl
   have b1 : ((D.take i).flatten.length + 1 + D[i].length) * 8 ≤ two47 := by unfold two47; omega
   have hst : (D.take (i + 1)).flatten = (D.take i).flatten ++ D[i] := by rw [List.take_succ_eq_append_getElem hi, List.flatten_append]; simp
   cases c4 : classS t D[i] s.has k with
   | false =>
    simp only [m_z37, go_sem, ↓reduceIte, q52, q51, q0, q28, q3, q30, q29, q50, q5, hi, hgi, hcl, c4, Vc_block]
    exact bad (by rw [hpl, show D.all (fun c => classS t c s.has k) = false from List.all_eq_false.2 ⟨D[i], List.getElem_mem hi, by rw [c4]; simp⟩]; rfl)
   | true =>
    simp only [m_z37, go_sem, ↓reduceIte, q52, q51, q0, q28, q3, q30, q29, q50, q5, hi, hgi, hcl, c4, b1, hst, Vc_block]
    obtain ⟨y, ys, hys⟩ : ∃ y ys, D[i] = y :: ys := by
     cases h : D[i] with
     | nil => rw [h] at c4; simp [classS] at c4
     | cons y ys => exact ⟨y, ys, rfl⟩
    have e1 : (List.map eI D[i]) = eI y :: List.map eI ys := by rw [hys]; rfl
    have e2 : eI (k : Int) :: (List.map eI (List.take i D).flatten ++ List.map eI D[i]) = ((k : Int) :: ((List.take i D).flatten ++ D[i])).map eI := by rw [List.map_cons, List.map_append]
    rw [e2, e1]
    refine ⟨⟨.inr (fun x hx => by cases hx; exact rowsI_bel _ _), trivial⟩, ?_, rfl, ?_⟩
    ·show VV.sl 0 (i + 1) 0 ((List.take i D).flatten.length + 1 + D[i].length) = _
     congr 1; omega
    ·intro j hj hji
     by_cases e : j = i
     ·subst e; exact c4
     ·exact q4 j hj (by omega)
  ·rintro F h ⟨q0, q28, q3, q30, q29, q50, q5, rfl, q4⟩
   have hda : D.all (fun c => classS t c s.has k) = true := by
    rw [List.all_eq_true]
    intro c hc
    obtain ⟨j, hj, rfl⟩ := List.mem_iff_getElem.1 hc
    exact q4 j hj hj
   rw [List.take_length] at q5
   simp only [m_z37, go_sem, ↓reduceIte, q0, q28, q3, q30, q29, q50, q5, List.take_length]
   rw [← hall]
   refine vrange_rule (by decide) s.has.length (by omega) (I := fun i F h => VFr.tmp F 0 = .fp (eFm t s) 0 ∧ VFr.tmp F 28 = .ls (s.mo.map eLLI) ∧ VFr.tmp F 3 = .i .i64 k ∧ VFr.tmp F 30 = .i .i64 k ∧ VFr.tmp F 29 = .i .i64 s.mo.length ∧ VFr.tmp F 69 = lI s.has ∧ VFr.tmp F 5 = .sl 0 D.length 0 (allF m k).length ∧ h = hAl D.length (allF m k) ∧ VFr.tmp F 8 = .i .i64 (((s.has.take i).filter fun n => writeF t s.has n k).length : Nat)) ?_ ?_ 0 _ _ (by omega) ?_ ?_ ?_
   ·rintro i F h hi q71 q70 ⟨q0, q28, q3, q30, q29, q69, q5, rfl, q8⟩
    have hw := fun (n loc : Int) (Q : VV → Prop) => shape_write_v C t ht s hn n loc (Q := Q)
    have hgi : s.has[i]? = some s.has[i] := List.getElem?_eq_getElem hi
    have hst : s.has.take (i + 1) = s.has.take i ++ [s.has[i]] := List.take_succ_eq_append_getElem hi
    cases c4 : writeF t s.has s.has[i] k with
    | false =>
     simp only [m_z37, go_sem, ↓reduceIte, q71, q70, q0, q28, q3, q30, q29, q69, q5, q8, hi, hgi, hw, c4, Vc_block]
     have e : [s.has[i]].filter (fun n => writeF t s.has n k) = [] := by rw [List.filter_cons, c4]; rfl
     rw [hst, List.filter_append, e, List.append_nil]
    | true =>
     have hle : ((s.has.take i).filter fun n => writeF t s.has n k).length ≤ 1000 := Nat.le_trans (List.length_filter_le _ _) (by rw [List.length_take]; omega)
     have w1 := vwrap (show ((s.has.take i).filter fun n => writeF t s.has n k).length < 9223372036854775807 by omega)
     simp only [m_z37, go_sem, ↓reduceIte, q71, q70, q0, q28, q3, q30, q29, q69, q5, q8, hi, hgi, hw, c4, w1, Vc_block]
     have e : [s.has[i]].filter (fun n => writeF t s.has n k) = [s.has[i]] := by rw [List.filter_cons, c4]; rfl
     rw [hst, List.filter_append, e, List.length_append]; rfl
   ·rintro F h ⟨q0, q28, q3, q30, q29, q69, q5, rfl, q8⟩
    rw [List.take_length, show (s.has.filter fun n => writeF t s.has n k).length = wantF t s k from rfl] at q8
    have hal : (allF m k).length ≤ 1000000000 := by
     have := flat_le D hDc
     rw [hall, List.length_cons]; omega
    have hof := fun (Q : VV → Prop) => bits_Of_v C (allF m k) (by omega) (Q := Q)
    by_cases c7 : (allF m k).length = wantF t s k
    ·have c7' : ((allF m k).length : Int) = wantF t s k := by omega
     by_cases c8 : (listN (ofF (allF m k))).length = wantF t s k
     ·have c8' : ((listN (ofF (allF m k))).length : Int) = wantF t s k := by omega
      simp only [m_z37, go_sem, ↓reduceIte, q0, q28, q3, q30, q29, q69, q5, q8, c7', hof, bits_Count_v C, c8', hAl, List.take_length]
      exact snocI p3 (by rw [hpl, hda, decide_eq_true c7, decide_eq_true c8]; rfl)
     ·have c8' : ¬ ((listN (ofF (allF m k))).length : Int) = wantF t s k := by omega
      simp only [m_z37, go_sem, ↓reduceIte, q0, q28, q3, q30, q29, q69, q5, q8, c7', hof, bits_Count_v C, c8', hAl, List.take_length]
      exact bad (by rw [hpl, decide_eq_false c8, Bool.and_false])
    ·have c7' : ¬ ((allF m k).length : Int) = wantF t s k := by omega
     simp only [m_z37, go_sem, ↓reduceIte, q0, q28, q3, q30, q29, q69, q5, q8, c7']
     exact bad (by rw [hpl, decide_eq_false c7, Bool.and_false, Bool.false_and])
   ·simp only [m_z37, go_sem, ↓reduceIte, q0, q28, q3, q30, q29, q5]
   ·simp only [m_z37, go_sem, ↓reduceIte, q0, q28, q3, q30, q29, q5]
   ·simp only [m_z37, go_sem, ↓reduceIte, q0, q28, q3, q30, q29, q5]
    rw [hall]; rfl
  ·simp only [m_z37, go_sem, ↓reduceIte, p30, p29, p0, p28]
  ·simp only [m_z37, go_sem, ↓reduceIte, p30, p29, p0, p28]
  ·simp only [m_z37, go_sem, ↓reduceIte, p30, p29, p0, p28]
   exact ⟨rfl, rfl, fun j hj h => by omega⟩
 ·rintro F h ⟨p0, p28, rfl, p3⟩
  simp only [m_z37, go_sem, ↓reduceIte, p0, p28]
  rw [placedF, decide_eq_true c2, all_range_t p3]; rfl
 ·simp only [m_z37, go_sem, ↓reduceIte]
 ·simp only [m_z37, go_sem, ↓reduceIte]
  exact c2'.symm
 ·simp only [m_z37, go_sem, ↓reduceIte]
  intro j hj; omega
end
end Go.AM

namespace Go.AM
open Go Go.Proofs
abbrev mayFs (t : Tree) (s : Shape) : VV := .ls [[.f n_z35 [.fp (eFm t s) 0] []], [.f n_z36 [.fp (eFm t s) 0] []], [.f n_z37 [.fp (eFm t s) 0] []]]
section
variable {V : VProg} (C : VCode V) {Q : VV → Prop}
include C
theorem shape_May_v (t : Tree) (ht : TreeOk t) (s : Shape) (hs : SzS s) : VP V n_z10 [vT t, vSh s] Q ↔ Q (.b (nodesF t s.has && justF t s && placedF t s)) := by
 refine VP_eq ?_
 rw [VP_fn C.c_z10.1 C.c_z10.2]
 have s1 := fun (Q : VV → Prop) => lts_May_v C t ht (Q := Q)
 have s2 := fun (Q : VV → Prop) => shape_of_v C t ht s hs (Q := Q)
 have s3 := fun (Q : VV → Prop) => shape_nodes_v C t ht s hs (Q := Q)
 simp only [f_z10, m_z10, go_sem, ↓reduceIte, s1, s2]
 refine vrange_rule (by decide) 3 (by omega) (I := fun k F h => VFr.tmp F 20 = mayFs t s ∧ h = [] ∧ (1 ≤ k → nodesF t s.has = true) ∧ (2 ≤ k → justF t s = true) ∧ (3 ≤ k → placedF t s = true)) ?_ ?_ 0 _ _ (by omega) ?_ ?_ ?_
 ·rintro k F h hk p22 p21 ⟨p20, rfl, h1, h2, h3⟩
  rcases (show k = 0 ∨ k = 1 ∨ k = 2 by omega) with rfl | rfl | rfl
  ·cases c : nodesF t s.has with
   | false => simp only [m_z10, go_sem, ↓reduceIte, p22, p21, p20, mayFs, s3, c, Vc_block]
   | true => simp only [m_z10, go_sem, ↓reduceIte, p22, p21, p20, mayFs, s3, c, Vc_block]
  ·have hn := nodesF_node (h1 (by omega))
   have s4 := fun (Q : VV → Prop) => shape_justified_v C t ht s hs hn (Q := Q)
   cases c : justF t s with
   | false => simp only [m_z10, go_sem, ↓reduceIte, p22, p21, p20, mayFs, s4, c, Vc_block]
   | true => simp only [m_z10, go_sem, ↓reduceIte, p22, p21, p20, mayFs, s4, c, Vc_block]; exact h1 (by omega)
  ·have hn := nodesF_node (h1 (by omega))
   have s4 := fun (Q : VV → Prop) => shape_placed_v C t ht s hs hn (Q := Q)
   cases c : placedF t s with
   | false => simp only [m_z10, go_sem, ↓reduceIte, p22, p21, p20, mayFs, s4, c, Vc_block]
   | true => simp only [m_z10, go_sem, ↓reduceIte, p22, p21, p20, mayFs, s4, c, Vc_block]; exact ⟨h1 (by omega), h2 (by omega)⟩
 ·rintro F h ⟨p20, rfl, h1, h2, h3⟩
  simp only [m_z10, go_sem, ↓reduceIte, p20]
  rw [h1 (by omega), h2 (by omega), h3 (by omega)]; rfl
 ·simp only [m_z10, go_sem, ↓reduceIte]
 ·simp only [m_z10, go_sem, ↓reduceIte]
 ·simp only [m_z10, go_sem, ↓reduceIte]
end
end Go.AM

namespace Go.AM
open Go Go.Proofs
section
variable {V : VProg} (C : VCode V) {Q : VV → Prop}
include C
theorem shape_May_v' (t : Tree) (ht : TreeOk t) (s : Shape) (hs : SzS s) : VP V n_z10 [vT t, vSh s] Q ↔ Q (.b (formF t s)) := by
 rw [shape_May_v C t ht s hs, may_eq t ht s]
theorem seen_Of_no (t : Tree) (ht : TreeOk t) (s : Shape) (hs : SzS s) (hf : formF t s = false) : VP V n_z25 [vT t, vSh s] Q ↔ Q (.tu [.np, .b false]) := by
 refine VP_eq ?_
 rw [VP_fn C.c_z25.1 C.c_z25.2]
 simp only [f_z25, m_z25, go_sem, ↓reduceIte, shape_May_v' C t ht s hs, hf]
theorem seen_Ecf_no (t : Tree) (ht : TreeOk t) (s : Shape) (hs : SzS s) (hf : formF t s = false) : VP V n_z6 [vT t, vSh s] Q ↔ Q (.ls []) := by
 refine VP_eq ?_
 rw [VP_fn C.c_z6.1 C.c_z6.2]
 have s1 := fun (Q : VV → Prop) => seen_Of_no C t ht s hs hf (Q := Q)
 simp only [f_z6, m_z6, go_sem, ↓reduceIte, s1]
theorem seen_one_no (t : Tree) (ht : TreeOk t) (s : Shape) (hs : SzS s) (hf : formF t s = false) (e : Int) (g : Nat) : VP V n_z30 [vT t, vSh s, .i .i64 e, .f g [] []] Q ↔ Q (.b false) := by
 refine VP_eq ?_
 rw [VP_fn C.c_z30.1 C.c_z30.2]
 have s1 := fun (Q : VV → Prop) => seen_Of_no C t ht s hs hf (Q := Q)
 simp only [f_z30, m_z30, go_sem, ↓reduceIte, s1]
theorem seen_Sound_no (t : Tree) (ht : TreeOk t) (s : Shape) (hs : SzS s) (hf : formF t s = false) (e : Int) : VP V n_z7 [vT t, vSh s, .i .i64 e] Q ↔ Q (.b false) := by
 refine VP_eq ?_
 rw [VP_fn C.c_z7.1 C.c_z7.2]
 simp only [f_z7, m_z7, go_sem, ↓reduceIte, seen_one_no C t ht s hs hf]
theorem seen_Visible_no (t : Tree) (ht : TreeOk t) (s : Shape) (hs : SzS s) (hf : formF t s = false) (e : Int) : VP V n_z8 [vT t, vSh s, .i .i64 e] Q ↔ Q (.b false) := by
 refine VP_eq ?_
 rw [VP_fn C.c_z8.1 C.c_z8.2]
 simp only [f_z8, m_z8, go_sem, ↓reduceIte, seen_one_no C t ht s hs hf]
theorem seen_Seen_no (t : Tree) (ht : TreeOk t) (s : Shape) (hs : SzS s) (hf : formF t s = false) : VP V n_z9 [vT t, vSh s] Q ↔ Q (vW 0#64) := by
 refine VP_eq ?_
 rw [VP_fn C.c_z9.1 C.c_z9.2]
 have s1 := fun (Q : VV → Prop) => seen_Of_no C t ht s hs hf (Q := Q)
 simp only [f_z9, m_z9, go_sem, ↓reduceIte, s1]
/-- The law, its begun taken as told. -/
theorem law_SeenNone (hb : ∀ Q : VV → Prop, VP V n_z3 [] Q ↔ Q (.b true)) (l : List U8) (hl : ∀ x ∈ l, x.n < 256) (s : Shape) (e : Int) :
  VP V n_z0 [lU l, vSh s, .i .i64 e] fun x => x = .b true := by
 rw [VP_fn C.c_z0.1 C.c_z0.2]
 by_cases c1 : (20 : Int) < l.length
 ·simp only [f_z0, m_z0, go_sem, ↓reduceIte, hb, c1]
 obtain ⟨_, ⟨b, rfl, hz⟩, qL⟩ := VP_ex (made_Light_v C s)
 cases b with
 | false => simp only [f_z0, m_z0, go_sem, ↓reduceIte, hb, c1, qL]
 | true =>
 have hs := hz rfl
 obtain ⟨_, ⟨t, ok, rfl, ht⟩, qT⟩ := VP_ex (mk_SmallTree C l ⟨by omega, hl⟩)
 cases ok with
 | false => simp only [f_z0, m_z0, go_sem, ↓reduceIte, hb, c1, qL, qT]
 | true =>
 have ht := (ht rfl).1
 have qF := fun (Q : VV → Prop) => ref17_Form_v C t ht s hs (Q := Q)
 cases hf : formF t s with
 | true => simp only [f_z0, m_z0, go_sem, ↓reduceIte, hb, c1, qL, qT, qF, hf]
 | false =>
  simp only [f_z0, m_z0, go_sem, ↓reduceIte, hb, c1, qL, qT, qF, hf, seen_Ecf_no C t ht s hs hf, seen_Sound_no C t ht s hs hf, seen_Visible_no C t ht s hs hf, seen_Seen_no C t ht s hs hf]
end
end Go.AM
