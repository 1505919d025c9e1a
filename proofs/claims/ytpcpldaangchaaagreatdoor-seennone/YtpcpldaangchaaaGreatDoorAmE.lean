/-
  Own work, part of the proof of SeenNone: rules by which code is run over the machine of values.
-/
import Derived.Test.YtpcpldaangchaaaGreatDoorAmC
import Derived.Test.YtpcpldaangchaaaGreatDoorAmD
import Derived.Attr
set_option linter.unusedVariables false
set_option linter.unusedSimpArgs false
set_option linter.unusedSectionVars false
set_option linter.unnecessarySimpa false
namespace Go.AM
open Go
section
variable {A : Prog} {F : Fr} {σ : St}
@[go_sem] theorem tmp_set (F : Fr) (k : Nat) (v : AV) (j : Nat) : Fr.tmp (Tm.set F k v) j = if j = k then v else Fr.tmp F j := by
 unfold Fr.tmp
 rw [Tm.get_set]
 by_cases h : j = k <;> simp [h]
def nth (l : List AV) (j : Nat) : AV := match l[j]? with | some v => v | none => AV.un
@[go_sem] theorem tmp_ofList (l : List AV) (j : Nat) : Fr.tmp (Tm.ofList l) j = nth l j := by
 unfold Fr.tmp nth
 rw [Tm.get_ofList]
 cases l[j]? <;> rfl
@[go_sem] theorem nth_nil (j : Nat) : nth [] j = AV.un := by simp [nth]
@[go_sem] theorem nth_zero (a : AV) (l : List AV) : nth (a :: l) 0 = a := by simp [nth]
@[go_sem] theorem nth_succ (a : AV) (l : List AV) (j : Nat) : nth (a :: l) (j + 1) = nth l j := by simp [nth]
@[go_sem] theorem putD_some (F : Fr) (d : Nat) (v : AV) : putD F (some d) v = Tm.set F d v := rfl
@[go_sem] theorem putD_none (F : Fr) (v : AV) : putD F none v = F := rfl
@[go_sem] theorem ev_t (F : Fr) (n : Nat) : Fr.ev F (.t n) = Fr.tmp F n := rfl
@[go_sem] theorem ev_c (F : Fr) (v : AV) : Fr.ev F (.c v) = v := rfl
variable {Q : AV → St → Prop} {R : Fr → St → Prop}
@[go_sem] theorem Wr_cons_none {d : Option Nat} {op : AOp} {r : List AOper} : Wr A (⟨d, none, op⟩ :: r) F σ R ↔ Wo A op F σ (fun v σ' => Wr A r (putD F d v) σ' R) := Wr_cons
/-- An operation that is done if a slot says so. -/
def WG (A : Prog) (v : AV) (w : Bool) (d : Option Nat) (op : AOp) (r : List AOper) (F : Fr) (σ : St) (R : Fr → St → Prop) : Prop := match v with
 | .b x => (bif x == w then Wo A op F σ (fun v σ' => Wr A r (putD F d v) σ' R) else Wr A r (putD F d AV.un) σ R)
 | _ => Wr A r (putD F d AV.un) σ R
@[go_sem] theorem Wr_guard {d : Option Nat} {t : Nat} {w : Bool} {op : AOp} {r : List AOper} : Wr A (⟨d, some (t, w), op⟩ :: r) F σ R ↔ WG A (Fr.tmp F t) w d op r F σ R := by
 rw [Wr_cons]
 simp only [wanted, WG]
 cases Fr.tmp F t <;> rfl
@[go_sem] theorem WG_tt {d : Option Nat} {op : AOp} {r : List AOper} : WG A (.b true) true d op r F σ R ↔ Wo A op F σ (fun v σ' => Wr A r (putD F d v) σ' R) := Iff.rfl
@[go_sem] theorem WG_ff {d : Option Nat} {op : AOp} {r : List AOper} : WG A (.b false) false d op r F σ R ↔ Wo A op F σ (fun v σ' => Wr A r (putD F d v) σ' R) := Iff.rfl
@[go_sem] theorem WG_tf {d : Option Nat} {op : AOp} {r : List AOper} : WG A (.b true) false d op r F σ R ↔ Wr A r (putD F d AV.un) σ R := Iff.rfl
@[go_sem] theorem WG_ft {d : Option Nat} {op : AOp} {r : List AOper} : WG A (.b false) true d op r F σ R ↔ Wr A r (putD F d AV.un) σ R := Iff.rfl
attribute [go_sem] Wr_nil Ws_nil Wc_skip Wc_exit Wc_ret Wc_reg Wc_dreg Wc_seq
@[go_sem] theorem Ws_cons_none {i : Nat} {d : Option Nat} {op : AOp} {c : List AOper} {r : List AStep} : Ws A (⟨i, ⟨d, none, op⟩, c⟩ :: r) F σ R ↔ Wo A op F σ (fun v σ' => recheck (putD F d v) σ' c = true ∧ Ws A r (putD F d v) σ' R) := Ws_cons
def WGs (A : Prog) (v : AV) (w : Bool) (d : Option Nat) (op : AOp) (c : List AOper) (r : List AStep) (F : Fr) (σ : St) (R : Fr → St → Prop) : Prop := match v with
 | .b x => (bif x == w then Wo A op F σ (fun v σ' => recheck (putD F d v) σ' c = true ∧ Ws A r (putD F d v) σ' R) else Ws A r (putD F d AV.un) σ R)
 | _ => Ws A r (putD F d AV.un) σ R
@[go_sem] theorem Ws_guard {i : Nat} {d : Option Nat} {t : Nat} {w : Bool} {op : AOp} {c : List AOper} {r : List AStep} : Ws A (⟨i, ⟨d, some (t, w), op⟩, c⟩ :: r) F σ R ↔ WGs A (Fr.tmp F t) w d op c r F σ R := by
 rw [Ws_cons]
 simp only [wanted, WGs]
 cases Fr.tmp F t <;> rfl
@[go_sem] theorem WGs_tt {d : Option Nat} {op : AOp} {c : List AOper} {r : List AStep} : WGs A (.b true) true d op c r F σ R ↔ Wo A op F σ (fun v σ' => recheck (putD F d v) σ' c = true ∧ Ws A r (putD F d v) σ' R) := Iff.rfl
@[go_sem] theorem WGs_ff {d : Option Nat} {op : AOp} {c : List AOper} {r : List AStep} : WGs A (.b false) false d op c r F σ R ↔ Wo A op F σ (fun v σ' => recheck (putD F d v) σ' c = true ∧ Ws A r (putD F d v) σ' R) := Iff.rfl
@[go_sem] theorem WGs_tf {d : Option Nat} {op : AOp} {c : List AOper} {r : List AStep} : WGs A (.b true) false d op c r F σ R ↔ Ws A r (putD F d AV.un) σ R := Iff.rfl
@[go_sem] theorem WGs_ft {d : Option Nat} {op : AOp} {c : List AOper} {r : List AStep} : WGs A (.b false) true d op c r F σ R ↔ Ws A r (putD F d AV.un) σ R := Iff.rfl
@[go_sem] theorem WG_un {w : Bool} {d : Option Nat} {op : AOp} {r : List AOper} : WG A AV.un w d op r F σ R ↔ Wr A r (putD F d AV.un) σ R := Iff.rfl
@[go_sem] theorem WGs_un {w : Bool} {d : Option Nat} {op : AOp} {c : List AOper} {r : List AStep} : WGs A AV.un w d op c r F σ R ↔ Ws A r (putD F d AV.un) σ R := Iff.rfl
/-- One of two ways. -/
def WC (A : Prog) (v : AV) (a b : ACode) (F : Fr) (σ : St) (Q : Ex → Fr → St → Prop) : Prop := match v with
 | .b true => Wc A a F σ Q
 | .b false => Wc A b F σ Q
 | _ => False
@[go_sem] theorem Wc_cond_v {x : AOpd} {a b : ACode} {Q : Ex → Fr → St → Prop} : Wc A (.cond x a b) F σ Q ↔ WC A (Fr.ev F x) a b F σ Q := by
 cases h : Fr.ev F x with
 | b t => rw [Wc_cond h]; cases t <;> rfl
 | _ =>
  constructor
  ·rintro ⟨n, e, F', σ', h2, _⟩
   cases n with
   | zero => simp [exec] at h2
   | succ n => simp [exec, h] at h2
  ·intro h2; exact h2.elim
@[go_sem] theorem WC_t {a b : ACode} {Q : Ex → Fr → St → Prop} : WC A (.b true) a b F σ Q ↔ Wc A a F σ Q := Iff.rfl
@[go_sem] theorem WC_f {a b : ACode} {Q : Ex → Fr → St → Prop} : WC A (.b false) a b F σ Q ↔ Wc A b F σ Q := Iff.rfl
/-- One of two values. -/
def WP (v x y : AV) (σ : St) (Q : AV → St → Prop) : Prop := match v with
 | .b t => Q (bif t then x else y) σ
 | _ => False
@[go_sem] theorem WP_t {x y : AV} : WP (.b true) x y σ Q ↔ Q x σ := Iff.rfl
@[go_sem] theorem WP_f {x y : AV} : WP (.b false) x y σ Q ↔ Q y σ := Iff.rfl
@[go_sem] theorem Wo_mov {x : AOpd} : Wo A (.mov x) F σ Q ↔ Q (Fr.ev F x) σ := by
 rw [Wo_of (by intros; simp)]
 simp only [evOp, Option.some.injEq, Prod.mk.injEq, exists_and_left, exists_eq_left', and_assoc]
@[go_sem] theorem Wo_pick {c x y : AOpd} : Wo A (.pick c x y) F σ Q ↔ WP (Fr.ev F c) (Fr.ev F x) (Fr.ev F y) σ Q := by
 rw [Wo_of (by intros; simp)]
 simp only [evOp]
 cases Fr.ev F c with
 | b t => simp only [Option.some.injEq, Prod.mk.injEq, exists_and_left, exists_eq_left', and_assoc, WP]
 | _ => simp [WP]
@[go_sem] theorem Wo_box {ty n : Nat} {x : AOpd} : Wo A (.box ty n x) F σ Q ↔ ((Fr.ev F x).cells.length = n ∧ (Fr.ev F x).cells.all AV.cell = true) ∧ Q (.p (some (σ.next, 0))) (σ.new { ty := ty, rw := true, esz := 0, len := n, cs := Tm.ofList (Fr.ev F x).cells }) := by
 rw [Wo_of (by intros; simp)]
 simp only [evOp]
 cases hc : (Nat.beq (Fr.ev F x).cells.length n && (Fr.ev F x).cells.all AV.cell) with
 | false =>
  simp only [cond_false, reduceCtorEq, false_and, exists_false, false_iff]
  rintro ⟨⟨h1, h2⟩, _⟩
  rw [h1, h2] at hc
  simp at hc
 | true =>
  simp only [Bool.and_eq_true] at hc
  simp only [cond_true, Option.some.injEq, Prod.mk.injEq, exists_and_left, exists_eq_left', and_assoc, Nat.eq_of_beq_eq_true hc.1, hc.2, true_and]
@[go_sem] theorem Wo_build {z : List AV} {ps : List (Nat × Nat × AOpd)} : Wo A (.build z ps) F σ Q ↔ ∃ cs, fillAll F z ps = some cs ∧ Q (.ag cs) σ := by
 rw [Wo_of (by intros; simp)]
 simp only [evOp]
 cases fillAll F z ps with
 | none => simp
 | some v => simp only [Option.some.injEq, Prod.mk.injEq, exists_and_left, exists_eq_left', and_assoc]
@[go_sem] theorem Wo_bsl {ty esz len : Nat} {z : List AV} {ps : List (Nat × Nat × AOpd)} : Wo A (.bsl ty esz len z ps) F σ Q ↔ ∃ cs, fillAll F z ps = some cs ∧ Q (.sl (some (σ.next, 0)) len) (σ.new { ty := ty, rw := true, esz := esz, len := len * esz, cs := Tm.ofList cs }) := by
 rw [Wo_of (by intros; simp)]
 simp only [evOp]
 cases fillAll F z ps with
 | none => simp
 | some v => simp only [Option.some.injEq, Prod.mk.injEq, exists_and_left, exists_eq_left', and_assoc]
theorem evOp_ld {n : Option Nat} {a : AOpd} {r : AV × St} : evOp (.ld n a) F σ = some r ↔ ∃ id off, Fr.ev F a = .p (some (id, off)) ∧ σ.loadV n id off = some r.1 ∧ σ = r.2 := by
 simp only [evOp]
 constructor
 ·intro h
  split at h
  ·rename_i id off ha
   split at h
   ·rename_i v hv
    cases h
    exact ⟨id, off, ha, hv, rfl⟩
   ·cases h
  ·cases h
 ·rintro ⟨id, off, ha, hv, rfl⟩
  simp only [ha, hv]
@[go_sem] theorem Wo_ld {n : Option Nat} {a : AOpd} : Wo A (.ld n a) F σ Q ↔ ∃ id off, Fr.ev F a = .p (some (id, off)) ∧ ∃ v, σ.loadV n id off = some v ∧ Q v σ := by
 rw [Wo_of (by intros; simp)]
 simp only [evOp_ld]
 constructor
 ·rintro ⟨v, σ', ⟨id, off, h1, h2, h3⟩, hq⟩
  subst h3
  exact ⟨id, off, h1, v, h2, hq⟩
 ·rintro ⟨id, off, h1, v, h2, hq⟩
  exact ⟨v, σ, ⟨id, off, h1, h2, rfl⟩, hq⟩
@[go_sem] theorem Wo_st {n : Nat} {a x : AOpd} : Wo A (.st n a x) F σ Q ↔ ∃ id off, Fr.ev F a = .p (some (id, off)) ∧ (Fr.ev F x).cells.length = n ∧ ∃ σ', σ.storeN id off (Fr.ev F x).cells = some σ' ∧ Q AV.un σ' := by
 rw [Wo_of (by intros; simp)]
 simp only [evOp]
 constructor
 ·rintro ⟨v, σ', h, hq⟩
  split at h
  ·rename_i id off ha
   cases hc : Nat.beq (Fr.ev F x).cells.length n with
   | false => rw [hc] at h; cases h
   | true =>
    rw [hc] at h
    simp only [cond_true] at h
    split at h
    ·rename_i σ1 hs
     cases h
     exact ⟨id, off, ha, Nat.eq_of_beq_eq_true hc, _, hs, hq⟩
    ·cases h
  ·cases h
 ·rintro ⟨id, off, ha, hc, σ', hs, hq⟩
  refine ⟨AV.un, σ', ?_, hq⟩
  have : Nat.beq (Fr.ev F x).cells.length n = true := by rw [hc]; exact Nat.beq_refl n
  simp only [ha, this, cond_true, hs]
def nilcV : AV → Option AV
 | .p (some a) => some (.p (some a))
 | .f g a c => some (.f g a c)
 | _ => none
@[go_sem] theorem nilcV_p (a : Nat × Nat) : nilcV (.p (some a)) = some (.p (some a)) := rfl
@[go_sem] theorem nilcV_f (g : Nat) (a c : List AV) : nilcV (.f g a c) = some (.f g a c) := rfl
@[go_sem] theorem Wo_nilc {x : AOpd} : Wo A (.nilc x) F σ Q ↔ ∃ v, nilcV (Fr.ev F x) = some v ∧ Q v σ := by
 rw [Wo_of (by intros; simp)]
 simp only [evOp]
 constructor
 ·rintro ⟨v, σ', h, hq⟩
  split at h <;> cases h <;> (rename_i e; rw [e]; exact ⟨_, rfl, hq⟩)
 ·rintro ⟨v, h, hq⟩
  unfold nilcV at h
  split at h <;> cases h <;> (rename_i e; rw [e]; exact ⟨_, _, rfl, hq⟩)
@[go_sem] theorem Wo_bin {op : BinOp} {e : Option Eq0} {x y : AOpd} : Wo A (.bin op e x y) F σ Q ↔ ∃ v, binV op e (Fr.ev F x) (Fr.ev F y) = some v ∧ Q v σ := by
 rw [Wo_of (by intros; simp)]
 simp only [evOp]
 cases binV op e (Fr.ev F x) (Fr.ev F y) with
 | none => simp
 | some v => simp only [Option.some.injEq, Prod.mk.injEq, exists_and_left, exists_eq_left', and_assoc]
@[go_sem] theorem Wo_not {x : AOpd} : Wo A (.not x) F σ Q ↔ ∃ t, Fr.ev F x = .b t ∧ Q (.b (!t)) σ := by
 rw [Wo_of (by intros; simp)]
 simp only [evOp]
 constructor
 ·rintro ⟨v, σ', h, hq⟩
  split at h
  ·rename_i t ht; cases h; exact ⟨t, ht, hq⟩
  ·cases h
 ·rintro ⟨t, h, hq⟩
  exact ⟨_, _, by rw [h], hq⟩
@[go_sem] theorem Wo_neg {x : AOpd} : Wo A (.neg x) F σ Q ↔ ∃ k n, Fr.ev F x = .i k n ∧ Q (.i k (k.wrap (0 - n))) σ := by
 rw [Wo_of (by intros; simp)]
 simp only [evOp]
 constructor
 ·rintro ⟨v, σ', h, hq⟩
  split at h
  ·rename_i k n ht; cases h; exact ⟨k, n, ht, hq⟩
  ·cases h
 ·rintro ⟨k, n, h, hq⟩
  exact ⟨_, _, by rw [h], hq⟩
@[go_sem] theorem Wo_conv {k : IntKind} {x : AOpd} : Wo A (.conv k x) F σ Q ↔ ∃ k' n, Fr.ev F x = .i k' n ∧ Q (.i k (k.wrap n)) σ := by
 rw [Wo_of (by intros; simp)]
 simp only [evOp]
 constructor
 ·rintro ⟨v, σ', h, hq⟩
  split at h
  ·rename_i k n ht; cases h; exact ⟨k, n, ht, hq⟩
  ·cases h
 ·rintro ⟨k, n, h, hq⟩
  exact ⟨_, _, by rw [h], hq⟩
@[go_sem] theorem Wo_mkf {g : Nat} {a c : List AOpd} : Wo A (.mkf g a c) F σ Q ↔ Q (.f g (a.map (Fr.ev F)) (c.map (Fr.ev F))) σ := by
 rw [Wo_of (by intros; simp)]
 simp only [evOp, Option.some.injEq, Prod.mk.injEq, exists_and_left, exists_eq_left', and_assoc]
@[go_sem] theorem Wo_mks {ty esz bytes : Nat} {z : List AV} {l c : AOpd} : Wo A (.mks ty esz bytes z l c) F σ Q ↔ ∃ n, Fr.ev F l = .i .i64 n ∧ ∃ m, Fr.ev F c = .i .i64 m ∧ (0 ≤ n ∧ n ≤ m ∧ m.toNat * bytes ≤ two47) ∧ Q (.sl (some (σ.next, 0)) n.toNat) (σ.new { ty := ty, rw := true, esz := esz, len := n.toNat * esz, cs := Tm.ofList ((List.replicate n.toNat z).flatten) }) := by
 rw [Wo_of (by intros; simp)]
 simp only [evOp]
 constructor
 ·rintro ⟨v, σ', h, hq⟩
  split at h
  ·rename_i n m h1 h2
   split at h
   ·rename_i h3
    cases h
    exact ⟨n, h1, m, h2, h3, hq⟩
   ·cases h
  ·cases h
 ·rintro ⟨n, h1, m, h2, h3, hq⟩
  exact ⟨_, _, by simp only [h1, h2, if_pos h3], hq⟩
@[go_sem] theorem Wo_slc {esz : Nat} {x : AOpd} {lo hi : Option AOpd} : Wo A (.slc esz x lo hi) F σ Q ↔ ∃ v, sliceV esz (Fr.ev F x) (lo.map (Fr.ev F)) (hi.map (Fr.ev F)) = some v ∧ Q v σ := by
 rw [Wo_of (by intros; simp)]
 simp only [evOp]
 cases sliceV esz (Fr.ev F x) (lo.map (Fr.ev F)) (hi.map (Fr.ev F)) with
 | none => simp
 | some v => simp only [Option.some.injEq, Prod.mk.injEq, exists_and_left, exists_eq_left', and_assoc]
@[go_sem] theorem Wo_fa {off : Nat} {x : AOpd} : Wo A (.fa off x) F σ Q ↔ ∃ id o, Fr.ev F x = .p (some (id, o)) ∧ Q (.p (some (id, o + off))) σ := by
 rw [Wo_of (by intros; simp)]
 simp only [evOp]
 constructor
 ·rintro ⟨v, σ', h, hq⟩
  split at h
  ·rename_i id o h1; cases h; exact ⟨id, o, h1, hq⟩
  ·cases h
 ·rintro ⟨id, o, h1, hq⟩
  exact ⟨_, _, by rw [h1], hq⟩
/-- Where an element of a slice lies. -/
def idxP (esz : Nat) (x i : AV) : Option AV := match x, i with
  | .sl (some (id, o)) len, .i _ n => if 0 ≤ n ∧ n < len then some (.p (some (id, o + n.toNat * esz))) else none
  | _, _ => none
@[go_sem] theorem Wo_ia {esz : Nat} {x i : AOpd} : Wo A (.ia esz x i) F σ Q ↔ ∃ v, idxP esz (Fr.ev F x) (Fr.ev F i) = some v ∧ Q v σ := by
 rw [Wo_of (by intros; simp)]
 have e : evOp (.ia esz x i) F σ = (match idxP esz (Fr.ev F x) (Fr.ev F i) with | some v => some (v, σ) | none => none) := by
  simp only [evOp, idxP]
  generalize Fr.ev F x = vx
  generalize Fr.ev F i = vi
  cases vx <;> try rfl
  rename_i o len
  cases o <;> try rfl
  cases vi <;> try rfl
  simp only
  split <;> rfl
 rw [e]
 cases idxP esz (Fr.ev F x) (Fr.ev F i) with
 | none => simp
 | some v => simp only [Option.some.injEq, Prod.mk.injEq, exists_and_left, exists_eq_left', and_assoc]
@[go_sem] theorem Wo_iaa {len esz : Nat} {x i : AOpd} : Wo A (.iaa len esz x i) F σ Q ↔ ∃ id o, Fr.ev F x = .p (some (id, o)) ∧ ∃ k n, Fr.ev F i = .i k n ∧ (0 ≤ n ∧ n < len) ∧ Q (.p (some (id, o + n.toNat * esz))) σ := by
 rw [Wo_of (by intros; simp)]
 simp only [evOp]
 constructor
 ·rintro ⟨v, σ', h, hq⟩
  split at h
  ·rename_i id o k n h1 h2
   split at h
   ·rename_i h3
    cases h
    exact ⟨id, o, h1, k, n, h2, h3, hq⟩
   ·cases h
  ·cases h
 ·rintro ⟨id, o, h1, k, n, h2, h3, hq⟩
  exact ⟨_, _, by simp only [h1, h2, if_pos h3], hq⟩
@[go_sem] theorem Wo_ix {x i : AOpd} : Wo A (.ix x i) F σ Q ↔ ∃ s, Fr.ev F x = .s s ∧ ∃ k n, Fr.ev F i = .i k n ∧ 0 ≤ n ∧ ∃ b, s.data.toList[n.toNat]? = some b ∧ Q (.i .u8 b.toNat) σ := by
 rw [Wo_of (by intros; simp)]
 simp only [evOp]
 constructor
 ·rintro ⟨v, σ', h, hq⟩
  split at h
  ·rename_i s k n h1 h2
   split at h
   ·rename_i h3
    split at h
    ·rename_i b hb
     cases h
     exact ⟨s, h1, k, n, h2, h3, b, hb, hq⟩
    ·cases h
   ·cases h
  ·cases h
 ·rintro ⟨s, h1, k, n, h2, h3, b, hb, hq⟩
  exact ⟨_, _, by simp only [h1, h2, if_pos h3, hb], hq⟩
@[go_sem] theorem Wo_ext {x : AOpd} {i : Nat} : Wo A (.ext x i) F σ Q ↔ ∃ vs, Fr.ev F x = .tu vs ∧ ∃ v, vs[i]? = some v ∧ Q v σ := by
 rw [Wo_of (by intros; simp)]
 simp only [evOp]
 constructor
 ·rintro ⟨v, σ', h, hq⟩
  split at h
  ·rename_i vs h1
   split at h
   ·rename_i w hw; cases h; exact ⟨vs, h1, _, hw, hq⟩
   ·cases h
  ·cases h
 ·rintro ⟨vs, h1, v, h2, hq⟩
  exact ⟨_, _, by simp only [h1, h2], hq⟩
@[go_sem] theorem Wo_len {x : AOpd} : Wo A (.len false x) F σ Q ↔ ∃ o n, Fr.ev F x = .sl o n ∧ Q (.i .i64 n) σ := by
 rw [Wo_of (by intros; simp)]
 simp only [evOp]
 generalize Fr.ev F x = vx
 cases vx <;> simp
 constructor
 ·rintro ⟨v, σ', ⟨rfl, rfl⟩, h⟩; exact ⟨_, _, ⟨rfl, rfl⟩, h⟩
 ·rintro ⟨o, n, ⟨rfl, rfl⟩, h⟩; exact ⟨_, _, ⟨rfl, rfl⟩, h⟩
@[go_sem] theorem Wo_lens {x : AOpd} : Wo A (.len true x) F σ Q ↔ ∃ s, Fr.ev F x = .s s ∧ Q (.i .i64 s.size) σ := by
 rw [Wo_of (by intros; simp)]
 simp only [evOp]
 generalize Fr.ev F x = vx
 cases vx <;> simp
 constructor
 ·rintro ⟨v, σ', ⟨rfl, rfl⟩, h⟩; exact h
 ·intro h; exact ⟨_, _, ⟨rfl, rfl⟩, h⟩
@[go_sem] theorem Wo_app {ty esz bytes : Nat} {x y : AOpd} : Wo A (.app ty esz bytes x y) F σ Q ↔ ∃ o n, Fr.ev F x = .sl o n ∧ ∃ o' m, Fr.ev F y = .sl o' m ∧ ∃ v σ', appV ty esz bytes o n o' m σ = some (v, σ') ∧ Q v σ' := by
 rw [Wo_of (by intros; simp)]
 simp only [evOp]
 constructor
 ·rintro ⟨v, σ', h, hq⟩
  split at h
  ·rename_i o n o' m h1 h2; exact ⟨o, n, h1, o', m, h2, v, σ', h, hq⟩
  ·cases h
 ·rintro ⟨o, n, h1, o', m, h2, v, σ', h, hq⟩
  exact ⟨v, σ', by simp only [h1, h2]; exact h, hq⟩
@[go_sem] theorem Wo_cpy {esz : Nat} {x y : AOpd} : Wo A (.cpy esz x y) F σ Q ↔ ∃ o n, Fr.ev F x = .sl o n ∧ ∃ o' m, Fr.ev F y = .sl o' m ∧ ∃ v σ', cpyV esz o n o' m σ = some (v, σ') ∧ Q v σ' := by
 rw [Wo_of (by intros; simp)]
 simp only [evOp]
 constructor
 ·rintro ⟨v, σ', h, hq⟩
  split at h
  ·rename_i o n o' m h1 h2; exact ⟨o, n, h1, o', m, h2, v, σ', h, hq⟩
  ·cases h
 ·rintro ⟨o, n, h1, o', m, h2, v, σ', h, hq⟩
  exact ⟨v, σ', by simp only [h1, h2]; exact h, hq⟩
@[go_sem] theorem Wo_mnx {mx : Bool} {x y : AOpd} : Wo A (.mnx mx x y) F σ Q ↔ ∃ k a, Fr.ev F x = .i k a ∧ ∃ c, Fr.ev F y = .i k c ∧ Q (.i k (mnxV mx a c)) σ := by
 rw [Wo_of (by intros; simp)]
 simp only [evOp]
 constructor
 ·rintro ⟨v, σ', h, hq⟩
  split at h
  ·rename_i k a k' c h1 h2
   split at h
   ·rename_i h3
    cases h
    subst h3
    exact ⟨k, a, h1, c, h2, hq⟩
   ·cases h
  ·cases h
 ·rintro ⟨k, a, h1, c, h2, hq⟩
  exact ⟨_, _, by simp only [h1, h2, if_true], hq⟩
@[go_sem] theorem Wo_callc {g : Nat} {a c : List AV} {args : List AOpd} : Wo A (.call (.c (.f g a c)) args) F σ Q ↔ Wk A g (a ++ args.map (Fr.ev F) ++ c) σ Q := Wo_call rfl
@[go_sem] theorem Wo_callt {t : Nat} {args : List AOpd} : Wo A (.call (.t t) args) F σ Q ↔ ∃ g a c, Fr.tmp F t = .f g a c ∧ Wk A g (a ++ args.map (Fr.ev F) ++ c) σ Q := by
 constructor
 ·rintro ⟨n, v, σ', h, hq⟩
  simp only [evOper] at h
  split at h
  ·rename_i g a c h1; exact ⟨g, a, c, h1, n, v, σ', h, hq⟩
  ·cases h
 ·rintro ⟨g, a, c, h1, h2⟩
  exact (Wo_call (f := .t t) h1).2 h2
@[go_sem] theorem recheck_nil : recheck F σ [] = true := rfl
mutual
theorem eqb_self : ∀ v : AV, AV.eqb v v = true
 | .b x => by simp [AV.eqb]
 | .i k n => by simp [AV.eqb]
 | .s x => by simp [AV.eqb]
 | .p o => by simp [AV.eqb]
 | .sl o n => by simp [AV.eqb]
 | .f g a c => by simp [AV.eqb, eqbL_self a, eqbL_self c]
 | .nf => rfl
 | .ag cs => by simp [AV.eqb, eqbL_self cs]
 | .tu cs => by simp [AV.eqb, eqbL_self cs]
theorem eqbL_self : ∀ l : List AV, AV.eqbL l l = true
 | [] => rfl
 | x :: xs => by simp [AV.eqbL, eqb_self x, eqbL_self xs]
end
/-- What was loaded is looked at again. -/
theorem recheck_ld {d : Nat} {n : Option Nat} {a : AOpd} {r : List AOper} : recheck F σ (⟨some d, none, .ld n a⟩ :: r) = true ↔ (∃ id off, Fr.ev F a = .p (some (id, off)) ∧ σ.loadV n id off = some (Fr.tmp F d)) ∧ recheck F σ r = true := by
 simp only [recheck, wanted, cond_true, Bool.and_eq_true]
 refine and_congr ?_ Iff.rfl
 constructor
 ·intro h
  split at h
  ·rename_i v σ' he
   obtain ⟨id, off, h1, h2, _⟩ := evOp_ld.1 he
   have := eqb_eq _ _ h
   subst this
   exact ⟨id, off, h1, h2⟩
  ·cases h
 ·rintro ⟨id, off, h1, h2⟩
  have he : evOp (.ld n a) F σ = some (Fr.tmp F d, σ) := evOp_ld.2 ⟨id, off, h1, h2, rfl⟩
  rw [he]
  exact eqb_self _
attribute [go_sem] recheck_ld
@[go_sem] theorem cells_b (x : Bool) : (AV.b x).cells = [.b x] := rfl
@[go_sem] theorem cells_i (k : IntKind) (x : Int) : (AV.i k x).cells = [.i k x] := rfl
@[go_sem] theorem cells_s (x : ByteArray) : (AV.s x).cells = [.s x] := rfl
@[go_sem] theorem cells_p (x : Option (Nat × Nat)) : (AV.p x).cells = [.p x] := rfl
@[go_sem] theorem cells_sl (x : Option (Nat × Nat)) (n : Nat) : (AV.sl x n).cells = [.sl x n] := rfl
@[go_sem] theorem cells_f (g : Nat) (a c : List AV) : (AV.f g a c).cells = [.f g a c] := rfl
@[go_sem] theorem cells_nf : AV.nf.cells = [.nf] := rfl
@[go_sem] theorem cells_ag (l : List AV) : (AV.ag l).cells = l := rfl
@[go_sem] theorem cell_b (x : Bool) : (AV.b x).cell = true := rfl
@[go_sem] theorem cell_i (k : IntKind) (x : Int) : (AV.i k x).cell = true := rfl
@[go_sem] theorem cell_s (x : ByteArray) : (AV.s x).cell = true := rfl
@[go_sem] theorem cell_p (x : Option (Nat × Nat)) : (AV.p x).cell = true := rfl
@[go_sem] theorem cell_sl (x : Option (Nat × Nat)) (n : Nat) : (AV.sl x n).cell = true := rfl
@[go_sem] theorem cell_f (g : Nat) (a c : List AV) : (AV.f g a c).cell = true := rfl
@[go_sem] theorem cell_nf : AV.nf.cell = true := rfl
@[go_sem] theorem fillAll_nil (cells : List AV) : fillAll F cells [] = some cells := rfl
@[go_sem] theorem fillAll_cons {cells : List AV} {off sz : Nat} {x : AOpd} {r : List (Nat × Nat × AOpd)} (h1 : (Fr.ev F x).cells.length = sz) (h2 : (Fr.ev F x).cells.all AV.cell = true) (h3 : off + sz ≤ cells.length) : fillAll F cells ((off, sz, x) :: r) = fillAll F (fillA cells off (Fr.ev F x).cells) r := by
 have h3' : Nat.ble (off + sz) cells.length = true := by rw [Nat.ble_eq]; exact h3
 have h1' : Nat.beq (Fr.ev F x).cells.length sz = true := by rw [h1]; exact Nat.beq_refl sz
 simp only [fillAll, h1', h2, h3', Bool.and_self, cond_true]
theorem fillA_def (cells : List AV) (off : Nat) (xs : List AV) : fillA cells off xs = cells.take off ++ xs ++ cells.drop (off + xs.length) := rfl
attribute [go_sem] fillA_def List.length_cons List.length_nil List.all_cons List.all_nil Bool.and_self Bool.and_true Bool.true_and List.take_succ_cons List.take_zero List.drop_succ_cons List.drop_zero List.take_nil List.drop_nil Nat.zero_add Nat.add_zero Nat.mul_one Nat.le_refl
@[go_sem] theorem resultsA_nil : resultsA F σ [] = some [] := rfl
@[go_sem] theorem resultsA_1 {a : Nat} : resultsA F σ [.t a] = some [Fr.tmp F a] := rfl
@[go_sem] theorem resultsA_2 {a b : Nat} : resultsA F σ [.t a, .t b] = some [Fr.tmp F a, Fr.tmp F b] := rfl
@[go_sem] theorem resultsA_3 {a b c : Nat} : resultsA F σ [.t a, .t b, .t c] = some [Fr.tmp F a, Fr.tmp F b, Fr.tmp F c] := rfl
@[go_sem] theorem pack_0 : pack [] = .tu [] := rfl
@[go_sem] theorem pack_1 (v : AV) : pack [v] = v := rfl
@[go_sem] theorem pack_2 (v w : AV) (l : List AV) : pack (v :: w :: l) = .tu (v :: w :: l) := rfl
attribute [go_sem] decide_true decide_false Bool.not_true Bool.not_false cond_true cond_false not_true_eq_false not_false_eq_true if_true if_false false_and and_false exists_false imp_false
attribute [go_sem] AV.b.injEq AV.i.injEq AV.s.injEq AV.p.injEq AV.sl.injEq AV.f.injEq AV.ag.injEq AV.tu.injEq Option.some.injEq Prod.mk.injEq true_and and_true and_self exists_eq_left' exists_eq' exists_and_left and_assoc
 List.map_cons List.map_nil List.append_nil List.nil_append List.cons_append Option.map_some Option.map_none decide_eq_true_eq decide_eq_false_iff_not forall_const Bool.not_eq_true Bool.not_eq_false reduceCtorEq false_implies implies_true
end
end Go.AM

namespace Go.AM
open Go
theorem wrap_i64 {x : Int} (h1 : -9223372036854775808 ≤ x) (h2 : x < 9223372036854775808) : IntKind.i64.wrap x = x := by
 simp only [IntKind.wrap, IntKind.signed, IntKind.bits]
 simp
 omega
theorem wrap_u64 (x : Int) : IntKind.u64.wrap x = x % 18446744073709551616 := by
 simp [IntKind.wrap, IntKind.signed, IntKind.bits]
section
variable {e : Option Eq0} {k : IntKind} {a c : Int}
@[go_sem] theorem binV_add : binV .add e (.i k a) (.i k c) = some (.i k (k.wrap (a + c))) := by simp [binV, binI]
@[go_sem] theorem binV_sub : binV .sub e (.i k a) (.i k c) = some (.i k (k.wrap (a - c))) := by simp [binV, binI]
@[go_sem] theorem binV_mul : binV .mul e (.i k a) (.i k c) = some (.i k (k.wrap (a * c))) := by simp [binV, binI]
theorem binV_rem (h : c ≠ 0) : binV .rem e (.i k a) (.i k c) = some (.i k (a.tmod c)) := by simp [binV, binI, h]
@[go_sem] theorem binV_eql : binV .eql e (.i k a) (.i k c) = some (.b (decide (a = c))) := by
 simp [binV, binI]
 by_cases h : a = c <;> simp [h]
@[go_sem] theorem binV_neq : binV .neq e (.i k a) (.i k c) = some (.b (!decide (a = c))) := by
 simp [binV, binI, bne]
 by_cases h : a = c <;> simp [h]
@[go_sem] theorem binV_lss : binV .lss e (.i k a) (.i k c) = some (.b (decide (a < c))) := by simp [binV, binI]
@[go_sem] theorem binV_leq : binV .leq e (.i k a) (.i k c) = some (.b (decide (a ≤ c))) := by simp [binV, binI]
@[go_sem] theorem binV_gtr : binV .gtr e (.i k a) (.i k c) = some (.b (decide (c < a))) := by simp [binV, binI]
@[go_sem] theorem binV_geq : binV .geq e (.i k a) (.i k c) = some (.b (decide (c ≤ a))) := by simp [binV, binI]
end
@[go_sem] theorem binV_eqlb (x y : Bool) : binV .eql (some .b) (.b x) (.b y) = some (.b (x == y)) := rfl
@[go_sem] theorem binV_neqb (x y : Bool) : binV .neq (some .b) (.b x) (.b y) = some (.b (!(x == y))) := rfl
theorem bytes_eq {a b : ByteArray} : a.toList = b.toList ↔ a = b := by
 have key : ∀ a : ByteArray, a.toList = a.data.toList := fun a => by
  simp [ByteArray.toList_eq]
 constructor
 ·intro h
  rw [key, key] at h
  cases a; cases b
  simp at h
  rw [h]
 ·rintro rfl; rfl
@[go_sem] theorem binV_eqls {e : Option Eq0} (x y : ByteArray) : binV .eql e (.s x) (.s y) = some (.b (decide (x = y))) := by
 simp only [binV, binS, Option.some.injEq, AV.b.injEq]
 by_cases h : x = y
 ·simp [h]
 ·have : x.toList ≠ y.toList := fun h2 => h (bytes_eq.1 h2)
  simp [h, this]
@[go_sem] theorem binV_neqs {e : Option Eq0} (x y : ByteArray) : binV .neq e (.s x) (.s y) = some (.b (!decide (x = y))) := by
 simp only [binV, binS, Option.some.injEq, AV.b.injEq]
 by_cases h : x = y
 ·simp [h]
 ·have : x.toList ≠ y.toList := fun h2 => h (bytes_eq.1 h2)
  simp [h, this]
/-- A word. -/
def Wd (w : BitVec 64) : AV := .i .u64 (w.toNat : Int)
theorem ofInt_toNat (w : BitVec 64) : BitVec.ofInt 64 (w.toNat : Int) = w := by
 apply BitVec.eq_of_toNat_eq
 rw [BitVec.ofInt_natCast, BitVec.toNat_ofNat]
 exact Nat.mod_eq_of_lt w.isLt
theorem wrap_w (w : BitVec 64) : IntKind.u64.wrap (w.toNat : Int) = (w.toNat : Int) := by
 rw [wrap_u64]
 have := w.isLt
 omega
section
variable {e : Option Eq0} {a b : BitVec 64}
@[go_sem] theorem Wd_0 : AV.i .u64 0 = Wd 0#64 := rfl
@[go_sem] theorem Wd_1 : AV.i .u64 1 = Wd 1#64 := rfl
@[go_sem] theorem binW_and : binV .and e (Wd a) (Wd b) = some (Wd (a &&& b)) := by
 simp only [Wd, binV, binI, if_true, IntKind.bits, ofInt_toNat, wrap_w]
 rfl
@[go_sem] theorem binW_or : binV .or e (Wd a) (Wd b) = some (Wd (a ||| b)) := by
 simp only [Wd, binV, binI, if_true, IntKind.bits, ofInt_toNat, wrap_w]
 rfl
@[go_sem] theorem binW_andNot : binV .andNot e (Wd a) (Wd b) = some (Wd (a &&& ~~~b)) := by
 simp only [Wd, binV, binI, if_true, IntKind.bits, ofInt_toNat, wrap_w]
 rfl
@[go_sem] theorem binW_sub : binV .sub e (Wd a) (Wd b) = some (Wd (a - b)) := by
 simp only [Wd, binV, binI, if_true, wrap_u64, Option.some.injEq, AV.i.injEq, true_and]
 rw [BitVec.toNat_sub]
 have := a.isLt; have := b.isLt
 omega
@[go_sem] theorem binW_add : binV .add e (Wd a) (Wd b) = some (Wd (a + b)) := by
 simp only [Wd, binV, binI, if_true, wrap_u64, Option.some.injEq, AV.i.injEq, true_and]
 rw [BitVec.toNat_add]
 have := a.isLt; have := b.isLt
 omega
@[go_sem] theorem binW_eql : binV .eql e (Wd a) (Wd b) = some (.b (decide (a = b))) := by
 simp only [Wd, binV_eql, Int.natCast_inj, BitVec.toNat_inj]
@[go_sem] theorem binW_neq : binV .neq e (Wd a) (Wd b) = some (.b (!decide (a = b))) := by
 simp only [Wd, binV_neq, Int.natCast_inj, BitVec.toNat_inj]
theorem binW_shl {n : Nat} (h : n < 64) : binV .shl e (Wd a) (.i .i64 n) = some (Wd (a <<< n)) := by
 have h0 : ¬ ((n : Int) < 0) := by omega
 simp only [Wd, binV, binShift, if_neg h0, IntKind.bits, wrap_u64, Option.some.injEq, AV.i.injEq, true_and, Int.toNat_natCast]
 rw [Nat.min_eq_left (by omega), BitVec.toNat_shiftLeft, Nat.shiftLeft_eq]
 rw [show ((2 : Int) ^ n) = ((2 ^ n : Nat) : Int) by simp, ← Int.natCast_mul]
 rfl
theorem binW_shr {n : Nat} (h : n < 64) : binV .shr e (Wd a) (.i .i64 n) = some (Wd (a >>> n)) := by
 have h0 : ¬ ((n : Int) < 0) := by omega
 simp only [Wd, binV, binShift, if_neg h0, IntKind.bits, Option.some.injEq, AV.i.injEq, true_and, Int.toNat_natCast]
 rw [Nat.min_eq_left (by omega), BitVec.toNat_ushiftRight, Nat.shiftRight_eq_div_pow]
 rw [show ((2 : Int) ^ n) = ((2 ^ n : Nat) : Int) by simp, Int.fdiv_eq_ediv_of_nonneg _ (Int.natCast_nonneg _)]
 rfl
end
@[go_sem] theorem AV.cell_Wd (w : BitVec 64) : (Wd w).cell = true := rfl
@[go_sem] theorem AV.cells_Wd (w : BitVec 64) : (Wd w).cells = [Wd w] := rfl
section
variable {A : Prog}
end
end Go.AM

namespace Go.AM
open Go
class Rdr (α : Type) where
 size : Nat
 rd : St → List AV → Option α
 len : ∀ {σ : St} {cs : List AV} {x : α}, rd σ cs = some x → cs.length = size
 ext : ∀ {σ σ' : St} {cs : List AV} {x : α}, Ext0 σ σ' → rd σ cs = some x → rd σ' cs = some x
 cell : ∀ {σ : St} {cs : List AV} {x : α}, rd σ cs = some x → cs.all AV.cell = true
def rdInt (cs : List AV) : Option Int := match cs with
 | [.i .i64 n] => some n
 | _ => none
theorem rdInt_eq {cs : List AV} {n : Int} : rdInt cs = some n ↔ cs = [.i .i64 n] := by
 constructor
 ·intro h
  unfold rdInt at h
  split at h
  ·cases h; rfl
  ·cases h
 ·rintro rfl; rfl
instance : Rdr Int where
 size := 1
 rd _ cs := rdInt cs
 len h := by rw [rdInt_eq.1 h]; rfl
 ext _ h := h
 cell h := by rw [rdInt_eq.1 h]; rfl
def rdBool (cs : List AV) : Option Bool := match cs with
 | [.b n] => some n
 | _ => none
theorem rdBool_eq {cs : List AV} {n : Bool} : rdBool cs = some n ↔ cs = [.b n] := by
 constructor
 ·intro h
  unfold rdBool at h
  split at h
  ·cases h; rfl
  ·cases h
 ·rintro rfl; rfl
instance : Rdr Bool where
 size := 1
 rd _ cs := rdBool cs
 len h := by rw [rdBool_eq.1 h]; rfl
 ext _ h := h
 cell h := by rw [rdBool_eq.1 h]; rfl
def rdWord (cs : List AV) : Option (BitVec 64) := match cs with
 | [.i .u64 n] => if 0 ≤ n ∧ n < 18446744073709551616 then some (BitVec.ofInt 64 n) else none
 | _ => none
theorem rdWord_eq {cs : List AV} {n : BitVec 64} : rdWord cs = some n ↔ cs = [Wd n] := by
 constructor
 ·intro h
  unfold rdWord at h
  split at h
  ·split at h
   ·rename_i n hn
    cases h
    simp only [Wd, List.cons.injEq, and_true, AV.i.injEq, true_and]
    obtain ⟨m, rfl⟩ := Int.eq_ofNat_of_zero_le hn.1
    rw [BitVec.ofInt_natCast, BitVec.toNat_ofNat]
    omega
   ·cases h
  ·cases h
 ·rintro rfl
  have := n.isLt
  simp only [rdWord, Wd]
  rw [if_pos (by omega), ofInt_toNat]
instance : Rdr (BitVec 64) where
 size := 1
 rd _ cs := rdWord cs
 len h := by rw [rdWord_eq.1 h]; rfl
 ext _ h := h
 cell h := by rw [rdWord_eq.1 h]; rfl
def rdStr (cs : List AV) : Option ByteArray := match cs with
 | [.s n] => some n
 | _ => none
theorem rdStr_eq {cs : List AV} {n : ByteArray} : rdStr cs = some n ↔ cs = [.s n] := by
 constructor
 ·intro h
  unfold rdStr at h
  split at h
  ·cases h; rfl
  ·cases h
 ·rintro rfl; rfl
instance : Rdr ByteArray where
 size := 1
 rd _ cs := rdStr cs
 len h := by rw [rdStr_eq.1 h]; rfl
 ext _ h := h
 cell h := by rw [rdStr_eq.1 h]; rfl
/-- A byte. -/
structure U8 where
 n : Nat
def rdU8 (cs : List AV) : Option U8 := match cs with
 | [.i .u8 n] => if 0 ≤ n ∧ n < 256 then some ⟨n.toNat⟩ else none
 | _ => none
theorem rdU8_eq {cs : List AV} {n : U8} : rdU8 cs = some n ↔ cs = [.i .u8 (n.n : Int)] ∧ n.n < 256 := by
 constructor
 ·intro h
  unfold rdU8 at h
  split at h
  ·split at h
   ·rename_i n hn
    cases h
    obtain ⟨m, rfl⟩ := Int.eq_ofNat_of_zero_le hn.1
    simp only [Int.toNat_natCast]
    exact ⟨trivial, by omega⟩
   ·cases h
  ·cases h
 ·rintro ⟨rfl, h⟩
  simp only [rdU8]
  rw [if_pos (by omega)]
  rfl
instance : Rdr U8 where
 size := 1
 rd _ cs := rdU8 cs
 len h := by rw [(rdU8_eq.1 h).1]; rfl
 ext _ h := h
 cell h := by rw [(rdU8_eq.1 h).1]; rfl
section
variable {α : Type} [Rdr α]
/-- So many, one behind the other. -/
def rdAll (σ : St) : Nat → List AV → Option (List α)
 | 0, cs => if cs.length = 0 then some [] else none
 | n + 1, cs => match Rdr.rd σ (cs.take (Rdr.size α)), rdAll σ n (cs.drop (Rdr.size α)) with
  | some x, some xs => some (x :: xs)
  | _, _ => none
theorem rdAll_len {σ : St} : ∀ {n : Nat} {cs : List AV} {xs : List α}, rdAll σ n cs = some xs → xs.length = n ∧ cs.length = n * Rdr.size α := by
 intro n
 induction n with
 | zero =>
  intro cs xs h
  simp only [rdAll] at h
  split at h
  ·rename_i h0; cases h; exact ⟨rfl, by omega⟩
  ·cases h
 | succ n ih =>
  intro cs xs h
  simp only [rdAll] at h
  split at h
  ·rename_i x ys h1 h2
   cases h
   obtain ⟨h3, h4⟩ := ih h2
   have h5 := Rdr.len h1
   rw [List.length_drop] at h4
   rw [List.length_take] at h5
   refine ⟨by simp [h3], ?_⟩
   rw [Nat.succ_mul]
   omega
  ·cases h
theorem rdAll_ext {σ σ' : St} (he : Ext0 σ σ') : ∀ {n : Nat} {cs : List AV} {xs : List α}, rdAll σ n cs = some xs → rdAll σ' n cs = some xs := by
 intro n
 induction n with
 | zero => intro cs xs h; exact h
 | succ n ih =>
  intro cs xs h
  simp only [rdAll] at h ⊢
  split at h
  ·rename_i x ys h1 h2
   rw [Rdr.ext he h1, ih h2]
   exact h
  ·cases h
theorem rdAll_at {σ : St} : ∀ {n : Nat} {cs : List AV} {xs : List α}, rdAll σ n cs = some xs → ∀ (i : Nat) (h : i < xs.length), Rdr.rd σ ((cs.drop (i * Rdr.size α)).take (Rdr.size α)) = some xs[i] := by
 intro n
 induction n with
 | zero =>
  intro cs xs h i hi
  simp only [rdAll] at h
  split at h
  ·cases h; simp at hi
  ·cases h
 | succ n ih =>
  intro cs xs h i hi
  simp only [rdAll] at h
  split at h
  ·rename_i x ys h1 h2
   cases h
   cases i with
   | zero => simpa using h1
   | succ i =>
    have := ih h2 i (by simpa using hi)
    rw [List.drop_drop] at this
    rw [List.getElem_cons_succ, ← this]
    congr 3
    rw [Nat.succ_mul]
    omega
  ·cases h
def rdSl (σ : St) (cs : List AV) : Option (List α) := match cs with
 | [.sl o n] => (srcV (Rdr.size α) o n σ).bind (rdAll σ n)
 | _ => none
theorem rdSl_eq {σ : St} {cs : List AV} {xs : List α} : rdSl σ cs = some xs ↔ ∃ o ys, cs = [.sl o xs.length] ∧ srcV (Rdr.size α) o xs.length σ = some ys ∧ rdAll σ xs.length ys = some xs := by
 constructor
 ·intro h
  unfold rdSl at h
  split at h
  ·rename_i o n
   obtain ⟨ys, h1, h2⟩ := Option.bind_eq_some_iff.1 h
   obtain ⟨h3, _⟩ := rdAll_len h2
   subst h3
   exact ⟨o, ys, rfl, h1, h2⟩
  ·cases h
 ·rintro ⟨o, ys, rfl, h1, h2⟩
  simp only [rdSl, h1, Option.bind_some, h2]
theorem srcV_ext {σ σ' : St} (he : Ext0 σ σ') {esz : Nat} {o : Option (Nat × Nat)} {n : Nat} {ys : List AV} (h : srcV esz o n σ = some ys) : srcV esz o n σ' = some ys := by
 unfold srcV at h ⊢
 cases o with
 | none => exact h
 | some x => exact he.loadN h
instance : Rdr (List α) where
 size := 1
 rd σ cs := rdSl σ cs
 len h := by obtain ⟨o, ys, rfl, _⟩ := rdSl_eq.1 h; rfl
 ext he h := by
  obtain ⟨o, ys, rfl, h1, h2⟩ := rdSl_eq.1 h
  exact rdSl_eq.2 ⟨o, ys, rfl, srcV_ext he h1, rdAll_ext he h2⟩
 cell h := by obtain ⟨o, ys, rfl, _⟩ := rdSl_eq.1 h; rfl
/-- A value reads as. -/
def Rd (σ : St) (v : AV) (x : α) : Prop := Rdr.rd σ [v] = some x
theorem Rd.ext {σ σ' : St} {v : AV} {x : α} (h : Rd σ v x) (he : Ext0 σ σ') : Rd σ' v x := Rdr.ext he h
theorem Rd.sl {σ : St} {v : AV} {xs : List α} (h : Rd σ v xs) : ∃ o, v = .sl o xs.length := by
 obtain ⟨o, ys, h1, _⟩ := rdSl_eq.1 h
 simp only [List.cons.injEq, and_true] at h1
 exact ⟨o, h1⟩
theorem Rd.nil {σ : St} : Rd σ (.sl none 0) ([] : List α) := rdSl_eq.2 ⟨none, [], rfl, rfl, rfl⟩
/-- An element: where it lies, and what it reads as. -/
theorem Rd.at {σ : St} {v : AV} {xs : List α} (h : Rd σ v xs) (hs : 0 < Rdr.size α) {i : Nat} (hi : i < xs.length) {k : IntKind} :
  ∃ id off cs, idxP (Rdr.size α) v (.i k i) = some (.p (some (id, off))) ∧ σ.loadN id off (Rdr.size α) = some cs ∧ Rdr.rd σ cs = some xs[i] := by
 obtain ⟨o, ys, h1, h2, h3⟩ := rdSl_eq.1 h
 simp only [List.cons.injEq, and_true] at h1
 subst h1
 have h4 := rdAll_at h3 i hi
 obtain ⟨_, h5⟩ := rdAll_len h3
 unfold srcV at h2
 cases o with
 | none =>
  simp only at h2
  cases hb : Nat.beq xs.length 0 with
  | false => rw [hb] at h2; cases h2
  | true => have := Nat.eq_of_beq_eq_true hb; omega
 | some x =>
  obtain ⟨id, off⟩ := x
  simp only at h2
  obtain ⟨h6, h7⟩ := loadN_at h2
  refine ⟨id, off + i * Rdr.size α, _, ?_, ?_, h4⟩
  ·simp only [idxP, Int.toNat_natCast]
   rw [if_pos (by omega)]
  ·have hle : i * Rdr.size α + Rdr.size α ≤ xs.length * Rdr.size α := by
    rw [← Nat.succ_mul]
    exact Nat.mul_le_mul_right _ hi
   refine loadN_of (by rw [List.length_take, List.length_drop]; omega) fun j hj => ?_
   rw [Nat.add_assoc, h7 _ (by omega), List.getElem?_take_of_lt hj, List.getElem?_drop]
end
theorem Rd.int {σ : St} {v : AV} {x : Int} : Rd σ v x ↔ v = .i .i64 x := by
 show rdInt [v] = some x ↔ _
 rw [rdInt_eq]
 simp
theorem Rd.word {σ : St} {v : AV} {x : BitVec 64} : Rd σ v x ↔ v = Wd x := by
 show rdWord [v] = some x ↔ _
 rw [rdWord_eq]
 simp
theorem Rd.bool {σ : St} {v : AV} {x : Bool} : Rd σ v x ↔ v = .b x := by
 show rdBool [v] = some x ↔ _
 rw [rdBool_eq]
 simp
theorem Rd.str {σ : St} {v : AV} {x : ByteArray} : Rd σ v x ↔ v = .s x := by
 show rdStr [v] = some x ↔ _
 rw [rdStr_eq]
 simp
end Go.AM

namespace Go.AM
open Go
/-- An object that holds just these cells, and may be written. -/
def ObjIs (σ : St) (id ty esz len : Nat) (cells : List AV) : Prop :=
 ∃ cs, σ.get id = some { ty := ty, rw := true, esz := esz, len := len, cs := cs } ∧ cells.length = len ∧ ∀ j, j < len → cs.get j = cells[j]?
theorem ObjIs.ext {σ σ' : St} {id ty esz len : Nat} {cells : List AV} (h : ObjIs σ id ty esz len cells) (he : Ext0 σ σ') : ObjIs σ' id ty esz len cells := by
 obtain ⟨cs, h1, h2⟩ := h
 exact ⟨cs, he.keep _ _ h1, h2⟩
theorem ObjIs.of_get {σ σ' : St} {id ty esz len : Nat} {cells : List AV} (h : ObjIs σ id ty esz len cells) (he : σ'.get id = σ.get id) : ObjIs σ' id ty esz len cells := by
 obtain ⟨cs, h1, h2⟩ := h
 exact ⟨cs, he.trans h1, h2⟩
theorem ObjIs.load {σ : St} {id ty esz len : Nat} {cells : List AV} (h : ObjIs σ id ty esz len cells) {j : Nat} (hj : j < len) : σ.load1 id j = cells[j]? := by
 obtain ⟨cs, h1, h2, h3⟩ := h
 unfold St.load1
 rw [h1]
 have : Nat.blt j len = true := by simpa [Nat.blt_eq] using hj
 simp only [this, cond_true]
 exact h3 j hj
theorem ObjIs.new {σ : St} {ty esz len : Nat} {cells : List AV} (hl : cells.length = len) : ObjIs (σ.new { ty := ty, rw := true, esz := esz, len := len, cs := Tm.ofList cells }) σ.next ty esz len cells :=
 ⟨_, by rw [new_get, if_pos rfl], hl, fun j hj => Tm.get_ofList cells j⟩
theorem ObjIs.lt {σ : St} {id ty esz len : Nat} {cells : List AV} (h : ObjIs σ id ty esz len cells) (hn : NDom σ) : id < σ.next := by
 obtain ⟨cs, h1, _⟩ := h
 rcases Nat.lt_or_ge id σ.next with h2 | h2
 ·exact h2
 ·rw [hn _ h2] at h1; cases h1
/-- Cells that are written. -/
theorem ObjIs.store {σ : St} {id ty esz len : Nat} {cells : List AV} (h : ObjIs σ id ty esz len cells) : ∀ {vs : List AV} {off : Nat}, off + vs.length ≤ len → vs.all AV.cell = true →
  ∃ σ', σ.storeN id off vs = some σ' ∧ ObjIs σ' id ty esz len (cells.take off ++ vs ++ cells.drop (off + vs.length)) ∧ σ'.next = σ.next ∧ ∀ j, j ≠ id → σ'.get j = σ.get j := by
 intro vs
 induction vs generalizing σ cells with
 | nil =>
  intro off ho _
  refine ⟨σ, rfl, ?_, rfl, fun _ _ => rfl⟩
  simpa using h
 | cons v vs ih =>
  intro off ho hc
  simp only [List.length_cons] at ho
  simp only [List.all_cons, Bool.and_eq_true] at hc
  obtain ⟨cs, h1, h2, h3⟩ := h
  have hb : Nat.blt off len = true := by simp [Nat.blt_eq]; omega
  have e1 : σ.store1 id off v = some (σ.put id { ty := ty, rw := true, esz := esz, len := len, cs := cs.set off v }) := by
   unfold St.store1
   rw [h1]
   simp only [hb, hc.1, Bool.and_true, cond_true]
  have o1 : ObjIs (σ.put id { ty := ty, rw := true, esz := esz, len := len, cs := cs.set off v }) id ty esz len (cells.set off v) := by
   refine ⟨_, by rw [get_put, if_pos rfl], by rw [List.length_set]; exact h2, fun j hj => ?_⟩
   rw [Tm.get_set, List.getElem?_set]
   by_cases e : j = off
   ·subst e; rw [if_pos rfl, if_pos rfl, if_pos (by omega)]
   ·rw [if_neg e, if_neg (Ne.symm e)]; exact h3 j hj
  obtain ⟨σ', g1, g2, g3, g4⟩ := ih o1 (off := off + 1) (by omega) hc.2
  refine ⟨σ', ?_, ?_, g3, fun j hj => ?_⟩
  ·unfold St.storeN
   rw [e1]
   exact g1
  ·have e2 : (cells.set off v).take (off + 1) ++ vs ++ (cells.set off v).drop (off + 1 + vs.length) = cells.take off ++ (v :: vs) ++ cells.drop (off + (v :: vs).length) := by
    rw [List.take_add_one, List.getElem?_set, if_pos rfl, if_pos (by omega), List.take_set_of_le (by omega), List.drop_set_of_lt (by omega)]
    simp only [Option.toList, List.append_assoc, List.cons_append, List.nil_append, List.length_cons]
    rw [show off + 1 + vs.length = off + (vs.length + 1) by omega]
   rw [e2] at g2
   exact g2
  ·rw [g4 j hj, get_put, if_neg hj]
/-- A slice of the call's own: nothing of what was there at σ0 is its memory. -/
def Own (σ0 σ : St) (v : AV) (ty esz n : Nat) (cells : List AV) : Prop :=
 (v = .sl none 0 ∧ n = 0 ∧ cells = []) ∨ ∃ id, v = .sl (some (id, 0)) n ∧ σ0.get id = none ∧ ObjIs σ id ty esz (n * esz) cells
theorem Own.ext {σ0 σ σ' : St} {v : AV} {ty esz n : Nat} {cells : List AV} (h : Own σ0 σ v ty esz n cells) (he : Ext0 σ σ') : Own σ0 σ' v ty esz n cells := by
 rcases h with h | ⟨id, h1, h2, h3⟩
 ·exact .inl h
 ·exact .inr ⟨id, h1, h2, h3.ext he⟩
theorem Own.nil {σ0 σ : St} {ty esz : Nat} : Own σ0 σ (.sl none 0) ty esz 0 [] := .inl ⟨rfl, rfl, rfl⟩
theorem Own.sl {σ0 σ : St} {v : AV} {ty esz n : Nat} {cells : List AV} (h : Own σ0 σ v ty esz n cells) : ∃ o, v = .sl o n := by
 rcases h with ⟨rfl, rfl, _⟩ | ⟨id, h1, _⟩
 ·exact ⟨none, rfl⟩
 ·exact ⟨_, h1⟩
theorem Own.len {σ0 σ : St} {v : AV} {ty esz n : Nat} {cells : List AV} (h : Own σ0 σ v ty esz n cells) : cells.length = n * esz := by
 rcases h with ⟨rfl, rfl, rfl⟩ | ⟨id, _, _, h1⟩
 ·simp
 ·obtain ⟨cs, _, h2, _⟩ := h1; exact h2
theorem Own.src {σ0 σ : St} {o : Option (Nat × Nat)} {ty esz n : Nat} {cells : List AV} (h : Own σ0 σ (.sl o n) ty esz n cells) : srcV esz o n σ = some cells := by
 rcases h with ⟨h1, rfl, rfl⟩ | ⟨id, h1, _, h2⟩
 ·cases h1; rfl
 ·cases h1
  have h4 : cells.length = n * esz := by obtain ⟨cs, _, h4, _⟩ := h2; exact h4
  exact loadN_of h4 fun j hj => by rw [Nat.zero_add]; exact h2.load hj
theorem Own.rd {α : Type} [Rdr α] {σ0 σ : St} {v : AV} {ty n : Nat} {cells : List AV} {xs : List α} (h : Own σ0 σ v ty (Rdr.size α) n cells) (hx : rdAll σ n cells = some xs) : Rd σ v xs := by
 obtain ⟨o, rfl⟩ := h.sl
 obtain ⟨h1, _⟩ := rdAll_len hx
 subst h1
 exact rdSl_eq.2 ⟨o, cells, rfl, h.src, hx⟩
theorem ObjIs.loadV {σ : St} {id ty esz len : Nat} {cells : List AV} (h : ObjIs σ id ty esz len cells) {j : Nat} (hj : j < len) {c : AV} (hc : cells[j]? = some c) : σ.loadV none id j = some c := (h.load hj).trans hc
theorem Ext0.upd {a b c : St} (h : Ext0 a b) {id : Nat} (hid : a.get id = none) (hn : id < b.next) (hx : c.next = b.next) (hg : ∀ j, j ≠ id → c.get j = b.get j) : Ext0 a c := by
 refine ⟨by rw [hx]; exact h.nx, fun j o x => ?_, fun j hj => ?_⟩
 ·have : j ≠ id := by rintro rfl; rw [hid] at x; cases x
  rw [hg j this]
  exact h.keep _ _ x
 ·rw [hx] at hj
  rw [hg j (by omega)]
  exact h.nd _ hj
theorem Own.upd {σ0 σ σ' : St} {v : AV} {ty esz n r : Nat} {cells : List AV} (h : Own σ0 σ v ty esz n cells) (hne : ∀ off n, v ≠ .sl (some (r, off)) n) (hg : ∀ j, j ≠ r → σ'.get j = σ.get j) : Own σ0 σ' v ty esz n cells := by
 rcases h with h | ⟨id, h1, h2, h3⟩
 ·exact .inl h
 ·exact .inr ⟨id, h1, h2, h3.of_get (hg id (by rintro rfl; exact hne _ _ h1))⟩
@[go_sem] theorem loadV_new {σ : St} {ty esz len j : Nat} {rw : Bool} {cells : List AV} : (σ.new { ty := ty, rw := rw, esz := esz, len := len, cs := Tm.ofList cells }).loadV none σ.next j = if j < len then cells[j]? else none := by
 show St.load1 _ _ _ = _
 unfold St.load1
 rw [new_get, if_pos rfl]
 by_cases h : j < len
 ·have : Nat.blt j len = true := by simpa [Nat.blt_eq] using h
  simp only [this, cond_true, if_pos h, Tm.get_ofList]
 ·have : Nat.blt j len = false := by
   cases hb : Nat.blt j len with
   | false => rfl
   | true => rw [Nat.blt_eq] at hb; exact absurd hb h
  simp only [this, cond_false, if_neg h]
theorem ObjIs.loadAll {σ : St} {id ty esz len : Nat} {cells : List AV} (h : ObjIs σ id ty esz len cells) {off n : Nat} (hn : off + n ≤ len) : σ.loadV (some n) id off = some (.ag ((cells.drop off).take n)) := by
 have hl : cells.length = len := by obtain ⟨cs, _, h4, _⟩ := h; exact h4
 have : σ.loadN id off n = some ((cells.drop off).take n) := by
  refine loadN_of (by rw [List.length_take, List.length_drop]; omega) fun j hj => ?_
  rw [h.load (by omega), List.getElem?_take_of_lt hj, List.getElem?_drop]
 unfold St.loadV
 simp only [this]
@[go_sem] theorem loadV_newN {σ : St} {ty esz len n : Nat} {cells : List AV} (h1 : cells.length = len) (h2 : n = len) : (σ.new { ty := ty, rw := true, esz := esz, len := len, cs := Tm.ofList cells }).loadV (some n) σ.next 0 = some (.ag cells) := by
 have h : ObjIs (σ.new { ty := ty, rw := true, esz := esz, len := len, cs := Tm.ofList cells }) σ.next ty esz len cells := ObjIs.new h1
 subst h2
 rw [h.loadAll (by omega), List.drop_zero, List.take_of_length_le (by omega)]
theorem Own.new {σ : St} (hn : NDom σ) {ty esz n : Nat} {cells : List AV} (hl : cells.length = n * esz) : Own σ (σ.new { ty := ty, rw := true, esz := esz, len := n * esz, cs := Tm.ofList cells }) (.sl (some (σ.next, 0)) n) ty esz n cells :=
 .inr ⟨σ.next, rfl, hn _ (Nat.le_refl _), ObjIs.new hl⟩
theorem Own.base {σ0 σ1 σ : St} {v : AV} {ty esz n : Nat} {cells : List AV} (h : Own σ1 σ v ty esz n cells) (he : Ext0 σ0 σ1) : Own σ0 σ v ty esz n cells := by
 rcases h with h | ⟨id, e1, e2, e3⟩
 ·exact .inl h
 ·refine .inr ⟨id, e1, ?_, e3⟩
  cases hg : σ0.get id with
  | none => rfl
  | some ob => rw [he.keep _ _ hg] at e2; cases e2
end Go.AM

namespace Go.AM
open Go Go.Proofs
def oneF (i : Int) : BitVec 64 := if 0 ≤ i ∧ i < 64 then 1#64 <<< i.toNat else 0#64
def listN (s : BitVec 64) : List Nat := (List.range 64).filter fun i => s.getLsbD i
theorem listN_lt {s : BitVec 64} {i : Nat} (h : i ∈ listN s) : i < 64 ∧ s.getLsbD i = true := by
 simpa [listN] using h
theorem mem_listN {s : BitVec 64} {i : Nat} : i ∈ listN s ↔ s.getLsbD i = true := by
 constructor
 ·intro h; exact (listN_lt h).2
 ·intro h
  have : i < 64 := by
   rcases Nat.lt_or_ge i 64 with h1 | h1
   ·exact h1
   ·rw [BitVec.getLsbD_of_ge _ _ h1] at h; cases h
  simp [listN, this, h]
theorem oneF_bit (i : Int) (j : Nat) : (oneF i).getLsbD j = decide ((j : Int) = i ∧ j < 64) := by
 unfold oneF
 split
 ·rename_i h
  obtain ⟨n, rfl⟩ := Int.eq_ofNat_of_zero_le h.1
  simp only [Int.toNat_natCast, BitVec.getLsbD_shiftLeft]
  by_cases hj : j < 64
  ·by_cases e : j = n
   ·subst e; simp [hj]
   ·have : ¬ ((j : Int) = n) := by omega
    simp only [this, hj]
    simp
    intro h2 h3
    omega
  ·simp [hj]
 ·rename_i h
  simp
  intro e
  omega
theorem and_oneF_eq (s : BitVec 64) (i : Int) : (s &&& oneF i = 0#64) ↔ ¬ (0 ≤ i ∧ s.getLsbD i.toNat = true) := by
 constructor
 ·rintro h ⟨h0, h1⟩
  have := congrArg (fun x => x.getLsbD i.toNat) h
  simp only [BitVec.getLsbD_and, h1, Bool.true_and, oneF_bit] at this
  have h2 : i.toNat < 64 := by
   rcases Nat.lt_or_ge i.toNat 64 with h2 | h2
   ·exact h2
   ·rw [BitVec.getLsbD_of_ge _ _ h2] at h1; cases h1
  simp at this
  omega
 ·intro h
  apply BitVec.eq_of_getLsbD_eq
  intro j hj
  rw [BitVec.getLsbD_and, oneF_bit]
  simp
  intro h1 h2
  exfalso
  apply h
  have : i.toNat = j := by omega
  rw [this]
  exact ⟨by omega, h1⟩
/-- Whether a number is in a set. -/
def hasF (s : BitVec 64) (i : Int) : Bool := decide (0 ≤ i) && s.getLsbD i.toNat
theorem hasF_eq (s : BitVec 64) (i : Int) : (!decide (s &&& oneF i = 0#64)) = hasF s i := by
 have h := and_oneF_eq s i
 unfold hasF
 cases hb : decide (s &&& oneF i = 0#64) with
 | true =>
  have := h.1 (of_decide_eq_true hb)
  by_cases h0 : 0 ≤ i
  ·cases h1 : s.getLsbD i.toNat with
   | false => simp
   | true => exact absurd ⟨h0, h1⟩ this
  ·simp [h0]
 | false =>
  have h2 : ¬ s &&& oneF i = 0#64 := of_decide_eq_false hb
  have h3 : 0 ≤ i ∧ s.getLsbD i.toNat = true := Classical.byContradiction fun hn => h2 (h.2 hn)
  simp [h3.1, h3.2]
theorem hasF_nat (s : BitVec 64) (i : Nat) : hasF s (i : Int) = s.getLsbD i := by simp [hasF]
/-- The set of those that are so. -/
def setF (p : Nat → Bool) : BitVec 64 := (List.range 64).foldl (fun s i => if p i then s ||| oneF i else s) 0#64
theorem setF_bit (p : Nat → Bool) (j : Nat) : (setF p).getLsbD j = (p j && decide (j < 64)) := by
 have key : ∀ n, n ≤ 64 → ((List.range n).foldl (fun s i => if p i then s ||| oneF i else s) 0#64).getLsbD j = (p j && decide (j < n)) := by
  intro n
  induction n with
  | zero => intro _; simp
  | succ n ih =>
   intro hn
   rw [List.range_succ, List.foldl_append, List.foldl_cons, List.foldl_nil]
   have ih := ih (by omega)
   have h1 : decide (j < n + 1) = (decide (j < n) || decide (j = n)) := by
    by_cases h : j < n
    ·simp [h]; omega
    ·by_cases h2 : j = n
     ·simp [h2]
     ·simp [h, h2]; omega
   split
   ·rename_i hp
    rw [BitVec.getLsbD_or, ih, oneF_bit, h1]
    by_cases e : j = n
    ·subst e
     have : j < 64 := by omega
     simp [hp, this]
    ·have : ¬ ((j : Int) = n) := by omega
     simp [this, e]
   ·rename_i hp
    rw [ih, h1]
    by_cases e : j = n
    ·subst e; simp at hp; simp [hp]
    ·simp [e]
 exact key 64 (Nat.le_refl _)
theorem word_ext {a b : BitVec 64} (h : ∀ j, j < 64 → a.getLsbD j = b.getLsbD j) : a = b := BitVec.eq_of_getLsbD_eq fun j hj => h j hj
theorem setF_put (p : Nat → Bool) (k : Nat) (hk : k < 64) : setF p ||| oneF k = setF (fun j => p j || decide (j = k)) := by
 apply word_ext
 intro j hj
 rw [BitVec.getLsbD_or, setF_bit, setF_bit, oneF_bit]
 have : (decide ((j : Int) = (k : Int) ∧ j < 64)) = decide (j = k) := by
  by_cases e : j = k
  ·subst e; simp [hj]
  ·have : ¬ ((j : Int) = k) := by omega
   simp [e, this]
 rw [this]
 simp [hj]
theorem setF_congr {p q : Nat → Bool} (h : ∀ j, j < 64 → p j = q j) : setF p = setF q := by
 apply word_ext
 intro j hj
 rw [setF_bit, setF_bit, h j hj]
theorem setF_none : setF (fun _ => false) = 0#64 := by
 apply word_ext
 intro j hj
 rw [setF_bit]
 simp
end Go.AM

namespace Go.AM
open Go
structure Node where
 thread : Int
 up : Int
 kind : Int
 loc : Int
 mode : Int
 val : Int
 rmw : Bool
 fin : Bool
 regs : List Int
 deriving DecidableEq
structure Tree where
 vals : Int
 locs : List ByteArray
 regs : List (List ByteArray)
 nodes : List Node
structure Shape where
 has : List Int
 jf : List Int
 mo : List (List (List Int))
 deriving DecidableEq
structure Exec where
 has : List Int
 rf : List Int
 mo : List (List Int)
 deriving DecidableEq
def nodeCells (n : Node) (rv : AV) : List AV := [.i .i64 n.thread, .i .i64 n.up, .i .i64 n.kind, .i .i64 n.loc, .i .i64 n.mode, .i .i64 n.val, .b n.rmw, .b n.fin, rv]
def rdNode (σ : St) (cs : List AV) : Option Node := match cs with
 | [.i .i64 a, .i .i64 b, .i .i64 c, .i .i64 d, .i .i64 e, .i .i64 f, .b g, .b h, rv] => match rdSl σ [rv] with
  | some rs => some ⟨a, b, c, d, e, f, g, h, rs⟩
  | none => none
 | _ => none
theorem rdNode_eq {σ : St} {cs : List AV} {n : Node} : rdNode σ cs = some n ↔ ∃ rv, cs = nodeCells n rv ∧ Rd σ rv n.regs := by
 constructor
 ·intro h
  unfold rdNode at h
  split at h
  ·rename_i a b c d e f g k rv
   split at h
   ·rename_i rs hrs
    cases h
    exact ⟨rv, rfl, hrs⟩
   ·cases h
  ·cases h
 ·rintro ⟨rv, rfl, h⟩
  have h' : rdSl σ [rv] = some n.regs := h
  simp only [rdNode, nodeCells, h']
theorem Rd.cell {α : Type} [Rdr α] {σ : St} {v : AV} {x : α} (h : Rd σ v x) : v.cell = true := by
 have := Rdr.cell h
 simpa using this
instance : Rdr Node where
 size := 9
 rd σ cs := rdNode σ cs
 len h := by obtain ⟨rv, rfl, _⟩ := rdNode_eq.1 h; rfl
 ext he h := by
  obtain ⟨rv, rfl, h1⟩ := rdNode_eq.1 h
  exact rdNode_eq.2 ⟨rv, rfl, h1.ext he⟩
 cell h := by
  obtain ⟨rv, rfl, h1⟩ := rdNode_eq.1 h
  have := h1.cell
  simp only [nodeCells, List.all_cons, List.all_nil, this]
  rfl
def treeCells (t : Tree) (a b c : AV) : List AV := [.i .i64 t.vals, a, b, c]
/-- A tree, as a value. -/
def RdT (σ : St) (v : AV) (t : Tree) : Prop := ∃ a b c, v = .ag (treeCells t a b c) ∧ Rd σ a t.locs ∧ Rd σ b t.regs ∧ Rd σ c t.nodes
theorem RdT.ext {σ σ' : St} {v : AV} {t : Tree} (h : RdT σ v t) (he : Ext0 σ σ') : RdT σ' v t := by
 obtain ⟨a, b, c, h1, h2, h3, h4⟩ := h
 exact ⟨a, b, c, h1, h2.ext he, h3.ext he, h4.ext he⟩
def RdS (σ : St) (v : AV) (s : Shape) : Prop := ∃ a b c, v = .ag [a, b, c] ∧ Rd σ a s.has ∧ Rd σ b s.jf ∧ Rd σ c s.mo
theorem RdS.ext {σ σ' : St} {v : AV} {t : Shape} (h : RdS σ v t) (he : Ext0 σ σ') : RdS σ' v t := by
 obtain ⟨a, b, c, h1, h2, h3, h4⟩ := h
 exact ⟨a, b, c, h1, h2.ext he, h3.ext he, h4.ext he⟩
def RdE (σ : St) (v : AV) (s : Exec) : Prop := ∃ a b c, v = .ag [a, b, c] ∧ Rd σ a s.has ∧ Rd σ b s.rf ∧ Rd σ c s.mo
theorem RdE.ext {σ σ' : St} {v : AV} {t : Exec} (h : RdE σ v t) (he : Ext0 σ σ') : RdE σ' v t := by
 obtain ⟨a, b, c, h1, h2, h3, h4⟩ := h
 exact ⟨a, b, c, h1, h2.ext he, h3.ext he, h4.ext he⟩
theorem Rd.cells {α : Type} [Rdr α] {σ : St} {v : AV} {x : List α} (h : Rd σ v x) : v.cells = [v] := by
 obtain ⟨o, rfl⟩ := h.sl
 rfl
end Go.AM

namespace Go.AM
open Go
def enc : List Nat → Nat
 | [] => 0
 | b :: r => b + 256 * enc r
theorem land_block (a b c d : Nat) (ha : a < 256) (hc : c < 256) : (a + 256 * b) &&& (c + 256 * d) = (a &&& c) + 256 * (b &&& d) := by
 have hac : a &&& c < 2 ^ 8 := Nat.and_lt_two_pow _ (by omega)
 apply Nat.eq_of_testBit_eq
 intro j
 rw [Nat.testBit_and]
 rw [show a + 256 * b = 2 ^ 8 * b + a by omega, show c + 256 * d = 2 ^ 8 * d + c by omega, show (a &&& c) + 256 * (b &&& d) = 2 ^ 8 * (b &&& d) + (a &&& c) by omega]
 rw [Nat.testBit_two_pow_mul_add _ (by omega), Nat.testBit_two_pow_mul_add _ (by omega), Nat.testBit_two_pow_mul_add _ hac]
 split <;> rw [Nat.testBit_and]
def f1 (b : Nat) : Nat := (b / 2 &&& 85) + (b &&& 85)
def f2 (b : Nat) : Nat := (b / 4 &&& 51) + (b &&& 51)
def f3 (b : Nat) : Nat := b / 16 + b % 16
def pc8 (b : Nat) : Nat := ((List.range 8).filter fun i => b.testBit i).length
theorem k1 : ∀ b : Fin 256, ∀ t : Fin 2, (b.val / 2 + 128 * t.val) &&& 85 = b.val / 2 &&& 85 := by decide +kernel
theorem k2 : ∀ b : Fin 256, ∀ t : Fin 4, (b.val / 4 + 64 * t.val) &&& 51 = b.val / 4 &&& 51 := by decide +kernel
theorem k3 : ∀ b : Fin 256, ∀ t : Fin 5, b.val % 16 ≤ 4 → b.val / 16 ≤ 4 → (b.val / 16 + 16 * t.val + b.val) &&& 15 = f3 b.val := by decide +kernel
theorem k4 : ∀ b : Fin 256, f1 b.val < 256 ∧ f2 (f1 b.val) < 256 ∧ f2 (f1 b.val) % 16 ≤ 4 ∧ f2 (f1 b.val) / 16 ≤ 4 ∧ f3 (f2 (f1 b.val)) = pc8 b.val ∧ pc8 b.val ≤ 8 := by decide +kernel
theorem enc1 : ∀ bs : List Nat, (∀ b ∈ bs, b < 256) → (enc bs / 2 &&& enc (List.replicate bs.length 85)) + (enc bs &&& enc (List.replicate bs.length 85)) = enc (bs.map f1)
 | [], _ => by simp [enc]
 | b :: r, h => by
  have hb := h b (by simp)
  have ih := enc1 r fun x hx => h x (by simp [hx])
  simp only [List.length_cons, List.replicate_succ, enc, List.map_cons]
  generalize enc r = R at *
  generalize enc (List.replicate r.length 85) = M at *
  have e1 : (b + 256 * R) / 2 = (b / 2 + 128 * (R % 2)) + 256 * (R / 2) := by omega
  have e2 := k1 ⟨b, hb⟩ ⟨R % 2, by omega⟩
  simp only at e2
  rw [e1, land_block _ _ _ _ (by omega) (by omega), land_block _ _ _ _ hb (by omega), e2, ← ih, f1]
  omega
theorem enc2 : ∀ bs : List Nat, (∀ b ∈ bs, b < 256) → (enc bs / 4 &&& enc (List.replicate bs.length 51)) + (enc bs &&& enc (List.replicate bs.length 51)) = enc (bs.map f2)
 | [], _ => by simp [enc]
 | b :: r, h => by
  have hb := h b (by simp)
  have ih := enc2 r fun x hx => h x (by simp [hx])
  simp only [List.length_cons, List.replicate_succ, enc, List.map_cons]
  generalize enc r = R at *
  generalize enc (List.replicate r.length 51) = M at *
  have e1 : (b + 256 * R) / 4 = (b / 4 + 64 * (R % 4)) + 256 * (R / 4) := by omega
  have e2 := k2 ⟨b, hb⟩ ⟨R % 4, by omega⟩
  simp only at e2
  rw [e1, land_block _ _ _ _ (by omega) (by omega), land_block _ _ _ _ hb (by omega), e2, ← ih, f2]
  omega
theorem enc_mod : ∀ bs : List Nat, (∀ b ∈ bs, b < 256 ∧ b % 16 ≤ 4 ∧ b / 16 ≤ 4) → enc bs % 16 ≤ 4
 | [], _ => by simp [enc]
 | b :: r, h => by
  have hb := h b (by simp)
  simp only [enc]
  omega
theorem enc3 : ∀ bs : List Nat, (∀ b ∈ bs, b < 256 ∧ b % 16 ≤ 4 ∧ b / 16 ≤ 4) → (enc bs / 16 + enc bs) &&& enc (List.replicate bs.length 15) = enc (bs.map f3)
 | [], _ => by simp [enc]
 | b :: r, h => by
  have hb := h b (by simp)
  have ih := enc3 r fun x hx => h x (by simp [hx])
  have hm := enc_mod r fun x hx => h x (by simp [hx])
  simp only [List.length_cons, List.replicate_succ, enc, List.map_cons]
  generalize enc r = R at *
  generalize enc (List.replicate r.length 15) = M at *
  have e1 : (b + 256 * R) / 16 + (b + 256 * R) = (b / 16 + 16 * (R % 16) + b) + 256 * (R / 16 + R) := by omega
  have e2 := k3 ⟨b, hb.1⟩ ⟨R % 16, by omega⟩ hb.2.1 hb.2.2
  simp only at e2
  rw [e1, land_block _ _ _ _ (by omega) (by omega), e2, ← ih]
/-- The bytes of a word. -/
def bytesOf (x : Nat) : List Nat := [x % 256, x / 256 % 256, x / 65536 % 256, x / 16777216 % 256, x / 4294967296 % 256, x / 1099511627776 % 256, x / 281474976710656 % 256, x / 72057594037927936 % 256]
theorem enc_bytes {x : Nat} (h : x < 18446744073709551616) : enc (bytesOf x) = x := by
 simp only [bytesOf, enc]
 omega
def s1 (x : Nat) : Nat := ((x / 2) &&& 6148914691236517205) + (x &&& 6148914691236517205)
def s2 (x : Nat) : Nat := ((x / 4) &&& 3689348814741910323) + (x &&& 3689348814741910323)
def s3 (x : Nat) : Nat := (x / 16 + x) &&& 1085102592571150095
def s4 (x : Nat) : Nat := x + x / 256
def s5 (x : Nat) : Nat := x + x / 65536
def s6 (x : Nat) : Nat := x + x / 4294967296
theorem bytes_lt {x b : Nat} (hb : b ∈ bytesOf x) : b < 256 := by
 simp only [bytesOf, List.mem_cons, List.not_mem_nil, or_false] at hb
 omega
theorem m1 (l : List Nat) (h : l.length = 8) : enc (List.replicate l.length 85) = 6148914691236517205 := by rw [h]; decide
theorem m2 (l : List Nat) (h : l.length = 8) : enc (List.replicate l.length 51) = 3689348814741910323 := by rw [h]; decide
theorem m3 (l : List Nat) (h : l.length = 8) : enc (List.replicate l.length 15) = 1085102592571150095 := by rw [h]; decide
theorem bl (x : Nat) : (bytesOf x).length = 8 := rfl
theorem s1_eq {x : Nat} (h : x < 18446744073709551616) : s1 x = enc ((bytesOf x).map f1) := by
 have h1 := enc1 (bytesOf x) fun b hb => bytes_lt hb
 rw [enc_bytes h, m1 _ (bl x)] at h1
 exact h1
theorem s2_eq {x : Nat} (h : x < 18446744073709551616) : s2 (s1 x) = enc (((bytesOf x).map f1).map f2) := by
 rw [s1_eq h]
 have h2 := enc2 ((bytesOf x).map f1) (by
  intro b hb'
  obtain ⟨c, hc, rfl⟩ := List.mem_map.1 hb'
  exact (k4 ⟨c, bytes_lt hc⟩).1)
 rw [m2 _ (by rw [List.length_map]; exact bl x)] at h2
 exact h2
theorem s3_eq {x : Nat} (h : x < 18446744073709551616) : s3 (s2 (s1 x)) = enc ((bytesOf x).map pc8) := by
 rw [s2_eq h]
 have hg : ∀ b ∈ ((bytesOf x).map f1).map f2, b < 256 ∧ b % 16 ≤ 4 ∧ b / 16 ≤ 4 := by
  intro b hb'
  obtain ⟨c, hc, rfl⟩ := List.mem_map.1 hb'
  obtain ⟨d, hd, rfl⟩ := List.mem_map.1 hc
  have := k4 ⟨d, bytes_lt hd⟩
  exact ⟨this.2.1, this.2.2.1, this.2.2.2.1⟩
 have h3 := enc3 (((bytesOf x).map f1).map f2) hg
 rw [m3 _ (by rw [List.length_map, List.length_map]; exact bl x)] at h3
 have h4 : ((((bytesOf x).map f1).map f2).map f3) = (bytesOf x).map pc8 := by
  rw [List.map_map, List.map_map]
  apply List.map_congr_left
  intro b hb'
  exact (k4 ⟨b, bytes_lt hb'⟩).2.2.2.2.1
 rw [h4] at h3
 exact h3
theorem sum4 (p0 p1 p2 p3 p4 p5 p6 p7 : Nat) (h0 : p0 ≤ 8) (h1 : p1 ≤ 8) (h2 : p2 ≤ 8) (h3 : p3 ≤ 8) (h4 : p4 ≤ 8) (h5 : p5 ≤ 8) (h6 : p6 ≤ 8) (h7 : p7 ≤ 8) :
  s4 (enc [p0, p1, p2, p3, p4, p5, p6, p7]) = (p0 + p1) + 256 * ((p1 + p2) + 256 * ((p2 + p3) + 256 * ((p3 + p4) + 256 * ((p4 + p5) + 256 * ((p5 + p6) + 256 * ((p6 + p7) + 256 * p7)))))) := by
 simp only [enc, s4]
 omega
theorem sum5 (q0 q1 q2 q3 q4 q5 q6 q7 : Nat) (h0 : q0 ≤ 16) (h1 : q1 ≤ 16) (h2 : q2 ≤ 16) (h3 : q3 ≤ 16) (h4 : q4 ≤ 16) (h5 : q5 ≤ 16) (h6 : q6 ≤ 16) (h7 : q7 ≤ 16) :
  s5 (q0 + 256 * (q1 + 256 * (q2 + 256 * (q3 + 256 * (q4 + 256 * (q5 + 256 * (q6 + 256 * q7))))))) = (q0 + q2) + 256 * ((q1 + q3) + 256 * ((q2 + q4) + 256 * ((q3 + q5) + 256 * ((q4 + q6) + 256 * ((q5 + q7) + 256 * (q6 + 256 * q7)))))) := by
 simp only [s5]
 omega
theorem sum6 (q0 q1 q2 q3 q4 q5 q6 q7 : Nat) (h0 : q0 ≤ 32) (h1 : q1 ≤ 32) (h2 : q2 ≤ 32) (h3 : q3 ≤ 32) (h4 : q4 ≤ 32) (h5 : q5 ≤ 32) (h6 : q6 ≤ 32) (h7 : q7 ≤ 32) :
  s6 (q0 + 256 * (q1 + 256 * (q2 + 256 * (q3 + 256 * (q4 + 256 * (q5 + 256 * (q6 + 256 * q7))))))) % 128 = (q0 + q4) % 128 := by
 simp only [s6]
 have e : (q0 + 256 * (q1 + 256 * (q2 + 256 * (q3 + 256 * (q4 + 256 * (q5 + 256 * (q6 + 256 * q7))))))) / 4294967296 = q4 + 256 * (q5 + 256 * (q6 + 256 * q7)) := by omega
 omega
theorem sums (p0 p1 p2 p3 p4 p5 p6 p7 : Nat) (h0 : p0 ≤ 8) (h1 : p1 ≤ 8) (h2 : p2 ≤ 8) (h3 : p3 ≤ 8) (h4 : p4 ≤ 8) (h5 : p5 ≤ 8) (h6 : p6 ≤ 8) (h7 : p7 ≤ 8) :
  s6 (s5 (s4 (enc [p0, p1, p2, p3, p4, p5, p6, p7]))) % 128 = p0 + p1 + p2 + p3 + p4 + p5 + p6 + p7 := by
 rw [sum4 _ _ _ _ _ _ _ _ h0 h1 h2 h3 h4 h5 h6 h7, sum5 _ _ _ _ _ _ _ _ (by omega) (by omega) (by omega) (by omega) (by omega) (by omega) (by omega) (by omega),
  sum6 _ _ _ _ _ _ _ _ (by omega) (by omega) (by omega) (by omega) (by omega) (by omega) (by omega) (by omega)]
 omega
theorem popc {x : Nat} (h : x < 18446744073709551616) : s6 (s5 (s4 (s3 (s2 (s1 x))))) % 128 = ((bytesOf x).map pc8).sum := by
 rw [s3_eq h]
 have hp : ∀ b ∈ bytesOf x, pc8 b ≤ 8 := fun b hb' => (k4 ⟨b, bytes_lt hb'⟩).2.2.2.2.2
 simp only [bytesOf, List.mem_cons, List.not_mem_nil, or_false, forall_eq_or_imp, forall_eq] at hp
 obtain ⟨h0, h1, h2, h3, h4, h5, h6, h7⟩ := hp
 simp only [bytesOf, List.map_cons, List.map_nil, List.sum_cons, List.sum_nil]
 rw [sums _ _ _ _ _ _ _ _ h0 h1 h2 h3 h4 h5 h6 h7]
 omega
def cnt (n x : Nat) : Nat := ((List.range n).filter fun i => x.testBit i).length
theorem cnt_succ (n x : Nat) : cnt (n + 1) x = x % 2 + cnt n (x / 2) := by
 unfold cnt
 rw [List.range_succ_eq_map, List.filter_cons]
 have e : ((List.map Nat.succ (List.range n)).filter fun i => x.testBit i).length = ((List.range n).filter fun i => (x / 2).testBit i).length := by
  rw [List.filter_map, List.length_map]
  congr 1
  apply List.filter_congr
  intro i _
  simp [Nat.testBit_succ]
 have h0 : x.testBit 0 = decide (x % 2 = 1) := by simp [Nat.testBit_zero]
 rw [h0]
 by_cases h : x % 2 = 1
 ·simp only [h, decide_true, if_true, List.length_cons, e]
  omega
 ·simp only [h, decide_false]
  simp only [Bool.false_eq_true, if_false, e]
  omega
theorem cnt_zero (x : Nat) : cnt 0 x = 0 := rfl
theorem cnt8 (n x : Nat) : cnt (n + 8) x = pc8 (x % 256) + cnt n (x / 256) := by
 have hp : pc8 (x % 256) = cnt 8 (x % 256) := rfl
 rw [hp]
 simp only [cnt_succ, cnt_zero]
 have e : x / 2 / 2 / 2 / 2 / 2 / 2 / 2 / 2 = x / 256 := by omega
 rw [e]
 omega
theorem cnt64 (x : Nat) : cnt 64 x = ((bytesOf x).map pc8).sum := by
 rw [show 64 = 56 + 8 from rfl, cnt8, show 56 = 48 + 8 from rfl, cnt8, show 48 = 40 + 8 from rfl, cnt8, show 40 = 32 + 8 from rfl, cnt8, show 32 = 24 + 8 from rfl, cnt8, show 24 = 16 + 8 from rfl, cnt8, show 16 = 8 + 8 from rfl, cnt8, show 8 = 0 + 8 from rfl, cnt8, cnt_zero]
 simp only [bytesOf, List.map_cons, List.map_nil, List.sum_cons, List.sum_nil, Nat.div_div_eq_div_mul]
theorem popc_list (w : BitVec 64) : s6 (s5 (s4 (s3 (s2 (s1 w.toNat))))) % 128 = (listN w).length := by
 rw [popc w.isLt, ← cnt64]
 rfl
theorem s_lt {x : Nat} (h : x < 18446744073709551616) : s1 x < 18446744073709551616 ∧ s2 (s1 x) < 18446744073709551616 ∧ s2 (s1 x) / 16 + s2 (s1 x) < 18446744073709551616 ∧ s3 (s2 (s1 x)) ≤ 1085102592571150095 ∧ s4 (s3 (s2 (s1 x))) < 18446744073709551616 ∧ s5 (s4 (s3 (s2 (s1 x)))) < 18446744073709551616 ∧ s6 (s5 (s4 (s3 (s2 (s1 x))))) < 9223372036854775808 := by
 have a1 : s1 x ≤ 6148914691236517205 + 6148914691236517205 := Nat.add_le_add Nat.and_le_right Nat.and_le_right
 have a2 : s2 (s1 x) ≤ 3689348814741910323 + 3689348814741910323 := Nat.add_le_add Nat.and_le_right Nat.and_le_right
 have a3 : s3 (s2 (s1 x)) ≤ 1085102592571150095 := Nat.and_le_right
 refine ⟨by omega, by omega, by omega, a3, ?_, ?_, ?_⟩
 ·simp only [s4]; omega
 ·simp only [s4, s5]; omega
 ·simp only [s4, s5, s6]; omega
end Go.AM

namespace Go.AM
open Go
def o (d : Nat) (op : AOp) : AOper := ⟨some d, none, op⟩
def ov (op : AOp) : AOper := ⟨none, none, op⟩
def og (d t : Nat) (w : Bool) (op : AOp) : AOper := ⟨some d, some (t, w), op⟩
def ovg (t : Nat) (w : Bool) (op : AOp) : AOper := ⟨none, some (t, w), op⟩
abbrev bs (l : List UInt8) : ByteArray := ⟨⟨l⟩⟩
def sp (i : Nat) (x : AOper) : AStep := ⟨i, x, []⟩
def sq (i : Nat) (x : AOper) (c : List AOper) : AStep := ⟨i, x, c⟩
section
variable {V : VProg} {m : Nat → Nat} {F : VFr} {h : VH}
@[congr] theorem Vc_congr {F : VFr} {F' : Unit → VFr} {h : VH} {h' : Unit → VH} {c : ACode} {Q : Ex → VFr → VH → Prop} (hF : ∀ u : Unit, F = F' u) (hh : ∀ u : Unit, h = h' u) : Vc V m c F h Q = Vc V m c (F' ()) (h' ()) Q := by rw [← hF ()]; rw [← hh ()]
@[congr] theorem Vr_congr {F : VFr} {F' : Unit → VFr} {h : VH} {h' : Unit → VH} {c : List AOper} {Q : VFr → VH → Prop} (hF : ∀ u : Unit, F = F' u) (hh : ∀ u : Unit, h = h' u) : Vr V m c F h Q = Vr V m c (F' ()) (h' ()) Q := by rw [← hF ()]; rw [← hh ()]
@[congr] theorem Vs_congr {F : VFr} {F' : Unit → VFr} {h : VH} {h' : Unit → VH} {L : LdL} {c : List AStep} {Q : VFr → VH → Prop} (hF : ∀ u : Unit, F = F' u) (hh : ∀ u : Unit, h = h' u) : Vs V m c L F h Q = Vs V m c L (F' ()) (h' ()) Q := by rw [← hF ()]; rw [← hh ()]
@[congr] theorem Vo_congr {k : Nat} {k' : Unit → Nat} {op : AOp} {Q : VV → VH → Prop} (hk : ∀ u : Unit, k = k' u) : Vo V k op F h Q = Vo V (k' ()) op F h Q := by rw [← hk ()]
@[congr] theorem VP_congr {g : Nat} {a : List VV} {a' : Unit → List VV} {Q : VV → Prop} (ha : ∀ u : Unit, a = a' u) : VP V g a Q = VP V g (a' ()) Q := by rw [← ha ()]
@[congr] theorem VP1_congr {g b : Nat} {b' : Unit → Nat} {a : List VV} {a' : Unit → List VV} {Q : VV → VH → Prop} (ha : ∀ u : Unit, a = a' u) (hb : ∀ u : Unit, b = b' u) : VP1 V g a b Q = VP1 V g (a' ()) (b' ()) Q := by rw [← ha ()]; rw [← hb ()]
@[congr] theorem VP2_congr {g : Nat} {a : List VV} {a' : Unit → List VV} {h : VH} {h' : Unit → VH} {Q : VV → VH → Prop} (ha : ∀ u : Unit, a = a' u) (hb : ∀ u : Unit, h = h' u) : VP2 V g a h Q = VP2 V g (a' ()) (h' ()) Q := by rw [← ha ()]; rw [← hb ()]
@[congr] theorem VP3_congr {g : Nat} {a : List VV} {a' : Unit → List VV} {h : VH} {h' : Unit → VH} {Q : VV → VH → Prop} (ha : ∀ u : Unit, a = a' u) (hb : ∀ u : Unit, h = h' u) : VP3 V g a h Q = VP3 V g (a' ()) (h' ()) Q := by rw [← ha ()]; rw [← hb ()]
/-- What an answer comes to. -/
def OK {α : Type} (r : Option α) (Q : α → Prop) : Prop := match r with
 | some x => Q x
 | none => False
@[congr] theorem OK_congr {α : Type} {r : Option α} {r' : Unit → Option α} {Q : α → Prop} (hr : ∀ u : Unit, r = r' u) : OK r Q = OK (r' ()) Q := by rw [← hr ()]
@[go_sem] theorem OK_some {α : Type} {x : α} {Q : α → Prop} : OK (some x) Q ↔ Q x := Iff.rfl
@[go_sem] theorem OK_none {α : Type} {Q : α → Prop} : OK none Q ↔ False := Iff.rfl
/-- What a pair comes to. -/
def OK2 {α β : Type} (r : Option (α × β)) (Q : α → β → Prop) : Prop := match r with
 | some (x, y) => Q x y
 | none => False
@[congr] theorem OK2_congr {α β : Type} {r : Option (α × β)} {r' : Unit → Option (α × β)} {Q : α → β → Prop} (hr : ∀ u : Unit, r = r' u) : OK2 r Q = OK2 (r' ()) Q := by rw [← hr ()]
@[go_sem] theorem OK2_some {α β : Type} {x : α} {y : β} {Q : α → β → Prop} : OK2 (some (x, y)) Q ↔ Q x y := Iff.rfl
@[go_sem] theorem OK2_none {α β : Type} {Q : α → β → Prop} : OK2 none Q ↔ False := Iff.rfl
theorem OK2_iff {α β : Type} {r : Option (α × β)} {Q : α → β → Prop} : OK2 r Q ↔ ∃ x y, r = some (x, y) ∧ Q x y := by
 cases r with
 | none => simp [OK2]
 | some z =>
  obtain ⟨a, b⟩ := z
  exact ⟨fun q => ⟨a, b, rfl, q⟩, fun ⟨x, y, e, q⟩ => by cases e; exact q⟩
/-- What is looked at anew: a mark that goes at once (so that what stands beside it is left alone). -/
def mk {α : Type} (x : α) : α := x
@[go_sem] theorem mk_eq {α : Type} (x : α) : mk x = x := by
 have h : ∀ y : α, mk y = y := fun y => rfl
 exact h x
theorem OK_iff {α : Type} {r : Option α} {Q : α → Prop} : OK r Q ↔ ∃ x, r = some x ∧ Q x := by
 cases r <;> simp [OK]
theorem Vo_op {k : Nat} {op : AOp} {Q : VV → VH → Prop} (hc : ∀ f args, op ≠ .call f args) : Vo V k op F h Q ↔ OK2 (vop k op F h) Q := by
 rw [Vo_of hc, OK2_iff]
section
variable {k : Nat} {Q : VV → VH → Prop}
@[go_sem ↓] theorem Vo_mov' {x : AOpd} : Vo V k (.mov x) F h Q ↔ OK2 (mk (vop k (.mov x) F h)) Q := Vo_op (by intros; simp)
@[go_sem ↓] theorem Vo_pick {a b c : AOpd} : Vo V k (.pick a b c) F h Q ↔ OK2 (mk (vop k (.pick a b c) F h)) Q := Vo_op (by intros; simp)
@[go_sem ↓] theorem Vo_box {ty n : Nat} {x : AOpd} : Vo V k (.box ty n x) F h Q ↔ OK2 (mk (vop k (.box ty n x) F h)) Q := Vo_op (by intros; simp)
@[go_sem ↓] theorem Vo_build {z : List AV} {ps : List (Nat × Nat × AOpd)} : Vo V k (.build z ps) F h Q ↔ OK2 (mk (vop k (.build z ps) F h)) Q := Vo_op (by intros; simp)
@[go_sem ↓] theorem Vo_bsl {t e l : Nat} {z : List AV} {ps : List (Nat × Nat × AOpd)} : Vo V k (.bsl t e l z ps) F h Q ↔ OK2 (mk (vop k (.bsl t e l z ps) F h)) Q := Vo_op (by intros; simp)
@[go_sem ↓] theorem Vo_ld {n : Option Nat} {a : AOpd} : Vo V k (.ld n a) F h Q ↔ OK (mk (vld h n (VFr.ev F a))) fun v => Q v h := by
 rw [Vo_op (by intros; simp), mk_eq]
 simp only [vop]
 cases vld h n (VFr.ev F a) <;> exact Iff.rfl
@[go_sem ↓] theorem Vo_st {n : Nat} {a x : AOpd} : Vo V k (.st n a x) F h Q ↔ OK2 (mk (vop k (.st n a x) F h)) Q := Vo_op (by intros; simp)
@[go_sem ↓] theorem Vo_nilc {x : AOpd} : Vo V k (.nilc x) F h Q ↔ OK2 (mk (vop k (.nilc x) F h)) Q := Vo_op (by intros; simp)
@[go_sem ↓] theorem Vo_bin {op : BinOp} {e : Option Eq0} {x y : AOpd} : Vo V k (.bin op e x y) F h Q ↔ OK (mk (vbin op e (VFr.ev F x) (VFr.ev F y))) fun v => Q v h := by
 rw [Vo_op (by intros; simp), mk_eq]
 simp only [vop]
 cases vbin op e (VFr.ev F x) (VFr.ev F y) <;> exact Iff.rfl
@[go_sem ↓] theorem Vo_not {x : AOpd} : Vo V k (.not x) F h Q ↔ OK2 (mk (vop k (.not x) F h)) Q := Vo_op (by intros; simp)
@[go_sem ↓] theorem Vo_neg {x : AOpd} : Vo V k (.neg x) F h Q ↔ OK2 (mk (vop k (.neg x) F h)) Q := Vo_op (by intros; simp)
@[go_sem ↓] theorem Vo_conv {i : IntKind} {x : AOpd} : Vo V k (.conv i x) F h Q ↔ OK2 (mk (vop k (.conv i x) F h)) Q := Vo_op (by intros; simp)
@[go_sem ↓] theorem Vo_mkf {g : Nat} {a c : List AOpd} : Vo V k (.mkf g a c) F h Q ↔ Q (.f g (a.map (VFr.ev F)) (c.map (VFr.ev F))) h := by
 rw [Vo_op (by intros; simp)]; exact Iff.rfl
@[go_sem ↓] theorem Vo_mks {t e b : Nat} {z : List AV} {l c : AOpd} : Vo V k (.mks t e b z l c) F h Q ↔ OK2 (mk (vop k (.mks t e b z l c) F h)) Q := Vo_op (by intros; simp)
@[go_sem ↓] theorem Vo_slc {e : Nat} {x : AOpd} {lo hi : Option AOpd} : Vo V k (.slc e x lo hi) F h Q ↔ OK (mk (vslc h e (VFr.ev F x) (lo.map (VFr.ev F)) (hi.map (VFr.ev F)))) fun v => Q v h := by
 rw [Vo_op (by intros; simp), mk_eq]
 simp only [vop]
 cases vslc h e (VFr.ev F x) (lo.map (VFr.ev F)) (hi.map (VFr.ev F)) <;> exact Iff.rfl
@[go_sem ↓] theorem Vo_fa {o : Nat} {x : AOpd} : Vo V k (.fa o x) F h Q ↔ OK2 (mk (vop k (.fa o x) F h)) Q := Vo_op (by intros; simp)
@[go_sem ↓] theorem Vo_ia {e : Nat} {x i : AOpd} : Vo V k (.ia e x i) F h Q ↔ OK2 (mk (vop k (.ia e x i) F h)) Q := Vo_op (by intros; simp)
@[go_sem ↓] theorem Vo_iaa {l e : Nat} {x i : AOpd} : Vo V k (.iaa l e x i) F h Q ↔ OK2 (mk (vop k (.iaa l e x i) F h)) Q := Vo_op (by intros; simp)
@[go_sem ↓] theorem Vo_ix {x i : AOpd} : Vo V k (.ix x i) F h Q ↔ OK2 (mk (vop k (.ix x i) F h)) Q := Vo_op (by intros; simp)
@[go_sem ↓] theorem Vo_ext {x : AOpd} {i : Nat} : Vo V k (.ext x i) F h Q ↔ OK2 (mk (vop k (.ext x i) F h)) Q := Vo_op (by intros; simp)
@[go_sem ↓] theorem Vo_len {s : Bool} {x : AOpd} : Vo V k (.len s x) F h Q ↔ OK2 (mk (vop k (.len s x) F h)) Q := Vo_op (by intros; simp)
@[go_sem ↓] theorem Vo_app {t e b : Nat} {x y : AOpd} : Vo V k (.app t e b x y) F h Q ↔ OK2 (mk (vappM k h t e b (VFr.ev F x) (VFr.ev F y))) Q := by
 rw [Vo_op (by intros; simp)]; exact Iff.rfl
@[go_sem ↓] theorem Vo_cpy {e : Nat} {x y : AOpd} : Vo V k (.cpy e x y) F h Q ↔ OK2 (mk (vcpy h e (VFr.ev F x) (VFr.ev F y))) Q := by
 rw [Vo_op (by intros; simp)]; exact Iff.rfl
@[go_sem ↓] theorem Vo_mnx {b : Bool} {x y : AOpd} : Vo V k (.mnx b x y) F h Q ↔ OK2 (mk (vop k (.mnx b x y) F h)) Q := Vo_op (by intros; simp)
/-- A function value. -/
def VF (V : VProg) (k : Nat) (f : VV) (args : List VV) (h : VH) (Q : VV → VH → Prop) : Prop := match f with
 | .f g a c => (match k with
  | 0 => OK2 (frzL h (a ++ args ++ c)) fun pa ids => VP V g pa fun r => Q r (bif scal r then h else kill ids h)
  | 1 => OK2 (frzL h (a ++ args ++ c)) fun pa ids => VP1 V g pa h.length fun r os => Q r (kill ids h ++ os)
  | 2 => VP2 V g (a ++ args ++ c) h Q
  | 4 => VP2 V g (a ++ args ++ c) (kill (maskL (a ++ args ++ c) h) h) (fun _ _ => True) ∧ VP3 V g (a ++ args ++ c) h Q
  | _ => VP3 V g (a ++ args ++ c) h Q)
 | _ => False
@[congr] theorem VF_congr {k : Nat} {k' : Unit → Nat} {f : VV} {f' : Unit → VV} {a : List VV} {a' : Unit → List VV} (hk : ∀ u : Unit, k = k' u) (hf : ∀ u : Unit, f = f' u) (ha : ∀ u : Unit, a = a' u) : VF V k f a h Q = VF V (k' ()) (f' ()) (a' ()) h Q := by rw [← hk ()]; rw [← hf ()]; rw [← ha ()]
theorem VF_of {f : VV} {args : List VV} {g : Nat} {a c : List VV} (hf : f = .f g a c) (hv : VF V k f args h Q) : VC V k g (a ++ args ++ c) h Q ∧ VC4 V k g (a ++ args ++ c) h := by
 subst hf
 unfold VF at hv
 unfold VC
 rcases k with _ | _ | _ | _ | _ | k
 ·exact ⟨OK2_iff.1 hv, fun h => by cases h⟩
 ·exact ⟨OK2_iff.1 hv, fun h => by cases h⟩
 ·exact ⟨hv, fun h => by cases h⟩
 ·exact ⟨hv, fun h => by cases h⟩
 ·exact ⟨hv.2, fun _ => hv.1⟩
 ·exact ⟨hv, fun h => by omega⟩
theorem VF_to {f : VV} {args : List VV} {g : Nat} {a c : List VV} (hf : f = .f g a c) (hv : VC V k g (a ++ args ++ c) h Q) (h4 : VC4 V k g (a ++ args ++ c) h) : VF V k f args h Q := by
 subst hf
 unfold VF
 unfold VC at hv
 rcases k with _ | _ | _ | _ | _ | k
 ·exact OK2_iff.2 hv
 ·exact OK2_iff.2 hv
 ·exact hv
 ·exact hv
 ·exact ⟨h4 rfl, hv⟩
 ·exact hv
@[go_sem ↓] theorem Vo_call {f : AOpd} {args : List AOpd} : Vo V k (.call f args) F h Q ↔ VF V k (mk (VFr.ev F f)) (args.map (VFr.ev F)) h Q := by
 rw [mk_eq]
 constructor
 ·intro hv
  cases hf : VFr.ev F f with
  | f g a c => rw [← hf]; exact VF_to hf (Vo_call_to hf hv).1 (Vo_call_to hf hv).2
  | _ => obtain ⟨n, v, h', e, _⟩ := hv; simp [voper, hf] at e
 ·intro hv
  cases hf : VFr.ev F f with
  | f g a c => exact Vo_call_of hf (VF_of hf hv).1 (VF_of hf hv).2
  | _ => rw [hf] at hv; exact hv.elim
@[go_sem] theorem VF_0 {g : Nat} {a c args : List VV} : VF V 0 (.f g a c) args h Q ↔ OK2 (mk (frzL h (a ++ args ++ c))) fun pa ids => VP V g (mk pa) fun r => Q r (bif scal r then h else kill ids h) := Iff.rfl
@[go_sem] theorem VF_1 {g : Nat} {a c args : List VV} : VF V 1 (.f g a c) args h Q ↔ OK2 (mk (frzL h (a ++ args ++ c))) fun pa ids => VP1 V g (mk pa) h.length fun r os => Q r (kill ids h ++ os) := Iff.rfl
@[go_sem] theorem VF_2 {g : Nat} {a c args : List VV} : VF V 2 (.f g a c) args h Q ↔ VP2 V g (mk (a ++ args ++ c)) h Q := Iff.rfl
@[go_sem] theorem VF_4 {g : Nat} {a c args : List VV} : VF V 4 (.f g a c) args h Q ↔ VP2 V g (mk (a ++ args ++ c)) (kill (maskL (mk (a ++ args ++ c)) h) h) (fun _ _ => True) ∧ VP3 V g (mk (a ++ args ++ c)) h Q := Iff.rfl
@[go_sem] theorem VF_3 {g : Nat} {a c args : List VV} : VF V 3 (.f g a c) args h Q ↔ VP3 V g (mk (a ++ args ++ c)) h Q := Iff.rfl
end
section
variable {R : VFr → VH → Prop}
@[go_sem ↓] theorem Vr_cons_none {d : Option Nat} {op : AOp} {r : List AOper} : Vr V m (⟨d, none, op⟩ :: r) F h R ↔ Vo V (dstM m d) op F h fun v h' => Vr V m r (vputD F d v) h' R := Vr_cons
@[go_sem ↓] theorem Vr_o {d : Nat} {op : AOp} {r : List AOper} : Vr V m (o d op :: r) F h R ↔ Vo V (m d) op F h fun v h' => Vr V m r (Tm.set F d v) h' R := Vr_cons
@[go_sem ↓] theorem Vr_ov {op : AOp} {r : List AOper} : Vr V m (ov op :: r) F h R ↔ Vo V 2 op F h fun v h' => Vr V m r F h' R := Vr_cons
/-- Done if a slot says so. -/
def VG (V : VProg) (m : Nat → Nat) (v : VV) (w : Bool) (d : Option Nat) (op : AOp) (r : List AOper) (F : VFr) (h : VH) (R : VFr → VH → Prop) : Prop := match v with
 | .b x => (bif x == w then Vo V (dstM m d) op F h (fun v h' => Vr V m r (vputD F d v) h' R) else Vr V m r (vputD F d VV.nul) h R)
 | .tu [] => Vr V m r (vputD F d VV.nul) h R
 | _ => False
@[congr] theorem VG_congr {v : VV} {v' : Unit → VV} {w : Bool} {d : Option Nat} {op : AOp} {r : List AOper} (hv : ∀ u : Unit, v = v' u) : VG V m v w d op r F h R = VG V m (v' ()) w d op r F h R := by rw [← hv ()]
@[go_sem ↓] theorem Vr_guard {d : Option Nat} {t : Nat} {w : Bool} {op : AOp} {r : List AOper} : Vr V m (⟨d, some (t, w), op⟩ :: r) F h R ↔ VG V m (mk (VFr.tmp F t)) w d op r F h R := by
 rw [mk_eq]
 rw [Vr_cons]
 simp only [vwanted, VG]
 generalize VFr.tmp F t = v
 cases v with
 | b x => cases x <;> cases w <;> rfl
 | tu vs => cases vs <;> rfl
 | _ => rfl
@[go_sem ↓] theorem Vr_og {d : Nat} {t : Nat} {w : Bool} {op : AOp} {r : List AOper} : Vr V m (og d t w op :: r) F h R ↔ VG V m (mk (VFr.tmp F t)) w (some d) op r F h R := Vr_guard
@[go_sem ↓] theorem Vr_ovg {t : Nat} {w : Bool} {op : AOp} {r : List AOper} : Vr V m (ovg t w op :: r) F h R ↔ VG V m (mk (VFr.tmp F t)) w none op r F h R := Vr_guard
@[go_sem] theorem VG_tt {d : Option Nat} {op : AOp} {r : List AOper} : VG V m (.b true) true d op r F h R ↔ Vo V (dstM m d) op F h (fun v h' => Vr V m r (vputD F d v) h' R) := Iff.rfl
@[go_sem] theorem VG_ff {d : Option Nat} {op : AOp} {r : List AOper} : VG V m (.b false) false d op r F h R ↔ Vo V (dstM m d) op F h (fun v h' => Vr V m r (vputD F d v) h' R) := Iff.rfl
@[go_sem] theorem VG_tf {d : Option Nat} {op : AOp} {r : List AOper} : VG V m (.b true) false d op r F h R ↔ Vr V m r (vputD F d VV.nul) h R := Iff.rfl
@[go_sem] theorem VG_ft {d : Option Nat} {op : AOp} {r : List AOper} : VG V m (.b false) true d op r F h R ↔ Vr V m r (vputD F d VV.nul) h R := Iff.rfl
@[go_sem] theorem VG_nul {w : Bool} {d : Option Nat} {op : AOp} {r : List AOper} : VG V m VV.nul w d op r F h R ↔ Vr V m r (vputD F d VV.nul) h R := Iff.rfl
@[go_sem ↓] theorem Vs_cons_none {i : Nat} {d : Option Nat} {op : AOp} {c : List AOper} {r : List AStep} {L : LdL} : Vs V m (⟨i, ⟨d, none, op⟩, c⟩ :: r) L F h R ↔ Vo V (dstM m d) op F h fun v h' => vrecheck (vputD F d v) h' (stepL (dstM m d) d op F h L) c ∧ Vs V m r (stepL (dstM m d) d op F h L) (vputD F d v) h' R := Vs_cons
def VGs (V : VProg) (m : Nat → Nat) (v : VV) (w : Bool) (d : Option Nat) (op : AOp) (c : List AOper) (r : List AStep) (L : LdL) (F : VFr) (h : VH) (R : VFr → VH → Prop) : Prop := match v with
 | .b x => (bif x == w then Vo V (dstM m d) op F h (fun v h' => vrecheck (vputD F d v) h' (stepL (dstM m d) d op F h L) c ∧ Vs V m r (stepL (dstM m d) d op F h L) (vputD F d v) h' R) else Vs V m r (dropL d L) (vputD F d VV.nul) h R)
 | .tu [] => Vs V m r (dropL d L) (vputD F d VV.nul) h R
 | _ => False
@[congr] theorem VGs_congr {v : VV} {v' : Unit → VV} {w : Bool} {d : Option Nat} {op : AOp} {c : List AOper} {r : List AStep} {L : LdL} (hv : ∀ u : Unit, v = v' u) : VGs V m v w d op c r L F h R = VGs V m (v' ()) w d op c r L F h R := by rw [← hv ()]
@[go_sem ↓] theorem Vs_guard {i : Nat} {d : Option Nat} {t : Nat} {w : Bool} {op : AOp} {c : List AOper} {r : List AStep} {L : LdL} : Vs V m (⟨i, ⟨d, some (t, w), op⟩, c⟩ :: r) L F h R ↔ VGs V m (mk (VFr.tmp F t)) w d op c r L F h R := by
 rw [Vs_cons, mk_eq]
 simp only [vwanted, VGs]
 generalize VFr.tmp F t = v
 cases v with
 | b x => cases x <;> cases w <;> rfl
 | tu vs => cases vs <;> rfl
 | _ => rfl
section
variable {i d t : Nat} {w : Bool} {op : AOp} {c : List AOper} {r : List AStep} {L : LdL}
@[go_sem ↓] theorem Vs_sp_o : Vs V m (sp i (o d op) :: r) L F h R ↔ Vo V (m d) op F h fun v h' => Vs V m r (stepL (m d) (some d) op F h L) (Tm.set F d v) h' R := by
 unfold sp o
 rw [Vs_cons_none]
 simp only [vrecheck, true_and]
 exact Iff.rfl
@[go_sem ↓] theorem Vs_sp_ov : Vs V m (sp i (ov op) :: r) L F h R ↔ Vo V 2 op F h fun v h' => Vs V m r (stepL 2 none op F h L) F h' R := by
 unfold sp ov
 rw [Vs_cons_none]
 simp only [vrecheck, true_and]
 exact Iff.rfl
@[go_sem ↓] theorem Vs_sp_og : Vs V m (sp i (og d t w op) :: r) L F h R ↔ VGs V m (mk (VFr.tmp F t)) w (some d) op [] r L F h R := Vs_guard
@[go_sem ↓] theorem Vs_sp_ovg : Vs V m (sp i (ovg t w op) :: r) L F h R ↔ VGs V m (mk (VFr.tmp F t)) w none op [] r L F h R := Vs_guard
@[go_sem ↓] theorem Vs_sq_o : Vs V m (sq i (o d op) c :: r) L F h R ↔ Vo V (m d) op F h fun v h' => vrecheck (Tm.set F d v) h' (stepL (m d) (some d) op F h L) c ∧ Vs V m r (stepL (m d) (some d) op F h L) (Tm.set F d v) h' R := Vs_cons_none
@[go_sem ↓] theorem Vs_sq_ov : Vs V m (sq i (ov op) c :: r) L F h R ↔ Vo V 2 op F h fun v h' => vrecheck F h' (stepL 2 none op F h L) c ∧ Vs V m r (stepL 2 none op F h L) F h' R := Vs_cons_none
@[go_sem ↓] theorem Vs_sq_og : Vs V m (sq i (og d t w op) c :: r) L F h R ↔ VGs V m (mk (VFr.tmp F t)) w (some d) op c r L F h R := Vs_guard
@[go_sem ↓] theorem Vs_sq_ovg : Vs V m (sq i (ovg t w op) c :: r) L F h R ↔ VGs V m (mk (VFr.tmp F t)) w none op c r L F h R := Vs_guard
end
section
variable {d : Option Nat} {op : AOp} {c : List AOper} {r : List AStep} {L : LdL}
@[go_sem] theorem VGs_tt : VGs V m (.b true) true d op c r L F h R ↔ Vo V (dstM m d) op F h (fun v h' => vrecheck (vputD F d v) h' (stepL (dstM m d) d op F h L) c ∧ Vs V m r (stepL (dstM m d) d op F h L) (vputD F d v) h' R) := Iff.rfl
@[go_sem] theorem VGs_ff : VGs V m (.b false) false d op c r L F h R ↔ Vo V (dstM m d) op F h (fun v h' => vrecheck (vputD F d v) h' (stepL (dstM m d) d op F h L) c ∧ Vs V m r (stepL (dstM m d) d op F h L) (vputD F d v) h' R) := Iff.rfl
@[go_sem] theorem VGs_tf : VGs V m (.b true) false d op c r L F h R ↔ Vs V m r (dropL d L) (vputD F d VV.nul) h R := Iff.rfl
@[go_sem] theorem VGs_ft : VGs V m (.b false) true d op c r L F h R ↔ Vs V m r (dropL d L) (vputD F d VV.nul) h R := Iff.rfl
@[go_sem] theorem VGs_nul {w : Bool} : VGs V m VV.nul w d op c r L F h R ↔ Vs V m r (dropL d L) (vputD F d VV.nul) h R := Iff.rfl
end
end
section
variable {Q : Ex → VFr → VH → Prop}
@[go_sem ↓] theorem Vc_skip : Vc V m .skip F h Q ↔ Q .norm F h :=
 ⟨fun ⟨n, e, F', h', k, q⟩ => by
  cases n with
  | zero => simp [vexec] at k
  | succ n => simp only [vexec, Option.some.injEq, Prod.mk.injEq] at k; obtain ⟨rfl, rfl, rfl⟩ := k; exact q, fun q => ⟨1, .norm, F, h, rfl, q⟩⟩
@[go_sem ↓] theorem Vc_exit {id : Nat} : Vc V m (.exit id) F h Q ↔ Q (.exit id) F h :=
 ⟨fun ⟨n, e, F', h', k, q⟩ => by
  cases n with
  | zero => simp [vexec] at k
  | succ n => simp only [vexec, Option.some.injEq, Prod.mk.injEq] at k; obtain ⟨rfl, rfl, rfl⟩ := k; exact q, fun q => ⟨1, .exit id, F, h, rfl, q⟩⟩
@[go_sem ↓] theorem Vc_ret : Vc V m .ret F h Q ↔ Q .ret F h :=
 ⟨fun ⟨n, e, F', h', k, q⟩ => by
  cases n with
  | zero => simp [vexec] at k
  | succ n => simp only [vexec, Option.some.injEq, Prod.mk.injEq] at k; obtain ⟨rfl, rfl, rfl⟩ := k; exact q, fun q => ⟨1, .ret, F, h, rfl, q⟩⟩
@[go_sem ↓] theorem Vc_reg {ops : List AOper} : Vc V m (.reg ops) F h Q ↔ Vr V m ops F h (Q .norm) := by
 constructor
 ·rintro ⟨n, e, F', h', k, q⟩
  cases n with
  | zero => simp [vexec] at k
  | succ n =>
   simp only [vexec] at k
   split at k
   ·rename_i F1 h1 hr; cases k; exact ⟨n, _, _, hr, q⟩
   ·cases k
 ·rintro ⟨n, F', h', k, q⟩
  exact ⟨n + 1, .norm, F', h', by simp only [vexec, k], q⟩
@[go_sem ↓] theorem Vc_dreg {ops : List AStep} : Vc V m (.dreg ops) F h Q ↔ Vs V m ops [] F h (Q .norm) := by
 constructor
 ·rintro ⟨n, e, F', h', k, q⟩
  cases n with
  | zero => simp [vexec] at k
  | succ n =>
   simp only [vexec] at k
   split at k
   ·rename_i F1 h1 hr; cases k; exact ⟨n, _, _, hr, q⟩
   ·cases k
 ·rintro ⟨n, F', h', k, q⟩
  exact ⟨n + 1, .norm, F', h', by simp only [vexec, k], q⟩
attribute [go_sem ↓] Vr_nil Vs_nil
@[go_sem ↓] theorem Vc_seq {a b : ACode} : Vc V m (.seq a b) F h Q ↔ Vc V m a F h (fun e F' h' => match e with | .norm => Vc V m b F' h' Q | e => Q e F' h') := by
 constructor
 ·rintro ⟨n, e, F', h', k, q⟩
  cases n with
  | zero => simp [vexec] at k
  | succ n =>
   simp only [vexec] at k
   split at k
   ·rename_i F1 h1 hr
    exact ⟨n, .norm, F1, h1, hr, n, e, F', h', k, q⟩
   ·rename_i hne
    refine ⟨n, e, F', h', k, ?_⟩
    cases e with
    | norm => exact absurd k (hne _ _)
    | _ => exact q
 ·rintro ⟨n, e, F1, h1, k, q⟩
  cases e with
  | norm =>
   obtain ⟨j, e, F', h', k2, q⟩ := q
   refine ⟨max n j + 1, e, F', h', ?_, q⟩
   simp only [vexec, vexec_mono (Nat.le_max_left n j) k]
   exact vexec_mono (Nat.le_max_right n j) k2
  | exit id => exact ⟨n + 1, .exit id, F1, h1, by simp only [vexec, k], q⟩
  | ret => exact ⟨n + 1, .ret, F1, h1, by simp only [vexec, k], q⟩
/-- One of two ways. -/
def VCn (V : VProg) (m : Nat → Nat) (v : VV) (a b : ACode) (F : VFr) (h : VH) (Q : Ex → VFr → VH → Prop) : Prop := match v with
 | .b true => Vc V m a F h Q
 | .b false => Vc V m b F h Q
 | _ => False
@[congr] theorem VCn_congr {v : VV} {v' : Unit → VV} {a b : ACode} (hv : ∀ u : Unit, v = v' u) : VCn V m v a b F h Q = VCn V m (v' ()) a b F h Q := by rw [← hv ()]
@[go_sem ↓] theorem Vc_cond {x : AOpd} {a b : ACode} : Vc V m (.cond x a b) F h Q ↔ VCn V m (mk (VFr.ev F x)) a b F h Q := by
 rw [mk_eq]
 constructor
 ·rintro ⟨n, e, F', h', k, q⟩
  cases n with
  | zero => simp [vexec] at k
  | succ n =>
   simp only [vexec] at k
   split at k
   ·rename_i hv; rw [hv]; exact ⟨n, e, F', h', k, q⟩
   ·rename_i hv; rw [hv]; exact ⟨n, e, F', h', k, q⟩
   ·cases k
 ·intro k
  unfold VCn at k
  split at k
  ·rename_i hv; obtain ⟨n, e, F', h', k, q⟩ := k; exact ⟨n + 1, e, F', h', by simp only [vexec, hv]; exact k, q⟩
  ·rename_i hv; obtain ⟨n, e, F', h', k, q⟩ := k; exact ⟨n + 1, e, F', h', by simp only [vexec, hv]; exact k, q⟩
  ·exact k.elim
@[go_sem] theorem VCn_t {a b : ACode} : VCn V m (.b true) a b F h Q ↔ Vc V m a F h Q := Iff.rfl
@[go_sem] theorem VCn_f {a b : ACode} : VCn V m (.b false) a b F h Q ↔ Vc V m b F h Q := Iff.rfl
theorem Vc_block {id : Nat} {c : ACode} : Vc V m (.block id c) F h Q ↔ Vc V m c F h (fun e F' h' => match e with | .exit id' => (bif Nat.beq id' id then Q .norm F' h' else Q (.exit id') F' h') | e => Q e F' h') := by
 constructor
 ·rintro ⟨n, e, F', h', k, q⟩
  cases n with
  | zero => simp [vexec] at k
  | succ n =>
   simp only [vexec] at k
   split at k
   ·rename_i id' F1 h1 hr
    refine ⟨n, .exit id', F1, h1, hr, ?_⟩
    simp only
    cases hb : Nat.beq id' id with
    | true => rw [hb] at k; cases k; exact q
    | false => rw [hb] at k; cases k; exact q
   ·rename_i hne
    refine ⟨n, e, F', h', k, ?_⟩
    cases e with
    | exit id' => exact absurd k (hne _ _ _)
    | _ => exact q
 ·rintro ⟨n, e, F1, h1, k, q⟩
  cases e with
  | norm => exact ⟨n + 1, .norm, F1, h1, by simp only [vexec, k], q⟩
  | ret => exact ⟨n + 1, .ret, F1, h1, by simp only [vexec, k], q⟩
  | exit id' =>
   simp only at q
   cases hb : Nat.beq id' id with
   | true => rw [hb] at q; exact ⟨n + 1, .norm, F1, h1, by simp only [vexec, k, hb, cond_true], q⟩
   | false => rw [hb] at q; exact ⟨n + 1, .exit id', F1, h1, by simp only [vexec, k, hb, cond_false], q⟩
open Classical in
/-- What a round leaves. -/
noncomputable def gcF (h h' : VH) (F' : VFr) : VFr := if okT h.length h h' then clean h.length F' else F'
open Classical in
noncomputable def gcH (h h' : VH) : VH := if okT h.length h h' then h'.take h.length else h'
theorem Vc_loop {c : ACode} : Vc V m (.loop c) F h Q ↔ Vc V m c F h (fun e F' h' => match e with | .norm => Vc V m (.loop c) (gcF h h' F') (gcH h h') Q | e => Q e F' h') := by
 constructor
 ·rintro ⟨n, e, F', h', k, q⟩
  cases n with
  | zero => simp [vexec] at k
  | succ n =>
   simp only [vexec] at k
   split at k
   ·rename_i F1 h1 hr
    refine ⟨n, .norm, F1, h1, hr, n, e, F', h', ?_, q⟩
    unfold gcF gcH
    split at k
    ·rename_i hc; rw [if_pos hc, if_pos hc]; exact k
    ·rename_i hc; rw [if_neg hc, if_neg hc]; exact k
   ·rename_i hne
    refine ⟨n, e, F', h', k, ?_⟩
    cases e with
    | norm => exact absurd k (hne _ _)
    | _ => exact q
 ·rintro ⟨n, e, F1, h1, k, q⟩
  cases e with
  | norm =>
   obtain ⟨j, e, F', h', k2, q⟩ := q
   refine ⟨max n j + 1, e, F', h', ?_, q⟩
   simp only [vexec, vexec_mono (Nat.le_max_left n j) k]
   unfold gcF gcH at k2
   split
   ·rename_i hc; rw [if_pos hc, if_pos hc] at k2; exact vexec_mono (Nat.le_max_right n j) k2
   ·rename_i hc; rw [if_neg hc, if_neg hc] at k2; exact vexec_mono (Nat.le_max_right n j) k2
  | exit id => exact ⟨n + 1, .exit id, F1, h1, by simp only [vexec, k], q⟩
  | ret => exact ⟨n + 1, .ret, F1, h1, by simp only [vexec, k], q⟩
/-- A loop, in its block. -/
def VL (V : VProg) (m : Nat → Nat) (B : Nat) (c : ACode) (F : VFr) (h : VH) (Q : Ex → VFr → VH → Prop) : Prop := Vc V m (.block B (.loop c)) F h Q
@[congr] theorem VL_congr {B : Nat} {c : ACode} {F : VFr} {F' : Unit → VFr} {h : VH} {h' : Unit → VH} (hF : ∀ u : Unit, F = F' u) (hh : ∀ u : Unit, h = h' u) : VL V m B c F h Q = VL V m B c (F' ()) (h' ()) Q := by rw [← hF ()]; rw [← hh ()]
@[go_sem ↓] theorem Vc_blockloop {B : Nat} {c : ACode} : Vc V m (.block B (.loop c)) F h Q ↔ VL V m B c (mk F) h Q := Iff.rfl
/-- A loop: what holds at its head, and a number that falls; what a round laid is dropped. -/
theorem Vc_loop_inv {M : Type} (I : M → VFr → VH → Prop) (μ : M → Nat) {c : ACode}
  (k : ∀ x F h, I x F h → Vc V m c F h (fun e F' h' => match e with | .norm => okT h.length h h' ∧ ∃ x', μ x' < μ x ∧ I x' (clean h.length F') (h'.take h.length) | e => Q e F' h')) : ∀ x F h, I x F h → Vc V m (.loop c) F h Q := by
 have key : ∀ j x F h, μ x ≤ j → I x F h → Vc V m (.loop c) F h Q := by
  intro j
  induction j with
  | zero =>
   intro x F h hj hi
   rw [Vc_loop]
   refine (k x F h hi).mono fun e F' h' hq => ?_
   cases e with
   | norm => obtain ⟨_, x', h1, _⟩ := hq; omega
   | _ => exact hq
  | succ j ih =>
   intro x F h hj hi
   rw [Vc_loop]
   refine (k x F h hi).mono fun e F' h' hq => ?_
   cases e with
   | norm =>
    obtain ⟨h0, x', h1, h2⟩ := hq
    unfold gcF gcH
    rw [if_pos h0, if_pos h0]
    exact ih x' _ _ (by omega) h2
   | _ => exact hq
 exact fun x F h hi => key _ x F h (Nat.le_refl _) hi
end
/-- A body. -/
theorem Vb_iff {vf : VFunc} {args : List VV} {Q : VV → VH → Prop} : Vb V vf args h Q ↔ Vc V vf.m vf.af.body (Tm.ofList args) h (fun e F' h' => (match e with | .exit _ => False | _ => True) ∧ OK (vresults F' h' vf.af.results) fun vs => Q (vpack vs) h') := by
 unfold Vb Vc vrun
 constructor
 ·rintro ⟨n, v, h', k, q⟩
  split at k
  ·rename_i F1 h1 hr
   split at k
   ·rename_i vs hvs; cases k; exact ⟨n, _, _, _, hr, trivial, OK_iff.2 ⟨vs, hvs, q⟩⟩
   ·cases k
  ·rename_i F1 h1 hr
   split at k
   ·rename_i vs hvs; cases k; exact ⟨n, _, _, _, hr, trivial, OK_iff.2 ⟨vs, hvs, q⟩⟩
   ·cases k
  ·cases k
 ·rintro ⟨n, e, F1, h1, k, he, hq⟩
  obtain ⟨vs, hvs, q⟩ := OK_iff.1 hq
  cases e with
  | exit id => exact he.elim
  | norm => exact ⟨n, vpack vs, h1, by simp only [k, hvs], q⟩
  | ret => exact ⟨n, vpack vs, h1, by simp only [k, hvs], q⟩
/-- A function, run. -/
theorem VP_fn {g : Nat} {af : AFunc} {mm : Nat → Nat} (hx : V.ext g = none) (hf : V.fn g = some ⟨af, mm⟩) {args : List VV} {Q : VV → Prop} :
  VP V g args Q ↔ Vc V mm af.body (Tm.ofList args) [] (fun e F' h' => (match e with | .exit _ => False | _ => True) ∧ OK (mk (vresults F' h' af.results)) fun vs => OK2 (mk (frz h' dF (vpack vs))) fun r _ => Q r) := by
 unfold VP
 rw [hx]
 simp only [hf, Option.some.injEq, exists_eq_left', Vb_iff, OK_iff, OK2_iff, mk_eq]
theorem VP2_fn {g : Nat} {af : AFunc} {mm : Nat → Nat} (hf : V.fnH g = some ⟨af, mm⟩) {args : List VV} {Q : VV → VH → Prop} :
  VP2 V g args h Q ↔ Vc V mm af.body (Tm.ofList args) h (fun e F' h' => (match e with | .exit _ => False | _ => True) ∧ OK (mk (vresults F' h' af.results)) fun vs => Q (vpack vs) h') := by
 unfold VP2
 simp only [hf, Option.some.injEq, exists_eq_left', Vb_iff, true_and, mk_eq]
theorem VP3_fn {g : Nat} {af : AFunc} {mm : Nat → Nat} (hf : V.fnH g = some ⟨af, mm⟩) {args : List VV} {Q : VV → VH → Prop} :
  VP3 V g args h Q ↔ Vc V mm af.body (Tm.ofList args) h (fun e F' h' => (match e with | .exit _ => False | _ => True) ∧ OK (mk (vresults F' h' af.results)) fun vs => OK2 (mk (frz h' dF (vpack vs))) fun r ids => okT h.length h (kill ids h') ∧ Q r ((kill ids h').take h.length)) := by
 unfold VP3
 simp only [hf, Option.some.injEq, exists_eq_left', Vb_iff, OK_iff, OK2_iff, true_and, mk_eq]
end
end Go.AM

namespace Go.AM
open Go
section
variable {V : VProg} {m : Nat → Nat} {F : VFr} {h : VH}
@[go_sem] theorem vtmp_eq (F : VFr) (k : Nat) (v : VV) : VFr.tmp (Tm.set F k v) k = v := by rw [vtmp_set, if_pos rfl]
@[go_sem] theorem vtmp_ne (F : VFr) (k : Nat) (v : VV) {j : Nat} (h : (j == k) = false) : VFr.tmp (Tm.set F k v) j = VFr.tmp F j := by
 rw [vtmp_set, if_neg (by intro e; subst e; simp at h)]
attribute [go_sem] tmp_clean Nat.reduceBeqDiff
def vnth (l : List VV) (j : Nat) : VV := match l[j]? with | some v => v | none => VV.nul
@[go_sem] theorem vtmp_ofList (l : List VV) (j : Nat) : VFr.tmp (Tm.ofList l) j = vnth l j := by
 unfold VFr.tmp vnth
 rw [Tm.get_ofList]
 cases l[j]? <;> rfl
@[go_sem] theorem vnth_nil (j : Nat) : vnth [] j = VV.nul := by simp [vnth]
@[go_sem] theorem vnth_zero (a : VV) (l : List VV) : vnth (a :: l) 0 = a := by simp [vnth]
@[go_sem] theorem vnth_succ (a : VV) (l : List VV) (j : Nat) : vnth (a :: l) (j + 1) = vnth l j := by simp [vnth]
@[go_sem] theorem vputD_some (F : VFr) (d : Nat) (v : VV) : vputD F (some d) v = Tm.set F d v := rfl
@[go_sem] theorem vputD_none (F : VFr) (v : VV) : vputD F none v = F := rfl
@[go_sem] theorem vev_t (F : VFr) (n : Nat) : VFr.ev F (.t n) = VFr.tmp F n := rfl
@[go_sem] theorem vev_c (F : VFr) (v : AV) : VFr.ev F (.c v) = ofAV v := rfl
@[go_sem] theorem dstM_some (d : Nat) : dstM m (some d) = m d := rfl
@[go_sem] theorem dstM_none : dstM m none = 2 := rfl
@[go_sem] theorem ofAV_b (x : Bool) : ofAV (.b x) = .b x := rfl
@[go_sem] theorem ofAV_i (k : IntKind) (n : Int) : ofAV (.i k n) = .i k n := rfl
@[go_sem] theorem ofAV_s (x : ByteArray) : ofAV (.s x) = .s x := rfl
@[go_sem] theorem ofAV_Wd (w : BitVec 64) : ofAV (Wd w) = .i .u64 (w.toNat : Int) := rfl
@[go_sem] theorem ofAV_np : ofAV (.p none) = .np := rfl
@[go_sem] theorem ofAV_nl : ofAV (.sl none 0) = .nl := rfl
@[go_sem] theorem ofAV_nf : ofAV .nf = .nf := rfl
@[go_sem] theorem ofAV_f (g : Nat) (a c : List AV) : ofAV (.f g a c) = .f g (ofAVs a) (ofAVs c) := rfl
@[go_sem] theorem ofAV_ag (c : List AV) : ofAV (.ag c) = .ag (ofAVs c) := rfl
@[go_sem] theorem ofAV_tu (c : List AV) : ofAV (.tu c) = .tu (ofAVs c) := rfl
@[go_sem] theorem ofAVs_nil : ofAVs [] = [] := rfl
@[go_sem] theorem ofAVs_cons (v : AV) (vs : List AV) : ofAVs (v :: vs) = ofAV v :: ofAVs vs := rfl
@[go_sem] theorem vcells_b (x : Bool) : (VV.b x).cells = [.b x] := rfl
@[go_sem] theorem vcells_i (k : IntKind) (x : Int) : (VV.i k x).cells = [.i k x] := rfl
@[go_sem] theorem vcells_s (x : ByteArray) : (VV.s x).cells = [.s x] := rfl
@[go_sem] theorem vcells_nf : VV.nf.cells = [.nf] := rfl
@[go_sem] theorem vcells_np : VV.np.cells = [.np] := rfl
@[go_sem] theorem vcells_nl : VV.nl.cells = [.nl] := rfl
@[go_sem] theorem vcells_p (a b c d : Nat) : (VV.p a b c d).cells = [.p a b c d] := rfl
@[go_sem] theorem vcells_fp (a : List VV) (c : Nat) : (VV.fp a c).cells = [.fp a c] := rfl
@[go_sem] theorem vcells_sl (a b c d : Nat) : (VV.sl a b c d).cells = [.sl a b c d] := rfl
@[go_sem] theorem vcells_ls (r : List (List VV)) : (VV.ls r).cells = [.ls r] := rfl
@[go_sem] theorem vcells_f (g : Nat) (a c : List VV) : (VV.f g a c).cells = [.f g a c] := rfl
@[go_sem] theorem vcells_ag (l : List VV) : (VV.ag l).cells = l := rfl
@[go_sem] theorem vcell_b (x : Bool) : (VV.b x).cell = true := rfl
@[go_sem] theorem vcell_i (k : IntKind) (x : Int) : (VV.i k x).cell = true := rfl
@[go_sem] theorem vcell_s (x : ByteArray) : (VV.s x).cell = true := rfl
@[go_sem] theorem vcell_nf : VV.nf.cell = true := rfl
@[go_sem] theorem vcell_np : VV.np.cell = true := rfl
@[go_sem] theorem vcell_nl : VV.nl.cell = true := rfl
@[go_sem] theorem vcell_p (a b c d : Nat) : (VV.p a b c d).cell = true := rfl
@[go_sem] theorem vcell_fp (a : List VV) (c : Nat) : (VV.fp a c).cell = true := rfl
@[go_sem] theorem vcell_sl (a b c d : Nat) : (VV.sl a b c d).cell = true := rfl
@[go_sem] theorem vcell_ls (r : List (List VV)) : (VV.ls r).cell = true := rfl
@[go_sem] theorem vcell_f (g : Nat) (a c : List VV) : (VV.f g a c).cell = true := rfl
@[go_sem] theorem nat_beq (a b : Nat) : Nat.beq a b = decide (a = b) := by
 cases e : Nat.beq a b with
 | true => rw [Nat.eq_of_beq_eq_true e]; simp
 | false => symm; rw [decide_eq_false_iff_not]; rintro rfl; rw [Nat.beq_refl] at e; cases e
@[go_sem] theorem nat_ble (a b : Nat) : Nat.ble a b = decide (a ≤ b) := by
 cases e : Nat.ble a b with
 | true => rw [Nat.ble_eq] at e; simp [e]
 | false => symm; rw [decide_eq_false_iff_not, ← Nat.ble_eq, e]; simp
@[go_sem] theorem nat_blt (a b : Nat) : Nat.blt a b = decide (a < b) := nat_ble _ _
def movV (k : Nat) (v : VV) (h : VH) : Option (VV × VH) := match k with
 | 2 => (match reserve h.length v.cells with
   | (ws, os) => (match v with
    | .ag _ => some (.ag ws, h ++ os)
    | .nl => (match ws with | [w] => some (w, h ++ os) | _ => none)
    | v => some (v, h)))
 | _ => some (v, h)
@[go_sem ↓] theorem vop_mov {k : Nat} {x : AOpd} : vop k (.mov x) F h = movV k (VFr.ev F x) h := rfl
@[go_sem] theorem movV_0 (v : VV) : movV 0 v h = some (v, h) := rfl
@[go_sem] theorem movV_1 (v : VV) : movV 1 v h = some (v, h) := rfl
@[go_sem] theorem movV_nl : movV 2 .nl h = some (.sl h.length 0 0 0, h ++ [some { ty := 0, esz := 0, ver := 0, nl := true, rows := [] }]) := rfl
@[go_sem] theorem movV_ag (cs : List VV) : movV 2 (.ag cs) h = some (.ag (reserve h.length cs).1, h ++ (reserve h.length cs).2) := rfl
@[go_sem] theorem movV_sl (a b c d : Nat) : movV 2 (.sl a b c d) h = some (.sl a b c d, h) := rfl
@[go_sem] theorem movV_ls (l : List (List VV)) : movV 2 (.ls l) h = some (.ls l, h) := rfl
@[go_sem] theorem movV_i (k : IntKind) (n : Int) : movV 2 (.i k n) h = some (.i k n, h) := rfl
def pickV (c a b : VV) (h : VH) : Option (VV × VH) := match c with
 | .b t => some (bif t then a else b, h)
 | _ => none
@[go_sem ↓] theorem vop_pick {k : Nat} {c a b : AOpd} : vop k (.pick c a b) F h = pickV (VFr.ev F c) (VFr.ev F a) (VFr.ev F b) h := rfl
@[go_sem] theorem pickV_t (a b : VV) : pickV (.b true) a b h = some (a, h) := rfl
@[go_sem] theorem pickV_f (a b : VV) : pickV (.b false) a b h = some (b, h) := rfl
def boxV (k ty n : Nat) (cs : List VV) (h : VH) : Option (VV × VH) :=
  bif Nat.beq cs.length n && cs.all VV.cell then
   match k with
   | 0 => (match frzL h cs with
    | some (cs', ids) => some (.fp cs' 0, kill ids h)
    | none => none)
   | 1 => some (.p h.length 0 0 0, h ++ [some { ty := ty, esz := 0, ver := 0, nl := false, rows := [cs] }])
   | _ => (match reserve h.length cs with
    | (ws, os) => some (.p (h ++ os).length 0 0 0, h ++ os ++ [some { ty := ty, esz := 0, ver := 0, nl := false, rows := [ws] }]))
  else none
@[go_sem ↓] theorem vop_box {k ty n : Nat} {x : AOpd} : vop k (.box ty n x) F h = boxV k ty n (VFr.ev F x).cells h := rfl
@[go_sem] theorem boxV_0 (ty n : Nat) (cs : List VV) : boxV 0 ty n cs h = bif decide (cs.length = n) && cs.all VV.cell then (match frzL h cs with
        | some (cs', ids) => some (.fp cs' 0, kill ids h)
        | none => none) else none := by rw [← nat_beq]; rfl
@[go_sem] theorem boxV_1 (ty n : Nat) (cs : List VV) : boxV 1 ty n cs h = bif decide (cs.length = n) && cs.all VV.cell then some (.p h.length 0 0 0, h ++ [some { ty := ty, esz := 0, ver := 0, nl := false, rows := [cs] }]) else none := by rw [← nat_beq]; rfl
@[go_sem] theorem boxV_2 (ty n : Nat) (cs : List VV) : boxV 2 ty n cs h = bif decide (cs.length = n) && cs.all VV.cell then some (.p (h ++ (reserve h.length cs).2).length 0 0 0, h ++ (reserve h.length cs).2 ++ [some { ty := ty, esz := 0, ver := 0, nl := false, rows := [(reserve h.length cs).1] }]) else none := by rw [← nat_beq]; rfl
def agV (k : Nat) (r : Option (List VV)) (h : VH) : Option (VV × VH) := match r with
 | some cs => (match k with
  | 2 => (match reserve h.length cs with | (ws, os) => some (.ag ws, h ++ os))
  | _ => some (.ag cs, h))
 | none => none
@[go_sem ↓] theorem vop_build {k : Nat} {z : List AV} {ps : List (Nat × Nat × AOpd)} : vop k (.build z ps) F h = agV k (vfillAll F (ofAVs z) ps) h := rfl
@[go_sem] theorem agV_some (cs : List VV) : agV 0 (some cs) h = some (.ag cs, h) := rfl
@[go_sem] theorem agV_some1 (cs : List VV) : agV 1 (some cs) h = some (.ag cs, h) := rfl
@[go_sem] theorem agV_some2 (cs : List VV) : agV 2 (some cs) h = some (.ag (reserve h.length cs).1, h ++ (reserve h.length cs).2) := rfl
def bslV (k ty esz len : Nat) (r : Option (List VV)) (h : VH) : Option (VV × VH) := match r with
  | some cs => bif Nat.beq cs.length (len * esz) && Nat.blt 0 esz && cs.all VV.cell then
    match k with
    | 0 => (match frzR h (chunks esz len cs) with
     | some (rs, ids) => some (.ls rs, kill ids h)
     | none => none)
    | _ => some (.sl h.length 0 0 len, h ++ [some { ty := ty, esz := esz, ver := 0, nl := false, rows := chunks esz len cs }])
   else none
  | none => none
@[go_sem ↓] theorem vop_bsl {k ty esz len : Nat} {z : List AV} {ps : List (Nat × Nat × AOpd)} : vop k (.bsl ty esz len z ps) F h = bslV k ty esz len (vfillAll F (ofAVs z) ps) h := rfl
@[go_sem] theorem bslV_0 (ty esz len : Nat) (cs : List VV) : bslV 0 ty esz len (some cs) h = bif decide (cs.length = len * esz) && decide (0 < esz) && cs.all VV.cell then (match frzR h (chunks esz len cs) with
          | some (rs, ids) => some (.ls rs, kill ids h)
          | none => none) else none := by rw [← nat_beq, ← nat_blt]; rfl
@[go_sem] theorem bslV_1 (ty esz len : Nat) (cs : List VV) : bslV 1 ty esz len (some cs) h = bif decide (cs.length = len * esz) && decide (0 < esz) && cs.all VV.cell then some (.sl h.length 0 0 len, h ++ [some { ty := ty, esz := esz, ver := 0, nl := false, rows := chunks esz len cs }]) else none := by rw [← nat_beq, ← nat_blt]; rfl
def stV (n : Nat) (a : VV) (cs : List VV) (h : VH) : Option (VV × VH) :=
  bif Nat.beq cs.length n then (match vst h a cs with | some h' => some (VV.nul, h') | none => none) else none
@[go_sem ↓] theorem vop_st {k n : Nat} {a x : AOpd} : vop k (.st n a x) F h = stV n (VFr.ev F a) (VFr.ev F x).cells h := rfl
def stO (id r c : Nat) (cs : List VV) (h : VH) (o : Option VO) : Option (VV × VH) := match o with
 | some o => (match o.rows[r]? with
   | some row => bif Nat.ble (c + cs.length) row.length && cs.all VV.cell then some (VV.nul, h.set id (some { o with rows := o.rows.set r (vfillA row c cs) })) else none
   | none => none)
 | none => none
@[go_sem] theorem stV_p (n id ver r c : Nat) (cs : List VV) : stV n (.p id ver r c) cs h = bif decide (cs.length = n) then stO id r c cs h (hget h id ver) else none := by
 rw [← nat_beq]
 unfold stV stO vst
 cases Nat.beq cs.length n with
 | false => rfl
 | true =>
  simp only [cond_true]
  cases hget h id ver with
  | none => rfl
  | some o =>
   simp only
   cases o.rows[r]? with
   | none => rfl
   | some row =>
    simp only
    cases (Nat.ble (c + cs.length) row.length && cs.all VV.cell) <;> rfl
@[go_sem] theorem stO_some (id r c : Nat) (cs : List VV) (o : VO) : stO id r c cs h (some o) = (match o.rows[r]? with
      | some row => bif decide (c + cs.length ≤ row.length) && cs.all VV.cell then some (VV.nul, h.set id (some { o with rows := o.rows.set r (vfillA row c cs) })) else none
      | none => none) := by
  unfold stO
  simp only [nat_ble]
def nilcW (v : VV) (h : VH) : Option (VV × VH) := match v with
  | .p id ver r c => some (.p id ver r c, h)
  | .fp cells c => some (.fp cells c, h)
  | .f g a c => some (.f g a c, h)
  | _ => none
@[go_sem ↓] theorem vop_nilc {k : Nat} {x : AOpd} : vop k (.nilc x) F h = nilcW (VFr.ev F x) h := rfl
@[go_sem] theorem nilcW_p (id ver r c : Nat) : nilcW (.p id ver r c) h = some (.p id ver r c, h) := rfl
@[go_sem] theorem nilcW_fp (l : List VV) (c : Nat) : nilcW (.fp l c) h = some (.fp l c, h) := rfl
@[go_sem] theorem nilcW_f (g : Nat) (a c : List VV) : nilcW (.f g a c) h = some (.f g a c, h) := rfl
def notV (v : VV) (h : VH) : Option (VV × VH) := match v with | .b t => some (.b (!t), h) | _ => none
@[go_sem ↓] theorem vop_not {k : Nat} {x : AOpd} : vop k (.not x) F h = notV (VFr.ev F x) h := rfl
@[go_sem] theorem notV_b (t : Bool) : notV (.b t) h = some (.b (!t), h) := rfl
def negV (v : VV) (h : VH) : Option (VV × VH) := match v with | .i k n => some (.i k (k.wrap (0 - n)), h) | _ => none
@[go_sem ↓] theorem vop_neg {k : Nat} {x : AOpd} : vop k (.neg x) F h = negV (VFr.ev F x) h := rfl
@[go_sem] theorem negV_i (k : IntKind) (n : Int) : negV (.i k n) h = some (.i k (k.wrap (0 - n)), h) := rfl
def convV (k : IntKind) (v : VV) (h : VH) : Option (VV × VH) := match v with | .i _ n => some (.i k (k.wrap n), h) | _ => none
@[go_sem ↓] theorem vop_conv {k : Nat} {i : IntKind} {x : AOpd} : vop k (.conv i x) F h = convV i (VFr.ev F x) h := rfl
@[go_sem] theorem convV_i (k i : IntKind) (n : Int) : convV k (.i i n) h = some (.i k (k.wrap n), h) := rfl
def mksV (m ty esz bytes : Nat) (zero : List AV) (l c : VV) (h : VH) : Option (VV × VH) := match l, c with
  | .i .i64 n, .i .i64 k =>
   if 0 ≤ n ∧ n ≤ k ∧ k.toNat * bytes ≤ two47 then
    bif Nat.beq zero.length esz && Nat.blt 0 esz && (ofAVs zero).all VV.cell then
     match m with
     | 0 => (match frzL [] (ofAVs zero) with
      | some (z, _) => some (.ls (List.replicate n.toNat z), h)
      | none => none)
     | _ => some (.sl h.length 0 0 n.toNat, h ++ [some { ty := ty, esz := esz, ver := 0, nl := false, rows := List.replicate n.toNat (ofAVs zero) }])
    else none
   else none
  | _, _ => none
@[go_sem ↓] theorem vop_mks {k ty esz bytes : Nat} {z : List AV} {l c : AOpd} : vop k (.mks ty esz bytes z l c) F h = mksV k ty esz bytes z (VFr.ev F l) (VFr.ev F c) h := rfl
attribute [go_sem] mksV
def faV (off : Nat) (v : VV) (h : VH) : Option (VV × VH) := match v with
  | .p id ver r c => some (.p id ver r (c + off), h)
  | .fp cells c => some (.fp cells (c + off), h)
  | _ => none
@[go_sem ↓] theorem vop_fa {k off : Nat} {x : AOpd} : vop k (.fa off x) F h = faV off (VFr.ev F x) h := rfl
@[go_sem] theorem faV_p (off id ver r c : Nat) : faV off (.p id ver r c) h = some (.p id ver r (c + off), h) := rfl
@[go_sem] theorem faV_fp (off : Nat) (l : List VV) (c : Nat) : faV off (.fp l c) h = some (.fp l (c + off), h) := rfl
def iaV (esz : Nat) (x i : VV) (h : VH) : Option (VV × VH) := match x, i with
  | .ls rows, .i _ n => if 0 ≤ n then (match rows[n.toNat]? with
   | some row => bif Nat.beq row.length esz then some (.fp row 0, h) else none
   | none => none) else none
  | .sl id ver off len, .i _ n => if 0 ≤ n ∧ n < len then (match hget h id ver with
   | some o => bif Nat.beq o.esz esz && !o.nl then some (.p id ver (off + n.toNat) 0, h) else none
   | none => none) else none
  | _, _ => none
@[go_sem ↓] theorem vop_ia {k esz : Nat} {x i : AOpd} : vop k (.ia esz x i) F h = iaV esz (VFr.ev F x) (VFr.ev F i) h := rfl
def iaR (esz : Nat) (row : Option (List VV)) (h : VH) : Option (VV × VH) := match row with
      | some row => bif decide (row.length = esz) then some (.fp row 0, h) else none
      | none => none
@[go_sem] theorem iaR_some (esz : Nat) (row : List VV) : iaR esz (some row) h = bif decide (row.length = esz) then some (.fp row 0, h) else none := rfl
@[go_sem] theorem iaV_ls (esz : Nat) (rows : List (List VV)) (k : IntKind) (n : Int) : iaV esz (.ls rows) (.i k n) h = if 0 ≤ n then iaR esz rows[n.toNat]? h else none := by
 simp only [iaV, iaR, nat_beq]
@[go_sem] theorem iaV_sl (esz id ver off len : Nat) (k : IntKind) (n : Int) : iaV esz (.sl id ver off len) (.i k n) h = if 0 ≤ n ∧ n < len then (match hget h id ver with
      | some o => bif decide (o.esz = esz) && !o.nl then some (.p id ver (off + n.toNat) 0, h) else none
      | none => none) else none := by
  simp only [iaV, nat_beq]
def iaaV (len esz : Nat) (x i : VV) (h : VH) : Option (VV × VH) := match x, i with
  | .p id ver r c, .i _ n => if 0 ≤ n ∧ n < len then some (.p id ver r (c + n.toNat * esz), h) else none
  | .fp cells c, .i _ n => if 0 ≤ n ∧ n < len then some (.fp cells (c + n.toNat * esz), h) else none
  | _, _ => none
@[go_sem ↓] theorem vop_iaa {k len esz : Nat} {x i : AOpd} : vop k (.iaa len esz x i) F h = iaaV len esz (VFr.ev F x) (VFr.ev F i) h := rfl
@[go_sem] theorem iaaV_p (len esz id ver r c : Nat) (k : IntKind) (n : Int) : iaaV len esz (.p id ver r c) (.i k n) h = if 0 ≤ n ∧ n < len then some (.p id ver r (c + n.toNat * esz), h) else none := rfl
@[go_sem] theorem iaaV_fp (len esz : Nat) (l : List VV) (c : Nat) (k : IntKind) (n : Int) : iaaV len esz (.fp l c) (.i k n) h = if 0 ≤ n ∧ n < len then some (.fp l (c + n.toNat * esz), h) else none := rfl
def ixV (x i : VV) (h : VH) : Option (VV × VH) := match x, i with
  | .s s, .i _ n => if 0 ≤ n then (match s.data.toList[n.toNat]? with | some b => some (.i .u8 b.toNat, h) | none => none) else none
  | _, _ => none
@[go_sem ↓] theorem vop_ix {k : Nat} {x i : AOpd} : vop k (.ix x i) F h = ixV (VFr.ev F x) (VFr.ev F i) h := rfl
@[go_sem] theorem ixV_s (s : ByteArray) (k : IntKind) (n : Int) : ixV (.s s) (.i k n) h = if 0 ≤ n then (match s.data.toList[n.toNat]? with | some b => some (.i .u8 b.toNat, h) | none => none) else none := rfl
def extV (v : VV) (i : Nat) (h : VH) : Option (VV × VH) := match v with
  | .tu vs => (match vs[i]? with | some v => some (v, h) | none => none)
  | _ => none
@[go_sem ↓] theorem vop_ext {k i : Nat} {x : AOpd} : vop k (.ext x i) F h = extV (VFr.ev F x) i h := rfl
@[go_sem] theorem extV_tu (vs : List VV) (i : Nat) : extV (.tu vs) i h = (match vs[i]? with | some v => some (v, h) | none => none) := rfl
def lenV (s : Bool) (v : VV) (h : VH) : Option (VV × VH) := match s, v with
  | true, .s s => some (.i .i64 s.size, h)
  | false, x => (match vlen x with | some n => some (.i .i64 n, h) | none => none)
  | _, _ => none
@[go_sem ↓] theorem vop_len {k : Nat} {s : Bool} {x : AOpd} : vop k (.len s x) F h = lenV s (VFr.ev F x) h := by cases s <;> rfl
@[go_sem] theorem lenV_s (s : ByteArray) : lenV true (.s s) h = some (.i .i64 s.size, h) := rfl
@[go_sem] theorem lenV_ls (r : List (List VV)) : lenV false (.ls r) h = some (.i .i64 r.length, h) := rfl
@[go_sem] theorem lenV_nl : lenV false .nl h = some (.i .i64 (0 : Nat), h) := rfl
@[go_sem] theorem lenV_sl (a b c n : Nat) : lenV false (.sl a b c n) h = some (.i .i64 n, h) := rfl
def mnxW (mx : Bool) (x y : VV) (h : VH) : Option (VV × VH) := match x, y with
  | .i k a, .i k' c => if k = k' then some (.i k (mnxV mx a c), h) else none
  | _, _ => none
@[go_sem ↓] theorem vop_mnx {k : Nat} {mx : Bool} {x y : AOpd} : vop k (.mnx mx x y) F h = mnxW mx (VFr.ev F x) (VFr.ev F y) h := rfl
@[go_sem] theorem mnxW_i (mx : Bool) (k : IntKind) (a c : Int) : mnxW mx (.i k a) (.i k c) h = some (.i k (mnxV mx a c), h) := by simp only [mnxW, if_true]
def ldR (n : Option Nat) (c : Nat) (row : List VV) : Option VV := match n with
  | none => row[c]?
  | some n => bif decide (c + n ≤ row.length) then some (.ag ((row.drop c).take n)) else none
@[go_sem] theorem ldR_none (c : Nat) (row : List VV) : ldR none c row = row[c]? := rfl
@[go_sem] theorem ldR_some (n c : Nat) (row : List VV) : ldR (some n) c row = bif decide (c + n ≤ row.length) then some (.ag ((row.drop c).take n)) else none := rfl
@[go_sem] theorem vld_fp (n : Option Nat) (cells : List VV) (c : Nat) : vld h n (.fp cells c) = ldR n c cells := by
 cases n with
 | none => rfl
 | some n => simp only [vld, vrow, ldR, nat_ble]
def ldO (n : Option Nat) (r c : Nat) (o : Option VO) : Option VV := match o with
 | some o => (match o.rows[r]? with
  | some row => ldR n c row
  | none => none)
 | none => none
@[go_sem] theorem vld_p (n : Option Nat) (id ver r c : Nat) : vld h n (.p id ver r c) = ldO n r c (hget h id ver) := by
 unfold vld vrow ldO
 simp only
 cases hget h id ver with
 | none => rfl
 | some o =>
  simp only
  cases o.rows[r]? with
  | none => rfl
  | some row =>
   simp only
   cases n with
   | none => rfl
   | some n => simp only [ldR, nat_ble]
@[go_sem] theorem ldO_some (n : Option Nat) (r c : Nat) (o : VO) : ldO n r c (some o) = (match o.rows[r]? with
  | some row => ldR n c row
  | none => none) := rfl
attribute [go_sem] vfillAll vfillA hget vlen reserve chunks vresults vpack
attribute [go_sem] Nat.reduceEqDiff Nat.reduceLeDiff Nat.reduceLT Nat.reduceAdd Nat.reduceMul Nat.reduceSub Nat.lt_irrefl
attribute [go_sem] List.getElem?_cons_zero List.getElem?_cons_succ List.getElem?_nil List.set_cons_zero List.set_cons_succ List.getElem?_map List.length_map List.length_append List.flatten_cons
@[go_sem] theorem frzL_def (h : VH) (vs : List VV) : frzL h vs = mapO (frz h 8) vs := rfl
@[go_sem] theorem frzR_def (h : VH) (vs : List (List VV)) : frzR h vs = mapO (fun row => mapO (frz h 8) row) vs := rfl
attribute [go_sem] mapO
section
variable {d : Nat}
@[go_sem] theorem frz_b (x : Bool) : frz h (d + 1) (.b x) = some (.b x, []) := rfl
@[go_sem] theorem frz_i (k : IntKind) (x : Int) : frz h (d + 1) (.i k x) = some (.i k x, []) := rfl
@[go_sem] theorem frz_s (x : ByteArray) : frz h (d + 1) (.s x) = some (.s x, []) := rfl
@[go_sem] theorem frz_nf : frz h (d + 1) .nf = some (.nf, []) := rfl
@[go_sem] theorem frz_np : frz h (d + 1) .np = some (.np, []) := rfl
@[go_sem] theorem frz_nl : frz h (d + 1) .nl = some (.ls [], []) := rfl
@[go_sem] theorem frz_ls (r : List (List VV)) : frz h (d + 1) (.ls r) = some (.ls r, []) := rfl
@[go_sem] theorem frz_fp (r : List VV) (c : Nat) : frz h (d + 1) (.fp r c) = some (.fp r c, []) := rfl
@[go_sem] theorem frz_p (id ver r c : Nat) : frz h (d + 1) (.p id ver r c) = (match hget h id ver with
      | some o => (match o.rows[r]? with
        | some row => (match mapO (frz h d) row with
          | some (cs, ids) => some (.fp cs c, id :: ids)
          | none => none)
        | none => none)
      | none => none) := rfl
@[go_sem] theorem frz_sl (id ver off n : Nat) : frz h (d + 1) (.sl id ver off n) = (match hget h id ver with
      | some o => bif Nat.ble (off + n) o.rows.length && (Nat.blt 0 o.esz || o.nl) then
          (match mapO (fun row => mapO (frz h d) row) ((o.rows.drop off).take n) with
          | some (rs, ids) => some (.ls rs, id :: ids)
          | none => none) else none
      | none => none) := rfl
@[go_sem] theorem frz_f (g : Nat) (a c : List VV) : frz h (d + 1) (.f g a c) = (match mapO (frz h d) a, mapO (frz h d) c with
      | some (a', i1), some (c', i2) => some (.f g a' c', i1 ++ i2)
      | _, _ => none) := rfl
@[go_sem] theorem frz_ag (cs : List VV) : frz h (d + 1) (.ag cs) = (match mapO (frz h d) cs with
      | some (cs', is) => some (.ag cs', is)
      | none => none) := rfl
@[go_sem] theorem frz_tu (cs : List VV) : frz h (d + 1) (.tu cs) = (match mapO (frz h d) cs with
      | some (cs', is) => some (.tu cs', is)
      | none => none) := rfl
end
@[go_sem] theorem mapO_map_id {α β : Type} {f : α → β} {g : β → Option (β × List Nat)} {l : List α} (hg : ∀ x, g (f x) = some (f x, [])) : mapO g (l.map f) = some (l.map f, []) := by
 induction l with
 | nil => rfl
 | cons x xs ih => simp only [List.map_cons, mapO, hg, ih, List.nil_append]
@[go_sem] theorem mapO_rep {β : Type} {z : β} {g : β → Option (β × List Nat)} {n : Nat} (hg : g z = some (z, [])) : mapO g (List.replicate n z) = some (List.replicate n z, []) := by
 induction n with
 | zero => rfl
 | succ n ih => simp only [List.replicate_succ, mapO, hg, ih, List.nil_append]
@[go_sem] theorem kill_nil (h : VH) : kill [] h = h := rfl
@[go_sem] theorem kill_cons (i : Nat) (l : List Nat) (h : VH) : kill (i :: l) h = kill l (h.set i none) := rfl
@[go_sem] theorem scal_b (x : Bool) : scal (.b x) = true := rfl
@[go_sem] theorem scal_i (k : IntKind) (x : Int) : scal (.i k x) = true := rfl
@[go_sem] theorem scal_s (x : ByteArray) : scal (.s x) = true := rfl
@[go_sem] theorem scal_nf : scal .nf = true := rfl
@[go_sem] theorem scal_np : scal .np = true := rfl
@[go_sem] theorem scal_ls (r : List (List VV)) : scal (.ls r) = false := rfl
@[go_sem] theorem scal_fp (r : List VV) (c : Nat) : scal (.fp r c) = false := rfl
@[go_sem] theorem scal_ag (r : List VV) : scal (.ag r) = false := rfl
@[go_sem] theorem scal_f (g : Nat) (a c : List VV) : scal (.f g a c) = false := rfl
@[go_sem] theorem scal_tu (r : List VV) : scal (.tu r) = scalL r := rfl
@[go_sem] theorem scalL_nil : scalL [] = true := rfl
@[go_sem] theorem scalL_cons (v : VV) (r : List VV) : scalL (v :: r) = (scal v && scalL r) := rfl
@[go_sem] theorem cond_same {α : Type} (b : Bool) (x : α) : (bif b then x else x) = x := by cases b <;> rfl
@[go_sem] theorem okRows_map {α : Type} {f : α → List VV} {e : Nat} {l : List α} (hf : ∀ x, (f x).length = e) : okRows e (l.map f) = true := by
 unfold okRows
 rw [List.all_eq_true]
 intro r hr
 obtain ⟨x, _, rfl⟩ := List.mem_map.1 hr
 rw [hf]; exact Nat.beq_refl e
@[go_sem] theorem okRows_nil {e : Nat} : okRows e [] = true := rfl
@[go_sem] theorem okRows_cons {e : Nat} (r : List VV) (rs : List (List VV)) : okRows e (r :: rs) = (Nat.beq r.length e && okRows e rs) := rfl
@[go_sem] theorem okRows_rep {e n : Nat} {z : List VV} (hz : z.length = e) : okRows e (List.replicate n z) = true := by
 unfold okRows
 rw [List.all_eq_true]
 intro r hr
 rw [List.eq_of_mem_replicate hr, hz]; exact Nat.beq_refl e
attribute [go_sem] vsrc vslc vbnd
@[go_sem] theorem map_drop' {α β : Type} (f : α → β) (n : Nat) (l : List α) : (l.map f).drop n = (l.drop n).map f := (List.map_drop ..).symm
@[go_sem] theorem map_take' {α β : Type} (f : α → β) (n : Nat) (l : List α) : (l.map f).take n = (l.take n).map f := (List.map_take ..).symm
@[go_sem] theorem take_self {α : Type} (l : List α) : l.take l.length = l := List.take_length
attribute [go_sem] List.drop_zero List.length_cons List.length_nil List.all_cons List.all_nil List.take_succ_cons List.take_zero List.drop_succ_cons List.take_nil List.drop_nil Nat.zero_add Nat.add_zero Nat.le_refl Nat.sub_zero Nat.zero_le List.length_replicate List.length_take List.length_drop
@[go_sem] theorem okT_nil (L : Nat) (h : VH) : okT L [] h = True := by cases h <;> rfl
def okB (L : Nat) (o' : Option VO) : Bool := match o' with | none => true | some x => x.rows.all (belL L)
@[go_sem] theorem okB_none (L : Nat) : okB L none = true := rfl
@[go_sem] theorem okB_some (L : Nat) (x : VO) : okB L (some x) = x.rows.all (belL L) := rfl
@[go_sem] theorem belRows_map {α : Type} {f : α → List VV} {L : Nat} {l : List α} (hf : ∀ x, belL L (f x) = true) : (l.map f).all (belL L) = true := by
 rw [List.all_eq_true]
 intro r hr
 obtain ⟨x, _, rfl⟩ := List.mem_map.1 hr
 exact hf x
@[go_sem] theorem belRows_rep {L n : Nat} {z : List VV} (hf : belL L z = true) : (List.replicate n z).all (belL L) = true := by
 rw [List.all_eq_true]
 intro r hr
 rw [List.eq_of_mem_replicate hr]; exact hf
@[go_sem] theorem okT_cons (L : Nat) (o o' : Option VO) (h h' : VH) : okT L (o :: h) (o' :: h') = ((o = o' ∨ okB L o' = true) ∧ okT L h h') := by
 show ((o = o' ∨ ∀ x, o' = some x → x.rows.all (belL L) = true) ∧ okT L h h') = _
 congr 2
 apply propext
 cases o' with
 | none => simp [okB]
 | some x => simp [okB]
/-- Values without references. -/
def Fz (a : List VV) : Prop := ∀ h d, mapO (frz h (d + 3)) a = some (a, [])
theorem mapO_app {α : Type} {f : α → Option (α × List Nat)} : ∀ {a b : List α}, mapO f a = some (a, []) → mapO f b = some (b, []) → mapO f (a ++ b) = some (a ++ b, []) := by
 intro a
 induction a with
 | nil => intro b _ h; exact h
 | cons x xs ih =>
  intro b h1 h2
  simp only [mapO] at h1
  split at h1
  ·rename_i y i ys is e1 e2
   simp only [Option.some.injEq, Prod.mk.injEq, List.cons.injEq, List.append_eq_nil_iff] at h1
   obtain ⟨⟨rfl, rfl⟩, rfl, rfl⟩ := h1
   simp only [List.cons_append, mapO, e1, ih e2 h2, List.nil_append]
  ·cases h1
theorem Fz.call {a c x : List VV} (ha : Fz a) (hc : Fz c) {h : VH} (hx : mapO (frz h 8) x = some (x, [])) : mapO (frz h 8) (a ++ x ++ c) = some (a ++ x ++ c, []) := mapO_app (mapO_app (ha h 5) hx) (hc h 5)
theorem mapO_bel {L : Nat} {h : VH} {d : Nat} : ∀ {a : List VV}, mapO (frz h d) a = some (a, []) → (∀ v, frz h d v = some (v, []) → bel L v = true) → belL L a = true := by
 intro a
 induction a with
 | nil => intro _ _; rfl
 | cons x xs ih =>
  intro h1 h2
  simp only [mapO] at h1
  split at h1
  ·rename_i y i ys is e1 e2
   simp only [Option.some.injEq, Prod.mk.injEq, List.cons.injEq, List.append_eq_nil_iff] at h1
   obtain ⟨⟨rfl, rfl⟩, rfl, rfl⟩ := h1
   simp only [belL, h2 _ e1, ih e2 h2, Bool.and_self]
  ·cases h1
theorem frz_bel {L : Nat} {h : VH} : ∀ {d : Nat} {v : VV}, frz h d v = some (v, []) → bel L v = true := by
 intro d
 induction d with
 | zero => intro v e; simp [frz] at e
 | succ d ih =>
  intro v e
  cases v with
  | p id ver r c =>
   simp only [frz] at e
   split at e
   ·split at e
    ·split at e <;> cases e
    ·cases e
   ·cases e
  | sl id ver off n =>
   simp only [frz] at e
   split at e
   ·rename_i o ho
    cases hb : (Nat.ble (off + n) o.rows.length && (Nat.blt 0 o.esz || o.nl)) with
    | false => rw [hb] at e; cases e
    | true => rw [hb] at e; simp only [cond_true] at e; split at e <;> cases e
   ·cases e
  | f g a c =>
   simp only [frz] at e
   split at e
   ·rename_i a' i1 c' i2 h1 h2
    simp only [Option.some.injEq, Prod.mk.injEq, VV.f.injEq, true_and, List.append_eq_nil_iff] at e
    obtain ⟨⟨rfl, rfl⟩, rfl, rfl⟩ := e
    simp only [bel, mapO_bel h1 (fun v => ih), mapO_bel h2 (fun v => ih), Bool.and_self]
   ·cases e
  | ag cs =>
   simp only [frz] at e
   split at e
   ·rename_i cs' is h1
    simp only [Option.some.injEq, Prod.mk.injEq, VV.ag.injEq] at e
    obtain ⟨rfl, rfl⟩ := e
    simp only [bel, mapO_bel h1 (fun v => ih)]
   ·cases e
  | tu cs =>
   simp only [frz] at e
   split at e
   ·rename_i cs' is h1
    simp only [Option.some.injEq, Prod.mk.injEq, VV.tu.injEq] at e
    obtain ⟨rfl, rfl⟩ := e
    simp only [bel, mapO_bel h1 (fun v => ih)]
   ·cases e
  | _ => rfl
theorem Fz.bel {L : Nat} {a : List VV} (ha : Fz a) : belL L a = true := mapO_bel (ha [] 0) fun v => frz_bel
theorem Fz.nil : Fz [] := fun _ _ => rfl
@[go_sem] theorem Fz.eq {a : List VV} (ha : Fz a) {h : VH} {d : Nat} : mapO (frz h (d + 3)) a = some (a, []) := ha h d
@[go_sem] theorem okT_same (L : Nat) (h g : VH) : okT L h (h ++ g) = True := by
 induction h with
 | nil => simp only [okT_nil]
 | cons o h ih => simp only [List.cons_append, okT_cons, ih, true_or, true_and]
@[go_sem] theorem okT_self (L : Nat) (h : VH) : okT L h h = True := by
 have := okT_same L h []
 rwa [List.append_nil] at this
@[go_sem] theorem clV_b (L : Nat) (x : Bool) : clV L (.b x) = .b x := rfl
@[go_sem] theorem clV_i (L : Nat) (k : IntKind) (x : Int) : clV L (.i k x) = .i k x := rfl
@[go_sem] theorem clV_s (L : Nat) (x : ByteArray) : clV L (.s x) = .s x := rfl
@[go_sem] theorem clV_nf (L : Nat) : clV L .nf = .nf := rfl
@[go_sem] theorem clV_np (L : Nat) : clV L .np = .np := rfl
@[go_sem] theorem clV_nl (L : Nat) : clV L .nl = .nl := rfl
@[go_sem] theorem clV_ls (L : Nat) (r : List (List VV)) : clV L (.ls r) = .ls r := rfl
@[go_sem] theorem clV_fp (L : Nat) (r : List VV) (c : Nat) : clV L (.fp r c) = .fp r c := rfl
@[go_sem] theorem clV_nul' (L : Nat) : clV L VV.nul = VV.nul := clV_nul L
@[go_sem] theorem clV_p (L id ver r c : Nat) : clV L (.p id ver r c) = (bif Nat.blt id L then .p id ver r c else .un) := rfl
@[go_sem] theorem clV_sl (L id ver r c : Nat) : clV L (.sl id ver r c) = (bif Nat.blt id L then .sl id ver r c else .un) := rfl
@[go_sem] theorem clV_ag (L : Nat) (l : List VV) : clV L (.ag l) = (bif belL L l then .ag l else .un) := rfl
@[go_sem] theorem clV_f (L g : Nat) (a c : List VV) : clV L (.f g a c) = (bif belL L a && belL L c then .f g a c else .un) := rfl
attribute [go_sem] bel belL
section
variable {e : Option Eq0} {k : IntKind} {a c : Int}
@[go_sem] theorem vbin_add : vbin .add e (.i k a) (.i k c) = some (.i k (k.wrap (a + c))) := by simp [vbin, binV, binI, ofSc]
@[go_sem] theorem vbin_sub : vbin .sub e (.i k a) (.i k c) = some (.i k (k.wrap (a - c))) := by simp [vbin, binV, binI, ofSc]
@[go_sem] theorem vbin_mul : vbin .mul e (.i k a) (.i k c) = some (.i k (k.wrap (a * c))) := by simp [vbin, binV, binI, ofSc]
theorem vbin_rem (h : c ≠ 0) : vbin .rem e (.i k a) (.i k c) = some (.i k (a.tmod c)) := by simp [vbin, binV, binI, h, ofSc]
@[go_sem] theorem vbin_eql : vbin .eql e (.i k a) (.i k c) = some (.b (decide (a = c))) := by simp only [vbin, binV_eql, Option.bind_some, ofSc]
@[go_sem] theorem vbin_neq : vbin .neq e (.i k a) (.i k c) = some (.b (!decide (a = c))) := by simp only [vbin, binV_neq, Option.bind_some, ofSc]
@[go_sem] theorem vbin_lss : vbin .lss e (.i k a) (.i k c) = some (.b (decide (a < c))) := by simp only [vbin, binV_lss, Option.bind_some, ofSc]
@[go_sem] theorem vbin_leq : vbin .leq e (.i k a) (.i k c) = some (.b (decide (a ≤ c))) := by simp only [vbin, binV_leq, Option.bind_some, ofSc]
@[go_sem] theorem vbin_gtr : vbin .gtr e (.i k a) (.i k c) = some (.b (decide (c < a))) := by simp only [vbin, binV_gtr, Option.bind_some, ofSc]
@[go_sem] theorem vbin_geq : vbin .geq e (.i k a) (.i k c) = some (.b (decide (c ≤ a))) := by simp only [vbin, binV_geq, Option.bind_some, ofSc]
@[go_sem] theorem vbin_eqlb (x y : Bool) : vbin .eql (some .b) (.b x) (.b y) = some (.b (x == y)) := rfl
@[go_sem] theorem vbin_neqb (x y : Bool) : vbin .neq (some .b) (.b x) (.b y) = some (.b (!(x == y))) := rfl
@[go_sem] theorem vbin_eqls (x y : ByteArray) : vbin .eql e (.s x) (.s y) = some (.b (decide (x = y))) := by simp only [vbin, binV_eqls, Option.bind_some, ofSc]
@[go_sem] theorem vbin_neqs (x y : ByteArray) : vbin .neq e (.s x) (.s y) = some (.b (!decide (x = y))) := by simp only [vbin, binV_neqs, Option.bind_some, ofSc]
@[go_sem] theorem vbin_pp1 : vbin .eql (some .p) .np .np = some (.b true) := rfl
@[go_sem] theorem vbin_pp2 : vbin .neq (some .p) .np .np = some (.b false) := rfl
@[go_sem] theorem vbin_p1 (i v r c : Nat) : vbin .eql (some .p) (.p i v r c) .np = some (.b false) := rfl
@[go_sem] theorem vbin_p2 (i v r c : Nat) : vbin .neq (some .p) (.p i v r c) .np = some (.b true) := rfl
@[go_sem] theorem vbin_fp1 (l : List VV) (c : Nat) : vbin .eql (some .p) (.fp l c) .np = some (.b false) := rfl
@[go_sem] theorem vbin_fp2 (l : List VV) (c : Nat) : vbin .neq (some .p) (.fp l c) .np = some (.b true) := rfl
@[go_sem] theorem vbin_nl : vbin .eql (some .s) .nl .nl = some (.b true) := rfl
/-- A word. -/
def vW (w : BitVec 64) : VV := .i .u64 (w.toNat : Int)
variable {x y : BitVec 64}
@[go_sem] theorem vW_def : VV.i .u64 (x.toNat : Int) = vW x := rfl
@[go_sem] theorem vW_0 : VV.i .u64 0 = vW 0#64 := rfl
@[go_sem] theorem vW_1 : VV.i .u64 1 = vW 1#64 := rfl
theorem vW_bin {op : BinOp} {w : BitVec 64} (hb : binV op e (Wd x) (Wd y) = some (Wd w)) : vbin op e (vW x) (vW y) = some (vW w) := by
 show (binV op e (Wd x) (Wd y)).bind ofSc = _
 rw [hb]; rfl
theorem vW_binb {op : BinOp} {w : Bool} (hb : binV op e (Wd x) (Wd y) = some (.b w)) : vbin op e (vW x) (vW y) = some (.b w) := by
 show (binV op e (Wd x) (Wd y)).bind ofSc = _
 rw [hb]; rfl
@[go_sem] theorem vW_and : vbin .and e (vW x) (vW y) = some (vW (x &&& y)) := vW_bin binW_and
@[go_sem] theorem vW_or : vbin .or e (vW x) (vW y) = some (vW (x ||| y)) := vW_bin binW_or
@[go_sem] theorem vW_andNot : vbin .andNot e (vW x) (vW y) = some (vW (x &&& ~~~y)) := vW_bin binW_andNot
@[go_sem] theorem vW_sub : vbin .sub e (vW x) (vW y) = some (vW (x - y)) := vW_bin binW_sub
@[go_sem] theorem vW_add : vbin .add e (vW x) (vW y) = some (vW (x + y)) := vW_bin binW_add
@[go_sem] theorem vW_eql : vbin .eql e (vW x) (vW y) = some (.b (decide (x = y))) := vW_binb binW_eql
@[go_sem] theorem vW_neq : vbin .neq e (vW x) (vW y) = some (.b (!decide (x = y))) := vW_binb binW_neq
theorem vW_shl {n : Nat} (h : n < 64) : vbin .shl e (vW x) (.i .i64 n) = some (vW (x <<< n)) := by
 show (binV .shl e (Wd x) (.i .i64 n)).bind ofSc = _
 rw [binW_shl h]; rfl
@[go_sem] theorem vW_cell : (vW x).cell = true := rfl
@[go_sem] theorem vW_cells : (vW x).cells = [vW x] := rfl
@[go_sem] theorem vW_frz {d : Nat} : frz h (d + 1) (vW x) = some (vW x, []) := rfl
@[go_sem] theorem vW_scal : scal (vW x) = true := rfl
@[go_sem] theorem vW_bel {L : Nat} : bel L (vW x) = true := rfl
@[go_sem] theorem vW_cl {L : Nat} : clV L (vW x) = vW x := rfl
end
/-- The count of noughts, as a stand-in. -/
def vctz : List VV → Option VV
 | [.i .u64 n] => if 0 ≤ n ∧ n < 18446744073709551616 then some (.i .i64 (Lib.ctz 64 n.toNat : Nat)) else none
 | _ => none
/-- It reads the same by its kind. -/
def rgd (F : VFr) (h : VH) (d : Nat) (n : Option Nat) (a : Nat) : Prop := vrigid (VFr.tmp F d) = true ∧ vld h n (VFr.tmp F a) = some (VFr.tmp F d)
def chkG (v : VV) (w : Bool) (P : Prop) : Prop := match v with
 | .b x => (bif x == w then P else True)
 | .tu [] => True
 | _ => False
@[go_sem] theorem chkG_tt {P : Prop} : chkG (.b true) true P ↔ P := Iff.rfl
@[go_sem] theorem chkG_ff {P : Prop} : chkG (.b false) false P ↔ P := Iff.rfl
@[go_sem] theorem chkG_tf {P : Prop} : chkG (.b true) false P ↔ True := Iff.rfl
@[go_sem] theorem chkG_ft {P : Prop} : chkG (.b false) true P ↔ True := Iff.rfl
@[go_sem] theorem chkG_nul {w : Bool} {P : Prop} : chkG VV.nul w P ↔ True := Iff.rfl
@[go_sem ↓] theorem vrecheck_nil {L : LdL} : vrecheck F h L [] ↔ True := Iff.rfl
@[go_sem ↓] theorem vrecheck_o {L : LdL} {d a : Nat} {n : Option Nat} {r : List AOper} : vrecheck F h L (o d (.ld n (.t a)) :: r) ↔ ((d, n, a) ∈ L ∨ rgd F h d n a) ∧ vrecheck F h L r := Iff.rfl
@[go_sem ↓] theorem vrecheck_og {L : LdL} {d t a : Nat} {w : Bool} {n : Option Nat} {r : List AOper} : vrecheck F h L (og d t w (.ld n (.t a)) :: r) ↔ chkG (VFr.tmp F t) w ((d, n, a) ∈ L ∨ rgd F h d n a) ∧ vrecheck F h L r := by
 show (match vwanted F (some (t, w)) with | some false => True | some true => _ | none => False) ∧ _ ↔ _
 refine and_congr ?_ Iff.rfl
 simp only [vwanted]
 generalize VFr.tmp F t = v
 cases v with
 | b x => cases x <;> cases w <;> exact Iff.rfl
 | tu vs => cases vs <;> exact Iff.rfl
 | _ => exact Iff.rfl
attribute [go_sem] vquiet vtouch stepL addL dropL keepL vwanted List.filter_cons List.filter_nil List.mem_cons List.not_mem_nil
attribute [go_sem] decide_true decide_false Bool.not_true Bool.not_false Bool.and_true Bool.true_and Bool.and_false Bool.false_and Bool.or_true Bool.true_or Bool.or_false Bool.false_or cond_true cond_false not_true_eq_false not_false_eq_true if_true if_false false_and and_false exists_false imp_false
attribute [go_sem] or_false false_or or_self ite_true ite_false
attribute [go_sem] VV.b.injEq VV.i.injEq VV.s.injEq VV.ls.injEq VV.sl.injEq VV.p.injEq VV.fp.injEq VV.f.injEq VV.ag.injEq VV.tu.injEq Option.some.injEq Prod.mk.injEq true_and and_true and_self true_or or_true
 List.map_cons List.map_nil List.append_nil List.nil_append List.cons_append Option.map_some Option.map_none decide_eq_true_eq decide_eq_false_iff_not forall_const Bool.not_eq_true Bool.not_eq_false reduceCtorEq false_implies implies_true
 Int.toNat_natCast Int.natCast_nonneg Int.ofNat_lt Int.ofNat_le
end
end Go.AM

namespace Go.AM
open Go
section
variable {V : VProg} {m : Nat → Nat}
theorem vwrap {k : Nat} (h : k < 9223372036854775807) : IntKind.i64.wrap ((k : Int) + 1) = ((k + 1 : Nat) : Int) := by rw [wrap_i64 (by omega) (by omega)]; omega
/-- A loop over a range. -/
theorem vrange_rule {i n c d B C : Nat} {body : ACode} (hne : c ≠ i ∧ c ≠ n ∧ d ≠ n ∧ i ≠ n ∧ m i = 0) (N : Nat) (hN : N < 9223372036854775807) (I : Nat → VFr → VH → Prop) {Q : Ex → VFr → VH → Prop}
  (step : ∀ k F h, k < N → VFr.tmp F i = .i .i64 k → VFr.tmp F n = .i .i64 N → I k F h →
   Vc V m body (Tm.set F c (.b true)) h (fun e F' h' => match e with
    | .norm => VFr.tmp F' i = .i .i64 k ∧ VFr.tmp F' n = .i .i64 N ∧ okT h.length h h' ∧ ∀ v, I (k + 1) (clean h.length (Tm.set (Tm.set F' d v) i v)) (h'.take h.length)
    | .exit x => (bif Nat.beq x C then VFr.tmp F' i = .i .i64 k ∧ VFr.tmp F' n = .i .i64 N ∧ okT h.length h h' ∧ ∀ v, I (k + 1) (clean h.length (Tm.set (Tm.set F' d v) i v)) (h'.take h.length) else bif Nat.beq x B then Q .norm F' h' else Q (.exit x) F' h')
    | .ret => Q .ret F' h'))
  (done : ∀ F h, I N F h → Q .norm (Tm.set F c (.b false)) h) :
  ∀ k F h, k ≤ N → VFr.tmp F i = .i .i64 k → VFr.tmp F n = .i .i64 N → I k F h →
   VL V m B (.seq (.reg [o c (.bin .lss none (.t i) (.t n))]) (.seq (.cond (.t c) .skip (.exit B)) (.seq (.block C body) (.reg [o d (.bin .add none (.t i) (.c (.i .i64 1))), o i (.mov (.t d))])))) F h Q := by
 obtain ⟨hci, hcn, hdn, hin, hm⟩ := hne
 intro k F h hk h1 h2 h3
 unfold VL
 rw [Vc_block]
 refine Vc_loop_inv (M := Nat) (I := fun k F h => k ≤ N ∧ VFr.tmp F i = .i .i64 k ∧ VFr.tmp F n = .i .i64 N ∧ I k F h) (μ := fun k => N - k) ?_ k F h ⟨hk, h1, h2, h3⟩
 rintro k F h ⟨hk, h1, h2, h3⟩
 rw [Vc_seq, Vc_reg, Vr_o, Vo_bin]
 simp only [vev_t, h1, h2, vbin_lss, OK_some, mk_eq, Vr_nil]
 rw [Vc_seq, Vc_cond]
 simp only [vev_t, vtmp_set, if_true, mk_eq]
 rcases Nat.lt_or_ge k N with hlt | hge
 ·have : decide ((k : Int) < N) = true := by simp; omega
  rw [this, VCn_t, Vc_skip]
  simp only
  rw [Vc_seq, Vc_block]
  refine (step k F h hlt h1 h2 h3).mono fun e F' h' hq => ?_
  have fin : (VFr.tmp F' i = .i .i64 k ∧ VFr.tmp F' n = .i .i64 N ∧ okT h.length h h' ∧ ∀ v, I (k + 1) (clean h.length (Tm.set (Tm.set F' d v) i v)) (h'.take h.length)) →
    Vc V m (.reg [o d (.bin .add none (.t i) (.c (.i .i64 1))), o i (.mov (.t d))]) F' h' (fun e F' h' => match e with
     | .norm => okT h.length h h' ∧ ∃ m', N - m' < N - k ∧ m' ≤ N ∧ VFr.tmp (clean h.length F') i = .i .i64 m' ∧ VFr.tmp (clean h.length F') n = .i .i64 N ∧ I m' (clean h.length F') (h'.take h.length)
     | .exit id' => (bif Nat.beq id' B then Q .norm F' h' else Q (.exit id') F' h')
     | e => Q e F' h') := by
   rintro ⟨g1, g2, g3, g4⟩
   rw [Vc_reg, Vr_o, Vo_bin]
   simp only [vev_t, vev_c, ofAV_i, g1, vbin_add, OK_some, mk_eq, Vr_o, hm, Vo_mov', vop_mov, movV_0, OK2_some, mk_eq, Vr_nil, vtmp_set, if_true, tmp_clean, if_neg hin.symm, if_neg hdn.symm, g2, clV_i]
   rw [vwrap (by omega)]
   exact ⟨g3, k + 1, by omega, by omega, rfl, trivial, g4 _⟩
  cases e with
  | norm => exact (fin hq).mono (by intro e F h hh; cases e <;> exact hh)
  | ret => exact hq
  | exit x =>
   simp only at hq ⊢
   cases hb : Nat.beq x C with
   | true => rw [hb] at hq; exact (fin hq).mono (by intro e F h hh; cases e <;> exact hh)
   | false => rw [hb] at hq; exact hq
 ·have hkN : k = N := by omega
  subst hkN
  have : decide ((k : Int) < k) = false := by simp
  rw [this, VCn_f, Vc_exit]
  simp only [Nat.beq_refl, cond_true]
  exact done F h h3
/-- A loop that counts, as it is written out: 'for i := ..; i < ..; i++'. -/
theorem vfor_rule {i c d1 d2 B C : Nat} {pre : List AOper} {body : ACode} (hne : m d1 = 0 ∧ m i = 0) (N : Nat) (hN : N < 9223372036854775807) (I : Nat → VFr → VH → Prop) {Q : Ex → VFr → VH → Prop}
  (hpre : ∀ k F h, k ≤ N → VFr.tmp F i = .i .i64 k → I k F h → Vr V m pre F h (fun F' h' => VFr.tmp F' c = .b (decide (k < N)) ∧ VFr.tmp F' i = .i .i64 k ∧ h' = h ∧ I k F' h))
  (step : ∀ k F h, k < N → VFr.tmp F i = .i .i64 k → I k F h →
   Vc V m body F h (fun e F' h' => match e with
    | .norm => VFr.tmp F' i = .i .i64 k ∧ okT h.length h h' ∧ ∀ v w, I (k + 1) (clean h.length (Tm.set (Tm.set (Tm.set F' d1 v) d2 w) i w)) (h'.take h.length)
    | .exit x => (bif Nat.beq x C then VFr.tmp F' i = .i .i64 k ∧ okT h.length h h' ∧ ∀ v w, I (k + 1) (clean h.length (Tm.set (Tm.set (Tm.set F' d1 v) d2 w) i w)) (h'.take h.length) else bif Nat.beq x B then Q .norm F' h' else Q (.exit x) F' h')
    | .ret => Q .ret F' h'))
  (done : ∀ F h, I N F h → Q .norm F h) :
  ∀ k F h, k ≤ N → VFr.tmp F i = .i .i64 k → I k F h →
   VL V m B (.seq (.seq (.reg pre) (.cond (.t c) .skip (.exit B))) (.seq (.block C body) (.reg [o d1 (.mov (.t i)), o d2 (.bin .add none (.t d1) (.c (.i .i64 1))), o i (.mov (.t d2))]))) F h Q := by
 obtain ⟨hm1, hm2⟩ := hne
 intro k F h hk h1 h3
 unfold VL
 rw [Vc_block]
 refine Vc_loop_inv (M := Nat) (I := fun k F h => k ≤ N ∧ VFr.tmp F i = .i .i64 k ∧ I k F h) (μ := fun k => N - k) ?_ k F h ⟨hk, h1, h3⟩
 rintro k F h ⟨hk, h1, h3⟩
 rw [Vc_seq, Vc_seq, Vc_reg]
 obtain ⟨n, F1, h', hr, hc, hi, rfl, hI⟩ := hpre k F h hk h1 h3
 refine ⟨n, F1, h', hr, ?_⟩
 simp only
 rw [Vc_cond]
 simp only [vev_t, hc, mk_eq]
 rcases Nat.lt_or_ge k N with hlt | hge
 ·rw [decide_eq_true hlt, VCn_t, Vc_skip]
  simp only
  rw [Vc_seq, Vc_block]
  refine (step k F1 h' hlt hi hI).mono fun e F' h2 hq => ?_
  have fin : (VFr.tmp F' i = .i .i64 k ∧ okT h'.length h' h2 ∧ ∀ v w, I (k + 1) (clean h'.length (Tm.set (Tm.set (Tm.set F' d1 v) d2 w) i w)) (h2.take h'.length)) →
    Vc V m (.reg [o d1 (.mov (.t i)), o d2 (.bin .add none (.t d1) (.c (.i .i64 1))), o i (.mov (.t d2))]) F' h2 (fun e F' h2 => match e with
     | .norm => okT h'.length h' h2 ∧ ∃ m', N - m' < N - k ∧ m' ≤ N ∧ VFr.tmp (clean h'.length F') i = .i .i64 m' ∧ I m' (clean h'.length F') (h2.take h'.length)
     | .exit id' => (bif Nat.beq id' B then Q .norm F' h2 else Q (.exit id') F' h2)
     | e => Q e F' h2) := by
   rintro ⟨g1, g3, g4⟩
   rw [Vc_reg, Vr_o]
   simp only [hm1, Vo_mov', vop_mov, movV_0, OK2_some, mk_eq, vev_t, vev_c, ofAV_i, g1, Vr_o, Vo_bin, vtmp_set, if_true, vbin_add, OK_some, mk_eq, hm2, Vr_nil, tmp_clean, clV_i]
   rw [vwrap (by omega)]
   exact ⟨g3, k + 1, by omega, by omega, rfl, g4 _ _⟩
  cases e with
  | norm => exact (fin hq).mono (by intro e F h hh; cases e <;> exact hh)
  | ret => exact hq
  | exit x =>
   simp only at hq ⊢
   cases hb : Nat.beq x C with
   | true => rw [hb] at hq; exact (fin hq).mono (by intro e F h hh; cases e <;> exact hh)
   | false => rw [hb] at hq; exact hq
 ·have hkN : k = N := by omega
  subst hkN
  have : decide (k < k) = false := by simp
  rw [this, VCn_f, Vc_exit]
  simp only [Nat.beq_refl, cond_true]
  exact done F1 h' hI
end
abbrev eI (x : Int) : List VV := [.i .i64 x]
abbrev eW (x : BitVec 64) : List VV := [vW x]
abbrev eS (x : ByteArray) : List VV := [.s x]
abbrev eU (x : U8) : List VV := [.i .u8 (x.n : Int)]
abbrev lI (l : List Int) : VV := .ls (l.map eI)
abbrev lW (l : List (BitVec 64)) : VV := .ls (l.map eW)
abbrev lS (l : List ByteArray) : VV := .ls (l.map eS)
abbrev lU (l : List U8) : VV := .ls (l.map eU)
abbrev eLI (l : List Int) : List VV := [lI l]
abbrev eLS (l : List ByteArray) : List VV := [lS l]
abbrev eLLI (l : List (List Int)) : List VV := [.ls (l.map eLI)]
abbrev eN (n : Node) : List VV := [.i .i64 n.thread, .i .i64 n.up, .i .i64 n.kind, .i .i64 n.loc, .i .i64 n.mode, .i .i64 n.val, .b n.rmw, .b n.fin, lI n.regs]
abbrev vN (n : Node) : VV := .ag (eN n)
abbrev eT (t : Tree) : List VV := [.i .i64 t.vals, lS t.locs, .ls (t.regs.map eLS), .ls (t.nodes.map eN)]
abbrev vT (t : Tree) : VV := .ag (eT t)
abbrev eSh (s : Shape) : List VV := [lI s.has, lI s.jf, .ls (s.mo.map eLLI)]
abbrev vSh (s : Shape) : VV := .ag (eSh s)
end Go.AM

namespace Go.AM
open Go
def nilO : VO := { ty := 0, esz := 0, ver := 0, nl := true, rows := [] }
/-- What a list that was nil at first has become. -/
def accO (ty e : Nat) (rows : List (List VV)) : VO := if rows.length = 0 then nilO else { ty := ty, esz := e, ver := rows.length, nl := false, rows := rows }
section
variable {ty e : Nat} {rows : List (List VV)}
@[go_sem] theorem accO_ver : (accO ty e rows).ver = rows.length := by
 unfold accO; split
 ·rename_i h; rw [h]; rfl
 ·rfl
@[go_sem] theorem accO_rows : (accO ty e rows).rows = rows := by
 unfold accO; split
 ·rename_i h; rw [List.length_eq_zero_iff.1 h]; rfl
 ·rfl
@[go_sem] theorem accO_ok : ((accO ty e rows).nl || (decide ((accO ty e rows).ty = ty) && decide ((accO ty e rows).esz = e))) = true := by
 unfold accO; split
 ·rfl
 ·simp
@[go_sem] theorem accO_src : (decide ((accO ty e rows).esz = e) || (accO ty e rows).nl) = true := by
 unfold accO; split
 ·simp [nilO]
 ·simp
theorem accO_frz (he : 0 < e) : (decide (0 < (accO ty e rows).esz) || (accO ty e rows).nl) = true := by
 unfold accO; split
 ·rfl
 ·simp [he]
@[go_sem] theorem accO_frz1 : (decide (0 < (accO ty 1 rows).esz) || (accO ty 1 rows).nl) = true := accO_frz (by decide)
@[go_sem] theorem accO_frz2 : (decide (0 < (accO ty 2 rows).esz) || (accO ty 2 rows).nl) = true := accO_frz (by decide)
@[go_sem] theorem accO_frz4 : (decide (0 < (accO ty 4 rows).esz) || (accO ty 4 rows).nl) = true := accO_frz (by decide)
@[go_sem] theorem accO_frz7 : (decide (0 < (accO ty 7 rows).esz) || (accO ty 7 rows).nl) = true := accO_frz (by decide)
@[go_sem] theorem accO_frz9 : (decide (0 < (accO ty 9 rows).esz) || (accO ty 9 rows).nl) = true := accO_frz (by decide)
@[go_sem] theorem accO_snoc {r : List VV} : ({ ty := ty, esz := e, ver := rows.length + 1, nl := false, rows := rows ++ [r] } : VO) = accO ty e (rows ++ [r]) := by
 unfold accO
 rw [if_neg (by simp), List.length_append]; rfl
@[go_sem] theorem accO_snocm {α : Type} {xs : List α} {x : α} {f : α → List VV} : ({ ty := ty, esz := e, ver := xs.length + 1, nl := false, rows := (xs ++ [x]).map f } : VO) = accO ty e ((xs ++ [x]).map f) := by
 unfold accO
 rw [if_neg (by simp), List.length_map, List.length_append]; rfl
@[go_sem] theorem accO_nil : accO ty e [] = nilO := rfl
@[go_sem] theorem nilO_rows : nilO.rows = [] := rfl
@[go_sem] theorem nilO_nl : nilO.nl = true := rfl
@[go_sem] theorem nilO_ver : nilO.ver = 0 := rfl
@[go_sem] theorem nilO_esz : nilO.esz = 0 := rfl
@[go_sem] theorem nilO_ty : nilO.ty = 0 := rfl
@[go_sem] theorem nilO_def : ({ ty := 0, esz := 0, ver := 0, nl := true, rows := [] } : VO) = nilO := rfl
end
@[go_sem] theorem snoc_I (xs : List Int) (x : Int) : xs.map eI ++ [[.i .i64 x]] = (xs ++ [x]).map eI := by simp
@[go_sem] theorem snoc_W (xs : List (BitVec 64)) (x : BitVec 64) : xs.map eW ++ [[vW x]] = (xs ++ [x]).map eW := by simp
@[go_sem] theorem snoc_S (xs : List ByteArray) (x : ByteArray) : xs.map eS ++ [[.s x]] = (xs ++ [x]).map eS := by simp
section
variable {V : VProg} {m : Nat → Nat} {F : VFr} {h : VH} {x w : Bool} {d : Option Nat} {op : AOp}
theorem VG_split {r : List AOper} {R : VFr → VH → Prop} (h1 : x = true → VG V m (.b true) w d op r F h R) (h2 : x = false → VG V m (.b false) w d op r F h R) : VG V m (.b x) w d op r F h R := by
 cases x with
 | true => exact h1 rfl
 | false => exact h2 rfl
theorem VGs_split {c : List AOper} {r : List AStep} {L : LdL} {R : VFr → VH → Prop} (h1 : x = true → VGs V m (.b true) w d op c r L F h R) (h2 : x = false → VGs V m (.b false) w d op c r L F h R) : VGs V m (.b x) w d op c r L F h R := by
 cases x with
 | true => exact h1 rfl
 | false => exact h2 rfl
theorem VCn_split {a b : ACode} {Q : Ex → VFr → VH → Prop} (h1 : x = true → VCn V m (.b true) a b F h Q) (h2 : x = false → VCn V m (.b false) a b F h Q) : VCn V m (.b x) a b F h Q := by
 cases x with
 | true => exact h1 rfl
 | false => exact h2 rfl
end
@[go_sem] theorem vappM_0 (h : VH) (t e b : Nat) (x y : VV) : vappM 0 h t e b x y = vapp h t e b x y := rfl
@[go_sem] theorem vappM_1 (h : VH) (t e b : Nat) (x y : VV) : vappM 1 h t e b x y = vapp h t e b x y := rfl
@[go_sem] theorem vappM_2 (h : VH) (t e b : Nat) (x y : VV) : vappM 2 h t e b x y = vapp h t e b x y := rfl
/-- Frozen behind it. -/
def frz2 (r : Option (VV × VH)) : Option (VV × VH) := match r with
 | some (v, h') => (match frz h' dF v with
  | some (r, ids) => some (r, kill ids h')
  | none => none)
 | none => none
@[go_sem] theorem vappM_5 (h : VH) (t e b : Nat) (x y : VV) : vappM 5 h t e b x y = frz2 (vapp h t e b x y) := by
 unfold vappM frz2; rfl
@[go_sem] theorem frz2_some (v : VV) (h : VH) : frz2 (some (v, h)) = (match frz h 8 v with
  | some (r, ids) => some (r, kill ids h)
  | none => none) := rfl
def cpV (n : Nat) : Nat := if n = 0 then 0 else 1
def cpO (ty e : Nat) (rows : List (List VV)) : VO := { ty := ty, esz := e, ver := cpV rows.length, nl := false, rows := rows }
@[go_sem] theorem cpO_ver (ty e : Nat) (rows : List (List VV)) : (cpO ty e rows).ver = cpV rows.length := rfl
@[go_sem] theorem cpO_rows (ty e : Nat) (rows : List (List VV)) : (cpO ty e rows).rows = rows := rfl
@[go_sem] theorem cpO_ty (ty e : Nat) (rows : List (List VV)) : (cpO ty e rows).ty = ty := rfl
@[go_sem] theorem cpO_esz (ty e : Nat) (rows : List (List VV)) : (cpO ty e rows).esz = e := rfl
@[go_sem] theorem cpO_nl (ty e : Nat) (rows : List (List VV)) : (cpO ty e rows).nl = false := rfl
@[go_sem high] theorem vapp_copy (h : VH) (ty e b id : Nat) (ys : List (List VV)) (h0 : hget h id 0 = some { ty := ty, esz := e, ver := 0, nl := false, rows := [] }) (h1 : okRows e ys = true) (h2 : ys.length * b ≤ two47) (h3 : 0 < e) :
  vapp h ty e b (.sl id 0 0 0) (.ls ys) = some (.sl id (cpV ys.length) 0 ys.length, h.set id (some (cpO ty e ys))) := by
 have hg : h[id]? = some (some { ty := ty, esz := e, ver := 0, nl := false, rows := [] }) := by
  unfold hget at h0
  split at h0
  ·rename_i o ho
   cases hb : Nat.beq o.ver 0 with
   | true => rw [hb] at h0; cases h0; exact ho
   | false => rw [hb] at h0; cases h0
  ·cases h0
 have hb1 : (Nat.ble ((0 + ys.length) * b) two47 && Nat.blt 0 e) = true := by
  rw [Nat.zero_add]; simp only [Bool.and_eq_true, Nat.ble_eq, Nat.blt_eq]; exact ⟨h2, h3⟩
 unfold vapp
 simp only [vlen, vsrc, h1, cond_true, h0, hb1]
 cases ys with
 | nil =>
  simp only [Option.some.injEq, Prod.mk.injEq]
  refine ⟨rfl, ?_⟩
  obtain ⟨hi, he⟩ := List.getElem?_eq_some_iff.1 hg
  have : (some (cpO ty e []) : Option VO) = h[id] := by rw [he]; rfl
  rw [this, List.set_getElem_self]
 | cons y ys =>
  simp only [Nat.beq_refl, List.length_nil, Bool.and_self, Bool.or_true, cond_true, List.nil_append, Nat.zero_add]
  rfl
@[go_sem low] theorem vapp_sl_ls (h : VH) (ty esz bytes : Nat) (id ver off n : Nat) (ys : List (List VV)) : vapp h ty esz bytes (.sl id ver off n) (.ls ys) = (match vlen (.sl id ver off n), vsrc h esz (.ls ys) with
 | some n0, some ys0 =>
  bif Nat.ble ((n0 + ys0.length) * bytes) two47 && Nat.blt 0 esz then
   match ((.sl id ver off n) : VV) with
   | .sl id3 ver3 off3 _ => (match hget h id3 ver3 with
    | some o => (match ys0 with
     | [] => some ((.sl id ver off n), h)
     | y0 :: yr => bif Nat.beq off3 0 && Nat.beq n0 o.rows.length && (o.nl || (Nat.beq o.ty ty && Nat.beq o.esz esz)) then
       some (.sl id3 (ver3 + 1) 0 (n0 + ys0.length), h.set id3 (some { ty := ty, esz := esz, ver := ver3 + 1, nl := false, rows := o.rows ++ ys0 }))
      else none)
    | none => none)
   | .nl => (match ys0 with
    | [] => some (.nl, h)
    | y0 :: yr => some (.sl h.length 0 0 ys0.length, h ++ [some { ty := ty, esz := esz, ver := 0, nl := false, rows := ys0 }]))
   | _ => none
  else none
 | _, _ => none) := rfl
@[go_sem low] theorem vapp_sl_nl (h : VH) (ty esz bytes : Nat) (id ver off n : Nat)  : vapp h ty esz bytes (.sl id ver off n) .nl = (match vlen (.sl id ver off n), vsrc h esz .nl with
 | some n0, some ys0 =>
  bif Nat.ble ((n0 + ys0.length) * bytes) two47 && Nat.blt 0 esz then
   match ((.sl id ver off n) : VV) with
   | .sl id3 ver3 off3 _ => (match hget h id3 ver3 with
    | some o => (match ys0 with
     | [] => some ((.sl id ver off n), h)
     | y0 :: yr => bif Nat.beq off3 0 && Nat.beq n0 o.rows.length && (o.nl || (Nat.beq o.ty ty && Nat.beq o.esz esz)) then
       some (.sl id3 (ver3 + 1) 0 (n0 + ys0.length), h.set id3 (some { ty := ty, esz := esz, ver := ver3 + 1, nl := false, rows := o.rows ++ ys0 }))
      else none)
    | none => none)
   | .nl => (match ys0 with
    | [] => some (.nl, h)
    | y0 :: yr => some (.sl h.length 0 0 ys0.length, h ++ [some { ty := ty, esz := esz, ver := 0, nl := false, rows := ys0 }]))
   | _ => none
  else none
 | _, _ => none) := rfl
@[go_sem low] theorem vapp_sl_sl (h : VH) (ty esz bytes : Nat) (id ver off n : Nat) (id2 ver2 off2 n2 : Nat) : vapp h ty esz bytes (.sl id ver off n) (.sl id2 ver2 off2 n2) = (match vlen (.sl id ver off n), vsrc h esz (.sl id2 ver2 off2 n2) with
 | some n0, some ys0 =>
  bif Nat.ble ((n0 + ys0.length) * bytes) two47 && Nat.blt 0 esz then
   match ((.sl id ver off n) : VV) with
   | .sl id3 ver3 off3 _ => (match hget h id3 ver3 with
    | some o => (match ys0 with
     | [] => some ((.sl id ver off n), h)
     | y0 :: yr => bif Nat.beq off3 0 && Nat.beq n0 o.rows.length && (o.nl || (Nat.beq o.ty ty && Nat.beq o.esz esz)) then
       some (.sl id3 (ver3 + 1) 0 (n0 + ys0.length), h.set id3 (some { ty := ty, esz := esz, ver := ver3 + 1, nl := false, rows := o.rows ++ ys0 }))
      else none)
    | none => none)
   | .nl => (match ys0 with
    | [] => some (.nl, h)
    | y0 :: yr => some (.sl h.length 0 0 ys0.length, h ++ [some { ty := ty, esz := esz, ver := 0, nl := false, rows := ys0 }]))
   | _ => none
  else none
 | _, _ => none) := rfl
@[go_sem low] theorem vapp_nl_ls (h : VH) (ty esz bytes : Nat)  (ys : List (List VV)) : vapp h ty esz bytes .nl (.ls ys) = (match vlen .nl, vsrc h esz (.ls ys) with
 | some n0, some ys0 =>
  bif Nat.ble ((n0 + ys0.length) * bytes) two47 && Nat.blt 0 esz then
   match (.nl : VV) with
   | .sl id3 ver3 off3 _ => (match hget h id3 ver3 with
    | some o => (match ys0 with
     | [] => some (.nl, h)
     | y0 :: yr => bif Nat.beq off3 0 && Nat.beq n0 o.rows.length && (o.nl || (Nat.beq o.ty ty && Nat.beq o.esz esz)) then
       some (.sl id3 (ver3 + 1) 0 (n0 + ys0.length), h.set id3 (some { ty := ty, esz := esz, ver := ver3 + 1, nl := false, rows := o.rows ++ ys0 }))
      else none)
    | none => none)
   | .nl => (match ys0 with
    | [] => some (.nl, h)
    | y0 :: yr => some (.sl h.length 0 0 ys0.length, h ++ [some { ty := ty, esz := esz, ver := 0, nl := false, rows := ys0 }]))
   | _ => none
  else none
 | _, _ => none) := rfl
@[go_sem low] theorem vapp_nl_nl (h : VH) (ty esz bytes : Nat)   : vapp h ty esz bytes .nl .nl = (match vlen .nl, vsrc h esz .nl with
 | some n0, some ys0 =>
  bif Nat.ble ((n0 + ys0.length) * bytes) two47 && Nat.blt 0 esz then
   match (.nl : VV) with
   | .sl id3 ver3 off3 _ => (match hget h id3 ver3 with
    | some o => (match ys0 with
     | [] => some (.nl, h)
     | y0 :: yr => bif Nat.beq off3 0 && Nat.beq n0 o.rows.length && (o.nl || (Nat.beq o.ty ty && Nat.beq o.esz esz)) then
       some (.sl id3 (ver3 + 1) 0 (n0 + ys0.length), h.set id3 (some { ty := ty, esz := esz, ver := ver3 + 1, nl := false, rows := o.rows ++ ys0 }))
      else none)
    | none => none)
   | .nl => (match ys0 with
    | [] => some (.nl, h)
    | y0 :: yr => some (.sl h.length 0 0 ys0.length, h ++ [some { ty := ty, esz := esz, ver := 0, nl := false, rows := ys0 }]))
   | _ => none
  else none
 | _, _ => none) := rfl
@[go_sem low] theorem vapp_nl_sl (h : VH) (ty esz bytes : Nat)  (id2 ver2 off2 n2 : Nat) : vapp h ty esz bytes .nl (.sl id2 ver2 off2 n2) = (match vlen .nl, vsrc h esz (.sl id2 ver2 off2 n2) with
 | some n0, some ys0 =>
  bif Nat.ble ((n0 + ys0.length) * bytes) two47 && Nat.blt 0 esz then
   match (.nl : VV) with
   | .sl id3 ver3 off3 _ => (match hget h id3 ver3 with
    | some o => (match ys0 with
     | [] => some (.nl, h)
     | y0 :: yr => bif Nat.beq off3 0 && Nat.beq n0 o.rows.length && (o.nl || (Nat.beq o.ty ty && Nat.beq o.esz esz)) then
       some (.sl id3 (ver3 + 1) 0 (n0 + ys0.length), h.set id3 (some { ty := ty, esz := esz, ver := ver3 + 1, nl := false, rows := o.rows ++ ys0 }))
      else none)
    | none => none)
   | .nl => (match ys0 with
    | [] => some (.nl, h)
    | y0 :: yr => some (.sl h.length 0 0 ys0.length, h ++ [some { ty := ty, esz := esz, ver := 0, nl := false, rows := ys0 }]))
   | _ => none
  else none
 | _, _ => none) := rfl
attribute [go_sem] vcpy
end Go.AM
