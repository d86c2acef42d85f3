/- What is proved: contracts of functions of one seat, each by the executor; written by a program of the prover (gen.py) and by hand. Conditions: each contract names its own. -/
import Derived.Test.YtlfppcidlfkpkaaAw2
import Derived.Test.YtlfppcidlfkpkaaProg
import Derived.KernelRfl
import Derived.IntWalk
import Derived.Test.YtlfppcidlfkpkaaCons
import Derived.Test.YtlfppcidlfkpkaaConb
import Derived.Test.YtlfppcidlfkpkaaConc
import Derived.Test.YtlfppcidlfkpkaaConj
import Derived.Test.YtlfppcidlfkpkaaCond
import Derived.Test.YtlfppcidlfkpkaaCone
namespace Go.Proofs.Ytlfppcidlfkpkaa
open Go Go.Aw Go.RowKit
set_option linter.unusedVariables false
set_option linter.unusedSimpArgs false
set_option maxRecDepth 10000

theorem boundsB_iff {amt ab be ex : Int} : boundsB amt ab be ex = true ↔ (1 ≤ amt ∧ amt ≤ 1099511627776 ∧ 0 ≤ ab ∧ ab ≤ 1000 ∧ 0 ≤ be ∧ be ≤ 1000 ∧ 0 ≤ ex ∧ ex ≤ 1048576) := by simp [boundsB]
theorem mul_part {a b : Int} (h0 : 0 ≤ a) (h1 : 0 ≤ b) (h2 : b ≤ 1000) : 0 ≤ a * b ∧ a * b ≤ 1000 * a := by
  refine ⟨Int.mul_nonneg h0 h1, ?_⟩
  have := Int.mul_le_mul_of_nonneg_left h2 h0
  omega
theorem mostI_eq {amt ab : Int} (h1 : 0 ≤ amt) (h2 : amt ≤ 1099511627776) (h3 : 0 ≤ ab) (h4 : ab ≤ 1000) : mostI amt ab = (1000 * amt + amt * ab) / 1000 := by
  have hq := mul_part h1 h3 h4
  have e : amt * (1000 + ab) = 1000 * amt + amt * ab := by rw [Int.mul_add, Int.mul_comm amt 1000]
  have w : ∀ {n : Int}, -9223372036854775808 ≤ n → n ≤ 9223372036854775807 → W n = n := fun h1 h2 => wrap_in h1 h2
  unfold mostI
  rw [w (n := 1000 + ab) (by omega) (by omega), e, w (n := 1000 * amt + amt * ab) (by omega) (by omega), Int.tdiv_eq_ediv_of_nonneg (by omega), w (by omega) (by omega)]
theorem leastI_eq {amt be : Int} (h1 : 0 ≤ amt) (h2 : amt ≤ 1099511627776) (h3 : 0 ≤ be) (h4 : be ≤ 1000) : leastI amt be = (1000 * amt - amt * be + 999) / 1000 := by
  have hq := mul_part h1 h3 h4
  have e : amt * (1000 - be) = 1000 * amt - amt * be := by rw [Int.mul_sub, Int.mul_comm amt 1000]
  have w : ∀ {n : Int}, -9223372036854775808 ≤ n → n ≤ 9223372036854775807 → W n = n := fun h1 h2 => wrap_in h1 h2
  unfold leastI
  rw [w (n := 1000 - be) (by omega) (by omega), e, w (n := 1000 * amt - amt * be) (by omega) (by omega), w (n := 1000 * amt - amt * be + 1000) (by omega) (by omega), w (n := 1000 * amt - amt * be + 1000 - 1) (by omega) (by omega), Int.tdiv_eq_ediv_of_nonneg (by omega), w (by omega) (by omega)]
  congr 1; omega
theorem most_mono {amt ab ab2 : Int} (h1 : 0 ≤ amt) (h2 : amt ≤ 1099511627776) (h3 : 0 ≤ ab) (h4 : ab ≤ ab2) (h5 : ab2 ≤ 1000) : mostI amt ab ≤ mostI amt ab2 := by
  rw [mostI_eq h1 h2 h3 (by omega), mostI_eq h1 h2 (by omega) h5]
  have := Int.mul_le_mul_of_nonneg_left h4 h1
  omega
theorem least_mono {amt be be2 : Int} (h1 : 0 ≤ amt) (h2 : amt ≤ 1099511627776) (h3 : 0 ≤ be) (h4 : be ≤ be2) (h5 : be2 ≤ 1000) : leastI amt be2 ≤ leastI amt be := by
  rw [leastI_eq h1 h2 h3 (by omega), leastI_eq h1 h2 (by omega) h5]
  have := Int.mul_le_mul_of_nonneg_left h4 h1
  omega
theorem getD_app (xs ys : List Draw) {i : Nat} (h : i < xs.length) : (xs ++ ys).getD i eDraw.dflt = xs.getD i eDraw.dflt := by simp [List.getD, List.getElem?_append_left h]
theorem getD_last (xs : List Draw) (d : Draw) : (xs ++ [d]).getD xs.length eDraw.dflt = d := by simp [List.getD]
theorem okAt_app (xs ys : List Draw) {i : Nat} (h : i < xs.length) : okAt (xs ++ ys) i ↔ okAt xs i := by
  unfold okAt
  rw [getD_app xs ys h, getD_app xs ys (show i - 1 < xs.length by omega)]
theorem okAt_last (xs : List Draw) (d : Draw) : okAt (xs ++ [d]) xs.length ↔ (1 ≤ d.amt ∧ d.amt ≤ 1099511627776 ∧ 0 ≤ d.day ∧ d.day ≤ 1048576 ∧ (0 < xs.length → (xs.getD (xs.length - 1) eDraw.dflt).day ≤ d.day)) := by
  unfold okAt
  rw [getD_last]
  constructor
  · rintro ⟨h1, h2, h3, h4, h5⟩
    exact ⟨h1, h2, h3, h4, fun h => by have := h5 h; rwa [getD_app xs _ (show xs.length - 1 < xs.length by omega)] at this⟩
  · rintro ⟨h1, h2, h3, h4, h5⟩
    exact ⟨h1, h2, h3, h4, fun h => by rw [getD_app xs _ (show xs.length - 1 < xs.length by omega)]; exact h5 h⟩
theorem right_snoc (xs : List Draw) (d : Draw) : rightP (xs ++ [d]) ↔ ((∀ i, i < xs.length → okAt xs i) ∧ (1 ≤ d.amt ∧ d.amt ≤ 1099511627776 ∧ 0 ≤ d.day ∧ d.day ≤ 1048576 ∧ (0 < xs.length → (xs.getD (xs.length - 1) eDraw.dflt).day ≤ d.day)) ∧ xs.length + 1 ≤ 4096) := by
  unfold rightP
  constructor
  · rintro ⟨h1, h2⟩
    refine ⟨fun i hi => (okAt_app xs [d] hi).1 (h1 i (by simp; omega)), (okAt_last xs d).1 (h1 _ (by simp)), by simpa using h2⟩
  · rintro ⟨h1, h2, h3⟩
    refine ⟨fun i hi => ?_, by simpa using h3⟩
    by_cases hi2 : i < xs.length
    · exact (okAt_app xs [d] hi2).2 (h1 i hi2)
    · have : i = xs.length := by simp at hi; omega
      subst this
      exact (okAt_last xs d).2 h2
def sumI (xs : List Draw) : Int := (xs.map (·.amt)).sum
theorem sum_fold : ∀ (xs : List Draw) (acc : Int), (∀ x ∈ xs, 0 ≤ x.amt ∧ x.amt ≤ 1099511627776) → 0 ≤ acc → acc + xs.length * 1099511627776 ≤ 4611686018427387904 → xs.foldl (fun a d => W (a + d.amt)) acc = acc + sumI xs ∧ 0 ≤ sumI xs ∧ sumI xs ≤ xs.length * 1099511627776
  | [], acc, _, _, _ => by simp [sumI]
  | x :: r, acc, h, h0, h1 => by
    have hx := h x (by simp)
    simp only [List.length_cons] at h1
    have hw : W (acc + x.amt) = acc + x.amt := wrap_in (by omega) (by omega)
    obtain ⟨i1, i2, i3⟩ := sum_fold r (acc + x.amt) (fun y hy => h y (by simp [hy])) (by omega) (by omega)
    have e : sumI (x :: r) = x.amt + sumI r := by simp [sumI]
    refine ⟨by simp only [List.foldl_cons]; rw [hw, i1, e]; omega, by omega, by simp only [List.length_cons]; omega⟩
theorem right_sum {xs : List Draw} (h : rightP xs) : sumW xs = sumI xs ∧ 0 ≤ sumI xs ∧ sumI xs ≤ 4503599627370496 := by
  have hall : ∀ x ∈ xs, 0 ≤ x.amt ∧ x.amt ≤ 1099511627776 := fun x hx => by
    obtain ⟨i, hi, rfl⟩ := List.getElem_of_mem hx
    have := h.1 i hi
    unfold okAt at this
    rw [getD_at _ hi] at this
    omega
  have hl := h.2
  obtain ⟨h1, h2, h3⟩ := sum_fold xs 0 hall (by omega) (by omega)
  exact ⟨by unfold sumW; rw [h1]; omega, h2, by omega⟩
theorem sumI_snoc (xs : List Draw) (d : Draw) : sumI (xs ++ [d]) = sumI xs + d.amt := by simp [sumI]
theorem may_zero {amt ab be ex : Int} {pa : Bool} {xs : List Draw} {day am : Int} : mayI amt ab be ex pa xs day am = 0 ↔ (boundsB amt ab be ex = true ∧ rightP (xs ++ [⟨day, am⟩]) ∧ day ≤ ex ∧ (pa = true ∨ xs.length = 0) ∧ sumW (xs ++ [⟨day, am⟩]) ≤ mostI amt ab ∧ (pa = true ∨ leastI amt be ≤ am)) := by
  unfold mayI
  cases h1 : boundsB amt ab be ex with
  | false => simp
  | true =>
  cases h2 : bP (rightP (xs ++ [⟨day, am⟩])) with
  | false => simp [bP_not.1 h2]
  | true =>
  have h2' := bP_iff.1 h2
  by_cases h3 : day > ex
  · simp [h3]; intro _ hh; omega
  by_cases h5 : sumW (xs ++ [⟨day, am⟩]) > mostI amt ab
  · have : ¬ sumW (xs ++ [⟨day, am⟩]) ≤ mostI amt ab := by omega
    cases pa <;> by_cases h4 : (xs.length : Int) > 0 <;> simp [h3, h4, h5, this]
    all_goals (cases decide (0 < xs.length) <;> simp)
  have h3' : day ≤ ex := by omega
  have h5' : sumW (xs ++ [⟨day, am⟩]) ≤ mostI amt ab := by omega
  cases pa with
  | true => simp [h3, h5, h2', h3', h5']
  | false =>
    by_cases h4 : (xs.length : Int) > 0
    · have : ¬ xs.length = 0 := by omega
      simp [h3, h4, h5, h2', h3', h5', this]
      have hd : decide (0 < xs.length) = true := decide_eq_true (by omega)
      rw [hd]; simp
    · have h4' : xs.length = 0 := by omega
      by_cases h6 : am < leastI amt be
      · simp [h3, h4, h5, h2', h3', h5', h4', h6]
      · have : leastI amt be ≤ am := by omega
        simp [h3, h4, h5, h2', h3', h5', h4', h6, this]


theorem okD {n : Nat} {xs : List Draw} (h : n = xs.length) (hl : n ≤ maxLen) : eDraw.okl 2 n (eDraw.tl xs) := by subst h; exact eDraw.okl_tl hl
theorem okE {n : Nat} {xs : List Event} (h : n = xs.length) (hl : n ≤ maxLen) : eEvent.okl 4 n (eEvent.tl xs) := by subst h; exact eEvent.okl_tl hl
theorem toL_nil (s : ByteArray) : (s.toList == []) = decide (s.size = 0) := by
  rw [Bool.eq_iff_iff, decide_eq_true_eq, ByteArray.toList_eq, beq_iff_eq]
  constructor
  · intro h; show s.data.size = 0; rw [← Array.length_toList, h]; rfl
  · intro h; exact List.length_eq_zero_iff.1 (by rw [Array.length_toList]; exact h)
theorem isName_ne {s : ByteArray} (h : isName s = true) : (s.toList == []) = false := by
  rw [toL_nil]
  have := of_decide_eq_true h
  exact decide_eq_false (by omega)
theorem doE_zero {c : Cd} {s : Lf} {e : Event} (h : doE c s e = 0) : rightE e = true ∧ lateE s e = false ∧ standE c s e.kind = true ∧ (e.party.toList == (byL c s e.kind).toList) = true ∧ thenE c s e = 0 := by
  unfold doE at h
  cases h1 : rightE e with
  | false => rw [h1] at h; cases h
  | true =>
  cases h2 : lateE s e with
  | true => rw [h1, h2] at h; cases h
  | false =>
  cases h3 : standE c s e.kind with
  | false => rw [h1, h2, h3] at h; cases h
  | true =>
  cases h4 : (e.party.toList == (byL c s e.kind).toList) with
  | false => rw [h1, h2, h3, h4] at h; cases h
  | true => rw [h1, h2, h3, h4] at h; exact ⟨rfl, rfl, rfl, rfl, h⟩
theorem right_kind {e : Event} (h : rightE e = true) : e.kind = 0 ∨ e.kind = 1 ∨ e.kind = 2 ∨ e.kind = 3 ∨ e.kind = 4 ∨ e.kind = 5 ∨ e.kind = 6 ∨ e.kind = 7 := by
  unfold rightE at h
  simp only [Bool.and_eq_true, Bool.not_eq_true', decide_eq_false_iff_not] at h
  omega
def Inv (c : Cd) (s : Lf) : Prop := (s.cf = true → (c.yc.toList == []) = false) ∧ rightP s.pd ∧ sumI s.pd ≤ mostI c.amt c.ab ∧ (s.st = 2 ∨ s.st = 4 → rightP (s.pd ++ [⟨s.dd, s.da⟩]) ∧ sumI s.pd + s.da ≤ mostI c.amt c.ab) ∧ (s.st = 5 → 1 ≤ s.da ∧ s.da ≤ mostI c.amt c.ab) ∧ s.pd.length ≤ s.hs.length
theorem most_nonneg {amt ab be ex : Int} (h : boundsB amt ab be ex = true) : 0 ≤ mostI amt ab := by
  obtain ⟨b1, b2, b3, b4, _⟩ := boundsB_iff.1 h
  rw [mostI_eq (by omega) b2 b3 b4]
  have := mul_part (a := amt) (b := ab) (by omega) b3 b4
  omega
theorem inv_0 {c : Cd} (h : boundsB c.amt c.ab c.be c.ex = true) : Inv c s0 :=
  ⟨fun h => (by cases h), ⟨fun i hi => by simp [s0] at hi, by simp [s0]⟩, most_nonneg h, fun h => (by simp [s0] at h), fun h => (by simp [s0] at h), by simp [s0]⟩
theorem inv_do {c : Cd} {s : Lf} (e : Event) (h : Inv c s) : Inv c (doS c s e) := by
  unfold doS
  cases hz : (doE c s e == 0) with
  | false => exact h
  | true =>
  obtain ⟨h1, h2, h3, h4, h5⟩ := doE_zero (by simpa using hz)
  obtain ⟨i1, i2, i3, i4, i5, i6⟩ := h
  obtain ⟨k, p, d, a⟩ := e
  have hk := right_kind h1
  simp only [cond_true] at *
  unfold standE at h3
  simp only [Bool.and_eq_true, decide_eq_true_eq] at h3
  obtain ⟨h6, h7⟩ := h3
  rcases hk with rfl | rfl | rfl | rfl | rfl | rfl | rfl | rfl
  · exact ⟨i1, i2, i3, fun h => (by rcases h with h | h <;> cases h), fun h => (by cases h), by simp [thenS]; omega⟩
  · refine ⟨fun _ => ?_, i2, i3, i4, i5, by simp [thenS]; omega⟩
    have h6 : (!s.cf && !(c.yc.toList == [])) = true := h6
    simp only [Bool.and_eq_true, Bool.not_eq_true'] at h6
    exact h6.2
  · have hm : mayI c.amt c.ab c.be c.ex c.pa s.pd d a = 0 := (mayI_C _ _ _ _ _ _ _ _).trans h5
    obtain ⟨m1, m2, m3, m4, m5, m6⟩ := may_zero.1 hm
    have := (right_sum m2).1
    rw [this, sumI_snoc] at m5
    exact ⟨i1, i2, i3, fun _ => ⟨m2, m5⟩, fun h => (by cases h), by simp [thenS]; omega⟩
  · exact ⟨i1, i2, i3, fun h => (by rcases h with h | h <;> cases h), fun h => (by cases h), by simp [thenS]; omega⟩
  · have : s.st = 2 := by simpa [inL] using h7
    exact ⟨i1, i2, i3, fun _ => i4 (.inl this), fun h => (by cases h), by simp [thenS]; omega⟩
  · have : s.st = 4 := by simpa [inL] using h7
    obtain ⟨q1, q2⟩ := i4 (.inr this)
    have q3 := (right_sum i2).2.1
    have q4 := (right_snoc s.pd _).1 q1
    exact ⟨i1, q1, by show sumI (s.pd ++ [_]) ≤ _; rw [sumI_snoc]; exact q2, fun h => (by rcases h with h | h <;> cases h), fun _ => ⟨q4.2.1.1, by show s.da ≤ _; omega⟩, by simp [thenS]; omega⟩
  · have : s.st = 5 := by simpa [inL] using h7
    refine ⟨i1, i2, i3, fun h => ?_, fun _ => i5 this, by simp [thenS]; omega⟩
    exfalso
    revert h
    show (bif _ then (6 : Int) else s.st) = 2 ∨ (bif _ then (6 : Int) else s.st) = 4 → False
    cases (p.toList == c.ya.toList) <;> simp [this]
  · exact ⟨i1, i2, i3, fun h => (by rcases h with h | h <;> cases h), fun h => (by cases h), by simp [thenS]; omega⟩
theorem do_len {c : Cd} {s : Lf} (e : Event) : (doS c s e).hs.length ≤ s.hs.length + 1 := by
  unfold doS
  cases (doE c s e == 0) with
  | false => simp only [cond_false]; omega
  | true => simp
def cnt (c : Cd) (s : Lf) (ps : List ByteArray) : Int := (ps.map fun p => bif owesB c s p then 1 else 0).sum
theorem life_parts {yi ya yb yc : ByteArray} {amt ab be ex : Int} (h : lifeB yi ya yb yc amt ab be ex = true) : (yi.toList == []) = false ∧ (ya.toList == []) = false ∧ (yb.toList == []) = false ∧ (yi.toList == ya.toList) = false ∧ (yi.toList == yb.toList) = false ∧ (ya.toList == yb.toList) = false ∧
    (yc.toList == yi.toList) = false ∧ (yc.toList == ya.toList) = false ∧ (yc.toList == yb.toList) = false ∧ boundsB amt ab be ex = true := by
  unfold lifeB at h
  simp only [Bool.and_eq_true, Bool.or_eq_true, Bool.not_eq_true'] at h
  obtain ⟨h1, h2, h3, h4, h5, h6, h7, h8⟩ := h
  have n1 := isName_ne h1
  have n2 := isName_ne h2
  have n3 := isName_ne h3
  refine ⟨n1, n2, n3, h4, h5, h6, ?_, ?_, ?_, h8⟩
  all_goals rcases h7 with h7 | ⟨_, q1, q2, q3⟩
  · rw [beq_iff_eq.1 h7, BEq.comm]; exact n1
  · exact q1
  · rw [beq_iff_eq.1 h7, BEq.comm]; exact n2
  · exact q2
  · rw [beq_iff_eq.1 h7, BEq.comm]; exact n3
  · exact q3
theorem owes4 {yi ya yb yc : ByteArray} {amt ab be ex : Int} {pa : Bool} {s : Lf} (h : lifeB yi ya yb yc amt ab be ex = true) (hI : Inv ⟨yi, ya, yb, yc, amt, ab, be, ex, pa⟩ s) :
    cnt ⟨yi, ya, yb, yc, amt, ab, be, ex, pa⟩ s [yi, ya, yb, yc] = bif s.st == 4 || s.st == 5 then 1 else 0 := by
  obtain ⟨n1, n2, n3, h1, h2, h3, h4, h5, h6, hb⟩ := life_parts h
  have hc : s.cf = true → (yc.toList == []) = false := hI.1
  have h1' : (ya.toList == yi.toList) = false := by rw [BEq.comm]; exact h1
  have h2' : (yb.toList == yi.toList) = false := by rw [BEq.comm]; exact h2
  have h3' : (yb.toList == ya.toList) = false := by rw [BEq.comm]; exact h3
  have h4' : (yi.toList == yc.toList) = false := by rw [BEq.comm]; exact h4
  have h5' : (ya.toList == yc.toList) = false := by rw [BEq.comm]; exact h5
  have h6' : (yb.toList == yc.toList) = false := by rw [BEq.comm]; exact h6
  unfold cnt owesB
  by_cases e4 : s.st = 4
  · rw [e4]
    cases s.cf <;> simp only [List.map_cons, List.map_nil, List.sum_cons, List.sum_nil, cond_true, cond_false, beq_self_eq_true, h1, h1', h2, h2', h3, h3', h4, h4', h5, h5', h6, h6'] <;> rfl
  by_cases e5 : s.st = 5
  · rw [e5]
    cases s.cf <;> cases s.rp <;> simp only [List.map_cons, List.map_nil, List.sum_cons, List.sum_nil, cond_true, cond_false, Bool.not_true, Bool.not_false, Bool.and_true, Bool.and_false, beq_self_eq_true, h1, h1', h2, h2', h3, h3', h4, h4', h5, h5', h6, h6'] <;> rfl
  have q4 : (s.st == 4) = false := by simpa using e4
  have q5 : (s.st == 5) = false := by simpa using e5
  simp only [q4, q5, List.map_cons, List.map_nil, List.sum_cons, List.sum_nil, Bool.false_and, Bool.or_false, cond_false]
  rfl
theorem owes_da {c : Cd} {s : Lf} {p : ByteArray} (hI : Inv c s) (h : owesB c s p = true) : 1 ≤ s.da ∧ s.da ≤ mostI c.amt c.ab := by
  unfold owesB at h
  simp only [Bool.or_eq_true, Bool.and_eq_true, beq_iff_eq] at h
  obtain ⟨i1, i2, i3, i4, i5, i6⟩ := hI
  rcases h with ⟨h, _⟩ | ⟨h, _⟩
  · obtain ⟨q1, q2⟩ := i4 (.inr h)
    have q3 := (right_sum i2).2.1
    have q4 := (right_snoc s.pd _).1 q1
    exact ⟨q4.2.1.1, by omega⟩
  · exact i5 h

def awake_pre  : Prop := True
noncomputable def awake_val  : V := .kn (.bool true)
noncomputable def Gawake : PSpec
  | [] => some (awake_pre , awake_val )
  | _ => none
theorem awake_res  (good : Cfg → Prop) (R : Option V → Prop) : arun Try.prog (conOf [(12, liftS [] SNew), (13, liftS [(0, []), (0, [24])] SDo), (14, liftS [(0, []), (0, [24])] SOwes)]) (0, []) good (RetO (R)) 3000 (entry Try.prog 7 []) =
    (((1 : Nat) ≤ (9223372036854775807 : Nat) ∧ (1 : Nat) ≤ (9223372036854775807 : Nat) ∧ (1 : Nat) ≤ (9223372036854775807 : Nat) ∧ (0 : Nat) ≤ (9223372036854775807 : Nat)) ∧ (eDraw.okl (2 : Nat) (0 : Nat) (eDraw.tl []) ∧ eEvent.okl (4 : Nat) (0 : Nat) (eEvent.tl []) ∧ Do_pre (ByteArray.mk #[]) (ByteArray.mk #[(121 : UInt8)]) (ByteArray.mk #[(115 : UInt8)]) (ByteArray.mk #[(107 : UInt8)]) (ByteArray.mk #[]) (ByteArray.mk #[]) (ByteArray.mk #[]) (ByteArray.mk #[]) (5 : Int) (0 : Int) (0 : Int) (0 : Int) (9 : Int) (0 : Int) (0 : Int) false false (1 : Nat) (0 : Nat) (rowF [] (1 : Nat)) (0 : Int) false false (0 : Int) (0 : Int) (0 : Int) (ByteArray.mk #[(107 : UInt8)]) (0 : Int) (0 : Int) [] []) ∧ (eDraw.okl (2 : Nat) (0 : Nat) (eDraw.tl []) ∧ eEvent.okl (4 : Nat) (1 : Nat) (eEvent.tl [(Event.mk (0 : Int) (ByteArray.mk #[(107 : UInt8)]) (0 : Int) (0 : Int))]) ∧ Do_pre (ByteArray.mk #[]) (ByteArray.mk #[(121 : UInt8)]) (ByteArray.mk #[(115 : UInt8)]) (ByteArray.mk #[(107 : UInt8)]) (ByteArray.mk #[]) (ByteArray.mk #[]) (ByteArray.mk #[]) (ByteArray.mk #[]) (5 : Int) (0 : Int) (0 : Int) (0 : Int) (9 : Int) (0 : Int) (0 : Int) false false (1 : Nat) (0 : Nat) (rowF [] (1 : Nat)) (1 : Int) false false (0 : Int) (0 : Int) (2 : Int) (ByteArray.mk #[(115 : UInt8)]) (0 : Int) (5 : Int) [] [(Event.mk (0 : Int) (ByteArray.mk #[(107 : UInt8)]) (0 : Int) (0 : Int))]) ∧ (eDraw.okl (2 : Nat) (0 : Nat) (eDraw.tl []) ∧ eEvent.okl (4 : Nat) (2 : Nat) (eEvent.tl [(Event.mk (0 : Int) (ByteArray.mk #[(107 : UInt8)]) (0 : Int) (0 : Int)), (Event.mk (2 : Int) (ByteArray.mk #[(115 : UInt8)]) (0 : Int) (5 : Int))]) ∧ Do_pre (ByteArray.mk #[]) (ByteArray.mk #[(121 : UInt8)]) (ByteArray.mk #[(115 : UInt8)]) (ByteArray.mk #[(107 : UInt8)]) (ByteArray.mk #[]) (ByteArray.mk #[]) (ByteArray.mk #[]) (ByteArray.mk #[]) (5 : Int) (0 : Int) (0 : Int) (0 : Int) (9 : Int) (0 : Int) (0 : Int) false false (1 : Nat) (0 : Nat) (rowF [] (1 : Nat)) (2 : Int) false false (0 : Int) (5 : Int) (4 : Int) (ByteArray.mk #[(107 : UInt8)]) (0 : Int) (0 : Int) [] [(Event.mk (0 : Int) (ByteArray.mk #[(107 : UInt8)]) (0 : Int) (0 : Int)), (Event.mk (2 : Int) (ByteArray.mk #[(115 : UInt8)]) (0 : Int) (5 : Int))]) ∧ (eDraw.okl (2 : Nat) (0 : Nat) (eDraw.tl []) ∧ eEvent.okl (4 : Nat) (3 : Nat) (eEvent.tl [(Event.mk (0 : Int) (ByteArray.mk #[(107 : UInt8)]) (0 : Int) (0 : Int)), (Event.mk (2 : Int) (ByteArray.mk #[(115 : UInt8)]) (0 : Int) (5 : Int)), (Event.mk (4 : Int) (ByteArray.mk #[(107 : UInt8)]) (0 : Int) (0 : Int))]) ∧ Owes_pre (ByteArray.mk #[]) (ByteArray.mk #[(121 : UInt8)]) (ByteArray.mk #[(115 : UInt8)]) (ByteArray.mk #[(107 : UInt8)]) (ByteArray.mk #[]) (ByteArray.mk #[]) (ByteArray.mk #[]) (ByteArray.mk #[]) (5 : Int) (0 : Int) (0 : Int) (0 : Int) (9 : Int) (0 : Int) (0 : Int) false false (1 : Nat) (0 : Nat) (rowF [] (1 : Nat)) (4 : Int) false false (0 : Int) (5 : Int) (ByteArray.mk #[(107 : UInt8)]) [] [(Event.mk (0 : Int) (ByteArray.mk #[(107 : UInt8)]) (0 : Int) (0 : Int)), (Event.mk (2 : Int) (ByteArray.mk #[(115 : UInt8)]) (0 : Int) (5 : Int)), (Event.mk (4 : Int) (ByteArray.mk #[(107 : UInt8)]) (0 : Int) (0 : Int))]) ∧ (eDraw.okl (2 : Nat) (0 : Nat) (eDraw.tl []) ∧ eEvent.okl (4 : Nat) (3 : Nat) (eEvent.tl [(Event.mk (0 : Int) (ByteArray.mk #[(107 : UInt8)]) (0 : Int) (0 : Int)), (Event.mk (2 : Int) (ByteArray.mk #[(115 : UInt8)]) (0 : Int) (5 : Int)), (Event.mk (4 : Int) (ByteArray.mk #[(107 : UInt8)]) (0 : Int) (0 : Int))]) ∧ Do_pre (ByteArray.mk #[]) (ByteArray.mk #[(121 : UInt8)]) (ByteArray.mk #[(115 : UInt8)]) (ByteArray.mk #[(107 : UInt8)]) (ByteArray.mk #[]) (ByteArray.mk #[]) (ByteArray.mk #[]) (ByteArray.mk #[]) (5 : Int) (0 : Int) (0 : Int) (0 : Int) (9 : Int) (0 : Int) (0 : Int) false false (1 : Nat) (0 : Nat) (rowF [] (1 : Nat)) (4 : Int) false false (0 : Int) (5 : Int) (5 : Int) (ByteArray.mk #[(107 : UInt8)]) (0 : Int) (0 : Int) [] [(Event.mk (0 : Int) (ByteArray.mk #[(107 : UInt8)]) (0 : Int) (0 : Int)), (Event.mk (2 : Int) (ByteArray.mk #[(115 : UInt8)]) (0 : Int) (5 : Int)), (Event.mk (4 : Int) (ByteArray.mk #[(107 : UInt8)]) (0 : Int) (0 : Int))]) ∧ (eDraw.okl (2 : Nat) (1 : Nat) (eDraw.tl [(Draw.mk (0 : Int) (5 : Int))]) ∧ eEvent.okl (4 : Nat) (4 : Nat) (eEvent.tl [(Event.mk (0 : Int) (ByteArray.mk #[(107 : UInt8)]) (0 : Int) (0 : Int)), (Event.mk (2 : Int) (ByteArray.mk #[(115 : UInt8)]) (0 : Int) (5 : Int)), (Event.mk (4 : Int) (ByteArray.mk #[(107 : UInt8)]) (0 : Int) (0 : Int)), (Event.mk (5 : Int) (ByteArray.mk #[(107 : UInt8)]) (0 : Int) (0 : Int))]) ∧ Owes_pre (ByteArray.mk #[]) (ByteArray.mk #[(121 : UInt8)]) (ByteArray.mk #[(115 : UInt8)]) (ByteArray.mk #[(107 : UInt8)]) (ByteArray.mk #[]) (ByteArray.mk #[]) (ByteArray.mk #[]) (ByteArray.mk #[]) (5 : Int) (0 : Int) (0 : Int) (0 : Int) (9 : Int) (0 : Int) (0 : Int) false false (1 : Nat) (0 : Nat) (rowF [] (1 : Nat)) (5 : Int) false false (0 : Int) (5 : Int) (ByteArray.mk #[(121 : UInt8)]) [(Draw.mk (0 : Int) (5 : Int))] [(Event.mk (0 : Int) (ByteArray.mk #[(107 : UInt8)]) (0 : Int) (0 : Int)), (Event.mk (2 : Int) (ByteArray.mk #[(115 : UInt8)]) (0 : Int) (5 : Int)), (Event.mk (4 : Int) (ByteArray.mk #[(107 : UInt8)]) (0 : Int) (0 : Int)), (Event.mk (5 : Int) (ByteArray.mk #[(107 : UInt8)]) (0 : Int) (0 : Int))]) ∧ R (some (V.kn (Value.bool true)))) := by kernel_rfl
theorem awake_ok  (hp : awake_pre ) (good : Cfg → Prop) (hstep : ∀ c, arun Try.prog (conOf [(12, liftS [] SNew), (13, liftS [(0, []), (0, [24])] SDo), (14, liftS [(0, []), (0, [24])] SOwes)]) (0, []) good (RetO (Tells (awake_val ))) 3000 (c) → good c) (hext : ∀ c c', CfgExt c c' → good c' → good c) (hle : ∀ c c', CfgLe 0 c c' → good c' → good c) : arun Try.prog (conOf [(12, liftS [] SNew), (13, liftS [(0, []), (0, [24])] SDo), (14, liftS [(0, []), (0, [24])] SOwes)]) (0, []) good (RetO (Tells (awake_val ))) 3000 (entry Try.prog 7 []) := by
  rw [awake_res]
  repeat' first | exact tell rfl | exact okD rfl (by decide) | exact okE rfl (by decide) | exact trivial | (refine And.intro ?_ ?_) | (show _ ≤ _; decide) | (show _ ∧ _; refine And.intro ?_ ?_)
theorem awake_con : SpecOK Try.prog 7 (lift Gawake) := by
  refine con_of_run3 (con := conOf [(12, liftS [] SNew), (13, liftS [(0, []), (0, [24])] SDo), (14, liftS [(0, []), (0, [24])] SOwes)]) (hs := (0, [])) 3000 Try.func7 rfl (by kernel_rfl) rfl (conCons New_con (conCons Do_con (conCons Owes_con conNil))) ?_
  intro args0 p r hG hp
  unfold Gawake at hG
  split at hG
  case h_2 => cases hG
  cases hG
  exact ⟨[], trivial, by simp [Try.ntmps7], fun good hstep hext hle => awake_ok  hp good hstep hext hle⟩
end Go.Proofs.Ytlfppcidlfkpkaa
