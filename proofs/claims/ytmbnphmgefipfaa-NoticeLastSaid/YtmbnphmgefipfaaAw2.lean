/- What is proved: an executor over abstract configurations of the model, sound against the calls of any program; no condition. -/
import Derived.Test.YtmbnphmgefipfaaAw
import Derived.Scope
import Derived.ProofKit
import Derived.IntWalk
/-
  A region whose order the machine draws: every order that its edges allow comes to the same.
-/
namespace Go.Aw
open Go Go.RowKit
set_option linter.unusedVariables false
set_option linter.unusedSimpArgs false

/-! ### the schedule -/

/-- A row of numbers below n, each behind those that it waits for. -/
def Valid (ops : Array Oper) : (Nat → Bool) → List Nat → Prop
  | X, [] => ∀ i, i < ops.size → X i = true
  | X, j :: r => j < ops.size ∧ X j = false ∧ (∀ o, ops[j]? = some o → ∀ e ∈ o.after.toList, Region.binds .any e = true → X e.on = true) ∧ Valid ops (fun i => X i || i == j) r

theorem edgesOK_spec : ∀ (l : List Oper) (k : Nat), edgesOK l k = true → ∀ i o, l[i]? = some o → ∀ e ∈ o.after.toList, Region.binds .any e = true → e.on < k + i
  | [], _, _, i, o, h => by simp at h
  | x :: r, k, hk, i, o, h => by
    simp only [edgesOK, Bool.and_eq_true, List.all_eq_true] at hk
    cases i with
    | zero =>
      simp at h
      subst h
      intro e he hb
      have := hk.1 e he
      rw [hb] at this
      simp only [Bool.not_true, Bool.false_or, Nat.blt_eq] at this
      omega
    | succ i =>
      intro e he hb
      have := edgesOK_spec r (k + 1) hk.2 i o (by simpa using h) e he hb
      omega

theorem ranked_spec {m : Region.Mode} {rs : List Nat} {n : Nat} : ∀ (l : List Oper) (k : Nat), ranked m rs n l k = true → ∀ i o, l[i]? = some o → ∀ e ∈ o.after.toList, Region.binds m e = true → e.on < n ∧ rs.getD e.on 0 < rs.getD (k + i) 0
  | [], _, _, i, o, h => by simp at h
  | x :: r, k, hk, i, o, h => by
    simp only [ranked, Bool.and_eq_true, List.all_eq_true] at hk
    cases i with
    | zero =>
      simp at h
      subst h
      intro e he hb
      have := hk.1 e he
      rw [hb] at this
      simp only [Bool.not_true, Bool.false_or, Bool.and_eq_true, Nat.blt_eq] at this
      exact this
    | succ i =>
      intro e he hb
      have := ranked_spec r (k + 1) hk.2 i o (by simpa using h) e he hb
      rw [show k + (i + 1) = k + 1 + i by omega]
      exact this

def unl (n : Nat) (L : Array Bool) : Nat := ((List.range n).filter fun i => !L.getD i true).length

theorem unl_set {n : Nat} {L : Array Bool} {j : Nat} (hL : L.size = n) (hj : j < n) (hf : L.getD j true = false) : unl n (L.setIfInBounds j true) + 1 = unl n L := by
  have key : ∀ (l : List Nat), l.Nodup → j ∈ l → (l.filter fun i => !(L.setIfInBounds j true).getD i true).length + 1 = (l.filter fun i => !L.getD i true).length := by
    have hg : ∀ i, (L.setIfInBounds j true).getD i true = if i = j then true else L.getD i true := by
      intro i
      simp only [Array.getD_eq_getD_getElem?]
      by_cases h : i = j
      · subst h; simp [hL, hj]
      · rw [Array.getElem?_setIfInBounds_ne (Ne.symm h)]; simp [h]
    intro l
    induction l with
    | nil => intro _ h; simp at h
    | cons a r ih =>
      intro hn hm
      rw [List.nodup_cons] at hn
      by_cases ha : a = j
      · subst ha
        have hr : (r.filter fun i => !(L.setIfInBounds a true).getD i true) = r.filter fun i => !L.getD i true := by
          apply List.filter_congr
          intro i hi
          rw [hg i, if_neg (fun e : i = a => hn.1 (e ▸ hi))]
        rw [List.filter_cons, List.filter_cons, hg a, if_pos rfl, hf, hr]
        simp
      · have hm' : j ∈ r := by simpa [Ne.symm ha] using hm
        have := ih hn.2 hm'
        rw [List.filter_cons, List.filter_cons, hg a, if_neg ha]
        cases L.getD a true
        · simp only [Bool.not_false, if_true, List.length_cons]; omega
        · simpa using this
  exact key _ List.nodup_range (by simpa using hj)

theorem binds_any {m : Region.Mode} {e : Edge} (h : Region.binds .any e = true) : Region.binds m e = true := by
  unfold Region.binds at *
  split at h <;> simp_all

theorem lin_valid {ops : Array Oper} {m : Region.Mode} {rk : Nat → Nat} (hd : ∀ i o, ops[i]? = some o → ∀ e ∈ o.after.toList, Region.binds m e = true → e.on < ops.size ∧ rk e.on < rk i) : ∀ (fuel t : Nat) (L : Array Bool) (acc : List Nat), L.size = ops.size → unl ops.size L = fuel →
    ∃ r, Region.linearise.go m ops fuel t L acc = acc.reverse ++ r ∧ Valid ops (fun i => L.getD i true) r
  | 0, t, L, acc, hL, hu => by
    refine ⟨[], by simp [Region.linearise.go], fun i hi => ?_⟩
    have : (List.range ops.size).filter (fun i => !L.getD i true) = [] := List.eq_nil_of_length_eq_zero hu
    rw [List.filter_eq_nil_iff] at this
    have := this i (by simpa using hi)
    simpa using this
  | fuel + 1, t, L, acc, hL, hu => by
    have hex : ∃ q, q < ops.size ∧ L.getD q true = false ∧ ∀ i, rk i < rk q → i < ops.size → L.getD i true = true := by
      have hne : (List.range ops.size).filter (fun i => !L.getD i true) ≠ [] := by
        intro h
        have hu' := hu
        unfold unl at hu'
        rw [h] at hu'
        simp at hu'
      obtain ⟨x, hx⟩ := List.exists_mem_of_ne_nil _ hne
      simp only [List.mem_filter, List.mem_range, Bool.not_eq_true'] at hx
      have : ∀ (b k : Nat), rk k < b → k < ops.size → L.getD k true = false → ∃ q, q < ops.size ∧ L.getD q true = false ∧ ∀ i, rk i < rk q → i < ops.size → L.getD i true = true := by
        intro b
        induction b with
        | zero => intro k hk; omega
        | succ b ih =>
          intro k hkb hk hkf
          by_cases h : ∃ i, rk i < rk k ∧ i < ops.size ∧ L.getD i true = false
          · obtain ⟨i, hi, hin, hif⟩ := h
            exact ih i (by omega) hin hif
          · exact ⟨k, hk, hkf, fun i hi hin => by
              cases hq : L.getD i true with
              | true => rfl
              | false => exact (h ⟨i, hi, hin, hq⟩).elim⟩
      exact this (rk x + 1) x (by omega) hx.1 hx.2
    obtain ⟨q, hm, hmf, hmin⟩ := hex
    simp only [Region.linearise.go]
    generalize hrs : ((List.range ops.size).filter fun i => !L.getD i true && ((ops[i]?).map (·.after.all fun e => !Region.binds m e || L.getD e.on false)).getD false) = rs
    have hmem : q ∈ rs := by
      rw [← hrs]
      simp only [List.mem_filter, List.mem_range, hm, hmf, true_and, Bool.not_false]
      have ho : ops[q]? = some ops[q] := by simp [hm]
      rw [ho]
      simp only [Option.map_some, Option.getD_some, Bool.true_and]
      rw [Array.all_eq_true']
      intro e he
      cases hbe : Region.binds m e with
      | false => rfl
      | true =>
      have := hd q _ ho e (by simpa using he) hbe
      have hl := hmin e.on this.2 this.1
      have hlt : e.on < L.size := by rw [hL]; exact this.1
      have : L.getD e.on false = true := by
        simp only [Array.getD_eq_getD_getElem?] at hl ⊢
        rw [Array.getElem?_eq_getElem hlt] at hl ⊢
        exact hl
      simp [this]
    have hpos : 0 < rs.length := List.length_pos_of_mem hmem
    have hlt : t % rs.length < rs.length := Nat.mod_lt _ hpos
    have hgj : rs[t % rs.length]? = some rs[t % rs.length] := by simp [hlt]
    generalize rs[t % rs.length] = j at hgj
    have hj : j ∈ rs := List.mem_of_getElem? hgj
    rw [← hrs] at hj
    simp only [List.mem_filter, List.mem_range, Bool.and_eq_true, Bool.not_eq_true'] at hj
    rw [hgj]
    simp only
    have hL2 : (L.setIfInBounds j true).size = ops.size := by simpa using hL
    have hu2 : unl ops.size (L.setIfInBounds j true) = fuel := by have := unl_set hL hj.1 hj.2.1; omega
    obtain ⟨r, hr, hv⟩ := lin_valid hd fuel (t / rs.length) (L.setIfInBounds j true) (j :: acc) hL2 hu2
    refine ⟨j :: r, by rw [hr]; simp, hj.1, hj.2.1, fun o ho e he hbe => ?_, ?_⟩
    · have h2 := hj.2.2
      rw [ho] at h2
      simp only [Option.map_some, Option.getD_some] at h2
      rw [Array.all_eq_true'] at h2
      have h3 := h2 e (by simpa using he)
      have h4 := binds_any (m := m) hbe
      simp only [h4, Bool.not_true, Bool.false_or] at h3
      simp only [Array.getD_eq_getD_getElem?] at h3 ⊢
      cases hq : L[e.on]? with
      | none => simp [hq] at h3
      | some b => simpa [hq] using h3
    · have : (fun i => (L.setIfInBounds j true).getD i true) = fun i => L.getD i true || i == j := by
        funext i
        simp only [Array.getD_eq_getD_getElem?]
        by_cases h : i = j
        · subst h; simp [hL, hj.1]
        · rw [Array.getElem?_setIfInBounds_ne (Ne.symm h)]; simp [h]
      rw [this] at hv
      exact hv

theorem lin_all {ops : Array Oper} {m : Region.Mode} {rk : Nat → Nat} (hd : ∀ i o, ops[i]? = some o → ∀ e ∈ o.after.toList, Region.binds m e = true → e.on < ops.size ∧ rk e.on < rk i) (t : Nat) : Valid ops (fun i => decide (ops.size ≤ i)) (Region.linearise m ops t) := by
  unfold Region.linearise
  have hL : (Array.replicate ops.size false).size = ops.size := by simp
  have hg : ∀ i, (Array.replicate ops.size false).getD i true = decide (ops.size ≤ i) := by
    intro i
    simp only [Array.getD_eq_getD_getElem?, Array.getElem?_replicate]
    by_cases hi : i < ops.size
    · simp [hi]
    · simp [hi]; omega
  have hu : unl ops.size (Array.replicate ops.size false) = ops.size := by
    unfold unl
    rw [List.filter_eq_self.2 (fun i hi => by
      rw [hg i]
      have : i < ops.size := by simpa using hi
      simp; omega)]
    simp
  obtain ⟨r, hr, hv⟩ := lin_valid hd ops.size t _ [] hL hu
  rw [hr]
  simp only [List.reverse_nil, List.nil_append]
  have : (fun i => (Array.replicate ops.size false).getD i true) = fun i => decide (ops.size ≤ i) := funext hg
  rw [this] at hv
  exact hv

theorem sched_valid {ops : Array Oper} {mixed : Bool} {t : Nat} (h : drawOK ops = true) : Valid ops (fun i => decide (ops.size ≤ i)) (Region.schedule mixed ops t) := by
  simp only [drawOK, Bool.and_eq_true] at h
  have hany : ∀ i o, ops[i]? = some o → ∀ e ∈ o.after.toList, Region.binds .any e = true → e.on < ops.size ∧ id e.on < id i := fun i o ho e he hb => by
    have := edgesOK_spec ops.toList 0 h.1 i o (by simpa using ho) e he hb
    have hi : i < ops.size := (Array.getElem?_eq_some_iff.1 ho).1
    simp only [id]
    omega
  have hm : ∀ m, modeOK m ops = true → ∀ t, Valid ops (fun i => decide (ops.size ≤ i)) (Region.linearise m ops t) := fun m hm t =>
    lin_all (rk := fun i => (rankGo m ops.toList 6 (ops.toList.map fun _ => 0)).getD i 0) (fun i o ho e he hb => by
      have := ranked_spec ops.toList 0 hm i o (by simpa using ho) e he hb
      rw [Nat.zero_add] at this
      exact this) t
  unfold Region.schedule
  split
  · exact lin_all hany t
  · rename_i hc
    have hdep : Region.departs ops = true := by
      cases hq : Region.departs ops with
      | true => rfl
      | false => rw [hq] at hc; simp at hc
    have h2 := h.2
    rw [hdep] at h2
    simp only [Bool.not_true, Bool.false_or, Bool.and_eq_true] at h2
    split
    · exact hm _ h2.1 _
    · exact hm _ h2.2 _

/-! ### the last writer -/

def vl {A : Type} (f : Nat → Option A) (a0 : A) (X : Nat → Bool) : Nat → A
  | 0 => a0
  | m + 1 => if X m = true then (f m).getD (vl f a0 X m) else vl f a0 X m

theorem vl_congr {A : Type} {f : Nat → Option A} {a0 : A} {X Y : Nat → Bool} : ∀ {m : Nat}, (∀ i, i < m → (f i).isSome = true → X i = Y i) → vl f a0 X m = vl f a0 Y m
  | 0, _ => rfl
  | m + 1, h => by
    have ih := vl_congr (X := X) (Y := Y) (a0 := a0) (f := f) (m := m) fun i hi hs => h i (by omega) hs
    simp only [vl, ih]
    cases hf : f m with
    | none => simp
    | some a => rw [h m (by omega) (by simp [hf])]

theorem vl_none {A : Type} {f : Nat → Option A} {a0 : A} {X : Nat → Bool} {j : Nat} : ∀ {m : Nat}, j ≤ m → (∀ i, j ≤ i → i < m → X i = true → f i = none) → vl f a0 X m = vl f a0 X j
  | 0, hj, _ => by have : j = 0 := by omega
                   subst this; rfl
  | m + 1, hj, h => by
    by_cases he : j = m + 1
    · subst he; rfl
    · rw [← vl_none (m := m) (by omega) fun i h1 h2 h3 => h i h1 (by omega) h3]
      simp only [vl]
      split
      · rename_i hx; rw [h m (by omega) (by omega) hx]; rfl
      · rfl

theorem vl_last {A : Type} {f : Nat → Option A} {a0 a : A} {X : Nat → Bool} {j m : Nat} (hj : j < m) (hx : X j = true) (hf : f j = some a) (h : ∀ i, j < i → i < m → X i = true → f i = none) : vl f a0 X m = a := by
  rw [vl_none (j := j + 1) (by omega) fun i h1 h2 h3 => h i (by omega) h2 h3]
  simp [vl, hx, hf]

theorem vl_lt {A : Type} {f : Nat → Option A} {a0 : A} {j m : Nat} (hj : j ≤ m) : vl f a0 (fun i => decide (i < j)) m = vl f a0 (fun _ => true) j := by
  rw [vl_none (j := j) hj fun i h1 h2 h3 => by simp at h3; omega]
  exact vl_congr fun i hi _ => by simp [hi]

/-! ### the region in the order of its text -/

structure Eff where
  ds : Option Nat
  v : V
  u : List (Nat × O)
  ft : Foot

def slotOf (e : Eff) (d : Nat) : Option V := if e.ds = some d then some e.v else none
def lastO : List (Nat × O) → Nat → Option O
  | [], _ => none
  | (k, o) :: r, l => match lastO r l with
    | some x => some x
    | none => if l = k then some o else none

theorem getO_ups : ∀ (u : List (Nat × O)) (h : List O) (l : Nat), getO (ups u h) l = (lastO u l).getD (getO h l)
  | [], h, l => rfl
  | (k, o) :: r, h, l => by
    simp only [ups, lastO]
    rw [getO_ups r, getO_putO]
    cases lastO r l with
    | some x => rfl
    | none => by_cases hl : l = k <;> simp [hl]

theorem lastO_mem : ∀ {u : List (Nat × O)} {l : Nat}, (lastO u l).isSome = true → l ∈ u.map (·.1)
  | [], l, h => by simp [lastO] at h
  | (k, o) :: r, l, h => by
    simp only [lastO] at h
    cases hr : lastO r l with
    | some x => exact List.mem_cons_of_mem _ (lastO_mem (by simp [hr]))
    | none =>
      rw [hr] at h
      by_cases hl : l = k
      · subst hl; simp
      · simp [hl] at h

structure StepE (P : Program) (con : FuncId → Option Spec) (ops : Array Oper) (nid : Nat) (o : Oper) (e : Eff) (c c' : Cfg) : Prop where
  ds : e.ds = o.dst
  fds : e.ft.ds = o.dst.toList
  bound : ∀ d, o.dst = some d → d < c.fr.nt
  look : ∀ d, Aw.look c'.fr.t d = (slotOf e d).getD (Aw.look c.fr.t d)
  get : ∀ l, getO c'.h l = (lastO e.u l).getD (getO c.h l)
  fn : c'.fr.fn = c.fr.fn
  nt : c'.fr.nt = c.fr.nt
  cs : c'.cs = c.cs
  kind : (∃ g want d x, o.guard = some (g, want) ∧ (ops[g]?).bind (·.dst) = some d ∧ Aw.look c.fr.t d = .kn x ∧ x ≠ .bool want ∧ e.v = .kn undef ∧ e.u = [] ∧ d ∈ e.ft.rd) ∨
    ((o.guard = none ∨ ∃ g want d, o.guard = some (g, want) ∧ (ops[g]?).bind (·.dst) = some d ∧ Aw.look c.fr.t d = .kn (.bool want) ∧ d ∈ e.ft.rd) ∧
      (opDo P con nid (ev c.fr.t) (getO c.h) o = .val e.v e.u ∨ ∃ p, opDo P con nid (ev c.fr.t) (getO c.h) o = .req p e.v e.u ∧ p) ∧ getO c.h nid = .hole ∧
      (∀ d ∈ tmpsOf o.op.operands.toList, d ∈ e.ft.rd) ∧ nid ∈ e.ft.ids ∧ (∀ x ∈ o.op.operands.toList, ∀ l ∈ (ev c.fr.t x).ids, l ∈ e.ft.ids) ∧ e.ft.wr = e.u.map (·.1))

theorem putD_look {t t' : Tm} {nt : Nat} {d : Option Nat} {v : V} (h : putD t nt d v = some t') : (∀ k, d = some k → k < nt) ∧ ∀ k, look t' k = (if d = some k then some v else none : Option V).getD (look t k) := by
  cases d with
  | none => simp only [putD, Option.some.injEq] at h; subst h; exact ⟨fun k e => by simp at e, fun k => rfl⟩
  | some d =>
    simp only [putD] at h
    cases hb : Nat.blt d nt with
    | false => simp [hb] at h
    | true =>
      simp only [hb, cond_true, Option.some.injEq] at h
      subst h
      refine ⟨fun k e => by cases e; simpa [Nat.blt_eq] using hb, fun k => ?_⟩
      show (bif Nat.beq d k then v else look t k) = _
      by_cases he : d = k
      · subst he; simp
      · rw [show Nat.beq d k = false by rw [← Bool.not_eq_true]; exact fun hh => he (Nat.eq_of_beq_eq_true hh)]
        simp [he]

theorem setT_look {c : Cfg} {d : Nat} {v : V} (h : look c.fr.t d = v) (k : Nat) : look (setT c d v).fr.t k = look c.fr.t k := by
  show (bif Nat.beq d k then v else look c.fr.t k) = _
  cases hb : Nat.beq d k with
  | true => have := Nat.eq_of_beq_eq_true hb; subst this; exact h.symm
  | false => rfl

theorem ev_congr {t t' : Tm} (h : ∀ k, look t k = look t' k) : ev t = ev t' := by
  funext x
  cases x with
  | tmp i => exact h i
  | _ => rfl

variable {P : Program} {con : FuncId → Option Spec} {ops : Array Oper}

theorem drawOp_step {b nid : Nat} {ft : List (Nat × Foot)} {c c0 : Cfg} {o : Oper} {K : Foot → Cfg → Prop} (h : drawOp P con ops b nid ft c o K) (hlook : ∀ k, look c.fr.t k = look c0.fr.t k) (hc : c.h = c0.h) (hfn : c.fr.fn = c0.fr.fn) (hnt : c.fr.nt = c0.fr.nt) (hcs : c.cs = c0.cs)
    (hg : o.guard = none ∨ ∃ g want d, o.guard = some (g, want) ∧ (ops[g]?).bind (·.dst) = some d ∧ look c0.fr.t d = .kn (.bool want)) :
    ∃ e c', StepE P con ops nid o e c0 c' ∧ chk ft b e.ft = true ∧ K e.ft c' := by
  have hev := ev_congr hlook
  have guardIn : ∀ rest, (o.guard = none ∨ ∃ g want d, o.guard = some (g, want) ∧ (ops[g]?).bind (·.dst) = some d ∧ look c0.fr.t d = .kn (.bool want) ∧ d ∈ guardSlot ops o ++ rest) := by
    intro rest
    rcases hg with hg | ⟨g, want, d, h1, h2, h3⟩
    · exact .inl hg
    · exact .inr ⟨g, want, d, h1, h2, h3, by simp [guardSlot, h1, h2]⟩
  unfold drawOp at h
  cases hho : getO c.h nid with
  | hole =>
    rw [hho] at h
    dsimp only at h
    have fin : ∀ {v : V} {u : List (Nat × O)} {t : Tm}, putD c.fr.t c.fr.nt o.dst v = some t → (opDo P con nid (ev c0.fr.t) (getO c0.h) o = .val v u ∨ ∃ p, opDo P con nid (ev c0.fr.t) (getO c0.h) o = .req p v u ∧ p) →
        StepE P con ops nid o ⟨o.dst, v, u, ⟨guardSlot ops o ++ tmpsOf o.op.operands.toList, o.dst.toList, nid :: o.op.operands.toList.flatMap (fun x => (ev c.fr.t x).ids), u.map (·.1)⟩⟩ c0 ⟨⟨c.fr.fn, c.fr.nt, t, c.fr.k⟩, c.cs, ups u c.h⟩ := by
      intro v u t hp hd
      obtain ⟨h1, h2⟩ := putD_look hp
      refine ⟨rfl, rfl, fun d hd => by rw [← hnt]; exact h1 d hd, fun d => by rw [h2 d, hlook d]; rfl, fun l => by rw [← hc]; exact getO_ups u c.h l, hfn, hnt, hcs, .inr ⟨guardIn _, hd, by rw [← hc]; exact hho, fun d hd => by simp [hd], by simp, fun x hx l hl => ?_, rfl⟩⟩
      rw [← hev] at hl
      exact List.mem_cons_of_mem _ (List.mem_flatMap.2 ⟨x, hx, hl⟩)
    cases hd : opDo P con nid (ev c.fr.t) (getO c.h) o with
    | val v u =>
      rw [hd] at h
      dsimp only at h
      cases hck : chk ft b ⟨guardSlot ops o ++ tmpsOf o.op.operands.toList, o.dst.toList, nid :: o.op.operands.toList.flatMap (fun x => (ev c.fr.t x).ids), u.map (·.1)⟩ with
      | false => rw [hck] at h; exact h.elim
      | true =>
        rw [hck] at h
        simp only [Bool.not_true, cond_false] at h
        cases hp : putD c.fr.t c.fr.nt o.dst v with
        | none => rw [hp] at h; exact h.elim
        | some t =>
          rw [hp] at h
          exact ⟨_, _, fin hp (.inl (by rw [← hev, ← hc]; exact hd)), hck, h⟩
    | req p v u =>
      rw [hd] at h
      dsimp only at h
      cases hck : chk ft b ⟨guardSlot ops o ++ tmpsOf o.op.operands.toList, o.dst.toList, nid :: o.op.operands.toList.flatMap (fun x => (ev c.fr.t x).ids), u.map (·.1)⟩ with
      | false => rw [hck] at h; exact h.elim
      | true =>
        rw [hck] at h
        simp only [Bool.not_true, cond_false] at h
        cases hp : putD c.fr.t c.fr.nt o.dst v with
        | none => rw [hp] at h; exact h.elim
        | some t =>
          rw [hp] at h
          exact ⟨_, _, fin hp (.inr ⟨p, by rw [← hev, ← hc]; exact hd, h.1⟩), hck, h.2⟩
    | enter f args => rw [hd] at h; exact h.elim
    | bad => rw [hd] at h; exact h.elim
  | _ => rw [hho] at h; exact h.elim

theorem drawSkip_step {b nid : Nat} {ft : List (Nat × Foot)} {c c0 : Cfg} {o : Oper} {K : Foot → Cfg → Prop} (h : drawSkip ops b ft c o K) (hlook : ∀ k, look c.fr.t k = look c0.fr.t k) (hc : c.h = c0.h) (hfn : c.fr.fn = c0.fr.fn) (hnt : c.fr.nt = c0.fr.nt) (hcs : c.cs = c0.cs)
    {g : Nat} {want : Bool} {bb : Value} {d : Nat} (h1 : o.guard = some (g, want)) (h2 : (ops[g]?).bind (·.dst) = some d) (h3 : look c0.fr.t d = .kn bb) (h4 : bb ≠ .bool want) :
    ∃ e c', StepE P con ops nid o e c0 c' ∧ chk ft b e.ft = true ∧ K e.ft c' := by
  unfold drawSkip at h
  dsimp only at h
  cases hck : chk ft b ⟨guardSlot ops o, o.dst.toList, [], []⟩ with
  | false => rw [hck] at h; exact h.elim
  | true =>
    rw [hck] at h
    simp only [Bool.not_true, cond_false] at h
    cases hp : putD c.fr.t c.fr.nt o.dst (.kn undef) with
    | none => rw [hp] at h; exact h.elim
    | some t =>
      rw [hp] at h
      obtain ⟨p1, p2⟩ := putD_look hp
      refine ⟨⟨o.dst, .kn undef, [], ⟨guardSlot ops o, o.dst.toList, [], []⟩⟩, ⟨⟨c.fr.fn, c.fr.nt, t, c.fr.k⟩, c.cs, c.h⟩, ⟨rfl, rfl, fun d hd => by rw [← hnt]; exact p1 d hd, fun d => by rw [p2 d, hlook d]; rfl, fun l => by rw [← hc]; rfl, hfn, hnt, hcs, .inl ⟨g, want, d, bb, h1, h2, h3, h4, rfl, rfl, ?_⟩⟩, hck, h⟩
      simp [guardSlot, h1, h2]

theorem drawGuard_step {b nid : Nat} {ft : List (Nat × Foot)} {c : Cfg} {o : Oper} {K : Foot → Cfg → Prop} (h : drawGuard P con ops b nid ft c o K) :
    ∃ e c', StepE P con ops nid o e c c' ∧ chk ft b e.ft = true ∧ K e.ft c' := by
  unfold drawGuard at h
  cases hg : o.guard with
  | none => rw [hg] at h; exact drawOp_step h (fun _ => rfl) rfl rfl rfl rfl (.inl hg)
  | some gw =>
    obtain ⟨g, want⟩ := gw
    rw [hg] at h
    dsimp only at h
    cases hd : (ops[g]?).bind (·.dst) with
    | none => rw [hd] at h; exact h.elim
    | some d =>
      rw [hd] at h
      dsimp only at h
      split at h
      · rename_i t hl
        cases t with
        | true =>
          cases want with
          | true => exact drawOp_step (c := setT c d (.kn (.bool true))) h (setT_look hl) rfl rfl rfl rfl (.inr ⟨g, true, d, hg, hd, hl⟩)
          | false => exact drawSkip_step (c := setT c d (.kn (.bool true))) h (setT_look hl) rfl rfl rfl rfl hg hd hl (by simp)
        | false =>
          cases want with
          | true => exact drawSkip_step (c := setT c d (.kn (.bool false))) h (setT_look hl) rfl rfl rfl rfl hg hd hl (by simp)
          | false => exact drawOp_step (c := setT c d (.kn (.bool false))) h (setT_look hl) rfl rfl rfl rfl (.inr ⟨g, false, d, hg, hd, hl⟩)
      · rename_i t hl
        exact drawSkip_step (c := c) h (fun _ => rfl) rfl rfl rfl rfl hg hd hl (by simp)
      · exact h.elim

/-- The region, in the order of its text, as a row of effects. -/
structure Trc (P : Program) (con : FuncId → Option Spec) (ops : Array Oper) (bs : List Nat) (N0 m n : Nat) (E : Nat → Eff) (C : Nat → Cfg) : Prop where
  step : ∀ j, m ≤ j → j < n → ∃ o, ops[j]? = some o ∧ StepE P con ops (N0 + j) o (E j) (C j) (C (j + 1))
  conf : ∀ i j, m ≤ i → i < j → j < n → confl (E i).ft (E j).ft = true → Nat.testBit (bs.getD j 0) i = true

theorem drawRun_trace {N0 : Nat} {K : Cfg → Prop} {bs0 : List Nat} : ∀ (l : List Oper) (bs : List Nat) (m : Nat) (ft : List (Nat × Foot)) (c : Cfg), (∀ i, l[i]? = ops[m + i]?) → (∀ i, bs.getD i 0 = bs0.getD (m + i) 0) →
    drawRun P con ops N0 K l bs m ft c → ∃ E C, C m = c ∧ Trc P con ops bs0 N0 m (m + l.length) E C ∧ (∀ i f, (i, f) ∈ ft → ∀ j, m ≤ j → j < m + l.length → confl f (E j).ft = true → Nat.testBit (bs0.getD j 0) i = true) ∧ K (C (m + l.length))
  | [], bs, m, ft, c, _, _, h => ⟨fun _ => ⟨none, .any, [], ⟨[], [], [], []⟩⟩, fun _ => c, rfl, ⟨fun j h1 h2 => by simp at h2; omega, fun i j h1 h2 h3 => by simp at h3; omega⟩, fun i f _ j h1 h2 => by simp at h2; omega, h⟩
  | o :: r, bs, m, ft, c, hl, hb, h => by
    simp only [drawRun] at h
    obtain ⟨e, c', hs, hck, hk⟩ := drawGuard_step h
    have hbm : bs.headD 0 = bs0.getD m 0 := by
      have := hb 0
      cases bs <;> simpa using this
    obtain ⟨E, C, hC, hT, hft, hK⟩ := drawRun_trace r bs.tail (m + 1) ((m, e.ft) :: ft) c' (fun i => by have := hl (i + 1); simpa [Nat.add_assoc, Nat.add_comm 1] using this)
      (fun i => by have := hb (i + 1); rw [show m + 1 + i = m + (i + 1) by omega, ← this]; cases bs <;> simp) hk
    have hlen : m + (o :: r).length = m + 1 + r.length := by simp; omega
    refine ⟨fun j => if j = m then e else E j, fun j => if j = m then c else C j, by simp, ⟨fun j h1 h2 => ?_, fun i j h1 h2 h3 => ?_⟩, fun i f hi j h1 h2 => ?_, ?_⟩
    · by_cases hj : j = m
      · subst hj
        simp only [if_true, show j + 1 ≠ j by omega, if_false, hC]
        refine ⟨o, by have := hl 0; simpa using this.symm, hs⟩
      · simp only [hj, if_false, show j + 1 ≠ m by omega]
        exact hT.step j (by omega) (by omega)
    · by_cases hi : i = m
      · subst hi
        simp only [if_true, show j ≠ i by omega, if_false]
        exact hft i e.ft (by simp) j (by omega) (by omega)
      · simp only [hi, if_false, show j ≠ m by omega]
        exact hT.conf i j (by omega) h2 (by omega)
    · by_cases hj : j = m
      · subst hj
        simp only [if_true]
        intro hc
        have := List.all_eq_true.1 hck (i, f) hi
        simp only [hc, Bool.not_true, Bool.false_or] at this
        rw [← hbm]; exact this
      · simp only [hj, if_false]
        exact hft i f (by simp [hi]) j (by omega) (by omega)
    · have hne : m + (o :: r).length ≠ m := by simp
      simp only [hne, if_false]
      rw [hlen]; exact hK

/-! ### before -/

theorem befOf_spec : ∀ (es : List Edge) (acc : List Nat) (i : Nat), Nat.testBit (befOf es acc) i = true → ∃ e ∈ es, Region.binds .any e = true ∧ (i = e.on ∨ Nat.testBit (acc.getD e.on 0) i = true)
  | [], acc, i, h => by simp [befOf] at h
  | e :: r, acc, i, h => by
    simp only [befOf] at h
    cases hbe : Region.binds .any e with
    | false =>
      rw [hbe] at h
      obtain ⟨e', he, h'⟩ := befOf_spec r acc i h
      exact ⟨e', by simp [he], h'⟩
    | true =>
    rw [hbe] at h
    simp only [cond_true, Nat.testBit_or, Bool.or_eq_true] at h
    rcases h with (h | h) | h
    · exact ⟨e, by simp, hbe, .inl (by
        have := Nat.testBit_two_pow (n := e.on) (m := i)
        rw [this] at h
        simpa using (of_decide_eq_true h).symm)⟩
    · exact ⟨e, by simp, hbe, .inr h⟩
    · obtain ⟨e', he, h'⟩ := befOf_spec r acc i h
      exact ⟨e', by simp [he], h'⟩

theorem befGo_spec : ∀ (l : List Oper) (acc : List Nat), (∃ x, befGo l acc = acc ++ x) ∧ ∀ i o, l[i]? = some o → ∃ pre, (∀ k, k < acc.length + i → pre.getD k 0 = (befGo l acc).getD k 0) ∧ (befGo l acc).getD (acc.length + i) 0 = befOf o.after.toList pre
  | [], acc => ⟨⟨[], by simp [befGo]⟩, fun i o h => by simp at h⟩
  | a :: r, acc => by
    obtain ⟨⟨x, hx⟩, h2⟩ := befGo_spec r (acc ++ [befOf a.after.toList acc])
    refine ⟨⟨[befOf a.after.toList acc] ++ x, by simp only [befGo]; rw [hx]; simp⟩, fun i o h => ?_⟩
    simp only [befGo]
    cases i with
    | zero =>
      simp at h
      subst h
      refine ⟨acc, fun k hk => ?_, ?_⟩
      · rw [hx]
        simp only [Nat.add_zero] at hk
        simp [List.getD, List.getElem?_append_left hk]
      · rw [hx]
        simp [List.getD]
    | succ i =>
      obtain ⟨pre, h3, h4⟩ := h2 i o (by simpa using h)
      simp only [List.length_append, List.length_singleton] at h3 h4
      exact ⟨pre, fun k hk => h3 k (by omega), by rw [← h4]; congr 1; omega⟩

theorem bef_edge {ops : Array Oper} (hd : drawOK ops = true) {j i : Nat} {o : Oper} (ho : ops[j]? = some o) (h : Nat.testBit ((befGo ops.toList []).getD j 0) i = true) :
    ∃ e ∈ o.after.toList, Region.binds .any e = true ∧ (i = e.on ∨ Nat.testBit ((befGo ops.toList []).getD e.on 0) i = true) := by
  simp only [drawOK, Bool.and_eq_true] at hd
  obtain ⟨pre, h1, h2⟩ := (befGo_spec ops.toList []).2 j o (by simpa using ho)
  simp only [List.length_nil, Nat.zero_add] at h1 h2
  rw [h2] at h
  obtain ⟨e, he, hbe, hh⟩ := befOf_spec _ _ _ h
  refine ⟨e, he, hbe, hh.imp id fun h3 => ?_⟩
  have := edgesOK_spec ops.toList 0 hd.1 j o (by simpa using ho) e he hbe
  rw [← h1 e.on (by omega)]
  exact h3

theorem meets_of {a b : List Nat} {x : Nat} (ha : x ∈ a) (hb : x ∈ b) : meets a b = true := by
  simp only [meets, List.any_eq_true]
  exact ⟨x, ha, x, hb, Nat.beq_refl x⟩

variable {base : Nat} {w0 : World} {F0 : Fz} {f0 : FuncId} {ret : V → List O → Prop}

def Tx (E : Nat → Eff) (C : Nat → Cfg) (n : Nat) (X : Nat → Bool) (d : Nat) : V := vl (fun i => slotOf (E i) d) (look (C 0).fr.t d) X n
def Dx (E : Nat → Eff) (C : Nat → Cfg) (n : Nat) (X : Nat → Bool) (l : Nat) : O := vl (fun i => lastO (E i).u l) (getO (C 0).h l) X n

theorem text_state {bs : List Nat} {N0 n : Nat} {E : Nat → Eff} {C : Nat → Cfg} (T : Trc P con ops bs N0 0 n E C) : ∀ j, j ≤ n →
    (∀ d, look (C j).fr.t d = vl (fun i => slotOf (E i) d) (look (C 0).fr.t d) (fun _ => true) j) ∧ (∀ l, getO (C j).h l = vl (fun i => lastO (E i).u l) (getO (C 0).h l) (fun _ => true) j) ∧ (C j).fr.nt = (C 0).fr.nt ∧ (C j).fr.fn = (C 0).fr.fn ∧ (C j).cs = (C 0).cs
  | 0, _ => ⟨fun _ => rfl, fun _ => rfl, rfl, rfl, rfl⟩
  | j + 1, hj => by
    obtain ⟨h1, h2, h3, h4, h5⟩ := text_state T j (by omega)
    obtain ⟨o, _, S⟩ := T.step j (Nat.zero_le _) (by omega)
    exact ⟨fun d => by rw [S.look d]; simp only [vl, if_true, h1 d], fun l => by rw [S.get l]; simp only [vl, if_true, h2 l], S.nt.trans h3, S.fn.trans h4, S.cs.trans h5⟩

theorem draw_go (hcon : ∀ f s, con f = some s → SpecOK P f s) (hd : drawOK ops = true) {N0 : Nat} {E : Nat → Eff} {C : Nat → Cfg} (T : Trc P con ops (befGo ops.toList []) N0 0 ops.size E C)
    {b : Frame} {k : List Item} {cs : List Frame} : ∀ (l : List Nat) (X : Nat → Bool), Valid ops X l → (∀ j, j < ops.size → X j = true → ∀ i, Nat.testBit ((befGo ops.toList []).getD j 0) i = true → X i = true) →
    ∀ (σ : Sig) (F : Fz) (w : World) (h : List O) (a : Act), (∀ l, getO h l = Dx E C ops.size X l) → Gm base σ F h w → base ≤ w.heap.size → a.defers = [] → a.tmps.size = (C 0).fr.nt → (∀ d, RV F σ (Tx E C ops.size X d) (a.tmps.getD d undef)) →
    ∃ σ' F' w' h' a', (∀ l, getO h' l = Dx E C ops.size (fun _ => true) l) ∧ Gm base σ' F' h' w' ∧ Sle σ σ' ∧ FExt base F F' ∧ Below base w w' ∧ a'.defers = [] ∧ a'.tmps.size = (C 0).fr.nt ∧ (∀ d, RV F' σ' (Tx E C ops.size (fun _ => true) d) (a'.tmps.getD d undef)) ∧
      Steps P (lone (b.at a (.inRegion ops l :: k)) cs w) (lone (b.at a' (.inRegion ops [] :: k)) cs w')
  | [], X, hv, _, σ, F, w, h, a, hh, g, hbase, hdf, hsz, ht => by
    have hX : ∀ i, i < ops.size → X i = true := hv
    refine ⟨σ, F, w, h, a, fun l => ?_, g, Sle.refl _, FExt.refl _ _, Below.refl _ _, hdf, hsz, fun d => ?_, Steps.refl _ _⟩
    · rw [hh l]; exact vl_congr fun i hi _ => hX i hi
    · have : Tx E C ops.size (fun _ => true) d = Tx E C ops.size X d := vl_congr fun i hi _ => (hX i hi).symm
      rw [this]; exact ht d
  | j :: r, X, hv, hcl, σ, F, w, h, a, hh, g, hbase, hdf, hsz, ht => by
    obtain ⟨hj, hXj, hed, hvr⟩ := hv
    obtain ⟨o, ho, S⟩ := T.step j (Nat.zero_le _) hj
    obtain ⟨t1, t2, t3, t4, t5⟩ := text_state T j (by omega)
    -- all before j is done
    have hbef : ∀ i, Nat.testBit ((befGo ops.toList []).getD j 0) i = true → X i = true := by
      intro i hi
      obtain ⟨e, he, hbe, hh2⟩ := bef_edge hd ho hi
      have hXe := hed o ho e he hbe
      rcases hh2 with rfl | hh2
      · exact hXe
      · have hlt : e.on < ops.size := by
          simp only [drawOK, Bool.and_eq_true] at hd
          have := edgesOK_spec ops.toList 0 hd.1 j o (by simpa using ho) e he hbe
          omega
        exact hcl e.on hlt hXe i hh2
    -- what is behind j is not done
    have haft : ∀ i, j < i → i < ops.size → confl (E j).ft (E i).ft = true → X i = false := by
      intro i h1 h2 h3
      have := T.conf j i (Nat.zero_le _) h1 h2 h3
      cases hx : X i with
      | false => rfl
      | true => have := hcl i h2 hx j this; rw [hXj] at this; cases this
    have hfore : ∀ i, i < j → confl (E i).ft (E j).ft = true → X i = true := fun i h1 h2 => hbef i (T.conf i j (Nat.zero_le _) h1 hj h2)
    have slotIn : ∀ {i d : Nat}, i < ops.size → (slotOf (E i) d).isSome = true → d ∈ (E i).ft.ds := by
      intro i d hi hs
      obtain ⟨o', _, S'⟩ := T.step i (Nat.zero_le _) hi
      rw [S'.fds, ← S'.ds]
      unfold slotOf at hs
      split at hs
      · rename_i hh3; rw [hh3]; simp
      · simp at hs
    have objIn : ∀ {i l : Nat}, i < ops.size → (lastO (E i).u l).isSome = true → l ∈ (E i).ft.wr := by
      intro i l hi hs
      obtain ⟨o', _, S'⟩ := T.step i (Nat.zero_le _) hi
      have hm := lastO_mem hs
      rcases S'.kind with ⟨_, _, _, _, _, _, _, _, _, hu, _⟩ | ⟨_, _, _, _, _, _, hwr⟩
      · rw [hu] at hs; simp [lastO] at hs
      · rw [hwr]; exact hm
    -- what j reads is as in the text
    have hslot : ∀ d, d ∈ (E j).ft.rd → Tx E C ops.size X d = look (C j).fr.t d := by
      intro d hdm
      rw [t1 d, ← vl_lt (show j ≤ ops.size by omega)]
      refine vl_congr fun i hi hs => ?_
      have hdi := slotIn hi hs
      rcases Nat.lt_trichotomy i j with h1 | h1 | h1
      · rw [hfore i h1 (by simp only [confl, Bool.or_eq_true]; exact .inl (.inl (.inl (meets_of hdi (by simp [hdm])))))]
        simp [h1]
      · subst h1; simp [hXj]
      · rw [haft i h1 hi (by simp only [confl, Bool.or_eq_true]; exact .inl (.inl (.inr (meets_of hdi hdm))))]
        simp; omega
    have hobj : ∀ l, l ∈ (E j).ft.ids → Dx E C ops.size X l = getO (C j).h l := by
      intro l hlm
      rw [t2 l, ← vl_lt (show j ≤ ops.size by omega)]
      refine vl_congr fun i hi hs => ?_
      have hdi := objIn hi hs
      rcases Nat.lt_trichotomy i j with h1 | h1 | h1
      · rw [hfore i h1 (by simp only [confl, Bool.or_eq_true]; exact .inl (.inr (meets_of hdi (by simp [hlm]))))]
        simp [h1]
      · subst h1; simp [hXj]
      · rw [haft i h1 hi (by simp only [confl, Bool.or_eq_true]; exact .inr (meets_of hdi hlm))]
        simp; omega
    -- behind j
    have hZ : ∀ i, (fun i => X i || i == j) i = true → i ≠ j → X i = true := fun i h1 h2 => by simpa [h2] using h1
    have hTn : ∀ d, Tx E C ops.size (fun i => X i || i == j) d = (slotOf (E j) d).getD (Tx E C ops.size X d) := by
      intro d
      cases hs : slotOf (E j) d with
      | some v =>
        refine vl_last hj (by simp) hs fun i h1 h2 h3 => ?_
        cases hsi : slotOf (E i) d with
        | none => rfl
        | some v2 =>
          have hxi := hZ i h3 (by omega)
          have := haft i h1 h2 (by simp only [confl, Bool.or_eq_true]; exact .inl (.inl (.inl (meets_of (x := d) (slotIn hj (by rw [hs]; rfl)) (List.mem_append_right _ (slotIn h2 (by rw [hsi]; rfl)))))))
          rw [hxi] at this; cases this
      | none =>
        refine vl_congr fun i hi hsi => ?_
        have : i ≠ j := fun e => by subst e; rw [hs] at hsi; simp at hsi
        simp [this]
    have hDn : ∀ l, Dx E C ops.size (fun i => X i || i == j) l = (lastO (E j).u l).getD (Dx E C ops.size X l) := by
      intro l
      cases hs : lastO (E j).u l with
      | some v =>
        refine vl_last hj (by simp) hs fun i h1 h2 h3 => ?_
        cases hsi : lastO (E i).u l with
        | none => rfl
        | some v2 =>
          have hxi := hZ i h3 (by omega)
          have := haft i h1 h2 (by simp only [confl, Bool.or_eq_true]; exact .inl (.inr (meets_of (x := l) (objIn hj (by rw [hs]; rfl)) (List.mem_append_right _ (objIn h2 (by rw [hsi]; rfl))))))
          rw [hxi] at this; cases this
      | none =>
        refine vl_congr fun i hi hsi => ?_
        have : i ≠ j := fun e => by subst e; rw [hs] at hsi; simp at hsi
        simp [this]
    have hcl2 : ∀ q, q < ops.size → (X q || q == j) = true → ∀ i, Nat.testBit ((befGo ops.toList []).getD q 0) i = true → (X i || i == j) = true := by
      intro q hq hxq i hi
      by_cases hqj : q = j
      · subst hqj; simp [hbef i hi]
      · have := hcl q hq (by simpa [hqj] using hxq) i hi
        simp [this]
    -- one step, then the rest
    have rest : ∀ (x : Value) (σ' : Sig) (F' : Fz) (w' : World) (h' : List O), (∀ l, getO h' l = (lastO (E j).u l).getD (getO h l)) → Gm base σ' F' h' w' → RV F' σ' (E j).v x → Sle σ σ' → FExt base F F' → Below base w w' →
        Steps P (lone (b.at a (.inRegion ops (j :: r) :: k)) cs w) (lone (b.at (a.put o.dst x) (.inRegion ops r :: k)) cs w') →
        ∃ σ' F' w' h' a', (∀ l, getO h' l = Dx E C ops.size (fun _ => true) l) ∧ Gm base σ' F' h' w' ∧ Sle σ σ' ∧ FExt base F F' ∧ Below base w w' ∧ a'.defers = [] ∧ a'.tmps.size = (C 0).fr.nt ∧ (∀ d, RV F' σ' (Tx E C ops.size (fun _ => true) d) (a'.tmps.getD d undef)) ∧
          Steps P (lone (b.at a (.inRegion ops (j :: r) :: k)) cs w) (lone (b.at a' (.inRegion ops [] :: k)) cs w') := by
      intro x σ' F' w' h' hh' g' hv' hS' hF' hB' hst
      have hbound : ∀ d, o.dst = some d → d < a.tmps.size := fun d hdd => by rw [hsz, ← t3]; exact S.bound d hdd
      have hput : (a.put o.dst x).tmps.size = (C 0).fr.nt := by
        cases hod : o.dst with
        | none => exact hsz
        | some d => simpa [Act.put] using hsz
      have htm : ∀ d, RV F' σ' (Tx E C ops.size (fun i => X i || i == j) d) ((a.put o.dst x).tmps.getD d undef) := by
        intro d
        rw [hTn d]
        unfold slotOf
        rw [S.ds]
        cases hod : o.dst with
        | none => simpa [Act.put] using (ht d).mono hF'.1 hS'
        | some d' =>
          by_cases hdd : d' = d
          · subst hdd
            have hb := hbound d' hod
            simpa [Act.put, Array.getD_eq_getD_getElem?, hb] using hv'
          · have h2 := (ht d).mono hF'.1 hS'
            simp only [Array.getD_eq_getD_getElem?] at h2
            simpa [hdd, Act.put, Array.getD_eq_getD_getElem?, Array.getElem?_setIfInBounds_ne hdd] using h2
      obtain ⟨σ2, F2, w2, h2, a2, q1, q2, q3, q4, q5, q6, q7, q8, q9⟩ := draw_go hcon hd T (b := b) (k := k) (cs := cs) r _ hvr hcl2 σ' F' w' h' (a.put o.dst x) (fun l => by rw [hh' l, hh l, hDn l]) g' (Nat.le_trans hbase hB'.size) (by rw [put_defers]; exact hdf) hput htm
      exact ⟨σ2, F2, w2, h2, a2, q1, q2, hS'.trans q3, hF'.trans q4, hB'.trans q5, q6, q7, q8, hst.trans q9⟩
    have hyieldx : ∀ {g' want d x}, o.guard = some (g', want) → (ops[g']?).bind (·.dst) = some d → look (C j).fr.t d = .kn x → x ≠ .bool want → d ∈ (E j).ft.rd → Region.wanted o (yielded ops a.tmps) = false := by
      intro g' want d x h1 h2 h3 h5 h4
      have hr := ht d
      rw [hslot d h4, h3] at hr
      generalize hx : a.tmps.getD d undef = y at hr
      cases hr
      rw [Array.getD_eq_getD_getElem?] at hx
      cases hq : a.tmps[d]? with
      | none => simp [Region.wanted, h1, yielded, h2, hq]
      | some q =>
        simp only [hq, Option.getD_some] at hx
        subst hx
        cases q with
        | bool bb =>
          have h6 : bb ≠ want := fun e => h5 (by rw [e])
          have h7 : yielded ops a.tmps g' = some bb := by simp [yielded, h2, hq]
          simp only [Region.wanted, h1, h7]
          cases bb <;> cases want <;> first | rfl | exact (h6 rfl).elim
        | _ => simp [Region.wanted, h1, yielded, h2, hq]
    have hyield : ∀ {g' want d bb}, o.guard = some (g', want) → (ops[g']?).bind (·.dst) = some d → look (C j).fr.t d = .kn (.bool bb) → d ∈ (E j).ft.rd → Region.wanted o (yielded ops a.tmps) = (bb == want) := by
      intro g' want d bb h1 h2 h3 h4
      have hr := ht d
      rw [hslot d h4, h3] at hr
      generalize hx : a.tmps.getD d undef = x at hr
      cases hr
      have hy : yielded ops a.tmps g' = some bb := by
        have : a.tmps[d]? = some (.bool bb) := by
          rw [Array.getD_eq_getD_getElem?] at hx
          cases hq : a.tmps[d]? with
          | none => simp [hq, undef] at hx
          | some q => simpa [hq] using hx
        simp [yielded, h2, this]
      simp [Region.wanted, h1, hy]
    rcases S.kind with ⟨g', want, d, bb, k1, k2, k3, k4, k5, k6, k7⟩ | ⟨k1, k2, k3, k4, k5, k6, k7⟩
    · have hw : Region.wanted o (yielded ops a.tmps) = false := by
        exact hyieldx k1 k2 k3 k4 k7
      refine rest undef σ F w h (fun l => by rw [k6]; rfl) g (by rw [k5]; exact .kn) (Sle.refl _) (FExt.refl _ _) (Below.refl _ _) (.one ?_)
      have := step_op_skip (P := P) (b := b) (a := a) (k := k) (cs := cs) (w := w) (ops := ops) (i := j) (rest := r) (by simp [ho, hw])
      rw [ho] at this
      exact this
    · have hw : Region.wanted o (yielded ops a.tmps) = true := by
        rcases k1 with k1 | ⟨g', want, d, h1, h2, h3, h4⟩
        · simp [Region.wanted, k1]
        · rw [hyield h1 h2 h3 h4]; simp
      have hdo : opDo P con (N0 + j) (fun x => match x with | .tmp t => Tx E C ops.size X t | x => ev [] x) (getO h) o = opDo P con (N0 + j) (ev (C j).fr.t) (getO (C j).h) o := by
        have hop : ∀ x ∈ o.op.operands.toList, (fun x => match x with | .tmp t => Tx E C ops.size X t | x => ev [] x : Operand → V) x = ev (C j).fr.t x := by
          intro x hx
          cases x with
          | tmp t => exact hslot t (k4 t (by simp only [tmpsOf, List.mem_flatMap]; exact ⟨_, hx, by simp⟩))
          | _ => rfl
        refine opDo_congr (fun f s h => (hcon f s h).2.1) hop fun x hx l hl => ?_
        have hl2 : l ∈ (ev (C j).fr.t x).ids := by rw [← hop x hx]; exact hl
        rw [hh l]
        exact hobj l (k6 x hx l hl2)
      have hhole : getO h (N0 + j) = .hole := by rw [hh, hobj _ k5]; exact k3
      have hS := op_sound (a := a) (con := con) (ρ := fun x => match x with | .tmp t => Tx E C ops.size X t | x => ev [] x) g hbase hhole hcon (fun x => by
        cases x with
        | tmp t => exact ht t
        | const c => exact .kn
        | global q => exact .any
        | func f => exact .fn rfl fun i v e => by simp at e) o
      rw [hdo] at hS
      have hF : Fin P o a w (Aft base σ F w (E j).v (ups (E j).u h)) := by
        rcases k2 with k2 | ⟨p, k2, hp⟩
        · rw [k2] at hS; exact hS
        · rw [k2] at hS; exact hS hp
      obtain ⟨x, w', ⟨σ', F', g', hrv, hS', hF', hB'⟩, hsteps⟩ := fin_steps (rest := r) ho hw hF b k cs
      exact rest x σ' F' w' _ (fun l => getO_ups _ _ _) g' hrv hS' hF' hB' hsteps

theorem Gm.of_get {σ : Sig} {F : Fz} {h h' : List O} {w : World} (g : Gm base σ F h w) (e : ∀ l, getO h l = getO h' l) : Gm base σ F h' w :=
  ⟨fun l => by rw [← e l]; exact g.obj l, fun l b hb => g.own l b (by rw [e l]; exact hb), fun l l' b h1 h2 => g.sep l l' b (by rw [e l]; exact h1) (by rw [e l']; exact h2), g.fz⟩

/-- A region whose order is drawn. -/
theorem draw_good {ih : Cfg → Prop} (hcon : ∀ f s, con f = some s → SpecOK P f s) (hb0 : base ≤ w0.heap.size) (hih : ∀ c, ih c → Good P base w0 F0 f0 ret c) {c : Cfg} {id : Nat} {k : List Item}
    (hk : c.fr.k = .code (.region id ops true) :: k) (hd : drawOK ops = true) (h : drawRun P con ops c.h.length (fun c' => ih (c'.at k)) ops.toList (befGo ops.toList []) 0 [] c) : Good P base w0 F0 f0 ret c := by
  intro hb σ F w b a fs cs0 g hF hw hf hfs
  obtain ⟨E, C, hC, hT, _, hK⟩ := drawRun_trace (bs0 := befGo ops.toList []) ops.toList _ 0 [] c (fun i => by simp) (fun i => by simp) h
  simp only [Nat.zero_add, Array.length_toList] at hT hK
  have hbase : base ≤ w.heap.size := Nat.le_trans hb0 hw.size
  have hst := step_region_draw (P := P) (b := b) (a := a) (k := k) (cs := fs ++ cs0) (w := w) (ops := ops) (id := id)
  have hv := sched_valid (mixed := P.follows .mixedOrders) (t := w.tape w.drawn (.order b.fn id)) hd
  have g1 : Gm base σ F c.h { w with drawn := w.drawn + 1 } := g.still (Nat.le_refl _) fun _ _ => rfl
  have hX0 : ∀ i, i < ops.size → (decide (ops.size ≤ i)) = false := fun i hi => by simp; omega
  have init : ∀ {A : Type} (f : Nat → Option A) (a0 : A), vl f a0 (fun i => decide (ops.size ≤ i)) ops.size = a0 := by
    intro A f a0
    rw [vl_none (j := 0) (Nat.zero_le _) fun i _ h2 h3 => by rw [hX0 i h2] at h3; cases h3]
    rfl
  obtain ⟨σ', F', w', h', a', q1, q2, q3, q4, q5, q6, q7, q8, q9⟩ := draw_go (base := base) (b := b) (k := k) (cs := fs ++ cs0) hcon hd hT _ _ hv (fun j hj hx => by rw [hX0 j hj] at hx; cases hx) σ F { w with drawn := w.drawn + 1 } c.h a
    (fun l => by unfold Dx; rw [init, hC]) g1 hbase hf.defers (by rw [hC]; exact hf.size) (fun d => by unfold Tx; rw [init, hC]; exact hf.tmps d)
  obtain ⟨t1, t2, t3, t4, t5⟩ := text_state hT ops.size (Nat.le_refl _)
  rw [hC] at t3 t4 t5
  have hbot : botFn ((C ops.size).at k).fr ((C ops.size).at k).cs = f0 := by
    rw [← hb]
    show botFn ⟨(C ops.size).fr.fn, (C ops.size).fr.nt, (C ops.size).fr.t, k⟩ (C ops.size).cs = botFn c.fr c.cs
    rw [t5]
    cases c.cs with
    | nil => exact t4
    | cons _ _ => rfl
  obtain ⟨x', w'', frl, h1, h2, h3⟩ := hih _ hK hbot σ' F' w' b a' fs cs0 (q2.of_get fun l => by rw [q1 l]; exact (t2 l).symm) (hF.trans q4) (hw.trans ((⟨rfl, rfl, rfl, Nat.le_refl _, fun _ _ => rfl⟩ : Below base w { w with drawn := w.drawn + 1 }).trans q5))
    ⟨hf.fn.trans t4.symm, hf.kind, q6, by rw [q7, hC]; exact t3.symm, fun d => by
      have := q8 d
      have e : Tx E C ops.size (fun _ => true) d = look (C ops.size).fr.t d := (t1 d).symm
      rw [e] at this
      exact this⟩ (by rw [show ((C ops.size).at k).cs = (C ops.size).cs from rfl, t5]; exact hfs.mono q4.1 q3)
  refine ⟨x', w'', frl, h1, ?_, h3⟩
  rw [hk]
  exact .head hst (q9.trans (.head step_region_end h2))
end Go.Aw

/-
  The executor is sound: what it shows of a configuration holds of each machine that the configuration describes.
-/
namespace Go.Aw
open Go Go.RowKit
set_option linter.unusedVariables false
set_option linter.unusedSimpArgs false

section
variable {P : Program}

theorem resV_run {base : Nat} {σ : Sig} {F : Fz} {c : Cfg} {w : World} {b : Frame} {a : Act} (g : Gm base σ F c.h w) (hf : Fr0 F σ c.fr b a) {r : ResultVar} {v : V} (hr : resV P c r = some v) :
    ∃ x, (match r with | .tmp t => pure (a.tmps.getD t undef) | .cell p t => do loadVar t (← asAddr (a.tmps.getD p undef)) : Sem Value).run P w = .ok x w ∧ RV F σ v x := by
  cases r with
  | tmp t =>
    simp only [resV, Option.some.injEq] at hr
    subst hr
    exact ⟨_, rfl, hf.tmps t⟩
  | cell p t =>
    simp only [resV] at hr
    have hp := hf.tmps p
    generalize hx : look c.fr.t p = q at hp hr
    generalize hy : a.tmps.getD p undef = y at hp
    cases q with
    | ptr l off =>
      cases hp with
      | ptr hs =>
        dsimp only at hr
        cases hO : getO c.h l with
        | cells cs =>
          simp only [hO] at hr
          obtain ⟨x, hx, hrv⟩ := ldAt_run (P := P) (w := w) hr (At.cells g hO hs)
          exact ⟨x, by simp only [Nat.zero_add] at hx; dsimp only; rw [hy]; simp [asAddr, hx], hrv⟩
        | _ => simp [hO] at hr
    | _ => simp at hr

theorem resAll_run {base : Nat} {σ : Sig} {F : Fz} {c : Cfg} {w : World} {b : Frame} {a : Act} (g : Gm base σ F c.h w) (hf : Fr0 F σ c.fr b a) {fn : Func} {v : V} (hr : resAll P c fn.results.toList = some v) :
    ∃ x, (results fn a.tmps).run P w = .ok x w ∧ RV F σ v x := by
  have key : ∀ (rs : List ResultVar) (vs : List V), allSome (rs.map (resV P c)) = some vs → ∃ xs : List Value, (rs.mapM fun r => (match r with | .tmp t => pure (a.tmps.getD t undef) | .cell p t => do loadVar t (← asAddr (a.tmps.getD p undef)) : Sem Value)).run P w = .ok xs w ∧ vs.length = xs.length ∧ ∀ (i : Nat) (v : V), vs[i]? = some v → RV F σ v (xs.getD i undef) := by
    intro rs
    induction rs with
    | nil => intro vs e; simp [allSome] at e; subst e; exact ⟨[], by simp, rfl, by simp⟩
    | cons r rs ih =>
      intro vs e
      cases hv : resV P c r with
      | none => simp [hv, allSome] at e
      | some v =>
        simp only [List.map_cons, hv, allSome, Option.map_eq_some_iff] at e
        obtain ⟨us, hu, rfl⟩ := e
        obtain ⟨xs, h1, h2, h3⟩ := ih us hu
        obtain ⟨x, h4, h5⟩ := resV_run g hf hv
        refine ⟨x :: xs, ?_, by simp [h2], fun i v hv => ?_⟩
        · simp only [List.mapM_cons, Sem.run_bind, h4, h1, Result.andThen_ok, Sem.run_pure]
        · cases i with
          | zero => simp at hv; subst hv; simpa using h5
          | succ i => simpa using h3 i v (by simpa using hv)
  unfold resAll at hr
  simp only [Option.map_eq_some_iff] at hr
  obtain ⟨vs, hvs, hv⟩ := hr
  obtain ⟨xs, h1, h2, h3⟩ := key _ vs hvs
  have hrun : (results fn a.tmps).run P w = .ok (if h : xs.toArray.size = 1 then xs.toArray[0] else .tuple xs.toArray) w := by
    unfold results
    rw [Sem.run_bind, Array.mapM_eq_mapM_toList, Sem.run_map]
    erw [h1]
    rfl
  rw [hrun]
  refine ⟨_, rfl, ?_⟩
  match vs, h2, h3, hv with
  | [u], h2, h3, hv =>
    subst hv
    have hl : xs.toArray.size = 1 := by simpa using h2.symm
    rw [dif_pos hl]
    have := h3 0 u rfl
    have hl' : 0 < xs.length := by rw [← h2]; simp
    simpa [List.getD, hl'] using this
  | [], h2, h3, hv =>
    subst hv
    have hl : ¬ xs.toArray.size = 1 := by simp [← h2]
    rw [dif_neg hl]
    exact .tup (by simpa using h2) fun i v e => by simp at e
  | u :: u2 :: us, h2, h3, hv =>
    subst hv
    have hl : ¬ xs.toArray.size = 1 := by simp [← h2]
    rw [dif_neg hl]
    refine .tup (by simpa using h2) fun i v e => ?_
    have := h3 i v e
    simpa [Array.getD_eq_getD_getElem?, List.getD] using this

def cut (m : List Nat) (σ : Sig) : Sig := fun j => (m[j]?).bind σ

theorem idx_spec (l : Nat) : ∀ (m : List Nat) (k j : Nat), idx l m k = some j → ∃ i, j = k + i ∧ m[i]? = some l
  | [], k, j, h => by simp [idx] at h
  | x :: r, k, j, h => by
    simp only [idx] at h
    cases hb : Nat.beq x l with
    | true =>
      rw [hb] at h
      simp only [cond_true, Option.some.injEq] at h
      exact ⟨0, by omega, by simp [Nat.eq_of_beq_eq_true hb]⟩
    | false =>
      rw [hb] at h
      obtain ⟨i, hi, hm⟩ := idx_spec l r (k + 1) j h
      exact ⟨i + 1, by omega, by simpa using hm⟩

theorem forget0_rv {F : Fz} {σ : Sig} {m : List Nat} {v : V} {x : Value} (h : RV F σ v x) : RV F (cut m σ) (v.forget0 m) x := by
  have hc : ∀ {l k : Nat} {y : Value}, σ l = some y → idx l m 0 = some k → cut m σ k = some y := fun {l k y} hs hb => by
    obtain ⟨i, hi, hm⟩ := idx_spec l m 0 k hb
    have : k = i := by omega
    subst this
    simp [cut, hm, hs]
  cases h with
  | any => exact .any
  | kn => exact .kn
  | agg => exact .any
  | tup => exact .any
  | list0 hn => exact .list0 hn
  | list gg a b c d e => exact .list gg a b c d e
  | rp gg a b => exact .rp gg a b
  | @ptr _ l off b hs =>
    simp only [V.forget0]
    cases hb : idx l m 0 with
    | none => exact .any
    | some k => exact .ptr (hc hs hb)
  | @el _ l s i off b n cap hs =>
    simp only [V.forget0]
    cases hb : idx l m 0 with
    | none => exact .any
    | some k => exact .el (hc hs hb)
  | @sl _ l x hs =>
    simp only [V.forget0]
    cases hb : idx l m 0 with
    | none => exact .any
    | some k => exact .sl (hc hs hb)
  | fn => exact .any
  | @mp _ l x hs =>
    simp only [V.forget0]
    cases hb : idx l m 0 with
    | none => exact .any
    | some k => exact .mp (hc hs hb)
  | @it _ l x hs =>
    simp only [V.forget0]
    cases hb : idx l m 0 with
    | none => exact .any
    | some k => exact .it (hc hs hb)

theorem map_rv {F : Fz} {σ σ' : Sig} {f : V → V} (hf : ∀ v x, RV F σ v x → RV F σ' (f v) x) {cs : List V} {xs : Array Value} (h : ∀ (i : Nat) (v : V), cs[i]? = some v → RV F σ v (xs.getD i undef)) :
    ∀ (i : Nat) (v : V), (cs.map f)[i]? = some v → RV F σ' v (xs.getD i undef) := by
  intro i v e
  simp only [List.getElem?_map, Option.map_eq_some_iff] at e
  obtain ⟨u, hu, rfl⟩ := e
  exact hf _ _ (h i u hu)

theorem forget1_rv {F : Fz} {σ : Sig} {m : List Nat} {v : V} {x : Value} (h : RV F σ v x) : RV F (cut m σ) (v.forget1 m) x := by
  cases v with
  | fn f cap =>
    cases h with
    | fn hl hh => exact .fn (by simpa using hl) (map_rv (fun v x r => forget0_rv r) hh)
  | _ => exact forget0_rv h
theorem forget2_rv {F : Fz} {σ : Sig} {m : List Nat} {v : V} {x : Value} (h : RV F σ v x) : RV F (cut m σ) (v.forget2 m) x := by
  cases v with
  | agg cs =>
    cases h with
    | agg hl hh => exact .agg (by simpa using hl) (map_rv (fun v x r => forget1_rv r) hh)
  | _ => exact forget1_rv h
theorem forget_rv {F : Fz} {σ : Sig} {m : List Nat} {v : V} {x : Value} (h : RV F σ v x) : RV F (cut m σ) (v.forget m) x := by
  cases v with
  | tup cs =>
    cases h with
    | tup hl hh => exact .tup (by simpa using hl) (map_rv (fun v x r => forget2_rv r) hh)
  | _ => exact forget2_rv h

theorem getO_map (f : Nat → O) : ∀ (m : List Nat) (l : Nat), getO (m.map f) l = match m[l]? with | some x => f x | none => .hole
  | [], l => by simp [getO]
  | x :: r, 0 => by simp [getO]
  | x :: r, l + 1 => by simp [getO, getO_map f r l]
theorem nodupB_spec : ∀ {m : List Nat}, nodupB m = true → ∀ (i j : Nat) (x : Nat), m[i]? = some x → m[j]? = some x → i = j
  | [], _, i, j, x, h, _ => by simp at h
  | a :: r, hn, i, j, x, h, k => by
    simp only [nodupB, Bool.and_eq_true, Bool.not_eq_true'] at hn
    have hna : ∀ (q : Nat), r[q]? = some a → False := fun q hq => by
      have := hn.1
      rw [List.any_eq_false] at this
      exact this a (List.mem_of_getElem? hq) (Nat.beq_refl a)
    cases i with
    | zero =>
      cases j with
      | zero => rfl
      | succ j => simp at h k; subst h; exact (hna j k).elim
    | succ i =>
      cases j with
      | zero => simp at h k; subst k; exact (hna i h).elim
      | succ j => have := nodupB_spec hn.2 i j x (by simpa using h) (by simpa using k); omega

theorem OR.forget {F : Fz} {σ : Sig} {w : World} {m : List Nat} {o : O} {x : Option Value} (h : OR F σ w o x) : OR F (cut m σ) w (o.forget m) x := by
  cases o with
  | hole => exact h
  | dead => exact h
  | fz s n f => exact h
  | cells cs =>
    obtain ⟨b, arr, e, rfl, hh, hz, hr⟩ := h
    exact ⟨b, arr, e, rfl, hh, by simpa [O.forget] using hz, map_rv (fun v x r => forget2_rv r) hr⟩
  | row e s n f p =>
    obtain ⟨v, xs, rfl, ho, hl, hr, h1⟩ := h
    cases p with
    | true => exact ⟨v, xs, rfl, ho, hl, hr, h1⟩
    | false =>
      refine ⟨v, xs, rfl, ho, fun i hi => by simpa using hl i hi, fun i j u hi hu => ?_, h1⟩
      replace hu : ((f i).map (V.forget1 m))[j]? = some u := hu
      simp only [List.getElem?_map, Option.map_eq_some_iff] at hu
      obtain ⟨u', hu', rfl⟩ := hu
      exact forget1_rv (hr i j u' hi hu')

theorem ob_forget (m : List Nat) (o : O) (x : Option Value) : ob (o.forget m) x = ob o x := by
  cases o with
  | row e s n f p => cases p <;> cases x <;> rfl
  | cells cs =>
    cases x with
    | none => rfl
    | some v =>
      cases v with
      | pointer a => cases a <;> rfl
      | _ => rfl
  | _ => rfl

theorem Gm.forget {base : Nat} {σ : Sig} {F : Fz} {h : List O} {w : World} (g : Gm base σ F h w) {m : List Nat} (hm : nodupB m = true) : Gm base (cut m σ) F (normH h m) w := by
  have hget : ∀ j, getO (normH h m) j = match m[j]? with | some x => (getO h x).forget m | none => .hole := fun j => getO_map _ m j
  have hob : ∀ j b, ob (getO (normH h m) j) (cut m σ j) = some b → ∃ l, m[j]? = some l ∧ ob (getO h l) (σ l) = some b := by
    intro j b e
    rw [hget] at e
    cases hl : m[j]? with
    | none => simp [hl, ob] at e
    | some l => exact ⟨l, rfl, by simpa [cut, hl, ob_forget] using e⟩
  refine ⟨fun j => ?_, fun j b e => ?_, fun j j' b e e' => ?_, g.fz⟩
  · rw [hget]
    cases hl : m[j]? with
    | none => simp [OR, cut, hl]
    | some l =>
      have : cut m σ j = σ l := by simp [cut, hl]
      rw [this]
      exact (g.obj l).forget
  · obtain ⟨l, _, hl⟩ := hob j b e
    exact g.own l b hl
  · obtain ⟨l, h1, h2⟩ := hob j b e
    obtain ⟨l', h3, h4⟩ := hob j' b e'
    have := g.sep l l' b h2 h4
    subst this
    exact nodupB_spec hm j j' l h1 h3

theorem look_keep {F : Fz} {σ : Sig} {m : List Nat} {t : Tm} {a : Act} (ht : ∀ d, RV F σ (look t d) (a.tmps.getD d undef)) : ∀ (ks : List Nat) (d : Nat),
    RV F (cut m σ) (look (ks.map fun d => (d, V.forget m (look t d))) d) (a.tmps.getD d undef)
  | [], d => .any
  | k :: ks, d => by
    show RV F (cut m σ) (bif Nat.beq k d then V.forget m (look t k) else look (ks.map fun d => (d, V.forget m (look t d))) d) _
    cases hb : Nat.beq k d with
    | true => have := Nat.eq_of_beq_eq_true hb; subst this; exact forget_rv (ht k)
    | false => exact look_keep ht ks d

theorem look_forget (m : List Nat) : ∀ (t : Tm) (d : Nat), look (t.map fun (d, v) => (d, V.forget m v)) d = V.forget m (look t d)
  | [], d => rfl
  | (k, v) :: r, d => by
    show (bif Nat.beq k d then V.forget m v else look (r.map fun (d, v) => (d, V.forget m v)) d) = V.forget m (bif Nat.beq k d then v else look r d)
    cases Nat.beq k d
    · exact look_forget m r d
    · rfl

theorem FrsR.forget {F : Fz} {σ : Sig} (m : List Nat) : ∀ {fs : List Fr} {cs : List Frame}, FrsR F σ fs cs → FrsR F (cut m σ) (fs.map fun f => ⟨f.fn, f.nt, f.t.map fun (d, v) => (d, V.forget m v), f.k⟩) cs
  | [], [], _ => trivial
  | f :: fs, c :: cs, ⟨⟨b, a, e, h⟩, r⟩ => ⟨⟨b, a, e, h.fn, h.kind, h.defers, h.size, fun d => by rw [look_forget]; exact forget_rv (h.tmps d)⟩, r.forget m⟩
  | [], _ :: _, h => h.elim
  | _ :: _, [], h => h.elim

theorem botFn_map (g : Fr → Fr) (hg : ∀ f, (g f).fn = f.fn) : ∀ (fs : List Fr) (fr fr' : Fr), fr'.fn = fr.fn → botFn fr' (fs.map g) = botFn fr fs
  | [], fr, fr', e => e
  | f :: fs, fr, fr', e => botFn_map g hg fs f (g f) (hg f)

variable {base : Nat} {w0 : World} {F0 : Fz} {f0 : FuncId} {ret : V → List O → Prop}

theorem norm_good {ks m : List Nat} {c : Cfg} (hm : nodupB m = true) (h : Good P base w0 F0 f0 ret (norm ks m c)) : Good P base w0 F0 f0 ret c := by
  unfold norm at h
  intro hb σ F w b a fs cs0 g hF hw hf hfs
  refine h ?_ (cut m σ) F w b a fs cs0 (g.forget hm) hF hw ⟨hf.fn, hf.kind, hf.defers, hf.size, look_keep hf.tmps ks⟩ (hfs.forget m)
  rw [← hb]
  exact botFn_map (fun f => ⟨f.fn, f.nt, f.t.map fun (d, v) => (d, V.forget m v), f.k⟩) (fun _ => rfl) c.cs c.fr ⟨c.fr.fn, c.fr.nt, ks.map fun d => (d, V.forget m (look c.fr.t d)), c.fr.k⟩ rfl

/-- One move of the machine, nothing else. -/
theorem good_move {c : Cfg} {k : List Item} (h : Good P base w0 F0 f0 ret (c.at k)) (hs : ∀ (b : Frame) (a : Act) (cs : List Frame) (w : World), Go.step P (lone (b.at a c.fr.k) cs w) = .next (lone (b.at a k) cs w)) : Good P base w0 F0 f0 ret c := by
  intro hb σ F w b a fs cs0 g hF hw hf hfs
  have hb' : botFn (c.at k).fr (c.at k).cs = f0 := by rw [← hb]; exact (by cases c.cs <;> rfl : botFn (c.at k).fr c.cs = botFn c.fr c.cs)
  obtain ⟨x, w', frl, h1, h2, h3⟩ := h hb' σ F w b a fs cs0 g hF hw ⟨hf.fn, hf.kind, hf.defers, hf.size, hf.tmps⟩ hfs
  exact ⟨x, w', frl, h1, .head (hs b a _ w) h2, h3⟩

theorem point_good {hs : Hints} {good ih : Cfg → Prop} (hgood : ∀ c, good c → Good P base w0 F0 f0 ret c) (hih : ∀ c, ih c → Good P base w0 F0 f0 ret c) {c : Cfg} {key : Option Nat} (h : stepLoop hs good ih key c) : Good P base w0 F0 f0 ret c := by
  unfold stepLoop at h
  split at h
  · exact hih _ h
  · rename_i ks m _
    cases hn : nodupB (keepIds c m) with
    | false => rw [hn] at h; exact h.elim
    | true => rw [hn] at h; exact norm_good hn (hgood _ h)

theorem loop_good {hs : Hints} {good ih : Cfg → Prop} (hgood : ∀ c, good c → Good P base w0 F0 f0 ret c) (hih : ∀ c, ih c → Good P base w0 F0 f0 ret c) {c : Cfg} {b : Code} {k : List Item} (hk : c.fr.k = .code (.loop b) :: k ∨ c.fr.k = .inLoop b :: k) (h : stepLoop hs good ih (firstReg b) (c.at (.code b :: .inLoop b :: k))) : Good P base w0 F0 f0 ret c := by
  have h' := point_good hgood hih h
  refine good_move h' fun bb a cs w => ?_
  rcases hk with hk | hk <;> rw [hk]
  · exact step_loop
  · exact step_inLoop

theorem ret_good {ih : Cfg → Prop} (hih : ∀ c, ih c → Good P base w0 F0 f0 ret c) {c : Cfg} (h : stepRet P ret ih c) (hk : c.fr.k = [] ∨ ∃ k, c.fr.k = .code .ret :: k) : Good P base w0 F0 f0 ret c := by
  intro hb σ F w b a fs cs0 g hF hw hf hfs
  unfold stepRet at h
  cases hfn : P.funcs[c.fr.fn]? with
  | none => simp [hfn] at h
  | some fn =>
    simp only [hfn] at h
    cases hr : resAll P c fn.results.toList with
    | none => simp [hr] at h
    | some v =>
      simp only [hr] at h
      obtain ⟨x, hx, hrv⟩ := resAll_run (P := P) g hf hr
      obtain ⟨fr1, hst, hlv, hfr1⟩ : ∃ fr1 : Frame, (∀ cs, Go.step P (lone (b.at a c.fr.k) cs w) = .next (lone fr1 cs w)) ∧ fr1.leaving P w (.returned x) ∧ fr1.fn = b.fn := by
        rcases hk with hk | ⟨k, hk⟩
        · exact ⟨{ b.at a [] with mode := .returning }, fun cs => by rw [hk]; exact step_end, ⟨rfl, hf.defers, hf.kind, fn, by show P.funcs[b.fn]? = _; rw [hf.fn]; exact hfn, hx⟩, rfl⟩
        · exact ⟨{ b.at a (.code .ret :: k) with mode := .returning }, fun cs => by rw [hk]; exact step_ret, ⟨rfl, hf.defers, hf.kind, fn, by show P.funcs[b.fn]? = _; rw [hf.fn]; exact hfn, hx⟩, rfl⟩
      cases hcs : c.cs with
      | nil =>
        simp only [hcs] at h
        rw [hcs] at hfs hb
        cases fs with
        | nil => exact ⟨x, w, fr1, ⟨v, c.h, σ, F, h, g, hrv, hF, hw⟩, .one (hst _), by rw [hfr1, hf.fn]; exact hb, hlv⟩
        | cons _ _ => exact hfs.elim
      | cons fr cs =>
        simp only [hcs] at h
        rw [hcs] at hfs hb
        cases fs with
        | nil => exact hfs.elim
        | cons c1 fs =>
          obtain ⟨⟨b1, a1, rfl, hf1⟩, hfs'⟩ := hfs
          split at h
          · rename_i ops i rest k hk1
            cases ho : ops[i]? with
            | none => simp [ho] at h
            | some o =>
              simp only [ho] at h
              cases hp : putD fr.t fr.nt o.dst v with
              | none => simp [hp] at h
              | some t =>
                simp only [hp] at h
                have hput := put_ok hp hf1.size hf1.tmps hrv
                have hg2 := hih _ h (by rw [← hb]; cases cs <;> rfl) σ F w b1 (a1.put o.dst x) fs cs0 g hF hw
                  ⟨hf1.fn, hf1.kind, by rw [put_defers]; exact hf1.defers, hput.1, hput.2⟩ hfs'
                obtain ⟨x', w', frl, h1, h2, h3⟩ := hg2
                refine ⟨x', w', frl, h1, .head (hst _) (.head (step_leave_returned hlv) ?_), h3⟩
                rw [hk1, Frame.finish_at, ho]
                exact h2
          · exact h.elim

theorem args2_look {F : Fz} {σ : Sig} : ∀ (vs : List V) (xs : List Value) (j : Nat) (_ : vs.length = xs.length) (_ : ∀ (i : Nat) (v : V), vs[i]? = some v → RV F σ v (xs.getD i undef)) (d : Nat),
    look (args2 j vs) d = .any ∨ ∃ i v, d = j + i ∧ vs[i]? = some v ∧ look (args2 j vs) d = v
  | [], xs, j, _, _, d => .inl rfl
  | v :: vs, xs, j, hl, hr, d => by
    show look ((j, v) :: args2 (j + 1) vs) d = .any ∨ _
    cases hb : Nat.beq j d with
    | true =>
      have := Nat.eq_of_beq_eq_true hb
      subst this
      exact .inr ⟨0, v, rfl, rfl, by show (bif Nat.beq j j then v else _) = v; rw [hb]; rfl⟩
    | false =>
      have e : look ((j, v) :: args2 (j + 1) vs) d = look (args2 (j + 1) vs) d := by show (bif Nat.beq j d then v else _) = _; rw [hb]; rfl
      cases xs with
      | nil => simp at hl
      | cons x xs =>
        rcases args2_look vs xs (j + 1) (by simpa using hl) (fun i u hu => by simpa using hr (i + 1) u (by simpa using hu)) d with h | ⟨i, u, h1, h2, h3⟩
        · exact .inl (by rw [e]; exact h)
        · exact .inr ⟨i + 1, u, by omega, by simpa using h2, by show look ((j, v) :: args2 (j + 1) vs) d = u; rw [e]; exact h3⟩

theorem enter_fr {F : Fz} {σ : Sig} {f : FuncId} {fn : Func} {c : Code} {args : List V} {xs : Array Value} (hf : P.funcs[f]? = some fn) (hb : fn.body = some c) (hrv : RVs F σ args xs) (hle : args.length ≤ fn.ntmps) :
    ∃ b a, Frame.enter P f xs .normal = b.at a [.code c] ∧ Fr0 F σ ⟨f, fn.ntmps, args2 0 args, [.code c]⟩ b a := by
  refine ⟨{ (default : Frame) with fn := f, kind := .normal }, { tmps := xs ++ Array.replicate (fn.ntmps - xs.size) undef, defers := [] }, by simp [Frame.enter, Frame.at, hf, hb], rfl, rfl, rfl, ?_, fun d => ?_⟩
  · have := hrv.1
    simp; omega
  · rcases args2_look args xs.toList 0 (by simpa using hrv.1) (fun i v hv => by
      have := hrv.2 i v hv
      have hi : i < xs.size := by rw [← hrv.1]; exact (List.getElem?_eq_some_iff.1 hv).1
      simpa [Array.getD_eq_getD_getElem?, List.getD, hi] using this) d with h | ⟨i, v, h1, h2, h3⟩
    · show RV F σ (look (args2 0 args) d) _
      rw [h]; exact .any
    · show RV F σ (look (args2 0 args) d) _
      rw [h3]
      have hr := hrv.2 i v h2
      have hi : i < xs.size := by rw [← hrv.1]; exact (List.getElem?_eq_some_iff.1 h2).1
      have : d = i := by omega
      subst this
      have e : (xs ++ Array.replicate (fn.ntmps - xs.size) undef).getD d undef = xs.getD d undef := by
        simp only [Array.getD_eq_getD_getElem?]
        rw [Array.getElem?_append_left hi]
      show RV F σ v ((xs ++ Array.replicate (fn.ntmps - xs.size) undef).getD d undef)
      rw [e]; exact hr

theorem op_good {con : FuncId → Option Spec} {ih : Cfg → Prop} (hcon : ∀ f s, con f = some s → SpecOK P f s) (hb0 : base ≤ w0.heap.size) (hih : ∀ c, ih c → Good P base w0 F0 f0 ret c) {c : Cfg} {ops : Array Oper} {i : Nat} {rest : List Nat} {k : List Item} {o : Oper}
    (ho : ops[i]? = some o) (hk : c.fr.k = .inRegion ops (i :: rest) :: k) (h : stepOp P con ih c o (.inRegion ops rest :: k))
    (hb : botFn c.fr c.cs = f0) {σ : Sig} {F : Fz} {w : World} {b : Frame} {a : Act} {fs cs0 : List Frame} (g : Gm base σ F c.h w) (hF : FExt base F0 F) (hw : Below base w0 w) (hf : Fr0 F σ c.fr b a) (hfs : FrsR F σ c.cs fs)
    (hwant : Region.wanted o (yielded ops a.tmps) = true) :
    ∃ x w' frl, Post base w0 F0 ret x w' ∧ Steps P (lone (b.at a c.fr.k) (fs ++ cs0) w) (lone frl cs0 w') ∧ frl.fn = f0 ∧ frl.leaving P w' (.returned x) := by
  have hbase : base ≤ w.heap.size := Nat.le_trans hb0 hw.size
  have hhole : getO c.h c.h.length = .hole := by
    have : ∀ (h : List O), getO h h.length = .hole := fun h => by induction h with | nil => rfl | cons o r ih => exact ih
    exact this _
  have hS := op_sound (a := a) (con := con) (ρ := ev c.fr.t) g hbase hhole hcon (ev_rel hf.tmps) o
  have fin : ∀ {v : V} {u : List (Nat × O)} {t : Tm}, putD c.fr.t c.fr.nt o.dst v = some t → Fin P o a w (Aft base σ F w v (ups u c.h)) → ih ⟨⟨c.fr.fn, c.fr.nt, t, .inRegion ops rest :: k⟩, c.cs, ups u c.h⟩ →
      ∃ x w' frl, Post base w0 F0 ret x w' ∧ Steps P (lone (b.at a c.fr.k) (fs ++ cs0) w) (lone frl cs0 w') ∧ frl.fn = f0 ∧ frl.leaving P w' (.returned x) := by
    intro v u t hp hfin hi
    obtain ⟨x, w', ⟨σ', F', g', hrv, hS', hF', hB'⟩, hsteps⟩ := fin_steps (rest := rest) ho hwant hfin b k (fs ++ cs0)
    have hput := put_ok hp hf.size (fun d => (hf.tmps d).mono hF'.1 hS') hrv
    obtain ⟨x', w'', frl, h1, h2, h3⟩ := hih _ hi (by rw [← hb]; cases c.cs <;> rfl) σ' F' w' b (a.put o.dst x) fs cs0 g' (hF.trans hF') (hw.trans hB')
      ⟨hf.fn, hf.kind, by rw [put_defers]; exact hf.defers, hput.1, hput.2⟩ (hfs.mono hF'.1 hS')
    exact ⟨x', w'', frl, h1, by rw [hk]; exact hsteps.trans h2, h3⟩
  unfold stepOp at h
  cases hd : opDo P con c.h.length (ev c.fr.t) (getO c.h) o with
  | val v u =>
    rw [hd] at h hS
    dsimp only at h
    cases hp : putD c.fr.t c.fr.nt o.dst v with
    | none => simp [hp] at h
    | some t => simp only [hp] at h; exact fin hp hS h
  | req p v u =>
    rw [hd] at h hS
    dsimp only at h
    cases hp : putD c.fr.t c.fr.nt o.dst v with
    | none => simp [hp] at h
    | some t => simp only [hp] at h; exact fin hp (hS h.1) h.2
  | bad => rw [hd] at h; exact h.elim
  | enter f args =>
    rw [hd] at h hS
    dsimp only at h
    cases hfn : P.funcs[f]? with
    | none => simp [hfn] at h
    | some fn =>
      simp only [hfn] at h
      cases hbody : fn.body with
      | none => simp [hbody] at h
      | some code =>
        simp only [hbody] at h
        cases hcond : (Nat.ble args.length fn.ntmps && !(fn.name == "runtime.NumGoroutine")) with
        | false => simp [hcond] at h
        | true =>
          rw [hcond] at h
          simp only [cond_true] at h
          simp only [Bool.and_eq_true, Bool.not_eq_true'] at hcond
          obtain ⟨xs, hrun, hrv⟩ := hS ⟨fn, code, hfn, hbody, hcond.2⟩
          obtain ⟨b', a', he, hf'⟩ := enter_fr (P := P) hfn hbody hrv (Nat.le_of_ble_eq_true hcond.1)
          have hg := stepG_op (P := P) (b := b) (k := k) (cs := fs ++ cs0) (w := w) (rest := rest) ho hwant
          have henter : Go.step P (lone (b.at a c.fr.k) (fs ++ cs0) w) = .next (lone (b'.at a' [.code code]) (b.at a c.fr.k :: (fs ++ cs0)) w) := by
            rw [← he, hk]
            exact step_lone_go (by rw [hg]; simp [stepG.apply, hrun, Frame.at])
          obtain ⟨x', w'', frl, h1, h2, h3⟩ := hih _ h (by rw [← hb]; cases c.cs <;> rfl) σ F w b' a' (b.at a c.fr.k :: fs) cs0 g hF hw hf' ⟨⟨b, a, rfl, hf⟩, hfs⟩
          exact ⟨x', w'', frl, h1, .head henter h2, h3⟩

theorem skip_good {ih : Cfg → Prop} (hih : ∀ c, ih c → Good P base w0 F0 f0 ret c) {c : Cfg} {ops : Array Oper} {i : Nat} {rest : List Nat} {k : List Item} {o : Oper}
    (ho : ops[i]? = some o) (hk : c.fr.k = .inRegion ops (i :: rest) :: k) (h : stepSkip ih c o (.inRegion ops rest :: k))
    (hb : botFn c.fr c.cs = f0) {σ : Sig} {F : Fz} {w : World} {b : Frame} {a : Act} {fs cs0 : List Frame} (g : Gm base σ F c.h w) (hF : FExt base F0 F) (hw : Below base w0 w) (hf : Fr0 F σ c.fr b a) (hfs : FrsR F σ c.cs fs)
    (hwant : Region.wanted o (yielded ops a.tmps) = false) :
    ∃ x w' frl, Post base w0 F0 ret x w' ∧ Steps P (lone (b.at a c.fr.k) (fs ++ cs0) w) (lone frl cs0 w') ∧ frl.fn = f0 ∧ frl.leaving P w' (.returned x) := by
  unfold stepSkip at h
  cases hp : putD c.fr.t c.fr.nt o.dst (.kn undef) with
  | none => simp [hp] at h
  | some t =>
    simp only [hp] at h
    have hput := put_ok (x := undef) hp hf.size hf.tmps .kn
    obtain ⟨x', w'', frl, h1, h2, h3⟩ := hih _ h (by rw [← hb]; cases c.cs <;> rfl) σ F w b (a.put o.dst undef) fs cs0 g hF hw
      ⟨hf.fn, hf.kind, by rw [put_defers]; exact hf.defers, hput.1, hput.2⟩ hfs
    refine ⟨x', w'', frl, h1, .head ?_ h2, h3⟩
    rw [hk]
    have := step_op_skip (P := P) (b := b) (a := a) (k := k) (cs := fs ++ cs0) (w := w) (ops := ops) (i := i) (rest := rest) (by simp [ho, hwant])
    rw [ho] at this
    exact this

theorem setT_fr {F : Fz} {σ : Sig} {c : Cfg} {b : Frame} {a : Act} {d : Nat} {v : V} (hf : Fr0 F σ c.fr b a) (hv : RV F σ v (a.tmps.getD d undef)) : Fr0 F σ (setT c d v).fr b a := by
  refine ⟨hf.fn, hf.kind, hf.defers, hf.size, fun d' => ?_⟩
  show RV F σ (bif Nat.beq d d' then v else look c.fr.t d') _
  cases hb : Nat.beq d d' with
  | true => have := Nat.eq_of_beq_eq_true hb; subst this; exact hv
  | false => exact hf.tmps d'

theorem guard_good {con : FuncId → Option Spec} {ih : Cfg → Prop} (hcon : ∀ f s, con f = some s → SpecOK P f s) (hb0 : base ≤ w0.heap.size) (hih : ∀ c, ih c → Good P base w0 F0 f0 ret c) {c : Cfg} {ops : Array Oper} {i : Nat} {rest : List Nat} {k : List Item} {o : Oper}
    (ho : ops[i]? = some o) (hk : c.fr.k = .inRegion ops (i :: rest) :: k) (h : stepGuard P con ih c ops o (.inRegion ops rest :: k)) : Good P base w0 F0 f0 ret c := by
  intro hb σ F w b a fs cs0 g hF hw hf hfs
  unfold stepGuard at h
  cases hgd : o.guard with
  | none =>
    simp only [hgd] at h
    exact op_good hcon hb0 hih ho hk h hb g hF hw hf hfs (by simp [Region.wanted, hgd])
  | some jw =>
    obtain ⟨j, want⟩ := jw
    simp only [hgd] at h
    cases hd : (ops[j]?).bind (·.dst) with
    | none => simp [hd] at h
    | some d =>
      simp only [hd] at h
      split at h
      · rename_i t hl
        have hrv := hf.tmps d
        rw [hl] at hrv
        generalize hx : a.tmps.getD d undef = x at hrv
        cases hrv
        have hy : yielded ops a.tmps j = some t := by
          have : a.tmps[d]? = some (.bool t) := by
            rw [Array.getD_eq_getD_getElem?] at hx
            cases hq : a.tmps[d]? with
            | none => simp [hq, undef] at hx
            | some q => simpa [hq] using hx
          simp [yielded, hd, this]
        have hwant : Region.wanted o (yielded ops a.tmps) = (t == want) := by simp [Region.wanted, hgd, hy]
        have hset : ∀ {u : Bool}, u = t → Fr0 F σ (setT c d (.kn (.bool u))).fr b a := fun e => setT_fr hf (by rw [hx, e]; exact .kn)
        have hb' : ∀ {u : Bool}, botFn (setT c d (.kn (.bool u))).fr (setT c d (.kn (.bool u))).cs = f0 := by intro u; rw [← hb]; simp only [setT]; cases c.cs <;> rfl
        cases t with
        | true =>
          cases want with
          | true => exact op_good (c := setT c d (.kn (.bool true))) hcon hb0 hih ho hk h hb' g hF hw (hset rfl) hfs (by rw [hwant]; rfl)
          | false => exact skip_good (c := setT c d (.kn (.bool true))) hih ho hk h hb' g hF hw (hset rfl) hfs (by rw [hwant]; rfl)
        | false =>
          cases want with
          | true => exact skip_good (c := setT c d (.kn (.bool false))) hih ho hk h hb' g hF hw (hset rfl) hfs (by rw [hwant]; rfl)
          | false => exact op_good (c := setT c d (.kn (.bool false))) hcon hb0 hih ho hk h hb' g hF hw (hset rfl) hfs (by rw [hwant]; rfl)
      · rename_i t hl
        have hrv := hf.tmps d
        rw [hl] at hrv
        generalize hx : a.tmps.getD d undef = x at hrv
        cases hrv
        have hy : yielded ops a.tmps j = none := by
          rw [Array.getD_eq_getD_getElem?] at hx
          cases hq : a.tmps[d]? with
          | none => simp [yielded, hd, hq]
          | some q => simp only [hq, Option.getD_some] at hx; subst hx; simp [yielded, hd, hq]
        exact skip_good hih ho hk h hb g hF hw hf hfs (by simp [Region.wanted, hgd, hy])
      · exact h.elim

theorem step_good {con : FuncId → Option Spec} {hs : Hints} {good ih : Cfg → Prop} (hcon : ∀ f s, con f = some s → SpecOK P f s) (hb0 : base ≤ w0.heap.size) (hgood : ∀ c, good c → Good P base w0 F0 f0 ret c) (hih : ∀ c, ih c → Good P base w0 F0 f0 ret c)
    {c : Cfg} (h : astep P con hs good ret ih c) : Good P base w0 F0 f0 ret c := by
  unfold astep at h
  split at h
  · rename_i hk; exact ret_good hih h (.inl hk)
  · rename_i k hk; exact good_move (hih _ h) fun b a cs w => by rw [hk]; exact step_skip
  · rename_i x y k hk; exact good_move (hih _ h) fun b a cs w => by rw [hk]; exact step_seq
  · rename_i x y z k hk
    split at h
    · rename_i t ht
      intro hb σ F w b a fs cs0 g hF hw hf hfs
      have hx : a.eval x = .bool t := by
        have := ev_rel hf.tmps x
        rw [ht] at this
        generalize a.eval x = q at this
        cases this
        rfl
      have hbot : ∀ k', botFn (c.at k').fr (c.at k').cs = f0 := fun k' => by rw [← hb]; show botFn _ c.cs = _; cases c.cs <;> rfl
      cases t with
      | true =>
        obtain ⟨x', w', frl, h1, h2, h3⟩ := hih _ h (hbot _) σ F w b a fs cs0 g hF hw ⟨hf.fn, hf.kind, hf.defers, hf.size, hf.tmps⟩ hfs
        exact ⟨x', w', frl, h1, .head (by rw [hk]; exact step_cond hx) h2, h3⟩
      | false =>
        obtain ⟨x', w', frl, h1, h2, h3⟩ := hih _ h (hbot _) σ F w b a fs cs0 g hF hw ⟨hf.fn, hf.kind, hf.defers, hf.size, hf.tmps⟩ hfs
        exact ⟨x', w', frl, h1, .head (by rw [hk]; exact step_cond hx) h2, h3⟩
    · exact h.elim
  · rename_i id x k hk; exact good_move (hih _ h) fun b a cs w => by rw [hk]; exact step_block
  · rename_i x k hk; exact loop_good hgood hih (.inl hk) h
  · rename_i x k hk; exact loop_good hgood hih (.inr hk) h
  · rename_i id k hk
    split at h
    · rename_i k' hk'; exact good_move (hih _ h) fun b a cs w => by rw [hk]; exact step_exit hk'
    · exact h.elim
  · rename_i k hk; exact ret_good hih h (.inr ⟨k, hk⟩)
  · rename_i x k hk; exact good_move (hih _ h) fun b a cs w => by rw [hk]; exact step_scope
  · rename_i x k hk; exact good_move (hih _ h) fun b a cs w => by rw [hk]; exact step_inScope
  · rename_i x k hk; exact good_move (hih _ h) fun b a cs w => by rw [hk]; exact step_label
  · rename_i l k hk
    split at h
    · rename_i k' hk'; exact good_move (point_good hgood hih h) fun b a cs w => by rw [hk]; exact step_goto hk'
    · exact h.elim
  · rename_i id ops draw k hk
    cases draw with
    | true =>
      simp only [cond_true] at h
      cases hdk : drawOK ops with
      | false => rw [hdk] at h; exact h.elim
      | true => rw [hdk] at h; exact draw_good hcon hb0 hih hk hdk h
    | false => exact good_move (hih _ h) fun b a cs w => by rw [hk]; exact step_region
  · rename_i id k hk; exact good_move (hih _ h) fun b a cs w => by rw [hk]; exact step_inBlock
  · rename_i ops k hk; exact good_move (hih _ h) fun b a cs w => by rw [hk]; exact step_region_end
  · rename_i ops i rest k hk
    split at h
    · rename_i o ho; exact guard_good hcon hb0 hih ho hk h
    · exact h.elim
  · exact h.elim

/-- THE EXECUTOR IS SOUND. -/
theorem run_good {con : FuncId → Option Spec} {hs : Hints} (hcon : ∀ f s, con f = some s → SpecOK P f s) (hb0 : base ≤ w0.heap.size) (n : Nat) : ∀ {c : Cfg},
    arun P con hs (Good P base w0 F0 f0 ret) ret n c → Good P base w0 F0 f0 ret c := by
  induction n with
  | zero => intro c h; exact h.elim
  | succ n ih => intro c h; exact step_good hcon hb0 (fun _ h => h) (fun _ h => ih h) h

/-- A function's call, by its entry. -/
theorem calls_of_good {f : FuncId} {args : List V} {xs : Array Value} {σ : Sig} {F : Fz} {h : List O} {w : World} (hbod : Bod P f) (g : Gm base σ F h w) (hb0 : base ≤ w.heap.size) (hrv : RVs F σ args xs) {fn : Func} {c : Code} (hfn : P.funcs[f]? = some fn) (hc : fn.body = some c) (hle : args.length ≤ fn.ntmps)
    (hgood : Good P base w F f ret ⟨⟨f, fn.ntmps, args2 0 args, [.code c]⟩, [], h⟩) : Calls P f xs w fun e w' => ∃ x, e = .returned x ∧ Post base w F ret x w' := by
  intro cs
  obtain ⟨b, a, he, hf⟩ := enter_fr (P := P) hfn hc hrv hle
  obtain ⟨x, w', frl, h1, h2, h3, h4⟩ := hgood rfl σ F w b a [] cs g (FExt.refl _ _) (Below.refl _ _) hf trivial
  exact ⟨.returned x, w', frl, ⟨x, rfl, h1⟩, by rw [he]; exact h2, h3, h4⟩
end
end Go.Aw

/-
  Contracts: a function's call, by what the executor shows of its body.
-/
namespace Go.Aw
open Go Go.RowKit
set_option linter.unusedVariables false
set_option linter.unusedSimpArgs false

def Holds (F : Fz) (w : World) : Prop := ∀ b o, F b = some o → w.heap[b]? = some o

/-- A contract on values alone, kept. -/
def Con (P : Program) (f : FuncId) (G : PSpec) : Prop := Bod P f ∧
  ∀ (as : List V) (p : Prop) (r : V), G as = some (p, r) → p → ∀ (F : Fz) (w : World) (xs : Array Value), Holds F w → RVs F sig0 as xs →
    Calls P f xs w fun e w' => ∃ x, e = .returned x ∧ ∃ F', FExt w.heap.size F F' ∧ Holds F' w' ∧ RV F' sig0 r x ∧ Below w.heap.size w w'

open Classical in
/-- All that the run made, let be. -/
noncomputable def frz (F : Fz) (σ : Sig) (h : List O) (w : World) : Fz := fun b =>
  match F b with
  | some o => some o
  | none => if ∃ l, ob (getO h l) (σ l) = some b then w.heap[b]? else none

section
variable {P : Program} {base : Nat} {σ : Sig} {F : Fz} {h : List O} {w : World}

theorem frz_le (F : Fz) (σ : Sig) (h : List O) (w : World) : Fle F (frz F σ h w) := by
  intro b o e; simp [frz, e]

theorem frz_holds (g : Gm base σ F h w) : Holds (frz F σ h w) w := by
  intro b o e
  unfold frz at e
  cases hf : F b with
  | some o' => simp [hf] at e; subst e; exact g.fz b o' hf
  | none =>
    simp only [hf] at e
    split at e
    · exact e
    · cases e

theorem frz_ext (g : Gm base σ F h w) : FExt base F (frz F σ h w) := by
  refine ⟨frz_le _ _ _ _, fun b hb hb' => ?_⟩
  unfold frz at hb'
  simp only [hb] at hb'
  split at hb'
  · rename_i hl
    obtain ⟨l, hl⟩ := hl
    exact (g.own l b hl).1
  · exact (hb' rfl).elim

theorem frz_rd (g : Gm base σ F h w) (ls : List Nat) : Rd (frz F σ h w) σ (getO h) ls := by
  refine Rd.fzs g (frz_le _ _ _ _) fun l _ e s n f x hO hs => row_list' (frz_le _ _ _ _) g hO hs fun b hb => ?_
  have hnone := (g.own l b hb).2.2
  unfold frz
  simp only [hnone]
  rw [if_pos ⟨l, hb⟩]

theorem toPure_rv (g : Gm base σ F h w) {v r : V} {x : Value} (hp : toPure (getO h) v = some r) (hv : RV F σ v x) : RV (frz F σ h w) sig0 r x :=
  toPure_rv' (frz_le _ _ _ _) (frz_rd g _) hp hv

theorem scalar0_rv {F F' : Fz} {σ σ' : Sig} {v : V} {x : Value} (hs : v.scalar0 = true) (h : RV F σ v x) : RV F' σ' v x := by
  cases h <;> simp [V.scalar0] at hs
  exact .kn
theorem scalar1_rv {F F' : Fz} {σ σ' : Sig} {v : V} {x : Value} (hs : v.scalar1 = true) (h : RV F σ v x) : RV F' σ' v x := by
  cases v with
  | agg cs => cases h with | agg hl hh => exact .agg hl fun i u hu => scalar0_rv (List.all_eq_true.1 hs _ (List.mem_of_getElem? hu)) (hh i u hu)
  | _ => refine scalar0_rv ?_ h; exact hs
theorem scalar_rv {F F' : Fz} {σ σ' : Sig} {v : V} {x : Value} (hs : v.scalar = true) (h : RV F σ v x) : RV F' σ' v x := by
  cases v with
  | tup cs => cases h with | tup hl hh => exact .tup hl fun i u hu => scalar1_rv (List.all_eq_true.1 hs _ (List.mem_of_getElem? hu)) (hh i u hu)
  | _ => refine scalar1_rv ?_ h; exact hs

/-- What is pure reads the same whatever the run made. -/
theorem pure1_rv {F : Fz} {σ σ' : Sig} {v : V} {x : Value} (hp : v.pure1 = true) (h : RV F σ v x) : RV F σ' v x := by
  cases v with
  | agg cs => cases h with | agg hl hh => exact .agg hl fun i u hu => RV.pure0 (List.all_eq_true.1 hp _ (List.mem_of_getElem? hu)) (hh i u hu)
  | tup vs =>
    cases h with
    | @tup _ _ xs hl hh =>
      refine .tup hl fun i u hu => ?_
      have h2 := List.all_eq_true.1 hp _ (List.mem_of_getElem? hu)
      have h3 := hh i u hu
      generalize xs.getD i undef = y at h3 ⊢
      cases u with
      | agg cs => cases h3 with | agg hl' hh' => exact .agg hl' fun i u hu => RV.pure0 (List.all_eq_true.1 h2 _ (List.mem_of_getElem? hu)) (hh' i u hu)
      | _ => refine RV.pure0 ?_ h3; exact h2
  | _ => refine RV.pure0 ?_ h; exact hp

theorem pure0_ids {v : V} (h : v.pure0 = true) : v.ids0 = [] ∧ v.ids1 = [] := by
  cases v with
  | fn f cap => cases cap <;> simp_all [V.pure0, V.ids0, V.ids1]
  | _ => simp_all [V.pure0, V.ids0, V.ids1]
theorem pure2_ids {v : V} (h : (match v with | .agg cs => cs.all V.pure0 | v => v.pure0) = true) : v.ids2 = [] := by
  cases v with
  | agg cs =>
    simp only [V.ids2, List.flatMap_eq_nil_iff]
    intro c hc
    exact (pure0_ids (List.all_eq_true.1 h c hc)).2
  | _ => exact (pure0_ids h).2
theorem pure1_ids {v : V} (h : v.pure1 = true) : v.ids = [] := by
  cases v with
  | tup vs =>
    simp only [V.ids, List.flatMap_eq_nil_iff]
    intro c hc
    exact pure2_ids (List.all_eq_true.1 h c hc)
  | agg cs => exact pure2_ids (v := .agg cs) h
  | fn f cap => exact (pure0_ids (v := .fn f cap) h).2
  | kn x => rfl
  | list => rfl
  | rp => rfl
  | _ => cases h

/-- A contract on values serves a caller. -/
theorem lift_ok {f : FuncId} {G : PSpec} (hc : Con P f G) : SpecOK P f (lift G) := by
  refine ⟨hc.1, lift_local G, fun base σ F h w args xs p r u hs hp g hbase hrv => ?_⟩
  unfold lift at hs
  cases has : allSome (args.map (toPure (getO h))) with
  | none => simp [has] at hs
  | some as =>
    simp only [has] at hs
    cases hG : G as with
    | none => simp [hG] at hs
    | some pr =>
      obtain ⟨p', r'⟩ := pr
      simp only [hG] at hs
      simp only [Option.some.injEq, Prod.mk.injEq] at hs
      obtain ⟨rfl, rfl, rfl⟩ := hs
      obtain ⟨h1, h2⟩ := allSome_get has
      have hbel : ∀ {w' : World}, Below w.heap.size w w' → Gm base σ F h w' := fun hb => g.still hb.size hb.block
      cases hsc : r'.scalar with
      | true =>
        have hargs : RVs (frz F σ h w) sig0 as xs := ⟨by rw [← h1]; exact hrv.1, fun i v hv => by
          obtain ⟨c, hc', hcr⟩ := h2 i v hv
          exact toPure_rv g hcr (hrv.2 i c hc')⟩
        refine (hc.2 as p' r' hG hp (frz F σ h w) w xs (frz_holds g) hargs).mono ?_
        rintro e w' ⟨x, rfl, F', hF', hH', hr, hb⟩
        exact ⟨x, rfl, σ, F, hbel hb, scalar_rv hsc hr, Sle.refl _, FExt.refl _ _, hb.mono hbase⟩
      | false =>
        have key : ∀ {F1 : Fz} {h1' : List O}, FExt base F F1 → Gm base σ F1 h1' w → RVs F1 sig0 as xs → Calls P f xs w fun e w' => ∃ x, e = .returned x ∧ Aft base σ F w r' h1' x w' := by
          intro F1 h1' hF1 g1 hargs2
          refine (hc.2 as p' r' hG hp F1 w xs g1.fz hargs2).mono ?_
          rintro e w' ⟨x, rfl, F', hF', hH', hr, hb⟩
          refine ⟨x, rfl, σ, F', ?_, hr.mono (Fle.refl _) (fun l y e => by simp [sig0] at e), Sle.refl _, hF1.trans ⟨hF'.1, fun b h1 h2 => Nat.le_trans hbase (hF'.2 b h1 h2)⟩, hb.mono hbase⟩
          have g' : Gm base σ F1 h1' w' := g1.still hb.size hb.block
          refine ⟨fun l => (g'.obj l).congr hF'.1 (Sle.refl _) fun _ _ => rfl, fun l b e => ?_, g'.sep, hH'⟩
          have := g1.own l b e
          refine ⟨this.1, Nat.lt_of_lt_of_le this.2.1 hb.size, ?_⟩
          cases hq : F' b with
          | none => rfl
          | some o => have := hF'.2 b this.2.2 (by rw [hq]; simp); omega
        cases hall : args.all V.pure1 with
        | true =>
          exact key (FExt.refl _ _) g ⟨by rw [← h1]; exact hrv.1, fun i v hv => by
            obtain ⟨c, hc', hcr⟩ := h2 i v hv
            have hp1 := List.all_eq_true.1 hall _ (List.mem_of_getElem? hc')
            exact toPure_rv' (Fle.refl _) (by rw [pure1_ids hp1]; exact ⟨fun l hl => by simp at hl, fun l hl => by simp at hl⟩) hcr (hrv.2 i c hc')⟩
        | false =>
          obtain ⟨F1, hF1, g1, hR, _⟩ := g.freeze (args.flatMap V.ids)
          exact key hF1 g1 ⟨by rw [← h1]; exact hrv.1, fun i v hv => by
            obtain ⟨c, hc', hcr⟩ := h2 i v hv
            exact toPure_rv' hF1.1 (hR.sub fun l hl => List.mem_flatMap.2 ⟨c, List.mem_of_getElem? hc', hl⟩) hcr (hrv.2 i c hc')⟩

/-- A contract, by the executor. -/
theorem con_of_run {f : FuncId} {fn : Func} {c : Code} {con : FuncId → Option Spec} {hs : Hints} {G : PSpec} (n : Nat) (hfn : P.funcs[f]? = some fn) (hc : fn.body = some c) (hname : (fn.name == "runtime.NumGoroutine") = false)
    (hcon : ∀ f s, con f = some s → SpecOK P f s)
    (hrun : ∀ as p r, G as = some (p, r) → p → as.length ≤ fn.ntmps ∧ ∀ (good : Cfg → Prop), (∀ (base : Nat) (w : World) (F : Fz), base ≤ w.heap.size → good = Good P base w F f (RetO fun o => o = some r) → arun P con hs good (RetO fun o => o = some r) n (entry P f as))) : Con P f G := by
  refine ⟨⟨fn, c, hfn, hc, hname⟩, fun as p r hG hp F w xs hH hrv => ?_⟩
  obtain ⟨hle, hr⟩ := hrun as p r hG hp
  have g0 : Gm w.heap.size sig0 F [] w := ⟨(fun l => rfl), (fun l b e => by cases e), (fun l l' b e => by cases e), hH⟩
  have hgood := run_good (F0 := F) (f0 := f) (ret := RetO fun o => o = some r) hcon (Nat.le_refl w.heap.size) n (hr _ w.heap.size w F (Nat.le_refl _) rfl)
  have he : entry P f as = ⟨⟨f, fn.ntmps, args2 0 as, [.code c]⟩, [], []⟩ := by simp [entry, hfn, hc]
  rw [he] at hgood
  refine (calls_of_good ⟨fn, c, hfn, hc, hname⟩ g0 (Nat.le_refl _) hrv hfn hc hle hgood).mono ?_
  rintro e w' ⟨x, rfl, v, h', σ', F', hret, g', hv, hF, hb⟩
  have hx := frz_ext g'
  exact ⟨x, rfl, frz F' σ' h' w', hF.trans hx, frz_holds g', toPure_rv g' hret hv, hb⟩

theorem conOf_ok : ∀ {l : List (FuncId × Spec)}, (∀ f s, (f, s) ∈ l → SpecOK P f s) → ∀ f s, conOf l f = some s → SpecOK P f s
  | [], _, f, s, e => by simp [conOf] at e
  | (g, t) :: r, h, f, s, e => by
    simp only [conOf] at e
    cases hb : Nat.beq g f with
    | true =>
      rw [hb] at e
      simp only [cond_true, Option.some.injEq] at e
      subst e
      rw [← Nat.eq_of_beq_eq_true hb]
      exact h g t (by simp)
    | false =>
      rw [hb] at e
      exact conOf_ok (fun f s hm => h f s (by simp [hm])) f s e

theorem conNil : ∀ f s, conOf [] f = some s → SpecOK P f s := fun f s e => by simp [conOf] at e
theorem conCons {l : List (FuncId × Spec)} {g : FuncId} {G : PSpec} (h : Con P g G) (hl : ∀ f s, conOf l f = some s → SpecOK P f s) : ∀ f s, conOf ((g, lift G) :: l) f = some s → SpecOK P f s := by
  intro f s e
  simp only [conOf] at e
  cases hb : Nat.beq g f with
  | true =>
    rw [hb] at e
    simp only [cond_true, Option.some.injEq] at e
    subst e
    rw [← Nat.eq_of_beq_eq_true hb]
    exact lift_ok h
  | false => rw [hb] at e; exact hl f s e
end
end Go.Aw

/-
  The arguments of a statement, read as data, are values that the executor knows.
-/
namespace Go.Aw
open Go Go.RowKit
set_option linter.unusedVariables false
set_option linter.unusedSimpArgs false

/-- The shape of a cell. -/
inductive CS where
  | int (k : IntKind)
  | bool
  | str
  | sl (e : List CS)

def whole (w : World) : Fz := fun b => w.heap[b]?

/-- A value of a shape. -/
inductive VOK : CS → V → Prop
  | int {k : IntKind} {n : Int} (h : (Lit.int k n).wf = true) : VOK (.int k) (.kn (.int k n))
  | bool {b : Bool} : VOK .bool (.kn (.bool b))
  | str {s : ByteArray} (h : s.size ≤ maxLen) : VOK .str (.kn (.string s))
  | sl {e : List CS} {n : Nat} {f : Nat → List V} (hn : n ≤ maxLen) (hl : ∀ i, i < n → (f i).length = e.length) (h : ∀ (i j : Nat) (c : CS) (v : V), i < n → e[j]? = some c → (f i)[j]? = some v → VOK c v) : VOK (.sl e) (.list e.length n f)

def shapeFs (P : Program) (sh : TypeId → Option (List CS)) : List Field → List CS → Option (List CS)
  | [], acc => some acc
  | f :: r, acc => match sh f.type with
    | some s => bif Nat.beq f.offset acc.length && Nat.beq s.length (P.cellsOf f.type) then shapeFs P sh r (acc ++ s) else none
    | none => none

def shapes (P : Program) : Nat → TypeId → Option (List CS)
  | 0, _ => none
  | k + 1, t => match P.underlying t with
    | some .bool => some [.bool]
    | some (.int i) => some [.int i]
    | some .string => some [.str]
    | some (.slice e) => match shapes P k e with
      | some ss => bif Nat.beq ss.length (P.cellsOf e) && Nat.blt 0 ss.length then some [.sl ss] else none
      | none => none
    | some (.struct fs) => match shapeFs P (shapes P k) fs.toList [] with
      | some ss => bif Nat.beq ss.length (P.cellsOf t) then some ss else none
      | none => none
    | _ => none

def Kn (w : World) (ss : List CS) (vs : List V) (cs : List Value) : Prop :=
  vs.length = ss.length ∧ cs.length = ss.length ∧ (∀ (i : Nat) (c : CS) (v : V), ss[i]? = some c → vs[i]? = some v → VOK c v) ∧
    ∀ (i : Nat) (v : V), vs[i]? = some v → ∃ x, cs[i]? = some x ∧ RV (whole w) sig0 v x ∧ x.oneCell' = true

theorem Kn.one {w : World} {c : CS} {v : V} {x : Value} (h1 : VOK c v) (h2 : RV (whole w) sig0 v x) (h3 : x.oneCell' = true) : Kn w [c] [v] [x] := by
  refine ⟨rfl, rfl, fun i c' v' hc hv => ?_, fun i v' hv => ?_⟩
  · cases i with
    | zero => simp at hc hv; subst hc hv; exact h1
    | succ i => simp at hc
  · cases i with
    | zero => simp at hv; subst hv; exact ⟨x, rfl, h2, h3⟩
    | succ i => simp at hv

theorem Kn.append {w : World} {s1 s2 : List CS} {v1 v2 : List V} {c1 c2 : List Value} (h : Kn w s1 v1 c1) (k : Kn w s2 v2 c2) : Kn w (s1 ++ s2) (v1 ++ v2) (c1 ++ c2) := by
  obtain ⟨h1, h2, h3, h4⟩ := h
  obtain ⟨k1, k2, k3, k4⟩ := k
  refine ⟨by simp [h1, k1], by simp [h2, k2], fun i c v hc hv => ?_, fun i v hv => ?_⟩
  · by_cases hi : i < s1.length
    · rw [List.getElem?_append_left hi] at hc
      rw [List.getElem?_append_left (by omega)] at hv
      exact h3 i c v hc hv
    · rw [List.getElem?_append_right (by omega)] at hc
      rw [List.getElem?_append_right (by omega), h1] at hv
      exact k3 _ c v hc hv
  · by_cases hi : i < s1.length
    · rw [List.getElem?_append_left (by omega)] at hv
      obtain ⟨x, hx, r⟩ := h4 i v hv
      exact ⟨x, by rw [List.getElem?_append_left (by omega)]; exact hx, r⟩
    · rw [List.getElem?_append_right (by omega), h1] at hv
      obtain ⟨x, hx, r⟩ := k4 _ v hv
      exact ⟨x, by rw [List.getElem?_append_right (by omega), h2]; exact hx, r⟩

theorem mapM_get {α β : Type} {f : α → Option β} : ∀ {l : List α} {r : List β}, l.mapM f = some r → l.length = r.length ∧ ∀ (i : Nat) (a : α), l[i]? = some a → ∃ b, r[i]? = some b ∧ f a = some b
  | [], r, h => by simp at h; subst h; simp
  | a :: l, r, h => by
    simp only [List.mapM_cons, Option.bind_eq_bind, Option.bind_eq_some_iff, Option.pure_def, Option.some.injEq] at h
    obtain ⟨b, hb, bs, hbs, rfl⟩ := h
    obtain ⟨h1, h2⟩ := mapM_get hbs
    refine ⟨by simp [h1], fun i x hx => ?_⟩
    cases i with
    | zero => simp at hx; subst hx; exact ⟨b, rfl, hb⟩
    | succ i => simpa using h2 i x (by simpa using hx)

theorem cells_whole {w : World} {a : Addr} {n : Nat} {cs : List Value} {base : Nat} (h : w.cells? base a n = some cs) : cs.length = n ∧ ∀ j x, cs[j]? = some x → w.cell? (a.add j) = some x := by
  unfold World.cells? at h
  split at h
  · obtain ⟨h1, h2⟩ := mapM_get h
    refine ⟨by simpa using h1.symm, fun j x hx => ?_⟩
    have hj : j < n := by have := (List.getElem?_eq_some_iff.1 hx).1; simp at h1; omega
    obtain ⟨y, hy, hc⟩ := h2 j j (by simp [hj])
    rw [hx] at hy
    cases hy
    exact hc
  · cases h

theorem cellF_whole {w : World} {b o : Nat} {x : Value} (h : w.cell? ⟨b, o, none⟩ = some x) : cellF (whole w) b o = some x := by
  unfold World.cell? at h
  unfold cellF whole
  split at h
  · rename_i hh; simp only at hh; simpa [hh] using h
  · cases h

theorem fields_kn {P : Program} {w : World} {sh : TypeId → Option (List CS)} {cs : List Value} (go : TypeId → List Value → Prop) (hgo : ∀ t cs ss, go t cs → sh t = some ss → ∃ vs, Kn w ss vs cs) : ∀ (fs : List Field) (acc ss : List CS) (vs : List V),
    (∀ f ∈ fs, go f.type ((cs.drop f.offset).take (P.cellsOf f.type))) → shapeFs P sh fs acc = some ss → Kn w acc vs (cs.take acc.length) → ss.length ≤ cs.length → ∃ vs, Kn w ss vs (cs.take ss.length)
  | [], acc, ss, vs, _, hs, hk, _ => by simp [shapeFs] at hs; subst hs; exact ⟨vs, hk⟩
  | f :: r, acc, ss, vs, hg, hs, hk, hle => by
    simp only [shapeFs] at hs
    cases hsf : sh f.type with
    | none => simp [hsf] at hs
    | some s =>
      simp only [hsf] at hs
      cases hb : (Nat.beq f.offset acc.length && Nat.beq s.length (P.cellsOf f.type)) with
      | false => simp [hb] at hs
      | true =>
        rw [hb] at hs
        simp only [cond_true] at hs
        simp only [Bool.and_eq_true] at hb
        have e1 := Nat.eq_of_beq_eq_true hb.1
        have e2 := Nat.eq_of_beq_eq_true hb.2
        obtain ⟨vf, hvf⟩ := hgo _ _ _ (hg f (by simp)) hsf
        have hk2 := hk.append hvf
        have e3 : cs.take acc.length ++ (cs.drop f.offset).take (P.cellsOf f.type) = cs.take (acc ++ s).length := by
          rw [e1, ← e2, List.length_append, List.take_add]
        rw [e3] at hk2
        exact fields_kn go hgo r (acc ++ s) ss _ (fun g hg' => hg g (by simp [hg'])) hs hk2 hle

theorem trod_kn {H : Type} {enc : TypeId × Value → H} {P : Program} {w : World} {base : Nat} {spare : Nat → Bool} {held : Bool} : ∀ (fuel : Nat) (k : Nat) (t : TypeId) (cs : List Value) (x : DataW H × List MemPlace) (ss : List CS),
    DataW.trod enc P w base spare held fuel t cs = some x → shapes P k t = some ss → ∃ vs, Kn w ss vs cs := by
  intro fuel
  induction fuel with
  | zero => intro k t cs x ss h; simp [DataW.trod] at h
  | succ fuel ih =>
    intro k t cs x ss h hs
    cases k with
    | zero => simp [shapes] at hs
    | succ k =>
      simp only [shapes] at hs
      have nil : ∀ {se : List CS}, Kn w [.sl se] [.list se.length 0 fun _ => []] [.slice none 0 0] := Kn.one (.sl (Nat.zero_le _) (fun i hi => by omega) fun i j c v hi => by omega) (.list0 rfl) rfl
      cases hu : P.underlying t with
      | none => simp [hu] at hs
      | some d =>
        cases d with
        | bool =>
          simp only [hu, Option.some.injEq] at hs
          subst hs
          unfold DataW.trod at h
          simp only [hu] at h
          split at h <;> first | (cases h; done) | skip
          all_goals first
            | exact ⟨[_], Kn.one .bool .kn rfl⟩
            | (rename_i hh; simp at hh)
            | (rename_i hh _; simp at hh)
            | simp_all
        | int i =>
          simp only [hu, Option.some.injEq] at hs
          subst hs
          unfold DataW.trod at h
          simp only [hu] at h
          match cs, h with
          | [.int k' n], h =>
            simp only at h
            split at h
            · rename_i hk
              obtain ⟨rfl, hw⟩ := hk
              exact ⟨[_], Kn.one (.int hw) .kn rfl⟩
            · cases h
        | string =>
          simp only [hu, Option.some.injEq] at hs
          subst hs
          unfold DataW.trod at h
          simp only [hu] at h
          match cs, h with
          | [.string s], h =>
            simp only at h
            split at h
            · rename_i hk; exact ⟨[_], Kn.one (.str hk) .kn rfl⟩
            · cases h
        | slice e =>
          simp only [hu] at hs
          cases hse : shapes P k e with
          | none => simp [hse] at hs
          | some se =>
            simp only [hse] at hs
            cases hb : (Nat.beq se.length (P.cellsOf e) && Nat.blt 0 se.length) with
            | false => simp [hb] at hs
            | true =>
              rw [hb] at hs
              simp only [cond_true, Option.some.injEq] at hs
              subst hs
              simp only [Bool.and_eq_true, Nat.blt_eq] at hb
              have hsz : se.length = P.cellsOf e := Nat.eq_of_beq_eq_true hb.1
              unfold DataW.trod at h
              simp only [hu] at h
              match cs, h with
              | [.slice none 0 0], h => exact ⟨_, nil⟩
              | [.slice (some a) len cap], h =>
                simp only at h
                split at h
                · rename_i hc
                  simp only [Option.bind_eq_some_iff] at h
                  obtain ⟨elems, hel, _⟩ := h
                  obtain ⟨hl1, hl2⟩ := mapM_get hel
                  by_cases hlen : len = 0
                  · subst hlen
                    exact ⟨[.list se.length 0 fun _ => []], Kn.one (.sl (Nat.zero_le _) (fun i hi => by omega) fun i j c v hi => by omega) (.list0 rfl) rfl⟩
                  · have hall : ∀ i : Nat, ∃ p : List Value × List V, i < len → w.cells? base (a.add (i * P.cellsOf e)) (P.cellsOf e) = some p.1 ∧ Kn w se p.2 p.1 := by
                      intro i
                      by_cases hi : i < len
                      · obtain ⟨y, _, hy⟩ := hl2 i i (by simp [hi])
                        simp only [Option.bind_eq_some_iff] at hy
                        obtain ⟨ci, hci, hti⟩ := hy
                        obtain ⟨vi, hvi⟩ := ih k e ci y se hti hse
                        exact ⟨(ci, vi), fun _ => ⟨hci, hvi⟩⟩
                      · exact ⟨([], []), fun hh => (hi hh).elim⟩
                    obtain ⟨p, hp⟩ := Classical.axiomOfChoice hall
                    have hcell : ∀ i j, i < len → j < se.length → w.cell? ((a.add (i * se.length)).add j) = some ((p i).1.getD j undef) := by
                      intro i j hi hj
                      obtain ⟨h1, h2⟩ := hp i hi
                      obtain ⟨h3, h4⟩ := cells_whole h1
                      have hlt : j < (p i).1.length := by rw [h3, ← hsz]; exact hj
                      have := h4 j (p i).1[j] (by simp [hlt])
                      rw [hsz, this]
                      simp [List.getD, hlt]
                    have hsp : a.spot = none := by
                      have := hcell 0 0 (by omega) hb.2
                      simp only [Nat.zero_mul, Addr.add, if_true] at this
                      unfold World.cell? at this
                      split at this
                      · split at this
                        · cases this
                        · rename_i hh; simpa using hh
                      · cases this
                    obtain ⟨b, o, sp⟩ := a
                    simp only at hsp
                    subst hsp
                    refine ⟨[.list se.length len fun i => (p i).2], Kn.one (.sl (by omega) (fun i hi => (hp i hi).2.1) fun i j c v hi hc' hv => (hp i hi).2.2.2.1 j c v hc' hv) (.list (fun i j => (p i).1.getD j undef) hc.2.1 (fun i hi => (hp i hi).2.1) (fun i j hi hj => ?_) (fun i j hi hj => ?_) fun i j u hi hu' => ?_) rfl⟩
                    · have := hcell i j hi hj
                      rw [add_none, add_none] at this
                      exact cellF_whole this
                    · have hk := (hp i hi).2
                      have hlt : j < (p i).2.length := by rw [hk.1]; exact hj
                      obtain ⟨y, hy, _, h1⟩ := hk.2.2.2 j (p i).2[j] (by simp [hlt])
                      simpa [List.getD, hy] using h1
                    · obtain ⟨y, hy, h2, _⟩ := (hp i hi).2.2.2.2 j u hu'
                      simpa [List.getD, hy] using h2
                · cases h
        | struct fs =>
          simp only [hu] at hs
          cases hsf : shapeFs P (shapes P k) fs.toList [] with
          | none => simp [hsf] at hs
          | some ss' =>
            simp only [hsf] at hs
            cases hb : Nat.beq ss'.length (P.cellsOf t) with
            | false => simp [hb] at hs
            | true =>
              rw [hb] at hs
              simp only [cond_true, Option.some.injEq] at hs
              subst hs
              have hsz := Nat.eq_of_beq_eq_true hb
              unfold DataW.trod at h
              simp only [hu] at h
              split at h
              · rename_i hlen
                simp only [Option.map_eq_some_iff] at h
                obtain ⟨xs, hxs, _⟩ := h
                obtain ⟨_, hx2⟩ := mapM_get hxs
                obtain ⟨vs, hvs⟩ := fields_kn (P := P) (w := w) (sh := shapes P k) (cs := cs) (fun t cs => ∃ x, DataW.trod enc P w base spare held fuel t cs = some x) (fun t cs ss hg hs => hg.elim fun x hx => ih k t cs x ss hx hs) fs.toList [] ss' [] (fun f hf => by
                  obtain ⟨i, hi, rfl⟩ := List.getElem_of_mem hf
                  obtain ⟨b, _, hb⟩ := hx2 i fs.toList[i] (by simp)
                  exact ⟨b, hb⟩) hsf ⟨rfl, rfl, fun i c v hc => by simp at hc, fun i v hv => by simp at hv⟩ (by omega)
                rw [List.take_of_length_le (by omega)] at hvs
                exact ⟨vs, hvs⟩
              · cases h
        | _ => simp [hu] at hs

section
variable {H : Type} {enc : TypeId × Value → H} {P : Program} {w : World} {base : Nat} {spare : Nat → Bool} {held : Bool} {t : TypeId} {v : Value} {d : DataW H} {ps : List MemPlace}

theorem arg_leaf (k : Nat) {c : CS} (h : DataW.Trod enc P w base spare held t v d ps) (hs : shapes P k t = some [c]) (h1 : v.oneCell' = true) : ∃ u, VOK c u ∧ RV (whole w) sig0 u v := by
  obtain ⟨fuel, hf⟩ := h
  obtain ⟨vs, hl, _, hv, hr⟩ := trod_kn fuel k t _ _ _ hf hs
  match vs, hl with
  | [u], _ =>
    have hc : v.cells = #[v] := by cases v <;> simp_all [Value.cells, Value.oneCell']
    obtain ⟨x, hx, hrx, _⟩ := hr 0 u rfl
    rw [hc] at hx
    simp at hx
    subst hx
    exact ⟨u, hv 0 c u rfl rfl, hrx⟩

theorem arg_struct (k : Nat) {ss : List CS} {cs : Array Value} (h : DataW.Trod enc P w base spare held t (.agg cs) d ps) (hs : shapes P k t = some ss) :
    ∃ us : List V, us.length = ss.length ∧ (∀ (i : Nat) (c : CS) (u : V), ss[i]? = some c → us[i]? = some u → VOK c u) ∧ RV (whole w) sig0 (.agg us) (.agg cs) := by
  obtain ⟨fuel, hf⟩ := h
  obtain ⟨vs, hl, hl2, hv, hr⟩ := trod_kn fuel k t _ _ _ hf hs
  refine ⟨vs, hl, hv, .agg (by simp [Value.cells] at hl2; omega) fun i u hu => ?_⟩
  obtain ⟨x, hx, hrx, _⟩ := hr i u hu
  have : cs.getD i undef = x := by
    have : cs[i]? = some x := by simpa [Value.cells] using hx
    simp [Array.getD_eq_getD_getElem?, this]
  rw [this]
  exact hrx

theorem one_of_int {k : IntKind} (hu : P.underlying t = some (.int k)) {r : Reach} (h : Value.okWide P w r base t v) : v.oneCell' = true := by
  obtain ⟨n, rfl⟩ := WideShapes.okWide_int hu h; rfl
theorem one_of_slice {e : TypeId} (hu : P.underlying t = some (.slice e)) {r : Reach} (h : Value.okWide P w r base t v) : v.oneCell' = true := by
  obtain ⟨a, l, c, rfl⟩ := WideShapes.okWide_slice hu h; rfl
theorem one_of_bool (hu : P.underlying t = some .bool) {r : Reach} (h : Value.okWide P w r base t v) : v.oneCell' = true := by
  unfold Value.okWide at h
  simp only [hu] at h
  cases v <;> simp_all [Value.oneCell', Cell.okWide, Cell.ok]
theorem one_of_string (hu : P.underlying t = some .string) {r : Reach} (h : Value.okWide P w r base t v) : v.oneCell' = true := by
  unfold Value.okWide at h
  simp only [hu] at h
  cases v <;> simp_all [Value.oneCell', Cell.okWide, Cell.ok]
theorem agg_of_struct {fs : Array Field} (hu : P.underlying t = some (.struct fs)) {r : Reach} (h : Value.okWide P w r base t v) : ∃ cs, v = .agg cs := by
  unfold Value.okWide at h
  simp only [hu] at h
  obtain ⟨cs, h, _⟩ := h
  exact ⟨cs, h⟩
end

theorem RVs.nil (F : Fz) (σ : Sig) : RVs F σ [] #[] := ⟨rfl, fun i v h => by simp at h⟩
theorem RVs.mk {F : Fz} {σ : Sig} : ∀ {vs : List V} {xs : List Value}, vs.length = xs.length → (∀ (i : Nat) (v : V) (x : Value), vs[i]? = some v → xs[i]? = some x → RV F σ v x) → RVs F σ vs xs.toArray := by
  intro vs xs hl h
  refine ⟨by simpa using hl, fun i v hv => ?_⟩
  have hi : i < xs.length := by rw [← hl]; exact (List.getElem?_eq_some_iff.1 hv).1
  have := h i v xs[i] hv (by simp [hi])
  simpa [Array.getD_eq_getD_getElem?, hi] using this
def RVl (F : Fz) : List V → List Value → Prop
  | [], [] => True
  | v :: vs, x :: xs => RV F sig0 v x ∧ RVl F vs xs
  | _, _ => False
theorem RVl.rvs {F : Fz} : ∀ {vs : List V} {xs : List Value}, RVl F vs xs → vs.length = xs.length ∧ ∀ (i : Nat) (v : V) (x : Value), vs[i]? = some v → xs[i]? = some x → RV F sig0 v x
  | [], [], _ => ⟨rfl, fun i v x h => by simp at h⟩
  | v :: vs, x :: xs, ⟨h, r⟩ => by
    obtain ⟨h1, h2⟩ := RVl.rvs r
    refine ⟨by simp [h1], fun i u y hu hy => ?_⟩
    cases i with
    | zero => simp at hu hy; subst hu hy; exact h
    | succ i => exact h2 i u y (by simpa using hu) (by simpa using hy)
  | [], _ :: _, h => h.elim
  | _ :: _, [], h => h.elim

/-- A law's call: it returns true, and nothing that was there has turned. -/
theorem law_calls {P : Program} {f : FuncId} {fn : Func} {c : Code} {con : FuncId → Option Spec} {hs : Hints} (n : Nat) (hfn : P.funcs[f]? = some fn) (hc : fn.body = some c) (hname : (fn.name == "runtime.NumGoroutine") = false)
    (hcon : ∀ f s, con f = some s → SpecOK P f s) {args : List V} {xs : List Value} {w : World} (hrv : RVl (whole w) args xs) (hle : args.length ≤ fn.ntmps)
    (hrun : ∀ (good : Cfg → Prop), (∀ c, good c → Good P w.heap.size w (whole w) f (RetO fun o => o = some (.kn (.bool true))) c) → (∀ c, Good P w.heap.size w (whole w) f (RetO fun o => o = some (.kn (.bool true))) c → good c) → arun P con hs good (RetO fun o => o = some (.kn (.bool true))) n (entry P f args)) :
    Calls P f xs.toArray w fun e w' => e = .returned (.bool true) ∧ Below w.heap.size w w' := by
  have g0 : Gm w.heap.size sig0 (whole w) [] w := ⟨(fun l => rfl), (fun l b e => by cases e), (fun l l' b e => by cases e), fun b o e => e⟩
  have hrvs : RVs (whole w) sig0 args xs.toArray := RVs.mk hrv.rvs.1 hrv.rvs.2
  have hgood := run_good (F0 := whole w) (f0 := f) (ret := RetO fun o => o = some (.kn (.bool true))) hcon (Nat.le_refl w.heap.size) n (hrun _ (fun _ h => h) (fun _ h => h))
  have he : entry P f args = ⟨⟨f, fn.ntmps, args2 0 args, [.code c]⟩, [], []⟩ := by simp [entry, hfn, hc]
  rw [he] at hgood
  refine (calls_of_good ⟨fn, c, hfn, hc, hname⟩ g0 (Nat.le_refl _) hrvs hfn hc hle hgood).mono ?_
  rintro e w' ⟨x, rfl, v, h', σ', F', hret, g', hv, hF, hb⟩
  refine ⟨?_, hb⟩
  have := toPure_rv g' hret hv
  cases this
  rfl

/-- A slice's reading may be told by another function. -/
theorem list_ext {F : Fz} {σ : Sig} {s n : Nat} {f g : Nat → List V} {x : Value} (h : RV F σ (.list s n f) x) (he : ∀ i, i < n → f i = g i) : RV F σ (.list s n g) x := by
  cases h with
  | list0 hn => exact .list0 hn
  | list gg a b c d e => exact .list gg a (fun i hi => by rw [← he i hi]; exact b i hi) c d fun i j v hi hv => e i j v hi (by rw [he i hi]; exact hv)

/-- Elements that are all of a make: a list of what they are made of. -/
theorem exists_list {α : Type} (toV : α → List V) (dflt : α) {n : Nat} {f : Nat → List V} (h : ∀ i, i < n → ∃ a, f i = toV a) : ∃ xs : List α, xs.length = n ∧ ∀ i, i < n → f i = toV (xs.getD i dflt) := by
  have h2 : ∀ i : Nat, ∃ a, i < n → f i = toV a := fun i => by
    by_cases hi : i < n
    · obtain ⟨a, ha⟩ := h i hi; exact ⟨a, fun _ => ha⟩
    · exact ⟨dflt, fun hh => (hi hh).elim⟩
  obtain ⟨g, hg⟩ := Classical.axiomOfChoice h2
  refine ⟨(List.range n).map g, by simp, fun i hi => ?_⟩
  rw [hg i hi]
  simp [List.getD, hi]
end Go.Aw

/-
  Lists of structs, as the executor knows them and as plain lists.
-/
namespace Go.Aw
open Go Go.RowKit
set_option linter.unusedVariables false
set_option linter.unusedSimpArgs false

/-- A plain type, and its cells. -/
structure Enc (α : Type) where
  s : Nat
  toV : α → List V
  ofV : List V → α
  dflt : α
  inv : ∀ a, ofV (toV a) = a
  len : ∀ a, (toV a).length = s

variable {α : Type}

def Enc.ok (E : Enc α) (c : List V) : Prop := E.toV (E.ofV c) = c
def Enc.dl (E : Enc α) (n : Nat) (f : Nat → List V) : List α := (List.range n).map fun i => E.ofV (f i)
/-- The elements that a slice reads as, all of them of the type. -/
def Enc.oks (E : Enc α) (n : Nat) (f : Nat → List V) : Prop := n ≤ maxLen ∧ ∀ i, i < n → E.ok (f i)
def Enc.at (E : Enc α) (xs : List α) (i : Nat) : List V := E.toV (xs.getD i E.dflt)

theorem Enc.ok_toV (E : Enc α) (a : α) : E.ok (E.toV a) := by unfold Enc.ok; rw [E.inv]
theorem Enc.dl_length (E : Enc α) (n : Nat) (f : Nat → List V) : (E.dl n f).length = n := by simp [Enc.dl]
theorem Enc.dl_get (E : Enc α) {n : Nat} {f : Nat → List V} {i : Nat} (hi : i < n) : (E.dl n f).getD i E.dflt = E.ofV (f i) := by simp [Enc.dl, List.getD, hi]
theorem Enc.dl_at (E : Enc α) {n : Nat} {f : Nat → List V} (h : E.oks n f) {i : Nat} (hi : i < n) : E.at (E.dl n f) i = f i := by
  unfold Enc.at; rw [E.dl_get hi]; exact h.2 i hi
theorem Enc.dl_ext (E : Enc α) {n : Nat} {f : Nat → List V} {xs : List α} (hn : n = xs.length) (h : ∀ i, i < n → f i = E.at xs i) : E.dl n f = xs := by
  subst hn
  apply List.ext_getElem?
  intro i
  by_cases hi : i < xs.length
  · simp only [Enc.dl, List.getElem?_map, List.getElem?_range hi, Option.map_some, h i hi, Enc.at, E.inv]
    simp [List.getD, hi]
  · simp [Enc.dl, List.getElem?_eq_none (Nat.le_of_not_lt hi)]
    omega
theorem Enc.dl_id (E : Enc α) (xs : List α) : E.dl xs.length (fun i => E.toV (xs.getD i E.dflt)) = xs := E.dl_ext rfl fun _ _ => rfl
theorem Enc.oks_at (E : Enc α) {n : Nat} {f : Nat → List V} {xs : List α} (hn : n = xs.length) (hm : n ≤ maxLen) (h : ∀ i, i < n → f i = E.at xs i) : E.oks n f :=
  ⟨hm, fun i hi => by rw [h i hi]; exact E.ok_toV _⟩

/-- What appends make. -/
theorem Enc.at_append (E : Enc α) (xs ys : List α) (g : Nat → List V) {n m : Nat} (hn : n = xs.length) (hm : m = ys.length) (hg : ∀ i, i < m → g i = E.at ys i) (f : Nat → List V) (hf : ∀ i, i < n → f i = E.at xs i) :
    ∀ i, i < n + m → (bif Nat.blt i n then f i else g (i - n)) = E.at (xs ++ ys) i := by
  subst hn hm
  intro i hi
  unfold Enc.at
  cases hb : Nat.blt i xs.length with
  | true =>
    have : i < xs.length := by simpa [Nat.blt_eq] using hb
    simp only [cond_true]
    rw [hf i this]
    simp [Enc.at, List.getD, List.getElem?_append_left this]
  | false =>
    have : ¬ i < xs.length := fun hh => by have h3 : Nat.blt i xs.length = true := (by simpa [Nat.blt_eq] using hh); rw [h3] at hb; cases hb
    simp only [cond_false]
    rw [hg _ (by omega)]
    simp [Enc.at, List.getD, List.getElem?_append_right (Nat.le_of_not_lt this)]

theorem Enc.at_one (E : Enc α) (a : α) (hs : 0 < E.s) : ∀ i, i < 1 → rowF (E.toV a) E.s i = E.at [a] i := by
  intro i hi
  have : i = 0 := by omega
  subst this
  simp [rowF, Enc.at, List.getD]
  rw [List.take_of_length_le (by rw [E.len]; exact Nat.le_refl _)]

/-- A list, as a slice reads. -/
def Enc.tl (E : Enc α) (xs : List α) (i : Nat) : List V := E.toV (xs.getD i E.dflt)
/-- A slice's reading is a list's. -/
def Enc.is (E : Enc α) (n : Nat) (f : Nat → List V) (xs : List α) : Prop := n = xs.length ∧ ∀ i, i < n → f i = E.tl xs i
theorem Enc.is_tl (E : Enc α) (xs : List α) : E.is xs.length (E.tl xs) xs := ⟨rfl, fun _ _ => rfl⟩
theorem Enc.is_nil (E : Enc α) (f : Nat → List V) : E.is 0 f [] := ⟨rfl, fun i hi => by omega⟩
theorem Enc.is_one (E : Enc α) {f : Nat → List V} (a : α) (h : f 0 = E.toV a) : E.is 1 f [a] := ⟨rfl, fun i hi => by
  have : i = 0 := by omega
  subst this
  exact h⟩
theorem Enc.is_app (E : Enc α) {n m : Nat} {f g : Nat → List V} {xs ys : List α} (h : E.is n f xs) (k : E.is m g ys) : E.is (n + m) (catF n f g) (xs ++ ys) :=
  ⟨by rw [h.1, k.1]; simp, E.at_append xs ys g h.1 k.1 k.2 f h.2⟩
theorem Enc.is_app0 (E : Enc α) {m : Nat} {f g : Nat → List V} {ys : List α} (k : E.is m g ys) : E.is (0 + m) (catF 0 f g) ys := by
  have := E.is_app (E.is_nil f) k
  rwa [List.nil_append] at this
theorem Enc.is_upd (E : Enc α) {n : Nat} {f : Nat → List V} {xs : List α} (h : E.is n f xs) {i : Nat} {cs : List V} (a : α) (hc : cs = E.toV a) : E.is n (updF i cs f) (xs.set i a) := by
  refine ⟨by rw [h.1]; simp, fun j hj => ?_⟩
  unfold updF Enc.tl
  cases hb : Nat.beq j i with
  | true =>
    have := Nat.eq_of_beq_eq_true hb
    subst this
    simp [List.getD, hc, ← h.1, hj]
  | false =>
    have hne : i ≠ j := fun e => by subst e; simp at hb
    show f j = _
    rw [h.2 j hj]
    simp [Enc.tl, List.getD, List.getElem?_set_ne hne]
theorem Enc.is_part (E : Enc α) {n : Nat} {f : Nat → List V} {xs : List α} (h : E.is n f xs) (l m : Nat) (hm : l + m ≤ n) : E.is m (partF l f) ((xs.drop l).take m) := by
  refine ⟨by rw [List.length_take, List.length_drop, ← h.1]; omega, fun i hi => ?_⟩
  show f (l + i) = E.tl _ i
  rw [h.2 (l + i) (by omega)]
  unfold Enc.tl
  congr 1
  simp only [List.getD, List.getElem?_take, List.getElem?_drop, hi, if_true]
theorem Enc.is_dl (E : Enc α) {n : Nat} {f : Nat → List V} {xs : List α} (h : E.is n f xs) : E.dl n f = xs := E.dl_ext h.1 h.2
theorem Enc.is_oks (E : Enc α) {n : Nat} {f : Nat → List V} {xs : List α} (h : E.is n f xs) (hm : n ≤ maxLen) : E.oks n f := E.oks_at h.1 hm h.2
theorem Enc.oks_is (E : Enc α) {n : Nat} {f : Nat → List V} (h : E.oks n f) : E.is n f (E.dl n f) := ⟨(E.dl_length n f).symm, fun i hi => (E.dl_at h hi).symm⟩
theorem Enc.oks_tl (E : Enc α) {xs : List α} (h : xs.length ≤ maxLen) : E.oks xs.length (E.tl xs) := E.is_oks (E.is_tl xs) h
theorem Enc.dl_tl (E : Enc α) (xs : List α) : E.dl xs.length (E.tl xs) = xs := E.is_dl (E.is_tl xs)
theorem Enc.tl_get (E : Enc α) {xs : List α} {i : Nat} (h : i < xs.length) : E.tl xs i = E.toV xs[i] := by simp [Enc.tl, List.getD, h]

def vInt : V → Int
  | .kn (.int _ n) => n
  | _ => 0
def vBool : V → Bool
  | .kn (.bool b) => b
  | _ => false
def vStr : V → ByteArray
  | .kn (.string s) => s
  | _ => ByteArray.empty
def vList (E : Enc α) : V → List α
  | .list _ n f => E.dl n f
  | _ => []
theorem vList_V (E : Enc α) (xs : List α) : vList E (.list E.s xs.length (E.tl xs)) = xs := E.dl_tl xs
/-- Ints, texts, and rows of them. -/
def eInt : Enc Int := { s := 1, toV := fun n => [.kn (.int .i64 n)], ofV := fun c => match c with | [v] => vInt v | _ => 0, dflt := 0, inv := fun _ => rfl, len := fun _ => rfl }
def eStr : Enc ByteArray := { s := 1, toV := fun n => [.kn (.string n)], ofV := fun c => match c with | [v] => vStr v | _ => ByteArray.empty, dflt := ByteArray.empty, inv := fun _ => rfl, len := fun _ => rfl }
def eBool : Enc Bool := { s := 1, toV := fun n => [.kn (.bool n)], ofV := fun c => match c with | [v] => vBool v | _ => false, dflt := false, inv := fun _ => rfl, len := fun _ => rfl }
def eRow {α : Type} (E : Enc α) : Enc (List α) := { s := 1, toV := fun l => [.list E.s l.length (E.tl l)], ofV := fun c => match c with | [v] => vList E v | _ => [], dflt := [], inv := fun l => vList_V E l, len := fun _ => rfl }

/-- A value told otherwise. -/
def VExt (v v' : V) : Prop := ∀ (F : Fz) (σ : Sig) (x : Value), RV F σ v x → RV F σ v' x
theorem VExt.refl (v : V) : VExt v v := fun _ _ _ h => h
theorem VExt.nil {s : Nat} {f : Nat → List V} : VExt (.kn (.slice none 0 0)) (.list s 0 f) := fun F σ x h => by cases h; exact .list0 rfl
theorem VExt.nilL {s s' : Nat} {f g : Nat → List V} : VExt (.list s 0 f) (.list s' 0 g) := fun F σ x h => by cases h <;> exact .list0 rfl
theorem VExt.list {s n n' : Nat} {f g : Nat → List V} (hn : n = n') (h : ∀ i, i < n → f i = g i) : VExt (.list s n f) (.list s n' g) := by
  subst hn
  exact fun F σ x hx => list_ext hx h
theorem Enc.ext (E : Enc α) {n : Nat} {f : Nat → List V} (h : E.oks n f) : VExt (.list E.s n f) (.list E.s (E.dl n f).length (E.tl (E.dl n f))) :=
  VExt.list (E.dl_length n f).symm fun i hi => (E.dl_at h hi).symm
theorem Enc.ext_is (E : Enc α) {n : Nat} {f : Nat → List V} {xs : List α} (h : E.is n f xs) : VExt (.list E.s n f) (.list E.s xs.length (E.tl xs)) := VExt.list h.1 h.2
/-- A slice that comes in: of the type's size, or of no element. -/
def Enc.okl (E : Enc α) (s n : Nat) (f : Nat → List V) : Prop := (n = 0 ∨ s = E.s) ∧ E.oks n f
theorem Enc.okl_is (E : Enc α) {n : Nat} {f : Nat → List V} {xs : List α} (h : E.is n f xs) (hm : n ≤ maxLen) : E.okl E.s n f := ⟨.inr rfl, E.is_oks h hm⟩
theorem Enc.okl_tl (E : Enc α) {xs : List α} (h : xs.length ≤ maxLen) : E.okl E.s xs.length (E.tl xs) := ⟨.inr rfl, E.oks_tl h⟩
theorem Enc.okl_zero (E : Enc α) (s : Nat) (f : Nat → List V) : E.okl s 0 f := ⟨.inl rfl, Nat.zero_le _, fun i hi => by omega⟩
theorem Enc.dl_zero (E : Enc α) (f : Nat → List V) : E.dl 0 f = [] := rfl
theorem Enc.extl (E : Enc α) {s n : Nat} {f : Nat → List V} (h : E.okl s n f) : VExt (.list s n f) (.list E.s (E.dl n f).length (E.tl (E.dl n f))) := by
  rcases h.1 with h0 | h0
  · subst h0
    intro F σ x hx
    cases hx with
    | list0 hn => exact .list0 (by simp [Enc.dl])
    | list => exact .list0 (by simp [Enc.dl])
  · subst h0
    exact E.ext h.2
def VExts : List V → List V → Prop
  | [], [] => True
  | v :: vs, u :: us => VExt v u ∧ VExts vs us
  | _, _ => False
theorem VExts.refl : ∀ (l : List V), VExts l l
  | [] => trivial
  | v :: r => ⟨VExt.refl v, VExts.refl r⟩
theorem VExts.get : ∀ {as bs : List V}, VExts as bs → as.length = bs.length ∧ ∀ (i : Nat) (b : V), bs[i]? = some b → ∃ a, as[i]? = some a ∧ VExt a b
  | [], [], _ => ⟨rfl, fun i b h => by simp at h⟩
  | v :: vs, u :: us, ⟨h, r⟩ => by
    obtain ⟨h1, h2⟩ := VExts.get r
    refine ⟨by simp [h1], fun i b hb => ?_⟩
    cases i with
    | zero => simp at hb; subst hb; exact ⟨v, rfl, h⟩
    | succ i => simpa using h2 i b (by simpa using hb)
  | [], _ :: _, h => h.elim
  | _ :: _, [], h => h.elim
theorem VExt.agg {cs ds : List V} (h : VExts cs ds) : VExt (.agg cs) (.agg ds) := by
  intro F σ x hx
  obtain ⟨h1, h2⟩ := h.get
  cases hx with
  | agg hl hh =>
    refine .agg (by omega) fun i v hv => ?_
    obtain ⟨a, ha, hab⟩ := h2 i v hv
    exact hab _ _ _ (hh i a ha)
/-- A slice whose elements are told otherwise. -/
theorem VExt.list2 {s n : Nat} {f g : Nat → List V} (h : ∀ i, i < n → VExts (f i) (g i)) : VExt (.list s n f) (.list s n g) := by
  intro F σ x hx
  cases hx with
  | list0 hn => exact .list0 hn
  | list gg a b c d e =>
    refine .list gg a (fun i hi => by rw [← (h i hi).get.1]; exact b i hi) c d fun i j v hi hv => ?_
    obtain ⟨u, hu, hx⟩ := (h i hi).get.2 j v hv
    exact hx _ _ _ (e i j u hi hu)
/-- What comes in, as data, is a list. -/
theorem Enc.vok (E : Enc α) {ss : List CS} {u : V} {wf : α → Prop} (h : VOK (.sl ss) u) (hs : ss.length = E.s)
    (hc : ∀ c : List V, c.length = ss.length → (∀ (j : Nat) (cs : CS) (v : V), ss[j]? = some cs → c[j]? = some v → VOK cs v) → ∃ a, VExts c (E.toV a) ∧ wf a) :
    ∃ xs : List α, xs.length ≤ maxLen ∧ VExt u (.list E.s xs.length (E.tl xs)) ∧ ∀ x ∈ xs, wf x := by
  cases h with
  | @sl _ n f hn hl hh =>
    have h2 : ∀ i : Nat, ∃ a, i < n → VExts (f i) (E.toV a) ∧ wf a := fun i => by
      by_cases hi : i < n
      · obtain ⟨a, ha⟩ := hc (f i) (hl i hi) (fun j cs v h1 h2 => hh i j cs v hi h1 h2); exact ⟨a, fun _ => ha⟩
      · exact ⟨E.dflt, fun h => (hi h).elim⟩
    obtain ⟨g, hg⟩ := Classical.axiomOfChoice h2
    refine ⟨(List.range n).map g, by simpa using hn, ?_, fun x hx => ?_⟩
    · have e : ((List.range n).map g).length = n := by simp
      rw [e, hs]
      refine VExt.list2 fun i hi => ?_
      have : E.tl ((List.range n).map g) i = E.toV (g i) := by simp [Enc.tl, List.getD, hi]
      rw [this]
      exact (hg i hi).1
    · obtain ⟨i, hi, rfl⟩ := List.mem_map.1 hx
      exact (hg i (by simpa using hi)).2
def inI64 (n : Int) : Prop := -9223372036854775808 ≤ n ∧ n ≤ 9223372036854775807
def inI32 (n : Int) : Prop := -2147483648 ≤ n ∧ n ≤ 2147483647
def inU8 (n : Int) : Prop := 0 ≤ n ∧ n ≤ 255
theorem wf_i64 {n : Int} (h : (Lit.int .i64 n).wf = true) : inI64 n := by
  simp [Lit.wf, IntKind.min, IntKind.max, IntKind.signed, IntKind.bits] at h; unfold inI64; omega
theorem vok_int {k : IntKind} {u : V} (h : VOK (.int k) u) : ∃ n, u = .kn (.int k n) ∧ (Lit.int k n).wf = true := by cases h with | int h => exact ⟨_, rfl, h⟩
theorem vok_bool {u : V} (h : VOK .bool u) : ∃ b, u = .kn (.bool b) := by cases h; exact ⟨_, rfl⟩
theorem vok_str {u : V} (h : VOK .str u) : ∃ s, u = .kn (.string s) ∧ s.size ≤ maxLen := by cases h with | str h => exact ⟨_, rfl, h⟩
def eInt_wf (n : Int) : Prop := inI64 n
def eStr_wf (n : ByteArray) : Prop := n.size ≤ maxLen
def eBool_wf (n : Bool) : Prop := True
theorem eInt_vok {u : V} (h : VOK (.sl [.int .i64]) u) : ∃ xs : List Int, xs.length ≤ maxLen ∧ VExt u (.list eInt.s xs.length (eInt.tl xs)) ∧ ∀ x ∈ xs, eInt_wf x := by
  refine eInt.vok h rfl fun c hl hh => ?_
  match c, hl with
  | [c0], _ =>
    obtain ⟨n, rfl, w⟩ := vok_int (hh 0 _ c0 rfl rfl)
    exact ⟨n, ⟨VExt.refl _, trivial⟩, wf_i64 w⟩
theorem eStr_vok {u : V} (h : VOK (.sl [.str]) u) : ∃ xs : List ByteArray, xs.length ≤ maxLen ∧ VExt u (.list eStr.s xs.length (eStr.tl xs)) ∧ ∀ x ∈ xs, eStr_wf x := by
  refine eStr.vok h rfl fun c hl hh => ?_
  match c, hl with
  | [c0], _ =>
    obtain ⟨n, rfl, w⟩ := vok_str (hh 0 _ c0 rfl rfl)
    exact ⟨n, ⟨VExt.refl _, trivial⟩, w⟩
theorem eBool_vok {u : V} (h : VOK (.sl [.bool]) u) : ∃ xs : List Bool, xs.length ≤ maxLen ∧ VExt u (.list eBool.s xs.length (eBool.tl xs)) ∧ ∀ x ∈ xs, eBool_wf x := by
  refine eBool.vok h rfl fun c hl hh => ?_
  match c, hl with
  | [c0], _ =>
    obtain ⟨n, rfl⟩ := vok_bool (hh 0 _ c0 rfl rfl)
    exact ⟨n, ⟨VExt.refl _, trivial⟩, trivial⟩
def eRow_wf {α : Type} (wf : α → Prop) (l : List α) : Prop := l.length ≤ maxLen ∧ ∀ x ∈ l, wf x
theorem VExts.rvs {F : Fz} {σ : Sig} {as bs : List V} {xs : Array Value} (h : VExts as bs) (hr : RVs F σ as xs) : RVs F σ bs xs := by
  obtain ⟨h1, h2⟩ := h.get
  exact ⟨by rw [← h1]; exact hr.1, fun i v hv => by
    obtain ⟨a, ha, hab⟩ := h2 i v hv
    exact hab _ _ _ (hr.2 i a ha)⟩

/-- What is handed back reads as r. -/
def Tells (r : V) (o : Option V) : Prop := ∃ v, o = some v ∧ VExt v r
theorem tell {v r : V} (h : v = r) : Tells r (some v) := ⟨v, rfl, by subst h; exact VExt.refl _⟩
theorem tell_ext {v r : V} (h : VExt v r) : Tells r (some v) := ⟨v, rfl, h⟩

/-- Objects, slots, and a whole configuration, told otherwise. -/
def OExt (o o' : O) : Prop := (∀ (F : Fz) (σ : Sig) (w : World) (x : Option Value), OR F σ w o x → OR F σ w o' x) ∧ ∀ x, ob o x = ob o' x
theorem OExt.refl (o : O) : OExt o o := ⟨fun _ _ _ _ h => h, fun _ => rfl⟩
theorem OExt.row {e : TypeId} {s n n' : Nat} {f g : Nat → List V} {p : Bool} (hn : n = n') (h : ∀ i, i < n → f i = g i) : OExt (.row e s n f p) (.row e s n' g p) := by
  subst hn
  refine ⟨fun F σ w x hx => ?_, fun x => ?_⟩
  · obtain ⟨v, xs, h1, h2, h3, h4, h5⟩ := hx
    exact ⟨v, xs, h1, h2, fun i hi => by rw [← h i hi]; exact h3 i hi, fun i j u hi hu => h4 i j u hi (by rw [h i hi]; exact hu), h5⟩
  · cases x <;> rfl
theorem OExt.cells {cs ds : List V} (h : VExts cs ds) : OExt (.cells cs) (.cells ds) := by
  obtain ⟨h1, h2⟩ := h.get
  refine ⟨fun F σ w x hx => ?_, fun x => ?_⟩
  · obtain ⟨b, arr, e, hx1, hx2, hx3, hx4⟩ := hx
    refine ⟨b, arr, e, hx1, hx2, by omega, fun j v hv => ?_⟩
    obtain ⟨u, hu, hx⟩ := h2 j v hv
    exact hx _ _ _ (hx4 j u hu)
  · cases x with
    | none => rfl
    | some v =>
      cases v with
      | pointer a => cases a <;> rfl
      | _ => rfl
theorem Enc.oext (E : Enc α) {e : TypeId} {n : Nat} {f : Nat → List V} {xs : List α} {p : Bool} (h : E.is n f xs) : OExt (.row e E.s n f p) (.row e E.s xs.length (E.tl xs) p) := OExt.row h.1 h.2
def OExts : List O → List O → Prop
  | [], [] => True
  | o :: r, o' :: r' => OExt o o' ∧ OExts r r'
  | _, _ => False
theorem OExts.get : ∀ {h h' : List O}, OExts h h' → ∀ l, OExt (getO h l) (getO h' l)
  | [], [], _, l => OExt.refl _
  | o :: r, o' :: r', ⟨h1, h2⟩, l => by
    cases l with
    | zero => exact h1
    | succ l => exact h2.get l
  | [], _ :: _, h, _ => h.elim
  | _ :: _, [], h, _ => h.elim
def TExts : Tm → Tm → Prop
  | [], [] => True
  | (d, v) :: r, (d', v') :: r' => (d = d' ∧ VExt v v') ∧ TExts r r'
  | _, _ => False
theorem TExts.look : ∀ {t t' : Tm}, TExts t t' → ∀ d, VExt (look t d) (look t' d)
  | [], [], _, d => VExt.refl _
  | (k, v) :: r, (k', v') :: r', ⟨⟨h0, h1⟩, h2⟩, d => by
    subst h0
    show VExt (bif Nat.beq k d then v else Aw.look r d) (bif Nat.beq k d then v' else Aw.look r' d)
    cases Nat.beq k d
    · exact h2.look d
    · exact h1
  | [], _ :: _, h, _ => h.elim
  | _ :: _, [], h, _ => h.elim
structure CfgExt (c c' : Cfg) : Prop where
  fn : c.fr.fn = c'.fr.fn
  nt : c.fr.nt = c'.fr.nt
  k : c.fr.k = c'.fr.k
  cs : c.cs = c'.cs
  t : TExts c.fr.t c'.fr.t
  h : OExts c.h c'.h
theorem good_ext {P : Program} {base : Nat} {w0 : World} {F0 : Fz} {f0 : FuncId} {ret : V → List O → Prop} {c c' : Cfg} (e : CfgExt c c') (hg : Good P base w0 F0 f0 ret c') : Good P base w0 F0 f0 ret c := by
  intro hb σ F w b a fs cs0 g hF hw hf hfs
  have hO := e.h.get
  have hob : ∀ l, ob (getO c.h l) (σ l) = ob (getO c'.h l) (σ l) := fun l => (hO l).2 _
  have g' : Gm base σ F c'.h w := ⟨fun l => (hO l).1 _ _ _ _ (g.obj l), fun l b h => g.own l b (by rw [hob l]; exact h), fun l l' b h1 h2 => g.sep l l' b (by rw [hob l]; exact h1) (by rw [hob l']; exact h2), g.fz⟩
  have hbot : botFn c'.fr c'.cs = f0 := by
    rw [← hb, ← e.cs]
    cases c.cs with
    | nil => exact e.fn.symm
    | cons _ _ => rfl
  have := hg hbot σ F w b a fs cs0 g' hF hw ⟨by rw [← e.fn]; exact hf.fn, hf.kind, hf.defers, by rw [← e.nt]; exact hf.size, fun d => e.t.look d _ _ _ (hf.tmps d)⟩ (by rw [← e.cs]; exact hfs)
  rw [← e.k] at this
  exact this

theorem tell_bool {b s : Bool} (e : b = s) : Tells (.kn (.bool s)) (some (.kn (.bool b))) := tell (by subst e; rfl)
theorem cond_intro {b : Bool} {p q : Prop} (h1 : b = true → p) (h2 : b = false → q) : cond b p q := by cases b; exact h2 rfl; exact h1 rfl
theorem cond_true' {b : Bool} {p q : Prop} (hb : b = true) (h1 : p) : cond b p q := by subst hb; exact h1
theorem cond_false' {b : Bool} {p q : Prop} (hb : b = false) (h1 : q) : cond b p q := by subst hb; exact h1
theorem getD_at {xs : List α} {i : Nat} (d : α) (h : i < xs.length) : xs.getD i d = xs[i] := by simp [List.getD, h]
theorem getD_int {xs : List α} {i : Nat} (d : α) (h : i < xs.length) : xs.getD (i : Int).toNat d = xs[i] := by simp [List.getD, h]
theorem wrap_in {n : Int} (h1 : -9223372036854775808 ≤ n) (h2 : n ≤ 9223372036854775807) : IntKind.i64.wrap n = n := IntWalk.i64_in n ⟨h1, h2⟩
theorem wrap_succ {i n : Nat} (h : i < n) (hn : n ≤ maxLen) : IntKind.i64.wrap ((i : Int) + 1) = ((i + 1 : Nat) : Int) := by
  have : maxLen = 9223372036854775807 := rfl
  rw [wrap_in (by omega) (by omega)]; rfl

/-- A statement, as a bool. -/
noncomputable def bP (p : Prop) : Bool := @decide p (Classical.propDecidable p)
theorem bP_true {p : Prop} (h : p) : bP p = true := @decide_eq_true p (Classical.propDecidable p) h
theorem bP_false {p : Prop} (h : ¬ p) : bP p = false := @decide_eq_false p (Classical.propDecidable p) h
theorem bP_iff {p : Prop} : bP p = true ↔ p := ⟨@of_decide_eq_true p (Classical.propDecidable p), bP_true⟩
theorem bP_not {p : Prop} : bP p = false ↔ ¬ p := ⟨@of_decide_eq_false p (Classical.propDecidable p), bP_false⟩
theorem bP_eq {p : Prop} {b : Bool} (h : b = true ↔ p) : bP p = b := by
  cases b with
  | true => exact bP_true (h.1 rfl)
  | false => exact bP_false fun hp => by have := h.2 hp; cases this
theorem tell_true {p : Prop} (h : p) : Tells (.kn (.bool (bP p))) (some (.kn (.bool true))) := tell_bool (bP_true h).symm
theorem tell_false {p : Prop} (h : ¬ p) : Tells (.kn (.bool (bP p))) (some (.kn (.bool false))) := tell_bool (bP_false h).symm
theorem tell_iff {p : Prop} {b : Bool} (h : b = true ↔ p) : Tells (.kn (.bool (bP p))) (some (.kn (.bool b))) := tell_bool (bP_eq h).symm

/-- A loop that goes over a list. -/
theorem foreach {S : Type} {good : Cfg → Prop} (xs : List α) (inv : Nat → S → Prop) (c : Int → S → Cfg)
    (hs : ∀ (i : Nat) (s : S) (hi : i < xs.length), inv i s → (∀ s', inv (i + 1) s' → good (c ((i + 1 : Nat) : Int) s')) → good (c (i : Int) s))
    (he : ∀ s, inv xs.length s → good (c (xs.length : Int) s)) (s : S) (h : inv 0 s) : good (c 0 s) := by
  have : ∀ (m i : Nat) (s : S), i + m = xs.length → inv i s → good (c (i : Int) s) := by
    intro m
    induction m with
    | zero => intro i s hi hv; rw [Nat.add_zero] at hi; subst hi; exact he s hv
    | succ m ih => intro i s hi hv; exact hs i s (by omega) hv fun s' hv' => ih (i + 1) s' (by omega) hv'
  exact this xs.length 0 s (by omega) h

/-- A loop, by a measure that falls. -/
theorem loop_ind {S : Type} {good : Cfg → Prop} (c : S → Cfg) (inv : S → Prop) (μ : S → Nat) (hs : ∀ s, inv s → (∀ s', inv s' → μ s' < μ s → good (c s')) → good (c s)) (s : S) (h : inv s) : good (c s) := by
  have : ∀ (m : Nat) (s : S), μ s < m → inv s → good (c s) := by
    intro m
    induction m with
    | zero => intro s hm; omega
    | succ m ih => intro s hm hv; exact hs s hv fun s' hv' hl => ih s' (by omega) hv'
  exact this (μ s + 1) s (by omega) h
theorem take_at {xs : List α} {i : Nat} (h : i < xs.length) : xs.take (i + 1) = xs.take i ++ [xs[i]] := by rw [List.take_add_one, List.getElem?_eq_getElem h]; rfl

/-- A contract, by the executor, at arguments that are told otherwise. -/
theorem con_of_run2 {P : Program} {f : FuncId} {fn : Func} {c : Code} {con : FuncId → Option Spec} {hs : Hints} {G : PSpec} (n : Nat) (hfn : P.funcs[f]? = some fn) (hc : fn.body = some c) (hname : (fn.name == "runtime.NumGoroutine") = false)
    (hcon : ∀ f s, con f = some s → SpecOK P f s)
    (hrun : ∀ as p r, G as = some (p, r) → p → ∃ as', VExts as as' ∧ as'.length ≤ fn.ntmps ∧ ∀ (good : Cfg → Prop), (∀ c, arun P con hs good (RetO (Tells r)) n c → good c) → (∀ c c', CfgExt c c' → good c' → good c) → arun P con hs good (RetO (Tells r)) n (entry P f as')) : Con P f G := by
  refine ⟨⟨fn, c, hfn, hc, hname⟩, fun as p r hG hp F w xs hH hrv => ?_⟩
  obtain ⟨as', hext, hle, hr⟩ := hrun as p r hG hp
  have g0 : Gm w.heap.size sig0 F [] w := ⟨(fun l => rfl), (fun l b e => by cases e), (fun l l' b e => by cases e), hH⟩
  have hgood := run_good (F0 := F) (f0 := f) (ret := RetO (Tells r)) hcon (Nat.le_refl w.heap.size) n (hr _ (fun c h => run_good hcon (Nat.le_refl _) n h) fun c c' e h => good_ext e h)
  have he : entry P f as' = ⟨⟨f, fn.ntmps, args2 0 as', [.code c]⟩, [], []⟩ := by simp [entry, hfn, hc]
  rw [he] at hgood
  refine (calls_of_good ⟨fn, c, hfn, hc, hname⟩ g0 (Nat.le_refl _) (hext.rvs hrv) hfn hc hle hgood).mono ?_
  rintro e w' ⟨x, rfl, v, h', σ', F', hret, g', hv, hF, hb⟩
  have hx := frz_ext g'
  obtain ⟨r', hr', hre⟩ := hret
  exact ⟨x, rfl, frz F' σ' h' w', hF.trans hx, frz_holds g', hre _ _ _ (toPure_rv g' hr' hv), hb⟩

/-- A law's call, with loops. -/
theorem law_calls2 {P : Program} {f : FuncId} {fn : Func} {c : Code} {con : FuncId → Option Spec} {hs : Hints} (n : Nat) (hfn : P.funcs[f]? = some fn) (hc : fn.body = some c) (hname : (fn.name == "runtime.NumGoroutine") = false)
    (hcon : ∀ f s, con f = some s → SpecOK P f s) {args args' : List V} {xs : List Value} {w : World} (hrv : RVl (whole w) args xs) (hext : VExts args args') (hle : args.length ≤ fn.ntmps)
    (hrun : ∀ (good : Cfg → Prop), (∀ c, arun P con hs good (RetO (Tells (.kn (.bool true)))) n c → good c) → (∀ c c', CfgExt c c' → good c' → good c) → arun P con hs good (RetO (Tells (.kn (.bool true)))) n (entry P f args')) :
    Calls P f xs.toArray w fun e w' => e = .returned (.bool true) ∧ Below w.heap.size w w' := by
  have g0 : Gm w.heap.size sig0 (whole w) [] w := ⟨(fun l => rfl), (fun l b e => by cases e), (fun l l' b e => by cases e), fun b o e => e⟩
  have hrvs : RVs (whole w) sig0 args' xs.toArray := hext.rvs (RVs.mk hrv.rvs.1 hrv.rvs.2)
  have hgood := run_good (F0 := whole w) (f0 := f) (ret := RetO (Tells (.kn (.bool true)))) hcon (Nat.le_refl w.heap.size) n (hrun _ (fun c h => run_good hcon (Nat.le_refl _) n h) fun c c' e h => good_ext e h)
  have he : entry P f args' = ⟨⟨f, fn.ntmps, args2 0 args', [.code c]⟩, [], []⟩ := by simp [entry, hfn, hc]
  rw [he] at hgood
  refine (calls_of_good ⟨fn, c, hfn, hc, hname⟩ g0 (Nat.le_refl _) hrvs hfn hc (by rw [← hext.get.1]; exact hle) hgood).mono ?_
  rintro e w' ⟨x, rfl, v, h', σ', F', hret, g', hv, hF, hb⟩
  refine ⟨?_, hb⟩
  obtain ⟨r', hr', hre⟩ := hret
  have := hre _ _ _ (toPure_rv g' hr' hv)
  cases this
  rfl
end Go.Aw

