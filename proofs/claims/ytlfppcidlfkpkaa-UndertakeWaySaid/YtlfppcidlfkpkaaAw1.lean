/- What is proved: an executor over abstract configurations of the model, sound against the calls of any program; no condition. -/
import Derived.Test.YtlfppcidlfkpkaaAw
import Derived.MapKept
import Derived.Maps.RangeRun
/-
  Operations on maps are sound.
-/
namespace Go.Aw
open Go Go.RowKit Go.MapKept
set_option linter.unusedVariables false
set_option linter.unusedSimpArgs false

theorem isKey_of {P : Program} {kd : KK} {kt : TypeId} (h : kkOf P kt = some kd) {k : Value} (hk : kd.ok k = true) : ∃ d, P.underlying kt = some d ∧ IsKey d k := by
  unfold kkOf at h
  split at h
  · rename_i hu; cases h
    refine ⟨_, hu, ?_⟩
    cases k <;> first | trivial | (simp [KK.ok] at hk)
  · rename_i kk hu; cases h
    refine ⟨_, hu, ?_⟩
    cases k <;> first | (simp [KK.ok] at hk; done) | skip
    simp [KK.ok] at hk
    exact hk.symm
  · cases h
theorem isKey_all {P : Program} {kd : KK} {kt : TypeId} (h : kkOf P kt = some kd) : ∃ d, P.underlying kt = some d ∧ ∀ k, kd.ok k = true → IsKey d k := by
  unfold kkOf at h
  split at h
  · rename_i hu; cases h
    exact ⟨_, hu, fun k hk => by cases k <;> first | trivial | (simp [KK.ok] at hk)⟩
  · rename_i kk hu; cases h
    refine ⟨_, hu, fun k hk => ?_⟩
    cases k <;> first | (simp [KK.ok] at hk; done) | skip
    simp [KK.ok] at hk
    exact hk.symm
  · cases h

theorem keq_iff {kd : KK} {a b : Value} (ha : kd.ok a = true) (hb : kd.ok b = true) : keq a b = true ↔ a = b := by
  cases kd with
  | str =>
    cases a <;> first | (simp [KK.ok] at ha; done) | skip
    cases b <;> first | (simp [KK.ok] at hb; done) | skip
    simp only [keq, Value.string.injEq]
    exact bytes_beq _ _
  | int k =>
    cases a <;> first | (simp [KK.ok] at ha; done) | skip
    cases b <;> first | (simp [KK.ok] at hb; done) | skip
    simp only [KK.ok, decide_eq_true_eq] at ha hb
    subst ha hb
    simp [keq]
theorem keq_self {kd : KK} {a : Value} (ha : kd.ok a = true) : keq a a = true := (keq_iff ha ha).2 rfl
theorem keq_ne {kd : KK} {a b : Value} (ha : kd.ok a = true) (hb : kd.ok b = true) (h : a ≠ b) : keq a b = false := by
  cases hq : keq a b with
  | false => rfl
  | true => exact (h ((keq_iff ha hb).1 hq)).elim

theorem nodup_map_eq {α β : Type} {f : α → β} : ∀ {l : List α} {a b : α}, (l.map f).Nodup → a ∈ l → b ∈ l → f a = f b → a = b
  | [], a, b, _, h, _, _ => by cases h
  | x :: r, a, b, hn, ha, hb, e => by
    simp only [List.map_cons, List.nodup_cons] at hn
    rcases List.mem_cons.1 ha with h1 | h1 <;> rcases List.mem_cons.1 hb with h2 | h2
    · rw [h1, h2]
    · subst h1; exact (hn.1 (List.mem_map.2 ⟨b, h2, e.symm⟩)).elim
    · subst h2; exact (hn.1 (List.mem_map.2 ⟨a, h1, e⟩)).elim
    · exact nodup_map_eq hn.2 h1 h2 e

theorem kkEq_eq {a b : KK} (h : kkEq a b = true) : a = b := by
  cases a <;> cases b <;> simp_all [kkEq]
theorem bEq_eq {a b : Bool} (h : bEq a b = true) : a = b := by
  cases a <;> cases b <;> simp_all [bEq]

section
variable {P : Program} {base : Blk} {σ : Sig} {F : Fz} {h : List O} {w : World} {a : Act} {o : Oper} {con : FuncId → Option Spec} {nid : Nat} {ρ : Operand → V}

theorem snd_lookDo {k : Value} {found : List V → Do} {no bs : Do} {has : Value → Bool} : ∀ (ov : List (Value × Option (List V))),
    (∀ cs, findOv k ov = some (some cs) → Snd P base σ F h w a o (found cs)) → (presB ov has k = false → Snd P base σ F h w a o no) → (findOv k ov = none → has k = true → Snd P base σ F h w a o bs) →
    Snd P base σ F h w a o (lookDo k found no bs has ov)
  | [], h1, h2, h3 => by
    show bif has k then Snd P base σ F h w a o bs else Snd P base σ F h w a o no
    cases hk : has k with
    | true => exact h3 rfl hk
    | false => exact h2 hk
  | (k0, some cs) :: r, h1, h2, h3 => by
    show bif keq k k0 then Snd P base σ F h w a o (found cs) else Snd P base σ F h w a o (lookDo k found no bs has r)
    have e1 : findOv k ((k0, some cs) :: r) = bif keq k k0 then some (some cs) else findOv k r := rfl
    have e2 : presB ((k0, some cs) :: r) has k = bif keq k k0 then true else presB r has k := rfl
    cases hk : keq k k0 with
    | true => rw [hk] at e1; exact h1 cs e1
    | false =>
      rw [hk] at e1 e2
      exact snd_lookDo r (fun cs e => h1 cs (by rw [e1]; exact e)) (fun e => h2 (by rw [e2]; exact e)) fun e e' => h3 (by rw [e1]; exact e) e'
  | (k0, none) :: r, h1, h2, h3 => by
    show bif keq k k0 then Snd P base σ F h w a o no else Snd P base σ F h w a o (lookDo k found no bs has r)
    have e1 : findOv k ((k0, none) :: r) = bif keq k k0 then some none else findOv k r := rfl
    have e2 : presB ((k0, none) :: r) has k = bif keq k k0 then false else presB r has k := rfl
    cases hk : keq k k0 with
    | true => rw [hk] at e2; exact h2 e2
    | false =>
      rw [hk] at e1 e2
      exact snd_lookDo r (fun cs e => h1 cs (by rw [e1]; exact e)) (fun e => h2 (by rw [e2]; exact e)) fun e e' => h3 (by rw [e1]; exact e) e'

theorem VR.val {ag : Bool} {cs : List V} {x : Value} (h : VR F σ ag cs x) : RV F σ (mkV ag cs) x := by
  cases ag with
  | true => obtain ⟨xs, rfl, h2, h3⟩ := h; exact .agg h2 h3
  | false => obtain ⟨v, rfl, h2, _⟩ := h; exact h2

theorem entryCs_vr (hone : ∀ l y, σ l = some y → y.oneCell' = true) {ag : Bool} {v : V} {x : Value} {cs : List V} (h : entryCs ag v = some cs) (hr : RV F σ v x) : VR F σ ag cs x := by
  have one : ∀ {v : V}, (bif ag then none else bif v.one then some [v] else none) = some cs → RV F σ v x → VR F σ ag cs x := by
    intro v h hr
    cases ag with
    | true => cases h
    | false =>
      cases h1 : v.one with
      | false => rw [h1] at h; cases h
      | true =>
        rw [h1] at h
        cases h
        exact ⟨v, rfl, hr, RV.one h1 hr hone⟩
  unfold entryCs at h
  split at h
  · cases ag with
    | false => cases h
    | true =>
      cases h
      cases hr with
      | agg hl hh => exact ⟨_, rfl, hl, hh⟩
  · rename_i xs
    cases ag with
    | false => cases h
    | true =>
      cases h
      cases hr
      exact ⟨xs, rfl, by simp, (CR_kn F σ xs).2⟩
  · exact one h hr

theorem find_entry {P : Program} {kd : KK} {kt : TypeId} {w : World} (hkd : kkOf P kt = some kd) {k : Value} (hk : kd.ok k = true) {es : Array MapEntry} (hkeys : ∀ e ∈ es.toList, kd.ok e.key = true) :
    (∀ e, (Instr.checkKey e 10000 kt k).run P w = .ok () w) ∧
    (((Instr.findKey kt k es.toList).run P w = .ok none w ∧ ∀ e ∈ es.toList, e.key ≠ k) ∨ ∃ j e, (Instr.findKey kt k es.toList).run P w = .ok (some (j, e.val)) w ∧ es.toList[j]? = some e ∧ e.key = k) := by
  obtain ⟨d, hd, hall⟩ := isKey_all hkd
  refine ⟨fun e => run_checkKey hd (hall k hk) e 9999, ?_⟩
  rcases findNow_spec (hall k hk) es.toList 0 (fun x hx => hall _ (hkeys x hx)) with ⟨h1, h2⟩ | ⟨j, e, h1, h2, h3⟩
  · exact .inl ⟨run_findKey hd h1, h2⟩
  · refine .inr ⟨j, e, ?_, h2, h3⟩
    rw [Nat.zero_add] at h1
    exact run_findKey hd h1

theorem run_getMap {b : Nat} {es : Array MapEntry} {clk : Nat} (hb : w.heap[b]? = some (.map es clk)) : (getObj b).run P w = .ok (.map es clk) w := by simp [getObj, Sem.run, hb]

/-- The value that a key has. -/
theorem MapR.at {t : Tau} {b : Nat} {es : Array MapEntry} {clk : Nat} {kd : KK} {ag : Bool} {n : Nat} {ov : List (Value × Option (List V))} {has : Value → Bool} {get : Value → List V} {sub : Value → List SO}
    {its : List (Nat × (Value → Bool) × Option Value)} (m : MapR F σ t w b es clk kd ag n ov has get sub its) {k : Value} (hk : kd.ok k = true) :
    (presB ov has k = true → ∃ e ∈ es.toList, e.key = k) ∧ (presB ov has k = false → ∀ e ∈ es.toList, e.key ≠ k) ∧ ∀ e ∈ es.toList, e.key = k → presB ov has k = true ∧ VA F σ t ag ov get k e.val := by
  refine ⟨(m.mem k hk).1, fun hf e he hek => ?_, fun e he hek => ⟨(m.mem k hk).2 ⟨e, he, hek⟩, by rw [← hek]; exact m.val e he⟩⟩
  rw [(m.mem k hk).2 ⟨e, he, hek⟩] at hf
  cases hf

theorem get_pure {t : Sig} {ag : Bool} {cs : List V} {x : Value} (h : VR F t ag cs x) (hp : cs.all V.pure0 = true) : RV F σ (mkV ag cs) x := by
  cases ag with
  | true =>
    obtain ⟨xs, rfl, h2, h3⟩ := h
    exact .agg h2 fun i v hv => RV.pure0 (List.all_eq_true.1 hp _ (List.mem_of_getElem? hv)) (h3 i v hv)
  | false =>
    obtain ⟨v, rfl, h2, _⟩ := h
    exact RV.pure0 (v := v) (by simpa using hp) h2

/-! ### a key of the base gets numbers of the run's -/

theorem getO_numbered : ∀ (os : List O) (nid : Nat) (h : List O) (i : Nat), getO (ups (numbered nid os) h) i = if nid ≤ i ∧ i < nid + os.length then getO os (i - nid) else getO h i
  | [], nid, h, i => by
    rw [if_neg (fun hh => by simp at hh; omega)]; rfl
  | o :: r, nid, h, i => by
    show getO (ups (numbered (nid + 1) r) (putO h nid o)) i = _
    rw [getO_numbered r (nid + 1) (putO h nid o) i, getO_putO]
    simp only [List.length_cons]
    by_cases h1 : nid + 1 ≤ i ∧ i < nid + 1 + r.length
    · rw [if_pos h1, if_pos (by omega), show i - nid = (i - (nid + 1)) + 1 by omega]
      rfl
    · rw [if_neg h1]
      by_cases h2 : i = nid
      · subst h2
        rw [if_pos rfl, if_pos (by omega), Nat.sub_self]
        rfl
      · rw [if_neg h2, if_neg (by omega)]

theorem getO_lt {os : List O} {i : Nat} (h : i < os.length) : os[i]? = some (getO os i) := by
  induction os generalizing i with
  | nil => simp at h
  | cons o r ih =>
    cases i with
    | zero => rfl
    | succ i => simpa [getO] using ih (by simpa using h)

theorem so_o (m : Nat → Option Nat) (so : SO) : so.toO m = match so with | .cells cs => .cells (cs.map (V.ren1 m)) | .row e s n f => .row e s n f true := by cases so <;> rfl
theorem SO.or_ren {σ' : Sig} {m : Nat → Option Nat} {so : SO} {x : Option Value} (h : OR F σ w so.o x) (hm : Rn m σ σ') : OR F σ' w (so.toO m) x := by
  cases so with
  | cells cs =>
    obtain ⟨b, arr, e, rfl, hh, hz, hr⟩ := h
    exact ⟨b, arr, e, rfl, hh, by simpa using hz, map_rv (fun v x r => RV.ren1 r hm) hr⟩
  | row e s n f => exact h
theorem SO.ob_eq (m : Nat → Option Nat) (so : SO) (x : Option Value) : ob (so.toO m) x = ob so.o x := by
  cases so with
  | row => rfl
  | cells cs =>
    cases x with
    | none => rfl
    | some v =>
      cases v with
      | pointer a => cases a <;> rfl
      | _ => rfl
theorem SO.simple (m : Nat → Option Nat) (so : SO) : (so.toO m).simple = true := by cases so <;> rfl
theorem SO.some_of {so : SO} {x : Option Value} (h : OR F σ w so.o x) : ∃ y, x = some y := by
  cases so with
  | cells => obtain ⟨b, arr, e, rfl, _⟩ := h; exact ⟨_, rfl⟩
  | row => obtain ⟨v, xs, rfl, _⟩ := h; exact ⟨_, rfl⟩

theorem focus (g : Gm base σ F h w) (hn : ∀ i, i < 16 → getO h (nid + i) = .hole) {l : Nat} {kd : KK} {ag : Bool} {n : Nat} {ov : List (Value × Option (List V))} {has : Value → Bool} {get : Value → List V} {sub : Value → List SO}
    {its : List (Nat × (Value → Bool) × Option Value)} (hO : getO h l = .map kd ag n ov has get sub its) {k : Value} (hbk : Bk kd ov has k) {so : List SO} (hso : sub k = so) (hlen : so.length ≤ 15) :
    ∃ σ', Gm base σ' F (ups ((l, .map kd ag n ((k, some ((get k).map (V.ren1 (shiftF nid so.length)))) :: ov) has get sub its) :: numbered nid (so.map (SO.toO (shiftF nid so.length)))) h) w ∧ Sle σ σ' ∧
      ∀ b es clk, σ l = some (.map (some b)) → w.heap[b]? = some (.map es clk) → ∃ e ∈ es.toList, e.key = k ∧ VR F σ' ag ((get k).map (V.ren1 (shiftF nid so.length))) e.val := by
  subst hso
  obtain ⟨τ, g⟩ := g
  have hmp := g.mp l
  rw [hO] at hmp
  obtain ⟨b, es, clk, hx, hh, m⟩ := hmp
  generalize hk : sub k = so at hlen
  generalize hms : shiftF nid so.length = sh
  have shs : ∀ j j', sh j = some j' → j < so.length ∧ j' = nid + j := fun j j' e => by
    rw [← hms] at e
    unfold shiftF at e
    cases hb : Nat.blt j so.length with
    | false => rw [hb] at e; cases e
    | true => rw [hb] at e; cases e; exact ⟨by simpa [Nat.blt_eq] using hb, rfl⟩
  -- handles
  let σ' : Sig := fun i => if nid ≤ i ∧ i < nid + so.length then τ l k (i - nid) else σ i
  have hnone : ∀ i, i < so.length → σ (nid + i) = none := fun i hi => by
    have := g.obj (nid + i)
    rw [hn i (by omega)] at this
    exact this
  have hle : Sle σ σ' := fun i y e => by
    show (if nid ≤ i ∧ i < nid + so.length then τ l k (i - nid) else σ i) = some y
    by_cases hc : nid ≤ i ∧ i < nid + so.length
    · have := hnone (i - nid) (by omega)
      rw [show nid + (i - nid) = i by omega, e] at this
      cases this
    · rw [if_neg hc]; exact e
  have hrn : Rn sh (τ l k) σ' := fun j j' e => by
    obtain ⟨h1, rfl⟩ := shs j j' e
    show (if nid ≤ nid + j ∧ nid + j < nid + so.length then τ l k (nid + j - nid) else σ (nid + j)) = τ l k j
    rw [if_pos (by omega), show nid + j - nid = j by omega]
  have hl : ¬ (nid ≤ l ∧ l < nid + so.length) := fun hc => by
    have := hn (l - nid) (by omega)
    rw [show nid + (l - nid) = l by omega, hO] at this
    cases this
  have hσl : ∀ i, ¬ (nid ≤ i ∧ i < nid + so.length) → σ' i = σ i := fun i hi => if_neg hi
  have hσr : ∀ i, (nid ≤ i ∧ i < nid + so.length) → σ' i = τ l k (i - nid) := fun i hi => if_pos hi
  have hσn : ∀ j, j < so.length → σ' (nid + j) = τ l k j := fun j hj => by
    show (if nid ≤ nid + j ∧ nid + j < nid + so.length then τ l k (nid + j - nid) else σ (nid + j)) = τ l k j
    rw [if_pos (by omega), show nid + j - nid = j by omega]
  let o' : O := .map kd ag n ((k, some ((get k).map (V.ren1 sh))) :: ov) has get sub its
  have hget : ∀ i, getO (ups ((l, o') :: numbered nid (so.map (SO.toO sh))) h) i = if nid ≤ i ∧ i < nid + so.length then getO (so.map (SO.toO sh)) (i - nid) else if i = l then o' else getO h i := fun i => by
    show getO (ups (numbered nid (so.map (SO.toO sh))) (putO h l o')) i = _
    rw [getO_numbered, getO_putO]
    simp
  have hnew : ∀ j, j < so.length → ∃ s, so[j]? = some s ∧ getO (so.map (SO.toO sh)) j = s.toO sh := fun j hj => by
    refine ⟨so[j], by simp [hj], ?_⟩
    have := getO_lt (os := so.map (SO.toO sh)) (i := j) (by simpa using hj)
    rw [List.getElem?_map, List.getElem?_eq_getElem hj] at this
    simpa using this.symm
  have find : ∀ k', findOv k' ((k, some ((get k).map (V.ren1 sh))) :: ov) = bif keq k' k then some (some ((get k).map (V.ren1 sh))) else findOv k' ov := fun k' => rfl
  have bk : ∀ k', Bk kd ((k, some ((get k).map (V.ren1 sh))) :: ov) has k' → Bk kd ov has k' ∧ k' ≠ k := fun k' hk' => by
    have h2 := hk'.2.1
    rw [find] at h2
    cases hq : keq k' k with
    | true => rw [hq] at h2; cases h2
    | false =>
      rw [hq] at h2
      exact ⟨⟨hk'.1, h2, hk'.2.2⟩, fun e => by subst e; rw [keq_self hk'.1] at hq; cases hq⟩
  have hmb : ∀ b', mbM σ' (τ l) kd ((k, some ((get k).map (V.ren1 sh))) :: ov) has sub its b' → mbM σ (τ l) kd ov has sub its b' ∧ ∀ j s, so[j]? = some s → ob s.o (τ l k j) ≠ some b' := fun b' e => by
    rcases e with ⟨k', j, s, h1, h2, h3⟩ | ⟨q, x, h1, h2⟩
    · have h4 := bk k' h1
      refine ⟨.inl ⟨k', j, s, h4.1, h2, h3⟩, fun j' s' hs' hb' => h4.2 (m.ssep k' k j j' s s' b' h4.1 hbk h2 (by rw [hk]; exact hs') h3 hb').1⟩
    · obtain ⟨y, hy⟩ := m.its_some q x h1
      have := hle q y hy
      rw [h2] at this; cases this
      exact ⟨.inr ⟨q, x, h1, hy⟩, fun j' s' hs' hb' => m.itsS k j' s' q x b' hbk (by rw [hk]; exact hs') hb' h1 hy⟩
  have hfin : ∃ e ∈ es.toList, e.key = k ∧ VR F σ' ag ((get k).map (V.ren1 sh)) e.val := by
    obtain ⟨e, he, hek⟩ := (m.at hbk.1).1 (by rw [presB_find, hbk.2.1]; exact hbk.2.2)
    have := ((m.at hbk.1).2.2 e he hek).2
    unfold VA at this
    rw [hbk.2.1] at this
    exact ⟨e, he, hek, VR.ren this hrn⟩
  have hab : ∀ i b', ab σ' (if nid ≤ i ∧ i < nid + so.length then fun _ _ => none else τ i) (getO (ups ((l, o') :: numbered nid (so.map (SO.toO sh))) h) i) (σ' i) b' →
      (¬ (nid ≤ i ∧ i < nid + so.length) ∧ ab σ (τ i) (getO h i) (σ i) b' ∧ (i = l → ∀ j s, so[j]? = some s → ob s.o (τ l k j) ≠ some b')) ∨ ((nid ≤ i ∧ i < nid + so.length) ∧ ∃ s, so[i - nid]? = some s ∧ ob s.o (τ l k (i - nid)) = some b') := fun i b' e => by
    rw [hget] at e
    by_cases hc : nid ≤ i ∧ i < nid + so.length
    · right
      obtain ⟨s, hs, he⟩ := hnew (i - nid) (by omega)
      refine ⟨hc, s, hs, ?_⟩
      rw [if_pos hc, if_pos hc, he] at e
      have := ab_simple (SO.simple sh s) e
      rw [SO.ob_eq, hσr i hc] at this
      exact this
    · left
      rw [if_neg hc, if_neg hc, hσl i hc] at e
      by_cases hi : i = l
      · subst hi
        rw [if_pos rfl] at e
        rcases e with e | e
        · rw [hx] at e
          cases e
          refine ⟨hc, .inl (by rw [hO, hx]; rfl), fun _ j s hs hb => m.main (.inl ⟨k, j, s, hbk, by rw [hk]; exact hs, hb⟩)⟩
        · have := hmb b' e
          exact ⟨hc, .inr (by rw [hO]; exact this.1), fun _ => this.2⟩
      · rw [if_neg hi] at e
        exact ⟨hc, ab_le (g.mp i) hle e, fun hh => (hi hh).elim⟩
  refine ⟨σ', ⟨fun i => if nid ≤ i ∧ i < nid + so.length then fun _ _ => none else τ i, fun i => ?_, fun i => ?_, ?_, ?_, g.fz⟩, hle, fun b2 es2 clk2 e1 e2 => ?_⟩
  · rw [hget]
    by_cases hc : nid ≤ i ∧ i < nid + so.length
    · rw [if_pos hc]
      obtain ⟨s, hs, he⟩ := hnew (i - nid) (by omega)
      rw [he, hσr i hc]
      exact SO.or_ren (m.subs k hbk _ _ (by rw [hk]; exact hs)) hrn
    · rw [if_neg hc, hσl i hc]
      by_cases hi : i = l
      · subst hi; rw [if_pos rfl]; exact ⟨b, es, clk, hx, hh⟩
      · rw [if_neg hi]; exact (g.obj i).congr (Fle.refl _) hle fun _ _ => rfl
  · rw [hget]
    by_cases hc : nid ≤ i ∧ i < nid + so.length
    · rw [if_pos hc, if_pos hc]
      obtain ⟨s, hs, he⟩ := hnew (i - nid) (by omega)
      rw [he]; exact MR_simple (SO.simple sh s)
    · rw [if_neg hc, if_neg hc, hσl i hc]
      by_cases hi : i = l
      · subst hi
        rw [if_pos rfl]
        refine ⟨b, es, clk, hx, hh, ⟨m.size, m.keys, m.dist, m.bornD, m.bornL, fun k' hk' => ?_, fun e he => ?_, fun k' hk' => m.subs k' (bk k' hk').1, m.tone, fun k1 k2 j1 j2 s1 s2 b' h1 h2 => m.ssep k1 k2 j1 j2 s1 s2 b' (bk k1 h1).1 (bk k2 h2).1,
          fun q seen cur hi => ?_, m.itsD, fun q x q' x' bi h1 h2 h3 h4 => ?_, fun k' j s q x bi h1 h2 h3 h4 h5 => ?_, fun hmm => m.main (hmb b hmm).1⟩⟩
        · rw [← m.mem k' hk', presB_find, presB_find, find]
          cases hq : keq k' k with
          | false => rfl
          | true =>
            have := (keq_iff hk' hbk.1).1 hq
            subst this
            simp only [cond_true, hbk.2.1, hbk.2.2, Option.isSome_some]
        · by_cases hek : e.key = k
          · obtain ⟨e2, he2, hk2, hv⟩ := hfin
            have : e2 = e := nodup_map_eq m.dist he2 he (hk2.trans hek.symm)
            subst this
            unfold VA
            rw [find, hek, keq_self hbk.1]
            exact hv
          · have := m.val e he
            unfold VA at this ⊢
            rw [find, keq_ne (m.keys e he) hbk.1 hek]
            simp only [cond_false]
            split
            · rename_i hf; rw [hf] at this; exact this.mono (Fle.refl _) hle
            · rename_i hf; rw [hf] at this; exact this
            · rename_i hf; rw [hf] at this; exact this
        · obtain ⟨bi, sa, r1, r2⟩ := m.itsR q seen cur hi
          exact ⟨bi, sa, hle _ _ r1, r2⟩
        · obtain ⟨y, hy⟩ := m.its_some q x h1
          obtain ⟨y', hy'⟩ := m.its_some q' x' h2
          have e1 := hle _ _ hy; rw [h3] at e1; cases e1
          have e2 := hle _ _ hy'; rw [h4] at e2; cases e2
          exact m.itsB q x q' x' bi h1 h2 hy hy'
        · obtain ⟨y, hy⟩ := m.its_some q x h4
          have e1 := hle _ _ hy; rw [h5] at e1; cases e1
          exact m.itsS k' j s q x bi (bk k' h1).1 h2 h3 h4 hy
      · rw [if_neg hi]; exact (g.mp i).congr (Fle.refl _) hle fun _ _ => rfl
  · intro i b' e
    rcases hab i b' e with ⟨_, h1⟩ | ⟨_, s, h1, h2⟩
    · exact g.own i b' h1.1
    · exact g.own l b' (.inr (by rw [hO]; exact .inl ⟨k, _, s, hbk, by rw [hk]; exact h1, h2⟩))
  · intro i i' b' e e'
    have inL : ∀ {j s}, so[j]? = some s → ob s.o (τ l k j) = some b' → ab σ (τ l) (getO h l) (σ l) b' := fun {j s} h1 h2 => .inr (by rw [hO]; exact .inl ⟨k, _, s, hbk, by rw [hk]; exact h1, h2⟩)
    rcases hab i b' e with ⟨h0, h1⟩ | ⟨h0, s, h1, h2⟩ <;> rcases hab i' b' e' with ⟨h0', h1'⟩ | ⟨h0', s', h1', h2'⟩
    · exact g.sep i i' b' h1.1 h1'.1
    · have := g.sep i l b' h1.1 (inL h1' h2')
      subst this
      exact (h1.2 rfl _ _ h1' h2').elim
    · have := g.sep i' l b' h1'.1 (inL h1 h2)
      subst this
      exact (h1'.2 rfl _ _ h1 h2).elim
    · have := (m.ssep k k _ _ s s' b' hbk hbk (by rw [hk]; exact h1) (by rw [hk]; exact h1') h2 h2').2
      omega
  · rw [hx] at e1; cases e1
    rw [hh] at e2; cases e2
    exact hfin

/-! ### a look -/

theorem zeroOf_run {vt : TypeId} {ag : Bool} {z : V} (hz : zeroOf P ag vt = some z) : ∃ y, (zeroValue vt).run P w = .ok y w ∧ RV F σ z y := by
  unfold zeroOf at hz
  cases hi : P.info? vt with
  | none => simp [hi] at hz
  | some i =>
    cases hy : i.zero with
    | none => simp [hi, hy] at hz
    | some y =>
      have hrun : (zeroValue vt).run P w = .ok y w := by simp [zeroValue, typeInfo, hi, hy]
      refine ⟨y, hrun, ?_⟩
      simp only [hi, hy, Option.bind_some] at hz
      split at hz
      · rename_i xs hq
        cases hq
        cases ag with
        | false => cases hz
        | true => cases hz; exact .agg (by simp) (CR_kn F σ xs).2
      · rename_i q _ hq
        cases hq
        cases ag with
        | true => cases hz
        | false => cases hz; exact .kn
      · cases hz

theorem okV_rv {ok : Bool} {v : V} {y : Value} {b : Bool} (h : RV F σ v y) : RV F σ (bif ok then .tup [v, .kn (.bool b)] else v) (if ok = true then .tuple #[y, .bool b] else y) := by
  cases ok with
  | false => exact h
  | true =>
    refine .tup rfl fun i u hu => ?_
    match i, hu with
    | 0, hu => cases hu; exact h
    | 1, hu => cases hu; exact .kn

theorem keyOf_eq {kd : KK} {v : V} {k x : Value} (h : keyOf kd v = some k) (hr : RV F σ v x) : x = k ∧ kd.ok k = true := by
  unfold keyOf at h
  split at h
  · rename_i y
    cases hk : kd.ok y with
    | false => rw [hk] at h; cases h
    | true => rw [hk] at h; cases h; cases hr; exact ⟨rfl, hk⟩
  · cases h

theorem base_snd (g : Gm base σ F h w) (hn : ∀ i, i < 16 → getO h (nid + i) = .hole) {l : Nat} {kd : KK} {ag : Bool} {n : Nat} {ov : List (Value × Option (List V))} {has : Value → Bool} {get : Value → List V} {sub : Value → List SO}
    {its : List (Nat × (Value → Bool) × Option Value)} (hO : getO h l = .map kd ag n ov has get sub its) {k : Value} (hbk : Bk kd ov has k) {b : Nat} {es : Array MapEntry} {clk : Nat} (hl : σ l = some (.map (some b))) (hb : w.heap[b]? = some (.map es clk))
    {K : V → V} {Y : Value → Value} (hK : ∀ (σ' : Sig) (v : V) (y : Value), RV F σ' v y → RV F σ' (K v) (Y y)) (hrun : ∀ e ∈ es.toList, e.key = k → (execOp a.eval o).run P w = .ok (.value (Y e.val)) w) :
    Snd P base σ F h w a o (baseDo nid l kd ag n ov has get sub its k K) := by
  unfold baseDo
  split
  · rename_i hs
    cases hp : (get k).all V.pure0 with
    | false => trivial
    | true =>
      obtain ⟨τ, g'⟩ := g
      have hmp := g'.mp l
      rw [hO, hl] at hmp
      obtain ⟨b2, es2, clk2, e1, e2, m⟩ := hmp
      cases e1
      rw [hb] at e2; cases e2
      obtain ⟨e, he, hek⟩ := (m.at hbk.1).1 (by rw [presB_find, hbk.2.1]; exact hbk.2.2)
      have hv := ((m.at hbk.1).2.2 e he hek).2
      unfold VA at hv
      rw [hbk.2.1] at hv
      exact Fin.here ⟨τ, g'⟩ (hrun e he hek) (hK _ _ _ (get_pure hv hp))
  · rename_i so hne
    cases hle : Nat.ble (sub k).length 15 with
    | false => trivial
    | true =>
      obtain ⟨σ', g', hS, hf⟩ := focus (F := F) g hn hO hbk rfl (Nat.le_of_ble_eq_true hle)
      obtain ⟨e, he, hek, hv⟩ := hf b es clk hl hb
      exact Fin.val (hrun e he hek) ⟨σ', F, g', hK _ _ _ hv.val, hS, FExt.refl _ _, Kp.refl _ _⟩

theorem map_at (g : Gm base σ F h w) {l : Nat} {kd : KK} {ag : Bool} {n : Nat} {ov : List (Value × Option (List V))} {has : Value → Bool} {get : Value → List V} {sub : Value → List SO}
    {its : List (Nat × (Value → Bool) × Option Value)} (hO : getO h l = .map kd ag n ov has get sub its) : ∃ t b es clk, σ l = some (.map (some b)) ∧ w.heap[b]? = some (.map es clk) ∧ MapR F σ t w b es clk kd ag n ov has get sub its := by
  obtain ⟨τ, g⟩ := g
  have hmp := g.mp l
  rw [hO] at hmp
  obtain ⟨b, es, clk, e1, e2, m⟩ := hmp
  exact ⟨τ l, b, es, clk, e1, e2, m⟩

theorem snd_lookup (g : Gm base σ F h w) (hn : ∀ i, i < 16 → getO h (nid + i) = .hole) (hρ : ∀ x, RV F σ (ρ x) (a.eval x)) {t : TypeId} {x i : Operand} {ok : Bool} (ho : o.op = .lookup t x i ok) :
    Snd P base σ F h w a o (lookupDo P (getO h) nid t (ρ x) (ρ i) ok) := by
  unfold lookupDo
  split
  · rename_i kt vt hu
    split
    · rename_i kd ag z hkd hag
      have hz : zeroOf P ag vt = some z := by
        cases h1 : agOf P vt with
        | none => simp [h1] at hag
        | some ag' =>
          cases h2 : zeroOf P ag' vt with
          | none => simp [h1, h2] at hag
          | some z' => simp [h1, h2] at hag; obtain ⟨rfl, rfl⟩ := hag; exact h2
      obtain ⟨zy, hzr, hzv⟩ := zeroOf_run (σ := σ) (F := F) (w := w) hz
      have hx := hρ x
      have hi := hρ i
      generalize hvx : ρ x = vx at hx
      generalize hyx : a.eval x = yx at hx
      dsimp only
      split
      · cases hx
        split
        · rename_i k hk
          obtain ⟨hki, hok⟩ := keyOf_eq hk hi
          have hck := (find_entry (w := w) (es := #[]) hkd hok (by simp)).1
          refine Fin.here g (x := if ok = true then .tuple #[zy, .bool false] else zy) ?_ (okV_rv hzv)
          have hfk : (Instr.findKey kt k []).run P w = .ok none w := by
            rcases (find_entry (w := w) (es := #[]) hkd hok (by simp)).2 with ⟨h1, _⟩ | ⟨j, e, _, h2, _⟩
            · exact h1
            · simp at h2
          simp only [execOp, ho, hyx, hki]
          simp [Instr.lookup, run_underlying hu, hck, hfk, hzr]
        · trivial
      · rename_i l
        cases hx with
        | mp hs =>
          split
          · rename_i kd' ag' n ov has get sub its hO
            refine snd_cond (fun _ => True.intro) fun hb => ?_
            simp only [Bool.not_eq_false', Bool.and_eq_true] at hb
            obtain rfl := kkEq_eq hb.1
            obtain rfl := bEq_eq hb.2
            split
            · rename_i k hk
              obtain ⟨hki, hok⟩ := keyOf_eq hk hi
              obtain ⟨t', b, es, clk, e1, e2, m⟩ := map_at g hO
              rw [hs] at e1; cases e1
              obtain ⟨hck, hfind⟩ := find_entry (w := w) hkd hok m.keys
              have hyes : ∀ e ∈ es.toList, e.key = k → (execOp a.eval o).run P w = .ok (.value (if ok = true then .tuple #[e.val, .bool true] else e.val)) w := fun e he hek => by
                rcases hfind with ⟨_, h2⟩ | ⟨j, e', h1, h2, h3⟩
                · exact (h2 e he hek).elim
                · have : e' = e := nodup_map_eq m.dist (List.mem_of_getElem? h2) he (h3.trans hek.symm)
                  subst this
                  simp only [execOp, ho, hyx, hki]
                  simp [Instr.lookup, run_underlying hu, run_getMap e2, hck, h1]
              refine snd_lookDo ov (fun cs hf => ?_) (fun hf => ?_) fun hf hh => ?_
              · obtain ⟨e, he, hek⟩ := (m.at hok).1 (by rw [presB_find, hf]; rfl)
                have hv := ((m.at hok).2.2 e he hek).2
                unfold VA at hv
                rw [hf] at hv
                exact Fin.here g (hyes e he hek) (okV_rv hv.val)
              · have hno := (m.at hok).2.1 hf
                rcases hfind with ⟨h1, _⟩ | ⟨j, e', _, h2, h3⟩
                · refine Fin.here g (x := if ok = true then .tuple #[zy, .bool false] else zy) ?_ (okV_rv hzv)
                  simp only [execOp, ho, hyx, hki]
                  simp [Instr.lookup, run_underlying hu, run_getMap e2, hck, h1, hzr]
                · exact (hno e' (List.mem_of_getElem? h2) h3).elim
              · exact base_snd g hn hO ⟨hok, hf, hh⟩ hs e2 (Y := fun y => if ok = true then .tuple #[y, .bool true] else y) (fun σ' v y hv => okV_rv hv) hyes
            · trivial
          · trivial
      · trivial
    · trivial
  · trivial

/-! ### writing -/

theorem setB_other {w : World} {b k : Nat} {o : Obj} (hk : k ≠ b) : (w.heap.setIfInBounds b o)[k]? = w.heap[k]? := by simp [Ne.symm hk]

/-- A map's entries turn. -/
theorem upd_map (g : Gm base σ F h w) {l : Nat} {kd : KK} {ag : Bool} {n n' : Nat} {ov ov' : List (Value × Option (List V))} {has : Value → Bool} {get : Value → List V} {sub : Value → List SO}
    {its : List (Nat × (Value → Bool) × Option Value)} (hO : getO h l = .map kd ag n ov has get sub its) {b : Nat} {es es' : Array MapEntry} {clk clk' : Nat} (hl : σ l = some (.map (some b))) (hb : w.heap[b]? = some (.map es clk))
    (hm : ∀ t w', (∀ k, k ≠ b → w'.heap[k]? = w.heap[k]?) → MapR F σ t w b es clk kd ag n ov has get sub its → MapR F σ t w' b es' clk' kd ag n' ov' has get sub [] ∧ ∀ k, Bk kd ov' has k → Bk kd ov has k) :
    Gm base σ F (putO h l (.map kd ag n' ov' has get sub [])) { w with heap := w.heap.setIfInBounds b (.map es' clk') } ∧ Kp base w { w with heap := w.heap.setIfInBounds b (.map es' clk') } := by
  have hlt : b < w.heap.size := (Array.getElem?_eq_some_iff.1 hb).1
  have hnb := (g.own l b (by rw [hO, hl]; rfl)).1
  refine ⟨g.updM (by simp) fun t ht => ?_, ⟨rfl, rfl, rfl, by simp, fun k hk => setB_other (fun e => hnb (e ▸ hk))⟩⟩
  rw [hO, hl] at ht ⊢
  obtain ⟨b2, es2, clk2, e1, e2, m⟩ := ht
  cases e1
  rw [hb] at e2; cases e2
  obtain ⟨m', hbk⟩ := hm t { w with heap := w.heap.setIfInBounds b (.map es' clk') } (fun k hk => setB_other hk) m
  have hnew : ({ w with heap := w.heap.setIfInBounds b (.map es' clk') } : World).heap[b]? = some (.map es' clk') := by simp [hlt]
  refine ⟨fun k _ hk => setB_other fun e => hk (.inl (by rw [e]; rfl)), ⟨b, es', clk', rfl, hnew⟩, t, ⟨b, es', clk', rfl, hnew, m'⟩, fun k hk => ?_⟩
  rcases hk with hk | hk
  · exact .inl hk
  · rcases hk with ⟨k', j, so, h1, h2, h3⟩ | ⟨q, x, hq, _⟩
    · exact .inr (.inl ⟨k', j, so, hbk k' h1, h2, h3⟩)
    · cases hq

theorem VA_put {t : Tau} {ag : Bool} {ov : List (Value × Option (List V))} {get : Value → List V} {kd : KK} {k k' x : Value} {c : Option (List V)} (h : VA F σ t ag ov get k' x) (hk : kd.ok k = true) (hk' : kd.ok k' = true) (hne : k' ≠ k) : VA F σ t ag ((k, c) :: ov) get k' x := by
  have : findOv k' ((k, c) :: ov) = findOv k' ov := by
    show (bif keq k' k then some c else findOv k' ov) = _
    rw [keq_ne hk' hk hne]; rfl
  unfold VA at *
  rw [this]; exact h
theorem Bk_put {kd : KK} {ov : List (Value × Option (List V))} {has : Value → Bool} {k k' : Value} {c : Option (List V)} (h : Bk kd ((k, c) :: ov) has k') : Bk kd ov has k' ∧ k' ≠ k := by
  have h2 : (bif keq k' k then some c else findOv k' ov) = none := h.2.1
  cases hq : keq k' k with
  | true => rw [hq] at h2; cases h2
  | false =>
    rw [hq] at h2
    exact ⟨⟨h.1, h2, h.2.2⟩, fun e => by subst e; rw [keq_self h.1] at hq; cases hq⟩
theorem presB_put {kd : KK} {ov : List (Value × Option (List V))} {has : Value → Bool} {k k' : Value} {c : Option (List V)} (hk : kd.ok k = true) (hk' : kd.ok k' = true) :
    presB ((k, c) :: ov) has k' = true ↔ (k' = k ∧ c.isSome = true) ∨ (k' ≠ k ∧ presB ov has k' = true) := by
  show (bif keq k' k then c.isSome else presB ov has k') = true ↔ _
  by_cases e : k' = k
  · subst e; rw [keq_self hk]; simp
  · rw [keq_ne hk' hk e]; simp [e]

/-- What a map's relation asks besides its entries: all that hangs on it stays. -/
theorem MapR.put {t : Tau} {b : Nat} {es es' : Array MapEntry} {clk clk' : Nat} {kd : KK} {ag : Bool} {n n' : Nat} {ov : List (Value × Option (List V))} {has : Value → Bool} {get : Value → List V} {sub : Value → List SO}
    {its : List (Nat × (Value → Bool) × Option Value)} (m : MapR F σ t w b es clk kd ag n ov has get sub its) {w' : World} (hw : ∀ k, k ≠ b → w'.heap[k]? = w.heap[k]?) {k : Value} {c : Option (List V)} (hk : kd.ok k = true)
    (hsz : es'.size = n') (hst : Stamped es' clk') (hkeys : ∀ e ∈ es'.toList, kd.ok e.key = true) (hmem : ∀ k', kd.ok k' = true → ((∃ e ∈ es'.toList, e.key = k') ↔ (k' = k ∧ c.isSome = true) ∨ (k' ≠ k ∧ ∃ e ∈ es.toList, e.key = k')))
    (hval : ∀ e ∈ es'.toList, (e.key = k ∧ ∃ cs, c = some cs ∧ VR F σ ag cs e.val) ∨ (e.key ≠ k ∧ ∃ e0 ∈ es.toList, e0.key = e.key ∧ e0.val = e.val)) :
    MapR F σ t w' b es' clk' kd ag n' ((k, c) :: ov) has get sub [] ∧ ∀ k', Bk kd ((k, c) :: ov) has k' → Bk kd ov has k' := by
  refine ⟨⟨hsz, hkeys, hst.2.2, hst.2.1, hst.1, fun k' hk' => ?_, fun e he => ?_, fun k' hk' j so hso => ?_, m.tone, fun k1 k2 j1 j2 s1 s2 b' h1 h2 => m.ssep k1 k2 j1 j2 s1 s2 b' (Bk_put h1).1 (Bk_put h2).1, fun q seen cur hq => (by cases hq), (by simp), fun q x q' x' bi hq => (by cases hq), fun k' j so q x bi _ _ _ hq => (by cases hq), ?_⟩, fun k' h => (Bk_put h).1⟩
  · rw [presB_put hk hk', hmem k' hk', m.mem k' hk']
  · rcases hval e he with ⟨h1, cs, rfl, h3⟩ | ⟨h1, e0, h2, h3, h4⟩
    · unfold VA
      have : findOv e.key ((k, some cs) :: ov) = some (some cs) := by
        show (bif keq e.key k then some (some cs) else findOv e.key ov) = _
        rw [h1, keq_self hk]; rfl
      rw [this]; exact h3
    · have := m.val e0 h2
      rw [h3, h4] at this
      exact VA_put this hk (hkeys e he) h1
  · refine (m.subs k' (Bk_put hk').1 j so hso).congr (Fle.refl _) (Sle.refl _) fun b' hb' => hw b' fun e => ?_
    subst e
    exact m.main (.inl ⟨k', j, so, (Bk_put hk').1, hso, hb'⟩)
  · rintro (⟨k', j, so, h1, h2, h3⟩ | ⟨q, x, hq, _⟩)
    · exact m.main (.inl ⟨k', j, so, (Bk_put h1).1, h2, h3⟩)
    · cases hq

theorem modify_mem {es : Array MapEntry} {j : Nat} {f : MapEntry → MapEntry} {e : MapEntry} (h : e ∈ (es.modify j f).toList) : ∃ i e0, es.toList[i]? = some e0 ∧ e = if i = j then f e0 else e0 := by
  obtain ⟨i, hi, rfl⟩ := List.getElem_of_mem h
  have hi' : i < es.size := by simpa using hi
  refine ⟨i, es[i], by simp [hi'], ?_⟩
  simp only [Array.getElem_toList, Array.getElem_modify]
  by_cases hc : j = i
  · subst hc; simp
  · rw [if_neg hc, if_neg (Ne.symm hc)]

theorem snd_update (g : Gm base σ F h w) (hρ : ∀ x, RV F σ (ρ x) (a.eval x)) {t : TypeId} {x i v : Operand} (ho : o.op = .mapUpdate t x i v ∨ o.op = .insert t x i v) :
    Snd P base σ F h w a o (updateDo P (getO h) t (ρ x) (ρ i) (ρ v)) := by
  have hex : execOp a.eval o = (do Instr.mapUpdate t (a.eval x) (a.eval i) (a.eval v); pure .skip : Sem Next) := by rcases ho with ho | ho <;> simp only [execOp, ho]
  unfold updateDo
  split
  · rename_i kt vt hu
    split
    · rename_i kd ag hkd hag
      have hx := hρ x
      generalize hvx : ρ x = vx at hx
      generalize hyx : a.eval x = yx at hx
      split
      · rename_i l
        cases hx with
        | mp hs =>
          split
          · rename_i kd' ag' n ov has get sub its hO
            refine snd_cond (fun _ => True.intro) fun hb => ?_
            simp only [Bool.not_eq_false', Bool.and_eq_true] at hb
            obtain rfl := kkEq_eq hb.1
            obtain rfl := bEq_eq hb.2
            split
            · rename_i k cs hk hcs
              obtain ⟨hki, hok⟩ := keyOf_eq hk (hρ i)
              have hv := entryCs_vr g.one hcs (hρ v)
              obtain ⟨t', b, es, clk, e1, e2, m⟩ := map_at g hO
              rw [hs] at e1; cases e1
              obtain ⟨d, hd, hall⟩ := isKey_all hkd
              obtain ⟨hck, hfind⟩ := find_entry (w := w) hkd hok m.keys
              have fin : ∀ {es' clk'}, (Instr.mapUpdate t (.map (some b)) k (a.eval v)).run P w = .ok () { w with heap := w.heap.setIfInBounds b (.map es' clk') } →
                  (∀ t w', (∀ k, k ≠ b → w'.heap[k]? = w.heap[k]?) → MapR F σ t w b es clk kd' ag' n ov has get sub its → MapR F σ t w' b es' clk' kd' ag' (bif presB ov has k then n else n + 1) ((k, some cs) :: ov) has get sub [] ∧ ∀ k', Bk kd' ((k, some cs) :: ov) has k' → Bk kd' ov has k') →
                  Snd P base σ F h w a o (.val .any [(l, .map kd' ag' (bif presB ov has k then n else n + 1) ((k, some cs) :: ov) has get sub [])]) := by
                intro es' clk' hrun hmr
                obtain ⟨g', hkp⟩ := upd_map g hO hs e2 hmr
                refine .inr (.inl ⟨_, ?_, σ, F, g', .any, Sle.refl _, FExt.refl _ _, hkp⟩)
                rw [hex, hyx, hki, Sem.run_bind, hrun]
                rfl
              rcases hfind with ⟨h1, h2⟩ | ⟨j, e, h1, h2, h3⟩
              · refine fin (es' := es.push { key := k, val := a.eval v, born := clk }) (clk' := clk + 1) ?_ fun t2 w' hw' m => ?_
                · simp [Instr.mapUpdate, run_underlying hu, run_getMap e2, hck, h1, run_setObj_map _ e2]
                · have hpn : presB ov has k = false := by
                    cases hp : presB ov has k with
                    | false => rfl
                    | true => obtain ⟨e, he, hek⟩ := (m.at hok).1 hp; exact (h2 e he hek).elim
                  rw [hpn]
                  refine m.put hw' hok (by simp [m.size]) (stamped_push ⟨m.bornL, m.bornD, m.dist⟩ h2) (fun e he => ?_) (fun k' hk' => ?_) fun e he => ?_
                  · simp only [Array.toList_push, List.mem_append, List.mem_singleton] at he
                    rcases he with he | rfl
                    · exact m.keys e he
                    · exact hok
                  · simp only [Array.toList_push, List.mem_append, List.mem_singleton, Option.isSome_some, and_true]
                    constructor
                    · rintro ⟨e, he | rfl, hek⟩
                      · exact .inr ⟨fun hh => h2 e he (hek.trans hh), e, he, hek⟩
                      · exact .inl hek.symm
                    · rintro (rfl | ⟨_, e, he, hek⟩)
                      · exact ⟨_, .inr rfl, rfl⟩
                      · exact ⟨e, .inl he, hek⟩
                  · simp only [Array.toList_push, List.mem_append, List.mem_singleton] at he
                    rcases he with he | rfl
                    · exact .inr ⟨h2 e he, e, he, rfl, rfl⟩
                    · exact .inl ⟨rfl, cs, rfl, hv⟩
              · have hj : es[j]? = some e := by simpa using h2
                refine fin (es' := es.modify j fun e => { e with key := k, val := a.eval v }) (clk' := clk) ?_ fun t2 w' hw' m => ?_
                · have hkt := run_keyThatStays (P := P) (w := w) (hall k hok)
                  simp [Instr.mapUpdate, run_underlying hu, run_getMap e2, hck, h1, hj, h3, hkt, run_setObj_map _ e2]
                · have hpt : presB ov has k = true := (m.mem k hok).2 ⟨e, List.mem_of_getElem? h2, h3⟩
                  rw [hpt]
                  have hkey : ∀ e0, es[j]? = some e0 → ({ e0 with key := k, val := a.eval v } : MapEntry).key = e0.key := fun e0 he0 => by rw [hj] at he0; cases he0; exact h3.symm
                  refine m.put hw' hok (by simp [m.size]) (stamped_modify ⟨m.bornL, m.bornD, m.dist⟩ j _ (fun _ _ => rfl) fun e0 _ he0 => hkey e0 he0) (fun e he => ?_) (fun k' hk' => ?_) fun e he => ?_
                  · obtain ⟨i0, e0, he0, rfl⟩ := modify_mem he
                    split
                    · exact hok
                    · exact m.keys e0 (List.mem_of_getElem? he0)
                  · have hks := modify_keys j (fun e => { e with key := k, val := a.eval v }) hkey
                    have : (∃ e ∈ (es.modify j fun e => { e with key := k, val := a.eval v }).toList, e.key = k') ↔ ∃ e ∈ es.toList, e.key = k' := by
                      rw [← List.mem_map (f := fun e : MapEntry => e.key), ← List.mem_map (f := fun e : MapEntry => e.key), hks]
                    rw [this]
                    by_cases hkk : k' = k
                    · subst hkk; simp only [Option.isSome_some, and_self, ne_eq, not_true_eq_false, false_and, or_false, iff_true]; exact ⟨e, List.mem_of_getElem? h2, h3⟩
                    · simp [hkk]
                  · obtain ⟨i0, e0, he0, rfl⟩ := modify_mem he
                    by_cases hij : i0 = j
                    · rw [if_pos hij]; exact .inl ⟨rfl, cs, rfl, hv⟩
                    · rw [if_neg hij]
                      refine .inr ⟨fun hek => hij ?_, e0, List.mem_of_getElem? he0, rfl, rfl⟩
                      have hnd := m.dist
                      unfold List.Nodup at hnd
                      rw [List.pairwise_iff_getElem] at hnd
                      have l1 : i0 < es.toList.length := (List.getElem?_eq_some_iff.1 he0).1
                      have l2 : j < es.toList.length := (List.getElem?_eq_some_iff.1 h2).1
                      have q1 : (es.toList.map (·.key))[i0]'(by simpa using l1) = k := by simp only [List.getElem_map]; rw [(List.getElem?_eq_some_iff.1 he0).2]; exact hek
                      have q2 : (es.toList.map (·.key))[j]'(by simpa using l2) = k := by simp only [List.getElem_map]; rw [(List.getElem?_eq_some_iff.1 h2).2]; exact h3
                      rcases Nat.lt_trichotomy i0 j with hlt | heq | hgt
                      · exact (hnd i0 j (by simpa using l1) (by simpa using l2) hlt (q1.trans q2.symm)).elim
                      · exact heq
                      · exact (hnd j i0 (by simpa using l2) (by simpa using l1) hgt (q2.trans q1.symm)).elim
            · trivial
          · trivial
      · trivial
    · trivial
  · trivial

theorem snd_delete (g : Gm base σ F h w) (hρ : ∀ x, RV F σ (ρ x) (a.eval x)) {c : Call} (ho : o.op = .call c) (hc : c.callee = .builtin .delete) {x i : Operand} {t : TypeId} (hargs : c.args.toList = [x, i]) (ht : c.argTypes[0]? = some t) :
    Snd P base σ F h w a o (deleteDo P (getO h) t (ρ x) (ρ i)) := by
  have hargs' : c.args = #[x, i] := by rw [← Array.toList_inj]; simpa using hargs
  have hrun0 := call_bi (a := a) ho hc
  rw [hargs'] at hrun0
  unfold deleteDo
  split
  · rename_i kt vt hu
    split
    · rename_i kd ag hkd hag
      have hx := hρ x
      generalize hvx : ρ x = vx at hx
      generalize hyx : a.eval x = yx at hx
      split
      · rename_i l
        cases hx with
        | mp hs =>
          split
          · rename_i kd' ag' n ov has get sub its hO
            refine snd_cond (fun _ => True.intro) fun hb => ?_
            simp only [Bool.not_eq_false', Bool.and_eq_true] at hb
            obtain rfl := kkEq_eq hb.1
            obtain rfl := bEq_eq hb.2
            split
            · rename_i k hk
              obtain ⟨hki, hok⟩ := keyOf_eq hk (hρ i)
              obtain ⟨t', b, es, clk, e1, e2, m⟩ := map_at g hO
              rw [hs] at e1; cases e1
              obtain ⟨hck, hfind⟩ := find_entry (w := w) hkd hok m.keys
              have fin : ∀ {es' clk'}, (Builtin.delete_ c.argTypes o.type #[.map (some b), k]).run P w = .ok (.tuple #[]) { w with heap := w.heap.setIfInBounds b (.map es' clk') } →
                  (∀ t w', (∀ k, k ≠ b → w'.heap[k]? = w.heap[k]?) → MapR F σ t w b es clk kd' ag' n ov has get sub its → MapR F σ t w' b es' clk' kd' ag' (bif presB ov has k then n - 1 else n) ((k, none) :: ov) has get sub [] ∧ ∀ k', Bk kd' ((k, none) :: ov) has k' → Bk kd' ov has k') →
                  Snd P base σ F h w a o (.val (.kn (.tuple #[])) [(l, .map kd' ag' (bif presB ov has k then n - 1 else n) ((k, none) :: ov) has get sub [])]) := by
                intro es' clk' hrun hmr
                obtain ⟨g', hkp⟩ := upd_map g hO hs e2 hmr
                refine Fin.val (x := .tuple #[]) ?_ ⟨σ, F, g', .kn, Sle.refl _, FExt.refl _ _, hkp⟩
                rw [hrun0]
                simp [builtin, hyx, hki, hrun]
              rcases hfind with ⟨h1, h2⟩ | ⟨j, e, h1, h2, h3⟩
              · refine fin (es' := es) (clk' := clk) ?_ fun t2 w' hw' m => ?_
                · simp [Builtin.delete_, ht, run_underlying hu, run_getMap e2, hck, h1, run_setObj_map _ e2]
                · have hpn : presB ov has k = false := by
                    cases hp : presB ov has k with
                    | false => rfl
                    | true => obtain ⟨e, he, hek⟩ := (m.at hok).1 hp; exact (h2 e he hek).elim
                  rw [hpn]
                  refine m.put hw' hok m.size ⟨m.bornL, m.bornD, m.dist⟩ m.keys (fun k' hk' => ?_) fun e he => .inr ⟨h2 e he, e, he, rfl, rfl⟩
                  simp only [Option.isSome_none, Bool.false_eq_true, and_false, false_or]
                  exact ⟨fun ⟨e, he, hek⟩ => ⟨fun hh => h2 e he (hek.trans hh), e, he, hek⟩, fun h => h.2⟩
              · have hlt : j < es.size := by have := (List.getElem?_eq_some_iff.1 h2).1; simpa using this
                have hel : (es.eraseIdxIfInBounds j).toList = es.toList.eraseIdx j := by simp [Array.eraseIdxIfInBounds, hlt]
                have hmem : ∀ e0, e0 ∈ (es.eraseIdxIfInBounds j).toList ↔ e0 ∈ es.toList ∧ e0.key ≠ k := fun e0 => by
                  rw [hel, List.mem_eraseIdx_iff_getElem?]
                  constructor
                  · rintro ⟨i0, hi0, hg0⟩
                    refine ⟨List.mem_of_getElem? hg0, fun hek => hi0 ?_⟩
                    have hnd := m.dist
                    unfold List.Nodup at hnd
                    rw [List.pairwise_iff_getElem] at hnd
                    have l1 : i0 < es.toList.length := (List.getElem?_eq_some_iff.1 hg0).1
                    have l2 : j < es.toList.length := (List.getElem?_eq_some_iff.1 h2).1
                    have q1 : (es.toList.map (·.key))[i0]'(by simpa using l1) = k := by simp only [List.getElem_map]; rw [(List.getElem?_eq_some_iff.1 hg0).2]; exact hek
                    have q2 : (es.toList.map (·.key))[j]'(by simpa using l2) = k := by simp only [List.getElem_map]; rw [(List.getElem?_eq_some_iff.1 h2).2]; exact h3
                    rcases Nat.lt_trichotomy i0 j with hlt | heq | hgt
                    · exact (hnd i0 j (by simpa using l1) (by simpa using l2) hlt (q1.trans q2.symm)).elim
                    · exact heq
                    · exact (hnd j i0 (by simpa using l2) (by simpa using l1) hgt (q2.trans q1.symm)).elim
                  · rintro ⟨hm0, hne⟩
                    obtain ⟨i0, hi0⟩ := List.getElem?_of_mem hm0
                    exact ⟨i0, fun hh => hne (by subst hh; rw [h2] at hi0; cases hi0; exact h3), hi0⟩
                refine fin (es' := es.eraseIdxIfInBounds j) (clk' := clk) ?_ fun t2 w' hw' m => ?_
                · simp [Builtin.delete_, ht, run_underlying hu, run_getMap e2, hck, h1, run_setObj_map _ e2]
                · have hpt : presB ov has k = true := (m.mem k hok).2 ⟨e, List.mem_of_getElem? h2, h3⟩
                  rw [hpt]
                  refine m.put hw' hok ?_ (stamped_erase ⟨m.bornL, m.bornD, m.dist⟩ j) (fun e0 he0 => m.keys e0 ((hmem e0).1 he0).1) (fun k' hk' => ?_) fun e0 he0 => .inr ⟨((hmem e0).1 he0).2, e0, ((hmem e0).1 he0).1, rfl, rfl⟩
                  · have : (es.eraseIdxIfInBounds j).toList.length = n - 1 := by rw [hel, List.length_eraseIdx, if_pos (by simpa using hlt)]; simp [m.size]
                    rw [Array.length_toList] at this
                    exact this
                  · simp only [Option.isSome_none, Bool.false_eq_true, and_false, false_or]
                    constructor
                    · rintro ⟨e0, he0, hek⟩
                      have := (hmem e0).1 he0
                      exact ⟨fun hh => this.2 (hek.trans hh), e0, this.1, hek⟩
                    · rintro ⟨hne, e0, he0, hek⟩
                      exact ⟨e0, (hmem e0).2 ⟨he0, fun hh => hne (hek.symm.trans hh)⟩, hek⟩
            · trivial
          · trivial
      · trivial
    · trivial
  · trivial

theorem MapR.nil (F : Fz) (σ : Sig) (w : World) (b : Nat) (kd : KK) (ag : Bool) : MapR F σ (fun _ _ => none) w b #[] 0 kd ag 0 [] (fun _ => false) (fun _ => []) (fun _ => []) [] where
  size := rfl
  keys := fun e he => by simp at he
  dist := by simp
  bornD := by simp
  bornL := fun e he => by simp at he
  mem := fun k _ => by simp [presB]
  val := fun e he => by simp at he
  subs := fun k hk => (Bool.false_ne_true hk.2.2).elim
  tone := fun _ _ _ e => by cases e
  ssep := fun k k' j j' so so' b hk => (Bool.false_ne_true hk.2.2).elim
  itsR := fun q seen cur hq => by cases hq
  itsD := by simp
  itsB := fun q x q' x' bi hq => by cases hq
  itsS := fun k j so q x bi hk => (Bool.false_ne_true hk.2.2).elim
  main := by
    rintro (⟨k, j, so, hk, _⟩ | ⟨q, x, hq, _⟩)
    · exact Bool.false_ne_true hk.2.2
    · cases hq

theorem snd_makeMap (g : Gm base σ F h w) (hbase : Und base w.heap.size) (hn : getO h nid = .hole) (hρ : ∀ x, RV F σ (ρ x) (a.eval x)) {t : TypeId} {r : Option Operand} (ho : o.op = .makeMap t r) :
    Snd P base σ F h w a o (makeMapDo P nid ρ t r) := by
  unfold makeMapDo
  refine snd_cond (fun _ => True.intro) fun hhint => ?_
  split
  · rename_i kt vt hu
    split
    · rename_i kd ag hkd hag
      have hrun : (execOp a.eval o).run P w = .ok (.value (.map (some w.heap.size))) (w.alloc (.map #[] 0)) := by
        cases r with
        | none => simp [execOp, ho, Instr.makeMap]
        | some x =>
          simp only [Bool.not_eq_false', hintOk] at hhint
          split at hhint
          · rename_i k z hx
            have := hρ x
            rw [hx] at this
            generalize hy : a.eval x = y at this
            cases this
            simp [execOp, ho, hy, Instr.makeMap, run_underlying hu, asInt, asIntOf]
          · cases hhint
      have hs : σ nid = none := by have := g.obj nid; rw [hn] at this; exact this
      have hbel := below_alloc w (.map #[] 0)
      have hnew : (w.alloc (.map #[] 0)).heap[w.heap.size]? = some (.map #[] 0) := heap_alloc_new w _
      refine Fin.val hrun ⟨_, F, g.newM (t := fun _ _ => none) (o := .map kd ag 0 [] (fun _ => false) (fun _ => []) (fun _ => []) []) hn hbase hbel.size hbel.block ⟨_, _, _, rfl, hnew⟩ ⟨_, _, _, rfl, hnew, ?_⟩ ?_, .mp (by simp [sput]), sput_le hs, FExt.refl _ _, hbel.under hbase⟩
      · exact MapR.nil _ _ _ _ _ _
      · rintro b (hb | ⟨k, j, so, hk, _⟩ | ⟨q, x, hq, _⟩)
        · simp [ob] at hb; subst hb; simp
        · exact (Bool.false_ne_true hk.2.2).elim
        · cases hq
    · trivial
  · trivial

/-! ### going through a map -/

theorem GmT.updN {τ : Nat → Tau} (g : GmT τ base σ F h w) {l : Nat} {o : O} {t' : Tau} {bn : Nat} (hbn : ¬ base bn ∧ bn < w.heap.size ∧ F bn = none ∧ ∀ i, ¬ ab σ (τ i) (getO h i) (σ i) bn)
    (ho : OR F σ w o (σ l)) (hm : MR F σ t' w o (σ l)) (hab : ∀ b, ab σ t' o (σ l) b → ab σ (τ l) (getO h l) (σ l) b ∨ b = bn) : GmT (tput τ l t') base σ F (putO h l o) w := by
  have hget : ∀ i b, ab σ (tput τ l t' i) (getO (putO h l o) i) (σ i) b → ab σ (τ i) (getO h i) (σ i) b ∨ (i = l ∧ b = bn) := fun i b e => by
    rw [getO_putO] at e
    by_cases hi : i = l
    · subst hi; simp only [if_true, tput] at e; exact (hab b e).imp id fun hh => ⟨rfl, hh⟩
    · exact .inl (by simpa only [hi, if_false, tput] using e)
  refine ⟨fun i => ?_, fun i => ?_, fun i b e => ?_, fun i i' b e e' => ?_, g.fz⟩
  · rw [getO_putO]
    by_cases hi : i = l
    · subst hi; simpa using ho
    · simp only [hi, if_false]; exact g.obj i
  · rw [getO_putO]
    by_cases hi : i = l
    · subst hi; simpa [tput] using hm
    · simp only [hi, if_false, tput]; exact g.mp i
  · rcases hget i b e with h1 | ⟨_, rfl⟩
    · exact g.own i b h1
    · exact ⟨hbn.1, hbn.2.1, hbn.2.2.1⟩
  · rcases hget i b e with h1 | ⟨h1, rfl⟩ <;> rcases hget i' b e' with h2 | ⟨h2, h3⟩
    · exact g.sep i i' b h1 h2
    · subst h3; exact (hbn.2.2.2 i h1).elim
    · exact (hbn.2.2.2 i' h2).elim
    · rw [h1, h2]

theorem snd_range (g : Gm base σ F h w) (hbase : Und base w.heap.size) (hn : getO h nid = .hole) (hρ : ∀ x, RV F σ (ρ x) (a.eval x)) {t : TypeId} {x : Operand} (ho : o.op = .range t x) :
    Snd P base σ F h w a o (rangeDo P (getO h) nid t (ρ x)) := by
  have hs : σ nid = none := by have := g.obj nid; rw [hn] at this; exact this
  unfold rangeDo
  have hx := hρ x
  generalize hvx : ρ x = vx at hx
  generalize hyx : a.eval x = yx at hx
  split
  · rename_i s hu
    cases hx
    have hbel := below_alloc w (.stringIter s 0)
    have hrun : (execOp a.eval o).run P w = .ok (.value (.pointer (some ⟨w.heap.size, 0, none⟩))) (w.alloc (.stringIter s 0)) := by
      simp [execOp, ho, hyx, Instr.range, run_underlying hu]
    refine Fin.val hrun ⟨_, F, g.new (o := .siter s 0) hn hbase hbel.size hbel.block ⟨_, rfl, heap_alloc_new w _⟩ (fun b hb => ?_), .it (by simp [sput]), sput_le hs, FExt.refl _ _, hbel.under hbase⟩
    simp [ob] at hb; subst hb; simp
  · rename_i l hu
    cases hx with
    | mp hsl =>
      split
      · rename_i kd ag n ov has get sub its hO
        obtain ⟨τ, g⟩ := g
        have hmp := g.mp l
        rw [hO, hsl] at hmp
        obtain ⟨b, es, clk, e1, e2, m⟩ := hmp
        cases e1
        have hbel := below_alloc w (.mapIter (some b) clk #[] clk)
        have hrun : (execOp a.eval o).run P w = .ok (.value (.pointer (some ⟨w.heap.size, 0, none⟩))) (w.alloc (.mapIter (some b) clk #[] clk)) := by
          simp [execOp, ho, hyx, Instr.range, run_underlying hu, run_getMap e2]
        have hne : l ≠ nid := fun e => by subst e; rw [hn] at hO; cases hO
        have g1 := g.more (l := nid) (o := .iter l) (x := .pointer (some ⟨w.heap.size, 0, none⟩)) (t := fun _ _ => none) hn hbel.size hbel.block ⟨_, rfl⟩ trivial (fun b hb => by rcases hb with hb | hb <;> cases hb)
        have hle := sput_le (x := .pointer (some ⟨w.heap.size, 0, none⟩)) hs
        have hl1 : sput σ nid (.pointer (some ⟨w.heap.size, 0, none⟩)) l = some (.map (some b)) := by simp [sput, hne, hsl]
        have hO1 : getO (putO h nid (.iter l)) l = .map kd ag n ov has get sub its := by rw [getO_putO, if_neg hne]; exact hO
        have hblt : b < w.heap.size := (Array.getElem?_eq_some_iff.1 e2).1
        have hb1 : (w.alloc (.mapIter (some b) clk #[] clk)).heap[b]? = some (.map es clk) := by have := hbel.block b hblt; rw [this]; exact e2
        have ownlt : ∀ i b', ab (sput σ nid (.pointer (some ⟨w.heap.size, 0, none⟩))) (tput τ nid (fun _ _ => none) i) (getO (putO h nid (.iter l)) i) (sput σ nid (.pointer (some ⟨w.heap.size, 0, none⟩)) i) b' → b' < w.heap.size := fun i b' e => by
          rw [getO_putO] at e
          by_cases hi : i = nid
          · subst hi; rw [if_pos rfl] at e; rcases e with e | e
            · simp [ob] at e
            · exact e.elim
          · rw [if_neg hi] at e
            simp only [tput, sput, if_neg hi] at e
            exact (g.own i b' (ab_le (g.mp i) hle e)).2.1
        have hqn : ∀ x, (nid, x) ∈ its → False := fun x hx => by obtain ⟨y, hy⟩ := m.its_some nid x hx; rw [hs] at hy; cases hy
        have m1 : MapR F (sput σ nid (.pointer (some ⟨w.heap.size, 0, none⟩))) (τ l) (w.alloc (.mapIter (some b) clk #[] clk)) b es clk kd ag n ov has get sub its :=
          m.congr (Fle.refl _) hle fun b' hb' => hbel.block b' (g.own l b' (.inr (by rw [hO]; exact hb'))).2.1
        have hit : ∀ q x, (q, x) ∈ its → ∃ bi, sput σ nid (.pointer (some ⟨w.heap.size, 0, none⟩)) q = some (.pointer (some ⟨bi, 0, none⟩)) ∧ bi < w.heap.size := fun q x hq => by
          obtain ⟨bi, sa, r1, r2, _⟩ := m.itsR q x.1 x.2 hq
          exact ⟨bi, hle _ _ r1, (Array.getElem?_eq_some_iff.1 r2).1⟩
        have hnidv : sput σ nid (.pointer (some ⟨w.heap.size, 0, none⟩)) nid = some (.pointer (some ⟨w.heap.size, 0, none⟩)) := by simp [sput]
        have subl : ∀ k j so b', Bk kd ov has k → (sub k)[j]? = some so → ob so.o (τ l k j) = some b' → b' < w.heap.size := fun k j so b' h1 h2 h3 => (g.own l b' (.inr (by rw [hO]; exact .inl ⟨k, j, so, h1, h2, h3⟩))).2.1
        have m2 : MapR F (sput σ nid (.pointer (some ⟨w.heap.size, 0, none⟩))) (τ l) (w.alloc (.mapIter (some b) clk #[] clk)) b es clk kd ag n ov has get sub ((nid, (fun _ => false), none) :: its) := by
          refine ⟨m1.size, m1.keys, m1.dist, m1.bornD, m1.bornL, m1.mem, m1.val, m1.subs, m1.tone, m1.ssep, fun q seen cur hq => ?_, ?_, fun q x q' x' bi h1 h2 h3 h4 => ?_, fun k j so q x bi h1 h2 h3 h4 h5 => ?_, ?_⟩
          · rcases List.mem_cons.1 hq with hq | hq
            · cases hq
              exact ⟨w.heap.size, #[], hnidv, heap_alloc_new w _, fun e he => by simp, fun c hc => by cases hc⟩
            · exact m1.itsR q seen cur hq
          · simp only [List.map_cons, List.nodup_cons]
            refine ⟨fun hh => ?_, m1.itsD⟩
            obtain ⟨⟨q, x⟩, hq, e⟩ := List.mem_map.1 hh
            simp only at e; subst e
            exact hqn x hq
          · rcases List.mem_cons.1 h1 with h1 | h1 <;> rcases List.mem_cons.1 h2 with h2 | h2
            · cases h1; cases h2; rfl
            · cases h1
              obtain ⟨bi', r1, r2⟩ := hit q' x' h2
              rw [hnidv] at h3; cases h3
              rw [r1] at h4; cases h4
              omega
            · cases h2
              obtain ⟨bi', r1, r2⟩ := hit q x h1
              rw [hnidv] at h4; cases h4
              rw [r1] at h3; cases h3
              omega
            · exact m1.itsB q x q' x' bi h1 h2 h3 h4
          · rcases List.mem_cons.1 h4 with h4 | h4
            · cases h4
              rw [hnidv] at h5; cases h5
              have := subl k j so _ h1 h2 h3
              omega
            · exact m1.itsS k j so q x bi h1 h2 h3 h4 h5
          · rintro (hh | ⟨q, x, hq, hh⟩)
            · exact m1.main (.inl hh)
            · rcases List.mem_cons.1 hq with hq | hq
              · cases hq
                rw [hnidv] at hh; cases hh
                omega
              · exact m1.main (.inr ⟨q, x, hq, hh⟩)
        have hF : F w.heap.size = none := by
          cases hf : F w.heap.size with
          | none => rfl
          | some o => have := (Array.getElem?_eq_some_iff.1 (g.fz _ o hf)).1; omega
        have g2 := g1.updN (l := l) (o := .map kd ag n ov has get sub ((nid, (fun _ => false), none) :: its)) (t' := τ l) (bn := w.heap.size) ⟨fun hh => by have := hbase _ hh; omega, by simp, hF, fun i hi => by have := ownlt i _ hi; omega⟩
          (by rw [hl1]; exact ⟨b, es, clk, rfl, hb1⟩) (by rw [hl1]; exact ⟨b, es, clk, rfl, hb1, m2⟩) (fun b' hb' => by
            rw [hl1] at hb' ⊢
            rw [hO1]
            simp only [tput, if_neg hne]
            rcases hb' with hb' | hb' | ⟨q, x, hq, hh⟩
            · exact .inl (.inl hb')
            · exact .inl (.inr (.inl hb'))
            · rcases List.mem_cons.1 hq with hq | hq
              · cases hq
                rw [hnidv] at hh; cases hh
                exact .inr rfl
              · exact .inl (.inr (.inr ⟨q, x, hq, hh⟩)))
        exact Fin.val hrun ⟨_, F, ⟨_, g2⟩, .it hnidv, hle, FExt.refl _ _, hbel.under hbase⟩
      · trivial
  · trivial

theorem findIt_mem {q : Nat} {x : (Value → Bool) × Option Value} : ∀ {its : List (Nat × (Value → Bool) × Option Value)}, findIt q its = some x → (q, x) ∈ its
  | [], h => by cases h
  | (q', y) :: r, h => by
    replace h : (bif Nat.beq q q' then some y else findIt q r) = some x := h
    cases hb : Nat.beq q q' with
    | true =>
      rw [hb] at h
      have := Nat.eq_of_beq_eq_true hb
      subst this
      cases h
      exact List.mem_cons_self
    | false => rw [hb] at h; exact List.mem_cons_of_mem _ (findIt_mem h)

theorem setIt_fst (q : Nat) (x : (Value → Bool) × Option Value) : ∀ (its : List (Nat × (Value → Bool) × Option Value)), (setIt q x its).map (·.1) = its.map (·.1)
  | [] => rfl
  | (q', y) :: r => by
    show ((bif Nat.beq q q' then (q', x) :: r else (q', y) :: setIt q x r).map (·.1)) = _
    cases Nat.beq q q'
    · simp [setIt_fst q x r]
    · rfl
theorem setIt_mem {q q' : Nat} {x x' : (Value → Bool) × Option Value} : ∀ {its : List (Nat × (Value → Bool) × Option Value)}, (its.map (·.1)).Nodup → (q', x') ∈ setIt q x its → (q' = q ∧ x' = x) ∨ (q' ≠ q ∧ (q', x') ∈ its)
  | [], _, h => by cases h
  | (q0, y) :: r, hn, h => by
    simp only [List.map_cons, List.nodup_cons] at hn
    replace h : (q', x') ∈ (bif Nat.beq q q0 then (q0, x) :: r else (q0, y) :: setIt q x r) := h
    cases hb : Nat.beq q q0 with
    | true =>
      rw [hb] at h
      have := Nat.eq_of_beq_eq_true hb
      subst this
      rcases List.mem_cons.1 h with h | h
      · cases h; exact .inl ⟨rfl, rfl⟩
      · exact .inr ⟨fun e => hn.1 (List.mem_map.2 ⟨(q', x'), h, e⟩), List.mem_cons_of_mem _ h⟩
    | false =>
      rw [hb] at h
      have hne : q ≠ q0 := fun e => by subst e; simp at hb
      rcases List.mem_cons.1 h with h | h
      · cases h; exact .inr ⟨Ne.symm hne, List.mem_cons_self⟩
      · exact (setIt_mem hn.2 h).imp id fun ⟨h1, h2⟩ => ⟨h1, List.mem_cons_of_mem _ h2⟩

theorem snd_next (g : Gm base σ F h w) (hρ : ∀ x, RV F σ (ρ x) (a.eval x)) {x : Operand} {isS : Bool} (ho : o.op = .next x isS) :
    Snd P base σ F h w a o (nextDo (getO h) (ρ x) isS) := by
  unfold nextDo
  have hx := hρ x
  generalize hvx : ρ x = vx at hx
  generalize hyx : a.eval x = yx at hx
  split
  · rename_i q
    cases hx with
    | it hs =>
      split
      · rename_i s pos hO
        have hob := g.obj q
        rw [hO] at hob
        obtain ⟨b, e1, e2⟩ := hob
        rw [hs] at e1; cases e1
        have hgo : (getObj b).run P w = .ok (.stringIter s pos) w := by simp [getObj, Sem.run, e2]
        have hblt : b < w.heap.size := (Array.getElem?_eq_some_iff.1 e2).1
        cases hb : Nat.blt pos s.size with
        | true =>
          have hlt : pos < s.size := by simpa [Nat.blt_eq] using hb
          have hnb := (g.own q b (by rw [hO, hs]; rfl)).1
          have g' : Gm base σ F (putO h q (.siter s (pos + (Utf8.decode s pos).2))) { w with heap := w.heap.setIfInBounds b (.stringIter s (pos + (Utf8.decode s pos).2)) } := by
            refine g.upd (.inl (by rw [hO, hs]; rfl)) (by simp) (fun k _ hk => setB_other fun e => hk (by rw [hO, hs, e]; rfl)) ?_
            rw [hs]
            exact ⟨b, rfl, by simp [hblt]⟩
          have hset : (setObj b (.stringIter s (pos + (Utf8.decode s pos).2))).run P w = .ok () { w with heap := w.heap.setIfInBounds b (.stringIter s (pos + (Utf8.decode s pos).2)) } := by simp [setObj, Sem.run, e2]
          refine Fin.val (x := .tuple #[.bool true, .int .i64 pos, .int .i32 (Utf8.decode s pos).1]) ?_ ⟨σ, F, g', .tup rfl fun i u hu => ?_, Sle.refl _, FExt.refl _ _, ⟨rfl, rfl, rfl, by simp, fun k hk => setB_other (fun e => hnb (e ▸ hk))⟩⟩
          · simp [execOp, ho, hyx, Instr.next, hgo, hlt, hset, goInt]
          · match i, hu with
            | 0, hu => cases hu; exact .kn
            | 1, hu => cases hu; exact .kn
            | 2, hu => cases hu; exact .kn
        | false =>
          have hlt : ¬ pos < s.size := fun hh => by have h3 : Nat.blt pos s.size = true := (by simpa [Nat.blt_eq] using hh); rw [h3] at hb; cases hb
          refine Fin.here g (x := .tuple #[.bool false]) ?_ (.tup rfl fun i u hu => ?_)
          · simp [execOp, ho, hyx, Instr.next, hgo, hlt]
          · match i, hu with
            | 0, hu => cases hu; exact .kn
      · rename_i l hO
        split
        · rename_i kd ag n ov has get sub its hOl
          split
          · rename_i seen cur0 hf
            obtain ⟨τ, g⟩ := g
            have hmp := g.mp l
            rw [hOl] at hmp
            obtain ⟨b, es, clk, e1, e2, m⟩ := hmp
            have hmem := findIt_mem hf
            obtain ⟨bi, sa, r1, r2, r3, r4⟩ := m.itsR q seen cur0 hmem
            rw [hs] at r1; cases r1
            have hblt : b < w.heap.size := (Array.getElem?_eq_some_iff.1 e2).1
            have hilt : bi < w.heap.size := (Array.getElem?_eq_some_iff.1 r2).1
            have hib : b ≠ bi := fun e => by subst e; rw [e2] at r2; cases r2
            have hnb : ¬ base bi := (g.own l bi (.inr (by rw [hOl]; exact .inr ⟨q, _, hmem, hs⟩))).1
            have step : ∀ (e : MapEntry), e ∈ es.toList → ∀ w1 : World, (w1 = w ∨ w1 = w.drew) → (Instr.next (.pointer (some ⟨bi, 0, none⟩)) false o.type).run P w = .ok (.tuple #[.bool true, e.key, e.val]) (ChangeMaps.setBlock w1 bi (.mapIter (some b) clk (sa.push e.born) clk)) →
                Snd P base σ F h w a o (.val (.tup [.kn (.bool true), .kn e.key, .any]) [(l, .map kd ag n ov has get sub (setIt q (seenMore seen e.key, some e.key) its))]) := by
              intro e he w1 hw1 hrun
              have hheap : w1.heap = w.heap := by rcases hw1 with rfl | rfl <;> rfl
              have hoth : ∀ k, k ≠ bi → (ChangeMaps.setBlock w1 bi (.mapIter (some b) clk (sa.push e.born) clk)).heap[k]? = w.heap[k]? := fun k hk => by
                simp [ChangeMaps.setBlock, hheap, Ne.symm hk]
              have hbi : (ChangeMaps.setBlock w1 bi (.mapIter (some b) clk (sa.push e.born) clk)).heap[bi]? = some (.mapIter (some b) clk (sa.push e.born) clk) := by
                simp [ChangeMaps.setBlock, hheap, hilt]
              have hmE : ∀ q' x', (q', x') ∈ setIt q (seenMore seen e.key, some e.key) its → ∃ x0, (q', x0) ∈ its := fun q' x' hq => by
                rcases setIt_mem m.itsD hq with ⟨rfl, _⟩ | ⟨_, h2⟩
                · exact ⟨_, hmem⟩
                · exact ⟨x', h2⟩
              have hmb' : ∀ b', mbM σ (τ l) kd ov has sub (setIt q (seenMore seen e.key, some e.key) its) b' → mbM σ (τ l) kd ov has sub its b' := fun b' hh => by
                rcases hh with hh | ⟨q', x', h1, h2⟩
                · exact .inl hh
                · obtain ⟨x0, hx0⟩ := hmE q' x' h1
                  exact .inr ⟨q', x0, hx0, h2⟩
              have m' : MapR F σ (τ l) (ChangeMaps.setBlock w1 bi (.mapIter (some b) clk (sa.push e.born) clk)) b es clk kd ag n ov has get sub (setIt q (seenMore seen e.key, some e.key) its) := by
                refine ⟨m.size, m.keys, m.dist, m.bornD, m.bornL, m.mem, m.val, fun k hk j so hso => (m.subs k hk j so hso).congr (Fle.refl _) (Sle.refl _) fun b' hb' => hoth b' fun e => m.itsS k j so q _ b' hk hso hb' hmem (by rw [hs, e]), m.tone, m.ssep, fun q' seen' cur' hq => ?_, by rw [setIt_fst]; exact m.itsD,
                  fun q1 x1 q2 x2 bi' h1 h2 h3 h4 => ?_, fun k j so q' x' bi' h1 h2 h3 h4 => ?_, fun hh => m.main (hmb' b hh)⟩
                · rcases setIt_mem m.itsD hq with ⟨rfl, h2⟩ | ⟨hne, h2⟩
                  · cases h2
                    refine ⟨bi, sa.push e.born, hs, hbi, fun e' he' => ?_, fun c hc => ?_⟩
                    · have hee : (e.born = e'.born) ↔ (e'.key = e.key) := ⟨fun h => by rw [nodup_map_eq m.bornD he he' h], fun h => by rw [nodup_map_eq m.dist he' he h]⟩
                      have h5 := r3 e' he'
                      unfold seenMore
                      rw [Array.contains_push, h5]
                      cases hk : keq e'.key e.key with
                      | true =>
                        have := (keq_iff (m.keys e' he') (m.keys e he)).1 hk
                        have := hee.2 this
                        simp [this]
                      | false =>
                        have hne : ¬ e.born = e'.born := fun hh => by
                          rw [(keq_iff (m.keys e' he') (m.keys e he)).2 (hee.1 hh)] at hk; cases hk
                        have : (e'.born == e.born) = false := by simpa using fun hh => hne hh.symm
                        simp [this]
                    · cases hc
                      exact ⟨e, he, rfl, by simp⟩
                  · obtain ⟨bi', sa', s1, s2, s3⟩ := m.itsR q' seen' cur' h2
                    refine ⟨bi', sa', s1, ?_, s3⟩
                    rw [hoth bi' fun e => hne (m.itsB q' _ q _ bi' h2 hmem s1 (by rw [hs, e]))]
                    exact s2
                · obtain ⟨y1, hy1⟩ := hmE q1 x1 h1
                  obtain ⟨y2, hy2⟩ := hmE q2 x2 h2
                  exact m.itsB q1 y1 q2 y2 bi' hy1 hy2 h3 h4
                · obtain ⟨y1, hy1⟩ := hmE q' x' h4
                  exact m.itsS k j so q' y1 bi' h1 h2 h3 hy1
              have hb' : (ChangeMaps.setBlock w1 bi (.mapIter (some b) clk (sa.push e.born) clk)).heap[b]? = some (.map es clk) := by rw [hoth b hib]; exact e2
              obtain ⟨g', _⟩ := g.updM (l := l) (o := .map kd ag n ov has get sub (setIt q (seenMore seen e.key, some e.key) its)) (t' := τ l) (w' := ChangeMaps.setBlock w1 bi (.mapIter (some b) clk (sa.push e.born) clk))
                (by simp [ChangeMaps.setBlock, hheap]) (fun k _ hk => hoth k fun e => hk (.inr (by rw [hOl, e]; exact .inr ⟨q, _, hmem, hs⟩))) (by rw [e1]; exact ⟨b, es, clk, rfl, hb'⟩) (by rw [e1]; exact ⟨b, es, clk, rfl, hb', m'⟩)
                (fun b' hb' => by
                  rcases hb' with hb' | hb'
                  · rw [e1] at hb' ⊢; exact .inl (by rw [hOl]; exact hb')
                  · exact .inr (by rw [hOl]; exact hmb' b' hb'))
              refine Fin.val (x := .tuple #[.bool true, e.key, e.val]) ?_ ⟨σ, F, ⟨_, g'⟩, .tup rfl fun i u hu => ?_, Sle.refl _, FExt.refl _ _, ⟨?_, ?_, ?_, by simp [ChangeMaps.setBlock, hheap], fun k hk => hoth k (fun e => hnb (e ▸ hk))⟩⟩
              · simp only [execOp, ho, hyx, Sem.run_bind, hrun, Result.andThen_ok, Sem.run_pure]
              · match i, hu with
                | 0, hu => cases hu; exact .kn
                | 1, hu => cases hu; exact .kn
                | 2, hu => cases hu; exact .any
              all_goals rcases hw1 with rfl | rfl <;> rfl
            have over : (Instr.next (.pointer (some ⟨bi, 0, none⟩)) false o.type).run P w = .ok (.tuple #[.bool false]) w → Snd P base σ F h w a o (.val (.tup [.kn (.bool false)]) []) := fun hrun => by
              refine Fin.here ⟨τ, g⟩ (x := .tuple #[.bool false]) ?_ (.tup rfl fun i u hu => ?_)
              · simp only [execOp, ho, hyx, Sem.run_bind, hrun, Result.andThen_ok, Sem.run_pure]
              · match i, hu with
                | 0, hu => cases hu; exact .kn
            rcases run_next_at (P := P) w o.type bi b clk clk sa es clk r2 e2 m.bornL (Nat.le_refl _) with ⟨h0, hrun⟩ | ⟨e, he, w1, hw1, hrun⟩
            · have hall : ∀ e ∈ es.toList, seen e.key = true := fun e he => by
                rw [← r3 e he]
                have : leftOf es sa = #[] := Array.eq_empty_of_size_eq_zero h0
                unfold leftOf at this
                rw [Array.filter_eq_empty_iff] at this
                simpa using this e (by simpa using he)
              have hno : ∀ k, kd.ok k = true → (presB ov has k && !seen k) = false := fun k hk => by
                cases hp : presB ov has k with
                | false => rfl
                | true =>
                  obtain ⟨e, he, hek⟩ := (m.mem k hk).1 hp
                  have := hall e he
                  rw [hek] at this
                  simp [this]
              cases kd with
              | str => exact .inr ⟨fun s => hno _ rfl, over hrun⟩
              | int kk => exact .inr ⟨fun s => hno _ (by simp [KK.ok]), over hrun⟩
            · have he' : e ∈ es.toList ∧ seen e.key = false := by
                unfold leftOf at he
                simp only [Array.toList_filter, List.mem_filter, Bool.not_eq_true'] at he
                exact ⟨he.1, by rw [← r3 e he.1]; exact he.2⟩
              have hp : presB ov has e.key = true := (m.mem e.key (m.keys e he'.1)).2 ⟨e, he'.1, rfl⟩
              have hk := m.keys e he'.1
              have st := step e he'.1 w1 hw1 hrun
              generalize hke : e.key = ke at hk hp he' st
              cases kd with
              | str =>
                cases ke <;> first | (simp [KK.ok] at hk; done) | skip
                rename_i s
                exact .inl ⟨s, by simp only [hp, he'.2]; rfl, st⟩
              | int kk =>
                cases ke <;> first | (simp [KK.ok] at hk; done) | skip
                rename_i kk' z
                simp only [KK.ok, decide_eq_true_eq] at hk
                subst hk
                exact .inl ⟨z, by simp only [hp, he'.2]; rfl, st⟩
          · trivial
        · trivial
      · trivial
  · trivial

theorem snd_entry (g : Gm base σ F h w) (hn : ∀ i, i < 16 → getO h (nid + i) = .hole) (hρ : ∀ x, RV F σ (ρ x) (a.eval x)) {x : Operand} (ho : o.op = .entry x) :
    Snd P base σ F h w a o (entryDo (getO h) nid (ρ x)) := by
  unfold entryDo
  have hx := hρ x
  generalize hvx : ρ x = vx at hx
  generalize hyx : a.eval x = yx at hx
  split
  · rename_i q
    cases hx with
    | it hs =>
      split
      · rename_i l hO
        split
        · rename_i kd ag n ov has get sub its hOl
          split
          · rename_i seen k hf
            obtain ⟨t, b, es, clk, e1, e2, m⟩ := map_at g hOl
            obtain ⟨bi, sa, r1, r2, r3, r4⟩ := m.itsR q seen (some k) (findIt_mem hf)
            rw [hs] at r1; cases r1
            obtain ⟨e, he, hek, hsb⟩ := r4 k rfl
            have hok : kd.ok k = true := by rw [← hek]; exact m.keys e he
            have hsa : sa = sa.pop.push e.born := by
              have := Array.back?_eq_some_iff.1 hsb
              obtain ⟨ys, rfl⟩ := this
              simp
            have hrun : (Instr.entry (.pointer (some ⟨bi, 0, none⟩))).run P w = .ok (.tuple #[e.key, e.val]) w :=
              run_entry_at w bi b clk sa.pop es clk e (by rw [← hsa]; exact r2) e2 he m.bornD
            have hyes : ∀ e' ∈ es.toList, e'.key = k → (execOp a.eval o).run P w = .ok (.value (.tuple #[k, e'.val])) w := fun e' he' hek' => by
              have : e' = e := nodup_map_eq m.dist he' he (hek'.trans hek.symm)
              subst this
              simp only [execOp, ho, hyx, Sem.run_bind, hrun, Result.andThen_ok, Sem.run_pure, hek]
            have tupRv : ∀ (σ' : Sig) (v : V) (y : Value), RV F σ' v y → RV F σ' (.tup [.kn k, v]) (.tuple #[k, y]) := fun σ' v y hv => .tup rfl fun i u hu => by
              match i, hu with
              | 0, hu => cases hu; exact .kn
              | 1, hu => cases hu; exact hv
            refine snd_lookDo ov (fun cs hf => ?_) (fun hf => trivial) fun hf hh => ?_
            · have hv := ((m.at hok).2.2 e he hek).2
              unfold VA at hv
              rw [hf] at hv
              exact Fin.here g (hyes e he hek) (tupRv _ _ _ hv.val)
            · exact base_snd g hn hOl ⟨hok, hf, hh⟩ e1 e2 (Y := fun y => .tuple #[k, y]) tupRv hyes
          · trivial
        · trivial
      · trivial
  · trivial

/-! ### nil -/

theorem eqIn_slice {t e : TypeId} (hu : P.underlying t = some (.slice e)) (d : Nat) (ad : Option Addr) (n c : Nat) : (Op.equalIn (d + 1) t (.slice ad n c) (.slice none 0 0)).run P w = .ok ad.isNone w := by
  cases ad <;> simp [Op.equalIn, run_underlying hu]
theorem eqIn_ptr {t e : TypeId} (hu : P.underlying t = some (.pointer e)) (d : Nat) (ad : Addr) : (Op.equalIn (d + 1) t (.pointer (some ad)) (.pointer none)).run P w = .ok false w := by
  simp [Op.equalIn, run_underlying hu]
theorem eqIn_fn {t : TypeId} {ps rs : Array TypeId} {vd : Bool} (hu : P.underlying t = some (.func ps rs vd)) (d : Nat) (f : Fn) (xs ys : Array Value) : (Op.equalIn (d + 1) t (.func f xs ys) .nilFunc).run P w = .ok false w := by
  simp [Op.equalIn, run_underlying hu]

theorem snd_nil (g : Gm base σ F h w) (hρ : ∀ x, RV F σ (ρ x) (a.eval x)) {op : BinOp} {t t2 : TypeId} {x y : Operand} (ho : o.op = .binOp op t x y t2) {nk : NK} {neq : Bool} {v : V} (hn : nilCmp op (ρ x) (ρ y) = some (nk, neq, v)) :
    Snd P base σ F h w a o (nilTo P (getO h) t nk neq v) := by
  have hx := hρ x
  have hy := hρ y
  have key : ∃ z, v = ρ x ∧ ρ y = .kn z ∧ (op = .eql ∧ neq = false ∨ op = .neq ∧ neq = true) ∧ ((nk = .sl ∧ z = .slice none 0 0) ∨ (nk = .pt ∧ z = .pointer none ∧ ((∃ l off, v = .ptr l off) ∨ (∃ l s i off, v = .el l s i off) ∨ ∃ cs off, v = .rp cs off)) ∨ (nk = .fn ∧ z = .nilFunc ∧ ∃ f cap, v = .fn f cap)) := by
    unfold nilCmp at hn
    split at hn
    all_goals first | (cases hn; done) | cases hn
    · exact ⟨_, rfl, ‹_›, .inl ⟨rfl, rfl⟩, .inl ⟨rfl, rfl⟩⟩
    · exact ⟨_, rfl, ‹_›, .inr ⟨rfl, rfl⟩, .inl ⟨rfl, rfl⟩⟩
    · exact ⟨_, (‹ρ x = _›).symm, ‹ρ y = _›, .inl ⟨rfl, rfl⟩, .inr (.inl ⟨rfl, rfl, .inl ⟨_, _, rfl⟩⟩)⟩
    · exact ⟨_, (‹ρ x = _›).symm, ‹ρ y = _›, .inr ⟨rfl, rfl⟩, .inr (.inl ⟨rfl, rfl, .inl ⟨_, _, rfl⟩⟩)⟩
    · exact ⟨_, (‹ρ x = _›).symm, ‹ρ y = _›, .inl ⟨rfl, rfl⟩, .inr (.inl ⟨rfl, rfl, .inr (.inl ⟨_, _, _, _, rfl⟩)⟩)⟩
    · exact ⟨_, (‹ρ x = _›).symm, ‹ρ y = _›, .inr ⟨rfl, rfl⟩, .inr (.inl ⟨rfl, rfl, .inr (.inl ⟨_, _, _, _, rfl⟩)⟩)⟩
    · exact ⟨_, (‹ρ x = _›).symm, ‹ρ y = _›, .inl ⟨rfl, rfl⟩, .inr (.inl ⟨rfl, rfl, .inr (.inr ⟨_, _, rfl⟩)⟩)⟩
    · exact ⟨_, (‹ρ x = _›).symm, ‹ρ y = _›, .inr ⟨rfl, rfl⟩, .inr (.inl ⟨rfl, rfl, .inr (.inr ⟨_, _, rfl⟩)⟩)⟩
    · exact ⟨_, (‹ρ x = _›).symm, ‹ρ y = _›, .inl ⟨rfl, rfl⟩, .inr (.inr ⟨rfl, rfl, _, _, rfl⟩)⟩
    · exact ⟨_, (‹ρ x = _›).symm, ‹ρ y = _›, .inr ⟨rfl, rfl⟩, .inr (.inr ⟨rfl, rfl, _, _, rfl⟩)⟩
  obtain ⟨z, rfl, hz, hop, hkind⟩ := key
  rw [hz] at hy
  generalize hyy : a.eval y = yy at hy
  cases hy
  generalize hxx : a.eval x = xx at hx
  have fin : ∀ {b : Bool}, (Op.equal t xx z).run P w = .ok b w → (∀ op : BinOp, (eqGuard op t x y xx z).run P w = .ok () w) → binOp .eql t xx z = (do pure (.bool (← Op.equal t xx z)) : Sem Value) → binOp .neq t xx z = (do pure (.bool (!(← Op.equal t xx z))) : Sem Value) →
      Fin P o a w (Aft base σ F w (.kn (.bool (b != neq))) h) := by
    intro b hr hg h1 h2
    refine Fin.here g (x := .bool (b != neq)) ?_ .kn
    rcases hop with ⟨rfl, rfl⟩ | ⟨rfl, rfl⟩
    · simp only [execOp, ho, hxx, hyy, h1, Sem.run_bind, hg, hr, Result.andThen_ok, Sem.run_pure]; simp
    · simp only [execOp, ho, hxx, hyy, h2, Sem.run_bind, hg, hr, Result.andThen_ok, Sem.run_pure]; simp
  have grd : ∀ {z' : Value}, (∀ cs, z' ≠ .agg cs) → z' ≠ .nilIface → ∀ op : BinOp, (eqGuard op t x y xx z').run P w = .ok () w := fun {z'} h1 h2 op => by
    unfold eqGuard
    cases op <;> first | rfl | skip
    all_goals (cases z' <;> first | exact (h1 _ rfl).elim | exact (h2 rfl).elim | (cases xx <;> rfl))
  unfold nilTo
  rcases hkind with ⟨rfl, rfl⟩ | ⟨rfl, rfl, hk⟩ | ⟨rfl, rfl, f, cap, hk⟩
  · split
    · rename_i e hu _
      have finS : ∀ {ad : Option Addr} {n c : Nat}, xx = .slice ad n c → Fin P o a w (Aft base σ F w (.kn (.bool (ad.isNone != neq))) h) := by
        intro ad n c hq
        subst hq
        refine fin ?_ (grd (by simp) (by simp)) rfl rfl
        exact eqIn_slice hu 9999 ad n c
      have each : ∀ {ad : Option Addr} {n c : Nat}, xx = .slice ad n c → (n ≠ 0 → ad.isNone = false) → Snd P base σ F h w a o (.eachB (fun b => Nat.beq n 0 || bEq b neq) fun b => .val (.kn (.bool b)) []) := by
        intro ad n c hq hne
        refine ⟨ad.isNone != neq, ?_, finS hq⟩
        by_cases h0 : n = 0
        · subst h0; rfl
        · rw [hne h0]; cases neq <;> simp [bEq]
      unfold nilDo
      split
      · rename_i hv; rw [hv] at hx; cases hx
        have := finS rfl
        cases neq <;> exact this
      · rename_i ad n c hv; rw [hv] at hx; cases hx
        have := finS rfl
        cases neq <;> exact this
      · rename_i s n f hv; rw [hv] at hx
        cases hx with
        | list0 hn0 => exact each rfl fun h => (h hn0).elim
        | list => exact each rfl fun _ => rfl
      · rename_i l hv; rw [hv] at hx
        cases hx with
        | sl hs =>
          split
          · rename_i e' s n f p hO
            have hob := g.obj l
            rw [hO, hs] at hob
            obtain ⟨v', xs, hv', hown, _⟩ := hob
            cases hv'
            rcases hown.2 with ⟨rfl, rfl⟩ | ⟨gg, cap, cur, rfl, _⟩
            · exact each rfl fun h => (h rfl).elim
            · exact each rfl fun _ => rfl
          · trivial
      · trivial
    all_goals first | trivial | (rename_i hh _; cases hh)
  · have finP : ∀ {ad : Addr} {e : TypeId}, P.underlying t = some (.pointer e) → xx = .pointer (some ad) → Fin P o a w (Aft base σ F w (.kn (.bool neq)) h) := by
      intro ad e hu hq
      subst hq
      have := fin (b := false) (eqIn_ptr hu 9999 ad) (grd (by simp) (by simp)) rfl rfl
      cases neq <;> exact this
    split
    all_goals first | trivial | skip
    rename_i e hu _
    rcases hk with ⟨l, off, hv⟩ | ⟨l, s, i, off, hv⟩ | ⟨cs, off, hv⟩ <;> rw [hv] at hx <;> cases hx <;> exact finP hu rfl
  · split
    all_goals first | trivial | skip
    rename_i hu _
    rw [hk] at hx
    cases hx
    have := fin (b := false) (eqIn_fn hu 9999 _ _ _) (grd (by simp) (by simp)) rfl rfl
    cases neq <;> exact this
end
end Go.Aw

/-
  One operation is sound.
-/
namespace Go.Aw
open Go Go.RowKit
set_option linter.unusedVariables false
set_option linter.unusedSimpArgs false
section
variable {P : Program} {base : Blk} {σ : Sig} {F : Fz} {h : List O} {w : World} {a : Act} {o : Oper} {con : FuncId → Option Spec} {nid : Nat} {ρ : Operand → V}

theorem op_sound0 (g : Gm base σ F h w) (hbase : Und base w.heap.size) (hn16 : ∀ i, i < 16 → getO h (nid + i) = .hole) (hcon : ∀ f s, con f = some s → SpecOK P f s) (hρ : ∀ x, RV F σ (ρ x) (a.eval x)) (o : Oper) :
    Snd P base σ F h w a o (opDo0 P con nid ρ (getO h) o) := by
  have hn : getO h nid = .hole := hn16 0 (by omega)
  unfold opDo0
  split
  · exact snd_move g hρ (.inl ‹_›)
  · exact snd_move g hρ (.inr ‹_›)
  · split
    · exact snd_pick g hρ ‹_› ‹_›
    · exact True.intro
  · split
    · exact snd_alloc g hbase hn ‹_› ‹_›
    · exact True.intro
  · split
    · exact snd_box g hbase hn hρ ‹_› ‹_›
    · exact True.intro
  · split
    · refine snd_cond (fun _ => True.intro) fun hb => ?_
      exact snd_build_struct g hρ ‹_› ‹_› ‹_› (by simpa using hb)
    · refine snd_cond (fun _ => True.intro) fun hb => ?_
      exact snd_build_array g hρ ‹_› ‹_› ‹_› (by simpa using hb)
    · exact True.intro
  · split
    · split
      · exact snd_buildSlice2 g hbase hn hρ ‹_› ‹_› ‹_›
      · exact True.intro
    · exact True.intro
  · exact snd_load g hρ ‹_›
  · refine snd_cond (fun _ => True.intro) fun hb => ?_
    exact snd_store g hρ ‹_› (by simpa using hb)
  · exact snd_nilCheck g hρ ‹_›
  · split
    · exact snd_nil g hρ ‹_› ‹_›
    · split
      · exact snd_aggEq g hρ ‹_› ‹_›
      · split
        · exact snd_binOp g hρ ‹_› ‹_› ‹_›
        · exact True.intro
  · exact snd_makeMap g hbase hn hρ ‹_›
  · exact snd_lookup g hn16 hρ ‹_›
  · exact snd_update g hρ (.inl ‹_›)
  · exact snd_update g hρ (.inr ‹_›)
  · exact snd_range g hbase hn hρ ‹_›
  · exact snd_next g hρ ‹_›
  · exact snd_entry g hn16 hρ ‹_›
  · split
    · rename_i ho _ _ hx
      exact snd_pr1 g hρ (S := fun u => Op.unary _ u) (by simp only [execOp, ho]) hx
    · exact True.intro
  · split
    · rename_i ho _ _ hx
      exact snd_pr1 g hρ (S := fun u => convert _ _ u) (by simp only [execOp, ho]) hx
    · exact True.intro
  · refine snd_cond (fun hb => ?_) fun _ => True.intro
    exact snd_makeFunc g hρ ‹_› (Nat.eq_of_beq_eq_true hb)
  · split
    · split
      · exact snd_slice_str g hρ ‹_› ‹_› ‹_› ‹_› ‹_›
      · exact True.intro
    · refine snd_cond (fun _ => True.intro) fun hb => ?_
      split
      · have hb2 := hb
        simp only [Bool.not_eq_false', Bool.and_eq_true] at hb2
        exact snd_slice_list g hρ ‹_› ‹_› (by simpa using hb2.2) ‹_› (Nat.eq_of_beq_eq_true hb2.1) ‹_› ‹_›
      · exact True.intro
    · split
      · refine snd_cond (fun _ => True.intro) fun hb => ?_
        split
        · have hb2 := hb
          simp only [Bool.not_eq_false', Bool.and_eq_true] at hb2
          exact snd_slice_row g hρ ‹_› ‹_› (by simpa using hb2.2) ‹_› ‹_› (Nat.eq_of_beq_eq_true hb2.1) ‹_› ‹_›
        · exact True.intro
      · exact True.intro
    · exact True.intro
  · split
    · split
      · exact snd_fieldAddr g hρ ‹_› ‹_› ‹_›
      · exact True.intro
    · exact True.intro
  · split
    · split
      · exact snd_field g hρ ‹_› ‹_› ‹_› ‹_›
      · exact True.intro
    · exact True.intro
  · split
    · refine snd_cond (fun _ => True.intro) fun hb => ?_
      exact snd_indexAddr_slice g hρ ‹_› ‹_› ‹_› (by simpa using hb)
    · refine snd_cond (fun _ => True.intro) fun hb => ?_
      exact snd_indexAddr_array g hρ ‹_› ‹_› ‹_› (by simpa using hb)
    · exact True.intro
  · split
    · exact snd_index_str g hρ ‹_› ‹_› ‹_› ‹_›
    · refine snd_cond (fun _ => True.intro) fun hb => ?_
      exact snd_index_arr g hρ ‹_› ‹_› (by simpa using hb) ‹_› ‹_›
    · exact True.intro
  · exact snd_extract g hρ ‹_›
  · split
    · split
      · exact snd_len g hρ ‹_› ‹_› ‹_› ‹_›
      · exact True.intro
    · split
      · exact snd_delete g hρ ‹_› ‹_› ‹_› ‹_›
      · exact True.intro
    · split
      · exact snd_append g hbase hn hρ ‹_› ‹_› ‹_› ‹_›
      · exact True.intro
    · split
      · exact snd_prn g hρ ‹_› ‹_› (fun _ => rfl) ‹_›
      · exact True.intro
    · split
      · exact snd_prn g hρ ‹_› ‹_› (fun _ => rfl) ‹_›
      · exact True.intro
    · exact snd_call g hbase hn16 hcon hρ ‹_› ‹_›
    · exact True.intro
  · exact True.intro

theorem op_sound (g : Gm base σ F h w) (hbase : Und base w.heap.size) (hn16 : ∀ i, i < 16 → getO h (nid + i) = .hole) (hcon : ∀ f s, con f = some s → SpecOK P f s) (hρ : ∀ x, RV F σ (ρ x) (a.eval x)) (o : Oper) :
    Snd P base σ F h w a o (opDo P con nid ρ (getO h) o) := op_sound0 g hbase hn16 hcon (fun x => res_rv g (hρ x)) o
end
end Go.Aw

/-
  Frames, and what it is for a configuration to be good.
-/
namespace Go.Aw
open Go Go.RowKit
set_option linter.unusedVariables false
set_option linter.unusedSimpArgs false

structure Fr0 (F : Fz) (σ : Sig) (fr : Fr) (b : Frame) (a : Act) : Prop where
  fn : b.fn = fr.fn
  kind : b.kind = .normal
  defers : a.defers = []
  size : a.tmps.size = fr.nt
  tmps : ∀ d, RV F σ (look fr.t d) (a.tmps.getD d undef)

def FrsR (F : Fz) (σ : Sig) : List Fr → List Frame → Prop
  | [], [] => True
  | f :: fs, c :: cs => (∃ b a, c = b.at a f.k ∧ Fr0 F σ f b a) ∧ FrsR F σ fs cs
  | _, _ => False

def botFn : Fr → List Fr → FuncId
  | fr, [] => fr.fn
  | _, f :: fs => botFn f fs

/-- Handles that stay: of the first so many objects. -/
abbrev Pin := Nat × Sig
def Pn (pin : Pin) (σ : Sig) : Prop := ∀ j, j < pin.1 → ∀ y, pin.2 j = some y → σ j = some y
theorem Pn.mono {pin : Pin} {σ σ' : Sig} (h : Pn pin σ) (hS : Sle σ σ') : Pn pin σ' := fun j hj y e => hS _ _ (h j hj y e)

def Post (base : Blk) (w0 : World) (F0 : Fz) (pin : Pin) (ret : V → List O → Prop) (x : Value) (w' : World) : Prop :=
  ∃ v h' σ' F', ret v h' ∧ Gm base σ' F' h' w' ∧ RV F' σ' v x ∧ FExt base F0 F' ∧ Kp base w0 w' ∧ Pn pin σ'

def Good (P : Program) (base : Blk) (w0 : World) (F0 : Fz) (pin : Pin) (f0 : FuncId) (ret : V → List O → Prop) (c : Cfg) : Prop :=
  botFn c.fr c.cs = f0 → ∀ σ F w b a fs cs0, Gm base σ F c.h w → FExt base F0 F → Kp base w0 w → Fr0 F σ c.fr b a → FrsR F σ c.cs fs → Pn pin σ →
    ∃ x w' frl, Post base w0 F0 pin ret x w' ∧ Steps P (lone (b.at a c.fr.k) (fs ++ cs0) w) (lone frl cs0 w') ∧ frl.fn = f0 ∧ frl.leaving P w' (.returned x)

theorem Fr0.mono {F F' : Fz} {σ σ' : Sig} {fr : Fr} {b : Frame} {a : Act} (h : Fr0 F σ fr b a) (hF : Fle F F') (hS : Sle σ σ') : Fr0 F' σ' fr b a :=
  ⟨h.fn, h.kind, h.defers, h.size, fun d => (h.tmps d).mono hF hS⟩

theorem FrsR.mono {F F' : Fz} {σ σ' : Sig} (hF : Fle F F') (hS : Sle σ σ') : ∀ {fs : List Fr} {cs : List Frame}, FrsR F σ fs cs → FrsR F' σ' fs cs
  | [], [], _ => trivial
  | f :: fs, c :: cs, ⟨⟨b, a, e, h⟩, r⟩ => ⟨⟨b, a, e, h.mono hF hS⟩, r.mono hF hS⟩
  | [], _ :: _, h => h.elim
  | _ :: _, [], h => h.elim

theorem put_ok {F : Fz} {σ : Sig} {t t' : Tm} {nt : Nat} {d : Option Nat} {v : V} {a : Act} {x : Value} (hp : putD t nt d v = some t') (hs : a.tmps.size = nt)
    (ht : ∀ d, RV F σ (look t d) (a.tmps.getD d undef)) (hv : RV F σ v x) : (a.put d x).tmps.size = nt ∧ ∀ d', RV F σ (look t' d') ((a.put d x).tmps.getD d' undef) := by
  cases d with
  | none => simp only [putD, Option.some.injEq] at hp; subst hp; exact ⟨hs, ht⟩
  | some d =>
    simp only [putD] at hp
    cases hb : Nat.blt d nt with
    | false => simp [hb] at hp
    | true =>
      simp only [hb, cond_true, Option.some.injEq] at hp
      subst hp
      have hd : d < a.tmps.size := by rw [hs]; simpa [Nat.blt_eq] using hb
      refine ⟨by simpa [Act.put] using hs, fun d' => ?_⟩
      show RV F σ (bif Nat.beq d d' then v else look t d') _
      by_cases he : d = d'
      · subst he
        simpa [Act.put, Array.getD_eq_getD_getElem?, hd] using hv
      · rw [show Nat.beq d d' = false by rw [← Bool.not_eq_true]; exact fun hh => he (Nat.eq_of_beq_eq_true hh)]
        have := ht d'
        simp only [Array.getD_eq_getD_getElem?] at this
        simpa [Act.put, Array.getD_eq_getD_getElem?, Array.getElem?_setIfInBounds_ne he] using this

theorem put_defers (a : Act) (d : Option Nat) (x : Value) : (a.put d x).defers = a.defers := by cases d <;> rfl

theorem ev_rel {F : Fz} {σ : Sig} {t : Tm} {a : Act} (ht : ∀ d, RV F σ (look t d) (a.tmps.getD d undef)) : ∀ x, RV F σ (ev t x) (a.eval x) := by
  intro x
  cases x with
  | tmp i => exact ht i
  | const c => exact .kn
  | global g => exact .any
  | func f => exact .fn rfl fun i v e => by simp at e

section
variable {P : Program}

/-- An operation that the machine carries out. -/
theorem fin_steps {ops : Array Oper} {i : Nat} {rest : List Nat} {o : Oper} {a : Act} {w : World} {R : Value → World → Prop} (ho : ops[i]? = some o)
    (hw : Region.wanted o (yielded ops a.tmps) = true) (hf : Fin P o a w R) (b : Frame) (k : List Item) (cs : List Frame) :
    ∃ x w', R x w' ∧ Steps P (lone (b.at a (.inRegion ops (i :: rest) :: k)) cs w) (lone (b.at (a.put o.dst x) (.inRegion ops rest :: k)) cs w') := by
  have hg := stepG_op (P := P) (b := b) (k := k) (cs := cs) (w := w) (rest := rest) ho hw
  have hfin : ∀ v, (b.at a (.inRegion ops (i :: rest) :: k)).finish v = b.at (a.put o.dst v) (.inRegion ops rest :: k) := by
    intro v; rw [Frame.finish_at, ho]; rfl
  rcases hf with ⟨x, w', hr, h⟩ | ⟨w', hr, h⟩ | ⟨f, xs, hr, h⟩
  · refine ⟨x, w', h, .one (step_lone_go ?_)⟩
    rw [hg, ← hfin]; simp [stepG.apply, hr]
  · refine ⟨undef, w', h, .one (step_lone_go ?_)⟩
    rw [hg, ← hfin]; simp [stepG.apply, hr]
  · obtain ⟨e, w'', fr, ⟨x, rfl, hR⟩, hsteps, _, hleave⟩ := h (b.at a (.inRegion ops (i :: rest) :: k) :: cs)
    have henter : step P (lone (b.at a (.inRegion ops (i :: rest) :: k)) cs w) = .next (lone (Frame.enter P f xs .normal) (b.at a (.inRegion ops (i :: rest) :: k) :: cs) w) :=
      step_lone_go (by rw [hg]; simp [stepG.apply, hr, Frame.at])
    refine ⟨x, w'', hR, .head henter (hsteps.trans (.one ?_))⟩
    rw [← hfin]; exact step_leave_returned hleave

end
end Go.Aw

/-
  The executor's steps.
-/
namespace Go.Aw
open Go Go.RowKit
set_option linter.unusedVariables false
set_option linter.unusedSimpArgs false

/-- The rest of a function, from a range over a function on, does what is told. -/
structure TailOK (P : Program) (fr : Fr) (h : List O) (v : V) (u : List (Nat × O)) : Prop where
  run : ∀ (base : Blk) (σ : Sig) (F : Fz) (w : World) (b : Frame) (a : Act), Gm base σ F h w → Und base w.heap.size → Fr0 F σ fr b a → ∀ cs : List Frame,
    ∃ x w' frl, Aft base σ F w v (ups u h) x w' ∧ Steps P (lone (b.at a fr.k) cs w) (lone frl cs w') ∧ frl.fn = fr.fn ∧ frl.leaving P w' (.returned x)

/-- The first range over a function, and what follows it. -/
def findRF : Code → List Item → Option (List Item)
  | .seq a b, k => match findRF a (.code b :: k) with
    | some r => some r
    | none => findRF b k
  | .cond _ a b, k => match findRF a k with
    | some r => some r
    | none => findRF b k
  | .block id c, k => findRF c (.inBlock id :: k)
  | .loop c, k => findRF c (.inLoop c :: k)
  | .rangeFunc g ps a b, k => some (.code (.rangeFunc g ps a b) :: k)
  | _, _ => none
def tailK (P : Program) (f : FuncId) : List Item :=
  match P.funcs[f]? with
  | some fn => ((fn.body.bind fun b => findRF b [])).getD []
  | none => []

/-- The last row whose fifth cell is at most a day. -/
def lastI (day : Int) (f : Nat → List V) : Nat → Option Nat
  | 0 => none
  | n + 1 => match ((f n)[4]? : Option V) with
    | some (V.kn (.int _ d)) => bif decide (d ≤ day) then some n else lastI day f n
    | _ => lastI day f n
def strOf (f : Nat → List V) (j : Nat) : Option Nat → ByteArray
  | some i => match ((f i)[j]? : Option V) with
    | some (V.kn (.string s)) => s
    | _ => ByteArray.empty
  | none => ByteArray.empty
/-- What a walk back over rows, for the last one of a day, hands back: to be shown by TailOK. -/
def tailV (D : Nat → O) (t : Tm) (s : Nat) : Option (V × List (Nat × O)) :=
  match look t s with
  | .fn _ [.ptr q 0] => match D q with
    | .cells [lv] => match view D lv with
      | some (_, n, f) => match look t 5, look t 6, look t 7, look t 8 with
        | .ptr qd 0, .ptr q6 0, .ptr q7 0, .ptr q8 0 => match D qd with
          | .cells [.kn (.int _ day)] => some (.tup [.kn (.string (strOf f 2 (lastI day f n))), .kn (.string (strOf f 3 (lastI day f n))), .kn (.bool (lastI day f n).isSome)], [(q6, .dead), (q7, .dead), (q8, .dead)])
          | _ => none
        | _, _, _, _ => none
      | none => none
    | _ => none
  | _ => none

section
variable (P : Program) (con : FuncId → Option Spec) (hs : Hints) (good : Cfg → Prop) (ret : V → List O → Prop) (ih : Cfg → Prop)

/-- What is handed back comes to the caller. -/
def stepRetV (cs : List Fr) (v : V) (h : List O) : Prop :=
  match cs with
  | [] => ret v h
  | fr :: cs => match fr.k with
    | .inRegion ops (i :: rest) :: k => match ops[i]? with
      | some o => match putD fr.t fr.nt o.dst v with
        | some t => ih ⟨⟨fr.fn, fr.nt, t, .inRegion ops rest :: k⟩, cs, h⟩
        | none => False
      | none => False
    | _ => False

def astep (c : Cfg) : Prop :=
  match c.fr.k with
  | [] => stepRet P ret ih c
  | .code .skip :: k => ih (c.at k)
  | .code (.seq a b) :: k => ih (c.at (.code a :: .code b :: k))
  | .code (.cond x a b) :: k => match ev c.fr.t x with
    | .kn (.bool t) => bif t then ih (c.at (.code a :: k)) else ih (c.at (.code b :: k))
    | _ => False
  | .code (.block id b) :: k => ih (c.at (.code b :: .inBlock id :: k))
  | .code (.loop b) :: k => stepLoop hs good ih (firstReg b) (c.at (.code b :: .inLoop b :: k))
  | .inLoop b :: k => stepLoop hs good ih (firstReg b) (c.at (.code b :: .inLoop b :: k))
  | .code (.exit id) :: k => match exitTo id k with
    | some k' => ih (c.at k')
    | none => False
  | .code .ret :: _ => stepRet P ret ih c
  | .code (.scope b) :: k => ih (c.at (.code b :: .inScope b :: k))
  | .inScope _ :: k => ih (c.at k)
  | .code (.label _) :: k => ih (c.at k)
  | .code (.goto l) :: k => match gotoIn l k with
    | some k' => stepLoop hs good ih (some (1000000 + l)) (c.at k')
    | none => False
  | .code (.region _ ops draw) :: k => bif draw then (bif drawOK ops then drawRun P con ops c.h.length (fun c' => ih (c'.at k)) ops.toList (befGo ops.toList []) 0 [] c else False) else ih (c.at (.inRegion ops (List.range ops.size) :: k))
  | .inBlock _ :: k => ih (c.at k)
  | .inRegion _ [] :: k => ih (c.at k)
  | .inRegion ops (i :: rest) :: k => match ops[i]? with
    | some o => stepGuard P con ih c ops o (.inRegion ops rest :: k)
    | none => False
  | .code (.rangeFunc (.tmp s) _ _ _) :: _ => match tailV (getO c.h) c.fr.t s with
    | some (v, u) => TailOK P c.fr c.h v u ∧ stepRetV ret ih c.cs v (ups u c.h)
    | none => False
  | _ => False

/-- Many steps. -/
def arun (n : Nat) : Cfg → Prop := Nat.rec (fun _ => False) (fun _ ih => astep P con hs good ret ih) n
end
end Go.Aw

/-
  What an operation does hangs on its operands' values, and on the objects that they name, alone.
-/
namespace Go.Aw
open Go Go.RowKit
set_option linter.unusedVariables false
set_option linter.unusedSimpArgs false


theorem ids_mem0 {v : V} {l : Nat} (h : l ∈ v.ids0) : l ∈ v.ids1 := by cases v <;> simp_all [V.ids0, V.ids1]

theorem toPure0_congr {D D' : Nat → O} {v : V} (h : ∀ l ∈ v.ids0, D l = D' l) : toPure0 D v = toPure0 D' v := by
  cases v with
  | kn x =>
    cases x with
    | slice a n c => cases a <;> cases n <;> cases c <;> rfl
    | _ => rfl
  | fn f cap => cases cap <;> rfl
  | _ => simp_all [toPure0, V.ids0]
theorem allSome_congr {α β : Type} {f g : α → Option β} {l : List α} (h : ∀ a ∈ l, f a = g a) : allSome (l.map f) = allSome (l.map g) := by
  rw [List.map_congr_left h]
theorem toPure1_congr {D D' : Nat → O} {v : V} (h : ∀ l ∈ v.ids2, D l = D' l) : toPure1 D v = toPure1 D' v := by
  cases v with
  | agg cs =>
    simp only [toPure1]
    rw [allSome_congr fun c hc => toPure0_congr fun l hl => h l (by simp only [V.ids2, List.mem_flatMap]; exact ⟨c, hc, ids_mem0 hl⟩)]
  | fn f cap => cases cap <;> rfl
  | _ => simp only [toPure1]; exact toPure0_congr fun l hl => h l hl
theorem toPure_congr {D D' : Nat → O} {v : V} (h : ∀ l ∈ v.ids, D l = D' l) : toPure D v = toPure D' v := by
  cases v with
  | tup vs =>
    simp only [toPure]
    rw [allSome_congr fun c hc => toPure1_congr fun l hl => h l (by simp only [V.ids, List.mem_flatMap]; exact ⟨c, hc, hl⟩)]
  | agg cs => simp only [toPure]; exact toPure1_congr h
  | _ => simp only [toPure]; exact toPure1_congr h

theorem frzL_congr {D D' : Nat → O} : ∀ {ls : List Nat}, (∀ l ∈ ls, D l = D' l) → frzL D ls = frzL D' ls
  | [], _ => rfl
  | l :: r, h => by
    have e : fz1 D l = fz1 D' l := by unfold fz1; rw [h l (by simp)]
    unfold frzL
    rw [e, frzL_congr fun i hi => h i (by simp [hi])]
theorem res_congr {D D' : Nat → O} {v : V} (h : ∀ l ∈ v.ids, D l = D' l) : res D v = res D' v := by
  cases v with
  | sl l => simp only [res, h l (List.mem_singleton.2 rfl)]
  | _ => rfl
theorem res_ids {D : Nat → O} {v : V} {l : Nat} (h : l ∈ (res D v).ids) : l ∈ v.ids := by
  cases v with
  | sl q =>
    simp only [res] at h
    cases hD : D q with
    | fz s n f => simp [hD, V.ids, V.ids2, V.ids1, V.ids0] at h
    | _ => simpa [hD] using h
  | _ => exact h

theorem mem_rch {D : Nat → O} : ∀ (n : Nat) {ls : List Nat} {l : Nat}, l ∈ ls → l ∈ rch D n ls
  | 0, _, _, h => h
  | n + 1, _, _, h => List.mem_append_left _ h
theorem rch_mono {D : Nat → O} : ∀ (n : Nat) {ls ls' : List Nat}, (∀ l ∈ ls, l ∈ ls') → ∀ l ∈ rch D n ls, l ∈ rch D n ls'
  | 0, _, _, h, l, hl => h l hl
  | n + 1, ls, ls', h, l, hl => by
    rcases List.mem_append.1 hl with hl | hl
    · exact List.mem_append_left _ (h l hl)
    · refine List.mem_append_right _ (rch_mono n (fun i hi => ?_) l hl)
      obtain ⟨q, hq, hi⟩ := List.mem_flatMap.1 hi
      exact List.mem_flatMap.2 ⟨q, h q hq, hi⟩
theorem rch_step {D : Nat → O} {n : Nat} {ls : List Nat} {l q : Nat} (hl : l ∈ ls) (hq : q ∈ rch D n (D l).ids) : q ∈ rch D (n + 1) ls :=
  List.mem_append_right _ (rch_mono n (fun i hi => List.mem_flatMap.2 ⟨l, hl, hi⟩) q hq)

theorem lift_local (G : PSpec) : Local (lift G) := by
  intro args D D' nid h
  have h' : ∀ v ∈ args, ∀ l ∈ v.ids, D l = D' l := fun v hv l hl => h l (mem_rch 4 (List.mem_flatMap.2 ⟨v, hv, hl⟩))
  unfold lift
  rw [allSome_congr fun v hv => toPure_congr (h' v hv), frzL_congr fun l hl => by
    obtain ⟨v, hv, hl⟩ := List.mem_flatMap.1 hl
    exact h' v hv l hl]

theorem flat_ids {v : V} (h : v.flat = true) : v.ids = v.ids0 := by cases v <;> first | rfl | cases h

theorem nilDo_congr {D D' : Nat → O} {neq : Bool} {v : V} (h : ∀ l ∈ v.ids, D l = D' l) : nilDo D neq v = nilDo D' neq v := by
  cases v with
  | sl l => simp only [nilDo, h l (List.mem_singleton.2 rfl)]
  | kn x =>
    cases x with
    | slice a n c => cases a <;> cases n <;> cases c <;> rfl
    | _ => rfl
  | _ => rfl

theorem rangeDo_congr {P : Program} {D D' : Nat → O} {nid : Nat} {t : TypeId} {v : V} (h : ∀ l ∈ v.ids, D l = D' l) : rangeDo P D nid t v = rangeDo P D' nid t v := by
  unfold rangeDo
  generalize P.underlying t = u
  cases u with
  | none => rfl
  | some d =>
    cases d with
    | map kt vt =>
      cases v with
      | mp l => simp only [h l (List.mem_singleton.2 rfl)]
      | _ => rfl
    | string =>
      cases v with
      | kn y => cases y <;> rfl
      | _ => rfl
    | _ => rfl

theorem appendDo_congr {P : Program} {D D' : Nat → O} {nid : Nat} {t1 t2 : TypeId} {a b : V} (ha : ∀ l ∈ a.ids, D l = D' l) (hb : ∀ l ∈ b.ids, D l = D' l) : appendDo P D nid t1 t2 a b = appendDo P D' nid t1 t2 a b := by
  have e1 : view D b = view D' b := by
    cases b with
    | kn x =>
      cases x with
      | slice a n c => cases a <;> cases n <;> cases c <;> rfl
      | _ => rfl
    | _ => simp_all [view, V.ids, V.ids2, V.ids1, V.ids0]
  have e2 : pureOf D b = pureOf D' b := by cases b <;> simp_all [pureOf, V.ids, V.ids2, V.ids1, V.ids0]
  have e3 : ∀ l, a = .sl l → D l = D' l := fun l e => ha l (by subst e; simp [V.ids, V.ids2, V.ids1, V.ids0])
  unfold appendDo
  simp only [e1, e2]
  cases a with
  | sl l => simp only [e3 l rfl]
  | kn x =>
    cases x with
    | slice a n c => cases a <;> cases n <;> cases c <;> rfl
    | _ => rfl
  | _ => rfl

set_option maxHeartbeats 1000000 in
theorem opDo0_congr {P : Program} {con : FuncId → Option Spec} (hloc : ∀ f s, con f = some s → Local s) {nid : Nat} {ρ ρ' : Operand → V} {D D' : Nat → O} {o : Oper}
    (h1 : ∀ x ∈ o.op.operands.toList, ρ x = ρ' x) (h3 : ∀ l ∈ opIds D ρ o, D l = D' l) : opDo0 P con nid ρ D o = opDo0 P con nid ρ' D' o := by
  have h2 : ∀ x ∈ o.op.operands.toList, ∀ l ∈ (ρ x).ids, D l = D' l := fun x hx l hl => h3 l (mem_rch _ (List.mem_flatMap.2 ⟨x, hx, hl⟩))
  have parts : ∀ (ps : List (Nat × Operand)), (∀ p ∈ ps, p.2 ∈ o.op.operands.toList) → (ps.map fun (i, x) => (i, ρ x)) = ps.map fun (i, x) => (i, ρ' x) := by
    intro ps hp
    apply List.map_congr_left
    intro p hpm
    obtain ⟨i, x⟩ := p
    simp only
    rw [h1 x (hp _ hpm)]
  unfold opDo0
  split
  · rename_i ho; rw [h1 _ (by rw [ho]; simp [Op.operands])]
  · rename_i ho; rw [h1 _ (by rw [ho]; simp [Op.operands])]
  · rename_i ho; rw [h1 _ (by rw [ho]; simp [Op.operands]), h1 _ (by rw [ho]; simp [Op.operands]), h1 _ (by rw [ho]; simp [Op.operands])]
  · rfl
  · rename_i ho; rw [h1 _ (by rw [ho]; simp [Op.operands])]
  · rename_i ho; rw [parts _ (fun p hp => by rw [ho]; simp only [Op.operands]; exact List.mem_map_of_mem hp)]
  · rename_i t len ps ho
    have hm : ∀ p ∈ ps.toList, p.2 ∈ o.op.operands.toList := fun p hp => by rw [ho]; simp only [Op.operands]; simpa using ⟨p.1, Array.mem_toList_iff.1 hp⟩
    have e1 : (ps.toList.map fun (i, x) => (i, pur D (ρ x))) = ps.toList.map fun (i, x) => (i, pur D' (ρ' x)) := by
      apply List.map_congr_left
      intro p hp
      obtain ⟨i, x⟩ := p
      simp only
      rw [← h1 x (hm _ hp)]
      unfold pur
      rw [toPure_congr (h2 x (hm _ hp))]
    have e2 : (ps.toList.flatMap fun (_, x) => (ρ x).ids) = ps.toList.flatMap fun (_, x) => (ρ' x).ids := by
      have : ∀ (l : List (Nat × Operand)), (∀ p ∈ l, ρ p.2 = ρ' p.2) → (l.flatMap fun (_, x) => (ρ x).ids) = l.flatMap fun (_, x) => (ρ' x).ids := by
        intro l
        induction l with
        | nil => intro _; rfl
        | cons p r ih => intro hh; simp only [List.flatMap_cons]; rw [hh p (by simp), ih fun q hq => hh q (by simp [hq])]
      exact this _ fun p hp => h1 p.2 (hm _ hp)
    rw [e1, e2, frzL_congr fun l hl => by
      obtain ⟨p, hp, hl⟩ := List.mem_flatMap.1 hl
      exact h2 p.2 (hm _ hp) l (by rw [h1 p.2 (hm _ hp)]; exact hl)]
  · rename_i t a ho
    have hm : a ∈ o.op.operands.toList := by rw [ho]; simp [Op.operands]
    have e1 := h1 a hm
    have e2 := h2 a hm
    rw [← e1]
    generalize ρ a = v at e2
    cases v with
    | ptr l off => simp only [e2 l (List.mem_singleton.2 rfl)]
    | el l s i off => simp only [e2 l (List.mem_singleton.2 rfl)]
    | _ => rfl
  · rename_i t a x ho
    have hm : a ∈ o.op.operands.toList := by rw [ho]; simp [Op.operands]
    have hm2 : x ∈ o.op.operands.toList := by rw [ho]; simp [Op.operands]
    have e2 := h2 a hm
    rw [← h1 a hm, ← h1 x hm2]
    generalize ρ a = v at e2
    cases v with
    | ptr l off => simp only [e2 l (List.mem_singleton.2 rfl)]
    | el l s i off => simp only [e2 l (List.mem_singleton.2 rfl)]
    | _ => rfl
  · rename_i ho; rw [h1 _ (by rw [ho]; simp [Op.operands])]
  · rename_i op t x y t2 ho
    have hx := h1 x (by rw [ho]; simp [Op.operands])
    have hy := h1 y (by rw [ho]; simp [Op.operands])
    have e2 := h2 x (by rw [ho]; simp [Op.operands])
    rw [← hx, ← hy]
    split
    · rename_i nk neq v hnc
      have hv : v = ρ x := by
        unfold nilCmp at hnc
        split at hnc
        all_goals first | (cases hnc; done) | (cases hnc; first | rfl | exact (‹ρ x = _›).symm)
      subst hv
      unfold nilTo
      rw [nilDo_congr e2]
    · rfl
  · rename_i t r ho
    unfold makeMapDo
    have : hintOk ρ r = hintOk ρ' r := by
      cases r with
      | none => rfl
      | some x => unfold hintOk; dsimp only; rw [h1 x (by rw [ho]; simp [Op.operands])]
    rw [this]
  · rename_i t x i ok ho
    have e2 := h2 x (by rw [ho]; simp [Op.operands])
    rw [← h1 x (by rw [ho]; simp [Op.operands]), ← h1 i (by rw [ho]; simp [Op.operands])]
    unfold lookupDo
    generalize ρ x = v at e2
    cases v with
    | mp l => simp only [e2 l (List.mem_singleton.2 rfl)]
    | kn y => cases y with
      | map r => cases r <;> rfl
      | _ => rfl
    | _ => rfl
  · rename_i t x i v ho
    have e2 := h2 x (by rw [ho]; simp [Op.operands])
    rw [← h1 x (by rw [ho]; simp [Op.operands]), ← h1 i (by rw [ho]; simp [Op.operands]), ← h1 v (by rw [ho]; simp [Op.operands])]
    unfold updateDo
    generalize ρ x = v at e2
    cases v with
    | mp l => simp only [e2 l (List.mem_singleton.2 rfl)]
    | _ => rfl
  · rename_i t x i v ho
    have e2 := h2 x (by rw [ho]; simp [Op.operands])
    rw [← h1 x (by rw [ho]; simp [Op.operands]), ← h1 i (by rw [ho]; simp [Op.operands]), ← h1 v (by rw [ho]; simp [Op.operands])]
    unfold updateDo
    generalize ρ x = v at e2
    cases v with
    | mp l => simp only [e2 l (List.mem_singleton.2 rfl)]
    | _ => rfl
  · rename_i t x ho
    have e2 := h2 x (by rw [ho]; simp [Op.operands])
    rw [← h1 x (by rw [ho]; simp [Op.operands])]
    exact rangeDo_congr e2
  · rename_i it b ho
    have hm : it ∈ o.op.operands.toList := by rw [ho]; simp [Op.operands]
    have e2 := h2 it hm
    rw [← h1 it hm]
    unfold nextDo
    have e3 : ∀ q l, ρ it = .it q → D q = .iter l → D l = D' l := fun q l hq hl => h3 l (by
      unfold opIds
      rw [ho]
      exact rch_step (n := 0) (l := q) (List.mem_flatMap.2 ⟨it, by rw [ho] at hm; exact hm, by rw [hq]; exact List.mem_singleton.2 rfl⟩) (by rw [hl]; exact List.mem_singleton.2 rfl))
    generalize ρ it = v at e2 e3
    cases v with
    | it q =>
      have e4 := e2 q (List.mem_singleton.2 rfl)
      dsimp only
      rw [← e4]
      cases hq : D q with
      | iter l =>
        cases b with
        | true => rfl
        | false => dsimp only; rw [e3 q l rfl hq]
      | siter s pos => cases b <;> rfl
      | _ => cases b <;> rfl
    | _ => rfl
  · rename_i it ho
    have hm : it ∈ o.op.operands.toList := by rw [ho]; simp [Op.operands]
    have e2 := h2 it hm
    rw [← h1 it hm]
    unfold entryDo
    have e3 : ∀ q l, ρ it = .it q → D q = .iter l → D l = D' l := fun q l hq hl => h3 l (by
      unfold opIds
      rw [ho]
      exact rch_step (n := 0) (l := q) (List.mem_flatMap.2 ⟨it, by rw [ho] at hm; exact hm, by rw [hq]; exact List.mem_singleton.2 rfl⟩) (by rw [hl]; exact List.mem_singleton.2 rfl))
    generalize ρ it = v at e2 e3
    cases v with
    | it q =>
      have e4 := e2 q (List.mem_singleton.2 rfl)
      dsimp only
      rw [← e4]
      cases hq : D q with
      | iter l => simp only [e3 q l rfl hq]
      | _ => rfl
    | _ => rfl
  · rename_i ho; rw [h1 _ (by rw [ho]; simp [Op.operands])]
  · rename_i ho; rw [h1 _ (by rw [ho]; simp [Op.operands])]
  · rename_i f first captured ho
    have : captured.toList.map ρ = captured.toList.map ρ' := List.map_congr_left fun x hx => h1 x (by rw [ho]; simp [Op.operands]; exact .inr (by simpa using hx))
    rw [this]
  · rename_i t x lo hi ho
    have hx := h1 x (by rw [ho]; simp [Op.operands])
    have hlo : loOf ρ lo = loOf ρ' lo := by
      cases lo with
      | none => rfl
      | some l => simp only [loOf]; rw [h1 l (by rw [ho]; simp [Op.operands])]
    have hhi : ∀ n, hiOf ρ n hi = hiOf ρ' n hi := by
      intro n
      cases hi with
      | none => rfl
      | some l => simp only [hiOf]; rw [h1 l (by rw [ho]; simp [Op.operands])]
    have e2 := h2 x (by rw [ho]; simp [Op.operands])
    rw [← hx, ← hlo]
    generalize ρ x = v at e2
    generalize P.underlying t = u
    cases u with
    | none => rfl
    | some d =>
      cases d with
      | slice e =>
        cases v with
        | sl l => simp only [e2 l (List.mem_singleton.2 rfl), hhi]
        | list s n f => simp only [hhi]
        | kn y => rfl
        | _ => rfl
      | string =>
        cases v with
        | kn y =>
          cases y with
          | string s => simp only [hhi]
          | _ => rfl
        | _ => rfl
      | _ => rfl
  · rename_i ho; rw [h1 _ (by rw [ho]; simp [Op.operands])]
  · rename_i ho; rw [h1 _ (by rw [ho]; simp [Op.operands])]
  · rename_i t x i ho
    have hm : x ∈ o.op.operands.toList := by rw [ho]; simp [Op.operands]
    have hm2 : i ∈ o.op.operands.toList := by rw [ho]; simp [Op.operands]
    have e2 := h2 x hm
    rw [← h1 x hm, ← h1 i hm2]
    generalize ρ x = v at e2
    cases v with
    | sl l => simp only [e2 l (List.mem_singleton.2 rfl)]
    | _ => rfl
  · rename_i t x i ho
    rw [h1 x (by rw [ho]; simp [Op.operands]), h1 i (by rw [ho]; simp [Op.operands])]
  · rename_i ho; rw [h1 _ (by rw [ho]; simp [Op.operands])]
  · rename_i c ho
    have hargs : ∀ x ∈ c.args.toList, x ∈ o.op.operands.toList := fun x hx => by rw [ho]; simp [Op.operands, Call.operands]; exact .inr (by simpa using hx)
    have hmap : c.args.toList.map ρ = c.args.toList.map ρ' := List.map_congr_left fun x hx => h1 x (hargs x hx)
    have hmapv : (c.args.toList.map fun x => valOf (ρ x)) = c.args.toList.map fun x => valOf (ρ' x) := List.map_congr_left fun x hx => by rw [h1 x (hargs x hx)]
    split
    · split
      · rename_i x t hx ht
        have hm := hargs x (by rw [hx]; simp)
        have e2 := h2 x hm
        rw [← h1 x hm]
        generalize ρ x = v at e2
        generalize P.underlying t = u
        cases u with
        | none => rfl
        | some d =>
          cases d with
          | slice e =>
            cases v with
            | sl l => simp only [e2 l (List.mem_singleton.2 rfl)]
            | kn y =>
              cases y with
              | slice a n c => cases a <;> rfl
              | _ => rfl
            | _ => rfl
          | array n e => cases v <;> rfl
          | map kt vt =>
            cases v with
            | mp l => simp only [e2 l (List.mem_singleton.2 rfl)]
            | kn y => cases y <;> rfl
            | _ => rfl
          | _ =>
            cases v with
            | kn y => cases y <;> rfl
            | _ => rfl
      · rfl
    · split
      · rename_i x k t hx ht
        have hm := hargs x (by rw [hx]; simp)
        have hk := hargs k (by rw [hx]; simp)
        have e2 := h2 x hm
        rw [← h1 x hm, ← h1 k hk]
        unfold deleteDo
        generalize ρ x = v at e2
        cases v with
        | mp l => simp only [e2 l (List.mem_singleton.2 rfl)]
        | _ => rfl
      · rfl
    · split
      · rename_i a b t1 t2 hab ht
        have hma := hargs a (by rw [hab]; simp)
        have hmb := hargs b (by rw [hab]; simp)
        rw [← h1 a hma, ← h1 b hmb]
        exact appendDo_congr (h2 a hma) (h2 b hmb)
      · rfl
    · rw [hmapv]
    · rw [hmapv]
    · rename_i f hc
      have hmf : f ∈ o.op.operands.toList := by rw [ho]; simp [Op.operands, Call.operands, hc]
      have e3 : ∀ gf cap, ρ f = .fn gf cap → cap.all V.flat = true → ∀ l ∈ rch D 4 ((c.args.toList.map ρ ++ cap).flatMap V.ids), D l = D' l := fun gf cap hf hfl l hl => h3 l (by
        unfold opIds
        have hfar : farOf o.op = 4 := by rw [ho]; simp [farOf, hc]
        rw [hfar]
        refine rch_mono 4 (fun i hi => ?_) l hl
        obtain ⟨v, hv, hi⟩ := List.mem_flatMap.1 hi
        rcases List.mem_append.1 hv with hv | hv
        · obtain ⟨x, hx, rfl⟩ := List.mem_map.1 hv
          exact List.mem_flatMap.2 ⟨x, hargs x hx, hi⟩
        · refine List.mem_flatMap.2 ⟨f, hmf, ?_⟩
          rw [hf]
          rw [flat_ids (List.all_eq_true.1 hfl v hv)] at hi
          exact List.mem_flatMap.2 ⟨v, hv, hi⟩)
      rw [← h1 f hmf, ← hmap]
      generalize ρ f = v at e3
      cases v with
      | fn gf cap =>
        simp only [callDo]
        cases hcf : con gf with
        | none => rfl
        | some s =>
          dsimp only
          cases hfl : cap.all V.flat with
          | false => rfl
          | true => simp only [cond_true]; exact hloc gf s hcf _ D D' nid (e3 gf cap rfl hfl)
      | _ => rfl
    · rfl
  · rfl

theorem opDo_congr {P : Program} {con : FuncId → Option Spec} (hloc : ∀ f s, con f = some s → Local s) {nid : Nat} {ρ ρ' : Operand → V} {D D' : Nat → O} {o : Oper}
    (h1 : ∀ x ∈ o.op.operands.toList, ρ x = ρ' x) (h2 : ∀ l ∈ opIds D ρ o, D l = D' l) : opDo P con nid ρ D o = opDo P con nid ρ' D' o :=
  opDo0_congr hloc (fun x hx => by rw [h1 x hx]; exact res_congr fun l hl => h2 l (mem_rch _ (List.mem_flatMap.2 ⟨x, hx, by rw [h1 x hx]; exact hl⟩))) fun l hl => h2 l (rch_mono _ (fun i hi => by
    obtain ⟨x, hx, hi⟩ := List.mem_flatMap.1 hi
    exact List.mem_flatMap.2 ⟨x, hx, res_ids hi⟩) l hl)
end Go.Aw

/-
  A region whose order the machine draws: every order that its edges allow comes to the same.
-/
namespace Go.Aw
open Go Go.RowKit
set_option linter.unusedVariables false
set_option linter.unusedSimpArgs false

/-! ### the schedule -/

/-- A row of numbers below n, each behind those that it waits for. -/
def Valid (ops : Array Oper) : (Nat → Bool) → List Nat → Prop
  | X, [] => ∀ i, i < ops.size → X i = true
  | X, j :: r => j < ops.size ∧ X j = false ∧ (∀ o, ops[j]? = some o → ∀ e ∈ o.after.toList, Region.binds .any e = true → X e.on = true) ∧ Valid ops (fun i => X i || i == j) r

theorem edgesOK_spec : ∀ (l : List Oper) (k : Nat), edgesOK l k = true → ∀ i o, l[i]? = some o → ∀ e ∈ o.after.toList, Region.binds .any e = true → e.on < k + i
  | [], _, _, i, o, h => by simp at h
  | x :: r, k, hk, i, o, h => by
    simp only [edgesOK, Bool.and_eq_true, List.all_eq_true] at hk
    cases i with
    | zero =>
      simp at h
      subst h
      intro e he hb
      have := hk.1 e he
      rw [hb] at this
      simp only [Bool.not_true, Bool.false_or, Nat.blt_eq] at this
      omega
    | succ i =>
      intro e he hb
      have := edgesOK_spec r (k + 1) hk.2 i o (by simpa using h) e he hb
      omega

theorem ranked_spec {m : Region.Mode} {rs : List Nat} {n : Nat} : ∀ (l : List Oper) (k : Nat), ranked m rs n l k = true → ∀ i o, l[i]? = some o → ∀ e ∈ o.after.toList, Region.binds m e = true → e.on < n ∧ rs.getD e.on 0 < rs.getD (k + i) 0
  | [], _, _, i, o, h => by simp at h
  | x :: r, k, hk, i, o, h => by
    simp only [ranked, Bool.and_eq_true, List.all_eq_true] at hk
    cases i with
    | zero =>
      simp at h
      subst h
      intro e he hb
      have := hk.1 e he
      rw [hb] at this
      simp only [Bool.not_true, Bool.false_or, Bool.and_eq_true, Nat.blt_eq] at this
      exact this
    | succ i =>
      intro e he hb
      have := ranked_spec r (k + 1) hk.2 i o (by simpa using h) e he hb
      rw [show k + (i + 1) = k + 1 + i by omega]
      exact this

def unl (n : Nat) (L : Array Bool) : Nat := ((List.range n).filter fun i => !L.getD i true).length

theorem unl_set {n : Nat} {L : Array Bool} {j : Nat} (hL : L.size = n) (hj : j < n) (hf : L.getD j true = false) : unl n (L.setIfInBounds j true) + 1 = unl n L := by
  have key : ∀ (l : List Nat), l.Nodup → j ∈ l → (l.filter fun i => !(L.setIfInBounds j true).getD i true).length + 1 = (l.filter fun i => !L.getD i true).length := by
    have hg : ∀ i, (L.setIfInBounds j true).getD i true = if i = j then true else L.getD i true := by
      intro i
      simp only [Array.getD_eq_getD_getElem?]
      by_cases h : i = j
      · subst h; simp [hL, hj]
      · rw [Array.getElem?_setIfInBounds_ne (Ne.symm h)]; simp [h]
    intro l
    induction l with
    | nil => intro _ h; simp at h
    | cons a r ih =>
      intro hn hm
      rw [List.nodup_cons] at hn
      by_cases ha : a = j
      · subst ha
        have hr : (r.filter fun i => !(L.setIfInBounds a true).getD i true) = r.filter fun i => !L.getD i true := by
          apply List.filter_congr
          intro i hi
          rw [hg i, if_neg (fun e : i = a => hn.1 (e ▸ hi))]
        rw [List.filter_cons, List.filter_cons, hg a, if_pos rfl, hf, hr]
        simp
      · have hm' : j ∈ r := by simpa [Ne.symm ha] using hm
        have := ih hn.2 hm'
        rw [List.filter_cons, List.filter_cons, hg a, if_neg ha]
        cases L.getD a true
        · simp only [Bool.not_false, if_true, List.length_cons]; omega
        · simpa using this
  exact key _ List.nodup_range (by simpa using hj)

theorem binds_any {m : Region.Mode} {e : Edge} (h : Region.binds .any e = true) : Region.binds m e = true := by
  unfold Region.binds at *
  split at h <;> simp_all

theorem lin_valid {ops : Array Oper} {m : Region.Mode} {rk : Nat → Nat} (hd : ∀ i o, ops[i]? = some o → ∀ e ∈ o.after.toList, Region.binds m e = true → e.on < ops.size ∧ rk e.on < rk i) : ∀ (fuel t : Nat) (L : Array Bool) (acc : List Nat), L.size = ops.size → unl ops.size L = fuel →
    ∃ r, Region.linearise.go m ops fuel t L acc = acc.reverse ++ r ∧ Valid ops (fun i => L.getD i true) r
  | 0, t, L, acc, hL, hu => by
    refine ⟨[], by simp [Region.linearise.go], fun i hi => ?_⟩
    have : (List.range ops.size).filter (fun i => !L.getD i true) = [] := List.eq_nil_of_length_eq_zero hu
    rw [List.filter_eq_nil_iff] at this
    have := this i (by simpa using hi)
    simpa using this
  | fuel + 1, t, L, acc, hL, hu => by
    have hex : ∃ q, q < ops.size ∧ L.getD q true = false ∧ ∀ i, rk i < rk q → i < ops.size → L.getD i true = true := by
      have hne : (List.range ops.size).filter (fun i => !L.getD i true) ≠ [] := by
        intro h
        have hu' := hu
        unfold unl at hu'
        rw [h] at hu'
        simp at hu'
      obtain ⟨x, hx⟩ := List.exists_mem_of_ne_nil _ hne
      simp only [List.mem_filter, List.mem_range, Bool.not_eq_true'] at hx
      have : ∀ (b k : Nat), rk k < b → k < ops.size → L.getD k true = false → ∃ q, q < ops.size ∧ L.getD q true = false ∧ ∀ i, rk i < rk q → i < ops.size → L.getD i true = true := by
        intro b
        induction b with
        | zero => intro k hk; omega
        | succ b ih =>
          intro k hkb hk hkf
          by_cases h : ∃ i, rk i < rk k ∧ i < ops.size ∧ L.getD i true = false
          · obtain ⟨i, hi, hin, hif⟩ := h
            exact ih i (by omega) hin hif
          · exact ⟨k, hk, hkf, fun i hi hin => by
              cases hq : L.getD i true with
              | true => rfl
              | false => exact (h ⟨i, hi, hin, hq⟩).elim⟩
      exact this (rk x + 1) x (by omega) hx.1 hx.2
    obtain ⟨q, hm, hmf, hmin⟩ := hex
    simp only [Region.linearise.go]
    generalize hrs : ((List.range ops.size).filter fun i => !L.getD i true && ((ops[i]?).map (·.after.all fun e => !Region.binds m e || L.getD e.on false)).getD false) = rs
    have hmem : q ∈ rs := by
      rw [← hrs]
      simp only [List.mem_filter, List.mem_range, hm, hmf, true_and, Bool.not_false]
      have ho : ops[q]? = some ops[q] := by simp [hm]
      rw [ho]
      simp only [Option.map_some, Option.getD_some, Bool.true_and]
      rw [Array.all_eq_true']
      intro e he
      cases hbe : Region.binds m e with
      | false => rfl
      | true =>
      have := hd q _ ho e (by simpa using he) hbe
      have hl := hmin e.on this.2 this.1
      have hlt : e.on < L.size := by rw [hL]; exact this.1
      have : L.getD e.on false = true := by
        simp only [Array.getD_eq_getD_getElem?] at hl ⊢
        rw [Array.getElem?_eq_getElem hlt] at hl ⊢
        exact hl
      simp [this]
    have hpos : 0 < rs.length := List.length_pos_of_mem hmem
    have hlt : t % rs.length < rs.length := Nat.mod_lt _ hpos
    have hgj : rs[t % rs.length]? = some rs[t % rs.length] := by simp [hlt]
    generalize rs[t % rs.length] = j at hgj
    have hj : j ∈ rs := List.mem_of_getElem? hgj
    rw [← hrs] at hj
    simp only [List.mem_filter, List.mem_range, Bool.and_eq_true, Bool.not_eq_true'] at hj
    rw [hgj]
    simp only
    have hL2 : (L.setIfInBounds j true).size = ops.size := by simpa using hL
    have hu2 : unl ops.size (L.setIfInBounds j true) = fuel := by have := unl_set hL hj.1 hj.2.1; omega
    obtain ⟨r, hr, hv⟩ := lin_valid hd fuel (t / rs.length) (L.setIfInBounds j true) (j :: acc) hL2 hu2
    refine ⟨j :: r, by rw [hr]; simp, hj.1, hj.2.1, fun o ho e he hbe => ?_, ?_⟩
    · have h2 := hj.2.2
      rw [ho] at h2
      simp only [Option.map_some, Option.getD_some] at h2
      rw [Array.all_eq_true'] at h2
      have h3 := h2 e (by simpa using he)
      have h4 := binds_any (m := m) hbe
      simp only [h4, Bool.not_true, Bool.false_or] at h3
      simp only [Array.getD_eq_getD_getElem?] at h3 ⊢
      cases hq : L[e.on]? with
      | none => simp [hq] at h3
      | some b => simpa [hq] using h3
    · have : (fun i => (L.setIfInBounds j true).getD i true) = fun i => L.getD i true || i == j := by
        funext i
        simp only [Array.getD_eq_getD_getElem?]
        by_cases h : i = j
        · subst h; simp [hL, hj.1]
        · rw [Array.getElem?_setIfInBounds_ne (Ne.symm h)]; simp [h]
      rw [this] at hv
      exact hv

theorem lin_all {ops : Array Oper} {m : Region.Mode} {rk : Nat → Nat} (hd : ∀ i o, ops[i]? = some o → ∀ e ∈ o.after.toList, Region.binds m e = true → e.on < ops.size ∧ rk e.on < rk i) (t : Nat) : Valid ops (fun i => decide (ops.size ≤ i)) (Region.linearise m ops t) := by
  unfold Region.linearise
  have hL : (Array.replicate ops.size false).size = ops.size := by simp
  have hg : ∀ i, (Array.replicate ops.size false).getD i true = decide (ops.size ≤ i) := by
    intro i
    simp only [Array.getD_eq_getD_getElem?, Array.getElem?_replicate]
    by_cases hi : i < ops.size
    · simp [hi]
    · simp [hi]; omega
  have hu : unl ops.size (Array.replicate ops.size false) = ops.size := by
    unfold unl
    rw [List.filter_eq_self.2 (fun i hi => by
      rw [hg i]
      have : i < ops.size := by simpa using hi
      simp; omega)]
    simp
  obtain ⟨r, hr, hv⟩ := lin_valid hd ops.size t _ [] hL hu
  rw [hr]
  simp only [List.reverse_nil, List.nil_append]
  have : (fun i => (Array.replicate ops.size false).getD i true) = fun i => decide (ops.size ≤ i) := funext hg
  rw [this] at hv
  exact hv

theorem sched_valid {ops : Array Oper} {mixed : Bool} {t : Nat} (h : drawOK ops = true) : Valid ops (fun i => decide (ops.size ≤ i)) (Region.schedule mixed ops t) := by
  simp only [drawOK, Bool.and_eq_true] at h
  have hany : ∀ i o, ops[i]? = some o → ∀ e ∈ o.after.toList, Region.binds .any e = true → e.on < ops.size ∧ id e.on < id i := fun i o ho e he hb => by
    have := edgesOK_spec ops.toList 0 h.1 i o (by simpa using ho) e he hb
    have hi : i < ops.size := (Array.getElem?_eq_some_iff.1 ho).1
    simp only [id]
    omega
  have hm : ∀ m, modeOK m ops = true → ∀ t, Valid ops (fun i => decide (ops.size ≤ i)) (Region.linearise m ops t) := fun m hm t =>
    lin_all (rk := fun i => (rankGo m ops.toList 6 (ops.toList.map fun _ => 0)).getD i 0) (fun i o ho e he hb => by
      have := ranked_spec ops.toList 0 hm i o (by simpa using ho) e he hb
      rw [Nat.zero_add] at this
      exact this) t
  unfold Region.schedule
  split
  · exact lin_all hany t
  · rename_i hc
    have hdep : Region.departs ops = true := by
      cases hq : Region.departs ops with
      | true => rfl
      | false => rw [hq] at hc; simp at hc
    have h2 := h.2
    rw [hdep] at h2
    simp only [Bool.not_true, Bool.false_or, Bool.and_eq_true] at h2
    split
    · exact hm _ h2.1 _
    · exact hm _ h2.2 _

/-! ### the last writer -/

def vl {A : Type} (f : Nat → Option A) (a0 : A) (X : Nat → Bool) : Nat → A
  | 0 => a0
  | m + 1 => if X m = true then (f m).getD (vl f a0 X m) else vl f a0 X m

theorem vl_congr {A : Type} {f : Nat → Option A} {a0 : A} {X Y : Nat → Bool} : ∀ {m : Nat}, (∀ i, i < m → (f i).isSome = true → X i = Y i) → vl f a0 X m = vl f a0 Y m
  | 0, _ => rfl
  | m + 1, h => by
    have ih := vl_congr (X := X) (Y := Y) (a0 := a0) (f := f) (m := m) fun i hi hs => h i (by omega) hs
    simp only [vl, ih]
    cases hf : f m with
    | none => simp
    | some a => rw [h m (by omega) (by simp [hf])]

theorem vl_none {A : Type} {f : Nat → Option A} {a0 : A} {X : Nat → Bool} {j : Nat} : ∀ {m : Nat}, j ≤ m → (∀ i, j ≤ i → i < m → X i = true → f i = none) → vl f a0 X m = vl f a0 X j
  | 0, hj, _ => by have : j = 0 := by omega
                   subst this; rfl
  | m + 1, hj, h => by
    by_cases he : j = m + 1
    · subst he; rfl
    · rw [← vl_none (m := m) (by omega) fun i h1 h2 h3 => h i h1 (by omega) h3]
      simp only [vl]
      split
      · rename_i hx; rw [h m (by omega) (by omega) hx]; rfl
      · rfl

theorem vl_last {A : Type} {f : Nat → Option A} {a0 a : A} {X : Nat → Bool} {j m : Nat} (hj : j < m) (hx : X j = true) (hf : f j = some a) (h : ∀ i, j < i → i < m → X i = true → f i = none) : vl f a0 X m = a := by
  rw [vl_none (j := j + 1) (by omega) fun i h1 h2 h3 => h i (by omega) h2 h3]
  simp [vl, hx, hf]

theorem vl_lt {A : Type} {f : Nat → Option A} {a0 : A} {j m : Nat} (hj : j ≤ m) : vl f a0 (fun i => decide (i < j)) m = vl f a0 (fun _ => true) j := by
  rw [vl_none (j := j) hj fun i h1 h2 h3 => by simp at h3; omega]
  exact vl_congr fun i hi _ => by simp [hi]

/-! ### the region in the order of its text -/

structure Eff where
  ds : Option Nat
  v : V
  u : List (Nat × O)
  ft : Foot

def slotOf (e : Eff) (d : Nat) : Option V := if e.ds = some d then some e.v else none
def lastO : List (Nat × O) → Nat → Option O
  | [], _ => none
  | (k, o) :: r, l => match lastO r l with
    | some x => some x
    | none => if l = k then some o else none

theorem getO_ups : ∀ (u : List (Nat × O)) (h : List O) (l : Nat), getO (ups u h) l = (lastO u l).getD (getO h l)
  | [], h, l => rfl
  | (k, o) :: r, h, l => by
    simp only [ups, lastO]
    rw [getO_ups r, getO_putO]
    cases lastO r l with
    | some x => rfl
    | none => by_cases hl : l = k <;> simp [hl]

theorem lastO_mem : ∀ {u : List (Nat × O)} {l : Nat}, (lastO u l).isSome = true → l ∈ u.map (·.1)
  | [], l, h => by simp [lastO] at h
  | (k, o) :: r, l, h => by
    simp only [lastO] at h
    cases hr : lastO r l with
    | some x => exact List.mem_cons_of_mem _ (lastO_mem (by simp [hr]))
    | none =>
      rw [hr] at h
      by_cases hl : l = k
      · subst hl; simp
      · simp [hl] at h

/-- What an operation may come to: one of its ways ends so. -/
def DoV (v : V) (u : List (Nat × O)) : Do → Prop
  | .val v' u' => v' = v ∧ u' = u
  | .req p v' u' => p ∧ v' = v ∧ u' = u
  | .fork b d e => bif b then DoV v u d else DoV v u e
  | _ => False

structure StepE (P : Program) (con : FuncId → Option Spec) (ops : Array Oper) (nid : Nat) (o : Oper) (e : Eff) (c c' : Cfg) : Prop where
  ds : e.ds = o.dst
  fds : e.ft.ds = o.dst.toList
  bound : ∀ d, o.dst = some d → d < c.fr.nt
  look : ∀ d, Aw.look c'.fr.t d = (slotOf e d).getD (Aw.look c.fr.t d)
  get : ∀ l, getO c'.h l = (lastO e.u l).getD (getO c.h l)
  fn : c'.fr.fn = c.fr.fn
  nt : c'.fr.nt = c.fr.nt
  cs : c'.cs = c.cs
  kind : (∃ g want d x, o.guard = some (g, want) ∧ (ops[g]?).bind (·.dst) = some d ∧ Aw.look c.fr.t d = .kn x ∧ x ≠ .bool want ∧ e.v = .kn undef ∧ e.u = [] ∧ d ∈ e.ft.rd) ∨
    ((o.guard = none ∨ ∃ g want d, o.guard = some (g, want) ∧ (ops[g]?).bind (·.dst) = some d ∧ Aw.look c.fr.t d = .kn (.bool want) ∧ d ∈ e.ft.rd) ∧
      DoV e.v e.u (opDo P con nid (ev c.fr.t) (getO c.h) o) ∧ (∀ i, i < 16 → getO c.h (nid + i) = .hole) ∧
      (∀ d ∈ tmpsOf o.op.operands.toList, d ∈ e.ft.rd) ∧ (∀ i, i < 16 → e.ft.has (nid + i) = true) ∧ (∀ l ∈ opIds (getO c.h) (ev c.fr.t) o, e.ft.has l = true) ∧ e.ft.wr = e.u.map (·.1))

theorem putD_look {t t' : Tm} {nt : Nat} {d : Option Nat} {v : V} (h : putD t nt d v = some t') : (∀ k, d = some k → k < nt) ∧ ∀ k, look t' k = (if d = some k then some v else none : Option V).getD (look t k) := by
  cases d with
  | none => simp only [putD, Option.some.injEq] at h; subst h; exact ⟨fun k e => by simp at e, fun k => rfl⟩
  | some d =>
    simp only [putD] at h
    cases hb : Nat.blt d nt with
    | false => simp [hb] at h
    | true =>
      simp only [hb, cond_true, Option.some.injEq] at h
      subst h
      refine ⟨fun k e => by cases e; simpa [Nat.blt_eq] using hb, fun k => ?_⟩
      show (bif Nat.beq d k then v else look t k) = _
      by_cases he : d = k
      · subst he; simp
      · rw [show Nat.beq d k = false by rw [← Bool.not_eq_true]; exact fun hh => he (Nat.eq_of_beq_eq_true hh)]
        simp [he]

theorem setT_look {c : Cfg} {d : Nat} {v : V} (h : look c.fr.t d = v) (k : Nat) : look (setT c d v).fr.t k = look c.fr.t k := by
  show (bif Nat.beq d k then v else look c.fr.t k) = _
  cases hb : Nat.beq d k with
  | true => have := Nat.eq_of_beq_eq_true hb; subst this; exact h.symm
  | false => rfl

theorem getO_ge : ∀ {h : List O} {i : Nat}, h.length ≤ i → getO h i = .hole
  | [], i, _ => by cases i <;> rfl
  | o :: r, 0, h => by simp at h
  | o :: r, i + 1, h => getO_ge (h := r) (by simpa using h)

theorem ev_congr {t t' : Tm} (h : ∀ k, look t k = look t' k) : ev t = ev t' := by
  funext x
  cases x with
  | tmp i => exact h i
  | _ => rfl

variable {P : Program} {con : FuncId → Option Spec} {ops : Array Oper}

theorem drawOp_step {b nid : Nat} {ft : List (Nat × Foot)} {c c0 : Cfg} {o : Oper} {K : Foot → Cfg → Prop} (h : drawOp P con ops b nid ft c o K) (hlook : ∀ k, look c.fr.t k = look c0.fr.t k) (hc : c.h = c0.h) (hfn : c.fr.fn = c0.fr.fn) (hnt : c.fr.nt = c0.fr.nt) (hcs : c.cs = c0.cs)
    (hg : o.guard = none ∨ ∃ g want d, o.guard = some (g, want) ∧ (ops[g]?).bind (·.dst) = some d ∧ look c0.fr.t d = .kn (.bool want)) :
    ∃ e c', StepE P con ops nid o e c0 c' ∧ chk ft b e.ft = true ∧ K e.ft c' := by
  have hev := ev_congr hlook
  have guardIn : ∀ rest, (o.guard = none ∨ ∃ g want d, o.guard = some (g, want) ∧ (ops[g]?).bind (·.dst) = some d ∧ look c0.fr.t d = .kn (.bool want) ∧ d ∈ guardSlot ops o ++ rest) := by
    intro rest
    rcases hg with hg | ⟨g, want, d, h1, h2, h3⟩
    · exact .inl hg
    · exact .inr ⟨g, want, d, h1, h2, h3, by simp [guardSlot, h1, h2]⟩
  unfold drawOp at h
  cases hho : Nat.ble c.h.length nid with
  | false => rw [hho] at h; exact h.elim
  | true =>
    rw [hho] at h
    simp only [cond_true] at h
    have hholes : ∀ i, i < 16 → getO c.h (nid + i) = .hole := fun i _ => getO_ge (by have := Nat.le_of_ble_eq_true hho; omega)
    have fin : ∀ {v : V} {u : List (Nat × O)} {t : Tm}, putD c.fr.t c.fr.nt o.dst v = some t → DoV v u (opDo P con nid (ev c0.fr.t) (getO c0.h) o) →
        StepE P con ops nid o ⟨o.dst, v, u, ⟨guardSlot ops o ++ tmpsOf o.op.operands.toList, o.dst.toList, opIds (getO c.h) (ev c.fr.t) o, u.map (·.1), nid, nid + 16⟩⟩ c0 ⟨⟨c.fr.fn, c.fr.nt, t, c.fr.k⟩, c.cs, ups u c.h⟩ := by
      intro v u t hp hd
      obtain ⟨h1, h2⟩ := putD_look hp
      refine ⟨rfl, rfl, fun d hd => by rw [← hnt]; exact h1 d hd, fun d => by rw [h2 d, hlook d]; rfl, fun l => by rw [← hc]; exact getO_ups u c.h l, hfn, hnt, hcs, .inr ⟨guardIn _, hd, by rw [← hc]; exact hholes, fun d hd => by simp [hd], fun i hi => ?_, fun l hl => ?_, rfl⟩⟩
      · unfold Foot.has
        rw [Bool.or_eq_true]; right
        simp [Nat.blt_eq]; omega
      · unfold Foot.has
        rw [Bool.or_eq_true]; left
        rw [← hev, ← hc] at hl
        exact List.any_eq_true.2 ⟨l, hl, Nat.beq_refl l⟩
    have go : ∀ (d : Do), drawDo (fun v u =>
        let f : Foot := ⟨guardSlot ops o ++ tmpsOf o.op.operands.toList, o.dst.toList, opIds (getO c.h) (ev c.fr.t) o, u.map (·.1), nid, nid + 16⟩
        bif !chk ft b f then False else
        match putD c.fr.t c.fr.nt o.dst v with
        | some t => K f ⟨⟨c.fr.fn, c.fr.nt, t, c.fr.k⟩, c.cs, ups u c.h⟩
        | none => False) d → (∀ v u, DoV v u d → DoV v u (opDo P con nid (ev c0.fr.t) (getO c0.h) o)) → ∃ e c', StepE P con ops nid o e c0 c' ∧ chk ft b e.ft = true ∧ K e.ft c' := by
      have leaf : ∀ (v : V) (u : List (Nat × O)), (let f : Foot := ⟨guardSlot ops o ++ tmpsOf o.op.operands.toList, o.dst.toList, opIds (getO c.h) (ev c.fr.t) o, u.map (·.1), nid, nid + 16⟩
          bif !chk ft b f then False else
          match putD c.fr.t c.fr.nt o.dst v with
          | some t => K f ⟨⟨c.fr.fn, c.fr.nt, t, c.fr.k⟩, c.cs, ups u c.h⟩
          | none => False) → DoV v u (opDo P con nid (ev c0.fr.t) (getO c0.h) o) → ∃ e c', StepE P con ops nid o e c0 c' ∧ chk ft b e.ft = true ∧ K e.ft c' := by
        intro v u h hd
        dsimp only at h
        cases hck : chk ft b ⟨guardSlot ops o ++ tmpsOf o.op.operands.toList, o.dst.toList, opIds (getO c.h) (ev c.fr.t) o, u.map (·.1), nid, nid + 16⟩ with
        | false => rw [hck] at h; exact h.elim
        | true =>
          rw [hck] at h
          simp only [Bool.not_true, cond_false] at h
          cases hp : putD c.fr.t c.fr.nt o.dst v with
          | none => rw [hp] at h; exact h.elim
          | some t =>
            rw [hp] at h
            exact ⟨_, _, fin hp hd, hck, h⟩
      intro d
      induction d with
      | val v u => intro h hd; exact leaf v u h (hd v u ⟨rfl, rfl⟩)
      | req p v u => intro h hd; exact leaf v u h.2 (hd v u ⟨h.1, rfl, rfl⟩)
      | enter => intro h; exact h.elim
      | bad => intro h; exact h.elim
      | fork bb d e ihd ihe =>
        intro h hd
        cases bb with
        | true => exact ihd h fun v u hh => hd v u hh
        | false => exact ihe h fun v u hh => hd v u hh
      | eachS => intro h; exact h.elim
      | eachI => intro h; exact h.elim
      | eachB => intro h; exact h.elim
    exact go _ h fun v u hh => by rw [← hev, ← hc]; exact hh

theorem drawSkip_step {b nid : Nat} {ft : List (Nat × Foot)} {c c0 : Cfg} {o : Oper} {K : Foot → Cfg → Prop} (h : drawSkip ops b ft c o K) (hlook : ∀ k, look c.fr.t k = look c0.fr.t k) (hc : c.h = c0.h) (hfn : c.fr.fn = c0.fr.fn) (hnt : c.fr.nt = c0.fr.nt) (hcs : c.cs = c0.cs)
    {g : Nat} {want : Bool} {bb : Value} {d : Nat} (h1 : o.guard = some (g, want)) (h2 : (ops[g]?).bind (·.dst) = some d) (h3 : look c0.fr.t d = .kn bb) (h4 : bb ≠ .bool want) :
    ∃ e c', StepE P con ops nid o e c0 c' ∧ chk ft b e.ft = true ∧ K e.ft c' := by
  unfold drawSkip at h
  dsimp only at h
  cases hck : chk ft b ⟨guardSlot ops o, o.dst.toList, [], [], 0, 0⟩ with
  | false => rw [hck] at h; exact h.elim
  | true =>
    rw [hck] at h
    simp only [Bool.not_true, cond_false] at h
    cases hp : putD c.fr.t c.fr.nt o.dst (.kn undef) with
    | none => rw [hp] at h; exact h.elim
    | some t =>
      rw [hp] at h
      obtain ⟨p1, p2⟩ := putD_look hp
      refine ⟨⟨o.dst, .kn undef, [], ⟨guardSlot ops o, o.dst.toList, [], [], 0, 0⟩⟩, ⟨⟨c.fr.fn, c.fr.nt, t, c.fr.k⟩, c.cs, c.h⟩, ⟨rfl, rfl, fun d hd => by rw [← hnt]; exact p1 d hd, fun d => by rw [p2 d, hlook d]; rfl, fun l => by rw [← hc]; rfl, hfn, hnt, hcs, .inl ⟨g, want, d, bb, h1, h2, h3, h4, rfl, rfl, ?_⟩⟩, hck, h⟩
      simp [guardSlot, h1, h2]

theorem drawGuard_step {b nid : Nat} {ft : List (Nat × Foot)} {c : Cfg} {o : Oper} {K : Foot → Cfg → Prop} (h : drawGuard P con ops b nid ft c o K) :
    ∃ e c', StepE P con ops nid o e c c' ∧ chk ft b e.ft = true ∧ K e.ft c' := by
  unfold drawGuard at h
  cases hg : o.guard with
  | none => rw [hg] at h; exact drawOp_step h (fun _ => rfl) rfl rfl rfl rfl (.inl hg)
  | some gw =>
    obtain ⟨g, want⟩ := gw
    rw [hg] at h
    dsimp only at h
    cases hd : (ops[g]?).bind (·.dst) with
    | none => rw [hd] at h; exact h.elim
    | some d =>
      rw [hd] at h
      dsimp only at h
      split at h
      · rename_i t hl
        cases t with
        | true =>
          cases want with
          | true => exact drawOp_step (c := setT c d (.kn (.bool true))) h (setT_look hl) rfl rfl rfl rfl (.inr ⟨g, true, d, hg, hd, hl⟩)
          | false => exact drawSkip_step (c := setT c d (.kn (.bool true))) h (setT_look hl) rfl rfl rfl rfl hg hd hl (by simp)
        | false =>
          cases want with
          | true => exact drawSkip_step (c := setT c d (.kn (.bool false))) h (setT_look hl) rfl rfl rfl rfl hg hd hl (by simp)
          | false => exact drawOp_step (c := setT c d (.kn (.bool false))) h (setT_look hl) rfl rfl rfl rfl (.inr ⟨g, false, d, hg, hd, hl⟩)
      · rename_i t hl
        exact drawSkip_step (c := c) h (fun _ => rfl) rfl rfl rfl rfl hg hd hl (by simp)
      · exact h.elim

/-- The region, in the order of its text, as a row of effects. -/
structure Trc (P : Program) (con : FuncId → Option Spec) (ops : Array Oper) (bs : List Nat) (N0 m n : Nat) (E : Nat → Eff) (C : Nat → Cfg) : Prop where
  step : ∀ j, m ≤ j → j < n → ∃ o, ops[j]? = some o ∧ StepE P con ops (N0 + 16 * j) o (E j) (C j) (C (j + 1))
  conf : ∀ i j, m ≤ i → i < j → j < n → confl (E i).ft (E j).ft = true → Nat.testBit (bs.getD j 0) i = true

theorem drawRun_trace {N0 : Nat} {K : Cfg → Prop} {bs0 : List Nat} : ∀ (l : List Oper) (bs : List Nat) (m : Nat) (ft : List (Nat × Foot)) (c : Cfg), (∀ i, l[i]? = ops[m + i]?) → (∀ i, bs.getD i 0 = bs0.getD (m + i) 0) →
    drawRun P con ops N0 K l bs m ft c → ∃ E C, C m = c ∧ Trc P con ops bs0 N0 m (m + l.length) E C ∧ (∀ i f, (i, f) ∈ ft → ∀ j, m ≤ j → j < m + l.length → confl f (E j).ft = true → Nat.testBit (bs0.getD j 0) i = true) ∧ K (C (m + l.length))
  | [], bs, m, ft, c, _, _, h => ⟨fun _ => ⟨none, .any, [], ⟨[], [], [], [], 0, 0⟩⟩, fun _ => c, rfl, ⟨fun j h1 h2 => by simp at h2; omega, fun i j h1 h2 h3 => by simp at h3; omega⟩, fun i f _ j h1 h2 => by simp at h2; omega, h⟩
  | o :: r, bs, m, ft, c, hl, hb, h => by
    simp only [drawRun] at h
    obtain ⟨e, c', hs, hck, hk⟩ := drawGuard_step h
    have hbm : bs.headD 0 = bs0.getD m 0 := by
      have := hb 0
      cases bs <;> simpa using this
    obtain ⟨E, C, hC, hT, hft, hK⟩ := drawRun_trace r bs.tail (m + 1) ((m, e.ft) :: ft) c' (fun i => by have := hl (i + 1); simpa [Nat.add_assoc, Nat.add_comm 1] using this)
      (fun i => by have := hb (i + 1); rw [show m + 1 + i = m + (i + 1) by omega, ← this]; cases bs <;> simp) hk
    have hlen : m + (o :: r).length = m + 1 + r.length := by simp; omega
    refine ⟨fun j => if j = m then e else E j, fun j => if j = m then c else C j, by simp, ⟨fun j h1 h2 => ?_, fun i j h1 h2 h3 => ?_⟩, fun i f hi j h1 h2 => ?_, ?_⟩
    · by_cases hj : j = m
      · subst hj
        simp only [if_true, show j + 1 ≠ j by omega, if_false, hC]
        refine ⟨o, by have := hl 0; simpa using this.symm, hs⟩
      · simp only [hj, if_false, show j + 1 ≠ m by omega]
        exact hT.step j (by omega) (by omega)
    · by_cases hi : i = m
      · subst hi
        simp only [if_true, show j ≠ i by omega, if_false]
        exact hft i e.ft (by simp) j (by omega) (by omega)
      · simp only [hi, if_false, show j ≠ m by omega]
        exact hT.conf i j (by omega) h2 (by omega)
    · by_cases hj : j = m
      · subst hj
        simp only [if_true]
        intro hc
        have := List.all_eq_true.1 hck (i, f) hi
        simp only [hc, Bool.not_true, Bool.false_or] at this
        rw [← hbm]; exact this
      · simp only [hj, if_false]
        exact hft i f (by simp [hi]) j (by omega) (by omega)
    · have hne : m + (o :: r).length ≠ m := by simp
      simp only [hne, if_false]
      rw [hlen]; exact hK

/-! ### before -/

theorem befOf_spec : ∀ (es : List Edge) (acc : List Nat) (i : Nat), Nat.testBit (befOf es acc) i = true → ∃ e ∈ es, Region.binds .any e = true ∧ (i = e.on ∨ Nat.testBit (acc.getD e.on 0) i = true)
  | [], acc, i, h => by simp [befOf] at h
  | e :: r, acc, i, h => by
    simp only [befOf] at h
    cases hbe : Region.binds .any e with
    | false =>
      rw [hbe] at h
      obtain ⟨e', he, h'⟩ := befOf_spec r acc i h
      exact ⟨e', by simp [he], h'⟩
    | true =>
    rw [hbe] at h
    simp only [cond_true, Nat.testBit_or, Bool.or_eq_true] at h
    rcases h with (h | h) | h
    · exact ⟨e, by simp, hbe, .inl (by
        have := Nat.testBit_two_pow (n := e.on) (m := i)
        rw [this] at h
        simpa using (of_decide_eq_true h).symm)⟩
    · exact ⟨e, by simp, hbe, .inr h⟩
    · obtain ⟨e', he, h'⟩ := befOf_spec r acc i h
      exact ⟨e', by simp [he], h'⟩

theorem befGo_spec : ∀ (l : List Oper) (acc : List Nat), (∃ x, befGo l acc = acc ++ x) ∧ ∀ i o, l[i]? = some o → ∃ pre, (∀ k, k < acc.length + i → pre.getD k 0 = (befGo l acc).getD k 0) ∧ (befGo l acc).getD (acc.length + i) 0 = befOf o.after.toList pre
  | [], acc => ⟨⟨[], by simp [befGo]⟩, fun i o h => by simp at h⟩
  | a :: r, acc => by
    obtain ⟨⟨x, hx⟩, h2⟩ := befGo_spec r (acc ++ [befOf a.after.toList acc])
    refine ⟨⟨[befOf a.after.toList acc] ++ x, by simp only [befGo]; rw [hx]; simp⟩, fun i o h => ?_⟩
    simp only [befGo]
    cases i with
    | zero =>
      simp at h
      subst h
      refine ⟨acc, fun k hk => ?_, ?_⟩
      · rw [hx]
        simp only [Nat.add_zero] at hk
        simp [List.getD, List.getElem?_append_left hk]
      · rw [hx]
        simp [List.getD]
    | succ i =>
      obtain ⟨pre, h3, h4⟩ := h2 i o (by simpa using h)
      simp only [List.length_append, List.length_singleton] at h3 h4
      exact ⟨pre, fun k hk => h3 k (by omega), by rw [← h4]; congr 1; omega⟩

theorem bef_edge {ops : Array Oper} (hd : drawOK ops = true) {j i : Nat} {o : Oper} (ho : ops[j]? = some o) (h : Nat.testBit ((befGo ops.toList []).getD j 0) i = true) :
    ∃ e ∈ o.after.toList, Region.binds .any e = true ∧ (i = e.on ∨ Nat.testBit ((befGo ops.toList []).getD e.on 0) i = true) := by
  simp only [drawOK, Bool.and_eq_true] at hd
  obtain ⟨pre, h1, h2⟩ := (befGo_spec ops.toList []).2 j o (by simpa using ho)
  simp only [List.length_nil, Nat.zero_add] at h1 h2
  rw [h2] at h
  obtain ⟨e, he, hbe, hh⟩ := befOf_spec _ _ _ h
  refine ⟨e, he, hbe, hh.imp id fun h3 => ?_⟩
  have := edgesOK_spec ops.toList 0 hd.1 j o (by simpa using ho) e he hbe
  rw [← h1 e.on (by omega)]
  exact h3

theorem confl_ds {a b : Foot} {x : Nat} (h1 : x ∈ a.ds) (h2 : x ∈ b.rd ++ b.ds) : confl a b = true := by
  have : meets a.ds (b.rd ++ b.ds) = true := by simp only [meets, List.any_eq_true]; exact ⟨x, h1, x, h2, Nat.beq_refl x⟩
  simp [confl, this]
theorem confl_rd {a b : Foot} {x : Nat} (h1 : x ∈ b.ds) (h2 : x ∈ a.rd) : confl a b = true := by
  have : meets b.ds a.rd = true := by simp only [meets, List.any_eq_true]; exact ⟨x, h1, x, h2, Nat.beq_refl x⟩
  simp [confl, this]
theorem confl_wr {a b : Foot} {x : Nat} (h1 : x ∈ a.wr) (h2 : x ∈ b.wr) : confl a b = true := by
  have : meets a.wr b.wr = true := by simp only [meets, List.any_eq_true]; exact ⟨x, h1, x, h2, Nat.beq_refl x⟩
  simp [confl, this]
theorem confl_has {a b : Foot} {x : Nat} (h1 : x ∈ a.wr) (h2 : b.has x = true) : confl a b = true := by
  have : a.wr.any b.has = true := List.any_eq_true.2 ⟨x, h1, h2⟩
  simp [confl, this]
theorem confl_has' {a b : Foot} {x : Nat} (h1 : x ∈ b.wr) (h2 : a.has x = true) : confl a b = true := by
  have : b.wr.any a.has = true := List.any_eq_true.2 ⟨x, h1, h2⟩
  simp [confl, this]

theorem meets_of {a b : List Nat} {x : Nat} (ha : x ∈ a) (hb : x ∈ b) : meets a b = true := by
  simp only [meets, List.any_eq_true]
  exact ⟨x, ha, x, hb, Nat.beq_refl x⟩

variable {base : Blk} {w0 : World} {F0 : Fz} {pin : Pin} {f0 : FuncId} {ret : V → List O → Prop}

def Tx (E : Nat → Eff) (C : Nat → Cfg) (n : Nat) (X : Nat → Bool) (d : Nat) : V := vl (fun i => slotOf (E i) d) (look (C 0).fr.t d) X n
def Dx (E : Nat → Eff) (C : Nat → Cfg) (n : Nat) (X : Nat → Bool) (l : Nat) : O := vl (fun i => lastO (E i).u l) (getO (C 0).h l) X n

theorem text_state {bs : List Nat} {N0 n : Nat} {E : Nat → Eff} {C : Nat → Cfg} (T : Trc P con ops bs N0 0 n E C) : ∀ j, j ≤ n →
    (∀ d, look (C j).fr.t d = vl (fun i => slotOf (E i) d) (look (C 0).fr.t d) (fun _ => true) j) ∧ (∀ l, getO (C j).h l = vl (fun i => lastO (E i).u l) (getO (C 0).h l) (fun _ => true) j) ∧ (C j).fr.nt = (C 0).fr.nt ∧ (C j).fr.fn = (C 0).fr.fn ∧ (C j).cs = (C 0).cs
  | 0, _ => ⟨fun _ => rfl, fun _ => rfl, rfl, rfl, rfl⟩
  | j + 1, hj => by
    obtain ⟨h1, h2, h3, h4, h5⟩ := text_state T j (by omega)
    obtain ⟨o, _, S⟩ := T.step j (Nat.zero_le _) (by omega)
    exact ⟨fun d => by rw [S.look d]; simp only [vl, if_true, h1 d], fun l => by rw [S.get l]; simp only [vl, if_true, h2 l], S.nt.trans h3, S.fn.trans h4, S.cs.trans h5⟩

theorem snd_dov {base : Blk} {σ : Sig} {F : Fz} {h : List O} {w : World} {a : Act} {o : Oper} {v : V} {u : List (Nat × O)} : ∀ {d : Do}, DoV v u d → Snd P base σ F h w a o d → Fin P o a w (Aft base σ F w v (ups u h))
  | .val v' u', ⟨h1, h2⟩, hs => by subst h1 h2; exact hs
  | .req p v' u', ⟨hp, h1, h2⟩, hs => by subst h1 h2; exact hs hp
  | .fork true d e, h1, hs => snd_dov (d := d) h1 hs
  | .fork false d e, h1, hs => snd_dov (d := e) h1 hs

theorem draw_go (hcon : ∀ f s, con f = some s → SpecOK P f s) (hd : drawOK ops = true) {N0 : Nat} {E : Nat → Eff} {C : Nat → Cfg} (T : Trc P con ops (befGo ops.toList []) N0 0 ops.size E C)
    {b : Frame} {k : List Item} {cs : List Frame} : ∀ (l : List Nat) (X : Nat → Bool), Valid ops X l → (∀ j, j < ops.size → X j = true → ∀ i, Nat.testBit ((befGo ops.toList []).getD j 0) i = true → X i = true) →
    ∀ (σ : Sig) (F : Fz) (w : World) (h : List O) (a : Act), (∀ l, getO h l = Dx E C ops.size X l) → Gm base σ F h w → Und base w.heap.size → a.defers = [] → a.tmps.size = (C 0).fr.nt → (∀ d, RV F σ (Tx E C ops.size X d) (a.tmps.getD d undef)) →
    ∃ σ' F' w' h' a', (∀ l, getO h' l = Dx E C ops.size (fun _ => true) l) ∧ Gm base σ' F' h' w' ∧ Sle σ σ' ∧ FExt base F F' ∧ Kp base w w' ∧ a'.defers = [] ∧ a'.tmps.size = (C 0).fr.nt ∧ (∀ d, RV F' σ' (Tx E C ops.size (fun _ => true) d) (a'.tmps.getD d undef)) ∧
      Steps P (lone (b.at a (.inRegion ops l :: k)) cs w) (lone (b.at a' (.inRegion ops [] :: k)) cs w')
  | [], X, hv, _, σ, F, w, h, a, hh, g, hbase, hdf, hsz, ht => by
    have hX : ∀ i, i < ops.size → X i = true := hv
    refine ⟨σ, F, w, h, a, fun l => ?_, g, Sle.refl _, FExt.refl _ _, Kp.refl _ _, hdf, hsz, fun d => ?_, Steps.refl _ _⟩
    · rw [hh l]; exact vl_congr fun i hi _ => hX i hi
    · have : Tx E C ops.size (fun _ => true) d = Tx E C ops.size X d := vl_congr fun i hi _ => (hX i hi).symm
      rw [this]; exact ht d
  | j :: r, X, hv, hcl, σ, F, w, h, a, hh, g, hbase, hdf, hsz, ht => by
    obtain ⟨hj, hXj, hed, hvr⟩ := hv
    obtain ⟨o, ho, S⟩ := T.step j (Nat.zero_le _) hj
    obtain ⟨t1, t2, t3, t4, t5⟩ := text_state T j (by omega)
    -- all before j is done
    have hbef : ∀ i, Nat.testBit ((befGo ops.toList []).getD j 0) i = true → X i = true := by
      intro i hi
      obtain ⟨e, he, hbe, hh2⟩ := bef_edge hd ho hi
      have hXe := hed o ho e he hbe
      rcases hh2 with rfl | hh2
      · exact hXe
      · have hlt : e.on < ops.size := by
          simp only [drawOK, Bool.and_eq_true] at hd
          have := edgesOK_spec ops.toList 0 hd.1 j o (by simpa using ho) e he hbe
          omega
        exact hcl e.on hlt hXe i hh2
    -- what is behind j is not done
    have haft : ∀ i, j < i → i < ops.size → confl (E j).ft (E i).ft = true → X i = false := by
      intro i h1 h2 h3
      have := T.conf j i (Nat.zero_le _) h1 h2 h3
      cases hx : X i with
      | false => rfl
      | true => have := hcl i h2 hx j this; rw [hXj] at this; cases this
    have hfore : ∀ i, i < j → confl (E i).ft (E j).ft = true → X i = true := fun i h1 h2 => hbef i (T.conf i j (Nat.zero_le _) h1 hj h2)
    have slotIn : ∀ {i d : Nat}, i < ops.size → (slotOf (E i) d).isSome = true → d ∈ (E i).ft.ds := by
      intro i d hi hs
      obtain ⟨o', _, S'⟩ := T.step i (Nat.zero_le _) hi
      rw [S'.fds, ← S'.ds]
      unfold slotOf at hs
      split at hs
      · rename_i hh3; rw [hh3]; simp
      · simp at hs
    have objIn : ∀ {i l : Nat}, i < ops.size → (lastO (E i).u l).isSome = true → l ∈ (E i).ft.wr := by
      intro i l hi hs
      obtain ⟨o', _, S'⟩ := T.step i (Nat.zero_le _) hi
      have hm := lastO_mem hs
      rcases S'.kind with ⟨_, _, _, _, _, _, _, _, _, hu, _⟩ | ⟨_, _, _, _, _, _, hwr⟩
      · rw [hu] at hs; simp [lastO] at hs
      · rw [hwr]; exact hm
    -- what j reads is as in the text
    have hslot : ∀ d, d ∈ (E j).ft.rd → Tx E C ops.size X d = look (C j).fr.t d := by
      intro d hdm
      rw [t1 d, ← vl_lt (show j ≤ ops.size by omega)]
      refine vl_congr fun i hi hs => ?_
      have hdi := slotIn hi hs
      rcases Nat.lt_trichotomy i j with h1 | h1 | h1
      · rw [hfore i h1 (confl_ds hdi (List.mem_append_left _ hdm))]
        simp [h1]
      · subst h1; simp [hXj]
      · rw [haft i h1 hi (confl_rd hdi hdm)]
        simp; omega
    have hobj : ∀ l, (E j).ft.has l = true → Dx E C ops.size X l = getO (C j).h l := by
      intro l hlm
      rw [t2 l, ← vl_lt (show j ≤ ops.size by omega)]
      refine vl_congr fun i hi hs => ?_
      have hdi := objIn hi hs
      rcases Nat.lt_trichotomy i j with h1 | h1 | h1
      · rw [hfore i h1 (confl_has hdi hlm)]
        simp [h1]
      · subst h1; simp [hXj]
      · rw [haft i h1 hi (confl_has' hdi hlm)]
        simp; omega
    -- behind j
    have hZ : ∀ i, (fun i => X i || i == j) i = true → i ≠ j → X i = true := fun i h1 h2 => by simpa [h2] using h1
    have hTn : ∀ d, Tx E C ops.size (fun i => X i || i == j) d = (slotOf (E j) d).getD (Tx E C ops.size X d) := by
      intro d
      cases hs : slotOf (E j) d with
      | some v =>
        refine vl_last hj (by simp) hs fun i h1 h2 h3 => ?_
        cases hsi : slotOf (E i) d with
        | none => rfl
        | some v2 =>
          have hxi := hZ i h3 (by omega)
          have := haft i h1 h2 (confl_ds (x := d) (slotIn hj (by rw [hs]; rfl)) (List.mem_append_right _ (slotIn h2 (by rw [hsi]; rfl))))
          rw [hxi] at this; cases this
      | none =>
        refine vl_congr fun i hi hsi => ?_
        have : i ≠ j := fun e => by subst e; rw [hs] at hsi; simp at hsi
        simp [this]
    have hDn : ∀ l, Dx E C ops.size (fun i => X i || i == j) l = (lastO (E j).u l).getD (Dx E C ops.size X l) := by
      intro l
      cases hs : lastO (E j).u l with
      | some v =>
        refine vl_last hj (by simp) hs fun i h1 h2 h3 => ?_
        cases hsi : lastO (E i).u l with
        | none => rfl
        | some v2 =>
          have hxi := hZ i h3 (by omega)
          have := haft i h1 h2 (confl_wr (x := l) (objIn hj (by rw [hs]; rfl)) (objIn h2 (by rw [hsi]; rfl)))
          rw [hxi] at this; cases this
      | none =>
        refine vl_congr fun i hi hsi => ?_
        have : i ≠ j := fun e => by subst e; rw [hs] at hsi; simp at hsi
        simp [this]
    have hcl2 : ∀ q, q < ops.size → (X q || q == j) = true → ∀ i, Nat.testBit ((befGo ops.toList []).getD q 0) i = true → (X i || i == j) = true := by
      intro q hq hxq i hi
      by_cases hqj : q = j
      · subst hqj; simp [hbef i hi]
      · have := hcl q hq (by simpa [hqj] using hxq) i hi
        simp [this]
    -- one step, then the rest
    have rest : ∀ (x : Value) (σ' : Sig) (F' : Fz) (w' : World) (h' : List O), (∀ l, getO h' l = (lastO (E j).u l).getD (getO h l)) → Gm base σ' F' h' w' → RV F' σ' (E j).v x → Sle σ σ' → FExt base F F' → Kp base w w' →
        Steps P (lone (b.at a (.inRegion ops (j :: r) :: k)) cs w) (lone (b.at (a.put o.dst x) (.inRegion ops r :: k)) cs w') →
        ∃ σ' F' w' h' a', (∀ l, getO h' l = Dx E C ops.size (fun _ => true) l) ∧ Gm base σ' F' h' w' ∧ Sle σ σ' ∧ FExt base F F' ∧ Kp base w w' ∧ a'.defers = [] ∧ a'.tmps.size = (C 0).fr.nt ∧ (∀ d, RV F' σ' (Tx E C ops.size (fun _ => true) d) (a'.tmps.getD d undef)) ∧
          Steps P (lone (b.at a (.inRegion ops (j :: r) :: k)) cs w) (lone (b.at a' (.inRegion ops [] :: k)) cs w') := by
      intro x σ' F' w' h' hh' g' hv' hS' hF' hB' hst
      have hbound : ∀ d, o.dst = some d → d < a.tmps.size := fun d hdd => by rw [hsz, ← t3]; exact S.bound d hdd
      have hput : (a.put o.dst x).tmps.size = (C 0).fr.nt := by
        cases hod : o.dst with
        | none => exact hsz
        | some d => simpa [Act.put] using hsz
      have htm : ∀ d, RV F' σ' (Tx E C ops.size (fun i => X i || i == j) d) ((a.put o.dst x).tmps.getD d undef) := by
        intro d
        rw [hTn d]
        unfold slotOf
        rw [S.ds]
        cases hod : o.dst with
        | none => simpa [Act.put] using (ht d).mono hF'.1 hS'
        | some d' =>
          by_cases hdd : d' = d
          · subst hdd
            have hb := hbound d' hod
            simpa [Act.put, Array.getD_eq_getD_getElem?, hb] using hv'
          · have h2 := (ht d).mono hF'.1 hS'
            simp only [Array.getD_eq_getD_getElem?] at h2
            simpa [hdd, Act.put, Array.getD_eq_getD_getElem?, Array.getElem?_setIfInBounds_ne hdd] using h2
      obtain ⟨σ2, F2, w2, h2, a2, q1, q2, q3, q4, q5, q6, q7, q8, q9⟩ := draw_go hcon hd T (b := b) (k := k) (cs := cs) r _ hvr hcl2 σ' F' w' h' (a.put o.dst x) (fun l => by rw [hh' l, hh l, hDn l]) g' (hbase.mono hB'.size) (by rw [put_defers]; exact hdf) hput htm
      exact ⟨σ2, F2, w2, h2, a2, q1, q2, hS'.trans q3, hF'.trans q4, hB'.trans q5, q6, q7, q8, hst.trans q9⟩
    have hyieldx : ∀ {g' want d x}, o.guard = some (g', want) → (ops[g']?).bind (·.dst) = some d → look (C j).fr.t d = .kn x → x ≠ .bool want → d ∈ (E j).ft.rd → Region.wanted o (yielded ops a.tmps) = false := by
      intro g' want d x h1 h2 h3 h5 h4
      have hr := ht d
      rw [hslot d h4, h3] at hr
      generalize hx : a.tmps.getD d undef = y at hr
      cases hr
      rw [Array.getD_eq_getD_getElem?] at hx
      cases hq : a.tmps[d]? with
      | none => simp [Region.wanted, h1, yielded, h2, hq]
      | some q =>
        simp only [hq, Option.getD_some] at hx
        subst hx
        cases q with
        | bool bb =>
          have h6 : bb ≠ want := fun e => h5 (by rw [e])
          have h7 : yielded ops a.tmps g' = some bb := by simp [yielded, h2, hq]
          simp only [Region.wanted, h1, h7]
          cases bb <;> cases want <;> first | rfl | exact (h6 rfl).elim
        | _ => simp [Region.wanted, h1, yielded, h2, hq]
    have hyield : ∀ {g' want d bb}, o.guard = some (g', want) → (ops[g']?).bind (·.dst) = some d → look (C j).fr.t d = .kn (.bool bb) → d ∈ (E j).ft.rd → Region.wanted o (yielded ops a.tmps) = (bb == want) := by
      intro g' want d bb h1 h2 h3 h4
      have hr := ht d
      rw [hslot d h4, h3] at hr
      generalize hx : a.tmps.getD d undef = x at hr
      cases hr
      have hy : yielded ops a.tmps g' = some bb := by
        have : a.tmps[d]? = some (.bool bb) := by
          rw [Array.getD_eq_getD_getElem?] at hx
          cases hq : a.tmps[d]? with
          | none => simp [hq, undef] at hx
          | some q => simpa [hq] using hx
        simp [yielded, h2, this]
      simp [Region.wanted, h1, hy]
    rcases S.kind with ⟨g', want, d, bb, k1, k2, k3, k4, k5, k6, k7⟩ | ⟨k1, k2, k3, k4, k5, k6, k7⟩
    · have hw : Region.wanted o (yielded ops a.tmps) = false := by
        exact hyieldx k1 k2 k3 k4 k7
      refine rest undef σ F w h (fun l => by rw [k6]; rfl) g (by rw [k5]; exact .kn) (Sle.refl _) (FExt.refl _ _) (Kp.refl _ _) (.one ?_)
      have := step_op_skip (P := P) (b := b) (a := a) (k := k) (cs := cs) (w := w) (ops := ops) (i := j) (rest := r) (by simp [ho, hw])
      rw [ho] at this
      exact this
    · have hw : Region.wanted o (yielded ops a.tmps) = true := by
        rcases k1 with k1 | ⟨g', want, d, h1, h2, h3, h4⟩
        · simp [Region.wanted, k1]
        · rw [hyield h1 h2 h3 h4]; simp
      have hdo : opDo P con (N0 + 16 * j) (fun x => match x with | .tmp t => Tx E C ops.size X t | x => ev [] x) (getO h) o = opDo P con (N0 + 16 * j) (ev (C j).fr.t) (getO (C j).h) o := by
        have hop : ∀ x ∈ o.op.operands.toList, (fun x => match x with | .tmp t => Tx E C ops.size X t | x => ev [] x : Operand → V) x = ev (C j).fr.t x := by
          intro x hx
          cases x with
          | tmp t => exact hslot t (k4 t (by simp only [tmpsOf, List.mem_flatMap]; exact ⟨_, hx, by simp⟩))
          | _ => rfl
        refine (opDo_congr (fun f s h => (hcon f s h).2.1) (fun x hx => (hop x hx).symm) fun l hl => ?_).symm
        rw [hh l]
        exact (hobj l (k6 l hl)).symm
      have hhole : ∀ i, i < 16 → getO h (N0 + 16 * j + i) = .hole := fun i hi => by rw [hh, hobj _ (k5 i hi)]; exact k3 i hi
      have hS := op_sound (a := a) (con := con) (ρ := fun x => match x with | .tmp t => Tx E C ops.size X t | x => ev [] x) g hbase hhole hcon (fun x => by
        cases x with
        | tmp t => exact ht t
        | const c => exact .kn
        | global q => exact .any
        | func f => exact .fn rfl fun i v e => by simp at e) o
      rw [hdo] at hS
      have hF : Fin P o a w (Aft base σ F w (E j).v (ups (E j).u h)) := by
        exact snd_dov k2 hS
      obtain ⟨x, w', ⟨σ', F', g', hrv, hS', hF', hB'⟩, hsteps⟩ := fin_steps (rest := r) ho hw hF b k cs
      exact rest x σ' F' w' _ (fun l => getO_ups _ _ _) g' hrv hS' hF' hB' hsteps

/-- A region whose order is drawn. -/
theorem draw_good {ih : Cfg → Prop} (hcon : ∀ f s, con f = some s → SpecOK P f s) (hb0 : Und base w0.heap.size) (hih : ∀ c, ih c → Good P base w0 F0 pin f0 ret c) {c : Cfg} {id : Nat} {k : List Item}
    (hk : c.fr.k = .code (.region id ops true) :: k) (hd : drawOK ops = true) (h : drawRun P con ops c.h.length (fun c' => ih (c'.at k)) ops.toList (befGo ops.toList []) 0 [] c) : Good P base w0 F0 pin f0 ret c := by
  intro hb σ F w b a fs cs0 g hF hw hf hfs hpn
  obtain ⟨E, C, hC, hT, _, hK⟩ := drawRun_trace (bs0 := befGo ops.toList []) ops.toList _ 0 [] c (fun i => by simp) (fun i => by simp) h
  simp only [Nat.zero_add, Array.length_toList] at hT hK
  have hbase : Und base w.heap.size := hb0.mono hw.size
  have hst := step_region_draw (P := P) (b := b) (a := a) (k := k) (cs := fs ++ cs0) (w := w) (ops := ops) (id := id)
  have hv := sched_valid (mixed := P.follows .mixedOrders) (t := w.tape w.drawn (.order b.fn id)) hd
  have g1 : Gm base σ F c.h { w with drawn := w.drawn + 1 } := g.still (Nat.le_refl _) fun _ _ => rfl
  have hX0 : ∀ i, i < ops.size → (decide (ops.size ≤ i)) = false := fun i hi => by simp; omega
  have init : ∀ {A : Type} (f : Nat → Option A) (a0 : A), vl f a0 (fun i => decide (ops.size ≤ i)) ops.size = a0 := by
    intro A f a0
    rw [vl_none (j := 0) (Nat.zero_le _) fun i _ h2 h3 => by rw [hX0 i h2] at h3; cases h3]
    rfl
  obtain ⟨σ', F', w', h', a', q1, q2, q3, q4, q5, q6, q7, q8, q9⟩ := draw_go (base := base) (b := b) (k := k) (cs := fs ++ cs0) hcon hd hT _ _ hv (fun j hj hx => by rw [hX0 j hj] at hx; cases hx) σ F { w with drawn := w.drawn + 1 } c.h a
    (fun l => by unfold Dx; rw [init, hC]) g1 hbase hf.defers (by rw [hC]; exact hf.size) (fun d => by unfold Tx; rw [init, hC]; exact hf.tmps d)
  obtain ⟨t1, t2, t3, t4, t5⟩ := text_state hT ops.size (Nat.le_refl _)
  rw [hC] at t3 t4 t5
  have hbot : botFn ((C ops.size).at k).fr ((C ops.size).at k).cs = f0 := by
    rw [← hb]
    show botFn ⟨(C ops.size).fr.fn, (C ops.size).fr.nt, (C ops.size).fr.t, k⟩ (C ops.size).cs = botFn c.fr c.cs
    rw [t5]
    cases c.cs with
    | nil => exact t4
    | cons _ _ => rfl
  obtain ⟨x', w'', frl, h1, h2, h3⟩ := hih _ hK hbot σ' F' w' b a' fs cs0 (q2.of_get fun l => by rw [q1 l]; exact (t2 l).symm) (hF.trans q4) (hw.trans ((⟨rfl, rfl, rfl, Nat.le_refl _, fun _ _ => rfl⟩ : Kp base w { w with drawn := w.drawn + 1 }).trans q5))
    ⟨hf.fn.trans t4.symm, hf.kind, q6, by rw [q7, hC]; exact t3.symm, fun d => by
      have := q8 d
      have e : Tx E C ops.size (fun _ => true) d = look (C ops.size).fr.t d := (t1 d).symm
      rw [e] at this
      exact this⟩ (by rw [show ((C ops.size).at k).cs = (C ops.size).cs from rfl, t5]; exact hfs.mono q4.1 q3) (hpn.mono q3)
  refine ⟨x', w'', frl, h1, ?_, h3⟩
  rw [hk]
  exact .head hst (q9.trans (.head step_region_end h2))
end Go.Aw

