/- What is proved: contracts of functions of one seat, each by the executor; written by a program of the prover (gen.py) and by hand. Conditions: each contract names its own. -/
import Derived.Test.YtlfppcidlfkpkaaAw2
import Derived.Test.YtlfppcidlfkpkaaProg
import Derived.KernelRfl
import Derived.IntWalk
import Derived.Test.YtlfppcidlfkpkaaCons
import Derived.Test.YtlfppcidlfkpkaaConb
import Derived.Test.YtlfppcidlfkpkaaConc
import Derived.Test.YtlfppcidlfkpkaaConj
import Derived.Test.YtlfppcidlfkpkaaCond
import Derived.Test.YtlfppcidlfkpkaaCone
import Derived.Test.YtlfppcidlfkpkaaConf
namespace Go.Proofs.Ytlfppcidlfkpkaa
open Go Go.Aw Go.RowKit
set_option linter.unusedVariables false
set_option linter.unusedSimpArgs false
set_option maxRecDepth 10000

structure Sc where
  paid : Int
  now : Int
  op : Bool
  dead : Bool
/-- One event of a history, looked at. -/
def scS (ya : ByteArray) (ex : Int) (a : Sc) (e : Event) : Option Sc :=
  bif a.dead then none else bif e.kind == 2 then (bif a.op || decide (e.day > ex) then none else some ⟨a.paid, e.amt, a.op, false⟩) else
    bif e.kind == 5 then some ⟨W (a.paid + a.now), a.now, true, false⟩ else
    bif e.kind == 6 then (bif a.op then some ⟨a.paid, a.now, bif e.party.toList == ya.toList then false else a.op, false⟩ else none) else
    bif e.kind == 7 then (bif a.op || decide (e.day ≤ ex) then none else some ⟨a.paid, a.now, a.op, true⟩) else some ⟨a.paid, a.now, a.op, false⟩
def scL (ya : ByteArray) (ex : Int) (l : List Event) : Option Sc := l.foldl (fun o e => o.bind fun a => scS ya ex a e) (some ⟨0, 0, false, false⟩)
theorem scL_snoc (ya : ByteArray) (ex : Int) (l : List Event) (e : Event) : scL ya ex (l ++ [e]) = (scL ya ex l).bind fun a => scS ya ex a e := by unfold scL; rw [List.foldl_append]; rfl
theorem scL_take {ya : ByteArray} {ex : Int} {l : List Event} {a : Sc} (h : scL ya ex l = some a) : ∀ k i, i + k = l.length → ∃ b, scL ya ex (l.take i) = some b
  | 0, i, e => ⟨a, by rw [List.take_of_length_le (by omega)]; exact h⟩
  | k + 1, i, e => by
    obtain ⟨b, hb⟩ := scL_take h k (i + 1) (by omega)
    rw [take_at (by omega), scL_snoc] at hb
    cases hq : scL ya ex (l.take i) with
    | none => rw [hq] at hb; cases hb
    | some x => exact ⟨x, rfl⟩
def HInv (c : Cd) (s : Lf) : Prop := ∃ nw, scL c.ya c.ex s.hs = some ⟨sumI s.pd, nw, s.st == 5, s.st == 7⟩ ∧ (s.st = 2 ∨ s.st = 4 → nw = s.da)
theorem hinv_0 (c : Cd) : HInv c s0 := ⟨0, rfl, fun h => by rcases h with h | h <;> cases h⟩
theorem hinv_do {c : Cd} {s : Lf} (e : Event) (hI : Inv c s) (hB : boundsB c.amt c.ab c.be c.ex = true) (h : HInv c s) : HInv c (doS c s e) := by
  unfold doS
  cases hz : (doE c s e == 0) with
  | false => exact h
  | true =>
  obtain ⟨h1, h2, h3, h4, h5⟩ := doE_zero (by simpa using hz)
  obtain ⟨i1, i2, i3, i4, i5, i6⟩ := hI
  obtain ⟨nw, hs, hn⟩ := h
  obtain ⟨k, p, d, a⟩ := e
  have hk := right_kind h1
  simp only [cond_true] at *
  unfold standE at h3
  simp only [Bool.and_eq_true, decide_eq_true_eq] at h3
  obtain ⟨h6, h7⟩ := h3
  have hmB : mostI c.amt c.ab ≤ 4398046511104 := by
    obtain ⟨b1, b2, b3, b4, _⟩ := boundsB_iff.1 hB
    rw [mostI_eq (by omega) b2 b3 b4]
    have := mul_part (a := c.amt) (b := c.ab) (by omega) b3 b4
    omega
  have fin : ∀ (t : Lf) (x : Sc) (nw' : Int), t.hs = s.hs ++ [⟨k, p, d, a⟩] → scS c.ya c.ex ⟨sumI s.pd, nw, s.st == 5, s.st == 7⟩ ⟨k, p, d, a⟩ = some ⟨sumI t.pd, nw', t.st == 5, t.st == 7⟩ → (t.st = 2 ∨ t.st = 4 → nw' = t.da) → HInv c t := fun t x nw' e1 e2 e3 =>
    ⟨nw', by rw [e1, scL_snoc, hs]; exact e2, e3⟩
  rcases hk with rfl | rfl | rfl | rfl | rfl | rfl | rfl | rfl
  · have e : s.st = 0 := by simpa [inL] using h7
    exact fin _ ⟨0, 0, false, false⟩ nw rfl (by rw [e]; rfl) (fun h => by rcases h with h | h <;> cases h)
  · have e : s.st = 1 := by simpa [inL] using h7
    exact fin _ ⟨0, 0, false, false⟩ nw rfl (by show _ = some (⟨sumI s.pd, nw, s.st == 5, s.st == 7⟩ : Sc); rw [e]; rfl) (fun h => by
      have h : s.st = 2 ∨ s.st = 4 := h
      rw [e] at h
      rcases h with h | h <;> cases h)
  · have e : s.st = 1 ∨ s.st = 3 ∨ s.st = 6 := by simpa [inL] using h7
    have hm : mayI c.amt c.ab c.be c.ex c.pa s.pd d a = 0 := (mayI_C _ _ _ _ _ _ _ _).trans h5
    have hd := (may_zero.1 hm).2.2.1
    have q5 : (s.st == 5) = false := by rcases e with e | e | e <;> rw [e] <;> rfl
    have q7 : (s.st == 7) = false := by rcases e with e | e | e <;> rw [e] <;> rfl
    exact fin _ ⟨0, 0, false, false⟩ a rfl (by
      rw [q5, q7]
      have : decide (d > c.ex) = false := decide_eq_false (by omega)
      show (bif false || decide (d > c.ex) then none else some (⟨sumI s.pd, a, false, false⟩ : Sc)) = _
      rw [this]; rfl) (fun _ => rfl)
  · have e : s.st = 2 := by simpa [inL] using h7
    exact fin _ ⟨0, 0, false, false⟩ nw rfl (by rw [e]; rfl) (fun h => by rcases h with h | h <;> cases h)
  · have e : s.st = 2 := by simpa [inL] using h7
    exact fin _ ⟨0, 0, false, false⟩ nw rfl (by rw [e]; rfl) (fun _ => hn (.inl e))
  · have e : s.st = 4 := by simpa [inL] using h7
    obtain ⟨q1, q2⟩ := i4 (.inr e)
    have q3 := (right_sum i2).2.1
    have q4 := (right_snoc s.pd _).1 q1
    have q5 : 1 ≤ s.da := q4.2.1.1
    have := hn (.inr e)
    subst this
    exact fin _ ⟨0, 0, false, false⟩ s.da rfl (by
      rw [e]
      show some (⟨W (sumI s.pd + s.da), s.da, true, false⟩ : Sc) = some ⟨sumI (s.pd ++ [⟨s.dd, s.da⟩]), s.da, _, _⟩
      rw [sumI_snoc, show W (sumI s.pd + s.da) = sumI s.pd + s.da from wrap_in (by omega) (by omega)]; rfl) (fun h => by rcases h with h | h <;> cases h)
  · have e : s.st = 5 := by simpa [inL] using h7
    refine fin _ ⟨0, 0, false, false⟩ nw rfl ?_ ?_
    · rw [e]
      show some (⟨sumI s.pd, nw, bif p.toList == c.ya.toList then false else true, false⟩ : Sc) = some ⟨sumI s.pd, nw, (bif p.toList == c.ya.toList then 6 else s.st) == 5, (bif p.toList == c.ya.toList then 6 else s.st) == 7⟩
      rw [e]
      cases (p.toList == c.ya.toList) <;> rfl
    · intro h
      exfalso
      revert h
      show (bif p.toList == c.ya.toList then 6 else s.st) = 2 ∨ (bif p.toList == c.ya.toList then 6 else s.st) = 4 → False
      rw [e]
      cases (p.toList == c.ya.toList) <;> simp
  · have e : s.st = 0 ∨ s.st = 1 ∨ s.st = 3 ∨ s.st = 6 := by simpa [inL] using h7
    have q5 : (s.st == 5) = false := by rcases e with e | e | e | e <;> rw [e] <;> rfl
    have q7 : (s.st == 7) = false := by rcases e with e | e | e | e <;> rw [e] <;> rfl
    have h5 : (bif decide (d ≤ c.ex) then (3 : Int) else 0) = 0 := h5
    cases hd : decide (d ≤ c.ex) with
    | true => rw [hd] at h5; cases h5
    | false =>
      exact fin _ ⟨0, 0, false, false⟩ nw rfl (by
        rw [q5, q7]
        show (bif false || decide (d ≤ c.ex) then none else some (⟨sumI s.pd, nw, false, true⟩ : Sc)) = _
        rw [hd]; rfl) (fun h => by rcases h with h | h <;> cases h)

def UndertakeDraws_pre (yi ya yb yc : ByteArray) (amt ab be ex : Int) (pa : Bool) (l : List Event) : Prop := True
noncomputable def UndertakeDraws_val (yi ya yb yc : ByteArray) (amt ab be ex : Int) (pa : Bool) (l : List Event) : V := .kn (.bool true)
noncomputable def GUndertakeDraws : PSpec
  | [.agg [.kn (.string yi), .kn (.string ya), .kn (.string yb), .kn (.string yc), .kn (.int .i64 amt), .kn (.int .i64 ab), .kn (.int .i64 be), .kn (.int .i64 ex), .kn (.bool pa)], .list s_l n_l f_l] => some (eEvent.okl s_l n_l f_l ∧ UndertakeDraws_pre yi ya yb yc amt ab be ex pa (eEvent.dl n_l f_l), UndertakeDraws_val yi ya yb yc amt ab be ex pa (eEvent.dl n_l f_l))
  | _ => none
theorem UndertakeDraws_res (yi ya yb yc : ByteArray) (amt ab be ex : Int) (pa : Bool) (l : List Event) (good : Cfg → Prop) (R : Option V → Prop) : arun Try.prog (conOf [(7, lift Gawake), (9, lift Gheavy), (10, lift GrMay), (15, lift GrMost), (12, liftS [] SNew), (13, liftS [(0, []), (0, [24])] SDo), (32, liftS [] ScloneE)]) (0, [(4, 9, [1, 2, 5, 7], [(0, 2, []), (0, 5, []), (0, 5, [24])]), (4, 15, [2, 5, 8, 9, 10, 11, 12], [(0, 2, []), (0, 5, []), (0, 5, [24]), (0, 8, [])])]) good (RetO (R)) 3000 (entry Try.prog 4 [.agg [.kn (.string yi), .kn (.string ya), .kn (.string yb), .kn (.string yc), .kn (.int .i64 amt), .kn (.int .i64 ab), .kn (.int .i64 be), .kn (.int .i64 ex), .kn (.bool pa)], .list eEvent.s l.length (eEvent.tl l)]) =
    (awake_pre ∧ bif decide ((↑yi.size : Int) > (100 : Int)) then R (some (V.kn (Value.bool true))) else bif decide ((↑ya.size : Int) > (100 : Int)) then R (some (V.kn (Value.bool true))) else bif decide ((↑yb.size : Int) > (100 : Int)) then R (some (V.kn (Value.bool true))) else bif decide ((↑yc.size : Int) > (100 : Int)) then R (some (V.kn (Value.bool true))) else (eEvent.okl (4 : Nat) l.length (eEvent.tl l) ∧ heavy_pre (40 : Int) (eEvent.dl l.length (eEvent.tl l))) ∧ bif bP (heavyP (eEvent.dl l.length (eEvent.tl l)) (40 : Int)) then R (some (V.kn (Value.bool true))) else (rMay_pre (ByteArray.mk #[]) ya yb yi yc (ByteArray.mk #[]) (ByteArray.mk #[]) (ByteArray.mk #[]) amt ab be (0 : Int) ex (0 : Int) (0 : Int) pa false (1 : Nat) (0 : Nat) fun x => []) ∧ bif !lifeB yi ya yb yc amt ab be ex then R (some (V.kn (Value.bool true))) else bif lifeB yi ya yb yc amt ab be ex then (yi.size ≤ (9223372036854775807 : Nat) ∧ ya.size ≤ (9223372036854775807 : Nat) ∧ yb.size ≤ (9223372036854775807 : Nat) ∧ yc.size ≤ (9223372036854775807 : Nat)) ∧ good { fr := { fn := (4 : Nat), nt := (131 : Nat), t := [((1 : Nat), V.list (4 : Nat) l.length (eEvent.tl l)), ((2 : Nat), V.ptr (0 : Nat) (0 : Nat)), ((5 : Nat), V.ptr (1 : Nat) (0 : Nat)), ((7 : Nat), V.kn (Value.int IntKind.i64 (0 : Int)))], k := loopK Try.prog (4 : Nat) (9 : Nat) }, cs := [], h := [O.cells [V.kn (Value.string yi), V.kn (Value.string ya), V.kn (Value.string yb), V.kn (Value.string yc), V.kn (Value.int IntKind.i64 amt), V.kn (Value.int IntKind.i64 ab), V.kn (Value.int IntKind.i64 be), V.kn (Value.int IntKind.i64 ex), V.kn (Value.bool pa)], O.cells [V.kn (Value.string (ByteArray.mk #[])), V.kn (Value.string ya), V.kn (Value.string yb), V.kn (Value.string yi), V.kn (Value.string yc), V.kn (Value.string (ByteArray.mk #[])), V.kn (Value.string (ByteArray.mk #[])), V.kn (Value.string (ByteArray.mk #[])), V.kn (Value.int IntKind.i64 amt), V.kn (Value.int IntKind.i64 ab), V.kn (Value.int IntKind.i64 be), V.kn (Value.int IntKind.i64 (0 : Int)), V.kn (Value.int IntKind.i64 ex), V.kn (Value.int IntKind.i64 (0 : Int)), V.kn (Value.int IntKind.i64 (0 : Int)), V.kn (Value.bool pa), V.kn (Value.bool false), V.list (1 : Nat) (0 : Nat) (rowF [] (1 : Nat)), V.kn (Value.int IntKind.i64 (0 : Int)), V.kn (Value.bool false), V.kn (Value.bool false), V.kn (Value.int IntKind.i64 (0 : Int)), V.kn (Value.int IntKind.i64 (0 : Int)), V.list (2 : Nat) (0 : Nat) (eDraw.tl []), V.sl (2 : Nat)], O.row (40 : Nat) (4 : Nat) (0 : Nat) (eEvent.tl []) true] } else (yi.size ≤ (9223372036854775807 : Nat) ∧ ya.size ≤ (9223372036854775807 : Nat) ∧ yb.size ≤ (9223372036854775807 : Nat) ∧ yc.size ≤ (9223372036854775807 : Nat)) ∧ R (some (V.kn (Value.bool false)))) := by kernel_rfl
@[reducible] noncomputable def UndertakeDraws_c9 (yi ya yb yc : ByteArray) (amt ab be ex : Int) (pa : Bool) (l : List Event) (i : Int) (s : Lf) : Cfg := ⟨⟨4, 131, [(1, .list eEvent.s l.length (eEvent.tl l)), (2, .ptr 0 0), (5, .ptr 1 0), (7, .kn (.int .i64 i))], loopK Try.prog 4 9⟩, [], [.cells [.kn (.string yi), .kn (.string ya), .kn (.string yb), .kn (.string yc), .kn (.int .i64 amt), .kn (.int .i64 ab), .kn (.int .i64 be), .kn (.int .i64 ex), .kn (.bool pa)], .cells [.kn (.string (ByteArray.mk #[])), .kn (.string ya), .kn (.string yb), .kn (.string yi), .kn (.string yc), .kn (.string (ByteArray.mk #[])), .kn (.string (ByteArray.mk #[])), .kn (.string (ByteArray.mk #[])), .kn (.int .i64 amt), .kn (.int .i64 ab), .kn (.int .i64 be), .kn (.int .i64 0), .kn (.int .i64 ex), .kn (.int .i64 0), .kn (.int .i64 0), .kn (.bool pa), .kn (.bool false), .list 1 0 (rowF [] 1), .kn (.int .i64 s.st), .kn (.bool s.cf), .kn (.bool s.rp), .kn (.int .i64 s.dd), .kn (.int .i64 s.da), .list 2 s.pd.length (eDraw.tl s.pd), .sl 2], .row 40 4 s.hs.length (eEvent.tl s.hs) true]⟩
theorem UndertakeDraws_l9 (yi ya yb yc : ByteArray) (amt ab be ex : Int) (pa : Bool) (l : List Event) (i : Int) (s : Lf) (good : Cfg → Prop) (R : Option V → Prop) : arun Try.prog (conOf [(7, lift Gawake), (9, lift Gheavy), (10, lift GrMay), (15, lift GrMost), (12, liftS [] SNew), (13, liftS [(0, []), (0, [24])] SDo), (32, liftS [] ScloneE)]) (0, [(4, 9, [1, 2, 5, 7], [(0, 2, []), (0, 5, []), (0, 5, [24])]), (4, 15, [2, 5, 8, 9, 10, 11, 12], [(0, 2, []), (0, 5, []), (0, 5, [24]), (0, 8, [])])]) good (RetO (R)) 3000 (UndertakeDraws_c9 yi ya yb yc amt ab be ex pa l i s) =
    (bif decide (i < (↑l.length : Int)) then ((0 : Int) ≤ i ∧ i < (↑l.length : Int)) ∧ (eDraw.okl (2 : Nat) s.pd.length (eDraw.tl s.pd) ∧ eEvent.okl (4 : Nat) s.hs.length (eEvent.tl s.hs) ∧ Do_pre (ByteArray.mk #[]) ya yb yi yc (ByteArray.mk #[]) (ByteArray.mk #[]) (ByteArray.mk #[]) amt ab be (0 : Int) ex (0 : Int) (0 : Int) pa false (1 : Nat) (0 : Nat) (rowF [] (1 : Nat)) s.st s.cf s.rp s.dd s.da (l.getD i.toNat eEvent.dflt).kind (l.getD i.toNat eEvent.dflt).party (l.getD i.toNat eEvent.dflt).day (l.getD i.toNat eEvent.dflt).amt (eDraw.dl s.pd.length (eDraw.tl s.pd)) (eEvent.dl s.hs.length (eEvent.tl s.hs))) ∧ good { fr := { fn := (4 : Nat), nt := (131 : Nat), t := [((1 : Nat), V.list (4 : Nat) l.length (eEvent.tl l)), ((2 : Nat), V.ptr (0 : Nat) (0 : Nat)), ((5 : Nat), V.ptr (1 : Nat) (0 : Nat)), ((7 : Nat), V.kn (Value.int IntKind.i64 (IntKind.i64.wrap (i + (1 : Int)))))], k := loopK Try.prog (4 : Nat) (9 : Nat) }, cs := [], h := [O.cells [V.kn (Value.string yi), V.kn (Value.string ya), V.kn (Value.string yb), V.kn (Value.string yc), V.kn (Value.int IntKind.i64 amt), V.kn (Value.int IntKind.i64 ab), V.kn (Value.int IntKind.i64 be), V.kn (Value.int IntKind.i64 ex), V.kn (Value.bool pa)], O.cells [V.kn (Value.string (ByteArray.mk #[])), V.kn (Value.string ya), V.kn (Value.string yb), V.kn (Value.string yi), V.kn (Value.string yc), V.kn (Value.string (ByteArray.mk #[])), V.kn (Value.string (ByteArray.mk #[])), V.kn (Value.string (ByteArray.mk #[])), V.kn (Value.int IntKind.i64 amt), V.kn (Value.int IntKind.i64 ab), V.kn (Value.int IntKind.i64 be), V.kn (Value.int IntKind.i64 (0 : Int)), V.kn (Value.int IntKind.i64 ex), V.kn (Value.int IntKind.i64 (0 : Int)), V.kn (Value.int IntKind.i64 (0 : Int)), V.kn (Value.bool pa), V.kn (Value.bool false), V.list (1 : Nat) (0 : Nat) (rowF [] (1 : Nat)), V.kn (Value.int IntKind.i64 (doS { yi := yi, ya := ya, yb := yb, yc := yc, amt := amt, ab := ab, be := be, ex := ex, pa := pa } { st := s.st, cf := s.cf, rp := s.rp, dd := s.dd, da := s.da, pd := eDraw.dl s.pd.length (eDraw.tl s.pd), hs := eEvent.dl s.hs.length (eEvent.tl s.hs) } { kind := (l.getD i.toNat eEvent.dflt).kind, party := (l.getD i.toNat eEvent.dflt).party, day := (l.getD i.toNat eEvent.dflt).day, amt := (l.getD i.toNat eEvent.dflt).amt }).st), V.kn (Value.bool (doS { yi := yi, ya := ya, yb := yb, yc := yc, amt := amt, ab := ab, be := be, ex := ex, pa := pa } { st := s.st, cf := s.cf, rp := s.rp, dd := s.dd, da := s.da, pd := eDraw.dl s.pd.length (eDraw.tl s.pd), hs := eEvent.dl s.hs.length (eEvent.tl s.hs) } { kind := (l.getD i.toNat eEvent.dflt).kind, party := (l.getD i.toNat eEvent.dflt).party, day := (l.getD i.toNat eEvent.dflt).day, amt := (l.getD i.toNat eEvent.dflt).amt }).cf), V.kn (Value.bool (doS { yi := yi, ya := ya, yb := yb, yc := yc, amt := amt, ab := ab, be := be, ex := ex, pa := pa } { st := s.st, cf := s.cf, rp := s.rp, dd := s.dd, da := s.da, pd := eDraw.dl s.pd.length (eDraw.tl s.pd), hs := eEvent.dl s.hs.length (eEvent.tl s.hs) } { kind := (l.getD i.toNat eEvent.dflt).kind, party := (l.getD i.toNat eEvent.dflt).party, day := (l.getD i.toNat eEvent.dflt).day, amt := (l.getD i.toNat eEvent.dflt).amt }).rp), V.kn (Value.int IntKind.i64 (doS { yi := yi, ya := ya, yb := yb, yc := yc, amt := amt, ab := ab, be := be, ex := ex, pa := pa } { st := s.st, cf := s.cf, rp := s.rp, dd := s.dd, da := s.da, pd := eDraw.dl s.pd.length (eDraw.tl s.pd), hs := eEvent.dl s.hs.length (eEvent.tl s.hs) } { kind := (l.getD i.toNat eEvent.dflt).kind, party := (l.getD i.toNat eEvent.dflt).party, day := (l.getD i.toNat eEvent.dflt).day, amt := (l.getD i.toNat eEvent.dflt).amt }).dd), V.kn (Value.int IntKind.i64 (doS { yi := yi, ya := ya, yb := yb, yc := yc, amt := amt, ab := ab, be := be, ex := ex, pa := pa } { st := s.st, cf := s.cf, rp := s.rp, dd := s.dd, da := s.da, pd := eDraw.dl s.pd.length (eDraw.tl s.pd), hs := eEvent.dl s.hs.length (eEvent.tl s.hs) } { kind := (l.getD i.toNat eEvent.dflt).kind, party := (l.getD i.toNat eEvent.dflt).party, day := (l.getD i.toNat eEvent.dflt).day, amt := (l.getD i.toNat eEvent.dflt).amt }).da), V.list (2 : Nat) (doS { yi := yi, ya := ya, yb := yb, yc := yc, amt := amt, ab := ab, be := be, ex := ex, pa := pa } { st := s.st, cf := s.cf, rp := s.rp, dd := s.dd, da := s.da, pd := eDraw.dl s.pd.length (eDraw.tl s.pd), hs := eEvent.dl s.hs.length (eEvent.tl s.hs) } { kind := (l.getD i.toNat eEvent.dflt).kind, party := (l.getD i.toNat eEvent.dflt).party, day := (l.getD i.toNat eEvent.dflt).day, amt := (l.getD i.toNat eEvent.dflt).amt }).pd.length (eDraw.tl (doS { yi := yi, ya := ya, yb := yb, yc := yc, amt := amt, ab := ab, be := be, ex := ex, pa := pa } { st := s.st, cf := s.cf, rp := s.rp, dd := s.dd, da := s.da, pd := eDraw.dl s.pd.length (eDraw.tl s.pd), hs := eEvent.dl s.hs.length (eEvent.tl s.hs) } { kind := (l.getD i.toNat eEvent.dflt).kind, party := (l.getD i.toNat eEvent.dflt).party, day := (l.getD i.toNat eEvent.dflt).day, amt := (l.getD i.toNat eEvent.dflt).amt }).pd), V.sl (2 : Nat)], O.row (40 : Nat) (4 : Nat) (doS { yi := yi, ya := ya, yb := yb, yc := yc, amt := amt, ab := ab, be := be, ex := ex, pa := pa } { st := s.st, cf := s.cf, rp := s.rp, dd := s.dd, da := s.da, pd := eDraw.dl s.pd.length (eDraw.tl s.pd), hs := eEvent.dl s.hs.length (eEvent.tl s.hs) } { kind := (l.getD i.toNat eEvent.dflt).kind, party := (l.getD i.toNat eEvent.dflt).party, day := (l.getD i.toNat eEvent.dflt).day, amt := (l.getD i.toNat eEvent.dflt).amt }).hs.length (eEvent.tl (doS { yi := yi, ya := ya, yb := yb, yc := yc, amt := amt, ab := ab, be := be, ex := ex, pa := pa } { st := s.st, cf := s.cf, rp := s.rp, dd := s.dd, da := s.da, pd := eDraw.dl s.pd.length (eDraw.tl s.pd), hs := eEvent.dl s.hs.length (eEvent.tl s.hs) } { kind := (l.getD i.toNat eEvent.dflt).kind, party := (l.getD i.toNat eEvent.dflt).party, day := (l.getD i.toNat eEvent.dflt).day, amt := (l.getD i.toNat eEvent.dflt).amt }).hs) true] } else (eEvent.okl (4 : Nat) s.hs.length (eEvent.tl s.hs) ∧ cloneE_pre (eEvent.dl s.hs.length (eEvent.tl s.hs))) ∧ good { fr := { fn := (4 : Nat), nt := (131 : Nat), t := [((2 : Nat), V.ptr (0 : Nat) (0 : Nat)), ((5 : Nat), V.ptr (1 : Nat) (0 : Nat)), ((8 : Nat), V.sl (3 : Nat)), ((9 : Nat), V.kn (Value.int IntKind.i64 (0 : Int))), ((10 : Nat), V.kn (Value.int IntKind.i64 (0 : Int))), ((11 : Nat), V.kn (Value.bool false)), ((12 : Nat), V.kn (Value.int IntKind.i64 (0 : Int)))], k := loopK Try.prog (4 : Nat) (15 : Nat) }, cs := [], h := [O.cells [V.kn (Value.string yi), V.kn (Value.string ya), V.kn (Value.string yb), V.kn (Value.string yc), V.kn (Value.int IntKind.i64 amt), V.kn (Value.int IntKind.i64 ab), V.kn (Value.int IntKind.i64 be), V.kn (Value.int IntKind.i64 ex), V.kn (Value.bool pa)], O.cells [V.kn (Value.string (ByteArray.mk #[])), V.kn (Value.string ya), V.kn (Value.string yb), V.kn (Value.string yi), V.kn (Value.string yc), V.kn (Value.string (ByteArray.mk #[])), V.kn (Value.string (ByteArray.mk #[])), V.kn (Value.string (ByteArray.mk #[])), V.kn (Value.int IntKind.i64 amt), V.kn (Value.int IntKind.i64 ab), V.kn (Value.int IntKind.i64 be), V.kn (Value.int IntKind.i64 (0 : Int)), V.kn (Value.int IntKind.i64 ex), V.kn (Value.int IntKind.i64 (0 : Int)), V.kn (Value.int IntKind.i64 (0 : Int)), V.kn (Value.bool pa), V.kn (Value.bool false), V.list (1 : Nat) (0 : Nat) (rowF [] (1 : Nat)), V.kn (Value.int IntKind.i64 s.st), V.kn (Value.bool s.cf), V.kn (Value.bool s.rp), V.kn (Value.int IntKind.i64 s.dd), V.kn (Value.int IntKind.i64 s.da), V.list (2 : Nat) s.pd.length (eDraw.tl s.pd), V.sl (2 : Nat)], O.fz (4 : Nat) s.hs.length (eEvent.tl s.hs), O.row (40 : Nat) (4 : Nat) (eEvent.dl s.hs.length (eEvent.tl s.hs)).length (eEvent.tl (eEvent.dl s.hs.length (eEvent.tl s.hs))) true] }) := by kernel_rfl
@[reducible] noncomputable def UndertakeDraws_c15 (yi ya yb yc : ByteArray) (amt ab be ex : Int) (pa : Bool) (l : List Event) (paid now : Int) (op : Bool) (i : Int) (s : Lf) : Cfg := ⟨⟨4, 131, [(2, .ptr 0 0), (5, .ptr 1 0), (8, .sl 3), (9, .kn (.int .i64 paid)), (10, .kn (.int .i64 now)), (11, .kn (.bool op)), (12, .kn (.int .i64 i))], loopK Try.prog 4 15⟩, [], [.cells [.kn (.string yi), .kn (.string ya), .kn (.string yb), .kn (.string yc), .kn (.int .i64 amt), .kn (.int .i64 ab), .kn (.int .i64 be), .kn (.int .i64 ex), .kn (.bool pa)], .cells [.kn (.string (ByteArray.mk #[])), .kn (.string ya), .kn (.string yb), .kn (.string yi), .kn (.string yc), .kn (.string (ByteArray.mk #[])), .kn (.string (ByteArray.mk #[])), .kn (.string (ByteArray.mk #[])), .kn (.int .i64 amt), .kn (.int .i64 ab), .kn (.int .i64 be), .kn (.int .i64 0), .kn (.int .i64 ex), .kn (.int .i64 0), .kn (.int .i64 0), .kn (.bool pa), .kn (.bool false), .list 1 0 (rowF [] 1), .kn (.int .i64 s.st), .kn (.bool s.cf), .kn (.bool s.rp), .kn (.int .i64 s.dd), .kn (.int .i64 s.da), .list 2 s.pd.length (eDraw.tl s.pd), .sl 2], .fz 4 s.hs.length (eEvent.tl s.hs), .row 40 4 s.hs.length (eEvent.tl s.hs) true]⟩
theorem UndertakeDraws_l15 (yi ya yb yc : ByteArray) (amt ab be ex : Int) (pa : Bool) (l : List Event) (paid now : Int) (op : Bool) (i : Int) (s : Lf) (good : Cfg → Prop) (R : Option V → Prop) : arun Try.prog (conOf [(7, lift Gawake), (9, lift Gheavy), (10, lift GrMay), (15, lift GrMost), (12, liftS [] SNew), (13, liftS [(0, []), (0, [24])] SDo), (32, liftS [] ScloneE)]) (0, [(4, 9, [1, 2, 5, 7], [(0, 2, []), (0, 5, []), (0, 5, [24])]), (4, 15, [2, 5, 8, 9, 10, 11, 12], [(0, 2, []), (0, 5, []), (0, 5, [24]), (0, 8, [])])]) good (RetO (R)) 3000 (UndertakeDraws_c15 yi ya yb yc amt ab be ex pa l paid now op i s) =
    (bif decide (i < (↑s.hs.length : Int)) then ((0 : Int) ≤ i ∧ i < (↑s.hs.length : Int)) ∧ i.toNat < s.hs.length ∧ bif (s.hs.getD i.toNat eEvent.dflt).kind == (2 : Int) then bif op then R (some (V.kn (Value.bool false))) else ((0 : Int) ≤ i ∧ i < (↑s.hs.length : Int)) ∧ i.toNat < s.hs.length ∧ bif decide ((s.hs.getD i.toNat eEvent.dflt).day > ex) then R (some (V.kn (Value.bool false))) else ((0 : Int) ≤ i ∧ i < (↑s.hs.length : Int)) ∧ i.toNat < s.hs.length ∧ good { fr := { fn := (4 : Nat), nt := (131 : Nat), t := [((2 : Nat), V.ptr (0 : Nat) (0 : Nat)), ((5 : Nat), V.ptr (1 : Nat) (0 : Nat)), ((8 : Nat), V.sl (3 : Nat)), ((9 : Nat), V.kn (Value.int IntKind.i64 paid)), ((10 : Nat), V.kn (Value.int IntKind.i64 (s.hs.getD i.toNat eEvent.dflt).amt)), ((11 : Nat), V.kn (Value.bool op)), ((12 : Nat), V.kn (Value.int IntKind.i64 (IntKind.i64.wrap (i + (1 : Int)))))], k := loopK Try.prog (4 : Nat) (15 : Nat) }, cs := [], h := [O.cells [V.kn (Value.string yi), V.kn (Value.string ya), V.kn (Value.string yb), V.kn (Value.string yc), V.kn (Value.int IntKind.i64 amt), V.kn (Value.int IntKind.i64 ab), V.kn (Value.int IntKind.i64 be), V.kn (Value.int IntKind.i64 ex), V.kn (Value.bool pa)], O.cells [V.kn (Value.string (ByteArray.mk #[])), V.kn (Value.string ya), V.kn (Value.string yb), V.kn (Value.string yi), V.kn (Value.string yc), V.kn (Value.string (ByteArray.mk #[])), V.kn (Value.string (ByteArray.mk #[])), V.kn (Value.string (ByteArray.mk #[])), V.kn (Value.int IntKind.i64 amt), V.kn (Value.int IntKind.i64 ab), V.kn (Value.int IntKind.i64 be), V.kn (Value.int IntKind.i64 (0 : Int)), V.kn (Value.int IntKind.i64 ex), V.kn (Value.int IntKind.i64 (0 : Int)), V.kn (Value.int IntKind.i64 (0 : Int)), V.kn (Value.bool pa), V.kn (Value.bool false), V.list (1 : Nat) (0 : Nat) (rowF [] (1 : Nat)), V.kn (Value.int IntKind.i64 s.st), V.kn (Value.bool s.cf), V.kn (Value.bool s.rp), V.kn (Value.int IntKind.i64 s.dd), V.kn (Value.int IntKind.i64 s.da), V.list (2 : Nat) s.pd.length (eDraw.tl s.pd), V.sl (2 : Nat)], O.fz (4 : Nat) s.hs.length (eEvent.tl s.hs), O.row (40 : Nat) (4 : Nat) s.hs.length (eEvent.tl s.hs) true] } else bif (s.hs.getD i.toNat eEvent.dflt).kind == (5 : Int) then good { fr := { fn := (4 : Nat), nt := (131 : Nat), t := [((2 : Nat), V.ptr (0 : Nat) (0 : Nat)), ((5 : Nat), V.ptr (1 : Nat) (0 : Nat)), ((8 : Nat), V.sl (3 : Nat)), ((9 : Nat), V.kn (Value.int IntKind.i64 (IntKind.i64.wrap (paid + now)))), ((10 : Nat), V.kn (Value.int IntKind.i64 now)), ((11 : Nat), V.kn (Value.bool true)), ((12 : Nat), V.kn (Value.int IntKind.i64 (IntKind.i64.wrap (i + (1 : Int)))))], k := loopK Try.prog (4 : Nat) (15 : Nat) }, cs := [], h := [O.cells [V.kn (Value.string yi), V.kn (Value.string ya), V.kn (Value.string yb), V.kn (Value.string yc), V.kn (Value.int IntKind.i64 amt), V.kn (Value.int IntKind.i64 ab), V.kn (Value.int IntKind.i64 be), V.kn (Value.int IntKind.i64 ex), V.kn (Value.bool pa)], O.cells [V.kn (Value.string (ByteArray.mk #[])), V.kn (Value.string ya), V.kn (Value.string yb), V.kn (Value.string yi), V.kn (Value.string yc), V.kn (Value.string (ByteArray.mk #[])), V.kn (Value.string (ByteArray.mk #[])), V.kn (Value.string (ByteArray.mk #[])), V.kn (Value.int IntKind.i64 amt), V.kn (Value.int IntKind.i64 ab), V.kn (Value.int IntKind.i64 be), V.kn (Value.int IntKind.i64 (0 : Int)), V.kn (Value.int IntKind.i64 ex), V.kn (Value.int IntKind.i64 (0 : Int)), V.kn (Value.int IntKind.i64 (0 : Int)), V.kn (Value.bool pa), V.kn (Value.bool false), V.list (1 : Nat) (0 : Nat) (rowF [] (1 : Nat)), V.kn (Value.int IntKind.i64 s.st), V.kn (Value.bool s.cf), V.kn (Value.bool s.rp), V.kn (Value.int IntKind.i64 s.dd), V.kn (Value.int IntKind.i64 s.da), V.list (2 : Nat) s.pd.length (eDraw.tl s.pd), V.sl (2 : Nat)], O.fz (4 : Nat) s.hs.length (eEvent.tl s.hs), O.row (40 : Nat) (4 : Nat) s.hs.length (eEvent.tl s.hs) true] } else bif (s.hs.getD i.toNat eEvent.dflt).kind == (6 : Int) then bif !op then R (some (V.kn (Value.bool false))) else ((0 : Int) ≤ i ∧ i < (↑s.hs.length : Int)) ∧ i.toNat < s.hs.length ∧ bif (s.hs.getD i.toNat eEvent.dflt).party.toList == ya.toList then good { fr := { fn := (4 : Nat), nt := (131 : Nat), t := [((2 : Nat), V.ptr (0 : Nat) (0 : Nat)), ((5 : Nat), V.ptr (1 : Nat) (0 : Nat)), ((8 : Nat), V.sl (3 : Nat)), ((9 : Nat), V.kn (Value.int IntKind.i64 paid)), ((10 : Nat), V.kn (Value.int IntKind.i64 now)), ((11 : Nat), V.kn (Value.bool false)), ((12 : Nat), V.kn (Value.int IntKind.i64 (IntKind.i64.wrap (i + (1 : Int)))))], k := loopK Try.prog (4 : Nat) (15 : Nat) }, cs := [], h := [O.cells [V.kn (Value.string yi), V.kn (Value.string ya), V.kn (Value.string yb), V.kn (Value.string yc), V.kn (Value.int IntKind.i64 amt), V.kn (Value.int IntKind.i64 ab), V.kn (Value.int IntKind.i64 be), V.kn (Value.int IntKind.i64 ex), V.kn (Value.bool pa)], O.cells [V.kn (Value.string (ByteArray.mk #[])), V.kn (Value.string ya), V.kn (Value.string yb), V.kn (Value.string yi), V.kn (Value.string yc), V.kn (Value.string (ByteArray.mk #[])), V.kn (Value.string (ByteArray.mk #[])), V.kn (Value.string (ByteArray.mk #[])), V.kn (Value.int IntKind.i64 amt), V.kn (Value.int IntKind.i64 ab), V.kn (Value.int IntKind.i64 be), V.kn (Value.int IntKind.i64 (0 : Int)), V.kn (Value.int IntKind.i64 ex), V.kn (Value.int IntKind.i64 (0 : Int)), V.kn (Value.int IntKind.i64 (0 : Int)), V.kn (Value.bool pa), V.kn (Value.bool false), V.list (1 : Nat) (0 : Nat) (rowF [] (1 : Nat)), V.kn (Value.int IntKind.i64 s.st), V.kn (Value.bool s.cf), V.kn (Value.bool s.rp), V.kn (Value.int IntKind.i64 s.dd), V.kn (Value.int IntKind.i64 s.da), V.list (2 : Nat) s.pd.length (eDraw.tl s.pd), V.sl (2 : Nat)], O.fz (4 : Nat) s.hs.length (eEvent.tl s.hs), O.row (40 : Nat) (4 : Nat) s.hs.length (eEvent.tl s.hs) true] } else good { fr := { fn := (4 : Nat), nt := (131 : Nat), t := [((2 : Nat), V.ptr (0 : Nat) (0 : Nat)), ((5 : Nat), V.ptr (1 : Nat) (0 : Nat)), ((8 : Nat), V.sl (3 : Nat)), ((9 : Nat), V.kn (Value.int IntKind.i64 paid)), ((10 : Nat), V.kn (Value.int IntKind.i64 now)), ((11 : Nat), V.kn (Value.bool op)), ((12 : Nat), V.kn (Value.int IntKind.i64 (IntKind.i64.wrap (i + (1 : Int)))))], k := loopK Try.prog (4 : Nat) (15 : Nat) }, cs := [], h := [O.cells [V.kn (Value.string yi), V.kn (Value.string ya), V.kn (Value.string yb), V.kn (Value.string yc), V.kn (Value.int IntKind.i64 amt), V.kn (Value.int IntKind.i64 ab), V.kn (Value.int IntKind.i64 be), V.kn (Value.int IntKind.i64 ex), V.kn (Value.bool pa)], O.cells [V.kn (Value.string (ByteArray.mk #[])), V.kn (Value.string ya), V.kn (Value.string yb), V.kn (Value.string yi), V.kn (Value.string yc), V.kn (Value.string (ByteArray.mk #[])), V.kn (Value.string (ByteArray.mk #[])), V.kn (Value.string (ByteArray.mk #[])), V.kn (Value.int IntKind.i64 amt), V.kn (Value.int IntKind.i64 ab), V.kn (Value.int IntKind.i64 be), V.kn (Value.int IntKind.i64 (0 : Int)), V.kn (Value.int IntKind.i64 ex), V.kn (Value.int IntKind.i64 (0 : Int)), V.kn (Value.int IntKind.i64 (0 : Int)), V.kn (Value.bool pa), V.kn (Value.bool false), V.list (1 : Nat) (0 : Nat) (rowF [] (1 : Nat)), V.kn (Value.int IntKind.i64 s.st), V.kn (Value.bool s.cf), V.kn (Value.bool s.rp), V.kn (Value.int IntKind.i64 s.dd), V.kn (Value.int IntKind.i64 s.da), V.list (2 : Nat) s.pd.length (eDraw.tl s.pd), V.sl (2 : Nat)], O.fz (4 : Nat) s.hs.length (eEvent.tl s.hs), O.row (40 : Nat) (4 : Nat) s.hs.length (eEvent.tl s.hs) true] } else bif (s.hs.getD i.toNat eEvent.dflt).kind == (7 : Int) then bif op then R (some (V.kn (Value.bool false))) else bif i != IntKind.i64.wrap ((↑s.hs.length : Int) - (1 : Int)) then R (some (V.kn (Value.bool false))) else ((0 : Int) ≤ i ∧ i < (↑s.hs.length : Int)) ∧ i.toNat < s.hs.length ∧ bif decide ((s.hs.getD i.toNat eEvent.dflt).day ≤ ex) then R (some (V.kn (Value.bool false))) else good { fr := { fn := (4 : Nat), nt := (131 : Nat), t := [((2 : Nat), V.ptr (0 : Nat) (0 : Nat)), ((5 : Nat), V.ptr (1 : Nat) (0 : Nat)), ((8 : Nat), V.sl (3 : Nat)), ((9 : Nat), V.kn (Value.int IntKind.i64 paid)), ((10 : Nat), V.kn (Value.int IntKind.i64 now)), ((11 : Nat), V.kn (Value.bool op)), ((12 : Nat), V.kn (Value.int IntKind.i64 (IntKind.i64.wrap (i + (1 : Int)))))], k := loopK Try.prog (4 : Nat) (15 : Nat) }, cs := [], h := [O.cells [V.kn (Value.string yi), V.kn (Value.string ya), V.kn (Value.string yb), V.kn (Value.string yc), V.kn (Value.int IntKind.i64 amt), V.kn (Value.int IntKind.i64 ab), V.kn (Value.int IntKind.i64 be), V.kn (Value.int IntKind.i64 ex), V.kn (Value.bool pa)], O.cells [V.kn (Value.string (ByteArray.mk #[])), V.kn (Value.string ya), V.kn (Value.string yb), V.kn (Value.string yi), V.kn (Value.string yc), V.kn (Value.string (ByteArray.mk #[])), V.kn (Value.string (ByteArray.mk #[])), V.kn (Value.string (ByteArray.mk #[])), V.kn (Value.int IntKind.i64 amt), V.kn (Value.int IntKind.i64 ab), V.kn (Value.int IntKind.i64 be), V.kn (Value.int IntKind.i64 (0 : Int)), V.kn (Value.int IntKind.i64 ex), V.kn (Value.int IntKind.i64 (0 : Int)), V.kn (Value.int IntKind.i64 (0 : Int)), V.kn (Value.bool pa), V.kn (Value.bool false), V.list (1 : Nat) (0 : Nat) (rowF [] (1 : Nat)), V.kn (Value.int IntKind.i64 s.st), V.kn (Value.bool s.cf), V.kn (Value.bool s.rp), V.kn (Value.int IntKind.i64 s.dd), V.kn (Value.int IntKind.i64 s.da), V.list (2 : Nat) s.pd.length (eDraw.tl s.pd), V.sl (2 : Nat)], O.fz (4 : Nat) s.hs.length (eEvent.tl s.hs), O.row (40 : Nat) (4 : Nat) s.hs.length (eEvent.tl s.hs) true] } else good { fr := { fn := (4 : Nat), nt := (131 : Nat), t := [((2 : Nat), V.ptr (0 : Nat) (0 : Nat)), ((5 : Nat), V.ptr (1 : Nat) (0 : Nat)), ((8 : Nat), V.sl (3 : Nat)), ((9 : Nat), V.kn (Value.int IntKind.i64 paid)), ((10 : Nat), V.kn (Value.int IntKind.i64 now)), ((11 : Nat), V.kn (Value.bool op)), ((12 : Nat), V.kn (Value.int IntKind.i64 (IntKind.i64.wrap (i + (1 : Int)))))], k := loopK Try.prog (4 : Nat) (15 : Nat) }, cs := [], h := [O.cells [V.kn (Value.string yi), V.kn (Value.string ya), V.kn (Value.string yb), V.kn (Value.string yc), V.kn (Value.int IntKind.i64 amt), V.kn (Value.int IntKind.i64 ab), V.kn (Value.int IntKind.i64 be), V.kn (Value.int IntKind.i64 ex), V.kn (Value.bool pa)], O.cells [V.kn (Value.string (ByteArray.mk #[])), V.kn (Value.string ya), V.kn (Value.string yb), V.kn (Value.string yi), V.kn (Value.string yc), V.kn (Value.string (ByteArray.mk #[])), V.kn (Value.string (ByteArray.mk #[])), V.kn (Value.string (ByteArray.mk #[])), V.kn (Value.int IntKind.i64 amt), V.kn (Value.int IntKind.i64 ab), V.kn (Value.int IntKind.i64 be), V.kn (Value.int IntKind.i64 (0 : Int)), V.kn (Value.int IntKind.i64 ex), V.kn (Value.int IntKind.i64 (0 : Int)), V.kn (Value.int IntKind.i64 (0 : Int)), V.kn (Value.bool pa), V.kn (Value.bool false), V.list (1 : Nat) (0 : Nat) (rowF [] (1 : Nat)), V.kn (Value.int IntKind.i64 s.st), V.kn (Value.bool s.cf), V.kn (Value.bool s.rp), V.kn (Value.int IntKind.i64 s.dd), V.kn (Value.int IntKind.i64 s.da), V.list (2 : Nat) s.pd.length (eDraw.tl s.pd), V.sl (2 : Nat)], O.fz (4 : Nat) s.hs.length (eEvent.tl s.hs), O.row (40 : Nat) (4 : Nat) s.hs.length (eEvent.tl s.hs) true] } else (rMost_pre (ByteArray.mk #[]) ya yb yi yc (ByteArray.mk #[]) (ByteArray.mk #[]) (ByteArray.mk #[]) amt ab be (0 : Int) ex (0 : Int) (0 : Int) pa false (1 : Nat) (0 : Nat) fun x => []) ∧ bif decide (paid ≤ mostI amt ab) then R (some (V.kn (Value.bool (op == (s.st == (5 : Int)))))) else R (some (V.kn (Value.bool false)))) := by kernel_rfl
theorem UndertakeDraws_ok (yi ya yb yc : ByteArray) (amt ab be ex : Int) (pa : Bool) (l : List Event) (len_l : l.length ≤ maxLen) (hp : UndertakeDraws_pre yi ya yb yc amt ab be ex pa l) (good : Cfg → Prop) (hstep : ∀ c, arun Try.prog (conOf [(7, lift Gawake), (9, lift Gheavy), (10, lift GrMay), (15, lift GrMost), (12, liftS [] SNew), (13, liftS [(0, []), (0, [24])] SDo), (32, liftS [] ScloneE)]) (0, [(4, 9, [1, 2, 5, 7], [(0, 2, []), (0, 5, []), (0, 5, [24])]), (4, 15, [2, 5, 8, 9, 10, 11, 12], [(0, 2, []), (0, 5, []), (0, 5, [24]), (0, 8, [])])]) good (RetO (Tells (UndertakeDraws_val yi ya yb yc amt ab be ex pa l))) 3000 (c) → good c) (hext : ∀ c c', CfgExt c c' → good c' → good c) (hle : ∀ c c', CfgLe 0 c c' → good c' → good c) : arun Try.prog (conOf [(7, lift Gawake), (9, lift Gheavy), (10, lift GrMay), (15, lift GrMost), (12, liftS [] SNew), (13, liftS [(0, []), (0, [24])] SDo), (32, liftS [] ScloneE)]) (0, [(4, 9, [1, 2, 5, 7], [(0, 2, []), (0, 5, []), (0, 5, [24])]), (4, 15, [2, 5, 8, 9, 10, 11, 12], [(0, 2, []), (0, 5, []), (0, 5, [24]), (0, 8, [])])]) good (RetO (Tells (UndertakeDraws_val yi ya yb yc amt ab be ex pa l))) 3000 (entry Try.prog 4 [.agg [.kn (.string yi), .kn (.string ya), .kn (.string yb), .kn (.string yc), .kn (.int .i64 amt), .kn (.int .i64 ab), .kn (.int .i64 be), .kn (.int .i64 ex), .kn (.bool pa)], .list eEvent.s l.length (eEvent.tl l)]) := by
  rw [UndertakeDraws_res]
  clear hle
  have okl : eEvent.okl 4 l.length (eEvent.tl l) := eEvent.okl_tl len_l
  have hmx : maxLen = 9223372036854775807 := rfl
  simp only [eDraw.dl_tl, eEvent.dl_tl]
  
  refine ⟨trivial, cond_intro (fun _ => tell rfl) fun g1 => cond_intro (fun _ => tell rfl) fun g2 => cond_intro (fun _ => tell rfl) fun g3 => cond_intro (fun _ => tell rfl) fun g4 => ⟨⟨okl, trivial⟩, cond_intro (fun _ => tell rfl) fun hv => ?_⟩⟩
  have z1 := of_decide_eq_false g1
  have z2 := of_decide_eq_false g2
  have z3 := of_decide_eq_false g3
  have z4 := of_decide_eq_false g4
  refine ⟨⟨by omega, by omega, by omega, by omega⟩, cond_intro (fun _ => tell rfl) fun h0 => ?_⟩
  
  have hL : lifeB yi ya yb yc amt ab be ex = true := of_not h0
  have z1 := of_decide_eq_false g1
  have z2 := of_decide_eq_false g2
  have z3 := of_decide_eq_false g3
  have z4 := of_decide_eq_false g4
  have hB := (life_parts hL).2.2.2.2.2.2.2.2.2
  have hlen : l.length ≤ 40 := by
    by_cases h2 : (40 : Int) < l.length
    · exact (bP_not.1 hv (.inr h2)).elim
    · omega
  have hpar : ∀ i (hi : i < l.length), l[i].party.size ≤ maxLen := fun i hi => by
    by_cases h2 : (l[i].party.size : Int) > 100
    · exact (bP_not.1 hv (.inl ⟨l[i], List.getElem_mem hi, h2⟩)).elim
    · omega
  
  refine cond_true' hL ⟨⟨by omega, by omega, by omega, by omega⟩, ?_⟩
  refine foreach l (fun i (s : Lf) => Inv (⟨yi, ya, yb, yc, amt, ab, be, ex, pa⟩ : Cd) s ∧ s.hs.length ≤ i ∧ HInv (⟨yi, ya, yb, yc, amt, ab, be, ex, pa⟩ : Cd) s) (fun i s => UndertakeDraws_c9 yi ya yb yc amt ab be ex pa l i s) (fun i s hi hv2 ih => ?_) (fun s hv2 => ?_) s0 ⟨inv_0 hB, Nat.zero_le _, hinv_0 _⟩
  · obtain ⟨hI, hsl, hH⟩ := hv2
    have hpd : s.pd.length ≤ s.hs.length := hI.2.2.2.2.2
    apply hstep
    rw [UndertakeDraws_l9]
    have e1 : (i : Int).toNat = i := by omega
    rw [e1, getD_at _ hi, wrap_succ hi len_l]
    simp only [eDraw.dl_tl, eEvent.dl_tl]
    have hl2 := do_len (c := (⟨yi, ya, yb, yc, amt, ab, be, ex, pa⟩ : Cd)) (s := s) l[i]
    exact cond_true' (decide_eq_true (by omega)) ⟨⟨by omega, by omega⟩, ⟨okD rfl (by omega), okE rfl (by omega), hpar i hi, by omega, by omega⟩, ih (doS (⟨yi, ya, yb, yc, amt, ab, be, ex, pa⟩ : Cd) s l[i]) ⟨inv_do l[i] hI, by omega, hinv_do l[i] hI hB hH⟩⟩
  · obtain ⟨hI, hsl, nw, hH, hnw⟩ := hv2
    have hpd : s.pd.length ≤ s.hs.length := hI.2.2.2.2.2
    apply hstep
    rw [UndertakeDraws_l9]
    simp only [eDraw.dl_tl, eEvent.dl_tl]
    refine cond_false' (decide_eq_false (by omega)) ⟨⟨okE rfl (by omega), by show _ ≤ _; omega⟩, ?_⟩
    refine foreach s.hs (fun i (a : Sc) => scL ya ex (s.hs.take i) = some a) (fun i a => UndertakeDraws_c15 yi ya yb yc amt ab be ex pa l a.paid a.now a.op i s) (fun i a hi hv2 ih => ?_) (fun a hv2 => ?_) ⟨0, 0, false, false⟩ rfl
    · apply hstep
      rw [UndertakeDraws_l15]
      have e1 : (i : Int).toNat = i := by omega
      rw [e1, getD_at _ hi, wrap_succ hi (by omega)]
      obtain ⟨b, hb⟩ := scL_take hH (s.hs.length - (i + 1)) (i + 1) (by omega)
      have hnext : ∀ (b : Sc), scL ya ex (s.hs.take (i + 1)) = some b → b.dead = true → i + 1 = s.hs.length := fun b hb hd => by
        by_cases hq : i + 1 < s.hs.length
        · obtain ⟨b2, hb2⟩ := scL_take hH (s.hs.length - (i + 2)) (i + 2) (by omega)
          rw [take_at hq, scL_snoc, hb] at hb2
          have : scS ya ex b s.hs[i + 1] = some b2 := hb2
          unfold scS at this
          rw [hd] at this
          cases this
        · omega
      have hb0 := hb
      rw [take_at hi, scL_snoc, hv2] at hb
      have hb : scS ya ex a s.hs[i] = some b := hb
      have bnd : (0 : Int) ≤ (i : Int) ∧ (i : Int) < s.hs.length := ⟨by omega, by omega⟩
      refine cond_true' (decide_eq_true (by omega)) ⟨bnd, hi, ?_⟩
      have ih := ih b hb0
      have hnext := hnext b hb0
      generalize s.hs[i] = e at *
      obtain ⟨paid, now, op, dead⟩ := a
      unfold scS at hb
      cases dead with
      | true => cases hb
      | false =>
      dsimp only at hb ⊢
      simp only [cond_false] at hb
      cases q2 : (e.kind == 2) with
      | true =>
        rw [q2] at hb
        cases op with
        | true => cases hb
        | false =>
        cases qd : decide (e.day > ex) with
        | true => rw [qd] at hb; cases hb
        | false =>
        rw [qd] at hb
        cases hb
        exact ⟨bnd, hi, bnd, hi, ih⟩
      | false =>
      rw [q2] at hb
      cases q5 : (e.kind == 5) with
      | true => rw [q5] at hb; cases hb; exact ih
      | false =>
      rw [q5] at hb
      cases q6 : (e.kind == 6) with
      | true =>
        rw [q6] at hb
        cases op with
        | false => cases hb
        | true =>
        refine ⟨bnd, hi, ?_⟩
        cases qp : (e.party.toList == ya.toList) with
        | true => rw [qp] at hb; cases hb; exact ih
        | false => rw [qp] at hb; cases hb; exact ih
      | false =>
      rw [q6] at hb
      cases q7 : (e.kind == 7) with
      | true =>
        rw [q7] at hb
        cases op with
        | true => cases hb
        | false =>
        cases qd : decide (e.day ≤ ex) with
        | true => rw [qd] at hb; cases hb
        | false =>
        rw [qd] at hb
        cases hb
        have hl := hnext rfl
        have hne : ((i : Int) != IntKind.i64.wrap ((s.hs.length : Int) - 1)) = false := by
          rw [wrap_in (by omega) (by omega)]
          simp only [bne_eq_false_iff_eq]
          omega
        refine cond_false' rfl ?_
        rw [hne]
        exact ⟨bnd, hi, ih⟩
      | false => rw [q7] at hb; cases hb; exact ih
    · apply hstep
      rw [UndertakeDraws_l15]
      rw [List.take_length] at hv2
      have he : a = ⟨sumI s.pd, nw, s.st == 5, s.st == 7⟩ := Option.some.inj (hv2.symm.trans hH)
      subst he
      have hm : sumI s.pd ≤ mostI amt ab := hI.2.2.1
      refine cond_false' (decide_eq_false (by omega)) ⟨trivial, cond_true' (decide_eq_true hm) (tell_bool ?_)⟩
      show ((s.st == 5) == (s.st == 5)) = true
      exact beq_self_eq_true _
/-- data that comes in -/
theorem eEvent_vok {u : V} (h : VOK (.sl [.int .i64, .str, .int .i64, .int .i64]) u) : ∃ xs : List Event, xs.length ≤ maxLen ∧ VExt u (.list eEvent.s xs.length (eEvent.tl xs)) ∧ ∀ x ∈ xs, eEvent_wf x := by
  refine eEvent.vok h rfl fun c hl hh => ?_
  match c, hl with
  | [c0, c1, c2, c3], _ =>
    have h0 := hh 0 _ c0 rfl rfl
    have h1 := hh 1 _ c1 rfl rfl
    have h2 := hh 2 _ c2 rfl rfl
    have h3 := hh 3 _ c3 rfl rfl
    obtain ⟨n0, rfl, w0⟩ := vok_int h0
    obtain ⟨n1, rfl, w1⟩ := vok_str h1
    obtain ⟨n2, rfl, w2⟩ := vok_int h2
    obtain ⟨n3, rfl, w3⟩ := vok_int h3
    exact ⟨⟨n0, n1, n2, n3⟩, ⟨VExt.refl _, VExt.refl _, VExt.refl _, VExt.refl _, trivial⟩, ⟨wf_i64 w0, w1, wf_i64 w2, wf_i64 w3⟩⟩

theorem len_9 {u : List V} (h : u.length = 9) : ∃ y0 y1 y2 y3 y4 y5 y6 y7 y8, u = [y0, y1, y2, y3, y4, y5, y6, y7, y8] := by
  match u, h with
  | [y0, y1, y2, y3, y4, y5, y6, y7, y8], _ => exact ⟨y0, y1, y2, y3, y4, y5, y6, y7, y8, rfl⟩
theorem UndertakeDraws_walk (W : World) {u0 : List V} {v0 : Array Value} (o0 : u0.length = 9) (c0 : ∀ (i : Nat) (c : CS) (u : V), ([.str, .str, .str, .str, .int .i64, .int .i64, .int .i64, .int .i64, .bool] : List CS)[i]? = some c → u0[i]? = some u → VOK c u) (e0 : RV (whole W) sig0 (.agg u0) (.agg v0)) {u1 : V} {v1 : Value} (o1 : VOK (.sl [.int .i64, .str, .int .i64, .int .i64]) u1) (e1 : RV (whole W) sig0 u1 v1) : Calls Try.prog 4 #[.agg v0, v1] W fun e w' => e = .returned (.bool true) ∧ Below W.heap.size W w' := by
  obtain ⟨u0_0, u0_1, u0_2, u0_3, u0_4, u0_5, u0_6, u0_7, u0_8, rfl⟩ := len_9 o0
  have h0_0 := c0 0 _ u0_0 rfl rfl
  obtain ⟨n0_0, rfl, w0_0⟩ := vok_str h0_0
  have h0_1 := c0 1 _ u0_1 rfl rfl
  obtain ⟨n0_1, rfl, w0_1⟩ := vok_str h0_1
  have h0_2 := c0 2 _ u0_2 rfl rfl
  obtain ⟨n0_2, rfl, w0_2⟩ := vok_str h0_2
  have h0_3 := c0 3 _ u0_3 rfl rfl
  obtain ⟨n0_3, rfl, w0_3⟩ := vok_str h0_3
  have h0_4 := c0 4 _ u0_4 rfl rfl
  obtain ⟨n0_4, rfl, w0_4⟩ := vok_int h0_4
  have h0_5 := c0 5 _ u0_5 rfl rfl
  obtain ⟨n0_5, rfl, w0_5⟩ := vok_int h0_5
  have h0_6 := c0 6 _ u0_6 rfl rfl
  obtain ⟨n0_6, rfl, w0_6⟩ := vok_int h0_6
  have h0_7 := c0 7 _ u0_7 rfl rfl
  obtain ⟨n0_7, rfl, w0_7⟩ := vok_int h0_7
  have h0_8 := c0 8 _ u0_8 rfl rfl
  obtain ⟨n0_8, rfl⟩ := vok_bool h0_8
  obtain ⟨x1, l1, x1e, w1⟩ := eEvent_vok o1
  exact law_calls3 (con := conOf [(7, lift Gawake), (9, lift Gheavy), (10, lift GrMay), (15, lift GrMost), (12, liftS [] SNew), (13, liftS [(0, []), (0, [24])] SDo), (32, liftS [] ScloneE)]) (hs := (0, [(4, 9, [1, 2, 5, 7], [(0, 2, []), (0, 5, []), (0, 5, [24])]), (4, 15, [2, 5, 8, 9, 10, 11, 12], [(0, 2, []), (0, 5, []), (0, 5, [24]), (0, 8, [])])])) 3000 Try.func4 rfl (by kernel_rfl) rfl (conCons awake_con (conCons heavy_con (conCons rMay_con (conCons rMost_con (conCons New_con (conCons Do_con (conCons cloneE_con conNil))))))) (args := [_, _]) (args' := [.agg [.kn (.string n0_0), .kn (.string n0_1), .kn (.string n0_2), .kn (.string n0_3), .kn (.int .i64 n0_4), .kn (.int .i64 n0_5), .kn (.int .i64 n0_6), .kn (.int .i64 n0_7), .kn (.bool n0_8)], .list eEvent.s x1.length (eEvent.tl x1)]) ⟨e0, e1, trivial⟩ ⟨VExt.agg ⟨VExt.refl _, VExt.refl _, VExt.refl _, VExt.refl _, VExt.refl _, VExt.refl _, VExt.refl _, VExt.refl _, VExt.refl _, trivial⟩, x1e, trivial⟩ (by simp [Try.ntmps4]) fun good hstep hext hle => UndertakeDraws_ok n0_0 n0_1 n0_2 n0_3 n0_4 n0_5 n0_6 n0_7 n0_8 x1 l1 (trivial) good hstep hext hle

end Go.Proofs.Ytlfppcidlfkpkaa
