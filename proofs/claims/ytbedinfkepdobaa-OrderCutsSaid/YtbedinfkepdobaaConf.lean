/- What is proved: contracts of functions of one seat, each by the executor; written by a program of the prover (gen.py) and by hand. Conditions: each contract names its own. -/
import Derived.Test.YtbedinfkepdobaaAw2
import Derived.Test.YtbedinfkepdobaaProg
import Derived.KernelRfl
import Derived.IntWalk
import Derived.Test.YtbedinfkepdobaaCone
import Derived.MapKept
namespace Go.Proofs.Ytbedinfkepdobaa
open Go Go.Aw Go.RowKit
set_option linter.unusedVariables false
set_option linter.unusedSimpArgs false
set_option maxRecDepth 10000
abbrev Part := List Int
abbrev ePart : Enc Part := eRow eInt
def minG (xs : List Int) (a : Int) : Int := xs.foldl (fun a x => if x < a then x else a) a
def maxG (xs : List Int) (a : Int) : Int := xs.foldl (fun a x => if x > a then x else a) a
def badDay (d : Int) : Prop := d < 0 ∨ d > 1048576
def risesP (xs : List Int) : Prop := ∀ i, i + 1 < xs.length → xs.getD i 0 ≤ xs.getD (i + 1) 0
def goW (k : Nat) : Int → List Part → Bool
  | left, [] => left == 0
  | left, p :: r => bif decide (p.getD k 0 > left) then false else goW k (IntKind.i64.wrap (left - p.getD k 0)) r
def wholeP (ls : List Line) (ps : List Part) : Prop := ∀ i, i < ls.length → goW i (ls.getD i eLine.dflt).count ps = true

def xMin_pre  (xs : List Int) : Prop := 0 < xs.length
noncomputable def xMin_val  (xs : List Int) : V := .kn (.int .i64 (minG xs (xs.getD 0 0)))
noncomputable def GxMin : PSpec
  | [.list s_xs n_xs f_xs] => some (eInt.okl s_xs n_xs f_xs ∧ xMin_pre (eInt.dl n_xs f_xs), xMin_val (eInt.dl n_xs f_xs))
  | _ => none
theorem xMin_res  (xs : List Int) (good : Cfg → Prop) (R : Option V → Prop) : arun Try.prog (conOf []) (0, [(42, 5, [0, 3, 4], [])]) good (RetO (R)) 400 (entry Try.prog 42 [.list eInt.s xs.length (eInt.tl xs)]) =
    (bif decide ((↑xs.length : Int) < (1 : Int)) then False else ((0 : Int) ≤ (0 : Int) ∧ (0 : Int) < (↑xs.length : Int)) ∧ good { fr := { fn := (42 : Nat), nt := (25 : Nat), t := [((0 : Nat), V.list (1 : Nat) xs.length (eInt.tl xs)), ((3 : Nat), V.kn (Value.int IntKind.i64 (xs.getD (0 : Nat) (0 : Int)))), ((4 : Nat), V.kn (Value.int IntKind.i64 (1 : Int)))], k := loopK Try.prog (42 : Nat) (5 : Nat) }, cs := [], h := [] }) := by kernel_rfl
@[reducible] noncomputable def xMin_c5 (xs : List Int) (a i : Int) : Cfg := ⟨⟨42, 25, [(0, .list eInt.s xs.length (eInt.tl xs)), (3, .kn (.int .i64 a)), (4, .kn (.int .i64 i))], loopK Try.prog 42 5⟩, [], []⟩
theorem xMin_l5 (xs : List Int) (a i : Int) (good : Cfg → Prop) (R : Option V → Prop) : arun Try.prog (conOf []) (0, [(42, 5, [0, 3, 4], [])]) good (RetO (R)) 400 (xMin_c5 xs a i) =
    (bif decide (i < (↑xs.length : Int)) then ((0 : Int) ≤ i ∧ i < (↑xs.length : Int)) ∧ good { fr := { fn := (42 : Nat), nt := (25 : Nat), t := [((0 : Nat), V.list (1 : Nat) xs.length (eInt.tl xs)), ((3 : Nat), V.kn (Value.int IntKind.i64 (if xs.getD i.toNat (0 : Int) < a then xs.getD i.toNat (0 : Int) else a))), ((4 : Nat), V.kn (Value.int IntKind.i64 (IntKind.i64.wrap (i + (1 : Int)))))], k := loopK Try.prog (42 : Nat) (5 : Nat) }, cs := [], h := [] } else R (some (V.kn (Value.int IntKind.i64 a)))) := by kernel_rfl
theorem xMin_ok  (xs : List Int) (len_xs : xs.length ≤ maxLen) (hp : xMin_pre xs) (good : Cfg → Prop) (hstep : ∀ c, arun Try.prog (conOf []) (0, [(42, 5, [0, 3, 4], [])]) good (RetO (Tells (xMin_val xs))) 400 (c) → good c) (hext : ∀ c c', CfgExt c c' → good c' → good c) (hle : ∀ c c', CfgLe 0 c c' → good c' → good c) : arun Try.prog (conOf []) (0, [(42, 5, [0, 3, 4], [])]) good (RetO (Tells (xMin_val xs))) 400 (entry Try.prog 42 [.list eInt.s xs.length (eInt.tl xs)]) := by
  rw [xMin_res]
  have hl : 0 < xs.length := hp
  have hmx : maxLen = 9223372036854775807 := rfl
  have h0 : minG (xs.take 1) (xs.getD 0 0) = xs.getD 0 0 := by
    cases xs with
    | nil => simp at hl
    | cons x r => simp [minG]
  refine cond_false' (decide_eq_false (by omega)) ⟨⟨by omega, by omega⟩, ?_⟩
  have key : good (xMin_c5 xs (minG (xs.take 1) (xs.getD 0 0)) ((1 : Nat) : Int)) := by
    refine loop_ind (S := Nat) (fun i => xMin_c5 xs (minG (xs.take i) (xs.getD 0 0)) i) (fun i => i ≤ xs.length) (fun i => xs.length - i) (fun i hv ih => ?_) 1 (by omega)
    apply hstep
    rw [xMin_l5]
    have e1 : (i : Int).toNat = i := by omega
    rw [e1]
    refine cond_intro (fun h => ?_) (fun h => ?_)
    · have hi : i < xs.length := by have := of_decide_eq_true h; omega
      rw [wrap_succ hi len_xs, getD_at _ hi]
      have := ih (i + 1) (by omega) (by omega)
      rw [take_at hi, minG, List.foldl_append] at this
      exact ⟨⟨by omega, by omega⟩, this⟩
    · have hi : i = xs.length := by have := of_decide_eq_false h; omega
      rw [hi, List.take_length]
      exact tell (by rw [xMin_val])
  rw [h0] at key
  exact key
theorem xMin_con : SpecOK Try.prog 42 (lift GxMin) := by
  refine con_of_run3 (con := conOf []) (hs := (0, [(42, 5, [0, 3, 4], [])])) 400 Try.func42 rfl (by kernel_rfl) rfl conNil ?_
  intro args0 p r hG hp
  unfold GxMin at hG
  split at hG
  case h_2 => cases hG
  rename_i s_xs n_xs f_xs
  cases hG
  obtain ⟨ok_xs, hp⟩ := hp
  exact ⟨[.list eInt.s (eInt.dl n_xs f_xs).length (eInt.tl (eInt.dl n_xs f_xs))], ⟨eInt.extl ok_xs, trivial⟩, by simp [Try.ntmps42], fun good hstep hext hle => xMin_ok _ (by rw [eInt.dl_length]; exact ok_xs.2.1) hp good hstep hext hle⟩
def xMax_pre  (xs : List Int) : Prop := 0 < xs.length
noncomputable def xMax_val  (xs : List Int) : V := .kn (.int .i64 (maxG xs (xs.getD 0 0)))
noncomputable def GxMax : PSpec
  | [.list s_xs n_xs f_xs] => some (eInt.okl s_xs n_xs f_xs ∧ xMax_pre (eInt.dl n_xs f_xs), xMax_val (eInt.dl n_xs f_xs))
  | _ => none
theorem xMax_res  (xs : List Int) (good : Cfg → Prop) (R : Option V → Prop) : arun Try.prog (conOf []) (0, [(47, 5, [0, 3, 4], [])]) good (RetO (R)) 400 (entry Try.prog 47 [.list eInt.s xs.length (eInt.tl xs)]) =
    (bif decide ((↑xs.length : Int) < (1 : Int)) then False else ((0 : Int) ≤ (0 : Int) ∧ (0 : Int) < (↑xs.length : Int)) ∧ good { fr := { fn := (47 : Nat), nt := (25 : Nat), t := [((0 : Nat), V.list (1 : Nat) xs.length (eInt.tl xs)), ((3 : Nat), V.kn (Value.int IntKind.i64 (xs.getD (0 : Nat) (0 : Int)))), ((4 : Nat), V.kn (Value.int IntKind.i64 (1 : Int)))], k := loopK Try.prog (47 : Nat) (5 : Nat) }, cs := [], h := [] }) := by kernel_rfl
@[reducible] noncomputable def xMax_c5 (xs : List Int) (a i : Int) : Cfg := ⟨⟨47, 25, [(0, .list eInt.s xs.length (eInt.tl xs)), (3, .kn (.int .i64 a)), (4, .kn (.int .i64 i))], loopK Try.prog 47 5⟩, [], []⟩
theorem xMax_l5 (xs : List Int) (a i : Int) (good : Cfg → Prop) (R : Option V → Prop) : arun Try.prog (conOf []) (0, [(47, 5, [0, 3, 4], [])]) good (RetO (R)) 400 (xMax_c5 xs a i) =
    (bif decide (i < (↑xs.length : Int)) then ((0 : Int) ≤ i ∧ i < (↑xs.length : Int)) ∧ good { fr := { fn := (47 : Nat), nt := (25 : Nat), t := [((0 : Nat), V.list (1 : Nat) xs.length (eInt.tl xs)), ((3 : Nat), V.kn (Value.int IntKind.i64 (if xs.getD i.toNat (0 : Int) > a then xs.getD i.toNat (0 : Int) else a))), ((4 : Nat), V.kn (Value.int IntKind.i64 (IntKind.i64.wrap (i + (1 : Int)))))], k := loopK Try.prog (47 : Nat) (5 : Nat) }, cs := [], h := [] } else R (some (V.kn (Value.int IntKind.i64 a)))) := by kernel_rfl
theorem xMax_ok  (xs : List Int) (len_xs : xs.length ≤ maxLen) (hp : xMax_pre xs) (good : Cfg → Prop) (hstep : ∀ c, arun Try.prog (conOf []) (0, [(47, 5, [0, 3, 4], [])]) good (RetO (Tells (xMax_val xs))) 400 (c) → good c) (hext : ∀ c c', CfgExt c c' → good c' → good c) (hle : ∀ c c', CfgLe 0 c c' → good c' → good c) : arun Try.prog (conOf []) (0, [(47, 5, [0, 3, 4], [])]) good (RetO (Tells (xMax_val xs))) 400 (entry Try.prog 47 [.list eInt.s xs.length (eInt.tl xs)]) := by
  rw [xMax_res]
  have hl : 0 < xs.length := hp
  have hmx : maxLen = 9223372036854775807 := rfl
  have h0 : maxG (xs.take 1) (xs.getD 0 0) = xs.getD 0 0 := by
    cases xs with
    | nil => simp at hl
    | cons x r => simp [maxG]
  refine cond_false' (decide_eq_false (by omega)) ⟨⟨by omega, by omega⟩, ?_⟩
  have key : good (xMax_c5 xs (maxG (xs.take 1) (xs.getD 0 0)) ((1 : Nat) : Int)) := by
    refine loop_ind (S := Nat) (fun i => xMax_c5 xs (maxG (xs.take i) (xs.getD 0 0)) i) (fun i => i ≤ xs.length) (fun i => xs.length - i) (fun i hv ih => ?_) 1 (by omega)
    apply hstep
    rw [xMax_l5]
    have e1 : (i : Int).toNat = i := by omega
    rw [e1]
    refine cond_intro (fun h => ?_) (fun h => ?_)
    · have hi : i < xs.length := by have := of_decide_eq_true h; omega
      rw [wrap_succ hi len_xs, getD_at _ hi]
      have := ih (i + 1) (by omega) (by omega)
      rw [take_at hi, maxG, List.foldl_append] at this
      exact ⟨⟨by omega, by omega⟩, this⟩
    · have hi : i = xs.length := by have := of_decide_eq_false h; omega
      rw [hi, List.take_length]
      exact tell (by rw [xMax_val])
  rw [h0] at key
  exact key
theorem xMax_con : SpecOK Try.prog 47 (lift GxMax) := by
  refine con_of_run3 (con := conOf []) (hs := (0, [(47, 5, [0, 3, 4], [])])) 400 Try.func47 rfl (by kernel_rfl) rfl conNil ?_
  intro args0 p r hG hp
  unfold GxMax at hG
  split at hG
  case h_2 => cases hG
  rename_i s_xs n_xs f_xs
  cases hG
  obtain ⟨ok_xs, hp⟩ := hp
  exact ⟨[.list eInt.s (eInt.dl n_xs f_xs).length (eInt.tl (eInt.dl n_xs f_xs))], ⟨eInt.extl ok_xs, trivial⟩, by simp [Try.ntmps47], fun good hstep hext hle => xMax_ok _ (by rw [eInt.dl_length]; exact ok_xs.2.1) hp good hstep hext hle⟩
def sorted_pre  (xs : List Int) : Prop := True
noncomputable def sorted_val  (xs : List Int) : V := .kn (.bool (bP (risesP xs)))
noncomputable def Gsorted : PSpec
  | [.list s_xs n_xs f_xs] => some (eInt.okl s_xs n_xs f_xs ∧ sorted_pre (eInt.dl n_xs f_xs), sorted_val (eInt.dl n_xs f_xs))
  | _ => none
theorem sorted_res  (xs : List Int) (good : Cfg → Prop) (R : Option V → Prop) : arun Try.prog (conOf [(68, lift Gless)]) (0, [(44, 2, [0, 3], [])]) good (RetO (R)) 400 (entry Try.prog 44 [.list eInt.s xs.length (eInt.tl xs)]) =
    (good { fr := { fn := (44 : Nat), nt := (21 : Nat), t := [((0 : Nat), V.list (1 : Nat) xs.length (eInt.tl xs)), ((3 : Nat), V.kn (Value.int IntKind.i64 (IntKind.i64.wrap ((↑xs.length : Int) - (1 : Int)))))], k := loopK Try.prog (44 : Nat) (2 : Nat) }, cs := [], h := [] }) := by kernel_rfl
@[reducible] noncomputable def sorted_c2 (xs : List Int) (i : Int) : Cfg := ⟨⟨44, 21, [(0, .list eInt.s xs.length (eInt.tl xs)), (3, .kn (.int .i64 i))], loopK Try.prog 44 2⟩, [], []⟩
theorem sorted_l2 (xs : List Int) (i : Int) (good : Cfg → Prop) (R : Option V → Prop) : arun Try.prog (conOf [(68, lift Gless)]) (0, [(44, 2, [0, 3], [])]) good (RetO (R)) 400 (sorted_c2 xs i) =
    (bif decide (i > (0 : Int)) then ((0 : Int) ≤ i ∧ i < (↑xs.length : Int)) ∧ ((0 : Int) ≤ IntKind.i64.wrap (i - (1 : Int)) ∧ IntKind.i64.wrap (i - (1 : Int)) < (↑xs.length : Int)) ∧ less_pre (xs.getD i.toNat (0 : Int)) (xs.getD (IntKind.i64.wrap (i - (1 : Int))).toNat (0 : Int)) ∧ bif decide (xs.getD i.toNat (0 : Int) < xs.getD (IntKind.i64.wrap (i - (1 : Int))).toNat (0 : Int)) then R (some (V.kn (Value.bool false))) else good { fr := { fn := (44 : Nat), nt := (21 : Nat), t := [((0 : Nat), V.list (1 : Nat) xs.length (eInt.tl xs)), ((3 : Nat), V.kn (Value.int IntKind.i64 (IntKind.i64.wrap (i - (1 : Int)))))], k := loopK Try.prog (44 : Nat) (2 : Nat) }, cs := [], h := [] } else R (some (V.kn (Value.bool true)))) := by kernel_rfl
theorem sorted_ok  (xs : List Int) (len_xs : xs.length ≤ maxLen) (hp : sorted_pre xs) (good : Cfg → Prop) (hstep : ∀ c, arun Try.prog (conOf [(68, lift Gless)]) (0, [(44, 2, [0, 3], [])]) good (RetO (Tells (sorted_val xs))) 400 (c) → good c) (hext : ∀ c c', CfgExt c c' → good c' → good c) (hle : ∀ c c', CfgLe 0 c c' → good c' → good c) : arun Try.prog (conOf [(68, lift Gless)]) (0, [(44, 2, [0, 3], [])]) good (RetO (Tells (sorted_val xs))) 400 (entry Try.prog 44 [.list eInt.s xs.length (eInt.tl xs)]) := by
  rw [sorted_res]
  have hmx : maxLen = 9223372036854775807 := rfl
  by_cases hl : xs.length = 0
  · have e : IntKind.i64.wrap ((xs.length : Int) - 1) = -1 := by rw [wrap_in (by omega) (by omega)]; omega
    rw [e]
    apply hstep
    show arun _ _ _ _ _ _ (sorted_c2 xs (-1))
    rw [sorted_l2]
    exact cond_false' (decide_eq_false (by omega)) (tell_true fun i hi => by omega)
  · have e : IntKind.i64.wrap ((xs.length : Int) - 1) = ((xs.length - 1 : Nat) : Int) := by rw [wrap_in (by omega) (by omega)]; omega
    rw [e]
    refine loop_ind (S := Nat) (fun j => sorted_c2 xs j) (fun j => j < xs.length ∧ ∀ t, j ≤ t → t + 1 < xs.length → xs.getD t 0 ≤ xs.getD (t + 1) 0) (fun j => j) (fun j hv ih => ?_) (xs.length - 1) ⟨by omega, fun t h1 h2 => by omega⟩
    obtain ⟨hj, hv⟩ := hv
    apply hstep
    rw [sorted_l2]
    refine cond_intro (fun h => ?_) (fun h => ?_)
    · have h1 : 0 < j := by have := of_decide_eq_true h; omega
      have ew : IntKind.i64.wrap ((j : Int) - 1) = ((j - 1 : Nat) : Int) := by rw [wrap_in (by omega) (by omega)]; omega
      rw [ew, Int.toNat_natCast, Int.toNat_natCast]
      refine ⟨⟨by omega, by omega⟩, ⟨by omega, by omega⟩, trivial, cond_intro (fun g => tell_false fun hh => ?_) (fun g => ih (j - 1) ⟨by omega, fun t a1 a2 => ?_⟩ (by omega))⟩
      · have := hh (j - 1) (by omega)
        rw [show j - 1 + 1 = j by omega] at this
        have := of_decide_eq_true g; omega
      · by_cases e : t = j - 1
        · subst e
          rw [show j - 1 + 1 = j by omega]
          have := of_decide_eq_false g; omega
        · exact hv t (by omega) a2
    · have : j = 0 := by have := of_decide_eq_false h; omega
      subst this
      exact tell_true fun i hi => hv i (by omega) hi
theorem sorted_con : SpecOK Try.prog 44 (lift Gsorted) := by
  refine con_of_run3 (con := conOf [(68, lift Gless)]) (hs := (0, [(44, 2, [0, 3], [])])) 400 Try.func44 rfl (by kernel_rfl) rfl (conCons less_con conNil) ?_
  intro args0 p r hG hp
  unfold Gsorted at hG
  split at hG
  case h_2 => cases hG
  rename_i s_xs n_xs f_xs
  cases hG
  obtain ⟨ok_xs, hp⟩ := hp
  exact ⟨[.list eInt.s (eInt.dl n_xs f_xs).length (eInt.tl (eInt.dl n_xs f_xs))], ⟨eInt.extl ok_xs, trivial⟩, by simp [Try.ntmps44], fun good hstep hext hle => sorted_ok _ (by rw [eInt.dl_length]; exact ok_xs.2.1) hp good hstep hext hle⟩
def idxD_pre  (xs : List Int) : Prop := True
noncomputable def idxD_val  (xs : List Int) : V := .kn (.int .i64 (idxP badDay xs))
noncomputable def GidxD : PSpec
  | [.list s_xs n_xs f_xs, .fn 38 []] => some (eInt.okl s_xs n_xs f_xs ∧ idxD_pre (eInt.dl n_xs f_xs), idxD_val (eInt.dl n_xs f_xs))
  | _ => none
theorem idxD_res  (xs : List Int) (good : Cfg → Prop) (R : Option V → Prop) : arun Try.prog (conOf []) (0, [(66, 2, [0, 1, 7, 8], [])]) good (RetO (R)) 400 (entry Try.prog 66 [.list eInt.s xs.length (eInt.tl xs), .fn 38 []]) =
    (good { fr := { fn := (66 : Nat), nt := (19 : Nat), t := [((0 : Nat), V.list (1 : Nat) xs.length (eInt.tl xs)), ((1 : Nat), V.fn (38 : Nat) []), ((7 : Nat), V.kn (Value.int IntKind.i64 (↑xs.length : Int))), ((8 : Nat), V.kn (Value.int IntKind.i64 (0 : Int)))], k := loopK Try.prog (66 : Nat) (2 : Nat) }, cs := [], h := [] }) := by kernel_rfl
@[reducible] noncomputable def idxD_c2 (xs : List Int) (i : Int) : Cfg := ⟨⟨66, 19, [(0, .list eInt.s xs.length (eInt.tl xs)), (1, .fn 38 []), (7, .kn (.int .i64 xs.length)), (8, .kn (.int .i64 i))], loopK Try.prog 66 2⟩, [], []⟩
theorem idxD_l2 (xs : List Int) (i : Int) (good : Cfg → Prop) (R : Option V → Prop) : arun Try.prog (conOf []) (0, [(66, 2, [0, 1, 7, 8], [])]) good (RetO (R)) 400 (idxD_c2 xs i) =
    (bif decide (i < (↑xs.length : Int)) then ((0 : Int) ≤ i ∧ i < (↑xs.length : Int)) ∧ bif decide (xs.getD i.toNat (0 : Int) < (0 : Int)) then R (some (V.kn (Value.int IntKind.i64 i))) else bif decide (xs.getD i.toNat (0 : Int) > (1048576 : Int)) then R (some (V.kn (Value.int IntKind.i64 i))) else good { fr := { fn := (66 : Nat), nt := (19 : Nat), t := [((0 : Nat), V.list (1 : Nat) xs.length (eInt.tl xs)), ((1 : Nat), V.fn (38 : Nat) []), ((7 : Nat), V.kn (Value.int IntKind.i64 (↑xs.length : Int))), ((8 : Nat), V.kn (Value.int IntKind.i64 (IntKind.i64.wrap (i + (1 : Int)))))], k := loopK Try.prog (66 : Nat) (2 : Nat) }, cs := [], h := [] } else R (some (V.kn (Value.int IntKind.i64 (-1 : Int))))) := by kernel_rfl
theorem idxD_ok  (xs : List Int) (len_xs : xs.length ≤ maxLen) (hp : idxD_pre xs) (good : Cfg → Prop) (hstep : ∀ c, arun Try.prog (conOf []) (0, [(66, 2, [0, 1, 7, 8], [])]) good (RetO (Tells (idxD_val xs))) 400 (c) → good c) (hext : ∀ c c', CfgExt c c' → good c' → good c) (hle : ∀ c c', CfgLe 0 c c' → good c' → good c) : arun Try.prog (conOf []) (0, [(66, 2, [0, 1, 7, 8], [])]) good (RetO (Tells (idxD_val xs))) 400 (entry Try.prog 66 [.list eInt.s xs.length (eInt.tl xs), .fn 38 []]) := by
  rw [idxD_res]
  have hmx : maxLen = 9223372036854775807 := rfl
  refine foreach xs (fun i (_ : Unit) => ∀ j (hj : j < xs.length), j < i → ¬ badDay xs[j]) (fun i _ => idxD_c2 xs i) (fun i _ hi hv ih => ?_) (fun _ hv => ?_) () (fun j hl hj => by omega)
  · apply hstep
    rw [idxD_l2]
    have e1 : (i : Int).toNat = i := by omega
    rw [e1, wrap_succ hi len_xs, getD_at _ hi]
    have hit : badDay xs[i] → Tells (idxD_val xs) (some (.kn (.int .i64 (i : Int)))) := fun h => tell (by rw [idxD_val, idxP_hit hi (fun j hj hji => hv j hj hji) h])
    refine cond_true' (decide_eq_true (by omega)) ⟨⟨by omega, by omega⟩, cond_intro (fun h => hit (.inl (of_decide_eq_true h))) (fun h => cond_intro (fun h2 => hit (.inr (of_decide_eq_true h2))) (fun h2 => ih () (fun j hl hj => ?_)))⟩
    by_cases hji : j = i
    · subst hji
      have := of_decide_eq_false h; have := of_decide_eq_false h2
      unfold badDay; omega
    · exact hv j hl (by omega)
  · apply hstep
    rw [idxD_l2]
    exact cond_false' (decide_eq_false (by omega)) (tell (by rw [idxD_val, idxP_miss (fun i hi => hv i hi hi)]))
theorem idxD_con : SpecOK Try.prog 66 (lift GidxD) := by
  refine con_of_run3 (con := conOf []) (hs := (0, [(66, 2, [0, 1, 7, 8], [])])) 400 Try.func66 rfl (by kernel_rfl) rfl conNil ?_
  intro args0 p r hG hp
  unfold GidxD at hG
  split at hG
  case h_2 => cases hG
  rename_i s_xs n_xs f_xs
  cases hG
  obtain ⟨ok_xs, hp⟩ := hp
  exact ⟨[.list eInt.s (eInt.dl n_xs f_xs).length (eInt.tl (eInt.dl n_xs f_xs)), .fn 38 []], ⟨eInt.extl ok_xs, VExt.refl _, trivial⟩, by simp [Try.ntmps66], fun good hstep hext hle => idxD_ok _ (by rw [eInt.dl_length]; exact ok_xs.2.1) hp good hstep hext hle⟩
def whole_pre (no se bu cu fr tw : ByteArray) (te : Int) (ls : List Line) (ps : List Part) : Prop := ls.length ≤ 70 ∧ ∀ p ∈ ps, p.length = ls.length
noncomputable def whole_val (no se bu cu fr tw : ByteArray) (te : Int) (ls : List Line) (ps : List Part) : V := .kn (.bool (bP (wholeP ls ps)))
noncomputable def Gwhole : PSpec
  | [.agg [.kn (.string no), .kn (.string se), .kn (.string bu), .kn (.string cu), .kn (.string fr), .kn (.string tw), .kn (.int .i64 te), .list s_ls n_ls f_ls], .list s_ps n_ps f_ps] => some (eLine.okl s_ls n_ls f_ls ∧ ePart.okl s_ps n_ps f_ps ∧ whole_pre no se bu cu fr tw te (eLine.dl n_ls f_ls) (ePart.dl n_ps f_ps), whole_val no se bu cu fr tw te (eLine.dl n_ls f_ls) (ePart.dl n_ps f_ps))
  | _ => none
theorem whole_res (no se bu cu fr tw : ByteArray) (te : Int) (ls : List Line) (ps : List Part) (good : Cfg → Prop) (R : Option V → Prop) : arun Try.prog (conOf []) (0, [(49, 2, [1, 11, 12, 13], []), (49, 6, [1, 5, 7, 11, 12, 13, 20, 21, 22], [])]) good (RetO (R)) 400 (entry Try.prog 49 [.agg [.kn (.string no), .kn (.string se), .kn (.string bu), .kn (.string cu), .kn (.string fr), .kn (.string tw), .kn (.int .i64 te), .list eLine.s ls.length (eLine.tl ls)], .list ePart.s ps.length (ePart.tl ps)]) =
    (good { fr := { fn := (49 : Nat), nt := (42 : Nat), t := [((1 : Nat), V.list (1 : Nat) ps.length (ePart.tl ps)), ((11 : Nat), V.list (3 : Nat) ls.length (eLine.tl ls)), ((12 : Nat), V.kn (Value.int IntKind.i64 (↑ls.length : Int))), ((13 : Nat), V.kn (Value.int IntKind.i64 (0 : Int)))], k := loopK Try.prog (49 : Nat) (2 : Nat) }, cs := [], h := [] }) := by kernel_rfl
@[reducible] noncomputable def whole_c2 (no se bu cu fr tw : ByteArray) (te : Int) (ls : List Line) (ps : List Part) (i : Int) : Cfg := ⟨⟨49, 42, [(1, .list ePart.s ps.length (ePart.tl ps)), (11, .list eLine.s ls.length (eLine.tl ls)), (12, .kn (.int .i64 ls.length)), (13, .kn (.int .i64 i))], loopK Try.prog 49 2⟩, [], []⟩
theorem whole_l2 (no se bu cu fr tw : ByteArray) (te : Int) (ls : List Line) (ps : List Part) (i : Int) (good : Cfg → Prop) (R : Option V → Prop) : arun Try.prog (conOf []) (0, [(49, 2, [1, 11, 12, 13], []), (49, 6, [1, 5, 7, 11, 12, 13, 20, 21, 22], [])]) good (RetO (R)) 400 (whole_c2 no se bu cu fr tw te ls ps i) =
    (bif decide (i < (↑ls.length : Int)) then ((0 : Int) ≤ i ∧ i < (↑ls.length : Int)) ∧ good { fr := { fn := (49 : Nat), nt := (42 : Nat), t := [((1 : Nat), V.list (1 : Nat) ps.length (ePart.tl ps)), ((5 : Nat), V.kn (Value.int IntKind.i64 i)), ((7 : Nat), V.kn (Value.int IntKind.i64 (ls.getD i.toNat eLine.dflt).count)), ((11 : Nat), V.list (3 : Nat) ls.length (eLine.tl ls)), ((12 : Nat), V.kn (Value.int IntKind.i64 (↑ls.length : Int))), ((13 : Nat), V.kn (Value.int IntKind.i64 i)), ((20 : Nat), V.list (1 : Nat) ps.length (ePart.tl ps)), ((21 : Nat), V.kn (Value.int IntKind.i64 (↑ps.length : Int))), ((22 : Nat), V.kn (Value.int IntKind.i64 (0 : Int)))], k := loopK Try.prog (49 : Nat) (6 : Nat) }, cs := [], h := [] } else R (some (V.kn (Value.bool true)))) := by kernel_rfl
@[reducible] noncomputable def whole_c6 (no se bu cu fr tw : ByteArray) (te : Int) (ls : List Line) (ps : List Part) (i left k j : Int) : Cfg := ⟨⟨49, 42, [(1, .list ePart.s ps.length (ePart.tl ps)), (5, .kn (.int .i64 k)), (7, .kn (.int .i64 left)), (11, .list eLine.s ls.length (eLine.tl ls)), (12, .kn (.int .i64 ls.length)), (13, .kn (.int .i64 i)), (20, .list ePart.s ps.length (ePart.tl ps)), (21, .kn (.int .i64 ps.length)), (22, .kn (.int .i64 j))], loopK Try.prog 49 6⟩, [], []⟩
theorem whole_l6 (no se bu cu fr tw : ByteArray) (te : Int) (ls : List Line) (ps : List Part) (i left k j : Int) (good : Cfg → Prop) (R : Option V → Prop) : arun Try.prog (conOf []) (0, [(49, 2, [1, 11, 12, 13], []), (49, 6, [1, 5, 7, 11, 12, 13, 20, 21, 22], [])]) good (RetO (R)) 400 (whole_c6 no se bu cu fr tw te ls ps i left k j) =
    (bif decide (j < (↑ps.length : Int)) then ((0 : Int) ≤ j ∧ j < (↑ps.length : Int)) ∧ ((0 : Int) ≤ k ∧ k < (↑(List.length (ps.getD j.toNat ePart.dflt)) : Int)) ∧ bif decide (List.getD (ps.getD j.toNat ePart.dflt) k.toNat (0 : Int) > left) then R (some (V.kn (Value.bool false))) else ((0 : Int) ≤ k ∧ k < (↑(List.length (ps.getD j.toNat ePart.dflt)) : Int)) ∧ good { fr := { fn := (49 : Nat), nt := (42 : Nat), t := [((1 : Nat), V.list (1 : Nat) ps.length (ePart.tl ps)), ((5 : Nat), V.kn (Value.int IntKind.i64 k)), ((7 : Nat), V.kn (Value.int IntKind.i64 (IntKind.i64.wrap (left - List.getD (ps.getD j.toNat ePart.dflt) k.toNat (0 : Int))))), ((11 : Nat), V.list (3 : Nat) ls.length (eLine.tl ls)), ((12 : Nat), V.kn (Value.int IntKind.i64 (↑ls.length : Int))), ((13 : Nat), V.kn (Value.int IntKind.i64 i)), ((20 : Nat), V.list (1 : Nat) ps.length (ePart.tl ps)), ((21 : Nat), V.kn (Value.int IntKind.i64 (↑ps.length : Int))), ((22 : Nat), V.kn (Value.int IntKind.i64 (IntKind.i64.wrap (j + (1 : Int)))))], k := loopK Try.prog (49 : Nat) (6 : Nat) }, cs := [], h := [] } else bif left != (0 : Int) then R (some (V.kn (Value.bool false))) else good { fr := { fn := (49 : Nat), nt := (42 : Nat), t := [((1 : Nat), V.list (1 : Nat) ps.length (ePart.tl ps)), ((11 : Nat), V.list (3 : Nat) ls.length (eLine.tl ls)), ((12 : Nat), V.kn (Value.int IntKind.i64 (↑ls.length : Int))), ((13 : Nat), V.kn (Value.int IntKind.i64 (IntKind.i64.wrap (i + (1 : Int)))))], k := loopK Try.prog (49 : Nat) (2 : Nat) }, cs := [], h := [] }) := by kernel_rfl
theorem whole_ok (no se bu cu fr tw : ByteArray) (te : Int) (ls : List Line) (ps : List Part) (len_ls : ls.length ≤ maxLen) (len_ps : ps.length ≤ maxLen) (hp : whole_pre no se bu cu fr tw te ls ps) (good : Cfg → Prop) (hstep : ∀ c, arun Try.prog (conOf []) (0, [(49, 2, [1, 11, 12, 13], []), (49, 6, [1, 5, 7, 11, 12, 13, 20, 21, 22], [])]) good (RetO (Tells (whole_val no se bu cu fr tw te ls ps))) 400 (c) → good c) (hext : ∀ c c', CfgExt c c' → good c' → good c) (hle : ∀ c c', CfgLe 0 c c' → good c' → good c) : arun Try.prog (conOf []) (0, [(49, 2, [1, 11, 12, 13], []), (49, 6, [1, 5, 7, 11, 12, 13, 20, 21, 22], [])]) good (RetO (Tells (whole_val no se bu cu fr tw te ls ps))) 400 (entry Try.prog 49 [.agg [.kn (.string no), .kn (.string se), .kn (.string bu), .kn (.string cu), .kn (.string fr), .kn (.string tw), .kn (.int .i64 te), .list eLine.s ls.length (eLine.tl ls)], .list ePart.s ps.length (ePart.tl ps)]) := by
  rw [whole_res]
  obtain ⟨hl, hq⟩ := hp
  have hmx : maxLen = 9223372036854775807 := rfl
  refine foreach ls (fun i (_ : Unit) => ∀ j, j < i → goW j (ls.getD j eLine.dflt).count ps = true) (fun i _ => whole_c2 no se bu cu fr tw te ls ps i) (fun i _ hi hv ih => ?_) (fun _ hv => ?_) () (fun j hj => by omega)
  · apply hstep
    rw [whole_l2]
    have e1 : (i : Int).toNat = i := by omega
    rw [e1]
    refine cond_true' (decide_eq_true (by omega)) ⟨⟨by omega, by omega⟩, ?_⟩
    show good (whole_c6 no se bu cu fr tw te ls ps i (ls.getD i eLine.dflt).count i 0)
    refine foreach (S := Int) ps (fun j left => goW i left (ps.drop j) = goW i (ls.getD i eLine.dflt).count ps) (fun j left => whole_c6 no se bu cu fr tw te ls ps i left i j) (fun j left hj hw ih2 => ?_) (fun left hw => ?_) _ (by rw [List.drop_zero])
    · apply hstep
      rw [whole_l6]
      have e2 : (j : Int).toNat = j := by omega
      rw [e1, e2, wrap_succ hj len_ps, getD_at _ hj]
      have hpl := hq _ (List.getElem_mem hj)
      rw [List.drop_eq_getElem_cons hj] at hw
      refine cond_true' (decide_eq_true (by omega)) ⟨⟨by omega, by omega⟩, ⟨by omega, by omega⟩, cond_intro (fun g => tell_false fun hh => ?_) (fun g => ⟨⟨by omega, by omega⟩, ih2 _ ?_⟩)⟩
      · have := hh i hi
        rw [← hw, goW, g] at this
        cases this
      · rw [← hw, goW, g]; rfl
    · apply hstep
      rw [whole_l6]
      rw [List.drop_length] at hw
      refine cond_false' (decide_eq_false (by omega)) (cond_intro (fun g => tell_false fun hh => ?_) (fun g => ?_))
      · have := hh i hi
        rw [← hw, goW] at this
        simp at this g
        exact g this
      · rw [wrap_succ hi len_ls]
        refine ih () (fun t ht => ?_)
        by_cases e : t = i
        · subst e
          rw [← hw, goW]
          simpa using g
        · exact hv t (by omega)
  · apply hstep
    rw [whole_l2]
    exact cond_false' (decide_eq_false (by omega)) (tell_true fun i hi => hv i hi)
theorem whole_con : SpecOK Try.prog 49 (lift Gwhole) := by
  refine con_of_run3 (con := conOf []) (hs := (0, [(49, 2, [1, 11, 12, 13], []), (49, 6, [1, 5, 7, 11, 12, 13, 20, 21, 22], [])])) 400 Try.func49 rfl (by kernel_rfl) rfl conNil ?_
  intro args0 p r hG hp
  unfold Gwhole at hG
  split at hG
  case h_2 => cases hG
  rename_i no se bu cu fr tw te s_ls n_ls f_ls s_ps n_ps f_ps
  cases hG
  obtain ⟨ok_ls, hp⟩ := hp
  obtain ⟨ok_ps, hp⟩ := hp
  exact ⟨[.agg [.kn (.string no), .kn (.string se), .kn (.string bu), .kn (.string cu), .kn (.string fr), .kn (.string tw), .kn (.int .i64 te), .list eLine.s (eLine.dl n_ls f_ls).length (eLine.tl (eLine.dl n_ls f_ls))], .list ePart.s (ePart.dl n_ps f_ps).length (ePart.tl (ePart.dl n_ps f_ps))], ⟨VExt.agg ⟨VExt.refl _, VExt.refl _, VExt.refl _, VExt.refl _, VExt.refl _, VExt.refl _, VExt.refl _, eLine.extl ok_ls, trivial⟩, ePart.extl ok_ps, trivial⟩, by simp [Try.ntmps49], fun good hstep hext hle => whole_ok _ _ _ _ _ _ _ _ _ (by rw [eLine.dl_length]; exact ok_ls.2.1) (by rw [ePart.dl_length]; exact ok_ps.2.1) hp good hstep hext hle⟩
end Go.Proofs.Ytbedinfkepdobaa
