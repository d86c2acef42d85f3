/- What is proved: contracts of functions of one seat, each by the executor; written by a program of the prover (gen.py) and by hand. Conditions: each contract names its own. -/
import Derived.Test.YtojlkbcenimcjaaAw2
import Derived.Test.YtojlkbcenimcjaaProg
import Derived.KernelRfl
import Derived.IntWalk

namespace Go.Proofs.Ytojlkbcenimcjaa
open Go Go.Aw Go.RowKit
set_option linter.unusedVariables false
set_option linter.unusedSimpArgs false
set_option maxRecDepth 10000
structure Draw where
  day : Int
  amt : Int
def eDraw : Enc Draw where
  s := 2
  toV d := [.kn (.int .i64 d.day), .kn (.int .i64 d.amt)]
  ofV c := match c with | [x0, x1] => ⟨vInt x0, vInt x1⟩ | _ => ⟨0, 0⟩
  dflt := ⟨0, 0⟩
  inv d := by rfl
  len d := rfl
def eDraw_wf (d : Draw) : Prop := inI64 d.day ∧ inI64 d.amt

def W (n : Int) : Int := IntKind.i64.wrap n
def sumW (xs : List Draw) : Int := xs.foldl (fun a d => W (a + d.amt)) 0
def okAt (xs : List Draw) (i : Nat) : Prop := 1 ≤ (xs.getD i eDraw.dflt).amt ∧ (xs.getD i eDraw.dflt).amt ≤ 1099511627776 ∧ 0 ≤ (xs.getD i eDraw.dflt).day ∧ (xs.getD i eDraw.dflt).day ≤ 1048576 ∧ (0 < i → (xs.getD (i - 1) eDraw.dflt).day ≤ (xs.getD i eDraw.dflt).day)
def rightP (xs : List Draw) : Prop := (∀ i, i < xs.length → okAt xs i) ∧ xs.length ≤ 4096
def boundsB (amt ab be ex : Int) : Bool := decide (1 ≤ amt ∧ amt ≤ 1099511627776 ∧ 0 ≤ ab ∧ ab ≤ 1000 ∧ 0 ≤ be ∧ be ≤ 1000 ∧ 0 ≤ ex ∧ ex ≤ 1048576)
def mostI (amt ab : Int) : Int := W ((W (amt * W (1000 + ab))).tdiv 1000)
def leastI (amt be : Int) : Int := W ((W (W (W (amt * W (1000 - be)) + 1000) - 1)).tdiv 1000)
noncomputable def mayI (amt ab be ex : Int) (pa : Bool) (xs : List Draw) (day am : Int) : Int :=
  bif !boundsB amt ab be ex || !bP (rightP (xs ++ [⟨day, am⟩])) then 1 else bif decide (day > ex) then 11 else bif !pa && decide ((xs.length : Int) > 0) then 9 else bif decide (sumW (xs ++ [⟨day, am⟩]) > mostI amt ab) then 10 else bif !pa && decide (am < leastI amt be) then 3 else 0
noncomputable def leftI (amt ab be ex : Int) (xs : List Draw) : Int := bif !boundsB amt ab be ex || !bP (rightP xs) then 0 else if 0 > W (mostI amt ab - sumW xs) then 0 else W (mostI amt ab - sumW xs)

def within_pre (n a b : Int) : Prop := True
noncomputable def within_val (n a b : Int) : V := .kn (.bool (decide (a ≤ n ∧ n ≤ b)))
noncomputable def Gwithin : PSpec
  | [.kn (.int .i64 n), .kn (.int .i64 a), .kn (.int .i64 b)] => some (within_pre n a b, within_val n a b)
  | _ => none
theorem within_res (n a b : Int) (good : Cfg → Prop) (R : Option V → Prop) : arun Try.prog (conOf []) [] good (RetO (R)) 400 (entry Try.prog 22 [.kn (.int .i64 n), .kn (.int .i64 a), .kn (.int .i64 b)]) =
    (bif decide (n ≥ a) then R (some (V.kn (Value.bool (decide (n ≤ b))))) else R (some (V.kn (Value.bool false)))) := by kernel_rfl
theorem within_ok (n a b : Int) (hp : within_pre n a b) (good : Cfg → Prop) (hstep : ∀ c, arun Try.prog (conOf []) [] good (RetO (Tells (within_val n a b))) 400 (c) → good c) (hext : ∀ c c', CfgExt c c' → good c' → good c) : arun Try.prog (conOf []) [] good (RetO (Tells (within_val n a b))) 400 (entry Try.prog 22 [.kn (.int .i64 n), .kn (.int .i64 a), .kn (.int .i64 b)]) := by
  rw [within_res]
  repeat' first | exact trivial | refine And.intro ?_ ?_ | refine cond_intro (fun h => ?_) (fun h => ?_)
  all_goals refine tell_bool ?_
  all_goals simp only [decide_eq_true_eq, decide_eq_false_iff_not] at *
  all_goals rw [Bool.eq_iff_iff]
  all_goals simp
  all_goals omega
theorem within_con : Con Try.prog 22 Gwithin := by
  refine con_of_run2 (con := conOf []) (hs := []) 400 Try.func22 rfl (by kernel_rfl) conNil ?_
  intro args0 p r hG hp
  unfold Gwithin at hG
  split at hG
  case h_2 => cases hG
  rename_i n a b
  cases hG
  exact ⟨[.kn (.int .i64 n), .kn (.int .i64 a), .kn (.int .i64 b)], ⟨VExt.refl _, VExt.refl _, VExt.refl _, trivial⟩, by simp [Try.ntmps22], fun good hstep hext => within_ok _ _ _ hp good hstep hext⟩
def sum_pre  (xs : List Draw) : Prop := True
noncomputable def sum_val  (xs : List Draw) : V := .kn (.int .i64 (sumW xs))
noncomputable def Gsum : PSpec
  | [.list s_xs n_xs f_xs] => some ((s_xs = eDraw.s ∧ eDraw.oks n_xs f_xs) ∧ sum_pre (eDraw.dl n_xs f_xs), sum_val (eDraw.dl n_xs f_xs))
  | _ => none
theorem sum_res  (xs : List Draw) (good : Cfg → Prop) (R : Option V → Prop) : arun Try.prog (conOf []) [(29, 3, [3, 6, 7, 8], [])] good (RetO (R)) 400 (entry Try.prog 29 [.list eDraw.s xs.length (eDraw.tl xs)]) =
    (good { fr := { fn := (29 : Nat), nt := (18 : Nat), t := [((3 : Nat), V.kn (Value.int IntKind.i64 (0 : Int))), ((6 : Nat), V.list (2 : Nat) xs.length (eDraw.tl xs)), ((7 : Nat), V.kn (Value.int IntKind.i64 ↑xs.length)), ((8 : Nat), V.kn (Value.int IntKind.i64 (0 : Int)))], k := loopK Try.prog (29 : Nat) (3 : Nat) }, cs := [], h := [] }) := by kernel_rfl
@[reducible] noncomputable def sum_c3 (xs : List Draw) (i acc : Int) : Cfg := ⟨⟨29, 18, [(3, .kn (.int .i64 acc)), (6, .list eDraw.s xs.length (eDraw.tl xs)), (7, .kn (.int .i64 xs.length)), (8, .kn (.int .i64 i))], loopK Try.prog 29 3⟩, [], []⟩
theorem sum_l3 (xs : List Draw) (i acc : Int) (good : Cfg → Prop) (R : Option V → Prop) : arun Try.prog (conOf []) [(29, 3, [3, 6, 7, 8], [])] good (RetO (R)) 400 (sum_c3 xs i acc) =
    (bif decide (i < ↑xs.length) then ((0 : Int) ≤ i ∧ i < ↑xs.length) ∧ good { fr := { fn := (29 : Nat), nt := (18 : Nat), t := [((3 : Nat), V.kn (Value.int IntKind.i64 (IntKind.i64.wrap (acc + (xs.getD i.toNat eDraw.dflt).amt)))), ((6 : Nat), V.list (2 : Nat) xs.length (eDraw.tl xs)), ((7 : Nat), V.kn (Value.int IntKind.i64 ↑xs.length)), ((8 : Nat), V.kn (Value.int IntKind.i64 (IntKind.i64.wrap (i + (1 : Int)))))], k := loopK Try.prog (29 : Nat) (3 : Nat) }, cs := [], h := [] } else R (some (V.kn (Value.int IntKind.i64 acc)))) := by kernel_rfl
theorem sum_ok  (xs : List Draw) (len_xs : xs.length ≤ maxLen) (hp : sum_pre xs) (good : Cfg → Prop) (hstep : ∀ c, arun Try.prog (conOf []) [(29, 3, [3, 6, 7, 8], [])] good (RetO (Tells (sum_val xs))) 400 (c) → good c) (hext : ∀ c c', CfgExt c c' → good c' → good c) : arun Try.prog (conOf []) [(29, 3, [3, 6, 7, 8], [])] good (RetO (Tells (sum_val xs))) 400 (entry Try.prog 29 [.list eDraw.s xs.length (eDraw.tl xs)]) := by
  rw [sum_res]
  refine foreach xs (fun i (acc : Int) => acc = sumW (xs.take i)) (fun i acc => sum_c3 xs i acc) (fun i acc hi hv ih => ?_) (fun acc hv => ?_) 0 rfl
  · apply hstep
    rw [sum_l3]
    refine cond_true' (decide_eq_true (by omega)) ⟨⟨by omega, by omega⟩, ?_⟩
    rw [wrap_succ hi len_xs, getD_int _ hi]
    exact ih _ (by rw [take_at hi, sumW, List.foldl_append, hv]; rfl)
  · apply hstep
    rw [sum_l3]
    refine cond_false' (decide_eq_false (by omega)) (tell ?_)
    rw [hv, List.take_of_length_le (Nat.le_refl _), sum_val]
theorem sum_con : Con Try.prog 29 Gsum := by
  refine con_of_run2 (con := conOf []) (hs := [(29, 3, [3, 6, 7, 8], [])]) 400 Try.func29 rfl (by kernel_rfl) conNil ?_
  intro args0 p r hG hp
  unfold Gsum at hG
  split at hG
  case h_2 => cases hG
  rename_i s_xs n_xs f_xs
  cases hG
  obtain ⟨⟨se_xs, ok_xs⟩, hp⟩ := hp
  subst se_xs
  exact ⟨[.list eDraw.s (eDraw.dl n_xs f_xs).length (eDraw.tl (eDraw.dl n_xs f_xs))], ⟨eDraw.ext ok_xs, trivial⟩, by simp [Try.ntmps29], fun good hstep hext => sum_ok _ (by rw [eDraw.dl_length]; exact ok_xs.1) hp good hstep hext⟩
def right_pre  (xs : List Draw) : Prop := True
noncomputable def right_val  (xs : List Draw) : V := .kn (.bool (bP (rightP xs)))
noncomputable def Gright : PSpec
  | [.list s_xs n_xs f_xs] => some ((s_xs = eDraw.s ∧ eDraw.oks n_xs f_xs) ∧ right_pre (eDraw.dl n_xs f_xs), right_val (eDraw.dl n_xs f_xs))
  | _ => none
theorem right_res  (xs : List Draw) (good : Cfg → Prop) (R : Option V → Prop) : arun Try.prog (conOf [(22, lift Gwithin)]) [(25, 2, [0, 5, 6, 7], [])] good (RetO (R)) 400 (entry Try.prog 25 [.list eDraw.s xs.length (eDraw.tl xs)]) =
    (good { fr := { fn := (25 : Nat), nt := (41 : Nat), t := [((0 : Nat), V.list (2 : Nat) xs.length (eDraw.tl xs)), ((5 : Nat), V.list (2 : Nat) xs.length (eDraw.tl xs)), ((6 : Nat), V.kn (Value.int IntKind.i64 ↑xs.length)), ((7 : Nat), V.kn (Value.int IntKind.i64 (0 : Int)))], k := loopK Try.prog (25 : Nat) (2 : Nat) }, cs := [], h := [] }) := by kernel_rfl
@[reducible] noncomputable def right_c2 (xs : List Draw) (i : Int) : Cfg := ⟨⟨25, 41, [(0, .list eDraw.s xs.length (eDraw.tl xs)), (5, .list eDraw.s xs.length (eDraw.tl xs)), (6, .kn (.int .i64 xs.length)), (7, .kn (.int .i64 i))], loopK Try.prog 25 2⟩, [], []⟩
theorem right_l2 (xs : List Draw) (i : Int) (good : Cfg → Prop) (R : Option V → Prop) : arun Try.prog (conOf [(22, lift Gwithin)]) [(25, 2, [0, 5, 6, 7], [])] good (RetO (R)) 400 (right_c2 xs i) =
    (bif decide (i < ↑xs.length) then ((0 : Int) ≤ i ∧ i < ↑xs.length) ∧ within_pre (xs.getD i.toNat eDraw.dflt).amt (1 : Int) (1099511627776 : Int) ∧ bif !decide ((1 : Int) ≤ (xs.getD i.toNat eDraw.dflt).amt ∧ (xs.getD i.toNat eDraw.dflt).amt ≤ (1099511627776 : Int)) then R (some (V.kn (Value.bool false))) else within_pre (xs.getD i.toNat eDraw.dflt).day (0 : Int) (1048576 : Int) ∧ bif !decide ((0 : Int) ≤ (xs.getD i.toNat eDraw.dflt).day ∧ (xs.getD i.toNat eDraw.dflt).day ≤ (1048576 : Int)) then R (some (V.kn (Value.bool false))) else bif decide (i > (0 : Int)) then ((0 : Int) ≤ IntKind.i64.wrap (i - (1 : Int)) ∧ IntKind.i64.wrap (i - (1 : Int)) < ↑xs.length) ∧ bif decide ((xs.getD i.toNat eDraw.dflt).day < (xs.getD (IntKind.i64.wrap (i - (1 : Int))).toNat eDraw.dflt).day) then R (some (V.kn (Value.bool false))) else good { fr := { fn := (25 : Nat), nt := (41 : Nat), t := [((0 : Nat), V.list (2 : Nat) xs.length (eDraw.tl xs)), ((5 : Nat), V.list (2 : Nat) xs.length (eDraw.tl xs)), ((6 : Nat), V.kn (Value.int IntKind.i64 ↑xs.length)), ((7 : Nat), V.kn (Value.int IntKind.i64 (IntKind.i64.wrap (i + (1 : Int)))))], k := loopK Try.prog (25 : Nat) (2 : Nat) }, cs := [], h := [] } else good { fr := { fn := (25 : Nat), nt := (41 : Nat), t := [((0 : Nat), V.list (2 : Nat) xs.length (eDraw.tl xs)), ((5 : Nat), V.list (2 : Nat) xs.length (eDraw.tl xs)), ((6 : Nat), V.kn (Value.int IntKind.i64 ↑xs.length)), ((7 : Nat), V.kn (Value.int IntKind.i64 (IntKind.i64.wrap (i + (1 : Int)))))], k := loopK Try.prog (25 : Nat) (2 : Nat) }, cs := [], h := [] } else R (some (V.kn (Value.bool (decide (↑xs.length ≤ (4096 : Int))))))) := by kernel_rfl
theorem right_ok  (xs : List Draw) (len_xs : xs.length ≤ maxLen) (hp : right_pre xs) (good : Cfg → Prop) (hstep : ∀ c, arun Try.prog (conOf [(22, lift Gwithin)]) [(25, 2, [0, 5, 6, 7], [])] good (RetO (Tells (right_val xs))) 400 (c) → good c) (hext : ∀ c c', CfgExt c c' → good c' → good c) : arun Try.prog (conOf [(22, lift Gwithin)]) [(25, 2, [0, 5, 6, 7], [])] good (RetO (Tells (right_val xs))) 400 (entry Try.prog 25 [.list eDraw.s xs.length (eDraw.tl xs)]) := by
  rw [right_res]
  refine foreach xs (fun i (_ : Unit) => ∀ j, j < i → okAt xs j) (fun i _ => right_c2 xs i) (fun i _ hi hv ih => ?_) (fun _ hv => ?_) () (fun j hj => by omega)
  · apply hstep
    rw [right_l2]
    have hm : maxLen = 9223372036854775807 := rfl
    have e1 : (i : Int).toNat = i := by omega
    have fin : okAt xs i → ∀ j, j < i + 1 → okAt xs j := fun h j hj => by
      by_cases hji : j = i
      · subst hji; exact h
      · exact hv j (by omega)
    have bad : ¬ okAt xs i → Tells (right_val xs) (some (.kn (.bool false))) := fun h => tell_false fun hr => h (hr.1 i hi)
    refine cond_true' (decide_eq_true (by omega)) ⟨⟨by omega, by omega⟩, trivial, cond_intro (fun h => bad fun ho => ?_) (fun h => ⟨trivial, cond_intro (fun h2 => bad fun ho => ?_) (fun h2 => ?_)⟩)⟩
    · rw [e1] at h; simp only [Bool.not_eq_true', decide_eq_false_iff_not] at h; have := ho.1; have := ho.2.1; omega
    · rw [e1] at h2; simp only [Bool.not_eq_true', decide_eq_false_iff_not] at h2; have := ho.2.2.1; have := ho.2.2.2.1; omega
    rw [e1] at h h2 ⊢
    simp only [Bool.not_eq_false', decide_eq_true_eq] at h h2
    rw [wrap_succ hi len_xs]
    refine cond_intro (fun h3 => ?_) (fun h3 => ?_)
    · have h3' : (0 : Int) < i := by simpa using h3
      rw [wrap_in (by omega) (by omega)]
      have e2 : ((i : Int) - 1).toNat = i - 1 := by omega
      rw [e2]
      refine ⟨⟨by omega, by omega⟩, cond_intro (fun h4 => bad fun ho => ?_) (fun h4 => ih () (fin ⟨h.1, h.2, h2.1, h2.2, fun _ => ?_⟩))⟩
      · have := ho.2.2.2.2 (by omega); simp only [decide_eq_true_eq] at h4; omega
      · simp only [decide_eq_false_iff_not] at h4; omega
    · have h3' : ¬ (0 : Int) < i := by simpa using h3
      exact ih () (fin ⟨h.1, h.2, h2.1, h2.2, fun _ => by omega⟩)
  · apply hstep
    rw [right_l2]
    refine cond_false' (decide_eq_false (by omega)) (tell_iff ?_)
    rw [decide_eq_true_eq]
    exact ⟨fun h => ⟨hv, by omega⟩, fun h => by have := h.2; omega⟩
theorem right_con : Con Try.prog 25 Gright := by
  refine con_of_run2 (con := conOf [(22, lift Gwithin)]) (hs := [(25, 2, [0, 5, 6, 7], [])]) 400 Try.func25 rfl (by kernel_rfl) (conCons within_con conNil) ?_
  intro args0 p r hG hp
  unfold Gright at hG
  split at hG
  case h_2 => cases hG
  rename_i s_xs n_xs f_xs
  cases hG
  obtain ⟨⟨se_xs, ok_xs⟩, hp⟩ := hp
  subst se_xs
  exact ⟨[.list eDraw.s (eDraw.dl n_xs f_xs).length (eDraw.tl (eDraw.dl n_xs f_xs))], ⟨eDraw.ext ok_xs, trivial⟩, by simp [Try.ntmps25], fun good hstep hext => right_ok _ (by rw [eDraw.dl_length]; exact ok_xs.1) hp good hstep hext⟩
def Drawn_pre  (xs : List Draw) : Prop := True
noncomputable def Drawn_val  (xs : List Draw) : V := .tup [.kn (.int .i64 (bif bP (rightP xs) then sumW xs else 0)), .kn (.bool (bP (rightP xs)))]
noncomputable def GDrawn : PSpec
  | [.list s_xs n_xs f_xs] => some ((s_xs = eDraw.s ∧ eDraw.oks n_xs f_xs) ∧ Drawn_pre (eDraw.dl n_xs f_xs), Drawn_val (eDraw.dl n_xs f_xs))
  | _ => none
theorem Drawn_res  (xs : List Draw) (good : Cfg → Prop) (R : Option V → Prop) : arun Try.prog (conOf [(25, lift Gright), (29, lift Gsum)]) [] good (RetO (R)) 400 (entry Try.prog 18 [.list eDraw.s xs.length (eDraw.tl xs)]) =
    ((((2 : Nat) = (2 : Nat) ∧ eDraw.oks xs.length (eDraw.tl xs)) ∧ right_pre (eDraw.dl xs.length (eDraw.tl xs))) ∧ bif !bP (rightP (eDraw.dl xs.length (eDraw.tl xs))) then R (some (V.tup [V.kn (Value.int IntKind.i64 (0 : Int)), V.kn (Value.bool false)])) else (((2 : Nat) = (2 : Nat) ∧ eDraw.oks xs.length (eDraw.tl xs)) ∧ sum_pre (eDraw.dl xs.length (eDraw.tl xs))) ∧ R (some (V.tup [V.kn (Value.int IntKind.i64 (sumW (eDraw.dl xs.length (eDraw.tl xs)))), V.kn (Value.bool true)]))) := by kernel_rfl
theorem Drawn_ok  (xs : List Draw) (len_xs : xs.length ≤ maxLen) (hp : Drawn_pre xs) (good : Cfg → Prop) (hstep : ∀ c, arun Try.prog (conOf [(25, lift Gright), (29, lift Gsum)]) [] good (RetO (Tells (Drawn_val xs))) 400 (c) → good c) (hext : ∀ c c', CfgExt c c' → good c' → good c) : arun Try.prog (conOf [(25, lift Gright), (29, lift Gsum)]) [] good (RetO (Tells (Drawn_val xs))) 400 (entry Try.prog 18 [.list eDraw.s xs.length (eDraw.tl xs)]) := by
  rw [Drawn_res]
  rw [eDraw.dl_tl]
  refine ⟨⟨⟨rfl, eDraw.oks_tl len_xs⟩, trivial⟩, cond_intro (fun h => tell ?_) (fun h => ⟨⟨⟨rfl, eDraw.oks_tl len_xs⟩, trivial⟩, tell ?_⟩)⟩
  all_goals simp only [Bool.not_eq_true', Bool.not_eq_false'] at h
  all_goals simp only [Drawn_val, h, cond_true, cond_false]
theorem Drawn_con : Con Try.prog 18 GDrawn := by
  refine con_of_run2 (con := conOf [(25, lift Gright), (29, lift Gsum)]) (hs := []) 400 Try.func18 rfl (by kernel_rfl) (conCons right_con (conCons sum_con conNil)) ?_
  intro args0 p r hG hp
  unfold GDrawn at hG
  split at hG
  case h_2 => cases hG
  rename_i s_xs n_xs f_xs
  cases hG
  obtain ⟨⟨se_xs, ok_xs⟩, hp⟩ := hp
  subst se_xs
  exact ⟨[.list eDraw.s (eDraw.dl n_xs f_xs).length (eDraw.tl (eDraw.dl n_xs f_xs))], ⟨eDraw.ext ok_xs, trivial⟩, by simp [Try.ntmps18], fun good hstep hext => Drawn_ok _ (by rw [eDraw.dl_length]; exact ok_xs.1) hp good hstep hext⟩
def abounds_pre (x0 x1 x2 x3 x4 x5 x6 x7 x11 x13 x14 x16 x17 : Value) (amt ab be ex : Int) (pa : Bool) : Prop := True
noncomputable def abounds_val (x0 x1 x2 x3 x4 x5 x6 x7 x11 x13 x14 x16 x17 : Value) (amt ab be ex : Int) (pa : Bool) : V := .kn (.bool (boundsB amt ab be ex))
noncomputable def Gabounds : PSpec
  | [.agg [.kn x0, .kn x1, .kn x2, .kn x3, .kn x4, .kn x5, .kn x6, .kn x7, .kn (.int .i64 amt), .kn (.int .i64 ab), .kn (.int .i64 be), .kn x11, .kn (.int .i64 ex), .kn x13, .kn x14, .kn (.bool pa), .kn x16, .kn x17]] => some (abounds_pre x0 x1 x2 x3 x4 x5 x6 x7 x11 x13 x14 x16 x17 amt ab be ex pa, abounds_val x0 x1 x2 x3 x4 x5 x6 x7 x11 x13 x14 x16 x17 amt ab be ex pa)
  | _ => none
theorem abounds_res (x0 x1 x2 x3 x4 x5 x6 x7 x11 x13 x14 x16 x17 : Value) (amt ab be ex : Int) (pa : Bool) (good : Cfg → Prop) (R : Option V → Prop) : arun Try.prog (conOf [(22, lift Gwithin)]) [] good (RetO (R)) 400 (entry Try.prog 19 [.agg [.kn x0, .kn x1, .kn x2, .kn x3, .kn x4, .kn x5, .kn x6, .kn x7, .kn (.int .i64 amt), .kn (.int .i64 ab), .kn (.int .i64 be), .kn x11, .kn (.int .i64 ex), .kn x13, .kn x14, .kn (.bool pa), .kn x16, .kn x17]]) =
    (within_pre amt (1 : Int) (1099511627776 : Int) ∧ bif decide ((1 : Int) ≤ amt ∧ amt ≤ (1099511627776 : Int)) then within_pre ab (0 : Int) (1000 : Int) ∧ bif decide ((0 : Int) ≤ ab ∧ ab ≤ (1000 : Int)) then within_pre be (0 : Int) (1000 : Int) ∧ bif decide ((0 : Int) ≤ be ∧ be ≤ (1000 : Int)) then within_pre ex (0 : Int) (1048576 : Int) ∧ R (some (V.kn (Value.bool (decide ((0 : Int) ≤ ex ∧ ex ≤ (1048576 : Int)))))) else R (some (V.kn (Value.bool false))) else R (some (V.kn (Value.bool false))) else R (some (V.kn (Value.bool false)))) := by kernel_rfl
theorem abounds_ok (x0 x1 x2 x3 x4 x5 x6 x7 x11 x13 x14 x16 x17 : Value) (amt ab be ex : Int) (pa : Bool) (hp : abounds_pre x0 x1 x2 x3 x4 x5 x6 x7 x11 x13 x14 x16 x17 amt ab be ex pa) (good : Cfg → Prop) (hstep : ∀ c, arun Try.prog (conOf [(22, lift Gwithin)]) [] good (RetO (Tells (abounds_val x0 x1 x2 x3 x4 x5 x6 x7 x11 x13 x14 x16 x17 amt ab be ex pa))) 400 (c) → good c) (hext : ∀ c c', CfgExt c c' → good c' → good c) : arun Try.prog (conOf [(22, lift Gwithin)]) [] good (RetO (Tells (abounds_val x0 x1 x2 x3 x4 x5 x6 x7 x11 x13 x14 x16 x17 amt ab be ex pa))) 400 (entry Try.prog 19 [.agg [.kn x0, .kn x1, .kn x2, .kn x3, .kn x4, .kn x5, .kn x6, .kn x7, .kn (.int .i64 amt), .kn (.int .i64 ab), .kn (.int .i64 be), .kn x11, .kn (.int .i64 ex), .kn x13, .kn x14, .kn (.bool pa), .kn x16, .kn x17]]) := by
  rw [abounds_res]
  repeat' first | exact trivial | refine And.intro ?_ ?_ | refine cond_intro (fun h => ?_) (fun h => ?_)
  all_goals refine tell_bool ?_
  all_goals simp only [decide_eq_true_eq, decide_eq_false_iff_not] at *
  all_goals rw [Bool.eq_iff_iff]
  all_goals simp [boundsB]
  all_goals omega
theorem abounds_con : Con Try.prog 19 Gabounds := by
  refine con_of_run2 (con := conOf [(22, lift Gwithin)]) (hs := []) 400 Try.func19 rfl (by kernel_rfl) (conCons within_con conNil) ?_
  intro args0 p r hG hp
  unfold Gabounds at hG
  split at hG
  case h_2 => cases hG
  rename_i x0 x1 x2 x3 x4 x5 x6 x7 amt ab be x11 ex x13 x14 pa x16 x17
  cases hG
  exact ⟨[.agg [.kn x0, .kn x1, .kn x2, .kn x3, .kn x4, .kn x5, .kn x6, .kn x7, .kn (.int .i64 amt), .kn (.int .i64 ab), .kn (.int .i64 be), .kn x11, .kn (.int .i64 ex), .kn x13, .kn x14, .kn (.bool pa), .kn x16, .kn x17]], ⟨VExt.refl _, trivial⟩, by simp [Try.ntmps19], fun good hstep hext => abounds_ok _ _ _ _ _ _ _ _ _ _ _ _ _ _ _ _ _ _ hp good hstep hext⟩
def amost_pre (x0 x1 x2 x3 x4 x5 x6 x7 x11 x13 x14 x16 x17 : Value) (amt ab be ex : Int) (pa : Bool) : Prop := True
noncomputable def amost_val (x0 x1 x2 x3 x4 x5 x6 x7 x11 x13 x14 x16 x17 : Value) (amt ab be ex : Int) (pa : Bool) : V := .kn (.int .i64 (mostI amt ab))
noncomputable def Gamost : PSpec
  | [.agg [.kn x0, .kn x1, .kn x2, .kn x3, .kn x4, .kn x5, .kn x6, .kn x7, .kn (.int .i64 amt), .kn (.int .i64 ab), .kn (.int .i64 be), .kn x11, .kn (.int .i64 ex), .kn x13, .kn x14, .kn (.bool pa), .kn x16, .kn x17]] => some (amost_pre x0 x1 x2 x3 x4 x5 x6 x7 x11 x13 x14 x16 x17 amt ab be ex pa, amost_val x0 x1 x2 x3 x4 x5 x6 x7 x11 x13 x14 x16 x17 amt ab be ex pa)
  | _ => none
theorem amost_res (x0 x1 x2 x3 x4 x5 x6 x7 x11 x13 x14 x16 x17 : Value) (amt ab be ex : Int) (pa : Bool) (good : Cfg → Prop) (R : Option V → Prop) : arun Try.prog (conOf []) [] good (RetO (R)) 400 (entry Try.prog 20 [.agg [.kn x0, .kn x1, .kn x2, .kn x3, .kn x4, .kn x5, .kn x6, .kn x7, .kn (.int .i64 amt), .kn (.int .i64 ab), .kn (.int .i64 be), .kn x11, .kn (.int .i64 ex), .kn x13, .kn x14, .kn (.bool pa), .kn x16, .kn x17]]) =
    (R (some (V.kn (Value.int IntKind.i64 (IntKind.i64.wrap ((IntKind.i64.wrap (amt * IntKind.i64.wrap ((1000 : Int) + ab))).tdiv (1000 : Int))))))) := by kernel_rfl
theorem amost_ok (x0 x1 x2 x3 x4 x5 x6 x7 x11 x13 x14 x16 x17 : Value) (amt ab be ex : Int) (pa : Bool) (hp : amost_pre x0 x1 x2 x3 x4 x5 x6 x7 x11 x13 x14 x16 x17 amt ab be ex pa) (good : Cfg → Prop) (hstep : ∀ c, arun Try.prog (conOf []) [] good (RetO (Tells (amost_val x0 x1 x2 x3 x4 x5 x6 x7 x11 x13 x14 x16 x17 amt ab be ex pa))) 400 (c) → good c) (hext : ∀ c c', CfgExt c c' → good c' → good c) : arun Try.prog (conOf []) [] good (RetO (Tells (amost_val x0 x1 x2 x3 x4 x5 x6 x7 x11 x13 x14 x16 x17 amt ab be ex pa))) 400 (entry Try.prog 20 [.agg [.kn x0, .kn x1, .kn x2, .kn x3, .kn x4, .kn x5, .kn x6, .kn x7, .kn (.int .i64 amt), .kn (.int .i64 ab), .kn (.int .i64 be), .kn x11, .kn (.int .i64 ex), .kn x13, .kn x14, .kn (.bool pa), .kn x16, .kn x17]]) := by
  rw [amost_res]
  exact tell rfl
theorem amost_con : Con Try.prog 20 Gamost := by
  refine con_of_run2 (con := conOf []) (hs := []) 400 Try.func20 rfl (by kernel_rfl) conNil ?_
  intro args0 p r hG hp
  unfold Gamost at hG
  split at hG
  case h_2 => cases hG
  rename_i x0 x1 x2 x3 x4 x5 x6 x7 amt ab be x11 ex x13 x14 pa x16 x17
  cases hG
  exact ⟨[.agg [.kn x0, .kn x1, .kn x2, .kn x3, .kn x4, .kn x5, .kn x6, .kn x7, .kn (.int .i64 amt), .kn (.int .i64 ab), .kn (.int .i64 be), .kn x11, .kn (.int .i64 ex), .kn x13, .kn x14, .kn (.bool pa), .kn x16, .kn x17]], ⟨VExt.refl _, trivial⟩, by simp [Try.ntmps20], fun good hstep hext => amost_ok _ _ _ _ _ _ _ _ _ _ _ _ _ _ _ _ _ _ hp good hstep hext⟩
def aleast_pre (x0 x1 x2 x3 x4 x5 x6 x7 x11 x13 x14 x16 x17 : Value) (amt ab be ex : Int) (pa : Bool) : Prop := True
noncomputable def aleast_val (x0 x1 x2 x3 x4 x5 x6 x7 x11 x13 x14 x16 x17 : Value) (amt ab be ex : Int) (pa : Bool) : V := .kn (.int .i64 (leastI amt be))
noncomputable def Galeast : PSpec
  | [.agg [.kn x0, .kn x1, .kn x2, .kn x3, .kn x4, .kn x5, .kn x6, .kn x7, .kn (.int .i64 amt), .kn (.int .i64 ab), .kn (.int .i64 be), .kn x11, .kn (.int .i64 ex), .kn x13, .kn x14, .kn (.bool pa), .kn x16, .kn x17]] => some (aleast_pre x0 x1 x2 x3 x4 x5 x6 x7 x11 x13 x14 x16 x17 amt ab be ex pa, aleast_val x0 x1 x2 x3 x4 x5 x6 x7 x11 x13 x14 x16 x17 amt ab be ex pa)
  | _ => none
theorem aleast_res (x0 x1 x2 x3 x4 x5 x6 x7 x11 x13 x14 x16 x17 : Value) (amt ab be ex : Int) (pa : Bool) (good : Cfg → Prop) (R : Option V → Prop) : arun Try.prog (conOf []) [] good (RetO (R)) 400 (entry Try.prog 21 [.agg [.kn x0, .kn x1, .kn x2, .kn x3, .kn x4, .kn x5, .kn x6, .kn x7, .kn (.int .i64 amt), .kn (.int .i64 ab), .kn (.int .i64 be), .kn x11, .kn (.int .i64 ex), .kn x13, .kn x14, .kn (.bool pa), .kn x16, .kn x17]]) =
    (R (some (V.kn (Value.int IntKind.i64 (IntKind.i64.wrap ((IntKind.i64.wrap (IntKind.i64.wrap (IntKind.i64.wrap (amt * IntKind.i64.wrap ((1000 : Int) - be)) + (1000 : Int)) - (1 : Int))).tdiv (1000 : Int))))))) := by kernel_rfl
theorem aleast_ok (x0 x1 x2 x3 x4 x5 x6 x7 x11 x13 x14 x16 x17 : Value) (amt ab be ex : Int) (pa : Bool) (hp : aleast_pre x0 x1 x2 x3 x4 x5 x6 x7 x11 x13 x14 x16 x17 amt ab be ex pa) (good : Cfg → Prop) (hstep : ∀ c, arun Try.prog (conOf []) [] good (RetO (Tells (aleast_val x0 x1 x2 x3 x4 x5 x6 x7 x11 x13 x14 x16 x17 amt ab be ex pa))) 400 (c) → good c) (hext : ∀ c c', CfgExt c c' → good c' → good c) : arun Try.prog (conOf []) [] good (RetO (Tells (aleast_val x0 x1 x2 x3 x4 x5 x6 x7 x11 x13 x14 x16 x17 amt ab be ex pa))) 400 (entry Try.prog 21 [.agg [.kn x0, .kn x1, .kn x2, .kn x3, .kn x4, .kn x5, .kn x6, .kn x7, .kn (.int .i64 amt), .kn (.int .i64 ab), .kn (.int .i64 be), .kn x11, .kn (.int .i64 ex), .kn x13, .kn x14, .kn (.bool pa), .kn x16, .kn x17]]) := by
  rw [aleast_res]
  exact tell rfl
theorem aleast_con : Con Try.prog 21 Galeast := by
  refine con_of_run2 (con := conOf []) (hs := []) 400 Try.func21 rfl (by kernel_rfl) conNil ?_
  intro args0 p r hG hp
  unfold Galeast at hG
  split at hG
  case h_2 => cases hG
  rename_i x0 x1 x2 x3 x4 x5 x6 x7 amt ab be x11 ex x13 x14 pa x16 x17
  cases hG
  exact ⟨[.agg [.kn x0, .kn x1, .kn x2, .kn x3, .kn x4, .kn x5, .kn x6, .kn x7, .kn (.int .i64 amt), .kn (.int .i64 ab), .kn (.int .i64 be), .kn x11, .kn (.int .i64 ex), .kn x13, .kn x14, .kn (.bool pa), .kn x16, .kn x17]], ⟨VExt.refl _, trivial⟩, by simp [Try.ntmps21], fun good hstep hext => aleast_ok _ _ _ _ _ _ _ _ _ _ _ _ _ _ _ _ _ _ hp good hstep hext⟩
def Most_pre (x0 x1 x2 x3 x4 x5 x6 x7 x11 x13 x14 x16 x17 : Value) (amt ab be ex : Int) (pa : Bool) : Prop := True
noncomputable def Most_val (x0 x1 x2 x3 x4 x5 x6 x7 x11 x13 x14 x16 x17 : Value) (amt ab be ex : Int) (pa : Bool) : V := .tup [.kn (.int .i64 (bif boundsB amt ab be ex then mostI amt ab else 0)), .kn (.int .i64 (bif boundsB amt ab be ex then 0 else 1))]
noncomputable def GMost : PSpec
  | [.agg [.kn x0, .kn x1, .kn x2, .kn x3, .kn x4, .kn x5, .kn x6, .kn x7, .kn (.int .i64 amt), .kn (.int .i64 ab), .kn (.int .i64 be), .kn x11, .kn (.int .i64 ex), .kn x13, .kn x14, .kn (.bool pa), .kn x16, .kn x17]] => some (Most_pre x0 x1 x2 x3 x4 x5 x6 x7 x11 x13 x14 x16 x17 amt ab be ex pa, Most_val x0 x1 x2 x3 x4 x5 x6 x7 x11 x13 x14 x16 x17 amt ab be ex pa)
  | _ => none
theorem Most_res (x0 x1 x2 x3 x4 x5 x6 x7 x11 x13 x14 x16 x17 : Value) (amt ab be ex : Int) (pa : Bool) (good : Cfg → Prop) (R : Option V → Prop) : arun Try.prog (conOf [(19, lift Gabounds), (20, lift Gamost)]) [] good (RetO (R)) 400 (entry Try.prog 9 [.agg [.kn x0, .kn x1, .kn x2, .kn x3, .kn x4, .kn x5, .kn x6, .kn x7, .kn (.int .i64 amt), .kn (.int .i64 ab), .kn (.int .i64 be), .kn x11, .kn (.int .i64 ex), .kn x13, .kn x14, .kn (.bool pa), .kn x16, .kn x17]]) =
    (abounds_pre x0 x1 x2 x3 x4 x5 x6 x7 x11 x13 x14 x16 x17 amt ab be ex pa ∧ bif !boundsB amt ab be ex then R (some (V.tup [V.kn (Value.int IntKind.i64 (0 : Int)), V.kn (Value.int IntKind.i64 (1 : Int))])) else amost_pre x0 x1 x2 x3 x4 x5 x6 x7 x11 x13 x14 x16 x17 amt ab be ex pa ∧ R (some (V.tup [V.kn (Value.int IntKind.i64 (mostI amt ab)), V.kn (Value.int IntKind.i64 (0 : Int))]))) := by kernel_rfl
theorem Most_ok (x0 x1 x2 x3 x4 x5 x6 x7 x11 x13 x14 x16 x17 : Value) (amt ab be ex : Int) (pa : Bool) (hp : Most_pre x0 x1 x2 x3 x4 x5 x6 x7 x11 x13 x14 x16 x17 amt ab be ex pa) (good : Cfg → Prop) (hstep : ∀ c, arun Try.prog (conOf [(19, lift Gabounds), (20, lift Gamost)]) [] good (RetO (Tells (Most_val x0 x1 x2 x3 x4 x5 x6 x7 x11 x13 x14 x16 x17 amt ab be ex pa))) 400 (c) → good c) (hext : ∀ c c', CfgExt c c' → good c' → good c) : arun Try.prog (conOf [(19, lift Gabounds), (20, lift Gamost)]) [] good (RetO (Tells (Most_val x0 x1 x2 x3 x4 x5 x6 x7 x11 x13 x14 x16 x17 amt ab be ex pa))) 400 (entry Try.prog 9 [.agg [.kn x0, .kn x1, .kn x2, .kn x3, .kn x4, .kn x5, .kn x6, .kn x7, .kn (.int .i64 amt), .kn (.int .i64 ab), .kn (.int .i64 be), .kn x11, .kn (.int .i64 ex), .kn x13, .kn x14, .kn (.bool pa), .kn x16, .kn x17]]) := by
  rw [Most_res]
  repeat' first | exact trivial | refine And.intro ?_ ?_ | refine cond_intro (fun h => ?_) (fun h => ?_)
  all_goals refine tell ?_
  all_goals simp_all [Most_val]
theorem Most_con : Con Try.prog 9 GMost := by
  refine con_of_run2 (con := conOf [(19, lift Gabounds), (20, lift Gamost)]) (hs := []) 400 Try.func9 rfl (by kernel_rfl) (conCons abounds_con (conCons amost_con conNil)) ?_
  intro args0 p r hG hp
  unfold GMost at hG
  split at hG
  case h_2 => cases hG
  rename_i x0 x1 x2 x3 x4 x5 x6 x7 amt ab be x11 ex x13 x14 pa x16 x17
  cases hG
  exact ⟨[.agg [.kn x0, .kn x1, .kn x2, .kn x3, .kn x4, .kn x5, .kn x6, .kn x7, .kn (.int .i64 amt), .kn (.int .i64 ab), .kn (.int .i64 be), .kn x11, .kn (.int .i64 ex), .kn x13, .kn x14, .kn (.bool pa), .kn x16, .kn x17]], ⟨VExt.refl _, trivial⟩, by simp [Try.ntmps9], fun good hstep hext => Most_ok _ _ _ _ _ _ _ _ _ _ _ _ _ _ _ _ _ _ hp good hstep hext⟩
def Least_pre (x0 x1 x2 x3 x4 x5 x6 x7 x11 x13 x14 x16 x17 : Value) (amt ab be ex : Int) (pa : Bool) : Prop := True
noncomputable def Least_val (x0 x1 x2 x3 x4 x5 x6 x7 x11 x13 x14 x16 x17 : Value) (amt ab be ex : Int) (pa : Bool) : V := .tup [.kn (.int .i64 (bif boundsB amt ab be ex then leastI amt be else 0)), .kn (.int .i64 (bif boundsB amt ab be ex then 0 else 1))]
noncomputable def GLeast : PSpec
  | [.agg [.kn x0, .kn x1, .kn x2, .kn x3, .kn x4, .kn x5, .kn x6, .kn x7, .kn (.int .i64 amt), .kn (.int .i64 ab), .kn (.int .i64 be), .kn x11, .kn (.int .i64 ex), .kn x13, .kn x14, .kn (.bool pa), .kn x16, .kn x17]] => some (Least_pre x0 x1 x2 x3 x4 x5 x6 x7 x11 x13 x14 x16 x17 amt ab be ex pa, Least_val x0 x1 x2 x3 x4 x5 x6 x7 x11 x13 x14 x16 x17 amt ab be ex pa)
  | _ => none
theorem Least_res (x0 x1 x2 x3 x4 x5 x6 x7 x11 x13 x14 x16 x17 : Value) (amt ab be ex : Int) (pa : Bool) (good : Cfg → Prop) (R : Option V → Prop) : arun Try.prog (conOf [(19, lift Gabounds), (21, lift Galeast)]) [] good (RetO (R)) 400 (entry Try.prog 10 [.agg [.kn x0, .kn x1, .kn x2, .kn x3, .kn x4, .kn x5, .kn x6, .kn x7, .kn (.int .i64 amt), .kn (.int .i64 ab), .kn (.int .i64 be), .kn x11, .kn (.int .i64 ex), .kn x13, .kn x14, .kn (.bool pa), .kn x16, .kn x17]]) =
    (abounds_pre x0 x1 x2 x3 x4 x5 x6 x7 x11 x13 x14 x16 x17 amt ab be ex pa ∧ bif !boundsB amt ab be ex then R (some (V.tup [V.kn (Value.int IntKind.i64 (0 : Int)), V.kn (Value.int IntKind.i64 (1 : Int))])) else aleast_pre x0 x1 x2 x3 x4 x5 x6 x7 x11 x13 x14 x16 x17 amt ab be ex pa ∧ R (some (V.tup [V.kn (Value.int IntKind.i64 (leastI amt be)), V.kn (Value.int IntKind.i64 (0 : Int))]))) := by kernel_rfl
theorem Least_ok (x0 x1 x2 x3 x4 x5 x6 x7 x11 x13 x14 x16 x17 : Value) (amt ab be ex : Int) (pa : Bool) (hp : Least_pre x0 x1 x2 x3 x4 x5 x6 x7 x11 x13 x14 x16 x17 amt ab be ex pa) (good : Cfg → Prop) (hstep : ∀ c, arun Try.prog (conOf [(19, lift Gabounds), (21, lift Galeast)]) [] good (RetO (Tells (Least_val x0 x1 x2 x3 x4 x5 x6 x7 x11 x13 x14 x16 x17 amt ab be ex pa))) 400 (c) → good c) (hext : ∀ c c', CfgExt c c' → good c' → good c) : arun Try.prog (conOf [(19, lift Gabounds), (21, lift Galeast)]) [] good (RetO (Tells (Least_val x0 x1 x2 x3 x4 x5 x6 x7 x11 x13 x14 x16 x17 amt ab be ex pa))) 400 (entry Try.prog 10 [.agg [.kn x0, .kn x1, .kn x2, .kn x3, .kn x4, .kn x5, .kn x6, .kn x7, .kn (.int .i64 amt), .kn (.int .i64 ab), .kn (.int .i64 be), .kn x11, .kn (.int .i64 ex), .kn x13, .kn x14, .kn (.bool pa), .kn x16, .kn x17]]) := by
  rw [Least_res]
  repeat' first | exact trivial | refine And.intro ?_ ?_ | refine cond_intro (fun h => ?_) (fun h => ?_)
  all_goals refine tell ?_
  all_goals simp_all [Least_val]
theorem Least_con : Con Try.prog 10 GLeast := by
  refine con_of_run2 (con := conOf [(19, lift Gabounds), (21, lift Galeast)]) (hs := []) 400 Try.func10 rfl (by kernel_rfl) (conCons abounds_con (conCons aleast_con conNil)) ?_
  intro args0 p r hG hp
  unfold GLeast at hG
  split at hG
  case h_2 => cases hG
  rename_i x0 x1 x2 x3 x4 x5 x6 x7 amt ab be x11 ex x13 x14 pa x16 x17
  cases hG
  exact ⟨[.agg [.kn x0, .kn x1, .kn x2, .kn x3, .kn x4, .kn x5, .kn x6, .kn x7, .kn (.int .i64 amt), .kn (.int .i64 ab), .kn (.int .i64 be), .kn x11, .kn (.int .i64 ex), .kn x13, .kn x14, .kn (.bool pa), .kn x16, .kn x17]], ⟨VExt.refl _, trivial⟩, by simp [Try.ntmps10], fun good hstep hext => Least_ok _ _ _ _ _ _ _ _ _ _ _ _ _ _ _ _ _ _ hp good hstep hext⟩
def rbounds_pre (x0 x1 x2 x3 x4 x5 x6 x7 x11 x13 x14 x16 x17 : Value) (amt ab be ex : Int) (pa : Bool) : Prop := True
noncomputable def rbounds_val (x0 x1 x2 x3 x4 x5 x6 x7 x11 x13 x14 x16 x17 : Value) (amt ab be ex : Int) (pa : Bool) : V := .kn (.bool (boundsB amt ab be ex))
noncomputable def Grbounds : PSpec
  | [.agg [.kn x0, .kn x1, .kn x2, .kn x3, .kn x4, .kn x5, .kn x6, .kn x7, .kn (.int .i64 amt), .kn (.int .i64 ab), .kn (.int .i64 be), .kn x11, .kn (.int .i64 ex), .kn x13, .kn x14, .kn (.bool pa), .kn x16, .kn x17]] => some (rbounds_pre x0 x1 x2 x3 x4 x5 x6 x7 x11 x13 x14 x16 x17 amt ab be ex pa, rbounds_val x0 x1 x2 x3 x4 x5 x6 x7 x11 x13 x14 x16 x17 amt ab be ex pa)
  | _ => none
theorem rbounds_res (x0 x1 x2 x3 x4 x5 x6 x7 x11 x13 x14 x16 x17 : Value) (amt ab be ex : Int) (pa : Bool) (good : Cfg → Prop) (R : Option V → Prop) : arun Try.prog (conOf []) [] good (RetO (R)) 400 (entry Try.prog 11 [.agg [.kn x0, .kn x1, .kn x2, .kn x3, .kn x4, .kn x5, .kn x6, .kn x7, .kn (.int .i64 amt), .kn (.int .i64 ab), .kn (.int .i64 be), .kn x11, .kn (.int .i64 ex), .kn x13, .kn x14, .kn (.bool pa), .kn x16, .kn x17]]) =
    (bif decide (amt ≥ (1 : Int)) then bif decide (amt ≤ (1099511627776 : Int)) then bif decide (ab ≥ (0 : Int)) then bif decide (ab ≤ (1000 : Int)) then bif decide (be ≥ (0 : Int)) then bif decide (be ≤ (1000 : Int)) then bif decide (ex ≥ (0 : Int)) then R (some (V.kn (Value.bool (decide (ex ≤ (1048576 : Int)))))) else R (some (V.kn (Value.bool false))) else R (some (V.kn (Value.bool false))) else R (some (V.kn (Value.bool false))) else R (some (V.kn (Value.bool false))) else R (some (V.kn (Value.bool false))) else R (some (V.kn (Value.bool false))) else R (some (V.kn (Value.bool false)))) := by kernel_rfl
theorem rbounds_ok (x0 x1 x2 x3 x4 x5 x6 x7 x11 x13 x14 x16 x17 : Value) (amt ab be ex : Int) (pa : Bool) (hp : rbounds_pre x0 x1 x2 x3 x4 x5 x6 x7 x11 x13 x14 x16 x17 amt ab be ex pa) (good : Cfg → Prop) (hstep : ∀ c, arun Try.prog (conOf []) [] good (RetO (Tells (rbounds_val x0 x1 x2 x3 x4 x5 x6 x7 x11 x13 x14 x16 x17 amt ab be ex pa))) 400 (c) → good c) (hext : ∀ c c', CfgExt c c' → good c' → good c) : arun Try.prog (conOf []) [] good (RetO (Tells (rbounds_val x0 x1 x2 x3 x4 x5 x6 x7 x11 x13 x14 x16 x17 amt ab be ex pa))) 400 (entry Try.prog 11 [.agg [.kn x0, .kn x1, .kn x2, .kn x3, .kn x4, .kn x5, .kn x6, .kn x7, .kn (.int .i64 amt), .kn (.int .i64 ab), .kn (.int .i64 be), .kn x11, .kn (.int .i64 ex), .kn x13, .kn x14, .kn (.bool pa), .kn x16, .kn x17]]) := by
  rw [rbounds_res]
  repeat' first | exact trivial | refine And.intro ?_ ?_ | refine cond_intro (fun h => ?_) (fun h => ?_)
  all_goals refine tell_bool ?_
  all_goals simp only [decide_eq_true_eq, decide_eq_false_iff_not] at *
  all_goals rw [Bool.eq_iff_iff]
  all_goals simp [boundsB]
  all_goals omega
theorem rbounds_con : Con Try.prog 11 Grbounds := by
  refine con_of_run2 (con := conOf []) (hs := []) 400 Try.func11 rfl (by kernel_rfl) conNil ?_
  intro args0 p r hG hp
  unfold Grbounds at hG
  split at hG
  case h_2 => cases hG
  rename_i x0 x1 x2 x3 x4 x5 x6 x7 amt ab be x11 ex x13 x14 pa x16 x17
  cases hG
  exact ⟨[.agg [.kn x0, .kn x1, .kn x2, .kn x3, .kn x4, .kn x5, .kn x6, .kn x7, .kn (.int .i64 amt), .kn (.int .i64 ab), .kn (.int .i64 be), .kn x11, .kn (.int .i64 ex), .kn x13, .kn x14, .kn (.bool pa), .kn x16, .kn x17]], ⟨VExt.refl _, trivial⟩, by simp [Try.ntmps11], fun good hstep hext => rbounds_ok _ _ _ _ _ _ _ _ _ _ _ _ _ _ _ _ _ _ hp good hstep hext⟩
def lbounds_pre (amt ab be ex : Int) (pa : Bool) : Prop := True
noncomputable def lbounds_val (amt ab be ex : Int) (pa : Bool) : V := .agg [.kn (.string ByteArray.empty), .kn (.string ByteArray.empty), .kn (.string ByteArray.empty), .kn (.string ByteArray.empty), .kn (.string ByteArray.empty), .kn (.string ByteArray.empty), .kn (.string ByteArray.empty), .kn (.string ByteArray.empty), .kn (.int .i64 amt), .kn (.int .i64 ab), .kn (.int .i64 be), .kn (.int .i64 0), .kn (.int .i64 ex), .kn (.int .i64 0), .kn (.int .i64 0), .kn (.bool pa), .kn (.bool false), .kn (.slice none 0 0)]
noncomputable def Glbounds : PSpec
  | [.kn (.int .i64 amt), .kn (.int .i64 ab), .kn (.int .i64 be), .kn (.int .i64 ex), .kn (.bool pa)] => some (lbounds_pre amt ab be ex pa, lbounds_val amt ab be ex pa)
  | _ => none
theorem lbounds_res (amt ab be ex : Int) (pa : Bool) (good : Cfg → Prop) (R : Option V → Prop) : arun Try.prog (conOf []) [] good (RetO (R)) 400 (entry Try.prog 8 [.kn (.int .i64 amt), .kn (.int .i64 ab), .kn (.int .i64 be), .kn (.int .i64 ex), .kn (.bool pa)]) =
    (R (some (V.agg [V.kn (Value.string { data := #[] }), V.kn (Value.string { data := #[] }), V.kn (Value.string { data := #[] }), V.kn (Value.string { data := #[] }), V.kn (Value.string { data := #[] }), V.kn (Value.string { data := #[] }), V.kn (Value.string { data := #[] }), V.kn (Value.string { data := #[] }), V.kn (Value.int IntKind.i64 amt), V.kn (Value.int IntKind.i64 ab), V.kn (Value.int IntKind.i64 be), V.kn (Value.int IntKind.i64 (0 : Int)), V.kn (Value.int IntKind.i64 ex), V.kn (Value.int IntKind.i64 (0 : Int)), V.kn (Value.int IntKind.i64 (0 : Int)), V.kn (Value.bool pa), V.kn (Value.bool false), V.kn (Value.slice none (0 : Nat) (0 : Nat))]))) := by kernel_rfl
theorem lbounds_ok (amt ab be ex : Int) (pa : Bool) (hp : lbounds_pre amt ab be ex pa) (good : Cfg → Prop) (hstep : ∀ c, arun Try.prog (conOf []) [] good (RetO (Tells (lbounds_val amt ab be ex pa))) 400 (c) → good c) (hext : ∀ c c', CfgExt c c' → good c' → good c) : arun Try.prog (conOf []) [] good (RetO (Tells (lbounds_val amt ab be ex pa))) 400 (entry Try.prog 8 [.kn (.int .i64 amt), .kn (.int .i64 ab), .kn (.int .i64 be), .kn (.int .i64 ex), .kn (.bool pa)]) := by
  rw [lbounds_res]
  exact tell rfl
theorem lbounds_con : Con Try.prog 8 Glbounds := by
  refine con_of_run2 (con := conOf []) (hs := []) 400 Try.func8 rfl (by kernel_rfl) conNil ?_
  intro args0 p r hG hp
  unfold Glbounds at hG
  split at hG
  case h_2 => cases hG
  rename_i amt ab be ex pa
  cases hG
  exact ⟨[.kn (.int .i64 amt), .kn (.int .i64 ab), .kn (.int .i64 be), .kn (.int .i64 ex), .kn (.bool pa)], ⟨VExt.refl _, VExt.refl _, VExt.refl _, VExt.refl _, VExt.refl _, trivial⟩, by simp [Try.ntmps8], fun good hstep hext => lbounds_ok _ _ _ _ _ hp good hstep hext⟩
def awake_pre  : Prop := True
noncomputable def awake_val  : V := .kn (.bool true)
noncomputable def Gawake : PSpec
  | [] => some (awake_pre , awake_val )
  | _ => none
theorem awake_res  (good : Cfg → Prop) (R : Option V → Prop) : arun Try.prog (conOf [(9, lift GMost), (10, lift GLeast)]) [] good (RetO (R)) 400 (entry Try.prog 7 []) =
    (Most_pre (Value.string { data := #[] }) (Value.string { data := #[] }) (Value.string { data := #[] }) (Value.string { data := #[] }) (Value.string { data := #[] }) (Value.string { data := #[] }) (Value.string { data := #[] }) (Value.string { data := #[] }) (Value.int IntKind.i64 (0 : Int)) (Value.int IntKind.i64 (0 : Int)) (Value.int IntKind.i64 (0 : Int)) (Value.bool false) (Value.slice none (0 : Nat) (0 : Nat)) (1000 : Int) (50 : Int) (100 : Int) (0 : Int) false ∧ Least_pre (Value.string { data := #[] }) (Value.string { data := #[] }) (Value.string { data := #[] }) (Value.string { data := #[] }) (Value.string { data := #[] }) (Value.string { data := #[] }) (Value.string { data := #[] }) (Value.string { data := #[] }) (Value.int IntKind.i64 (0 : Int)) (Value.int IntKind.i64 (0 : Int)) (Value.int IntKind.i64 (0 : Int)) (Value.bool false) (Value.slice none (0 : Nat) (0 : Nat)) (1000 : Int) (50 : Int) (100 : Int) (0 : Int) false ∧ R (some (V.kn (Value.bool ((0 : Int) == (0 : Int)))))) := by kernel_rfl
theorem awake_ok  (hp : awake_pre ) (good : Cfg → Prop) (hstep : ∀ c, arun Try.prog (conOf [(9, lift GMost), (10, lift GLeast)]) [] good (RetO (Tells (awake_val ))) 400 (c) → good c) (hext : ∀ c c', CfgExt c c' → good c' → good c) : arun Try.prog (conOf [(9, lift GMost), (10, lift GLeast)]) [] good (RetO (Tells (awake_val ))) 400 (entry Try.prog 7 []) := by
  rw [awake_res]
  repeat' first | exact trivial | refine And.intro ?_ ?_ | refine cond_intro (fun h => ?_) (fun h => ?_)
  all_goals exact tell rfl
theorem awake_con : Con Try.prog 7 Gawake := by
  refine con_of_run2 (con := conOf [(9, lift GMost), (10, lift GLeast)]) (hs := []) 400 Try.func7 rfl (by kernel_rfl) (conCons Most_con (conCons Least_con conNil)) ?_
  intro args0 p r hG hp
  unfold Gawake at hG
  split at hG
  case h_2 => cases hG
  cases hG
  exact ⟨[], trivial, by simp [Try.ntmps7], fun good hstep hext => awake_ok  hp good hstep hext⟩
def Left_pre (x0 x1 x2 x3 x4 x5 x6 x7 x11 x13 x14 x16 x17 : Value) (amt ab be ex : Int) (pa : Bool) (xs : List Draw) : Prop := True
noncomputable def Left_val (x0 x1 x2 x3 x4 x5 x6 x7 x11 x13 x14 x16 x17 : Value) (amt ab be ex : Int) (pa : Bool) (xs : List Draw) : V := .tup [.kn (.int .i64 (leftI amt ab be ex xs)), .kn (.int .i64 (bif !boundsB amt ab be ex || !bP (rightP xs) then 1 else 0))]
noncomputable def GLeft : PSpec
  | [.agg [.kn x0, .kn x1, .kn x2, .kn x3, .kn x4, .kn x5, .kn x6, .kn x7, .kn (.int .i64 amt), .kn (.int .i64 ab), .kn (.int .i64 be), .kn x11, .kn (.int .i64 ex), .kn x13, .kn x14, .kn (.bool pa), .kn x16, .kn x17], .list s_xs n_xs f_xs] => some ((s_xs = eDraw.s ∧ eDraw.oks n_xs f_xs) ∧ Left_pre x0 x1 x2 x3 x4 x5 x6 x7 x11 x13 x14 x16 x17 amt ab be ex pa (eDraw.dl n_xs f_xs), Left_val x0 x1 x2 x3 x4 x5 x6 x7 x11 x13 x14 x16 x17 amt ab be ex pa (eDraw.dl n_xs f_xs))
  | _ => none
theorem Left_res (x0 x1 x2 x3 x4 x5 x6 x7 x11 x13 x14 x16 x17 : Value) (amt ab be ex : Int) (pa : Bool) (xs : List Draw) (good : Cfg → Prop) (R : Option V → Prop) : arun Try.prog (conOf [(19, lift Gabounds), (20, lift Gamost), (25, lift Gright), (29, lift Gsum)]) [] good (RetO (R)) 400 (entry Try.prog 17 [.agg [.kn x0, .kn x1, .kn x2, .kn x3, .kn x4, .kn x5, .kn x6, .kn x7, .kn (.int .i64 amt), .kn (.int .i64 ab), .kn (.int .i64 be), .kn x11, .kn (.int .i64 ex), .kn x13, .kn x14, .kn (.bool pa), .kn x16, .kn x17], .list eDraw.s xs.length (eDraw.tl xs)]) =
    (abounds_pre x0 x1 x2 x3 x4 x5 x6 x7 x11 x13 x14 x16 x17 amt ab be ex pa ∧ bif !boundsB amt ab be ex then R (some (V.tup [V.kn (Value.int IntKind.i64 (0 : Int)), V.kn (Value.int IntKind.i64 (1 : Int))])) else (((2 : Nat) = (2 : Nat) ∧ eDraw.oks xs.length (eDraw.tl xs)) ∧ right_pre (eDraw.dl xs.length (eDraw.tl xs))) ∧ bif !bP (rightP (eDraw.dl xs.length (eDraw.tl xs))) then R (some (V.tup [V.kn (Value.int IntKind.i64 (0 : Int)), V.kn (Value.int IntKind.i64 (1 : Int))])) else amost_pre x0 x1 x2 x3 x4 x5 x6 x7 x11 x13 x14 x16 x17 amt ab be ex pa ∧ (((2 : Nat) = (2 : Nat) ∧ eDraw.oks xs.length (eDraw.tl xs)) ∧ sum_pre (eDraw.dl xs.length (eDraw.tl xs))) ∧ R (some (V.tup [V.kn (Value.int IntKind.i64 (if (0 : Int) > IntKind.i64.wrap (mostI amt ab - sumW (eDraw.dl xs.length (eDraw.tl xs))) then (0 : Int) else IntKind.i64.wrap (mostI amt ab - sumW (eDraw.dl xs.length (eDraw.tl xs))))), V.kn (Value.int IntKind.i64 (0 : Int))]))) := by kernel_rfl
theorem Left_ok (x0 x1 x2 x3 x4 x5 x6 x7 x11 x13 x14 x16 x17 : Value) (amt ab be ex : Int) (pa : Bool) (xs : List Draw) (len_xs : xs.length ≤ maxLen) (hp : Left_pre x0 x1 x2 x3 x4 x5 x6 x7 x11 x13 x14 x16 x17 amt ab be ex pa xs) (good : Cfg → Prop) (hstep : ∀ c, arun Try.prog (conOf [(19, lift Gabounds), (20, lift Gamost), (25, lift Gright), (29, lift Gsum)]) [] good (RetO (Tells (Left_val x0 x1 x2 x3 x4 x5 x6 x7 x11 x13 x14 x16 x17 amt ab be ex pa xs))) 400 (c) → good c) (hext : ∀ c c', CfgExt c c' → good c' → good c) : arun Try.prog (conOf [(19, lift Gabounds), (20, lift Gamost), (25, lift Gright), (29, lift Gsum)]) [] good (RetO (Tells (Left_val x0 x1 x2 x3 x4 x5 x6 x7 x11 x13 x14 x16 x17 amt ab be ex pa xs))) 400 (entry Try.prog 17 [.agg [.kn x0, .kn x1, .kn x2, .kn x3, .kn x4, .kn x5, .kn x6, .kn x7, .kn (.int .i64 amt), .kn (.int .i64 ab), .kn (.int .i64 be), .kn x11, .kn (.int .i64 ex), .kn x13, .kn x14, .kn (.bool pa), .kn x16, .kn x17], .list eDraw.s xs.length (eDraw.tl xs)]) := by
  rw [Left_res]
  rw [eDraw.dl_tl]
  have ho : (2 : Nat) = 2 ∧ eDraw.oks xs.length (eDraw.tl xs) := ⟨rfl, eDraw.oks_tl len_xs⟩
  repeat' first | exact ho | exact trivial | refine And.intro ?_ ?_ | refine cond_intro (fun h => ?_) (fun h => ?_)
  all_goals refine tell ?_
  all_goals simp only [Bool.not_eq_true', Bool.not_eq_false'] at *
  all_goals simp only [Left_val, leftI, *, Bool.not_true, Bool.not_false, Bool.or_false, Bool.or_true, Bool.false_or, Bool.true_or, cond_true, cond_false]
  all_goals rfl
theorem Left_con : Con Try.prog 17 GLeft := by
  refine con_of_run2 (con := conOf [(19, lift Gabounds), (20, lift Gamost), (25, lift Gright), (29, lift Gsum)]) (hs := []) 400 Try.func17 rfl (by kernel_rfl) (conCons abounds_con (conCons amost_con (conCons right_con (conCons sum_con conNil)))) ?_
  intro args0 p r hG hp
  unfold GLeft at hG
  split at hG
  case h_2 => cases hG
  rename_i x0 x1 x2 x3 x4 x5 x6 x7 amt ab be x11 ex x13 x14 pa x16 x17 s_xs n_xs f_xs
  cases hG
  obtain ⟨⟨se_xs, ok_xs⟩, hp⟩ := hp
  subst se_xs
  exact ⟨[.agg [.kn x0, .kn x1, .kn x2, .kn x3, .kn x4, .kn x5, .kn x6, .kn x7, .kn (.int .i64 amt), .kn (.int .i64 ab), .kn (.int .i64 be), .kn x11, .kn (.int .i64 ex), .kn x13, .kn x14, .kn (.bool pa), .kn x16, .kn x17], .list eDraw.s (eDraw.dl n_xs f_xs).length (eDraw.tl (eDraw.dl n_xs f_xs))], ⟨VExt.refl _, eDraw.ext ok_xs, trivial⟩, by simp [Try.ntmps17], fun good hstep hext => Left_ok _ _ _ _ _ _ _ _ _ _ _ _ _ _ _ _ _ _ _ (by rw [eDraw.dl_length]; exact ok_xs.1) hp good hstep hext⟩
def May_pre (x0 x1 x2 x3 x4 x5 x6 x7 x11 x13 x14 x16 x17 : Value) (amt ab be ex : Int) (pa : Bool) (day am : Int) (xs : List Draw) : Prop := xs.length ≤ 100000
noncomputable def May_val (x0 x1 x2 x3 x4 x5 x6 x7 x11 x13 x14 x16 x17 : Value) (amt ab be ex : Int) (pa : Bool) (day am : Int) (xs : List Draw) : V := .kn (.int .i64 (mayI amt ab be ex pa xs day am))
noncomputable def GMay : PSpec
  | [.agg [.kn x0, .kn x1, .kn x2, .kn x3, .kn x4, .kn x5, .kn x6, .kn x7, .kn (.int .i64 amt), .kn (.int .i64 ab), .kn (.int .i64 be), .kn x11, .kn (.int .i64 ex), .kn x13, .kn x14, .kn (.bool pa), .kn x16, .kn x17], .list s_xs n_xs f_xs, .agg [.kn (.int .i64 day), .kn (.int .i64 am)]] => some ((s_xs = eDraw.s ∧ eDraw.oks n_xs f_xs) ∧ May_pre x0 x1 x2 x3 x4 x5 x6 x7 x11 x13 x14 x16 x17 amt ab be ex pa day am (eDraw.dl n_xs f_xs), May_val x0 x1 x2 x3 x4 x5 x6 x7 x11 x13 x14 x16 x17 amt ab be ex pa day am (eDraw.dl n_xs f_xs))
  | _ => none
theorem May_res (x0 x1 x2 x3 x4 x5 x6 x7 x11 x13 x14 x16 x17 : Value) (amt ab be ex : Int) (pa : Bool) (day am : Int) (xs : List Draw) (good : Cfg → Prop) (R : Option V → Prop) : arun Try.prog (conOf [(25, lift Gright), (29, lift Gsum), (19, lift Gabounds), (20, lift Gamost), (21, lift Galeast)]) [] good (RetO (R)) 1500 (entry Try.prog 16 [.agg [.kn x0, .kn x1, .kn x2, .kn x3, .kn x4, .kn x5, .kn x6, .kn x7, .kn (.int .i64 amt), .kn (.int .i64 ab), .kn (.int .i64 be), .kn x11, .kn (.int .i64 ex), .kn x13, .kn x14, .kn (.bool pa), .kn x16, .kn x17], .list eDraw.s xs.length (eDraw.tl xs), .agg [.kn (.int .i64 day), .kn (.int .i64 am)]]) =
    ((xs.length ≤ (9223372036854775807 : Nat) ∧ xs.length * (16 : Nat) ≤ (140737488355328 : Nat)) ∧ (xs.length + (1 : Nat) ≤ (9223372036854775807 : Nat) ∧ (xs.length + (1 : Nat)) * (16 : Nat) ≤ (140737488355328 : Nat)) ∧ ((0 : Int) ≤ (0 : Int) ∧ (0 : Int) < (5 : Int)) ∧ (0 : Nat) < (5 : Nat) ∧ abounds_pre x0 x1 x2 x3 x4 x5 x6 x7 x11 x13 x14 x16 x17 amt ab be ex pa ∧ bif !boundsB amt ab be ex then R (some (V.kn (Value.int IntKind.i64 (1 : Int)))) else (((2 : Nat) = (2 : Nat) ∧ eDraw.oks (xs.length + (1 : Nat)) (catF xs.length (eDraw.tl xs) (rowF [V.kn (Value.int IntKind.i64 day), V.kn (Value.int IntKind.i64 am)] (2 : Nat)))) ∧ right_pre (eDraw.dl (xs.length + (1 : Nat)) (catF xs.length (eDraw.tl xs) (rowF [V.kn (Value.int IntKind.i64 day), V.kn (Value.int IntKind.i64 am)] (2 : Nat))))) ∧ bif !bP (rightP (eDraw.dl (xs.length + (1 : Nat)) (catF xs.length (eDraw.tl xs) (rowF [V.kn (Value.int IntKind.i64 day), V.kn (Value.int IntKind.i64 am)] (2 : Nat))))) then R (some (V.kn (Value.int IntKind.i64 (1 : Int)))) else ((0 : Int) ≤ (1 : Int) ∧ (1 : Int) < (5 : Int)) ∧ (1 : Nat) < (5 : Nat) ∧ bif decide (day > ex) then R (some (V.kn (Value.int IntKind.i64 (11 : Int)))) else ((0 : Int) ≤ (2 : Int) ∧ (2 : Int) < (5 : Int)) ∧ (2 : Nat) < (5 : Nat) ∧ bif !pa then bif decide (↑xs.length > (0 : Int)) then R (some (V.kn (Value.int IntKind.i64 (9 : Int)))) else ((0 : Int) ≤ (3 : Int) ∧ (3 : Int) < (5 : Int)) ∧ (3 : Nat) < (5 : Nat) ∧ (((2 : Nat) = (2 : Nat) ∧ eDraw.oks (xs.length + (1 : Nat)) (catF xs.length (eDraw.tl xs) (rowF [V.kn (Value.int IntKind.i64 day), V.kn (Value.int IntKind.i64 am)] (2 : Nat)))) ∧ sum_pre (eDraw.dl (xs.length + (1 : Nat)) (catF xs.length (eDraw.tl xs) (rowF [V.kn (Value.int IntKind.i64 day), V.kn (Value.int IntKind.i64 am)] (2 : Nat))))) ∧ amost_pre x0 x1 x2 x3 x4 x5 x6 x7 x11 x13 x14 x16 x17 amt ab be ex pa ∧ bif decide (sumW (eDraw.dl (xs.length + (1 : Nat)) (catF xs.length (eDraw.tl xs) (rowF [V.kn (Value.int IntKind.i64 day), V.kn (Value.int IntKind.i64 am)] (2 : Nat)))) > mostI amt ab) then R (some (V.kn (Value.int IntKind.i64 (10 : Int)))) else ((0 : Int) ≤ (4 : Int) ∧ (4 : Int) < (5 : Int)) ∧ (4 : Nat) < (5 : Nat) ∧ bif !pa then aleast_pre x0 x1 x2 x3 x4 x5 x6 x7 x11 x13 x14 x16 x17 amt ab be ex pa ∧ bif decide (am < leastI amt be) then R (some (V.kn (Value.int IntKind.i64 (3 : Int)))) else R (some (V.kn (Value.int IntKind.i64 (0 : Int)))) else R (some (V.kn (Value.int IntKind.i64 (0 : Int)))) else ((0 : Int) ≤ (3 : Int) ∧ (3 : Int) < (5 : Int)) ∧ (3 : Nat) < (5 : Nat) ∧ (((2 : Nat) = (2 : Nat) ∧ eDraw.oks (xs.length + (1 : Nat)) (catF xs.length (eDraw.tl xs) (rowF [V.kn (Value.int IntKind.i64 day), V.kn (Value.int IntKind.i64 am)] (2 : Nat)))) ∧ sum_pre (eDraw.dl (xs.length + (1 : Nat)) (catF xs.length (eDraw.tl xs) (rowF [V.kn (Value.int IntKind.i64 day), V.kn (Value.int IntKind.i64 am)] (2 : Nat))))) ∧ amost_pre x0 x1 x2 x3 x4 x5 x6 x7 x11 x13 x14 x16 x17 amt ab be ex pa ∧ bif decide (sumW (eDraw.dl (xs.length + (1 : Nat)) (catF xs.length (eDraw.tl xs) (rowF [V.kn (Value.int IntKind.i64 day), V.kn (Value.int IntKind.i64 am)] (2 : Nat)))) > mostI amt ab) then R (some (V.kn (Value.int IntKind.i64 (10 : Int)))) else ((0 : Int) ≤ (4 : Int) ∧ (4 : Int) < (5 : Int)) ∧ (4 : Nat) < (5 : Nat) ∧ bif !pa then aleast_pre x0 x1 x2 x3 x4 x5 x6 x7 x11 x13 x14 x16 x17 amt ab be ex pa ∧ bif decide (am < leastI amt be) then R (some (V.kn (Value.int IntKind.i64 (3 : Int)))) else R (some (V.kn (Value.int IntKind.i64 (0 : Int)))) else R (some (V.kn (Value.int IntKind.i64 (0 : Int))))) := by kernel_rfl
theorem May_ok (x0 x1 x2 x3 x4 x5 x6 x7 x11 x13 x14 x16 x17 : Value) (amt ab be ex : Int) (pa : Bool) (day am : Int) (xs : List Draw) (len_xs : xs.length ≤ maxLen) (hp : May_pre x0 x1 x2 x3 x4 x5 x6 x7 x11 x13 x14 x16 x17 amt ab be ex pa day am xs) (good : Cfg → Prop) (hstep : ∀ c, arun Try.prog (conOf [(25, lift Gright), (29, lift Gsum), (19, lift Gabounds), (20, lift Gamost), (21, lift Galeast)]) [] good (RetO (Tells (May_val x0 x1 x2 x3 x4 x5 x6 x7 x11 x13 x14 x16 x17 amt ab be ex pa day am xs))) 1500 (c) → good c) (hext : ∀ c c', CfgExt c c' → good c' → good c) : arun Try.prog (conOf [(25, lift Gright), (29, lift Gsum), (19, lift Gabounds), (20, lift Gamost), (21, lift Galeast)]) [] good (RetO (Tells (May_val x0 x1 x2 x3 x4 x5 x6 x7 x11 x13 x14 x16 x17 amt ab be ex pa day am xs))) 1500 (entry Try.prog 16 [.agg [.kn x0, .kn x1, .kn x2, .kn x3, .kn x4, .kn x5, .kn x6, .kn x7, .kn (.int .i64 amt), .kn (.int .i64 ab), .kn (.int .i64 be), .kn x11, .kn (.int .i64 ex), .kn x13, .kn x14, .kn (.bool pa), .kn x16, .kn x17], .list eDraw.s xs.length (eDraw.tl xs), .agg [.kn (.int .i64 day), .kn (.int .i64 am)]]) := by
  rw [May_res]
  have hp' : xs.length ≤ 100000 := hp
  have hm : maxLen = 9223372036854775807 := rfl
  have hall : eDraw.is (xs.length + 1) (catF xs.length (eDraw.tl xs) (rowF [V.kn (Value.int IntKind.i64 day), V.kn (Value.int IntKind.i64 am)] 2)) (xs ++ [⟨day, am⟩]) := eDraw.is_app (eDraw.is_tl xs) (eDraw.is_one _ rfl)
  have ho : (2 : Nat) = 2 ∧ eDraw.oks (xs.length + 1) (catF xs.length (eDraw.tl xs) (rowF [V.kn (Value.int IntKind.i64 day), V.kn (Value.int IntKind.i64 am)] 2)) := ⟨rfl, eDraw.is_oks hall (by omega)⟩
  rw [eDraw.is_dl hall]
  repeat' first | exact ho | exact trivial | refine And.intro ?_ ?_ | refine cond_intro (fun h => ?_) (fun h => ?_) | refine tell ?_
  all_goals try omega
  all_goals simp only [Bool.not_eq_true', Bool.not_eq_false'] at *
  all_goals first
    | (simp only [May_val, mayI, *, Bool.not_true, Bool.not_false, Bool.or_false, Bool.or_true, Bool.false_or, Bool.true_or, Bool.and_true, Bool.true_and, Bool.false_and, Bool.and_false, cond_true, cond_false]; done)
    | (exfalso; simp_all; done)
theorem May_con : Con Try.prog 16 GMay := by
  refine con_of_run2 (con := conOf [(25, lift Gright), (29, lift Gsum), (19, lift Gabounds), (20, lift Gamost), (21, lift Galeast)]) (hs := []) 1500 Try.func16 rfl (by kernel_rfl) (conCons right_con (conCons sum_con (conCons abounds_con (conCons amost_con (conCons aleast_con conNil))))) ?_
  intro args0 p r hG hp
  unfold GMay at hG
  split at hG
  case h_2 => cases hG
  rename_i x0 x1 x2 x3 x4 x5 x6 x7 amt ab be x11 ex x13 x14 pa x16 x17 s_xs n_xs f_xs day am
  cases hG
  obtain ⟨⟨se_xs, ok_xs⟩, hp⟩ := hp
  subst se_xs
  exact ⟨[.agg [.kn x0, .kn x1, .kn x2, .kn x3, .kn x4, .kn x5, .kn x6, .kn x7, .kn (.int .i64 amt), .kn (.int .i64 ab), .kn (.int .i64 be), .kn x11, .kn (.int .i64 ex), .kn x13, .kn x14, .kn (.bool pa), .kn x16, .kn x17], .list eDraw.s (eDraw.dl n_xs f_xs).length (eDraw.tl (eDraw.dl n_xs f_xs)), .agg [.kn (.int .i64 day), .kn (.int .i64 am)]], ⟨VExt.refl _, eDraw.ext ok_xs, VExt.refl _, trivial⟩, by simp [Try.ntmps16], fun good hstep hext => May_ok _ _ _ _ _ _ _ _ _ _ _ _ _ _ _ _ _ _ _ _ _ (by rw [eDraw.dl_length]; exact ok_xs.1) hp good hstep hext⟩

theorem boundsB_iff {amt ab be ex : Int} : boundsB amt ab be ex = true ↔ (1 ≤ amt ∧ amt ≤ 1099511627776 ∧ 0 ≤ ab ∧ ab ≤ 1000 ∧ 0 ≤ be ∧ be ≤ 1000 ∧ 0 ≤ ex ∧ ex ≤ 1048576) := by simp [boundsB]
theorem mul_part {a b : Int} (h0 : 0 ≤ a) (h1 : 0 ≤ b) (h2 : b ≤ 1000) : 0 ≤ a * b ∧ a * b ≤ 1000 * a := by
  refine ⟨Int.mul_nonneg h0 h1, ?_⟩
  have := Int.mul_le_mul_of_nonneg_left h2 h0
  omega
theorem mostI_eq {amt ab : Int} (h1 : 0 ≤ amt) (h2 : amt ≤ 1099511627776) (h3 : 0 ≤ ab) (h4 : ab ≤ 1000) : mostI amt ab = (1000 * amt + amt * ab) / 1000 := by
  have hq := mul_part h1 h3 h4
  have e : amt * (1000 + ab) = 1000 * amt + amt * ab := by rw [Int.mul_add, Int.mul_comm amt 1000]
  have w : ∀ {n : Int}, -9223372036854775808 ≤ n → n ≤ 9223372036854775807 → W n = n := fun h1 h2 => wrap_in h1 h2
  unfold mostI
  rw [w (n := 1000 + ab) (by omega) (by omega), e, w (n := 1000 * amt + amt * ab) (by omega) (by omega), Int.tdiv_eq_ediv_of_nonneg (by omega), w (by omega) (by omega)]
theorem leastI_eq {amt be : Int} (h1 : 0 ≤ amt) (h2 : amt ≤ 1099511627776) (h3 : 0 ≤ be) (h4 : be ≤ 1000) : leastI amt be = (1000 * amt - amt * be + 999) / 1000 := by
  have hq := mul_part h1 h3 h4
  have e : amt * (1000 - be) = 1000 * amt - amt * be := by rw [Int.mul_sub, Int.mul_comm amt 1000]
  have w : ∀ {n : Int}, -9223372036854775808 ≤ n → n ≤ 9223372036854775807 → W n = n := fun h1 h2 => wrap_in h1 h2
  unfold leastI
  rw [w (n := 1000 - be) (by omega) (by omega), e, w (n := 1000 * amt - amt * be) (by omega) (by omega), w (n := 1000 * amt - amt * be + 1000) (by omega) (by omega), w (n := 1000 * amt - amt * be + 1000 - 1) (by omega) (by omega), Int.tdiv_eq_ediv_of_nonneg (by omega), w (by omega) (by omega)]
  congr 1; omega
theorem most_mono {amt ab ab2 : Int} (h1 : 0 ≤ amt) (h2 : amt ≤ 1099511627776) (h3 : 0 ≤ ab) (h4 : ab ≤ ab2) (h5 : ab2 ≤ 1000) : mostI amt ab ≤ mostI amt ab2 := by
  rw [mostI_eq h1 h2 h3 (by omega), mostI_eq h1 h2 (by omega) h5]
  have := Int.mul_le_mul_of_nonneg_left h4 h1
  omega
theorem least_mono {amt be be2 : Int} (h1 : 0 ≤ amt) (h2 : amt ≤ 1099511627776) (h3 : 0 ≤ be) (h4 : be ≤ be2) (h5 : be2 ≤ 1000) : leastI amt be2 ≤ leastI amt be := by
  rw [leastI_eq h1 h2 h3 (by omega), leastI_eq h1 h2 (by omega) h5]
  have := Int.mul_le_mul_of_nonneg_left h4 h1
  omega
theorem getD_app (xs ys : List Draw) {i : Nat} (h : i < xs.length) : (xs ++ ys).getD i eDraw.dflt = xs.getD i eDraw.dflt := by simp [List.getD, List.getElem?_append_left h]
theorem getD_last (xs : List Draw) (d : Draw) : (xs ++ [d]).getD xs.length eDraw.dflt = d := by simp [List.getD]
theorem okAt_app (xs ys : List Draw) {i : Nat} (h : i < xs.length) : okAt (xs ++ ys) i ↔ okAt xs i := by
  unfold okAt
  rw [getD_app xs ys h, getD_app xs ys (show i - 1 < xs.length by omega)]
theorem okAt_last (xs : List Draw) (d : Draw) : okAt (xs ++ [d]) xs.length ↔ (1 ≤ d.amt ∧ d.amt ≤ 1099511627776 ∧ 0 ≤ d.day ∧ d.day ≤ 1048576 ∧ (0 < xs.length → (xs.getD (xs.length - 1) eDraw.dflt).day ≤ d.day)) := by
  unfold okAt
  rw [getD_last]
  constructor
  · rintro ⟨h1, h2, h3, h4, h5⟩
    exact ⟨h1, h2, h3, h4, fun h => by have := h5 h; rwa [getD_app xs _ (show xs.length - 1 < xs.length by omega)] at this⟩
  · rintro ⟨h1, h2, h3, h4, h5⟩
    exact ⟨h1, h2, h3, h4, fun h => by rw [getD_app xs _ (show xs.length - 1 < xs.length by omega)]; exact h5 h⟩
theorem right_snoc (xs : List Draw) (d : Draw) : rightP (xs ++ [d]) ↔ ((∀ i, i < xs.length → okAt xs i) ∧ (1 ≤ d.amt ∧ d.amt ≤ 1099511627776 ∧ 0 ≤ d.day ∧ d.day ≤ 1048576 ∧ (0 < xs.length → (xs.getD (xs.length - 1) eDraw.dflt).day ≤ d.day)) ∧ xs.length + 1 ≤ 4096) := by
  unfold rightP
  constructor
  · rintro ⟨h1, h2⟩
    refine ⟨fun i hi => (okAt_app xs [d] hi).1 (h1 i (by simp; omega)), (okAt_last xs d).1 (h1 _ (by simp)), by simpa using h2⟩
  · rintro ⟨h1, h2, h3⟩
    refine ⟨fun i hi => ?_, by simpa using h3⟩
    by_cases hi2 : i < xs.length
    · exact (okAt_app xs [d] hi2).2 (h1 i hi2)
    · have : i = xs.length := by simp at hi; omega
      subst this
      exact (okAt_last xs d).2 h2
def sumI (xs : List Draw) : Int := (xs.map (·.amt)).sum
theorem sum_fold : ∀ (xs : List Draw) (acc : Int), (∀ x ∈ xs, 0 ≤ x.amt ∧ x.amt ≤ 1099511627776) → 0 ≤ acc → acc + xs.length * 1099511627776 ≤ 4611686018427387904 → xs.foldl (fun a d => W (a + d.amt)) acc = acc + sumI xs ∧ 0 ≤ sumI xs ∧ sumI xs ≤ xs.length * 1099511627776
  | [], acc, _, _, _ => by simp [sumI]
  | x :: r, acc, h, h0, h1 => by
    have hx := h x (by simp)
    simp only [List.length_cons] at h1
    have hw : W (acc + x.amt) = acc + x.amt := wrap_in (by omega) (by omega)
    obtain ⟨i1, i2, i3⟩ := sum_fold r (acc + x.amt) (fun y hy => h y (by simp [hy])) (by omega) (by omega)
    have e : sumI (x :: r) = x.amt + sumI r := by simp [sumI]
    refine ⟨by simp only [List.foldl_cons]; rw [hw, i1, e]; omega, by omega, by simp only [List.length_cons]; omega⟩
theorem right_sum {xs : List Draw} (h : rightP xs) : sumW xs = sumI xs ∧ 0 ≤ sumI xs ∧ sumI xs ≤ 4503599627370496 := by
  have hall : ∀ x ∈ xs, 0 ≤ x.amt ∧ x.amt ≤ 1099511627776 := fun x hx => by
    obtain ⟨i, hi, rfl⟩ := List.getElem_of_mem hx
    have := h.1 i hi
    unfold okAt at this
    rw [getD_at _ hi] at this
    omega
  have hl := h.2
  obtain ⟨h1, h2, h3⟩ := sum_fold xs 0 hall (by omega) (by omega)
  exact ⟨by unfold sumW; rw [h1]; omega, h2, by omega⟩
theorem sumI_snoc (xs : List Draw) (d : Draw) : sumI (xs ++ [d]) = sumI xs + d.amt := by simp [sumI]
theorem may_zero {amt ab be ex : Int} {pa : Bool} {xs : List Draw} {day am : Int} : mayI amt ab be ex pa xs day am = 0 ↔ (boundsB amt ab be ex = true ∧ rightP (xs ++ [⟨day, am⟩]) ∧ day ≤ ex ∧ (pa = true ∨ xs.length = 0) ∧ sumW (xs ++ [⟨day, am⟩]) ≤ mostI amt ab ∧ (pa = true ∨ leastI amt be ≤ am)) := by
  unfold mayI
  cases h1 : boundsB amt ab be ex with
  | false => simp
  | true =>
  cases h2 : bP (rightP (xs ++ [⟨day, am⟩])) with
  | false => simp [bP_not.1 h2]
  | true =>
  have h2' := bP_iff.1 h2
  by_cases h3 : day > ex
  · simp [h3]; intro _ hh; omega
  by_cases h5 : sumW (xs ++ [⟨day, am⟩]) > mostI amt ab
  · have : ¬ sumW (xs ++ [⟨day, am⟩]) ≤ mostI amt ab := by omega
    cases pa <;> by_cases h4 : (xs.length : Int) > 0 <;> simp [h3, h4, h5, this]
    all_goals (cases decide (0 < xs.length) <;> simp)
  have h3' : day ≤ ex := by omega
  have h5' : sumW (xs ++ [⟨day, am⟩]) ≤ mostI amt ab := by omega
  cases pa with
  | true => simp [h3, h5, h2', h3', h5']
  | false =>
    by_cases h4 : (xs.length : Int) > 0
    · have : ¬ xs.length = 0 := by omega
      simp [h3, h4, h5, h2', h3', h5', this]
      have hd : decide (0 < xs.length) = true := decide_eq_true (by omega)
      rw [hd]; simp
    · have h4' : xs.length = 0 := by omega
      by_cases h6 : am < leastI amt be
      · simp [h3, h4, h5, h2', h3', h5', h4', h6]
      · have : leastI amt be ≤ am := by omega
        simp [h3, h4, h5, h2', h3', h5', h4', h6, this]

def AllowParts_pre (amt ab be ex a b day more : Int) (xs : List Draw) : Prop := True
noncomputable def AllowParts_val (amt ab be ex a b day more : Int) (xs : List Draw) : V := .kn (.bool true)
noncomputable def GAllowParts : PSpec
  | [.kn (.int .i64 amt), .kn (.int .i64 ab), .kn (.int .i64 be), .kn (.int .i64 ex), .list s_xs n_xs f_xs, .kn (.int .i64 a), .kn (.int .i64 b), .kn (.int .i64 day), .kn (.int .i64 more)] => some ((s_xs = eDraw.s ∧ eDraw.oks n_xs f_xs) ∧ AllowParts_pre amt ab be ex a b day more (eDraw.dl n_xs f_xs), AllowParts_val amt ab be ex a b day more (eDraw.dl n_xs f_xs))
  | _ => none
theorem AllowParts_res (amt ab be ex a b day more : Int) (xs : List Draw) (good : Cfg → Prop) (R : Option V → Prop) : arun Try.prog (conOf [(9, lift GMost), (10, lift GLeast), (11, lift Grbounds), (8, lift Glbounds), (7, lift Gawake), (17, lift GLeft), (16, lift GMay), (18, lift GDrawn)]) [] good (RetO (R)) 3000 (entry Try.prog 5 [.kn (.int .i64 amt), .kn (.int .i64 ab), .kn (.int .i64 be), .kn (.int .i64 ex), .list eDraw.s xs.length (eDraw.tl xs), .kn (.int .i64 a), .kn (.int .i64 b), .kn (.int .i64 day), .kn (.int .i64 more)]) =
    (awake_pre ∧ lbounds_pre amt ab be ex true ∧ bif decide (↑xs.length > (40 : Int)) then R (some (V.kn (Value.bool true))) else rbounds_pre (Value.string ByteArray.empty) (Value.string ByteArray.empty) (Value.string ByteArray.empty) (Value.string ByteArray.empty) (Value.string ByteArray.empty) (Value.string ByteArray.empty) (Value.string ByteArray.empty) (Value.string ByteArray.empty) (Value.int IntKind.i64 (0 : Int)) (Value.int IntKind.i64 (0 : Int)) (Value.int IntKind.i64 (0 : Int)) (Value.bool false) (Value.slice none (0 : Nat) (0 : Nat)) amt ab be ex true ∧ bif !boundsB amt ab be ex then R (some (V.kn (Value.bool true))) else bif decide (a < (1 : Int)) then R (some (V.kn (Value.bool true))) else bif decide (b < (1 : Int)) then R (some (V.kn (Value.bool true))) else bif decide (a > (549755813888 : Int)) then R (some (V.kn (Value.bool true))) else bif decide (b > (549755813888 : Int)) then R (some (V.kn (Value.bool true))) else bif decide (more < (0 : Int)) then R (some (V.kn (Value.bool true))) else bif decide (more > (1000 : Int)) then R (some (V.kn (Value.bool true))) else Most_pre (Value.string ByteArray.empty) (Value.string ByteArray.empty) (Value.string ByteArray.empty) (Value.string ByteArray.empty) (Value.string ByteArray.empty) (Value.string ByteArray.empty) (Value.string ByteArray.empty) (Value.string ByteArray.empty) (Value.int IntKind.i64 (0 : Int)) (Value.int IntKind.i64 (0 : Int)) (Value.int IntKind.i64 (0 : Int)) (Value.bool false) (Value.slice none (0 : Nat) (0 : Nat)) amt ab be ex true ∧ Most_pre (Value.string ByteArray.empty) (Value.string ByteArray.empty) (Value.string ByteArray.empty) (Value.string ByteArray.empty) (Value.string ByteArray.empty) (Value.string ByteArray.empty) (Value.string ByteArray.empty) (Value.string ByteArray.empty) (Value.int IntKind.i64 (0 : Int)) (Value.int IntKind.i64 (0 : Int)) (Value.int IntKind.i64 (0 : Int)) (Value.bool false) (Value.slice none (0 : Nat) (0 : Nat)) amt (if (1000 : Int) < IntKind.i64.wrap (ab + more) then (1000 : Int) else IntKind.i64.wrap (ab + more)) (if (1000 : Int) < IntKind.i64.wrap (be + more) then (1000 : Int) else IntKind.i64.wrap (be + more)) ex true ∧ Least_pre (Value.string ByteArray.empty) (Value.string ByteArray.empty) (Value.string ByteArray.empty) (Value.string ByteArray.empty) (Value.string ByteArray.empty) (Value.string ByteArray.empty) (Value.string ByteArray.empty) (Value.string ByteArray.empty) (Value.int IntKind.i64 (0 : Int)) (Value.int IntKind.i64 (0 : Int)) (Value.int IntKind.i64 (0 : Int)) (Value.bool false) (Value.slice none (0 : Nat) (0 : Nat)) amt ab be ex true ∧ Least_pre (Value.string ByteArray.empty) (Value.string ByteArray.empty) (Value.string ByteArray.empty) (Value.string ByteArray.empty) (Value.string ByteArray.empty) (Value.string ByteArray.empty) (Value.string ByteArray.empty) (Value.string ByteArray.empty) (Value.int IntKind.i64 (0 : Int)) (Value.int IntKind.i64 (0 : Int)) (Value.int IntKind.i64 (0 : Int)) (Value.bool false) (Value.slice none (0 : Nat) (0 : Nat)) amt (if (1000 : Int) < IntKind.i64.wrap (ab + more) then (1000 : Int) else IntKind.i64.wrap (ab + more)) (if (1000 : Int) < IntKind.i64.wrap (be + more) then (1000 : Int) else IntKind.i64.wrap (be + more)) ex true ∧ bif (bif boundsB amt ab be ex then (0 : Int) else (1 : Int)) != (0 : Int) then R (some (V.kn (Value.bool false))) else bif (bif boundsB amt (if (1000 : Int) < IntKind.i64.wrap (ab + more) then (1000 : Int) else IntKind.i64.wrap (ab + more)) (if (1000 : Int) < IntKind.i64.wrap (be + more) then (1000 : Int) else IntKind.i64.wrap (be + more)) ex then (0 : Int) else (1 : Int)) != (0 : Int) then R (some (V.kn (Value.bool false))) else bif (bif boundsB amt ab be ex then (0 : Int) else (1 : Int)) != (0 : Int) then R (some (V.kn (Value.bool false))) else bif (bif boundsB amt (if (1000 : Int) < IntKind.i64.wrap (ab + more) then (1000 : Int) else IntKind.i64.wrap (ab + more)) (if (1000 : Int) < IntKind.i64.wrap (be + more) then (1000 : Int) else IntKind.i64.wrap (be + more)) ex then (0 : Int) else (1 : Int)) != (0 : Int) then R (some (V.kn (Value.bool false))) else bif decide ((bif boundsB amt (if (1000 : Int) < IntKind.i64.wrap (ab + more) then (1000 : Int) else IntKind.i64.wrap (ab + more)) (if (1000 : Int) < IntKind.i64.wrap (be + more) then (1000 : Int) else IntKind.i64.wrap (be + more)) ex then mostI amt (if (1000 : Int) < IntKind.i64.wrap (ab + more) then (1000 : Int) else IntKind.i64.wrap (ab + more)) else (0 : Int)) < bif boundsB amt ab be ex then mostI amt ab else (0 : Int)) then R (some (V.kn (Value.bool false))) else bif decide ((bif boundsB amt (if (1000 : Int) < IntKind.i64.wrap (ab + more) then (1000 : Int) else IntKind.i64.wrap (ab + more)) (if (1000 : Int) < IntKind.i64.wrap (be + more) then (1000 : Int) else IntKind.i64.wrap (be + more)) ex then leastI amt (if (1000 : Int) < IntKind.i64.wrap (be + more) then (1000 : Int) else IntKind.i64.wrap (be + more)) else (0 : Int)) > bif boundsB amt ab be ex then leastI amt be else (0 : Int)) then R (some (V.kn (Value.bool false))) else (((2 : Nat) = (2 : Nat) ∧ eDraw.oks xs.length (eDraw.tl xs)) ∧ May_pre (Value.string ByteArray.empty) (Value.string ByteArray.empty) (Value.string ByteArray.empty) (Value.string ByteArray.empty) (Value.string ByteArray.empty) (Value.string ByteArray.empty) (Value.string ByteArray.empty) (Value.string ByteArray.empty) (Value.int IntKind.i64 (0 : Int)) (Value.int IntKind.i64 (0 : Int)) (Value.int IntKind.i64 (0 : Int)) (Value.bool false) (Value.slice none (0 : Nat) (0 : Nat)) amt ab be ex true day (IntKind.i64.wrap (a + b)) (eDraw.dl xs.length (eDraw.tl xs))) ∧ bif mayI amt ab be ex true (eDraw.dl xs.length (eDraw.tl xs)) day (IntKind.i64.wrap (a + b)) != (0 : Int) then R (some (V.kn (Value.bool true))) else ((0 : Nat) + xs.length ≤ (9223372036854775807 : Nat) ∧ ((0 : Nat) + xs.length) * (16 : Nat) ≤ (140737488355328 : Nat)) ∧ ((0 : Nat) + xs.length + (1 : Nat) ≤ (9223372036854775807 : Nat) ∧ ((0 : Nat) + xs.length + (1 : Nat)) * (16 : Nat) ≤ (140737488355328 : Nat)) ∧ (((2 : Nat) = (2 : Nat) ∧ eDraw.oks xs.length (eDraw.tl xs)) ∧ May_pre (Value.string ByteArray.empty) (Value.string ByteArray.empty) (Value.string ByteArray.empty) (Value.string ByteArray.empty) (Value.string ByteArray.empty) (Value.string ByteArray.empty) (Value.string ByteArray.empty) (Value.string ByteArray.empty) (Value.int IntKind.i64 (0 : Int)) (Value.int IntKind.i64 (0 : Int)) (Value.int IntKind.i64 (0 : Int)) (Value.bool false) (Value.slice none (0 : Nat) (0 : Nat)) amt ab be ex true day a (eDraw.dl xs.length (eDraw.tl xs))) ∧ bif mayI amt ab be ex true (eDraw.dl xs.length (eDraw.tl xs)) day a != (0 : Int) then R (some (V.kn (Value.bool false))) else (((2 : Nat) = (2 : Nat) ∧ eDraw.oks ((0 : Nat) + xs.length + (1 : Nat)) (catF ((0 : Nat) + xs.length) (catF (0 : Nat) (rowF [] (2 : Nat)) (eDraw.tl xs)) (rowF [V.kn (Value.int IntKind.i64 day), V.kn (Value.int IntKind.i64 a)] (2 : Nat)))) ∧ May_pre (Value.string ByteArray.empty) (Value.string ByteArray.empty) (Value.string ByteArray.empty) (Value.string ByteArray.empty) (Value.string ByteArray.empty) (Value.string ByteArray.empty) (Value.string ByteArray.empty) (Value.string ByteArray.empty) (Value.int IntKind.i64 (0 : Int)) (Value.int IntKind.i64 (0 : Int)) (Value.int IntKind.i64 (0 : Int)) (Value.bool false) (Value.slice none (0 : Nat) (0 : Nat)) amt ab be ex true day b (eDraw.dl ((0 : Nat) + xs.length + (1 : Nat)) (catF ((0 : Nat) + xs.length) (catF (0 : Nat) (rowF [] (2 : Nat)) (eDraw.tl xs)) (rowF [V.kn (Value.int IntKind.i64 day), V.kn (Value.int IntKind.i64 a)] (2 : Nat))))) ∧ bif mayI amt ab be ex true (eDraw.dl ((0 : Nat) + xs.length + (1 : Nat)) (catF ((0 : Nat) + xs.length) (catF (0 : Nat) (rowF [] (2 : Nat)) (eDraw.tl xs)) (rowF [V.kn (Value.int IntKind.i64 day), V.kn (Value.int IntKind.i64 a)] (2 : Nat)))) day b != (0 : Int) then R (some (V.kn (Value.bool false))) else (((2 : Nat) = (2 : Nat) ∧ eDraw.oks xs.length (eDraw.tl xs)) ∧ May_pre (Value.string ByteArray.empty) (Value.string ByteArray.empty) (Value.string ByteArray.empty) (Value.string ByteArray.empty) (Value.string ByteArray.empty) (Value.string ByteArray.empty) (Value.string ByteArray.empty) (Value.string ByteArray.empty) (Value.int IntKind.i64 (0 : Int)) (Value.int IntKind.i64 (0 : Int)) (Value.int IntKind.i64 (0 : Int)) (Value.bool false) (Value.slice none (0 : Nat) (0 : Nat)) amt (if (1000 : Int) < IntKind.i64.wrap (ab + more) then (1000 : Int) else IntKind.i64.wrap (ab + more)) (if (1000 : Int) < IntKind.i64.wrap (be + more) then (1000 : Int) else IntKind.i64.wrap (be + more)) ex true day (IntKind.i64.wrap (a + b)) (eDraw.dl xs.length (eDraw.tl xs))) ∧ bif mayI amt (if (1000 : Int) < IntKind.i64.wrap (ab + more) then (1000 : Int) else IntKind.i64.wrap (ab + more)) (if (1000 : Int) < IntKind.i64.wrap (be + more) then (1000 : Int) else IntKind.i64.wrap (be + more)) ex true (eDraw.dl xs.length (eDraw.tl xs)) day (IntKind.i64.wrap (a + b)) != (0 : Int) then R (some (V.kn (Value.bool false))) else ((0 : Nat) + xs.length ≤ (9223372036854775807 : Nat) ∧ ((0 : Nat) + xs.length) * (16 : Nat) ≤ (140737488355328 : Nat)) ∧ ((0 : Nat) + xs.length + (1 : Nat) ≤ (9223372036854775807 : Nat) ∧ ((0 : Nat) + xs.length + (1 : Nat)) * (16 : Nat) ≤ (140737488355328 : Nat)) ∧ (((2 : Nat) = (2 : Nat) ∧ eDraw.oks ((0 : Nat) + xs.length + (1 : Nat)) (catF ((0 : Nat) + xs.length) (catF (0 : Nat) (rowF [] (2 : Nat)) (eDraw.tl xs)) (rowF [V.kn (Value.int IntKind.i64 day), V.kn (Value.int IntKind.i64 (IntKind.i64.wrap (a + b)))] (2 : Nat)))) ∧ Left_pre (Value.string ByteArray.empty) (Value.string ByteArray.empty) (Value.string ByteArray.empty) (Value.string ByteArray.empty) (Value.string ByteArray.empty) (Value.string ByteArray.empty) (Value.string ByteArray.empty) (Value.string ByteArray.empty) (Value.int IntKind.i64 (0 : Int)) (Value.int IntKind.i64 (0 : Int)) (Value.int IntKind.i64 (0 : Int)) (Value.bool false) (Value.slice none (0 : Nat) (0 : Nat)) amt ab be ex true (eDraw.dl ((0 : Nat) + xs.length + (1 : Nat)) (catF ((0 : Nat) + xs.length) (catF (0 : Nat) (rowF [] (2 : Nat)) (eDraw.tl xs)) (rowF [V.kn (Value.int IntKind.i64 day), V.kn (Value.int IntKind.i64 (IntKind.i64.wrap (a + b)))] (2 : Nat))))) ∧ ((0 : Nat) + ((0 : Nat) + xs.length + (1 : Nat)) ≤ (9223372036854775807 : Nat) ∧ ((0 : Nat) + ((0 : Nat) + xs.length + (1 : Nat))) * (16 : Nat) ≤ (140737488355328 : Nat)) ∧ ((0 : Nat) + ((0 : Nat) + xs.length + (1 : Nat)) + (1 : Nat) ≤ (9223372036854775807 : Nat) ∧ ((0 : Nat) + ((0 : Nat) + xs.length + (1 : Nat)) + (1 : Nat)) * (16 : Nat) ≤ (140737488355328 : Nat)) ∧ (((2 : Nat) = (2 : Nat) ∧ eDraw.oks ((0 : Nat) + ((0 : Nat) + xs.length + (1 : Nat)) + (1 : Nat)) (catF ((0 : Nat) + ((0 : Nat) + xs.length + (1 : Nat))) (catF (0 : Nat) (rowF [] (2 : Nat)) (catF ((0 : Nat) + xs.length) (catF (0 : Nat) (rowF [] (2 : Nat)) (eDraw.tl xs)) (rowF [V.kn (Value.int IntKind.i64 day), V.kn (Value.int IntKind.i64 a)] (2 : Nat)))) (rowF [V.kn (Value.int IntKind.i64 day), V.kn (Value.int IntKind.i64 b)] (2 : Nat)))) ∧ Left_pre (Value.string ByteArray.empty) (Value.string ByteArray.empty) (Value.string ByteArray.empty) (Value.string ByteArray.empty) (Value.string ByteArray.empty) (Value.string ByteArray.empty) (Value.string ByteArray.empty) (Value.string ByteArray.empty) (Value.int IntKind.i64 (0 : Int)) (Value.int IntKind.i64 (0 : Int)) (Value.int IntKind.i64 (0 : Int)) (Value.bool false) (Value.slice none (0 : Nat) (0 : Nat)) amt ab be ex true (eDraw.dl ((0 : Nat) + ((0 : Nat) + xs.length + (1 : Nat)) + (1 : Nat)) (catF ((0 : Nat) + ((0 : Nat) + xs.length + (1 : Nat))) (catF (0 : Nat) (rowF [] (2 : Nat)) (catF ((0 : Nat) + xs.length) (catF (0 : Nat) (rowF [] (2 : Nat)) (eDraw.tl xs)) (rowF [V.kn (Value.int IntKind.i64 day), V.kn (Value.int IntKind.i64 a)] (2 : Nat)))) (rowF [V.kn (Value.int IntKind.i64 day), V.kn (Value.int IntKind.i64 b)] (2 : Nat))))) ∧ bif (bif !boundsB amt ab be ex || !bP (rightP (eDraw.dl ((0 : Nat) + xs.length + (1 : Nat)) (catF ((0 : Nat) + xs.length) (catF (0 : Nat) (rowF [] (2 : Nat)) (eDraw.tl xs)) (rowF [V.kn (Value.int IntKind.i64 day), V.kn (Value.int IntKind.i64 (IntKind.i64.wrap (a + b)))] (2 : Nat))))) then (1 : Int) else (0 : Int)) == (0 : Int) then bif (bif !boundsB amt ab be ex || !bP (rightP (eDraw.dl ((0 : Nat) + ((0 : Nat) + xs.length + (1 : Nat)) + (1 : Nat)) (catF ((0 : Nat) + ((0 : Nat) + xs.length + (1 : Nat))) (catF (0 : Nat) (rowF [] (2 : Nat)) (catF ((0 : Nat) + xs.length) (catF (0 : Nat) (rowF [] (2 : Nat)) (eDraw.tl xs)) (rowF [V.kn (Value.int IntKind.i64 day), V.kn (Value.int IntKind.i64 a)] (2 : Nat)))) (rowF [V.kn (Value.int IntKind.i64 day), V.kn (Value.int IntKind.i64 b)] (2 : Nat))))) then (1 : Int) else (0 : Int)) == (0 : Int) then R (some (V.kn (Value.bool (leftI amt ab be ex (eDraw.dl ((0 : Nat) + xs.length + (1 : Nat)) (catF ((0 : Nat) + xs.length) (catF (0 : Nat) (rowF [] (2 : Nat)) (eDraw.tl xs)) (rowF [V.kn (Value.int IntKind.i64 day), V.kn (Value.int IntKind.i64 (IntKind.i64.wrap (a + b)))] (2 : Nat)))) == leftI amt ab be ex (eDraw.dl ((0 : Nat) + ((0 : Nat) + xs.length + (1 : Nat)) + (1 : Nat)) (catF ((0 : Nat) + ((0 : Nat) + xs.length + (1 : Nat))) (catF (0 : Nat) (rowF [] (2 : Nat)) (catF ((0 : Nat) + xs.length) (catF (0 : Nat) (rowF [] (2 : Nat)) (eDraw.tl xs)) (rowF [V.kn (Value.int IntKind.i64 day), V.kn (Value.int IntKind.i64 a)] (2 : Nat)))) (rowF [V.kn (Value.int IntKind.i64 day), V.kn (Value.int IntKind.i64 b)] (2 : Nat)))))))) else R (some (V.kn (Value.bool false))) else R (some (V.kn (Value.bool false)))) := by kernel_rfl
theorem AllowParts_ok (amt ab be ex a b day more : Int) (xs : List Draw) (len_xs : xs.length ≤ maxLen) (hp : AllowParts_pre amt ab be ex a b day more xs) (good : Cfg → Prop) (hstep : ∀ c, arun Try.prog (conOf [(9, lift GMost), (10, lift GLeast), (11, lift Grbounds), (8, lift Glbounds), (7, lift Gawake), (17, lift GLeft), (16, lift GMay), (18, lift GDrawn)]) [] good (RetO (Tells (AllowParts_val amt ab be ex a b day more xs))) 3000 (c) → good c) (hext : ∀ c c', CfgExt c c' → good c' → good c) : arun Try.prog (conOf [(9, lift GMost), (10, lift GLeast), (11, lift Grbounds), (8, lift Glbounds), (7, lift Gawake), (17, lift GLeft), (16, lift GMay), (18, lift GDrawn)]) [] good (RetO (Tells (AllowParts_val amt ab be ex a b day more xs))) 3000 (entry Try.prog 5 [.kn (.int .i64 amt), .kn (.int .i64 ab), .kn (.int .i64 be), .kn (.int .i64 ex), .list eDraw.s xs.length (eDraw.tl xs), .kn (.int .i64 a), .kn (.int .i64 b), .kn (.int .i64 day), .kn (.int .i64 more)]) := by
  rw [AllowParts_res]
  have hm : maxLen = 9223372036854775807 := rfl
  refine ⟨trivial, trivial, cond_intro (fun _ => tell rfl) (fun h1 => ⟨trivial, cond_intro (fun _ => tell rfl) (fun hB => cond_intro (fun _ => tell rfl) (fun h2 => cond_intro (fun _ => tell rfl) (fun h3 => cond_intro (fun _ => tell rfl) (fun h4 => cond_intro (fun _ => tell rfl) (fun h5 => cond_intro (fun _ => tell rfl) (fun h6 => cond_intro (fun _ => tell rfl) (fun h7 => ⟨trivial, trivial, trivial, trivial, ?_⟩)))))))⟩)⟩
  simp only [Bool.not_eq_false', decide_eq_false_iff_not] at h1 hB h2 h3 h4 h5 h6 h7
  obtain ⟨b1, b2, b3, b4, b5, b6, b7, b8⟩ := boundsB_iff.1 hB
  rw [wrap_in (n := ab + more) (by omega) (by omega), wrap_in (n := be + more) (by omega) (by omega), wrap_in (n := a + b) (by omega) (by omega)]
  generalize hab2 : (if (1000 : Int) < ab + more then (1000 : Int) else ab + more) = ab2
  generalize hbe2 : (if (1000 : Int) < be + more then (1000 : Int) else be + more) = be2
  have r1 : ab ≤ ab2 ∧ ab2 ≤ 1000 := by rw [← hab2]; split <;> omega
  have r2 : be ≤ be2 ∧ be2 ≤ 1000 := by rw [← hbe2]; split <;> omega
  have hB2 : boundsB amt ab2 be2 ex = true := boundsB_iff.2 ⟨b1, b2, by omega, r1.2, by omega, r2.2, b7, b8⟩
  have m1 := most_mono (amt := amt) (by omega) b2 b3 r1.1 r1.2
  have m2 := least_mono (amt := amt) (by omega) b2 b5 r2.1 r2.2
  have is1 : eDraw.is (0 + xs.length) (catF 0 (rowF [] 2) (eDraw.tl xs)) xs := eDraw.is_app0 (eDraw.is_tl xs)
  have is2 : ∀ am : Int, eDraw.is (0 + xs.length + 1) (catF (0 + xs.length) (catF 0 (rowF [] 2) (eDraw.tl xs)) (rowF [V.kn (Value.int IntKind.i64 day), V.kn (Value.int IntKind.i64 am)] 2)) (xs ++ [⟨day, am⟩]) := fun am => eDraw.is_app is1 (eDraw.is_one _ rfl)
  have is3 : eDraw.is (0 + (0 + xs.length + 1) + 1) (catF (0 + (0 + xs.length + 1)) (catF 0 (rowF [] 2) (catF (0 + xs.length) (catF 0 (rowF [] 2) (eDraw.tl xs)) (rowF [V.kn (Value.int IntKind.i64 day), V.kn (Value.int IntKind.i64 a)] 2))) (rowF [V.kn (Value.int IntKind.i64 day), V.kn (Value.int IntKind.i64 b)] 2)) ((xs ++ [⟨day, a⟩]) ++ [⟨day, b⟩]) := eDraw.is_app (eDraw.is_app0 (is2 a)) (eDraw.is_one _ rfl)
  have ok0 : True ∧ eDraw.oks xs.length (eDraw.tl xs) := ⟨trivial, eDraw.oks_tl len_xs⟩
  have ok2 := fun am => eDraw.is_oks (is2 am) (by omega)
  have ok3 := eDraw.is_oks is3 (by omega)
  have pre0 : xs.length ≤ 100000 := by omega
  have pre1 : ∀ am : Int, (xs ++ [(⟨day, am⟩ : Draw)]).length ≤ 100000 := fun am => by simp; omega
  simp only [eDraw.dl_tl, eDraw.is_dl (is2 a), eDraw.is_dl (is2 (a + b)), eDraw.is_dl is3, hB, hB2, cond_true, bne_self_eq_false, cond_false, Bool.not_true, Bool.false_or]
  refine cond_false' (decide_eq_false (by omega)) (cond_false' (decide_eq_false (by omega)) ⟨⟨ok0, pre0⟩, cond_intro (fun _ => tell rfl) (fun hmay => ?_)⟩)
  have h0 : mayI amt ab be ex true xs day (a + b) = 0 := by simpa using hmay
  obtain ⟨-, q1, q2, -, q3, -⟩ := may_zero.1 h0
  have q1' := (right_snoc _ _).1 q1
  obtain ⟨p1, ⟨p2, p3, p4, p5, p6⟩, p7⟩ := q1'
  simp only at p2 p3 p4 p5 p6
  have hra : rightP (xs ++ [⟨day, a⟩]) := (right_snoc _ _).2 ⟨p1, ⟨by simp only; omega, by simp only; omega, p4, p5, p6⟩, p7⟩
  have hrab : rightP ((xs ++ [⟨day, a⟩]) ++ [⟨day, b⟩]) := (right_snoc _ _).2 ⟨hra.1, ⟨by simp only; omega, by simp only; omega, p4, p5, fun _ => by
    have e : (xs ++ [(⟨day, a⟩ : Draw)]).length - 1 = xs.length := by simp
    rw [e, getD_last]
    exact Int.le_refl _⟩, by simp; omega⟩
  have s1 := right_sum q1
  have s2 := right_sum hra
  have s3 := right_sum hrab
  rw [sumI_snoc] at s1 s2 s3
  rw [sumI_snoc] at s3
  simp only at s1 s2 s3
  have z1 : mayI amt ab be ex true xs day a = 0 := may_zero.2 ⟨hB, hra, q2, .inl rfl, by omega, .inl rfl⟩
  have z2 : mayI amt ab be ex true (xs ++ [⟨day, a⟩]) day b = 0 := may_zero.2 ⟨hB, hrab, q2, .inl rfl, by omega, .inl rfl⟩
  have z3 : mayI amt ab2 be2 ex true xs day (a + b) = 0 := may_zero.2 ⟨hB2, q1, q2, .inl rfl, by omega, .inl rfl⟩
  rw [z1, z2, z3, bP_true q1, bP_true hrab]
  have e4 : leftI amt ab be ex (xs ++ [⟨day, a + b⟩]) = leftI amt ab be ex ((xs ++ [⟨day, a⟩]) ++ [⟨day, b⟩]) := by
    have e5 : sumW (xs ++ [⟨day, a + b⟩]) = sumW ((xs ++ [⟨day, a⟩]) ++ [⟨day, b⟩]) := by rw [s1.1, s3.1]; omega
    unfold leftI
    rw [bP_true q1, bP_true hrab, e5]
  rw [e4]
  simp only [bne_self_eq_false, cond_false, Bool.not_true, beq_self_eq_true, cond_true]
  exact ⟨⟨by omega, by omega⟩, ⟨by omega, by omega⟩, ⟨ok0, pre0⟩, ⟨⟨trivial, ok2 a⟩, pre1 a⟩, ⟨ok0, pre0⟩, ⟨by omega, by omega⟩, ⟨by omega, by omega⟩, ⟨⟨trivial, ok2 (a + b)⟩, trivial⟩, ⟨by omega, by omega⟩, ⟨by omega, by omega⟩, ⟨⟨trivial, ok3⟩, trivial⟩, tell rfl⟩
/-- data that comes in -/
theorem eDraw_vok {u : V} (h : VOK (.sl [.int .i64, .int .i64]) u) : ∃ xs : List Draw, xs.length ≤ maxLen ∧ VExt u (.list eDraw.s xs.length (eDraw.tl xs)) ∧ ∀ x ∈ xs, eDraw_wf x := by
  refine eDraw.vok h rfl fun c hl hh => ?_
  match c, hl with
  | [c0, c1], _ =>
    have h0 := hh 0 _ c0 rfl rfl
    have h1 := hh 1 _ c1 rfl rfl
    obtain ⟨n0, rfl, w0⟩ := vok_int h0
    obtain ⟨n1, rfl, w1⟩ := vok_int h1
    exact ⟨⟨n0, n1⟩, ⟨VExt.refl _, VExt.refl _, trivial⟩, ⟨wf_i64 w0, wf_i64 w1⟩⟩

theorem AllowParts_walk (W : World) {u0 : V} {v0 : Value} (o0 : VOK (.int .i64) u0) (e0 : RV (whole W) sig0 u0 v0) {u1 : V} {v1 : Value} (o1 : VOK (.int .i64) u1) (e1 : RV (whole W) sig0 u1 v1) {u2 : V} {v2 : Value} (o2 : VOK (.int .i64) u2) (e2 : RV (whole W) sig0 u2 v2) {u3 : V} {v3 : Value} (o3 : VOK (.int .i64) u3) (e3 : RV (whole W) sig0 u3 v3) {u4 : V} {v4 : Value} (o4 : VOK (.sl [.int .i64, .int .i64]) u4) (e4 : RV (whole W) sig0 u4 v4) {u5 : V} {v5 : Value} (o5 : VOK (.int .i64) u5) (e5 : RV (whole W) sig0 u5 v5) {u6 : V} {v6 : Value} (o6 : VOK (.int .i64) u6) (e6 : RV (whole W) sig0 u6 v6) {u7 : V} {v7 : Value} (o7 : VOK (.int .i64) u7) (e7 : RV (whole W) sig0 u7 v7) {u8 : V} {v8 : Value} (o8 : VOK (.int .i64) u8) (e8 : RV (whole W) sig0 u8 v8) : Calls Try.prog 5 #[v0, v1, v2, v3, v4, v5, v6, v7, v8] W fun e w' => e = .returned (.bool true) ∧ Below W.heap.size W w' := by
  obtain ⟨n0, rfl, w0⟩ := vok_int o0
  obtain ⟨n1, rfl, w1⟩ := vok_int o1
  obtain ⟨n2, rfl, w2⟩ := vok_int o2
  obtain ⟨n3, rfl, w3⟩ := vok_int o3
  obtain ⟨x4, l4, x4e, w4⟩ := eDraw_vok o4
  obtain ⟨n5, rfl, w5⟩ := vok_int o5
  obtain ⟨n6, rfl, w6⟩ := vok_int o6
  obtain ⟨n7, rfl, w7⟩ := vok_int o7
  obtain ⟨n8, rfl, w8⟩ := vok_int o8
  exact law_calls2 (con := conOf [(9, lift GMost), (10, lift GLeast), (11, lift Grbounds), (8, lift Glbounds), (7, lift Gawake), (17, lift GLeft), (16, lift GMay), (18, lift GDrawn)]) (hs := []) 3000 Try.func5 rfl (by kernel_rfl) (conCons Most_con (conCons Least_con (conCons rbounds_con (conCons lbounds_con (conCons awake_con (conCons Left_con (conCons May_con (conCons Drawn_con conNil)))))))) (args := [_, _, _, _, _, _, _, _, _]) (args' := [.kn (.int .i64 n0), .kn (.int .i64 n1), .kn (.int .i64 n2), .kn (.int .i64 n3), .list eDraw.s x4.length (eDraw.tl x4), .kn (.int .i64 n5), .kn (.int .i64 n6), .kn (.int .i64 n7), .kn (.int .i64 n8)]) ⟨e0, e1, e2, e3, e4, e5, e6, e7, e8, trivial⟩ ⟨VExt.refl _, VExt.refl _, VExt.refl _, VExt.refl _, x4e, VExt.refl _, VExt.refl _, VExt.refl _, VExt.refl _, trivial⟩ (by simp [Try.ntmps5]) fun good hstep hext => AllowParts_ok n0 n1 n2 n3 n5 n6 n7 n8 x4 l4 (trivial) good hstep hext

def AllowNever_pre (amt ab be ex : Int) (pa : Bool) (xs : List Draw) : Prop := True
noncomputable def AllowNever_val (amt ab be ex : Int) (pa : Bool) (xs : List Draw) : V := .kn (.bool true)
noncomputable def GAllowNever : PSpec
  | [.kn (.int .i64 amt), .kn (.int .i64 ab), .kn (.int .i64 be), .kn (.int .i64 ex), .kn (.bool pa), .list s_xs n_xs f_xs] => some ((s_xs = eDraw.s ∧ eDraw.oks n_xs f_xs) ∧ AllowNever_pre amt ab be ex pa (eDraw.dl n_xs f_xs), AllowNever_val amt ab be ex pa (eDraw.dl n_xs f_xs))
  | _ => none
theorem AllowNever_res (amt ab be ex : Int) (pa : Bool) (xs : List Draw) (good : Cfg → Prop) (R : Option V → Prop) : arun Try.prog (conOf [(9, lift GMost), (10, lift GLeast), (11, lift Grbounds), (8, lift Glbounds), (7, lift Gawake), (17, lift GLeft), (16, lift GMay), (18, lift GDrawn)]) [(6, 8, [3, 4, 5, 13, 14, 15], [(0, 13, []), (0, 14, [])]), (6, 21, [3, 4, 14, 16, 20, 24], [(0, 14, [])])] good (RetO (R)) 3000 (entry Try.prog 6 [.kn (.int .i64 amt), .kn (.int .i64 ab), .kn (.int .i64 be), .kn (.int .i64 ex), .kn (.bool pa), .list eDraw.s xs.length (eDraw.tl xs)]) =
    (awake_pre ∧ bif decide (↑xs.length > (60 : Int)) then R (some (V.kn (Value.bool true))) else lbounds_pre amt ab be ex pa ∧ good { fr := { fn := (6 : Nat), nt := (140 : Nat), t := [((3 : Nat), V.kn (Value.int IntKind.i64 ex)), ((4 : Nat), V.kn (Value.bool pa)), ((5 : Nat), V.list (2 : Nat) xs.length (eDraw.tl xs)), ((13 : Nat), V.ptr (0 : Nat) (0 : Nat)), ((14 : Nat), V.sl (1 : Nat)), ((15 : Nat), V.kn (Value.int IntKind.i64 (0 : Int)))], k := loopK Try.prog (6 : Nat) (8 : Nat) }, cs := [], h := [O.cells [V.kn (Value.string ByteArray.empty), V.kn (Value.string ByteArray.empty), V.kn (Value.string ByteArray.empty), V.kn (Value.string ByteArray.empty), V.kn (Value.string ByteArray.empty), V.kn (Value.string ByteArray.empty), V.kn (Value.string ByteArray.empty), V.kn (Value.string ByteArray.empty), V.kn (Value.int IntKind.i64 amt), V.kn (Value.int IntKind.i64 ab), V.kn (Value.int IntKind.i64 be), V.kn (Value.int IntKind.i64 (0 : Int)), V.kn (Value.int IntKind.i64 ex), V.kn (Value.int IntKind.i64 (0 : Int)), V.kn (Value.int IntKind.i64 (0 : Int)), V.kn (Value.bool pa), V.kn (Value.bool false), V.kn (Value.slice none (0 : Nat) (0 : Nat))], O.row (38 : Nat) (2 : Nat) (0 : Nat) (rowF [] (2 : Nat)) true] }) := by kernel_rfl
@[reducible] noncomputable def AllowNever_c8 (amt ab be ex : Int) (pa : Bool) (xs : List Draw) (had : List Draw) (i : Int) : Cfg := ⟨⟨6, 140, [(3, .kn (.int .i64 ex)), (4, .kn (.bool pa)), (5, .list eDraw.s xs.length (eDraw.tl xs)), (13, .ptr 0 0), (14, .sl 1), (15, .kn (.int .i64 i))], loopK Try.prog 6 8⟩, [], [.cells [.kn (.string ByteArray.empty), .kn (.string ByteArray.empty), .kn (.string ByteArray.empty), .kn (.string ByteArray.empty), .kn (.string ByteArray.empty), .kn (.string ByteArray.empty), .kn (.string ByteArray.empty), .kn (.string ByteArray.empty), .kn (.int .i64 amt), .kn (.int .i64 ab), .kn (.int .i64 be), .kn (.int .i64 0), .kn (.int .i64 ex), .kn (.int .i64 0), .kn (.int .i64 0), .kn (.bool pa), .kn (.bool false), .kn (.slice none 0 0)], .row 38 2 had.length (eDraw.tl had) true]⟩
theorem AllowNever_l8 (amt ab be ex : Int) (pa : Bool) (xs : List Draw) (had : List Draw) (i : Int) (good : Cfg → Prop) (R : Option V → Prop) : arun Try.prog (conOf [(9, lift GMost), (10, lift GLeast), (11, lift Grbounds), (8, lift Glbounds), (7, lift Gawake), (17, lift GLeft), (16, lift GMay), (18, lift GDrawn)]) [(6, 8, [3, 4, 5, 13, 14, 15], [(0, 13, []), (0, 14, [])]), (6, 21, [3, 4, 14, 16, 20, 24], [(0, 14, [])])] good (RetO (R)) 3000 (AllowNever_c8 amt ab be ex pa xs had i) =
    (bif decide (i < ↑xs.length) then ((0 : Int) ≤ i ∧ i < ↑xs.length) ∧ (((2 : Nat) = (2 : Nat) ∧ eDraw.oks had.length (eDraw.tl had)) ∧ May_pre (Value.string ByteArray.empty) (Value.string ByteArray.empty) (Value.string ByteArray.empty) (Value.string ByteArray.empty) (Value.string ByteArray.empty) (Value.string ByteArray.empty) (Value.string ByteArray.empty) (Value.string ByteArray.empty) (Value.int IntKind.i64 (0 : Int)) (Value.int IntKind.i64 (0 : Int)) (Value.int IntKind.i64 (0 : Int)) (Value.bool false) (Value.slice none (0 : Nat) (0 : Nat)) amt ab be ex pa (xs.getD i.toNat eDraw.dflt).day (xs.getD i.toNat eDraw.dflt).amt (eDraw.dl had.length (eDraw.tl had))) ∧ bif mayI amt ab be ex pa (eDraw.dl had.length (eDraw.tl had)) (xs.getD i.toNat eDraw.dflt).day (xs.getD i.toNat eDraw.dflt).amt == (0 : Int) then ((0 : Int) ≤ i ∧ i < ↑xs.length) ∧ (had.length + (1 : Nat) ≤ (9223372036854775807 : Nat) ∧ (had.length + (1 : Nat)) * (16 : Nat) ≤ (140737488355328 : Nat)) ∧ good { fr := { fn := (6 : Nat), nt := (140 : Nat), t := [((3 : Nat), V.kn (Value.int IntKind.i64 ex)), ((4 : Nat), V.kn (Value.bool pa)), ((5 : Nat), V.list (2 : Nat) xs.length (eDraw.tl xs)), ((13 : Nat), V.ptr (0 : Nat) (0 : Nat)), ((14 : Nat), V.sl (1 : Nat)), ((15 : Nat), V.kn (Value.int IntKind.i64 (IntKind.i64.wrap (i + (1 : Int)))))], k := loopK Try.prog (6 : Nat) (8 : Nat) }, cs := [], h := [O.cells [V.kn (Value.string ByteArray.empty), V.kn (Value.string ByteArray.empty), V.kn (Value.string ByteArray.empty), V.kn (Value.string ByteArray.empty), V.kn (Value.string ByteArray.empty), V.kn (Value.string ByteArray.empty), V.kn (Value.string ByteArray.empty), V.kn (Value.string ByteArray.empty), V.kn (Value.int IntKind.i64 amt), V.kn (Value.int IntKind.i64 ab), V.kn (Value.int IntKind.i64 be), V.kn (Value.int IntKind.i64 (0 : Int)), V.kn (Value.int IntKind.i64 ex), V.kn (Value.int IntKind.i64 (0 : Int)), V.kn (Value.int IntKind.i64 (0 : Int)), V.kn (Value.bool pa), V.kn (Value.bool false), V.kn (Value.slice none (0 : Nat) (0 : Nat))], O.row (38 : Nat) (2 : Nat) (had.length + (1 : Nat)) (catF had.length (eDraw.tl had) (rowF [V.kn (Value.int IntKind.i64 (xs.getD i.toNat eDraw.dflt).day), V.kn (Value.int IntKind.i64 (xs.getD i.toNat eDraw.dflt).amt)] (2 : Nat))) true] } else good { fr := { fn := (6 : Nat), nt := (140 : Nat), t := [((3 : Nat), V.kn (Value.int IntKind.i64 ex)), ((4 : Nat), V.kn (Value.bool pa)), ((5 : Nat), V.list (2 : Nat) xs.length (eDraw.tl xs)), ((13 : Nat), V.ptr (0 : Nat) (0 : Nat)), ((14 : Nat), V.sl (1 : Nat)), ((15 : Nat), V.kn (Value.int IntKind.i64 (IntKind.i64.wrap (i + (1 : Int)))))], k := loopK Try.prog (6 : Nat) (8 : Nat) }, cs := [], h := [O.cells [V.kn (Value.string ByteArray.empty), V.kn (Value.string ByteArray.empty), V.kn (Value.string ByteArray.empty), V.kn (Value.string ByteArray.empty), V.kn (Value.string ByteArray.empty), V.kn (Value.string ByteArray.empty), V.kn (Value.string ByteArray.empty), V.kn (Value.string ByteArray.empty), V.kn (Value.int IntKind.i64 amt), V.kn (Value.int IntKind.i64 ab), V.kn (Value.int IntKind.i64 be), V.kn (Value.int IntKind.i64 (0 : Int)), V.kn (Value.int IntKind.i64 ex), V.kn (Value.int IntKind.i64 (0 : Int)), V.kn (Value.int IntKind.i64 (0 : Int)), V.kn (Value.bool pa), V.kn (Value.bool false), V.kn (Value.slice none (0 : Nat) (0 : Nat))], O.row (38 : Nat) (2 : Nat) had.length (eDraw.tl had) true] } else (((2 : Nat) = (2 : Nat) ∧ eDraw.oks had.length (eDraw.tl had)) ∧ Drawn_pre (eDraw.dl had.length (eDraw.tl had))) ∧ rbounds_pre (Value.string ByteArray.empty) (Value.string ByteArray.empty) (Value.string ByteArray.empty) (Value.string ByteArray.empty) (Value.string ByteArray.empty) (Value.string ByteArray.empty) (Value.string ByteArray.empty) (Value.string ByteArray.empty) (Value.int IntKind.i64 (0 : Int)) (Value.int IntKind.i64 (0 : Int)) (Value.int IntKind.i64 (0 : Int)) (Value.bool false) (Value.slice none (0 : Nat) (0 : Nat)) amt ab be ex pa ∧ bif !boundsB amt ab be ex then R (some (V.kn (Value.bool (↑had.length == (0 : Int))))) else Most_pre (Value.string ByteArray.empty) (Value.string ByteArray.empty) (Value.string ByteArray.empty) (Value.string ByteArray.empty) (Value.string ByteArray.empty) (Value.string ByteArray.empty) (Value.string ByteArray.empty) (Value.string ByteArray.empty) (Value.int IntKind.i64 (0 : Int)) (Value.int IntKind.i64 (0 : Int)) (Value.int IntKind.i64 (0 : Int)) (Value.bool false) (Value.slice none (0 : Nat) (0 : Nat)) amt ab be ex pa ∧ Least_pre (Value.string ByteArray.empty) (Value.string ByteArray.empty) (Value.string ByteArray.empty) (Value.string ByteArray.empty) (Value.string ByteArray.empty) (Value.string ByteArray.empty) (Value.string ByteArray.empty) (Value.string ByteArray.empty) (Value.int IntKind.i64 (0 : Int)) (Value.int IntKind.i64 (0 : Int)) (Value.int IntKind.i64 (0 : Int)) (Value.bool false) (Value.slice none (0 : Nat) (0 : Nat)) amt ab be ex pa ∧ (((2 : Nat) = (2 : Nat) ∧ eDraw.oks had.length (eDraw.tl had)) ∧ Left_pre (Value.string ByteArray.empty) (Value.string ByteArray.empty) (Value.string ByteArray.empty) (Value.string ByteArray.empty) (Value.string ByteArray.empty) (Value.string ByteArray.empty) (Value.string ByteArray.empty) (Value.string ByteArray.empty) (Value.int IntKind.i64 (0 : Int)) (Value.int IntKind.i64 (0 : Int)) (Value.int IntKind.i64 (0 : Int)) (Value.bool false) (Value.slice none (0 : Nat) (0 : Nat)) amt ab be ex pa (eDraw.dl had.length (eDraw.tl had))) ∧ bif !bP (rightP (eDraw.dl had.length (eDraw.tl had))) then R (some (V.kn (Value.bool false))) else bif (bif boundsB amt ab be ex then (0 : Int) else (1 : Int)) != (0 : Int) then R (some (V.kn (Value.bool false))) else bif (bif boundsB amt ab be ex then (0 : Int) else (1 : Int)) != (0 : Int) then R (some (V.kn (Value.bool false))) else bif (bif !boundsB amt ab be ex || !bP (rightP (eDraw.dl had.length (eDraw.tl had))) then (1 : Int) else (0 : Int)) != (0 : Int) then R (some (V.kn (Value.bool false))) else bif decide ((bif bP (rightP (eDraw.dl had.length (eDraw.tl had))) then sumW (eDraw.dl had.length (eDraw.tl had)) else (0 : Int)) > bif boundsB amt ab be ex then mostI amt ab else (0 : Int)) then R (some (V.kn (Value.bool false))) else bif leftI amt ab be ex (eDraw.dl had.length (eDraw.tl had)) != IntKind.i64.wrap ((bif boundsB amt ab be ex then mostI amt ab else (0 : Int)) - bif bP (rightP (eDraw.dl had.length (eDraw.tl had))) then sumW (eDraw.dl had.length (eDraw.tl had)) else (0 : Int)) then R (some (V.kn (Value.bool false))) else good { fr := { fn := (6 : Nat), nt := (140 : Nat), t := [((3 : Nat), V.kn (Value.int IntKind.i64 ex)), ((4 : Nat), V.kn (Value.bool pa)), ((14 : Nat), V.sl (0 : Nat)), ((16 : Nat), V.kn (Value.int IntKind.i64 (bif bP (rightP (eDraw.dl had.length (eDraw.tl had))) then sumW (eDraw.dl had.length (eDraw.tl had)) else (0 : Int)))), ((20 : Nat), V.kn (Value.int IntKind.i64 (bif boundsB amt ab be ex then leastI amt be else (0 : Int)))), ((24 : Nat), V.kn (Value.int IntKind.i64 (0 : Int)))], k := loopK Try.prog (6 : Nat) (21 : Nat) }, cs := [], h := [O.row (38 : Nat) (2 : Nat) had.length (eDraw.tl had) true] }) := by kernel_rfl
@[reducible] noncomputable def AllowNever_c21 (amt ab be ex : Int) (pa : Bool) (xs : List Draw) (had : List Draw) (n least i : Int) : Cfg := ⟨⟨6, 140, [(3, .kn (.int .i64 ex)), (4, .kn (.bool pa)), (14, .sl 0), (16, .kn (.int .i64 n)), (20, .kn (.int .i64 least)), (24, .kn (.int .i64 i))], loopK Try.prog 6 21⟩, [], [.row 38 2 had.length (eDraw.tl had) true]⟩
theorem AllowNever_l21 (amt ab be ex : Int) (pa : Bool) (xs : List Draw) (had : List Draw) (n least i : Int) (good : Cfg → Prop) (R : Option V → Prop) : arun Try.prog (conOf [(9, lift GMost), (10, lift GLeast), (11, lift Grbounds), (8, lift Glbounds), (7, lift Gawake), (17, lift GLeft), (16, lift GMay), (18, lift GDrawn)]) [(6, 8, [3, 4, 5, 13, 14, 15], [(0, 13, []), (0, 14, [])]), (6, 21, [3, 4, 14, 16, 20, 24], [(0, 14, [])])] good (RetO (R)) 3000 (AllowNever_c21 amt ab be ex pa xs had n least i) =
    (bif decide (i < ↑had.length) then ((0 : Int) ≤ i ∧ i < ↑had.length) ∧ i.toNat < had.length ∧ bif decide ((had.getD i.toNat eDraw.dflt).day > ex) then R (some (V.kn (Value.bool false))) else good { fr := { fn := (6 : Nat), nt := (140 : Nat), t := [((3 : Nat), V.kn (Value.int IntKind.i64 ex)), ((4 : Nat), V.kn (Value.bool pa)), ((14 : Nat), V.sl (0 : Nat)), ((16 : Nat), V.kn (Value.int IntKind.i64 n)), ((20 : Nat), V.kn (Value.int IntKind.i64 least)), ((24 : Nat), V.kn (Value.int IntKind.i64 (IntKind.i64.wrap (i + (1 : Int)))))], k := loopK Try.prog (6 : Nat) (21 : Nat) }, cs := [], h := [O.row (38 : Nat) (2 : Nat) had.length (eDraw.tl had) true] } else bif pa then R (some (V.kn (Value.bool true))) else bif decide (↑had.length ≤ (1 : Int)) then bif ↑had.length == (0 : Int) then R (some (V.kn (Value.bool true))) else R (some (V.kn (Value.bool (decide (n ≥ least))))) else R (some (V.kn (Value.bool false)))) := by kernel_rfl
theorem AllowNever_ok (amt ab be ex : Int) (pa : Bool) (xs : List Draw) (len_xs : xs.length ≤ maxLen) (hp : AllowNever_pre amt ab be ex pa xs) (good : Cfg → Prop) (hstep : ∀ c, arun Try.prog (conOf [(9, lift GMost), (10, lift GLeast), (11, lift Grbounds), (8, lift Glbounds), (7, lift Gawake), (17, lift GLeft), (16, lift GMay), (18, lift GDrawn)]) [(6, 8, [3, 4, 5, 13, 14, 15], [(0, 13, []), (0, 14, [])]), (6, 21, [3, 4, 14, 16, 20, 24], [(0, 14, [])])] good (RetO (Tells (AllowNever_val amt ab be ex pa xs))) 3000 (c) → good c) (hext : ∀ c c', CfgExt c c' → good c' → good c) : arun Try.prog (conOf [(9, lift GMost), (10, lift GLeast), (11, lift Grbounds), (8, lift Glbounds), (7, lift Gawake), (17, lift GLeft), (16, lift GMay), (18, lift GDrawn)]) [(6, 8, [3, 4, 5, 13, 14, 15], [(0, 13, []), (0, 14, [])]), (6, 21, [3, 4, 14, 16, 20, 24], [(0, 14, [])])] good (RetO (Tells (AllowNever_val amt ab be ex pa xs))) 3000 (entry Try.prog 6 [.kn (.int .i64 amt), .kn (.int .i64 ab), .kn (.int .i64 be), .kn (.int .i64 ex), .kn (.bool pa), .list eDraw.s xs.length (eDraw.tl xs)]) := by
  rw [AllowNever_res]
  have hm : maxLen = 9223372036854775807 := rfl
  refine ⟨trivial, cond_intro (fun _ => tell rfl) (fun h1 => ⟨trivial, ?_⟩)⟩
  simp only [decide_eq_false_iff_not] at h1
  have hmost : boundsB amt ab be ex = true → 0 ≤ mostI amt ab ∧ mostI amt ab ≤ 4398046511104 := fun hB => by
    obtain ⟨b1, b2, b3, b4, b5, b6, b7, b8⟩ := boundsB_iff.1 hB
    have := mul_part (a := amt) (by omega) b3 b4
    rw [mostI_eq (by omega) b2 b3 b4]
    omega
  refine hext _ (AllowNever_c8 amt ab be ex pa xs [] 0) ⟨rfl, rfl, rfl, rfl, ⟨⟨rfl, VExt.refl _⟩, ⟨rfl, VExt.refl _⟩, ⟨rfl, VExt.refl _⟩, ⟨rfl, VExt.refl _⟩, ⟨rfl, VExt.refl _⟩, ⟨rfl, VExt.refl _⟩, trivial⟩, ⟨OExt.refl _, eDraw.oext (eDraw.is_nil _), trivial⟩⟩ ?_
  refine foreach xs (fun i (had : List Draw) => had.length ≤ i ∧ (boundsB amt ab be ex = false → had = []) ∧ rightP had ∧ (boundsB amt ab be ex = true → sumW had ≤ mostI amt ab) ∧ (∀ x ∈ had, x.day ≤ ex) ∧ (pa = true ∨ had.length ≤ 1) ∧ (pa = true ∨ had = [] ∨ leastI amt be ≤ sumW had)) (fun i had => AllowNever_c8 amt ab be ex pa xs had i) (fun i had hi hv ih => ?_) (fun had hv => ?_) [] ⟨by simp, fun _ => rfl, ⟨fun i hi => by simp at hi, by simp⟩, fun hB => (hmost hB).1, fun x hx => by simp at hx, .inr (by simp), .inr (.inl rfl)⟩
  · obtain ⟨v1, v2, v3, v4, v5, v6, v7⟩ := hv
    apply hstep
    rw [AllowNever_l8]
    have e1 : (i : Int).toNat = i := by omega
    rw [e1, wrap_succ hi len_xs, eDraw.dl_tl, getD_at _ hi]
    have okh : eDraw.oks had.length (eDraw.tl had) := eDraw.oks_tl (by omega)
    refine cond_true' (decide_eq_true (by omega)) ⟨⟨by omega, by omega⟩, ⟨⟨rfl, okh⟩, show had.length ≤ 100000 by omega⟩, cond_intro (fun hq => ⟨⟨by omega, by omega⟩, ⟨by omega, by omega⟩, ?_⟩) (fun hq => ?_)⟩
    · have hz : mayI amt ab be ex pa had xs[i].day xs[i].amt = 0 := by simpa using hq
      obtain ⟨q1, q2, q3, q4, q5, q6⟩ := may_zero.1 hz
      refine hext _ (AllowNever_c8 amt ab be ex pa xs (had ++ [⟨xs[i].day, xs[i].amt⟩]) ((i + 1 : Nat) : Int)) ⟨rfl, rfl, rfl, rfl, ⟨⟨rfl, VExt.refl _⟩, ⟨rfl, VExt.refl _⟩, ⟨rfl, VExt.refl _⟩, ⟨rfl, VExt.refl _⟩, ⟨rfl, VExt.refl _⟩, ⟨rfl, VExt.refl _⟩, trivial⟩, ⟨OExt.refl _, eDraw.oext (eDraw.is_app (eDraw.is_tl had) (eDraw.is_one _ rfl)), trivial⟩⟩ ?_
      refine ih _ ⟨by simp; omega, fun hb => by rw [q1] at hb; simp at hb, q2, fun _ => q5, fun x hx => ?_, ?_, ?_⟩
      · rcases List.mem_append.1 hx with hx | hx
        · exact v5 x hx
        · simp at hx; subst hx; exact q3
      · rcases q4 with q4 | q4
        · exact .inl q4
        · exact .inr (by rw [List.length_append, List.length_singleton, q4]; exact Nat.le_refl _)
      · rcases q4 with q4 | q4
        · exact .inl q4
        · rcases q6 with q6 | q6
          · exact .inl q6
          · right; right
            have hnil : had = [] := List.eq_nil_of_length_eq_zero q4
            subst hnil
            have := right_sum q2
            rw [this.1]
            simp [sumI]
            exact q6
    · exact ih _ ⟨by omega, v2, v3, v4, v5, v6, v7⟩
  · obtain ⟨v1, v2, v3, v4, v5, v6, v7⟩ := hv
    apply hstep
    rw [AllowNever_l8, eDraw.dl_tl, bP_true v3]
    have okh : True ∧ eDraw.oks had.length (eDraw.tl had) := ⟨trivial, eDraw.oks_tl (by omega)⟩
    simp only [cond_true, Bool.not_true, Bool.or_false]
    refine cond_false' (decide_eq_false (by omega)) ⟨⟨okh, trivial⟩, trivial, cond_intro (fun hb => ?_) (fun hb => ?_)⟩
    · have hb' : boundsB amt ab be ex = false := by simpa using hb
      rw [v2 hb']
      exact tell rfl
    · have hB : boundsB amt ab be ex = true := by simpa using hb
      have hs := right_sum v3
      have hmo := hmost hB
      have hle := v4 hB
      have hleft : leftI amt ab be ex had = IntKind.i64.wrap (mostI amt ab - sumW had) := by
        unfold leftI
        rw [hB, bP_true v3]
        have : W (mostI amt ab - sumW had) = mostI amt ab - sumW had := wrap_in (by omega) (by omega)
        simp only [Bool.not_true, Bool.or_false, cond_false]
        rw [if_neg (by omega)]
        rfl
      rw [hB, hleft]
      simp only [cond_true, cond_false, Bool.not_true, bne_self_eq_false]
      refine ⟨trivial, trivial, ⟨okh, trivial⟩, cond_false' (decide_eq_false (by omega)) ?_⟩
      refine foreach had (fun _ (_ : Unit) => True) (fun i _ => AllowNever_c21 amt ab be ex pa xs had (sumW had) (leastI amt be) i) (fun i _ hi _ ih => ?_) (fun _ _ => ?_) () trivial
      · apply hstep
        rw [AllowNever_l21]
        have e1 : (i : Int).toNat = i := by omega
        rw [e1, wrap_succ hi (by omega), getD_at _ hi]
        have := v5 had[i] (List.getElem_mem hi)
        exact cond_true' (decide_eq_true (by omega)) ⟨⟨by omega, by omega⟩, by omega, cond_false' (decide_eq_false (by omega)) (ih () trivial)⟩
      · apply hstep
        rw [AllowNever_l21]
        refine cond_false' (decide_eq_false (by omega)) (cond_intro (fun _ => tell rfl) (fun hpa => ?_))
        rcases v6 with v6 | v6
        · rw [v6] at hpa; cases hpa
        · refine cond_true' (decide_eq_true (by omega)) (cond_intro (fun _ => tell rfl) (fun hl => tell_bool ?_))
          rcases v7 with v7 | v7 | v7
          · rw [v7] at hpa; cases hpa
          · rw [v7] at hl; simp at hl
          · exact decide_eq_true v7
theorem AllowNever_walk (W : World) {u0 : V} {v0 : Value} (o0 : VOK (.int .i64) u0) (e0 : RV (whole W) sig0 u0 v0) {u1 : V} {v1 : Value} (o1 : VOK (.int .i64) u1) (e1 : RV (whole W) sig0 u1 v1) {u2 : V} {v2 : Value} (o2 : VOK (.int .i64) u2) (e2 : RV (whole W) sig0 u2 v2) {u3 : V} {v3 : Value} (o3 : VOK (.int .i64) u3) (e3 : RV (whole W) sig0 u3 v3) {u4 : V} {v4 : Value} (o4 : VOK (.bool) u4) (e4 : RV (whole W) sig0 u4 v4) {u5 : V} {v5 : Value} (o5 : VOK (.sl [.int .i64, .int .i64]) u5) (e5 : RV (whole W) sig0 u5 v5) : Calls Try.prog 6 #[v0, v1, v2, v3, v4, v5] W fun e w' => e = .returned (.bool true) ∧ Below W.heap.size W w' := by
  obtain ⟨n0, rfl, w0⟩ := vok_int o0
  obtain ⟨n1, rfl, w1⟩ := vok_int o1
  obtain ⟨n2, rfl, w2⟩ := vok_int o2
  obtain ⟨n3, rfl, w3⟩ := vok_int o3
  obtain ⟨n4, rfl⟩ := vok_bool o4
  obtain ⟨x5, l5, x5e, w5⟩ := eDraw_vok o5
  exact law_calls2 (con := conOf [(9, lift GMost), (10, lift GLeast), (11, lift Grbounds), (8, lift Glbounds), (7, lift Gawake), (17, lift GLeft), (16, lift GMay), (18, lift GDrawn)]) (hs := [(6, 8, [3, 4, 5, 13, 14, 15], [(0, 13, []), (0, 14, [])]), (6, 21, [3, 4, 14, 16, 20, 24], [(0, 14, [])])]) 3000 Try.func6 rfl (by kernel_rfl) (conCons Most_con (conCons Least_con (conCons rbounds_con (conCons lbounds_con (conCons awake_con (conCons Left_con (conCons May_con (conCons Drawn_con conNil)))))))) (args := [_, _, _, _, _, _]) (args' := [.kn (.int .i64 n0), .kn (.int .i64 n1), .kn (.int .i64 n2), .kn (.int .i64 n3), .kn (.bool n4), .list eDraw.s x5.length (eDraw.tl x5)]) ⟨e0, e1, e2, e3, e4, e5, trivial⟩ ⟨VExt.refl _, VExt.refl _, VExt.refl _, VExt.refl _, VExt.refl _, x5e, trivial⟩ (by simp [Try.ntmps6]) fun good hstep hext => AllowNever_ok n0 n1 n2 n3 n4 x5 l5 (trivial) good hstep hext

end Go.Proofs.Ytojlkbcenimcjaa
