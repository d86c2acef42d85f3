/- What is proved: contracts of functions of one seat, each by the executor; written by a program of the prover (gen.py) and by hand. Conditions: each contract names its own. -/
import Derived.Test.YtojlkbcenimcjaaAw
import Derived.Test.YtojlkbcenimcjaaProg
import Derived.KernelRfl
import Derived.IntWalk

namespace Go.Proofs.Ytojlkbcenimcjaa
open Go Go.Aw Go.RowKit
set_option linter.unusedVariables false
set_option linter.unusedSimpArgs false

def W (n : Int) : Int := IntKind.i64.wrap n
def boundsB (amt ab be ex : Int) : Bool := decide (1 ≤ amt ∧ amt ≤ 1099511627776 ∧ 0 ≤ ab ∧ ab ≤ 1000 ∧ 0 ≤ be ∧ be ≤ 1000 ∧ 0 ≤ ex ∧ ex ≤ 1048576)
def mostI (amt ab : Int) : Int := W ((W (amt * W (1000 + ab))).tdiv 1000)
def leastI (amt be : Int) : Int := W ((W (W (W (amt * W (1000 - be)) + 1000) - 1)).tdiv 1000)
theorem cond_intro {b : Bool} {p q : Prop} (h1 : b = true → p) (h2 : b = false → q) : cond b p q := by cases b; exact h2 rfl; exact h1 rfl
theorem ret_bool {b s : Bool} (e : b = s) : some (V.kn (.bool b)) = some (V.kn (.bool s)) := by subst e; rfl

def rleastI (amt be : Int) : Int := W ((W (W (amt * W (1000 - be)) + 999)).tdiv 1000)

theorem W_in {n : Int} (h1 : -9223372036854775808 ≤ n) (h2 : n ≤ 9223372036854775807) : W n = n := IntWalk.i64_in n ⟨h1, h2⟩
theorem boundsB_iff {amt ab be ex : Int} : boundsB amt ab be ex = true ↔ (1 ≤ amt ∧ amt ≤ 1099511627776 ∧ 0 ≤ ab ∧ ab ≤ 1000 ∧ 0 ≤ be ∧ be ≤ 1000 ∧ 0 ≤ ex ∧ ex ≤ 1048576) := by simp [boundsB]
theorem mul_part {a b : Int} (h0 : 0 ≤ a) (h1 : 0 ≤ b) (h2 : b ≤ 1000) : 0 ≤ a * b ∧ a * b ≤ 1000 * a := by
  refine ⟨Int.mul_nonneg h0 h1, ?_⟩
  have := Int.mul_le_mul_of_nonneg_left h2 h0
  omega
theorem mostI_eq {amt ab : Int} (h1 : 0 ≤ amt) (h2 : amt ≤ 1099511627776) (h3 : 0 ≤ ab) (h4 : ab ≤ 1000) : mostI amt ab = (1000 * amt + amt * ab) / 1000 := by
  have hq := mul_part h1 h3 h4
  have e : amt * (1000 + ab) = 1000 * amt + amt * ab := by rw [Int.mul_add, Int.mul_comm amt 1000]
  unfold mostI
  rw [W_in (n := 1000 + ab) (by omega) (by omega), e, W_in (n := 1000 * amt + amt * ab) (by omega) (by omega), Int.tdiv_eq_ediv_of_nonneg (by omega), W_in (by omega) (by omega)]
theorem leastI_eq {amt be : Int} (h1 : 0 ≤ amt) (h2 : amt ≤ 1099511627776) (h3 : 0 ≤ be) (h4 : be ≤ 1000) : leastI amt be = (1000 * amt - amt * be + 999) / 1000 := by
  have hq := mul_part h1 h3 h4
  have e : amt * (1000 - be) = 1000 * amt - amt * be := by rw [Int.mul_sub, Int.mul_comm amt 1000]
  unfold leastI
  rw [W_in (n := 1000 - be) (by omega) (by omega), e, W_in (n := 1000 * amt - amt * be) (by omega) (by omega), W_in (n := 1000 * amt - amt * be + 1000) (by omega) (by omega), W_in (n := 1000 * amt - amt * be + 1000 - 1) (by omega) (by omega), Int.tdiv_eq_ediv_of_nonneg (by omega), W_in (by omega) (by omega)]
  congr 1; omega
theorem rleastI_eq {amt be : Int} (h1 : 0 ≤ amt) (h2 : amt ≤ 1099511627776) (h3 : 0 ≤ be) (h4 : be ≤ 1000) : rleastI amt be = (1000 * amt - amt * be + 999) / 1000 := by
  have hq := mul_part h1 h3 h4
  have e : amt * (1000 - be) = 1000 * amt - amt * be := by rw [Int.mul_sub, Int.mul_comm amt 1000]
  unfold rleastI
  rw [W_in (n := 1000 - be) (by omega) (by omega), e, W_in (n := 1000 * amt - amt * be) (by omega) (by omega), W_in (n := 1000 * amt - amt * be + 999) (by omega) (by omega), Int.tdiv_eq_ediv_of_nonneg (by omega), W_in (by omega) (by omega)]

def withinB (n s ab be : Int) : Bool := decide (0 ≤ n ∧ 0 ≤ s ∧ s ≤ 1099511627776 ∧ 0 ≤ ab ∧ ab ≤ 1000 ∧ 0 ≤ be ∧ be ≤ 1000 ∧ 1000 * s - s * be ≤ 1000 * n ∧ 1000 * n ≤ 1000 * s + s * ab)

def Gwithin : PSpec
  | [.kn (.int .i64 n), .kn (.int .i64 a), .kn (.int .i64 b)] => some (True, .kn (.bool (decide (a ≤ n ∧ n ≤ b))))
  | _ => none
theorem within_res (n a b : Int) (good : Cfg → Prop) (R : Option V → Prop) : arun Try.prog (conOf []) [] good (RetO R) 400 (entry Try.prog 22 [.kn (.int .i64 n), .kn (.int .i64 a), .kn (.int .i64 b)]) =
    (bif decide (n ≥ a) then R (some (V.kn (Value.bool (decide (n ≤ b))))) else R (some (V.kn (Value.bool false)))) := by kernel_rfl
theorem within_ok (n a b : Int) (hp : True) (good : Cfg → Prop) : arun Try.prog (conOf []) [] good (RetO fun o => o = some (.kn (.bool (decide (a ≤ n ∧ n ≤ b))))) 400 (entry Try.prog 22 [.kn (.int .i64 n), .kn (.int .i64 a), .kn (.int .i64 b)]) := by
  rw [within_res]
  repeat' first | exact trivial | refine And.intro ?_ ?_ | refine cond_intro (fun h => ?_) (fun h => ?_)
  all_goals refine ret_bool ?_
  all_goals simp only [decide_eq_true_eq, decide_eq_false_iff_not] at *
  all_goals rw [Bool.eq_iff_iff]
  all_goals simp
  all_goals omega
theorem within_con : Con Try.prog 22 Gwithin := by
  refine con_of_run (con := conOf []) (hs := []) 400 Try.func22 rfl (by kernel_rfl) conNil ?_
  intro args0 p r hG hp
  unfold Gwithin at hG
  split at hG
  case h_2 => cases hG
  cases hG
  exact ⟨by simp [Try.ntmps22], fun good base w F hb hgood => within_ok _ _ _ hp good⟩
def Gabounds : PSpec
  | [.agg [.kn x0, .kn x1, .kn x2, .kn x3, .kn x4, .kn x5, .kn x6, .kn x7, .kn (.int .i64 amt), .kn (.int .i64 ab), .kn (.int .i64 be), .kn x11, .kn (.int .i64 ex), .kn x13, .kn x14, .kn (.bool pa), .kn x16, .kn x17]] => some (True, .kn (.bool (boundsB amt ab be ex)))
  | _ => none
theorem abounds_res (x0 x1 x2 x3 x4 x5 x6 x7 x11 x13 x14 x16 x17 : Value) (amt ab be ex : Int) (pa : Bool) (good : Cfg → Prop) (R : Option V → Prop) : arun Try.prog (conOf [(22, lift Gwithin)]) [] good (RetO R) 400 (entry Try.prog 19 [.agg [.kn x0, .kn x1, .kn x2, .kn x3, .kn x4, .kn x5, .kn x6, .kn x7, .kn (.int .i64 amt), .kn (.int .i64 ab), .kn (.int .i64 be), .kn x11, .kn (.int .i64 ex), .kn x13, .kn x14, .kn (.bool pa), .kn x16, .kn x17]]) =
    (True ∧ bif decide ((1 : Int) ≤ amt ∧ amt ≤ (1099511627776 : Int)) then True ∧ bif decide ((0 : Int) ≤ ab ∧ ab ≤ (1000 : Int)) then True ∧ bif decide ((0 : Int) ≤ be ∧ be ≤ (1000 : Int)) then True ∧ R (some (V.kn (Value.bool (decide ((0 : Int) ≤ ex ∧ ex ≤ (1048576 : Int)))))) else R (some (V.kn (Value.bool false))) else R (some (V.kn (Value.bool false))) else R (some (V.kn (Value.bool false)))) := by kernel_rfl
theorem abounds_ok (x0 x1 x2 x3 x4 x5 x6 x7 x11 x13 x14 x16 x17 : Value) (amt ab be ex : Int) (pa : Bool) (hp : True) (good : Cfg → Prop) : arun Try.prog (conOf [(22, lift Gwithin)]) [] good (RetO fun o => o = some (.kn (.bool (boundsB amt ab be ex)))) 400 (entry Try.prog 19 [.agg [.kn x0, .kn x1, .kn x2, .kn x3, .kn x4, .kn x5, .kn x6, .kn x7, .kn (.int .i64 amt), .kn (.int .i64 ab), .kn (.int .i64 be), .kn x11, .kn (.int .i64 ex), .kn x13, .kn x14, .kn (.bool pa), .kn x16, .kn x17]]) := by
  rw [abounds_res]
  repeat' first | exact trivial | refine And.intro ?_ ?_ | refine cond_intro (fun h => ?_) (fun h => ?_)
  all_goals refine ret_bool ?_
  all_goals simp only [decide_eq_true_eq, decide_eq_false_iff_not] at *
  all_goals rw [Bool.eq_iff_iff]
  all_goals simp [boundsB]
  all_goals omega
theorem abounds_con : Con Try.prog 19 Gabounds := by
  refine con_of_run (con := conOf [(22, lift Gwithin)]) (hs := []) 400 Try.func19 rfl (by kernel_rfl) (conCons within_con conNil) ?_
  intro args0 p r hG hp
  unfold Gabounds at hG
  split at hG
  case h_2 => cases hG
  cases hG
  exact ⟨by simp [Try.ntmps19], fun good base w F hb hgood => abounds_ok _ _ _ _ _ _ _ _ _ _ _ _ _ _ _ _ _ _ hp good⟩
def Gamost : PSpec
  | [.agg [.kn x0, .kn x1, .kn x2, .kn x3, .kn x4, .kn x5, .kn x6, .kn x7, .kn (.int .i64 amt), .kn (.int .i64 ab), .kn (.int .i64 be), .kn x11, .kn (.int .i64 ex), .kn x13, .kn x14, .kn (.bool pa), .kn x16, .kn x17]] => some (True, .kn (.int .i64 (mostI amt ab)))
  | _ => none
theorem amost_res (x0 x1 x2 x3 x4 x5 x6 x7 x11 x13 x14 x16 x17 : Value) (amt ab be ex : Int) (pa : Bool) (good : Cfg → Prop) (R : Option V → Prop) : arun Try.prog (conOf []) [] good (RetO R) 400 (entry Try.prog 20 [.agg [.kn x0, .kn x1, .kn x2, .kn x3, .kn x4, .kn x5, .kn x6, .kn x7, .kn (.int .i64 amt), .kn (.int .i64 ab), .kn (.int .i64 be), .kn x11, .kn (.int .i64 ex), .kn x13, .kn x14, .kn (.bool pa), .kn x16, .kn x17]]) =
    (R (some (V.kn (Value.int IntKind.i64 (IntKind.i64.wrap ((IntKind.i64.wrap (amt * IntKind.i64.wrap ((1000 : Int) + ab))).tdiv (1000 : Int))))))) := by kernel_rfl
theorem amost_ok (x0 x1 x2 x3 x4 x5 x6 x7 x11 x13 x14 x16 x17 : Value) (amt ab be ex : Int) (pa : Bool) (hp : True) (good : Cfg → Prop) : arun Try.prog (conOf []) [] good (RetO fun o => o = some (.kn (.int .i64 (mostI amt ab)))) 400 (entry Try.prog 20 [.agg [.kn x0, .kn x1, .kn x2, .kn x3, .kn x4, .kn x5, .kn x6, .kn x7, .kn (.int .i64 amt), .kn (.int .i64 ab), .kn (.int .i64 be), .kn x11, .kn (.int .i64 ex), .kn x13, .kn x14, .kn (.bool pa), .kn x16, .kn x17]]) := by
  rw [amost_res]
  rfl
theorem amost_con : Con Try.prog 20 Gamost := by
  refine con_of_run (con := conOf []) (hs := []) 400 Try.func20 rfl (by kernel_rfl) conNil ?_
  intro args0 p r hG hp
  unfold Gamost at hG
  split at hG
  case h_2 => cases hG
  cases hG
  exact ⟨by simp [Try.ntmps20], fun good base w F hb hgood => amost_ok _ _ _ _ _ _ _ _ _ _ _ _ _ _ _ _ _ _ hp good⟩
def Galeast : PSpec
  | [.agg [.kn x0, .kn x1, .kn x2, .kn x3, .kn x4, .kn x5, .kn x6, .kn x7, .kn (.int .i64 amt), .kn (.int .i64 ab), .kn (.int .i64 be), .kn x11, .kn (.int .i64 ex), .kn x13, .kn x14, .kn (.bool pa), .kn x16, .kn x17]] => some (True, .kn (.int .i64 (leastI amt be)))
  | _ => none
theorem aleast_res (x0 x1 x2 x3 x4 x5 x6 x7 x11 x13 x14 x16 x17 : Value) (amt ab be ex : Int) (pa : Bool) (good : Cfg → Prop) (R : Option V → Prop) : arun Try.prog (conOf []) [] good (RetO R) 400 (entry Try.prog 21 [.agg [.kn x0, .kn x1, .kn x2, .kn x3, .kn x4, .kn x5, .kn x6, .kn x7, .kn (.int .i64 amt), .kn (.int .i64 ab), .kn (.int .i64 be), .kn x11, .kn (.int .i64 ex), .kn x13, .kn x14, .kn (.bool pa), .kn x16, .kn x17]]) =
    (R (some (V.kn (Value.int IntKind.i64 (IntKind.i64.wrap ((IntKind.i64.wrap (IntKind.i64.wrap (IntKind.i64.wrap (amt * IntKind.i64.wrap ((1000 : Int) - be)) + (1000 : Int)) - (1 : Int))).tdiv (1000 : Int))))))) := by kernel_rfl
theorem aleast_ok (x0 x1 x2 x3 x4 x5 x6 x7 x11 x13 x14 x16 x17 : Value) (amt ab be ex : Int) (pa : Bool) (hp : True) (good : Cfg → Prop) : arun Try.prog (conOf []) [] good (RetO fun o => o = some (.kn (.int .i64 (leastI amt be)))) 400 (entry Try.prog 21 [.agg [.kn x0, .kn x1, .kn x2, .kn x3, .kn x4, .kn x5, .kn x6, .kn x7, .kn (.int .i64 amt), .kn (.int .i64 ab), .kn (.int .i64 be), .kn x11, .kn (.int .i64 ex), .kn x13, .kn x14, .kn (.bool pa), .kn x16, .kn x17]]) := by
  rw [aleast_res]
  rfl
theorem aleast_con : Con Try.prog 21 Galeast := by
  refine con_of_run (con := conOf []) (hs := []) 400 Try.func21 rfl (by kernel_rfl) conNil ?_
  intro args0 p r hG hp
  unfold Galeast at hG
  split at hG
  case h_2 => cases hG
  cases hG
  exact ⟨by simp [Try.ntmps21], fun good base w F hb hgood => aleast_ok _ _ _ _ _ _ _ _ _ _ _ _ _ _ _ _ _ _ hp good⟩
def GMost : PSpec
  | [.agg [.kn x0, .kn x1, .kn x2, .kn x3, .kn x4, .kn x5, .kn x6, .kn x7, .kn (.int .i64 amt), .kn (.int .i64 ab), .kn (.int .i64 be), .kn x11, .kn (.int .i64 ex), .kn x13, .kn x14, .kn (.bool pa), .kn x16, .kn x17]] => some (True, .tup [.kn (.int .i64 (bif boundsB amt ab be ex then mostI amt ab else 0)), .kn (.int .i64 (bif boundsB amt ab be ex then 0 else 1))])
  | _ => none
theorem Most_res (x0 x1 x2 x3 x4 x5 x6 x7 x11 x13 x14 x16 x17 : Value) (amt ab be ex : Int) (pa : Bool) (good : Cfg → Prop) (R : Option V → Prop) : arun Try.prog (conOf [(19, lift Gabounds), (20, lift Gamost)]) [] good (RetO R) 400 (entry Try.prog 9 [.agg [.kn x0, .kn x1, .kn x2, .kn x3, .kn x4, .kn x5, .kn x6, .kn x7, .kn (.int .i64 amt), .kn (.int .i64 ab), .kn (.int .i64 be), .kn x11, .kn (.int .i64 ex), .kn x13, .kn x14, .kn (.bool pa), .kn x16, .kn x17]]) =
    (True ∧ bif !boundsB amt ab be ex then R (some (V.tup [V.kn (Value.int IntKind.i64 (0 : Int)), V.kn (Value.int IntKind.i64 (1 : Int))])) else True ∧ R (some (V.tup [V.kn (Value.int IntKind.i64 (mostI amt ab)), V.kn (Value.int IntKind.i64 (0 : Int))]))) := by kernel_rfl
theorem Most_ok (x0 x1 x2 x3 x4 x5 x6 x7 x11 x13 x14 x16 x17 : Value) (amt ab be ex : Int) (pa : Bool) (hp : True) (good : Cfg → Prop) : arun Try.prog (conOf [(19, lift Gabounds), (20, lift Gamost)]) [] good (RetO fun o => o = some (.tup [.kn (.int .i64 (bif boundsB amt ab be ex then mostI amt ab else 0)), .kn (.int .i64 (bif boundsB amt ab be ex then 0 else 1))])) 400 (entry Try.prog 9 [.agg [.kn x0, .kn x1, .kn x2, .kn x3, .kn x4, .kn x5, .kn x6, .kn x7, .kn (.int .i64 amt), .kn (.int .i64 ab), .kn (.int .i64 be), .kn x11, .kn (.int .i64 ex), .kn x13, .kn x14, .kn (.bool pa), .kn x16, .kn x17]]) := by
  rw [Most_res]
  repeat' first | exact trivial | refine And.intro ?_ ?_ | refine cond_intro (fun h => ?_) (fun h => ?_)
  all_goals simp_all
theorem Most_con : Con Try.prog 9 GMost := by
  refine con_of_run (con := conOf [(19, lift Gabounds), (20, lift Gamost)]) (hs := []) 400 Try.func9 rfl (by kernel_rfl) (conCons abounds_con (conCons amost_con conNil)) ?_
  intro args0 p r hG hp
  unfold GMost at hG
  split at hG
  case h_2 => cases hG
  cases hG
  exact ⟨by simp [Try.ntmps9], fun good base w F hb hgood => Most_ok _ _ _ _ _ _ _ _ _ _ _ _ _ _ _ _ _ _ hp good⟩
def GLeast : PSpec
  | [.agg [.kn x0, .kn x1, .kn x2, .kn x3, .kn x4, .kn x5, .kn x6, .kn x7, .kn (.int .i64 amt), .kn (.int .i64 ab), .kn (.int .i64 be), .kn x11, .kn (.int .i64 ex), .kn x13, .kn x14, .kn (.bool pa), .kn x16, .kn x17]] => some (True, .tup [.kn (.int .i64 (bif boundsB amt ab be ex then leastI amt be else 0)), .kn (.int .i64 (bif boundsB amt ab be ex then 0 else 1))])
  | _ => none
theorem Least_res (x0 x1 x2 x3 x4 x5 x6 x7 x11 x13 x14 x16 x17 : Value) (amt ab be ex : Int) (pa : Bool) (good : Cfg → Prop) (R : Option V → Prop) : arun Try.prog (conOf [(19, lift Gabounds), (21, lift Galeast)]) [] good (RetO R) 400 (entry Try.prog 10 [.agg [.kn x0, .kn x1, .kn x2, .kn x3, .kn x4, .kn x5, .kn x6, .kn x7, .kn (.int .i64 amt), .kn (.int .i64 ab), .kn (.int .i64 be), .kn x11, .kn (.int .i64 ex), .kn x13, .kn x14, .kn (.bool pa), .kn x16, .kn x17]]) =
    (True ∧ bif !boundsB amt ab be ex then R (some (V.tup [V.kn (Value.int IntKind.i64 (0 : Int)), V.kn (Value.int IntKind.i64 (1 : Int))])) else True ∧ R (some (V.tup [V.kn (Value.int IntKind.i64 (leastI amt be)), V.kn (Value.int IntKind.i64 (0 : Int))]))) := by kernel_rfl
theorem Least_ok (x0 x1 x2 x3 x4 x5 x6 x7 x11 x13 x14 x16 x17 : Value) (amt ab be ex : Int) (pa : Bool) (hp : True) (good : Cfg → Prop) : arun Try.prog (conOf [(19, lift Gabounds), (21, lift Galeast)]) [] good (RetO fun o => o = some (.tup [.kn (.int .i64 (bif boundsB amt ab be ex then leastI amt be else 0)), .kn (.int .i64 (bif boundsB amt ab be ex then 0 else 1))])) 400 (entry Try.prog 10 [.agg [.kn x0, .kn x1, .kn x2, .kn x3, .kn x4, .kn x5, .kn x6, .kn x7, .kn (.int .i64 amt), .kn (.int .i64 ab), .kn (.int .i64 be), .kn x11, .kn (.int .i64 ex), .kn x13, .kn x14, .kn (.bool pa), .kn x16, .kn x17]]) := by
  rw [Least_res]
  repeat' first | exact trivial | refine And.intro ?_ ?_ | refine cond_intro (fun h => ?_) (fun h => ?_)
  all_goals simp_all
theorem Least_con : Con Try.prog 10 GLeast := by
  refine con_of_run (con := conOf [(19, lift Gabounds), (21, lift Galeast)]) (hs := []) 400 Try.func10 rfl (by kernel_rfl) (conCons abounds_con (conCons aleast_con conNil)) ?_
  intro args0 p r hG hp
  unfold GLeast at hG
  split at hG
  case h_2 => cases hG
  cases hG
  exact ⟨by simp [Try.ntmps10], fun good base w F hb hgood => Least_ok _ _ _ _ _ _ _ _ _ _ _ _ _ _ _ _ _ _ hp good⟩
def Grbounds : PSpec
  | [.agg [.kn x0, .kn x1, .kn x2, .kn x3, .kn x4, .kn x5, .kn x6, .kn x7, .kn (.int .i64 amt), .kn (.int .i64 ab), .kn (.int .i64 be), .kn x11, .kn (.int .i64 ex), .kn x13, .kn x14, .kn (.bool pa), .kn x16, .kn x17]] => some (True, .kn (.bool (boundsB amt ab be ex)))
  | _ => none
theorem rbounds_res (x0 x1 x2 x3 x4 x5 x6 x7 x11 x13 x14 x16 x17 : Value) (amt ab be ex : Int) (pa : Bool) (good : Cfg → Prop) (R : Option V → Prop) : arun Try.prog (conOf []) [] good (RetO R) 400 (entry Try.prog 11 [.agg [.kn x0, .kn x1, .kn x2, .kn x3, .kn x4, .kn x5, .kn x6, .kn x7, .kn (.int .i64 amt), .kn (.int .i64 ab), .kn (.int .i64 be), .kn x11, .kn (.int .i64 ex), .kn x13, .kn x14, .kn (.bool pa), .kn x16, .kn x17]]) =
    (bif decide (amt ≥ (1 : Int)) then bif decide (amt ≤ (1099511627776 : Int)) then bif decide (ab ≥ (0 : Int)) then bif decide (ab ≤ (1000 : Int)) then bif decide (be ≥ (0 : Int)) then bif decide (be ≤ (1000 : Int)) then bif decide (ex ≥ (0 : Int)) then R (some (V.kn (Value.bool (decide (ex ≤ (1048576 : Int)))))) else R (some (V.kn (Value.bool false))) else R (some (V.kn (Value.bool false))) else R (some (V.kn (Value.bool false))) else R (some (V.kn (Value.bool false))) else R (some (V.kn (Value.bool false))) else R (some (V.kn (Value.bool false))) else R (some (V.kn (Value.bool false)))) := by kernel_rfl
theorem rbounds_ok (x0 x1 x2 x3 x4 x5 x6 x7 x11 x13 x14 x16 x17 : Value) (amt ab be ex : Int) (pa : Bool) (hp : True) (good : Cfg → Prop) : arun Try.prog (conOf []) [] good (RetO fun o => o = some (.kn (.bool (boundsB amt ab be ex)))) 400 (entry Try.prog 11 [.agg [.kn x0, .kn x1, .kn x2, .kn x3, .kn x4, .kn x5, .kn x6, .kn x7, .kn (.int .i64 amt), .kn (.int .i64 ab), .kn (.int .i64 be), .kn x11, .kn (.int .i64 ex), .kn x13, .kn x14, .kn (.bool pa), .kn x16, .kn x17]]) := by
  rw [rbounds_res]
  repeat' first | exact trivial | refine And.intro ?_ ?_ | refine cond_intro (fun h => ?_) (fun h => ?_)
  all_goals refine ret_bool ?_
  all_goals simp only [decide_eq_true_eq, decide_eq_false_iff_not] at *
  all_goals rw [Bool.eq_iff_iff]
  all_goals simp [boundsB]
  all_goals omega
theorem rbounds_con : Con Try.prog 11 Grbounds := by
  refine con_of_run (con := conOf []) (hs := []) 400 Try.func11 rfl (by kernel_rfl) conNil ?_
  intro args0 p r hG hp
  unfold Grbounds at hG
  split at hG
  case h_2 => cases hG
  cases hG
  exact ⟨by simp [Try.ntmps11], fun good base w F hb hgood => rbounds_ok _ _ _ _ _ _ _ _ _ _ _ _ _ _ _ _ _ _ hp good⟩
def Grmost : PSpec
  | [.agg [.kn x0, .kn x1, .kn x2, .kn x3, .kn x4, .kn x5, .kn x6, .kn x7, .kn (.int .i64 amt), .kn (.int .i64 ab), .kn (.int .i64 be), .kn x11, .kn (.int .i64 ex), .kn x13, .kn x14, .kn (.bool pa), .kn x16, .kn x17]] => some (True, .kn (.int .i64 (mostI amt ab)))
  | _ => none
theorem rmost_res (x0 x1 x2 x3 x4 x5 x6 x7 x11 x13 x14 x16 x17 : Value) (amt ab be ex : Int) (pa : Bool) (good : Cfg → Prop) (R : Option V → Prop) : arun Try.prog (conOf []) [] good (RetO R) 400 (entry Try.prog 12 [.agg [.kn x0, .kn x1, .kn x2, .kn x3, .kn x4, .kn x5, .kn x6, .kn x7, .kn (.int .i64 amt), .kn (.int .i64 ab), .kn (.int .i64 be), .kn x11, .kn (.int .i64 ex), .kn x13, .kn x14, .kn (.bool pa), .kn x16, .kn x17]]) =
    (R (some (V.kn (Value.int IntKind.i64 (IntKind.i64.wrap ((IntKind.i64.wrap (amt * IntKind.i64.wrap ((1000 : Int) + ab))).tdiv (1000 : Int))))))) := by kernel_rfl
theorem rmost_ok (x0 x1 x2 x3 x4 x5 x6 x7 x11 x13 x14 x16 x17 : Value) (amt ab be ex : Int) (pa : Bool) (hp : True) (good : Cfg → Prop) : arun Try.prog (conOf []) [] good (RetO fun o => o = some (.kn (.int .i64 (mostI amt ab)))) 400 (entry Try.prog 12 [.agg [.kn x0, .kn x1, .kn x2, .kn x3, .kn x4, .kn x5, .kn x6, .kn x7, .kn (.int .i64 amt), .kn (.int .i64 ab), .kn (.int .i64 be), .kn x11, .kn (.int .i64 ex), .kn x13, .kn x14, .kn (.bool pa), .kn x16, .kn x17]]) := by
  rw [rmost_res]
  rfl
theorem rmost_con : Con Try.prog 12 Grmost := by
  refine con_of_run (con := conOf []) (hs := []) 400 Try.func12 rfl (by kernel_rfl) conNil ?_
  intro args0 p r hG hp
  unfold Grmost at hG
  split at hG
  case h_2 => cases hG
  cases hG
  exact ⟨by simp [Try.ntmps12], fun good base w F hb hgood => rmost_ok _ _ _ _ _ _ _ _ _ _ _ _ _ _ _ _ _ _ hp good⟩
def Grleast : PSpec
  | [.agg [.kn x0, .kn x1, .kn x2, .kn x3, .kn x4, .kn x5, .kn x6, .kn x7, .kn (.int .i64 amt), .kn (.int .i64 ab), .kn (.int .i64 be), .kn x11, .kn (.int .i64 ex), .kn x13, .kn x14, .kn (.bool pa), .kn x16, .kn x17]] => some (True, .kn (.int .i64 (rleastI amt be)))
  | _ => none
theorem rleast_res (x0 x1 x2 x3 x4 x5 x6 x7 x11 x13 x14 x16 x17 : Value) (amt ab be ex : Int) (pa : Bool) (good : Cfg → Prop) (R : Option V → Prop) : arun Try.prog (conOf []) [] good (RetO R) 400 (entry Try.prog 13 [.agg [.kn x0, .kn x1, .kn x2, .kn x3, .kn x4, .kn x5, .kn x6, .kn x7, .kn (.int .i64 amt), .kn (.int .i64 ab), .kn (.int .i64 be), .kn x11, .kn (.int .i64 ex), .kn x13, .kn x14, .kn (.bool pa), .kn x16, .kn x17]]) =
    (R (some (V.kn (Value.int IntKind.i64 (IntKind.i64.wrap ((IntKind.i64.wrap (IntKind.i64.wrap (amt * IntKind.i64.wrap ((1000 : Int) - be)) + (999 : Int))).tdiv (1000 : Int))))))) := by kernel_rfl
theorem rleast_ok (x0 x1 x2 x3 x4 x5 x6 x7 x11 x13 x14 x16 x17 : Value) (amt ab be ex : Int) (pa : Bool) (hp : True) (good : Cfg → Prop) : arun Try.prog (conOf []) [] good (RetO fun o => o = some (.kn (.int .i64 (rleastI amt be)))) 400 (entry Try.prog 13 [.agg [.kn x0, .kn x1, .kn x2, .kn x3, .kn x4, .kn x5, .kn x6, .kn x7, .kn (.int .i64 amt), .kn (.int .i64 ab), .kn (.int .i64 be), .kn x11, .kn (.int .i64 ex), .kn x13, .kn x14, .kn (.bool pa), .kn x16, .kn x17]]) := by
  rw [rleast_res]
  rfl
theorem rleast_con : Con Try.prog 13 Grleast := by
  refine con_of_run (con := conOf []) (hs := []) 400 Try.func13 rfl (by kernel_rfl) conNil ?_
  intro args0 p r hG hp
  unfold Grleast at hG
  split at hG
  case h_2 => cases hG
  cases hG
  exact ⟨by simp [Try.ntmps13], fun good base w F hb hgood => rleast_ok _ _ _ _ _ _ _ _ _ _ _ _ _ _ _ _ _ _ hp good⟩
def Glbounds : PSpec
  | [.kn (.int .i64 amt), .kn (.int .i64 ab), .kn (.int .i64 be), .kn (.int .i64 ex), .kn (.bool pa)] => some (True, .agg [.kn (.string ByteArray.empty), .kn (.string ByteArray.empty), .kn (.string ByteArray.empty), .kn (.string ByteArray.empty), .kn (.string ByteArray.empty), .kn (.string ByteArray.empty), .kn (.string ByteArray.empty), .kn (.string ByteArray.empty), .kn (.int .i64 amt), .kn (.int .i64 ab), .kn (.int .i64 be), .kn (.int .i64 0), .kn (.int .i64 ex), .kn (.int .i64 0), .kn (.int .i64 0), .kn (.bool pa), .kn (.bool false), .kn (.slice none 0 0)])
  | _ => none
theorem lbounds_res (amt ab be ex : Int) (pa : Bool) (good : Cfg → Prop) (R : Option V → Prop) : arun Try.prog (conOf []) [] good (RetO R) 400 (entry Try.prog 8 [.kn (.int .i64 amt), .kn (.int .i64 ab), .kn (.int .i64 be), .kn (.int .i64 ex), .kn (.bool pa)]) =
    (R (some (V.agg [V.kn (Value.string { data := #[] }), V.kn (Value.string { data := #[] }), V.kn (Value.string { data := #[] }), V.kn (Value.string { data := #[] }), V.kn (Value.string { data := #[] }), V.kn (Value.string { data := #[] }), V.kn (Value.string { data := #[] }), V.kn (Value.string { data := #[] }), V.kn (Value.int IntKind.i64 amt), V.kn (Value.int IntKind.i64 ab), V.kn (Value.int IntKind.i64 be), V.kn (Value.int IntKind.i64 (0 : Int)), V.kn (Value.int IntKind.i64 ex), V.kn (Value.int IntKind.i64 (0 : Int)), V.kn (Value.int IntKind.i64 (0 : Int)), V.kn (Value.bool pa), V.kn (Value.bool false), V.kn (Value.slice none (0 : Nat) (0 : Nat))]))) := by kernel_rfl
theorem lbounds_ok (amt ab be ex : Int) (pa : Bool) (hp : True) (good : Cfg → Prop) : arun Try.prog (conOf []) [] good (RetO fun o => o = some (.agg [.kn (.string ByteArray.empty), .kn (.string ByteArray.empty), .kn (.string ByteArray.empty), .kn (.string ByteArray.empty), .kn (.string ByteArray.empty), .kn (.string ByteArray.empty), .kn (.string ByteArray.empty), .kn (.string ByteArray.empty), .kn (.int .i64 amt), .kn (.int .i64 ab), .kn (.int .i64 be), .kn (.int .i64 0), .kn (.int .i64 ex), .kn (.int .i64 0), .kn (.int .i64 0), .kn (.bool pa), .kn (.bool false), .kn (.slice none 0 0)])) 400 (entry Try.prog 8 [.kn (.int .i64 amt), .kn (.int .i64 ab), .kn (.int .i64 be), .kn (.int .i64 ex), .kn (.bool pa)]) := by
  rw [lbounds_res]
  rfl
theorem lbounds_con : Con Try.prog 8 Glbounds := by
  refine con_of_run (con := conOf []) (hs := []) 400 Try.func8 rfl (by kernel_rfl) conNil ?_
  intro args0 p r hG hp
  unfold Glbounds at hG
  split at hG
  case h_2 => cases hG
  cases hG
  exact ⟨by simp [Try.ntmps8], fun good base w F hb hgood => lbounds_ok _ _ _ _ _ hp good⟩
def Gawake : PSpec
  | [] => some (True, .kn (.bool true))
  | _ => none
theorem awake_res  (good : Cfg → Prop) (R : Option V → Prop) : arun Try.prog (conOf [(9, lift GMost), (10, lift GLeast)]) [] good (RetO R) 400 (entry Try.prog 7 []) =
    (True ∧ True ∧ R (some (V.kn (Value.bool ((bif boundsB (1000 : Int) (50 : Int) (100 : Int) (0 : Int) then (0 : Int) else (1 : Int)) == (0 : Int)))))) := by kernel_rfl
theorem awake_ok  (hp : True) (good : Cfg → Prop) : arun Try.prog (conOf [(9, lift GMost), (10, lift GLeast)]) [] good (RetO fun o => o = some (.kn (.bool true))) 400 (entry Try.prog 7 []) := by
  rw [awake_res]
  repeat' first | exact trivial | refine And.intro ?_ ?_ | refine cond_intro (fun h => ?_) (fun h => ?_)
  all_goals rfl
theorem awake_con : Con Try.prog 7 Gawake := by
  refine con_of_run (con := conOf [(9, lift GMost), (10, lift GLeast)]) (hs := []) 400 Try.func7 rfl (by kernel_rfl) (conCons Most_con (conCons Least_con conNil)) ?_
  intro args0 p r hG hp
  unfold Gawake at hG
  split at hG
  case h_2 => cases hG
  cases hG
  exact ⟨by simp [Try.ntmps7], fun good base w F hb hgood => awake_ok  hp good⟩
def GAllowMost : PSpec
  | [.kn (.int .i64 amt), .kn (.int .i64 ab), .kn (.int .i64 be), .kn (.int .i64 ex)] => some (True, .kn (.bool true))
  | _ => none
theorem AllowMost_res (amt ab be ex : Int) (good : Cfg → Prop) (R : Option V → Prop) : arun Try.prog (conOf [(9, lift GMost), (10, lift GLeast), (11, lift Grbounds), (12, lift Grmost), (13, lift Grleast), (8, lift Glbounds), (7, lift Gawake)]) [] good (RetO R) 1000 (entry Try.prog 3 [.kn (.int .i64 amt), .kn (.int .i64 ab), .kn (.int .i64 be), .kn (.int .i64 ex)]) =
    (True ∧ True ∧ True ∧ True ∧ True ∧ bif !boundsB amt ab be ex then bif (bif boundsB amt ab be ex then mostI amt ab else (0 : Int)) == (0 : Int) then bif (bif boundsB amt ab be ex then (0 : Int) else (1 : Int)) == (1 : Int) then bif (bif boundsB amt ab be ex then leastI amt be else (0 : Int)) == (0 : Int) then R (some (V.kn (Value.bool ((bif boundsB amt ab be ex then (0 : Int) else (1 : Int)) == (1 : Int))))) else R (some (V.kn (Value.bool false))) else R (some (V.kn (Value.bool false))) else R (some (V.kn (Value.bool false))) else True ∧ bif (bif boundsB amt ab be ex then mostI amt ab else (0 : Int)) == mostI amt ab then bif (bif boundsB amt ab be ex then (0 : Int) else (1 : Int)) == (0 : Int) then True ∧ bif (bif boundsB amt ab be ex then leastI amt be else (0 : Int)) == rleastI amt be then bif (bif boundsB amt ab be ex then (0 : Int) else (1 : Int)) == (0 : Int) then bif decide ((bif boundsB amt ab be ex then leastI amt be else (0 : Int)) ≤ amt) then bif decide (amt ≤ bif boundsB amt ab be ex then mostI amt ab else (0 : Int)) then bif decide ((bif boundsB amt ab be ex then mostI amt ab else (0 : Int)) ≤ IntKind.i64.wrap ((2 : Int) * amt)) then R (some (V.kn (Value.bool (decide ((bif boundsB amt ab be ex then leastI amt be else (0 : Int)) ≥ (0 : Int)))))) else R (some (V.kn (Value.bool false))) else R (some (V.kn (Value.bool false))) else R (some (V.kn (Value.bool false))) else R (some (V.kn (Value.bool false))) else R (some (V.kn (Value.bool false))) else R (some (V.kn (Value.bool false))) else R (some (V.kn (Value.bool false)))) := by kernel_rfl
theorem AllowMost_ok (amt ab be ex : Int) (hp : True) (good : Cfg → Prop) : arun Try.prog (conOf [(9, lift GMost), (10, lift GLeast), (11, lift Grbounds), (12, lift Grmost), (13, lift Grleast), (8, lift Glbounds), (7, lift Gawake)]) [] good (RetO fun o => o = some (.kn (.bool true))) 1000 (entry Try.prog 3 [.kn (.int .i64 amt), .kn (.int .i64 ab), .kn (.int .i64 be), .kn (.int .i64 ex)]) := by
  rw [AllowMost_res]
  cases hb : boundsB amt ab be ex with
  | false => simp
  | true =>
    obtain ⟨b1, b2, b3, b4, b5, b6, b7, b8⟩ := boundsB_iff.1 hb
    have h0 : 0 ≤ amt := by omega
    have e1 := mostI_eq h0 b2 b3 b4
    have e2 := leastI_eq h0 b2 b5 b6
    have e3 := rleastI_eq h0 b2 b5 b6
    have q1 := mul_part h0 b3 b4
    have q2 := mul_part h0 b5 b6
    have e4 : IntKind.i64.wrap (2 * amt) = 2 * amt := W_in (by omega) (by omega)
    have d1 : decide (leastI amt be ≤ amt) = true := by rw [e2]; exact decide_eq_true (by omega)
    have d2 : decide (amt ≤ mostI amt ab) = true := by rw [e1]; exact decide_eq_true (by omega)
    have d3 : decide (mostI amt ab ≤ 2 * amt) = true := by rw [e1]; exact decide_eq_true (by omega)
    have d4 : decide (leastI amt be ≥ 0) = true := by rw [e2]; exact decide_eq_true (by omega)
    have d5 : leastI amt be = rleastI amt be := by rw [e2, e3]
    simp only [Bool.not_true, cond_true, cond_false, e4, d1, d2, d3, d4, d5, beq_self_eq_true, and_self, true_and]
    rw [← d5]
    simp [d1, d4]
theorem AllowMost_con : Con Try.prog 3 GAllowMost := by
  refine con_of_run (con := conOf [(9, lift GMost), (10, lift GLeast), (11, lift Grbounds), (12, lift Grmost), (13, lift Grleast), (8, lift Glbounds), (7, lift Gawake)]) (hs := []) 1000 Try.func3 rfl (by kernel_rfl) (conCons Most_con (conCons Least_con (conCons rbounds_con (conCons rmost_con (conCons rleast_con (conCons lbounds_con (conCons awake_con conNil))))))) ?_
  intro args0 p r hG hp
  unfold GAllowMost at hG
  split at hG
  case h_2 => cases hG
  cases hG
  exact ⟨by simp [Try.ntmps3], fun good base w F hb hgood => AllowMost_ok _ _ _ _ hp good⟩
theorem AllowMost_walk (W : World) {u0 u1 u2 u3 : V} {v0 v1 v2 v3 : Value} (o0 : VOK (.int .i64) u0) (e0 : RV (whole W) sig0 u0 v0) (o1 : VOK (.int .i64) u1) (e1 : RV (whole W) sig0 u1 v1) (o2 : VOK (.int .i64) u2) (e2 : RV (whole W) sig0 u2 v2) (o3 : VOK (.int .i64) u3) (e3 : RV (whole W) sig0 u3 v3) : Calls Try.prog 3 #[v0, v1, v2, v3] W fun e w' => e = .returned (.bool true) ∧ Below W.heap.size W w' := by
  cases o0
  cases o1
  cases o2
  cases o3
  exact law_calls (con := conOf [(9, lift GMost), (10, lift GLeast), (11, lift Grbounds), (12, lift Grmost), (13, lift Grleast), (8, lift Glbounds), (7, lift Gawake)]) (hs := []) 1000 Try.func3 rfl (by kernel_rfl) (conCons Most_con (conCons Least_con (conCons rbounds_con (conCons rmost_con (conCons rleast_con (conCons lbounds_con (conCons awake_con conNil))))))) (args := [_, _, _, _]) ⟨e0, e1, e2, e3, trivial⟩ (by simp [Try.ntmps3]) fun good _ _ => AllowMost_ok _ _ _ _ trivial good

def GWithin : PSpec
  | [.kn (.int .i64 n), .kn (.int .i64 s), .kn (.int .i64 ab), .kn (.int .i64 be)] => some (True, .kn (.bool (withinB n s ab be)))
  | _ => none
theorem Within_res (n s ab be : Int) (good : Cfg → Prop) (R : Option V → Prop) : arun Try.prog (conOf [(22, lift Gwithin)]) [] good (RetO R) 400 (entry Try.prog 14 [.kn (.int .i64 n), .kn (.int .i64 s), .kn (.int .i64 ab), .kn (.int .i64 be)]) =
    (bif decide (n < (0 : Int)) then R (some (V.kn (Value.bool false))) else True ∧ bif !decide ((0 : Int) ≤ s ∧ s ≤ (1099511627776 : Int)) then R (some (V.kn (Value.bool false))) else True ∧ bif !decide ((0 : Int) ≤ ab ∧ ab ≤ (1000 : Int)) then R (some (V.kn (Value.bool false))) else True ∧ bif !decide ((0 : Int) ≤ be ∧ be ≤ (1000 : Int)) then R (some (V.kn (Value.bool false))) else bif decide (n ≤ IntKind.i64.wrap ((2 : Int) * s)) then True ∧ R (some (V.kn (Value.bool (decide (IntKind.i64.wrap (s * IntKind.i64.wrap ((1000 : Int) - be)) ≤ IntKind.i64.wrap ((1000 : Int) * n) ∧ IntKind.i64.wrap ((1000 : Int) * n) ≤ IntKind.i64.wrap (s * IntKind.i64.wrap ((1000 : Int) + ab))))))) else R (some (V.kn (Value.bool false)))) := by kernel_rfl
theorem Within_ok (n s ab be : Int) (hp : True) (good : Cfg → Prop) : arun Try.prog (conOf [(22, lift Gwithin)]) [] good (RetO fun o => o = some (.kn (.bool (withinB n s ab be)))) 400 (entry Try.prog 14 [.kn (.int .i64 n), .kn (.int .i64 s), .kn (.int .i64 ab), .kn (.int .i64 be)]) := by
  rw [Within_res]
  have key : 0 ≤ n → 0 ≤ s → s ≤ 1099511627776 → 0 ≤ ab → ab ≤ 1000 → 0 ≤ be → be ≤ 1000 → n ≤ 2199023255552 → (0 ≤ s * be ∧ s * be ≤ 1000 * s) ∧ (0 ≤ s * ab ∧ s * ab ≤ 1000 * s) ∧ IntKind.i64.wrap (1000 * n) = 1000 * n ∧ IntKind.i64.wrap (s * IntKind.i64.wrap (1000 - be)) = 1000 * s - s * be ∧ IntKind.i64.wrap (s * IntKind.i64.wrap (1000 + ab)) = 1000 * s + s * ab := by
    intro h1 h2 h3 h4 h5 h6 h7 h8
    have q1 := mul_part h2 h6 h7
    have q2 := mul_part h2 h4 h5
    have e1 : s * (1000 - be) = 1000 * s - s * be := by rw [Int.mul_sub, Int.mul_comm s 1000]
    have e2 : s * (1000 + ab) = 1000 * s + s * ab := by rw [Int.mul_add, Int.mul_comm s 1000]
    have f1 : IntKind.i64.wrap (1000 - be) = 1000 - be := W_in (by omega) (by omega)
    have f2 : IntKind.i64.wrap (1000 + ab) = 1000 + ab := W_in (by omega) (by omega)
    refine ⟨q1, q2, W_in (by omega) (by omega), ?_, ?_⟩
    · rw [f1, e1]; exact W_in (by omega) (by omega)
    · rw [f2, e2]; exact W_in (by omega) (by omega)
  have keyP : 0 ≤ s → 0 ≤ ab → ab ≤ 1000 → 0 ≤ be → be ≤ 1000 → (0 ≤ s * be ∧ s * be ≤ 1000 * s) ∧ (0 ≤ s * ab ∧ s * ab ≤ 1000 * s) := fun h2 h4 h5 h6 h7 => ⟨mul_part h2 h6 h7, mul_part h2 h4 h5⟩
  have f3 : 0 ≤ s → s ≤ 1099511627776 → IntKind.i64.wrap (2 * s) = 2 * s := fun h1 h2 => W_in (by omega) (by omega)
  repeat' first | exact trivial | refine And.intro ?_ ?_ | refine cond_intro (fun h => ?_) (fun h => ?_)
  all_goals refine ret_bool ?_
  all_goals simp only [decide_eq_true_eq, decide_eq_false_iff_not, Bool.not_eq_true', Bool.not_eq_false'] at *
  all_goals rw [Bool.eq_iff_iff]
  all_goals simp only [withinB, decide_eq_true_eq, Bool.false_eq_true, false_iff, iff_false, iff_true, true_iff]
  
  all_goals first
    | omega
    | (obtain ⟨k1, k2, k3, k4, k5⟩ := key (by omega) (by omega) (by omega) (by omega) (by omega) (by omega) (by omega) (by have := f3 (by omega) (by omega); omega); have := f3 (by omega) (by omega); omega)
    | (intro hh; obtain ⟨k1, k2⟩ := keyP (by omega) (by omega) (by omega) (by omega) (by omega); have := f3 (by omega) (by omega); omega)
theorem Within_con : Con Try.prog 14 GWithin := by
  refine con_of_run (con := conOf [(22, lift Gwithin)]) (hs := []) 400 Try.func14 rfl (by kernel_rfl) (conCons within_con conNil) ?_
  intro args0 p r hG hp
  unfold GWithin at hG
  split at hG
  case h_2 => cases hG
  cases hG
  exact ⟨by simp [Try.ntmps14], fun good base w F hb hgood => Within_ok _ _ _ _ hp good⟩
def GrWithin : PSpec
  | [.kn (.int .i64 n), .kn (.int .i64 s), .kn (.int .i64 ab), .kn (.int .i64 be)] => some (True, .kn (.bool (withinB n s ab be)))
  | _ => none
theorem rWithin_res (n s ab be : Int) (good : Cfg → Prop) (R : Option V → Prop) : arun Try.prog (conOf []) [] good (RetO R) 400 (entry Try.prog 15 [.kn (.int .i64 n), .kn (.int .i64 s), .kn (.int .i64 ab), .kn (.int .i64 be)]) =
    (bif decide (n < (0 : Int)) then R (some (V.kn (Value.bool false))) else bif decide (s < (0 : Int)) then R (some (V.kn (Value.bool false))) else bif decide (s > (1099511627776 : Int)) then R (some (V.kn (Value.bool false))) else bif decide (ab < (0 : Int)) then R (some (V.kn (Value.bool false))) else bif decide (ab > (1000 : Int)) then R (some (V.kn (Value.bool false))) else bif decide (be < (0 : Int)) then R (some (V.kn (Value.bool false))) else bif decide (be > (1000 : Int)) then R (some (V.kn (Value.bool false))) else bif decide (n > (2199023255552 : Int)) then R (some (V.kn (Value.bool false))) else bif decide (IntKind.i64.wrap ((1000 : Int) * n) ≥ IntKind.i64.wrap (s * IntKind.i64.wrap ((1000 : Int) - be))) then R (some (V.kn (Value.bool (decide (IntKind.i64.wrap ((1000 : Int) * n) ≤ IntKind.i64.wrap (s * IntKind.i64.wrap ((1000 : Int) + ab))))))) else R (some (V.kn (Value.bool false)))) := by kernel_rfl
theorem rWithin_ok (n s ab be : Int) (hp : True) (good : Cfg → Prop) : arun Try.prog (conOf []) [] good (RetO fun o => o = some (.kn (.bool (withinB n s ab be)))) 400 (entry Try.prog 15 [.kn (.int .i64 n), .kn (.int .i64 s), .kn (.int .i64 ab), .kn (.int .i64 be)]) := by
  rw [rWithin_res]
  have key : 0 ≤ n → 0 ≤ s → s ≤ 1099511627776 → 0 ≤ ab → ab ≤ 1000 → 0 ≤ be → be ≤ 1000 → n ≤ 2199023255552 → (0 ≤ s * be ∧ s * be ≤ 1000 * s) ∧ (0 ≤ s * ab ∧ s * ab ≤ 1000 * s) ∧ IntKind.i64.wrap (1000 * n) = 1000 * n ∧ IntKind.i64.wrap (s * IntKind.i64.wrap (1000 - be)) = 1000 * s - s * be ∧ IntKind.i64.wrap (s * IntKind.i64.wrap (1000 + ab)) = 1000 * s + s * ab := by
    intro h1 h2 h3 h4 h5 h6 h7 h8
    have q1 := mul_part h2 h6 h7
    have q2 := mul_part h2 h4 h5
    have e1 : s * (1000 - be) = 1000 * s - s * be := by rw [Int.mul_sub, Int.mul_comm s 1000]
    have e2 : s * (1000 + ab) = 1000 * s + s * ab := by rw [Int.mul_add, Int.mul_comm s 1000]
    have f1 : IntKind.i64.wrap (1000 - be) = 1000 - be := W_in (by omega) (by omega)
    have f2 : IntKind.i64.wrap (1000 + ab) = 1000 + ab := W_in (by omega) (by omega)
    refine ⟨q1, q2, W_in (by omega) (by omega), ?_, ?_⟩
    · rw [f1, e1]; exact W_in (by omega) (by omega)
    · rw [f2, e2]; exact W_in (by omega) (by omega)
  have keyP : 0 ≤ s → 0 ≤ ab → ab ≤ 1000 → 0 ≤ be → be ≤ 1000 → (0 ≤ s * be ∧ s * be ≤ 1000 * s) ∧ (0 ≤ s * ab ∧ s * ab ≤ 1000 * s) := fun h2 h4 h5 h6 h7 => ⟨mul_part h2 h6 h7, mul_part h2 h4 h5⟩
  have f3 : 0 ≤ s → s ≤ 1099511627776 → IntKind.i64.wrap (2 * s) = 2 * s := fun h1 h2 => W_in (by omega) (by omega)
  repeat' first | exact trivial | refine And.intro ?_ ?_ | refine cond_intro (fun h => ?_) (fun h => ?_)
  all_goals refine ret_bool ?_
  all_goals simp only [decide_eq_true_eq, decide_eq_false_iff_not, Bool.not_eq_true', Bool.not_eq_false'] at *
  all_goals rw [Bool.eq_iff_iff]
  all_goals simp only [withinB, decide_eq_true_eq, Bool.false_eq_true, false_iff, iff_false, iff_true, true_iff]
  
  all_goals first
    | omega
    | (obtain ⟨k1, k2, k3, k4, k5⟩ := key (by omega) (by omega) (by omega) (by omega) (by omega) (by omega) (by omega) (by omega); omega)
    | (intro hh; obtain ⟨k1, k2⟩ := keyP (by omega) (by omega) (by omega) (by omega) (by omega); omega)
theorem rWithin_con : Con Try.prog 15 GrWithin := by
  refine con_of_run (con := conOf []) (hs := []) 400 Try.func15 rfl (by kernel_rfl) conNil ?_
  intro args0 p r hG hp
  unfold GrWithin at hG
  split at hG
  case h_2 => cases hG
  cases hG
  exact ⟨by simp [Try.ntmps15], fun good base w F hb hgood => rWithin_ok _ _ _ _ hp good⟩
def GAllowWithin : PSpec
  | [.kn (.int .i64 n), .kn (.int .i64 s), .kn (.int .i64 ab), .kn (.int .i64 be)] => some (True, .kn (.bool true))
  | _ => none
theorem AllowWithin_res (n s ab be : Int) (good : Cfg → Prop) (R : Option V → Prop) : arun Try.prog (conOf [(14, lift GWithin), (15, lift GrWithin), (11, lift Grbounds), (12, lift Grmost), (13, lift Grleast), (8, lift Glbounds), (7, lift Gawake)]) [] good (RetO R) 1000 (entry Try.prog 4 [.kn (.int .i64 n), .kn (.int .i64 s), .kn (.int .i64 ab), .kn (.int .i64 be)]) =
    (True ∧ True ∧ True ∧ bif !withinB n s ab be == withinB n s ab be then R (some (V.kn (Value.bool false))) else True ∧ True ∧ bif !boundsB s ab be (0 : Int) then R (some (V.kn (Value.bool true))) else True ∧ bif decide (n ≥ rleastI s be) then True ∧ bif withinB n s ab be == decide (n ≤ mostI s ab) then True ∧ R (some (V.kn (Value.bool (withinB s s ab be)))) else R (some (V.kn (Value.bool false))) else bif withinB n s ab be == false then True ∧ R (some (V.kn (Value.bool (withinB s s ab be)))) else R (some (V.kn (Value.bool false)))) := by kernel_rfl
theorem AllowWithin_ok (n s ab be : Int) (hp : True) (good : Cfg → Prop) : arun Try.prog (conOf [(14, lift GWithin), (15, lift GrWithin), (11, lift Grbounds), (12, lift Grmost), (13, lift Grleast), (8, lift Glbounds), (7, lift Gawake)]) [] good (RetO fun o => o = some (.kn (.bool true))) 1000 (entry Try.prog 4 [.kn (.int .i64 n), .kn (.int .i64 s), .kn (.int .i64 ab), .kn (.int .i64 be)]) := by
  rw [AllowWithin_res]
  have hw : (!withinB n s ab be == withinB n s ab be) = false := by simp
  rw [hw]
  cases hb : boundsB s ab be 0 with
  | false => simp
  | true =>
    obtain ⟨b1, b2, b3, b4, b5, b6, b7, b8⟩ := boundsB_iff.1 hb
    have h0 : 0 ≤ s := by omega
    have e1 := mostI_eq h0 b2 b3 b4
    have e3 := rleastI_eq h0 b2 b5 b6
    have q1 := mul_part h0 b3 b4
    have q2 := mul_part h0 b5 b6
    have d1 : withinB s s ab be = true := by unfold withinB; exact decide_eq_true (by omega)
    have d2 : withinB n s ab be = (decide (n ≥ rleastI s be) && decide (n ≤ mostI s ab)) := by
      rw [e1, e3, Bool.eq_iff_iff]; simp only [withinB, Bool.and_eq_true, decide_eq_true_eq]; omega
    rw [d1, d2]
    cases decide (n ≥ rleastI s be) <;> cases decide (n ≤ mostI s ab) <;> simp
theorem AllowWithin_con : Con Try.prog 4 GAllowWithin := by
  refine con_of_run (con := conOf [(14, lift GWithin), (15, lift GrWithin), (11, lift Grbounds), (12, lift Grmost), (13, lift Grleast), (8, lift Glbounds), (7, lift Gawake)]) (hs := []) 1000 Try.func4 rfl (by kernel_rfl) (conCons Within_con (conCons rWithin_con (conCons rbounds_con (conCons rmost_con (conCons rleast_con (conCons lbounds_con (conCons awake_con conNil))))))) ?_
  intro args0 p r hG hp
  unfold GAllowWithin at hG
  split at hG
  case h_2 => cases hG
  cases hG
  exact ⟨by simp [Try.ntmps4], fun good base w F hb hgood => AllowWithin_ok _ _ _ _ hp good⟩
theorem AllowWithin_walk (W : World) {u0 u1 u2 u3 : V} {v0 v1 v2 v3 : Value} (o0 : VOK (.int .i64) u0) (e0 : RV (whole W) sig0 u0 v0) (o1 : VOK (.int .i64) u1) (e1 : RV (whole W) sig0 u1 v1) (o2 : VOK (.int .i64) u2) (e2 : RV (whole W) sig0 u2 v2) (o3 : VOK (.int .i64) u3) (e3 : RV (whole W) sig0 u3 v3) : Calls Try.prog 4 #[v0, v1, v2, v3] W fun e w' => e = .returned (.bool true) ∧ Below W.heap.size W w' := by
  cases o0
  cases o1
  cases o2
  cases o3
  exact law_calls (con := conOf [(14, lift GWithin), (15, lift GrWithin), (11, lift Grbounds), (12, lift Grmost), (13, lift Grleast), (8, lift Glbounds), (7, lift Gawake)]) (hs := []) 1000 Try.func4 rfl (by kernel_rfl) (conCons Within_con (conCons rWithin_con (conCons rbounds_con (conCons rmost_con (conCons rleast_con (conCons lbounds_con (conCons awake_con conNil))))))) (args := [_, _, _, _]) ⟨e0, e1, e2, e3, trivial⟩ (by simp [Try.ntmps4]) fun good _ _ => AllowWithin_ok _ _ _ _ trivial good

end Go.Proofs.Ytojlkbcenimcjaa
