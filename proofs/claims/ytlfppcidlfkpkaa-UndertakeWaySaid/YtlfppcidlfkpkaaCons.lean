/- What is proved: contracts of functions of one seat, each by the executor; written by a program of the prover (gen.py) and by hand. Conditions: each contract names its own. -/
import Derived.Test.YtlfppcidlfkpkaaAw2
import Derived.Test.YtlfppcidlfkpkaaProg
import Derived.KernelRfl
import Derived.IntWalk
import Derived.Laws.RangeString
import Derived.Laws.RangeAny
namespace Go.Proofs.Ytlfppcidlfkpkaa
open Go Go.Aw Go.RowKit
set_option linter.unusedVariables false
set_option linter.unusedSimpArgs false
set_option maxRecDepth 10000
structure Draw where
  day : Int
  amt : Int
def eDraw : Enc Draw where
  s := 2
  toV d := [.kn (.int .i64 d.day), .kn (.int .i64 d.amt)]
  ofV c := match c with | [x0, x1] => ⟨vInt x0, vInt x1⟩ | _ => ⟨0, 0⟩
  dflt := ⟨0, 0⟩
  inv d := by rfl
  len d := rfl
def eDraw_wf (d : Draw) : Prop := inI64 d.day ∧ inI64 d.amt

structure Event where
  kind : Int
  party : ByteArray
  day : Int
  amt : Int
def eEvent : Enc Event where
  s := 4
  toV d := [.kn (.int .i64 d.kind), .kn (.string d.party), .kn (.int .i64 d.day), .kn (.int .i64 d.amt)]
  ofV c := match c with | [x0, x1, x2, x3] => ⟨vInt x0, vStr x1, vInt x2, vInt x3⟩ | _ => ⟨0, ByteArray.empty, 0, 0⟩
  dflt := ⟨0, ByteArray.empty, 0, 0⟩
  inv d := by rfl
  len d := rfl
def eEvent_wf (d : Event) : Prop := inI64 d.kind ∧ d.party.size ≤ maxLen ∧ inI64 d.day ∧ inI64 d.amt

def W (n : Int) : Int := IntKind.i64.wrap n
def sumW (xs : List Draw) : Int := xs.foldl (fun a d => W (a + d.amt)) 0
def okAt (xs : List Draw) (i : Nat) : Prop := 1 ≤ (xs.getD i eDraw.dflt).amt ∧ (xs.getD i eDraw.dflt).amt ≤ 1099511627776 ∧ 0 ≤ (xs.getD i eDraw.dflt).day ∧ (xs.getD i eDraw.dflt).day ≤ 1048576 ∧ (0 < i → (xs.getD (i - 1) eDraw.dflt).day ≤ (xs.getD i eDraw.dflt).day)
def rightP (xs : List Draw) : Prop := (∀ i, i < xs.length → okAt xs i) ∧ xs.length ≤ 4096
def boundsB (amt ab be ex : Int) : Bool := decide (1 ≤ amt ∧ amt ≤ 1099511627776 ∧ 0 ≤ ab ∧ ab ≤ 1000 ∧ 0 ≤ be ∧ be ≤ 1000 ∧ 0 ≤ ex ∧ ex ≤ 1048576)
def mostI (amt ab : Int) : Int := W ((W (amt * W (1000 + ab))).tdiv 1000)
def leastI (amt be : Int) : Int := W ((W (W (W (amt * W (1000 - be)) + 1000) - 1)).tdiv 1000)
noncomputable def mayI (amt ab be ex : Int) (pa : Bool) (xs : List Draw) (day am : Int) : Int :=
  bif !boundsB amt ab be ex || !bP (rightP (xs ++ [⟨day, am⟩])) then 1 else bif decide (day > ex) then 11 else bif !pa && decide ((xs.length : Int) > 0) then 9 else bif decide (sumW (xs ++ [⟨day, am⟩]) > mostI amt ab) then 10 else bif !pa && decide (am < leastI amt be) then 3 else 0
noncomputable def leftI (amt ab be ex : Int) (xs : List Draw) : Int := bif !boundsB amt ab be ex || !bP (rightP xs) then 0 else if 0 > W (mostI amt ab - sumW xs) then 0 else W (mostI amt ab - sumW xs)

def within_pre (n a b : Int) : Prop := True
noncomputable def within_val (n a b : Int) : V := .kn (.bool (decide (a ≤ n ∧ n ≤ b)))
noncomputable def Gwithin : PSpec
  | [.kn (.int .i64 n), .kn (.int .i64 a), .kn (.int .i64 b)] => some (within_pre n a b, within_val n a b)
  | _ => none
theorem within_res (n a b : Int) (good : Cfg → Prop) (R : Option V → Prop) : arun Try.prog (conOf []) (0, []) good (RetO (R)) 400 (entry Try.prog 72 [.kn (.int .i64 n), .kn (.int .i64 a), .kn (.int .i64 b)]) =
    (bif decide (n ≥ a) then R (some (V.kn (Value.bool (decide (n ≤ b))))) else R (some (V.kn (Value.bool false)))) := by kernel_rfl
theorem within_ok (n a b : Int) (hp : within_pre n a b) (good : Cfg → Prop) (hstep : ∀ c, arun Try.prog (conOf []) (0, []) good (RetO (Tells (within_val n a b))) 400 (c) → good c) (hext : ∀ c c', CfgExt c c' → good c' → good c) (hle : ∀ c c', CfgLe 0 c c' → good c' → good c) : arun Try.prog (conOf []) (0, []) good (RetO (Tells (within_val n a b))) 400 (entry Try.prog 72 [.kn (.int .i64 n), .kn (.int .i64 a), .kn (.int .i64 b)]) := by
  rw [within_res]
  repeat' first | exact trivial | refine And.intro ?_ ?_ | refine cond_intro (fun h => ?_) (fun h => ?_)
  all_goals refine tell_bool ?_
  all_goals simp only [decide_eq_true_eq, decide_eq_false_iff_not] at *
  all_goals rw [Bool.eq_iff_iff]
  all_goals simp
  all_goals omega
theorem within_con : SpecOK Try.prog 72 (lift Gwithin) := by
  refine con_of_run3 (con := conOf []) (hs := (0, [])) 400 Try.func72 rfl (by kernel_rfl) rfl conNil ?_
  intro args0 p r hG hp
  unfold Gwithin at hG
  split at hG
  case h_2 => cases hG
  rename_i n a b
  cases hG
  exact ⟨[.kn (.int .i64 n), .kn (.int .i64 a), .kn (.int .i64 b)], ⟨VExt.refl _, VExt.refl _, VExt.refl _, trivial⟩, by simp [Try.ntmps72], fun good hstep hext hle => within_ok _ _ _ hp good hstep hext hle⟩
def sum_pre  (xs : List Draw) : Prop := True
noncomputable def sum_val  (xs : List Draw) : V := .kn (.int .i64 (sumW xs))
noncomputable def Gsum : PSpec
  | [.list s_xs n_xs f_xs] => some (eDraw.okl s_xs n_xs f_xs ∧ sum_pre (eDraw.dl n_xs f_xs), sum_val (eDraw.dl n_xs f_xs))
  | _ => none
theorem sum_res  (xs : List Draw) (good : Cfg → Prop) (R : Option V → Prop) : arun Try.prog (conOf []) (0, [(80, 3, [3, 6, 7, 8], [])]) good (RetO (R)) 400 (entry Try.prog 80 [.list eDraw.s xs.length (eDraw.tl xs)]) =
    (good { fr := { fn := (80 : Nat), nt := (18 : Nat), t := [((3 : Nat), V.kn (Value.int IntKind.i64 (0 : Int))), ((6 : Nat), V.list (2 : Nat) xs.length (eDraw.tl xs)), ((7 : Nat), V.kn (Value.int IntKind.i64 (↑xs.length : Int))), ((8 : Nat), V.kn (Value.int IntKind.i64 (0 : Int)))], k := loopK Try.prog (80 : Nat) (3 : Nat) }, cs := [], h := [] }) := by kernel_rfl
@[reducible] noncomputable def sum_c3 (xs : List Draw) (i acc : Int) : Cfg := ⟨⟨80, 18, [(3, .kn (.int .i64 acc)), (6, .list eDraw.s xs.length (eDraw.tl xs)), (7, .kn (.int .i64 xs.length)), (8, .kn (.int .i64 i))], loopK Try.prog 80 3⟩, [], []⟩
theorem sum_l3 (xs : List Draw) (i acc : Int) (good : Cfg → Prop) (R : Option V → Prop) : arun Try.prog (conOf []) (0, [(80, 3, [3, 6, 7, 8], [])]) good (RetO (R)) 400 (sum_c3 xs i acc) =
    (bif decide (i < (↑xs.length : Int)) then ((0 : Int) ≤ i ∧ i < (↑xs.length : Int)) ∧ good { fr := { fn := (80 : Nat), nt := (18 : Nat), t := [((3 : Nat), V.kn (Value.int IntKind.i64 (IntKind.i64.wrap (acc + (xs.getD i.toNat eDraw.dflt).amt)))), ((6 : Nat), V.list (2 : Nat) xs.length (eDraw.tl xs)), ((7 : Nat), V.kn (Value.int IntKind.i64 (↑xs.length : Int))), ((8 : Nat), V.kn (Value.int IntKind.i64 (IntKind.i64.wrap (i + (1 : Int)))))], k := loopK Try.prog (80 : Nat) (3 : Nat) }, cs := [], h := [] } else R (some (V.kn (Value.int IntKind.i64 acc)))) := by kernel_rfl
theorem sum_ok  (xs : List Draw) (len_xs : xs.length ≤ maxLen) (hp : sum_pre xs) (good : Cfg → Prop) (hstep : ∀ c, arun Try.prog (conOf []) (0, [(80, 3, [3, 6, 7, 8], [])]) good (RetO (Tells (sum_val xs))) 400 (c) → good c) (hext : ∀ c c', CfgExt c c' → good c' → good c) (hle : ∀ c c', CfgLe 0 c c' → good c' → good c) : arun Try.prog (conOf []) (0, [(80, 3, [3, 6, 7, 8], [])]) good (RetO (Tells (sum_val xs))) 400 (entry Try.prog 80 [.list eDraw.s xs.length (eDraw.tl xs)]) := by
  rw [sum_res]
  refine foreach xs (fun i (acc : Int) => acc = sumW (xs.take i)) (fun i acc => sum_c3 xs i acc) (fun i acc hi hv ih => ?_) (fun acc hv => ?_) 0 rfl
  · apply hstep
    rw [sum_l3]
    refine cond_true' (decide_eq_true (by omega)) ⟨⟨by omega, by omega⟩, ?_⟩
    rw [wrap_succ hi len_xs, getD_int _ hi]
    exact ih _ (by rw [take_at hi, sumW, List.foldl_append, hv]; rfl)
  · apply hstep
    rw [sum_l3]
    refine cond_false' (decide_eq_false (by omega)) (tell ?_)
    rw [hv, List.take_of_length_le (Nat.le_refl _), sum_val]
theorem sum_con : SpecOK Try.prog 80 (lift Gsum) := by
  refine con_of_run3 (con := conOf []) (hs := (0, [(80, 3, [3, 6, 7, 8], [])])) 400 Try.func80 rfl (by kernel_rfl) rfl conNil ?_
  intro args0 p r hG hp
  unfold Gsum at hG
  split at hG
  case h_2 => cases hG
  rename_i s_xs n_xs f_xs
  cases hG
  obtain ⟨ok_xs, hp⟩ := hp
  exact ⟨[.list eDraw.s (eDraw.dl n_xs f_xs).length (eDraw.tl (eDraw.dl n_xs f_xs))], ⟨eDraw.extl ok_xs, trivial⟩, by simp [Try.ntmps80], fun good hstep hext hle => sum_ok _ (by rw [eDraw.dl_length]; exact ok_xs.2.1) hp good hstep hext hle⟩
def right_pre  (xs : List Draw) : Prop := True
noncomputable def right_val  (xs : List Draw) : V := .kn (.bool (bP (rightP xs)))
noncomputable def Gright : PSpec
  | [.list s_xs n_xs f_xs] => some (eDraw.okl s_xs n_xs f_xs ∧ right_pre (eDraw.dl n_xs f_xs), right_val (eDraw.dl n_xs f_xs))
  | _ => none
theorem right_res  (xs : List Draw) (good : Cfg → Prop) (R : Option V → Prop) : arun Try.prog (conOf [(72, lift Gwithin)]) (0, [(76, 2, [0, 5, 6, 7], [])]) good (RetO (R)) 400 (entry Try.prog 76 [.list eDraw.s xs.length (eDraw.tl xs)]) =
    (good { fr := { fn := (76 : Nat), nt := (41 : Nat), t := [((0 : Nat), V.list (2 : Nat) xs.length (eDraw.tl xs)), ((5 : Nat), V.list (2 : Nat) xs.length (eDraw.tl xs)), ((6 : Nat), V.kn (Value.int IntKind.i64 (↑xs.length : Int))), ((7 : Nat), V.kn (Value.int IntKind.i64 (0 : Int)))], k := loopK Try.prog (76 : Nat) (2 : Nat) }, cs := [], h := [] }) := by kernel_rfl
@[reducible] noncomputable def right_c2 (xs : List Draw) (i : Int) : Cfg := ⟨⟨76, 41, [(0, .list eDraw.s xs.length (eDraw.tl xs)), (5, .list eDraw.s xs.length (eDraw.tl xs)), (6, .kn (.int .i64 xs.length)), (7, .kn (.int .i64 i))], loopK Try.prog 76 2⟩, [], []⟩
theorem right_l2 (xs : List Draw) (i : Int) (good : Cfg → Prop) (R : Option V → Prop) : arun Try.prog (conOf [(72, lift Gwithin)]) (0, [(76, 2, [0, 5, 6, 7], [])]) good (RetO (R)) 400 (right_c2 xs i) =
    (bif decide (i < (↑xs.length : Int)) then ((0 : Int) ≤ i ∧ i < (↑xs.length : Int)) ∧ within_pre (xs.getD i.toNat eDraw.dflt).amt (1 : Int) (1099511627776 : Int) ∧ bif !decide ((1 : Int) ≤ (xs.getD i.toNat eDraw.dflt).amt ∧ (xs.getD i.toNat eDraw.dflt).amt ≤ (1099511627776 : Int)) then R (some (V.kn (Value.bool false))) else within_pre (xs.getD i.toNat eDraw.dflt).day (0 : Int) (1048576 : Int) ∧ bif !decide ((0 : Int) ≤ (xs.getD i.toNat eDraw.dflt).day ∧ (xs.getD i.toNat eDraw.dflt).day ≤ (1048576 : Int)) then R (some (V.kn (Value.bool false))) else bif decide (i > (0 : Int)) then ((0 : Int) ≤ IntKind.i64.wrap (i - (1 : Int)) ∧ IntKind.i64.wrap (i - (1 : Int)) < (↑xs.length : Int)) ∧ bif decide ((xs.getD i.toNat eDraw.dflt).day < (xs.getD (IntKind.i64.wrap (i - (1 : Int))).toNat eDraw.dflt).day) then R (some (V.kn (Value.bool false))) else good { fr := { fn := (76 : Nat), nt := (41 : Nat), t := [((0 : Nat), V.list (2 : Nat) xs.length (eDraw.tl xs)), ((5 : Nat), V.list (2 : Nat) xs.length (eDraw.tl xs)), ((6 : Nat), V.kn (Value.int IntKind.i64 (↑xs.length : Int))), ((7 : Nat), V.kn (Value.int IntKind.i64 (IntKind.i64.wrap (i + (1 : Int)))))], k := loopK Try.prog (76 : Nat) (2 : Nat) }, cs := [], h := [] } else good { fr := { fn := (76 : Nat), nt := (41 : Nat), t := [((0 : Nat), V.list (2 : Nat) xs.length (eDraw.tl xs)), ((5 : Nat), V.list (2 : Nat) xs.length (eDraw.tl xs)), ((6 : Nat), V.kn (Value.int IntKind.i64 (↑xs.length : Int))), ((7 : Nat), V.kn (Value.int IntKind.i64 (IntKind.i64.wrap (i + (1 : Int)))))], k := loopK Try.prog (76 : Nat) (2 : Nat) }, cs := [], h := [] } else R (some (V.kn (Value.bool (decide ((↑xs.length : Int) ≤ (4096 : Int))))))) := by kernel_rfl
theorem right_ok  (xs : List Draw) (len_xs : xs.length ≤ maxLen) (hp : right_pre xs) (good : Cfg → Prop) (hstep : ∀ c, arun Try.prog (conOf [(72, lift Gwithin)]) (0, [(76, 2, [0, 5, 6, 7], [])]) good (RetO (Tells (right_val xs))) 400 (c) → good c) (hext : ∀ c c', CfgExt c c' → good c' → good c) (hle : ∀ c c', CfgLe 0 c c' → good c' → good c) : arun Try.prog (conOf [(72, lift Gwithin)]) (0, [(76, 2, [0, 5, 6, 7], [])]) good (RetO (Tells (right_val xs))) 400 (entry Try.prog 76 [.list eDraw.s xs.length (eDraw.tl xs)]) := by
  rw [right_res]
  refine foreach xs (fun i (_ : Unit) => ∀ j, j < i → okAt xs j) (fun i _ => right_c2 xs i) (fun i _ hi hv ih => ?_) (fun _ hv => ?_) () (fun j hj => by omega)
  · apply hstep
    rw [right_l2]
    have hm : maxLen = 9223372036854775807 := rfl
    have e1 : (i : Int).toNat = i := by omega
    have fin : okAt xs i → ∀ j, j < i + 1 → okAt xs j := fun h j hj => by
      by_cases hji : j = i
      · subst hji; exact h
      · exact hv j (by omega)
    have bad : ¬ okAt xs i → Tells (right_val xs) (some (.kn (.bool false))) := fun h => tell_false fun hr => h (hr.1 i hi)
    refine cond_true' (decide_eq_true (by omega)) ⟨⟨by omega, by omega⟩, trivial, cond_intro (fun h => bad fun ho => ?_) (fun h => ⟨trivial, cond_intro (fun h2 => bad fun ho => ?_) (fun h2 => ?_)⟩)⟩
    · rw [e1] at h; simp only [Bool.not_eq_true', decide_eq_false_iff_not] at h; have := ho.1; have := ho.2.1; omega
    · rw [e1] at h2; simp only [Bool.not_eq_true', decide_eq_false_iff_not] at h2; have := ho.2.2.1; have := ho.2.2.2.1; omega
    rw [e1] at h h2 ⊢
    simp only [Bool.not_eq_false', decide_eq_true_eq] at h h2
    rw [wrap_succ hi len_xs]
    refine cond_intro (fun h3 => ?_) (fun h3 => ?_)
    · have h3' : (0 : Int) < i := by simpa using h3
      rw [wrap_in (by omega) (by omega)]
      have e2 : ((i : Int) - 1).toNat = i - 1 := by omega
      rw [e2]
      refine ⟨⟨by omega, by omega⟩, cond_intro (fun h4 => bad fun ho => ?_) (fun h4 => ih () (fin ⟨h.1, h.2, h2.1, h2.2, fun _ => ?_⟩))⟩
      · have := ho.2.2.2.2 (by omega); simp only [decide_eq_true_eq] at h4; omega
      · simp only [decide_eq_false_iff_not] at h4; omega
    · have h3' : ¬ (0 : Int) < i := by simpa using h3
      exact ih () (fin ⟨h.1, h.2, h2.1, h2.2, fun _ => by omega⟩)
  · apply hstep
    rw [right_l2]
    refine cond_false' (decide_eq_false (by omega)) (tell_iff ?_)
    rw [decide_eq_true_eq]
    exact ⟨fun h => ⟨hv, by omega⟩, fun h => by have := h.2; omega⟩
theorem right_con : SpecOK Try.prog 76 (lift Gright) := by
  refine con_of_run3 (con := conOf [(72, lift Gwithin)]) (hs := (0, [(76, 2, [0, 5, 6, 7], [])])) 400 Try.func76 rfl (by kernel_rfl) rfl (conCons within_con conNil) ?_
  intro args0 p r hG hp
  unfold Gright at hG
  split at hG
  case h_2 => cases hG
  rename_i s_xs n_xs f_xs
  cases hG
  obtain ⟨ok_xs, hp⟩ := hp
  exact ⟨[.list eDraw.s (eDraw.dl n_xs f_xs).length (eDraw.tl (eDraw.dl n_xs f_xs))], ⟨eDraw.extl ok_xs, trivial⟩, by simp [Try.ntmps76], fun good hstep hext hle => right_ok _ (by rw [eDraw.dl_length]; exact ok_xs.2.1) hp good hstep hext hle⟩
def abounds_pre (yn ya yb yi yc yf yt yu : ByteArray) (amt ab be xl ex xw xt : Int) (pa ch : Bool) (sn nn : Nat) (fx : Nat → List V) : Prop := True
noncomputable def abounds_val (yn ya yb yi yc yf yt yu : ByteArray) (amt ab be xl ex xw xt : Int) (pa ch : Bool) (sn nn : Nat) (fx : Nat → List V) : V := .kn (.bool (boundsB amt ab be ex))
noncomputable def Gabounds : PSpec
  | [.agg [.kn (.string yn), .kn (.string ya), .kn (.string yb), .kn (.string yi), .kn (.string yc), .kn (.string yf), .kn (.string yt), .kn (.string yu), .kn (.int .i64 amt), .kn (.int .i64 ab), .kn (.int .i64 be), .kn (.int .i64 xl), .kn (.int .i64 ex), .kn (.int .i64 xw), .kn (.int .i64 xt), .kn (.bool pa), .kn (.bool ch), .list sn nn fx]] => some (abounds_pre yn ya yb yi yc yf yt yu amt ab be xl ex xw xt pa ch sn nn fx, abounds_val yn ya yb yi yc yf yt yu amt ab be xl ex xw xt pa ch sn nn fx)
  | _ => none
theorem abounds_res (yn ya yb yi yc yf yt yu : ByteArray) (amt ab be xl ex xw xt : Int) (pa ch : Bool) (sn nn : Nat) (fx : Nat → List V) (good : Cfg → Prop) (R : Option V → Prop) : arun Try.prog (conOf [(72, lift Gwithin)]) (0, []) good (RetO (R)) 400 (entry Try.prog 60 [.agg [.kn (.string yn), .kn (.string ya), .kn (.string yb), .kn (.string yi), .kn (.string yc), .kn (.string yf), .kn (.string yt), .kn (.string yu), .kn (.int .i64 amt), .kn (.int .i64 ab), .kn (.int .i64 be), .kn (.int .i64 xl), .kn (.int .i64 ex), .kn (.int .i64 xw), .kn (.int .i64 xt), .kn (.bool pa), .kn (.bool ch), .list sn nn fx]]) =
    (within_pre amt (1 : Int) (1099511627776 : Int) ∧ bif decide ((1 : Int) ≤ amt ∧ amt ≤ (1099511627776 : Int)) then within_pre ab (0 : Int) (1000 : Int) ∧ bif decide ((0 : Int) ≤ ab ∧ ab ≤ (1000 : Int)) then within_pre be (0 : Int) (1000 : Int) ∧ bif decide ((0 : Int) ≤ be ∧ be ≤ (1000 : Int)) then within_pre ex (0 : Int) (1048576 : Int) ∧ R (some (V.kn (Value.bool (decide ((0 : Int) ≤ ex ∧ ex ≤ (1048576 : Int)))))) else R (some (V.kn (Value.bool false))) else R (some (V.kn (Value.bool false))) else R (some (V.kn (Value.bool false)))) := by kernel_rfl
theorem abounds_ok (yn ya yb yi yc yf yt yu : ByteArray) (amt ab be xl ex xw xt : Int) (pa ch : Bool) (sn nn : Nat) (fx : Nat → List V) (hp : abounds_pre yn ya yb yi yc yf yt yu amt ab be xl ex xw xt pa ch sn nn fx) (good : Cfg → Prop) (hstep : ∀ c, arun Try.prog (conOf [(72, lift Gwithin)]) (0, []) good (RetO (Tells (abounds_val yn ya yb yi yc yf yt yu amt ab be xl ex xw xt pa ch sn nn fx))) 400 (c) → good c) (hext : ∀ c c', CfgExt c c' → good c' → good c) (hle : ∀ c c', CfgLe 0 c c' → good c' → good c) : arun Try.prog (conOf [(72, lift Gwithin)]) (0, []) good (RetO (Tells (abounds_val yn ya yb yi yc yf yt yu amt ab be xl ex xw xt pa ch sn nn fx))) 400 (entry Try.prog 60 [.agg [.kn (.string yn), .kn (.string ya), .kn (.string yb), .kn (.string yi), .kn (.string yc), .kn (.string yf), .kn (.string yt), .kn (.string yu), .kn (.int .i64 amt), .kn (.int .i64 ab), .kn (.int .i64 be), .kn (.int .i64 xl), .kn (.int .i64 ex), .kn (.int .i64 xw), .kn (.int .i64 xt), .kn (.bool pa), .kn (.bool ch), .list sn nn fx]]) := by
  rw [abounds_res]
  repeat' first | exact trivial | refine And.intro ?_ ?_ | refine cond_intro (fun h => ?_) (fun h => ?_)
  all_goals refine tell_bool ?_
  all_goals simp only [decide_eq_true_eq, decide_eq_false_iff_not] at *
  all_goals rw [Bool.eq_iff_iff]
  all_goals simp [boundsB]
  all_goals omega
set_option maxHeartbeats 2000000 in
theorem abounds_con : SpecOK Try.prog 60 (lift Gabounds) := by
  refine con_of_run3 (con := conOf [(72, lift Gwithin)]) (hs := (0, [])) 400 Try.func60 rfl (by kernel_rfl) rfl (conCons within_con conNil) ?_
  intro args0 p r hG hp
  unfold Gabounds at hG
  split at hG
  case h_2 => cases hG
  rename_i yn ya yb yi yc yf yt yu amt ab be xl ex xw xt pa ch sn nn fx
  cases hG
  exact ⟨[.agg [.kn (.string yn), .kn (.string ya), .kn (.string yb), .kn (.string yi), .kn (.string yc), .kn (.string yf), .kn (.string yt), .kn (.string yu), .kn (.int .i64 amt), .kn (.int .i64 ab), .kn (.int .i64 be), .kn (.int .i64 xl), .kn (.int .i64 ex), .kn (.int .i64 xw), .kn (.int .i64 xt), .kn (.bool pa), .kn (.bool ch), .list sn nn fx]], ⟨VExt.refl _, trivial⟩, by simp [Try.ntmps60], fun good hstep hext hle => abounds_ok _ _ _ _ _ _ _ _ _ _ _ _ _ _ _ _ _ _ _ _ hp good hstep hext hle⟩
def amost_pre (yn ya yb yi yc yf yt yu : ByteArray) (amt ab be xl ex xw xt : Int) (pa ch : Bool) (sn nn : Nat) (fx : Nat → List V) : Prop := True
noncomputable def amost_val (yn ya yb yi yc yf yt yu : ByteArray) (amt ab be xl ex xw xt : Int) (pa ch : Bool) (sn nn : Nat) (fx : Nat → List V) : V := .kn (.int .i64 (mostI amt ab))
noncomputable def Gamost : PSpec
  | [.agg [.kn (.string yn), .kn (.string ya), .kn (.string yb), .kn (.string yi), .kn (.string yc), .kn (.string yf), .kn (.string yt), .kn (.string yu), .kn (.int .i64 amt), .kn (.int .i64 ab), .kn (.int .i64 be), .kn (.int .i64 xl), .kn (.int .i64 ex), .kn (.int .i64 xw), .kn (.int .i64 xt), .kn (.bool pa), .kn (.bool ch), .list sn nn fx]] => some (amost_pre yn ya yb yi yc yf yt yu amt ab be xl ex xw xt pa ch sn nn fx, amost_val yn ya yb yi yc yf yt yu amt ab be xl ex xw xt pa ch sn nn fx)
  | _ => none
theorem amost_res (yn ya yb yi yc yf yt yu : ByteArray) (amt ab be xl ex xw xt : Int) (pa ch : Bool) (sn nn : Nat) (fx : Nat → List V) (good : Cfg → Prop) (R : Option V → Prop) : arun Try.prog (conOf []) (0, []) good (RetO (R)) 400 (entry Try.prog 61 [.agg [.kn (.string yn), .kn (.string ya), .kn (.string yb), .kn (.string yi), .kn (.string yc), .kn (.string yf), .kn (.string yt), .kn (.string yu), .kn (.int .i64 amt), .kn (.int .i64 ab), .kn (.int .i64 be), .kn (.int .i64 xl), .kn (.int .i64 ex), .kn (.int .i64 xw), .kn (.int .i64 xt), .kn (.bool pa), .kn (.bool ch), .list sn nn fx]]) =
    (R (some (V.kn (Value.int IntKind.i64 (IntKind.i64.wrap ((IntKind.i64.wrap (amt * IntKind.i64.wrap ((1000 : Int) + ab))).tdiv (1000 : Int))))))) := by kernel_rfl
theorem amost_ok (yn ya yb yi yc yf yt yu : ByteArray) (amt ab be xl ex xw xt : Int) (pa ch : Bool) (sn nn : Nat) (fx : Nat → List V) (hp : amost_pre yn ya yb yi yc yf yt yu amt ab be xl ex xw xt pa ch sn nn fx) (good : Cfg → Prop) (hstep : ∀ c, arun Try.prog (conOf []) (0, []) good (RetO (Tells (amost_val yn ya yb yi yc yf yt yu amt ab be xl ex xw xt pa ch sn nn fx))) 400 (c) → good c) (hext : ∀ c c', CfgExt c c' → good c' → good c) (hle : ∀ c c', CfgLe 0 c c' → good c' → good c) : arun Try.prog (conOf []) (0, []) good (RetO (Tells (amost_val yn ya yb yi yc yf yt yu amt ab be xl ex xw xt pa ch sn nn fx))) 400 (entry Try.prog 61 [.agg [.kn (.string yn), .kn (.string ya), .kn (.string yb), .kn (.string yi), .kn (.string yc), .kn (.string yf), .kn (.string yt), .kn (.string yu), .kn (.int .i64 amt), .kn (.int .i64 ab), .kn (.int .i64 be), .kn (.int .i64 xl), .kn (.int .i64 ex), .kn (.int .i64 xw), .kn (.int .i64 xt), .kn (.bool pa), .kn (.bool ch), .list sn nn fx]]) := by
  rw [amost_res]
  exact tell rfl
set_option maxHeartbeats 2000000 in
theorem amost_con : SpecOK Try.prog 61 (lift Gamost) := by
  refine con_of_run3 (con := conOf []) (hs := (0, [])) 400 Try.func61 rfl (by kernel_rfl) rfl conNil ?_
  intro args0 p r hG hp
  unfold Gamost at hG
  split at hG
  case h_2 => cases hG
  rename_i yn ya yb yi yc yf yt yu amt ab be xl ex xw xt pa ch sn nn fx
  cases hG
  exact ⟨[.agg [.kn (.string yn), .kn (.string ya), .kn (.string yb), .kn (.string yi), .kn (.string yc), .kn (.string yf), .kn (.string yt), .kn (.string yu), .kn (.int .i64 amt), .kn (.int .i64 ab), .kn (.int .i64 be), .kn (.int .i64 xl), .kn (.int .i64 ex), .kn (.int .i64 xw), .kn (.int .i64 xt), .kn (.bool pa), .kn (.bool ch), .list sn nn fx]], ⟨VExt.refl _, trivial⟩, by simp [Try.ntmps61], fun good hstep hext hle => amost_ok _ _ _ _ _ _ _ _ _ _ _ _ _ _ _ _ _ _ _ _ hp good hstep hext hle⟩
def aleast_pre (yn ya yb yi yc yf yt yu : ByteArray) (amt ab be xl ex xw xt : Int) (pa ch : Bool) (sn nn : Nat) (fx : Nat → List V) : Prop := True
noncomputable def aleast_val (yn ya yb yi yc yf yt yu : ByteArray) (amt ab be xl ex xw xt : Int) (pa ch : Bool) (sn nn : Nat) (fx : Nat → List V) : V := .kn (.int .i64 (leastI amt be))
noncomputable def Galeast : PSpec
  | [.agg [.kn (.string yn), .kn (.string ya), .kn (.string yb), .kn (.string yi), .kn (.string yc), .kn (.string yf), .kn (.string yt), .kn (.string yu), .kn (.int .i64 amt), .kn (.int .i64 ab), .kn (.int .i64 be), .kn (.int .i64 xl), .kn (.int .i64 ex), .kn (.int .i64 xw), .kn (.int .i64 xt), .kn (.bool pa), .kn (.bool ch), .list sn nn fx]] => some (aleast_pre yn ya yb yi yc yf yt yu amt ab be xl ex xw xt pa ch sn nn fx, aleast_val yn ya yb yi yc yf yt yu amt ab be xl ex xw xt pa ch sn nn fx)
  | _ => none
theorem aleast_res (yn ya yb yi yc yf yt yu : ByteArray) (amt ab be xl ex xw xt : Int) (pa ch : Bool) (sn nn : Nat) (fx : Nat → List V) (good : Cfg → Prop) (R : Option V → Prop) : arun Try.prog (conOf []) (0, []) good (RetO (R)) 400 (entry Try.prog 82 [.agg [.kn (.string yn), .kn (.string ya), .kn (.string yb), .kn (.string yi), .kn (.string yc), .kn (.string yf), .kn (.string yt), .kn (.string yu), .kn (.int .i64 amt), .kn (.int .i64 ab), .kn (.int .i64 be), .kn (.int .i64 xl), .kn (.int .i64 ex), .kn (.int .i64 xw), .kn (.int .i64 xt), .kn (.bool pa), .kn (.bool ch), .list sn nn fx]]) =
    (R (some (V.kn (Value.int IntKind.i64 (IntKind.i64.wrap ((IntKind.i64.wrap (IntKind.i64.wrap (IntKind.i64.wrap (amt * IntKind.i64.wrap ((1000 : Int) - be)) + (1000 : Int)) - (1 : Int))).tdiv (1000 : Int))))))) := by kernel_rfl
theorem aleast_ok (yn ya yb yi yc yf yt yu : ByteArray) (amt ab be xl ex xw xt : Int) (pa ch : Bool) (sn nn : Nat) (fx : Nat → List V) (hp : aleast_pre yn ya yb yi yc yf yt yu amt ab be xl ex xw xt pa ch sn nn fx) (good : Cfg → Prop) (hstep : ∀ c, arun Try.prog (conOf []) (0, []) good (RetO (Tells (aleast_val yn ya yb yi yc yf yt yu amt ab be xl ex xw xt pa ch sn nn fx))) 400 (c) → good c) (hext : ∀ c c', CfgExt c c' → good c' → good c) (hle : ∀ c c', CfgLe 0 c c' → good c' → good c) : arun Try.prog (conOf []) (0, []) good (RetO (Tells (aleast_val yn ya yb yi yc yf yt yu amt ab be xl ex xw xt pa ch sn nn fx))) 400 (entry Try.prog 82 [.agg [.kn (.string yn), .kn (.string ya), .kn (.string yb), .kn (.string yi), .kn (.string yc), .kn (.string yf), .kn (.string yt), .kn (.string yu), .kn (.int .i64 amt), .kn (.int .i64 ab), .kn (.int .i64 be), .kn (.int .i64 xl), .kn (.int .i64 ex), .kn (.int .i64 xw), .kn (.int .i64 xt), .kn (.bool pa), .kn (.bool ch), .list sn nn fx]]) := by
  rw [aleast_res]
  exact tell rfl
set_option maxHeartbeats 2000000 in
theorem aleast_con : SpecOK Try.prog 82 (lift Galeast) := by
  refine con_of_run3 (con := conOf []) (hs := (0, [])) 400 Try.func82 rfl (by kernel_rfl) rfl conNil ?_
  intro args0 p r hG hp
  unfold Galeast at hG
  split at hG
  case h_2 => cases hG
  rename_i yn ya yb yi yc yf yt yu amt ab be xl ex xw xt pa ch sn nn fx
  cases hG
  exact ⟨[.agg [.kn (.string yn), .kn (.string ya), .kn (.string yb), .kn (.string yi), .kn (.string yc), .kn (.string yf), .kn (.string yt), .kn (.string yu), .kn (.int .i64 amt), .kn (.int .i64 ab), .kn (.int .i64 be), .kn (.int .i64 xl), .kn (.int .i64 ex), .kn (.int .i64 xw), .kn (.int .i64 xt), .kn (.bool pa), .kn (.bool ch), .list sn nn fx]], ⟨VExt.refl _, trivial⟩, by simp [Try.ntmps82], fun good hstep hext hle => aleast_ok _ _ _ _ _ _ _ _ _ _ _ _ _ _ _ _ _ _ _ _ hp good hstep hext hle⟩
def Most_pre (yn ya yb yi yc yf yt yu : ByteArray) (amt ab be xl ex xw xt : Int) (pa ch : Bool) (sn nn : Nat) (fx : Nat → List V) : Prop := True
noncomputable def Most_val (yn ya yb yi yc yf yt yu : ByteArray) (amt ab be xl ex xw xt : Int) (pa ch : Bool) (sn nn : Nat) (fx : Nat → List V) : V := .tup [.kn (.int .i64 (bif boundsB amt ab be ex then mostI amt ab else 0)), .kn (.int .i64 (bif boundsB amt ab be ex then 0 else 1))]
noncomputable def GMost : PSpec
  | [.agg [.kn (.string yn), .kn (.string ya), .kn (.string yb), .kn (.string yi), .kn (.string yc), .kn (.string yf), .kn (.string yt), .kn (.string yu), .kn (.int .i64 amt), .kn (.int .i64 ab), .kn (.int .i64 be), .kn (.int .i64 xl), .kn (.int .i64 ex), .kn (.int .i64 xw), .kn (.int .i64 xt), .kn (.bool pa), .kn (.bool ch), .list sn nn fx]] => some (Most_pre yn ya yb yi yc yf yt yu amt ab be xl ex xw xt pa ch sn nn fx, Most_val yn ya yb yi yc yf yt yu amt ab be xl ex xw xt pa ch sn nn fx)
  | _ => none
theorem Most_res (yn ya yb yi yc yf yt yu : ByteArray) (amt ab be xl ex xw xt : Int) (pa ch : Bool) (sn nn : Nat) (fx : Nat → List V) (good : Cfg → Prop) (R : Option V → Prop) : arun Try.prog (conOf [(60, lift Gabounds), (61, lift Gamost)]) (0, []) good (RetO (R)) 400 (entry Try.prog 43 [.agg [.kn (.string yn), .kn (.string ya), .kn (.string yb), .kn (.string yi), .kn (.string yc), .kn (.string yf), .kn (.string yt), .kn (.string yu), .kn (.int .i64 amt), .kn (.int .i64 ab), .kn (.int .i64 be), .kn (.int .i64 xl), .kn (.int .i64 ex), .kn (.int .i64 xw), .kn (.int .i64 xt), .kn (.bool pa), .kn (.bool ch), .list sn nn fx]]) =
    (abounds_pre yn ya yb yi yc yf yt yu amt ab be xl ex xw xt pa ch sn nn fx ∧ bif !boundsB amt ab be ex then R (some (V.tup [V.kn (Value.int IntKind.i64 (0 : Int)), V.kn (Value.int IntKind.i64 (1 : Int))])) else amost_pre yn ya yb yi yc yf yt yu amt ab be xl ex xw xt pa ch sn nn fx ∧ R (some (V.tup [V.kn (Value.int IntKind.i64 (mostI amt ab)), V.kn (Value.int IntKind.i64 (0 : Int))]))) := by kernel_rfl
theorem Most_ok (yn ya yb yi yc yf yt yu : ByteArray) (amt ab be xl ex xw xt : Int) (pa ch : Bool) (sn nn : Nat) (fx : Nat → List V) (hp : Most_pre yn ya yb yi yc yf yt yu amt ab be xl ex xw xt pa ch sn nn fx) (good : Cfg → Prop) (hstep : ∀ c, arun Try.prog (conOf [(60, lift Gabounds), (61, lift Gamost)]) (0, []) good (RetO (Tells (Most_val yn ya yb yi yc yf yt yu amt ab be xl ex xw xt pa ch sn nn fx))) 400 (c) → good c) (hext : ∀ c c', CfgExt c c' → good c' → good c) (hle : ∀ c c', CfgLe 0 c c' → good c' → good c) : arun Try.prog (conOf [(60, lift Gabounds), (61, lift Gamost)]) (0, []) good (RetO (Tells (Most_val yn ya yb yi yc yf yt yu amt ab be xl ex xw xt pa ch sn nn fx))) 400 (entry Try.prog 43 [.agg [.kn (.string yn), .kn (.string ya), .kn (.string yb), .kn (.string yi), .kn (.string yc), .kn (.string yf), .kn (.string yt), .kn (.string yu), .kn (.int .i64 amt), .kn (.int .i64 ab), .kn (.int .i64 be), .kn (.int .i64 xl), .kn (.int .i64 ex), .kn (.int .i64 xw), .kn (.int .i64 xt), .kn (.bool pa), .kn (.bool ch), .list sn nn fx]]) := by
  rw [Most_res]
  repeat' first | exact trivial | refine And.intro ?_ ?_ | refine cond_intro (fun h => ?_) (fun h => ?_)
  all_goals refine tell ?_
  all_goals simp_all [Most_val]
set_option maxHeartbeats 2000000 in
theorem Most_con : SpecOK Try.prog 43 (lift GMost) := by
  refine con_of_run3 (con := conOf [(60, lift Gabounds), (61, lift Gamost)]) (hs := (0, [])) 400 Try.func43 rfl (by kernel_rfl) rfl (conCons abounds_con (conCons amost_con conNil)) ?_
  intro args0 p r hG hp
  unfold GMost at hG
  split at hG
  case h_2 => cases hG
  rename_i yn ya yb yi yc yf yt yu amt ab be xl ex xw xt pa ch sn nn fx
  cases hG
  exact ⟨[.agg [.kn (.string yn), .kn (.string ya), .kn (.string yb), .kn (.string yi), .kn (.string yc), .kn (.string yf), .kn (.string yt), .kn (.string yu), .kn (.int .i64 amt), .kn (.int .i64 ab), .kn (.int .i64 be), .kn (.int .i64 xl), .kn (.int .i64 ex), .kn (.int .i64 xw), .kn (.int .i64 xt), .kn (.bool pa), .kn (.bool ch), .list sn nn fx]], ⟨VExt.refl _, trivial⟩, by simp [Try.ntmps43], fun good hstep hext hle => Most_ok _ _ _ _ _ _ _ _ _ _ _ _ _ _ _ _ _ _ _ _ hp good hstep hext hle⟩
def rbounds_pre (yn ya yb yi yc yf yt yu : ByteArray) (amt ab be xl ex xw xt : Int) (pa ch : Bool) (sn nn : Nat) (fx : Nat → List V) : Prop := True
noncomputable def rbounds_val (yn ya yb yi yc yf yt yu : ByteArray) (amt ab be xl ex xw xt : Int) (pa ch : Bool) (sn nn : Nat) (fx : Nat → List V) : V := .kn (.bool (boundsB amt ab be ex))
noncomputable def Grbounds : PSpec
  | [.agg [.kn (.string yn), .kn (.string ya), .kn (.string yb), .kn (.string yi), .kn (.string yc), .kn (.string yf), .kn (.string yt), .kn (.string yu), .kn (.int .i64 amt), .kn (.int .i64 ab), .kn (.int .i64 be), .kn (.int .i64 xl), .kn (.int .i64 ex), .kn (.int .i64 xw), .kn (.int .i64 xt), .kn (.bool pa), .kn (.bool ch), .list sn nn fx]] => some (rbounds_pre yn ya yb yi yc yf yt yu amt ab be xl ex xw xt pa ch sn nn fx, rbounds_val yn ya yb yi yc yf yt yu amt ab be xl ex xw xt pa ch sn nn fx)
  | _ => none
theorem rbounds_res (yn ya yb yi yc yf yt yu : ByteArray) (amt ab be xl ex xw xt : Int) (pa ch : Bool) (sn nn : Nat) (fx : Nat → List V) (good : Cfg → Prop) (R : Option V → Prop) : arun Try.prog (conOf []) (0, []) good (RetO (R)) 400 (entry Try.prog 25 [.agg [.kn (.string yn), .kn (.string ya), .kn (.string yb), .kn (.string yi), .kn (.string yc), .kn (.string yf), .kn (.string yt), .kn (.string yu), .kn (.int .i64 amt), .kn (.int .i64 ab), .kn (.int .i64 be), .kn (.int .i64 xl), .kn (.int .i64 ex), .kn (.int .i64 xw), .kn (.int .i64 xt), .kn (.bool pa), .kn (.bool ch), .list sn nn fx]]) =
    (bif decide (amt ≥ (1 : Int)) then bif decide (amt ≤ (1099511627776 : Int)) then bif decide (ab ≥ (0 : Int)) then bif decide (ab ≤ (1000 : Int)) then bif decide (be ≥ (0 : Int)) then bif decide (be ≤ (1000 : Int)) then bif decide (ex ≥ (0 : Int)) then R (some (V.kn (Value.bool (decide (ex ≤ (1048576 : Int)))))) else R (some (V.kn (Value.bool false))) else R (some (V.kn (Value.bool false))) else R (some (V.kn (Value.bool false))) else R (some (V.kn (Value.bool false))) else R (some (V.kn (Value.bool false))) else R (some (V.kn (Value.bool false))) else R (some (V.kn (Value.bool false)))) := by kernel_rfl
theorem rbounds_ok (yn ya yb yi yc yf yt yu : ByteArray) (amt ab be xl ex xw xt : Int) (pa ch : Bool) (sn nn : Nat) (fx : Nat → List V) (hp : rbounds_pre yn ya yb yi yc yf yt yu amt ab be xl ex xw xt pa ch sn nn fx) (good : Cfg → Prop) (hstep : ∀ c, arun Try.prog (conOf []) (0, []) good (RetO (Tells (rbounds_val yn ya yb yi yc yf yt yu amt ab be xl ex xw xt pa ch sn nn fx))) 400 (c) → good c) (hext : ∀ c c', CfgExt c c' → good c' → good c) (hle : ∀ c c', CfgLe 0 c c' → good c' → good c) : arun Try.prog (conOf []) (0, []) good (RetO (Tells (rbounds_val yn ya yb yi yc yf yt yu amt ab be xl ex xw xt pa ch sn nn fx))) 400 (entry Try.prog 25 [.agg [.kn (.string yn), .kn (.string ya), .kn (.string yb), .kn (.string yi), .kn (.string yc), .kn (.string yf), .kn (.string yt), .kn (.string yu), .kn (.int .i64 amt), .kn (.int .i64 ab), .kn (.int .i64 be), .kn (.int .i64 xl), .kn (.int .i64 ex), .kn (.int .i64 xw), .kn (.int .i64 xt), .kn (.bool pa), .kn (.bool ch), .list sn nn fx]]) := by
  rw [rbounds_res]
  repeat' first | exact trivial | refine And.intro ?_ ?_ | refine cond_intro (fun h => ?_) (fun h => ?_)
  all_goals refine tell_bool ?_
  all_goals simp only [decide_eq_true_eq, decide_eq_false_iff_not] at *
  all_goals rw [Bool.eq_iff_iff]
  all_goals simp [boundsB]
  all_goals omega
set_option maxHeartbeats 2000000 in
theorem rbounds_con : SpecOK Try.prog 25 (lift Grbounds) := by
  refine con_of_run3 (con := conOf []) (hs := (0, [])) 400 Try.func25 rfl (by kernel_rfl) rfl conNil ?_
  intro args0 p r hG hp
  unfold Grbounds at hG
  split at hG
  case h_2 => cases hG
  rename_i yn ya yb yi yc yf yt yu amt ab be xl ex xw xt pa ch sn nn fx
  cases hG
  exact ⟨[.agg [.kn (.string yn), .kn (.string ya), .kn (.string yb), .kn (.string yi), .kn (.string yc), .kn (.string yf), .kn (.string yt), .kn (.string yu), .kn (.int .i64 amt), .kn (.int .i64 ab), .kn (.int .i64 be), .kn (.int .i64 xl), .kn (.int .i64 ex), .kn (.int .i64 xw), .kn (.int .i64 xt), .kn (.bool pa), .kn (.bool ch), .list sn nn fx]], ⟨VExt.refl _, trivial⟩, by simp [Try.ntmps25], fun good hstep hext hle => rbounds_ok _ _ _ _ _ _ _ _ _ _ _ _ _ _ _ _ _ _ _ _ hp good hstep hext hle⟩
def May_pre (yn ya yb yi yc yf yt yu : ByteArray) (amt ab be xl ex xw xt : Int) (pa ch : Bool) (sn nn : Nat) (fx : Nat → List V) (day am : Int) (xs : List Draw) : Prop := xs.length ≤ 100000
noncomputable def May_val (yn ya yb yi yc yf yt yu : ByteArray) (amt ab be xl ex xw xt : Int) (pa ch : Bool) (sn nn : Nat) (fx : Nat → List V) (day am : Int) (xs : List Draw) : V := .kn (.int .i64 (mayI amt ab be ex pa xs day am))
noncomputable def GMay : PSpec
  | [.agg [.kn (.string yn), .kn (.string ya), .kn (.string yb), .kn (.string yi), .kn (.string yc), .kn (.string yf), .kn (.string yt), .kn (.string yu), .kn (.int .i64 amt), .kn (.int .i64 ab), .kn (.int .i64 be), .kn (.int .i64 xl), .kn (.int .i64 ex), .kn (.int .i64 xw), .kn (.int .i64 xt), .kn (.bool pa), .kn (.bool ch), .list sn nn fx], .list s_xs n_xs f_xs, .agg [.kn (.int .i64 day), .kn (.int .i64 am)]] => some (eDraw.okl s_xs n_xs f_xs ∧ May_pre yn ya yb yi yc yf yt yu amt ab be xl ex xw xt pa ch sn nn fx day am (eDraw.dl n_xs f_xs), May_val yn ya yb yi yc yf yt yu amt ab be xl ex xw xt pa ch sn nn fx day am (eDraw.dl n_xs f_xs))
  | _ => none
theorem May_res (yn ya yb yi yc yf yt yu : ByteArray) (amt ab be xl ex xw xt : Int) (pa ch : Bool) (sn nn : Nat) (fx : Nat → List V) (day am : Int) (xs : List Draw) (good : Cfg → Prop) (R : Option V → Prop) : arun Try.prog (conOf [(76, lift Gright), (80, lift Gsum), (60, lift Gabounds), (61, lift Gamost), (82, lift Galeast)]) (0, []) good (RetO (R)) 1500 (entry Try.prog 69 [.agg [.kn (.string yn), .kn (.string ya), .kn (.string yb), .kn (.string yi), .kn (.string yc), .kn (.string yf), .kn (.string yt), .kn (.string yu), .kn (.int .i64 amt), .kn (.int .i64 ab), .kn (.int .i64 be), .kn (.int .i64 xl), .kn (.int .i64 ex), .kn (.int .i64 xw), .kn (.int .i64 xt), .kn (.bool pa), .kn (.bool ch), .list sn nn fx], .list eDraw.s xs.length (eDraw.tl xs), .agg [.kn (.int .i64 day), .kn (.int .i64 am)]]) =
    ((xs.length ≤ (9223372036854775807 : Nat) ∧ xs.length * (16 : Nat) ≤ (140737488355328 : Nat)) ∧ (xs.length + (1 : Nat) ≤ (9223372036854775807 : Nat) ∧ (xs.length + (1 : Nat)) * (16 : Nat) ≤ (140737488355328 : Nat)) ∧ ((0 : Int) ≤ (0 : Int) ∧ (0 : Int) < (5 : Int)) ∧ (0 : Nat) < (5 : Nat) ∧ abounds_pre yn ya yb yi yc yf yt yu amt ab be xl ex xw xt pa ch sn nn fx ∧ bif !boundsB amt ab be ex then R (some (V.kn (Value.int IntKind.i64 (1 : Int)))) else (eDraw.okl (2 : Nat) (xs.length + (1 : Nat)) (catF xs.length (eDraw.tl xs) (rowF [V.kn (Value.int IntKind.i64 day), V.kn (Value.int IntKind.i64 am)] (2 : Nat))) ∧ right_pre (eDraw.dl (xs.length + (1 : Nat)) (catF xs.length (eDraw.tl xs) (rowF [V.kn (Value.int IntKind.i64 day), V.kn (Value.int IntKind.i64 am)] (2 : Nat))))) ∧ bif !bP (rightP (eDraw.dl (xs.length + (1 : Nat)) (catF xs.length (eDraw.tl xs) (rowF [V.kn (Value.int IntKind.i64 day), V.kn (Value.int IntKind.i64 am)] (2 : Nat))))) then R (some (V.kn (Value.int IntKind.i64 (1 : Int)))) else ((0 : Int) ≤ (1 : Int) ∧ (1 : Int) < (5 : Int)) ∧ (1 : Nat) < (5 : Nat) ∧ bif decide (day > ex) then R (some (V.kn (Value.int IntKind.i64 (11 : Int)))) else ((0 : Int) ≤ (2 : Int) ∧ (2 : Int) < (5 : Int)) ∧ (2 : Nat) < (5 : Nat) ∧ bif !pa then bif decide ((↑xs.length : Int) > (0 : Int)) then R (some (V.kn (Value.int IntKind.i64 (9 : Int)))) else ((0 : Int) ≤ (3 : Int) ∧ (3 : Int) < (5 : Int)) ∧ (3 : Nat) < (5 : Nat) ∧ (eDraw.okl (2 : Nat) (xs.length + (1 : Nat)) (catF xs.length (eDraw.tl xs) (rowF [V.kn (Value.int IntKind.i64 day), V.kn (Value.int IntKind.i64 am)] (2 : Nat))) ∧ sum_pre (eDraw.dl (xs.length + (1 : Nat)) (catF xs.length (eDraw.tl xs) (rowF [V.kn (Value.int IntKind.i64 day), V.kn (Value.int IntKind.i64 am)] (2 : Nat))))) ∧ amost_pre yn ya yb yi yc yf yt yu amt ab be xl ex xw xt pa ch sn nn fx ∧ bif decide (sumW (eDraw.dl (xs.length + (1 : Nat)) (catF xs.length (eDraw.tl xs) (rowF [V.kn (Value.int IntKind.i64 day), V.kn (Value.int IntKind.i64 am)] (2 : Nat)))) > mostI amt ab) then R (some (V.kn (Value.int IntKind.i64 (10 : Int)))) else ((0 : Int) ≤ (4 : Int) ∧ (4 : Int) < (5 : Int)) ∧ (4 : Nat) < (5 : Nat) ∧ bif !pa then aleast_pre yn ya yb yi yc yf yt yu amt ab be xl ex xw xt pa ch sn nn fx ∧ bif decide (am < leastI amt be) then R (some (V.kn (Value.int IntKind.i64 (3 : Int)))) else R (some (V.kn (Value.int IntKind.i64 (0 : Int)))) else R (some (V.kn (Value.int IntKind.i64 (0 : Int)))) else ((0 : Int) ≤ (3 : Int) ∧ (3 : Int) < (5 : Int)) ∧ (3 : Nat) < (5 : Nat) ∧ (eDraw.okl (2 : Nat) (xs.length + (1 : Nat)) (catF xs.length (eDraw.tl xs) (rowF [V.kn (Value.int IntKind.i64 day), V.kn (Value.int IntKind.i64 am)] (2 : Nat))) ∧ sum_pre (eDraw.dl (xs.length + (1 : Nat)) (catF xs.length (eDraw.tl xs) (rowF [V.kn (Value.int IntKind.i64 day), V.kn (Value.int IntKind.i64 am)] (2 : Nat))))) ∧ amost_pre yn ya yb yi yc yf yt yu amt ab be xl ex xw xt pa ch sn nn fx ∧ bif decide (sumW (eDraw.dl (xs.length + (1 : Nat)) (catF xs.length (eDraw.tl xs) (rowF [V.kn (Value.int IntKind.i64 day), V.kn (Value.int IntKind.i64 am)] (2 : Nat)))) > mostI amt ab) then R (some (V.kn (Value.int IntKind.i64 (10 : Int)))) else ((0 : Int) ≤ (4 : Int) ∧ (4 : Int) < (5 : Int)) ∧ (4 : Nat) < (5 : Nat) ∧ bif !pa then aleast_pre yn ya yb yi yc yf yt yu amt ab be xl ex xw xt pa ch sn nn fx ∧ bif decide (am < leastI amt be) then R (some (V.kn (Value.int IntKind.i64 (3 : Int)))) else R (some (V.kn (Value.int IntKind.i64 (0 : Int)))) else R (some (V.kn (Value.int IntKind.i64 (0 : Int))))) := by kernel_rfl
theorem May_ok (yn ya yb yi yc yf yt yu : ByteArray) (amt ab be xl ex xw xt : Int) (pa ch : Bool) (sn nn : Nat) (fx : Nat → List V) (day am : Int) (xs : List Draw) (len_xs : xs.length ≤ maxLen) (hp : May_pre yn ya yb yi yc yf yt yu amt ab be xl ex xw xt pa ch sn nn fx day am xs) (good : Cfg → Prop) (hstep : ∀ c, arun Try.prog (conOf [(76, lift Gright), (80, lift Gsum), (60, lift Gabounds), (61, lift Gamost), (82, lift Galeast)]) (0, []) good (RetO (Tells (May_val yn ya yb yi yc yf yt yu amt ab be xl ex xw xt pa ch sn nn fx day am xs))) 1500 (c) → good c) (hext : ∀ c c', CfgExt c c' → good c' → good c) (hle : ∀ c c', CfgLe 0 c c' → good c' → good c) : arun Try.prog (conOf [(76, lift Gright), (80, lift Gsum), (60, lift Gabounds), (61, lift Gamost), (82, lift Galeast)]) (0, []) good (RetO (Tells (May_val yn ya yb yi yc yf yt yu amt ab be xl ex xw xt pa ch sn nn fx day am xs))) 1500 (entry Try.prog 69 [.agg [.kn (.string yn), .kn (.string ya), .kn (.string yb), .kn (.string yi), .kn (.string yc), .kn (.string yf), .kn (.string yt), .kn (.string yu), .kn (.int .i64 amt), .kn (.int .i64 ab), .kn (.int .i64 be), .kn (.int .i64 xl), .kn (.int .i64 ex), .kn (.int .i64 xw), .kn (.int .i64 xt), .kn (.bool pa), .kn (.bool ch), .list sn nn fx], .list eDraw.s xs.length (eDraw.tl xs), .agg [.kn (.int .i64 day), .kn (.int .i64 am)]]) := by
  rw [May_res]
  have hp' : xs.length ≤ 100000 := hp
  have hm : maxLen = 9223372036854775807 := rfl
  have hall : eDraw.is (xs.length + 1) (catF xs.length (eDraw.tl xs) (rowF [V.kn (Value.int IntKind.i64 day), V.kn (Value.int IntKind.i64 am)] 2)) (xs ++ [⟨day, am⟩]) := eDraw.is_app (eDraw.is_tl xs) (eDraw.is_one _ rfl)
  have ho : eDraw.okl 2 (xs.length + 1) (catF xs.length (eDraw.tl xs) (rowF [V.kn (Value.int IntKind.i64 day), V.kn (Value.int IntKind.i64 am)] 2)) := eDraw.okl_is hall (by omega)
  rw [eDraw.is_dl hall]
  repeat' first | exact ho | exact trivial | refine And.intro ?_ ?_ | refine cond_intro (fun h => ?_) (fun h => ?_) | refine tell ?_
  all_goals try omega
  all_goals simp only [Bool.not_eq_true', Bool.not_eq_false'] at *
  all_goals first
    | (simp only [May_val, mayI, *, Bool.not_true, Bool.not_false, Bool.or_false, Bool.or_true, Bool.false_or, Bool.true_or, Bool.and_true, Bool.true_and, Bool.false_and, Bool.and_false, cond_true, cond_false]; done)
    | (exfalso; simp_all; done)
set_option maxHeartbeats 2000000 in
theorem May_con : SpecOK Try.prog 69 (lift GMay) := by
  refine con_of_run3 (con := conOf [(76, lift Gright), (80, lift Gsum), (60, lift Gabounds), (61, lift Gamost), (82, lift Galeast)]) (hs := (0, [])) 1500 Try.func69 rfl (by kernel_rfl) rfl (conCons right_con (conCons sum_con (conCons abounds_con (conCons amost_con (conCons aleast_con conNil))))) ?_
  intro args0 p r hG hp
  unfold GMay at hG
  split at hG
  case h_2 => cases hG
  rename_i yn ya yb yi yc yf yt yu amt ab be xl ex xw xt pa ch sn nn fx s_xs n_xs f_xs day am
  cases hG
  obtain ⟨ok_xs, hp⟩ := hp
  exact ⟨[.agg [.kn (.string yn), .kn (.string ya), .kn (.string yb), .kn (.string yi), .kn (.string yc), .kn (.string yf), .kn (.string yt), .kn (.string yu), .kn (.int .i64 amt), .kn (.int .i64 ab), .kn (.int .i64 be), .kn (.int .i64 xl), .kn (.int .i64 ex), .kn (.int .i64 xw), .kn (.int .i64 xt), .kn (.bool pa), .kn (.bool ch), .list sn nn fx], .list eDraw.s (eDraw.dl n_xs f_xs).length (eDraw.tl (eDraw.dl n_xs f_xs)), .agg [.kn (.int .i64 day), .kn (.int .i64 am)]], ⟨VExt.refl _, eDraw.extl ok_xs, VExt.refl _, trivial⟩, by simp [Try.ntmps69], fun good hstep hext hle => May_ok _ _ _ _ _ _ _ _ _ _ _ _ _ _ _ _ _ _ _ _ _ _ _ (by rw [eDraw.dl_length]; exact ok_xs.2.1) hp good hstep hext hle⟩
def okC (c : Int) : Bool := decide (97 ≤ c ∧ c ≤ 122 ∨ 48 ≤ c ∧ c ≤ 57 ∨ c = 45)
def byteI (s : ByteArray) (i : Nat) : Int := ((s.data.getD i 0).toNat : Nat)
def badFrom (s : ByteArray) : Nat → Nat → Int
  | 0, _ => -1
  | k + 1, i => bif okC (byteI s i) then badFrom s k (i + 1) else (i : Int)
def badAt (s : ByteArray) : Int := badFrom s s.size 0
def isName (s : ByteArray) : Bool := decide (badAt s = -1 ∧ 1 ≤ s.size ∧ s.size ≤ 16)
noncomputable def idxP {α : Type} (p : α → Prop) (xs : List α) : Int := bif bP (∃ x ∈ xs, p x) then ((xs.findIdx fun x => bP (p x) : Nat) : Int) else -1


theorem idxP_miss {α : Type} {p : α → Prop} {xs : List α} (h : ∀ i (hi : i < xs.length), ¬ p xs[i]) : idxP p xs = -1 := by
  unfold idxP
  rw [bP_false (fun ⟨x, hx, hp⟩ => by obtain ⟨i, hi, rfl⟩ := List.getElem_of_mem hx; exact h i hi hp)]
  rfl
theorem idxP_hit {α : Type} {p : α → Prop} {xs : List α} {i : Nat} (hi : i < xs.length) (h : ∀ j (hj : j < xs.length), j < i → ¬ p xs[j]) (hp : p xs[i]) : idxP p xs = (i : Int) := by
  unfold idxP
  rw [bP_true ⟨_, List.getElem_mem hi, hp⟩]
  have : xs.findIdx (fun x => bP (p x)) = i := (List.findIdx_eq hi).2 ⟨bP_true hp, fun j hj => bP_false (h j (by omega) hj)⟩
  rw [this]
  rfl
theorem idxP_nonneg {α : Type} {p : α → Prop} {xs : List α} : 0 ≤ idxP p xs ↔ ∃ x ∈ xs, p x := by
  unfold idxP
  cases h : bP (∃ x ∈ xs, p x) with
  | true => simp [bP_iff.1 h]
  | false => simp [bP_not.1 h]
theorem okC_iff {c : Int} : okC c = true ↔ (97 ≤ c ∧ c ≤ 122 ∨ 48 ≤ c ∧ c ≤ 57 ∨ c = 45) := by simp [okC]
theorem okC_not {c : Int} : okC c = false ↔ ¬ (97 ≤ c ∧ c ≤ 122 ∨ 48 ≤ c ∧ c ≤ 57 ∨ c = 45) := by rw [← Bool.not_eq_true, okC_iff]
theorem bad_go {s : ByteArray} {i : Nat} (hi : i < s.size) (h : okC (byteI s i) = true) : badFrom s (s.size - i) i = badFrom s (s.size - (i + 1)) (i + 1) := by
  rw [show s.size - i = (s.size - (i + 1)) + 1 by omega, badFrom, h]; rfl
theorem bad_end {s : ByteArray} {i : Nat} (hi : i < s.size) (h : okC (byteI s i) = false) : badFrom s (s.size - i) i = (i : Int) := by
  rw [show s.size - i = (s.size - (i + 1)) + 1 by omega, badFrom, h]; rfl
theorem byte_get {s : ByteArray} {i : Nat} (hi : i < s.size) : byteI s i = ((s[i]'hi).toNat : Nat) := by
  unfold byteI
  have h2 : i < s.data.size := hi
  rw [Array.getD_eq_getD_getElem?, Array.getElem?_eq_getElem h2]
  rfl
theorem name_no {s : ByteArray} {i : Nat} (h : badAt s = (i : Int)) : isName s = false := by unfold isName; rw [h]; exact decide_eq_false (by omega)

def rName_pre (s : ByteArray) : Prop := s.size ≤ maxLen
noncomputable def rName_val (s : ByteArray) : V := .kn (.bool (isName s))
noncomputable def GrName : PSpec
  | [.kn (.string s)] => some (rName_pre s, rName_val s)
  | _ => none
theorem rName_res (s : ByteArray) (good : Cfg → Prop) (R : Option V → Prop) : arun Try.prog (conOf []) (0, [(24, 2, [0, 3], [])]) good (RetO (R)) 400 (entry Try.prog 24 [.kn (.string s)]) =
    (good { fr := { fn := (24 : Nat), nt := (41 : Nat), t := [((0 : Nat), V.kn (Value.string s)), ((3 : Nat), V.kn (Value.int IntKind.i64 (0 : Int)))], k := loopK Try.prog (24 : Nat) (2 : Nat) }, cs := [], h := [] }) := by kernel_rfl
@[reducible] noncomputable def rName_c2 (s : ByteArray) (i : Int) : Cfg := ⟨⟨24, 41, [(0, .kn (.string s)), (3, .kn (.int .i64 i))], loopK Try.prog 24 2⟩, [], []⟩
theorem rName_l2 (s : ByteArray) (i : Int) (good : Cfg → Prop) (R : Option V → Prop) : arun Try.prog (conOf []) (0, [(24, 2, [0, 3], [])]) good (RetO (R)) 400 (rName_c2 s i) =
    (bif decide (i < (↑s.size : Int)) then ((0 : Int) ≤ i ∧ i < (↑s.size : Int)) ∧ bif decide ((↑(s.data.getD i.toNat (OfNat.ofNat (0 : Nat))).toNat : Int) ≥ (97 : Int)) then bif decide ((↑(s.data.getD i.toNat (OfNat.ofNat (0 : Nat))).toNat : Int) ≤ (122 : Int)) then good { fr := { fn := (24 : Nat), nt := (41 : Nat), t := [((0 : Nat), V.kn (Value.string s)), ((3 : Nat), V.kn (Value.int IntKind.i64 (IntKind.i64.wrap (i + (1 : Int)))))], k := loopK Try.prog (24 : Nat) (2 : Nat) }, cs := [], h := [] } else bif decide ((↑(s.data.getD i.toNat (OfNat.ofNat (0 : Nat))).toNat : Int) ≥ (48 : Int)) then bif decide ((↑(s.data.getD i.toNat (OfNat.ofNat (0 : Nat))).toNat : Int) ≤ (57 : Int)) then good { fr := { fn := (24 : Nat), nt := (41 : Nat), t := [((0 : Nat), V.kn (Value.string s)), ((3 : Nat), V.kn (Value.int IntKind.i64 (IntKind.i64.wrap (i + (1 : Int)))))], k := loopK Try.prog (24 : Nat) (2 : Nat) }, cs := [], h := [] } else bif !(↑(s.data.getD i.toNat (OfNat.ofNat (0 : Nat))).toNat : Int) == (45 : Int) then R (some (V.kn (Value.bool false))) else good { fr := { fn := (24 : Nat), nt := (41 : Nat), t := [((0 : Nat), V.kn (Value.string s)), ((3 : Nat), V.kn (Value.int IntKind.i64 (IntKind.i64.wrap (i + (1 : Int)))))], k := loopK Try.prog (24 : Nat) (2 : Nat) }, cs := [], h := [] } else bif !(↑(s.data.getD i.toNat (OfNat.ofNat (0 : Nat))).toNat : Int) == (45 : Int) then R (some (V.kn (Value.bool false))) else good { fr := { fn := (24 : Nat), nt := (41 : Nat), t := [((0 : Nat), V.kn (Value.string s)), ((3 : Nat), V.kn (Value.int IntKind.i64 (IntKind.i64.wrap (i + (1 : Int)))))], k := loopK Try.prog (24 : Nat) (2 : Nat) }, cs := [], h := [] } else bif decide ((↑(s.data.getD i.toNat (OfNat.ofNat (0 : Nat))).toNat : Int) ≥ (48 : Int)) then bif decide ((↑(s.data.getD i.toNat (OfNat.ofNat (0 : Nat))).toNat : Int) ≤ (57 : Int)) then good { fr := { fn := (24 : Nat), nt := (41 : Nat), t := [((0 : Nat), V.kn (Value.string s)), ((3 : Nat), V.kn (Value.int IntKind.i64 (IntKind.i64.wrap (i + (1 : Int)))))], k := loopK Try.prog (24 : Nat) (2 : Nat) }, cs := [], h := [] } else bif !(↑(s.data.getD i.toNat (OfNat.ofNat (0 : Nat))).toNat : Int) == (45 : Int) then R (some (V.kn (Value.bool false))) else good { fr := { fn := (24 : Nat), nt := (41 : Nat), t := [((0 : Nat), V.kn (Value.string s)), ((3 : Nat), V.kn (Value.int IntKind.i64 (IntKind.i64.wrap (i + (1 : Int)))))], k := loopK Try.prog (24 : Nat) (2 : Nat) }, cs := [], h := [] } else bif !(↑(s.data.getD i.toNat (OfNat.ofNat (0 : Nat))).toNat : Int) == (45 : Int) then R (some (V.kn (Value.bool false))) else good { fr := { fn := (24 : Nat), nt := (41 : Nat), t := [((0 : Nat), V.kn (Value.string s)), ((3 : Nat), V.kn (Value.int IntKind.i64 (IntKind.i64.wrap (i + (1 : Int)))))], k := loopK Try.prog (24 : Nat) (2 : Nat) }, cs := [], h := [] } else bif decide ((↑s.size : Int) ≥ (1 : Int)) then R (some (V.kn (Value.bool (decide ((↑s.size : Int) ≤ (16 : Int)))))) else R (some (V.kn (Value.bool false)))) := by kernel_rfl
theorem rName_ok (s : ByteArray) (hp : rName_pre s) (good : Cfg → Prop) (hstep : ∀ c, arun Try.prog (conOf []) (0, [(24, 2, [0, 3], [])]) good (RetO (Tells (rName_val s))) 400 (c) → good c) (hext : ∀ c c', CfgExt c c' → good c' → good c) (hle : ∀ c c', CfgLe 0 c c' → good c' → good c) : arun Try.prog (conOf []) (0, [(24, 2, [0, 3], [])]) good (RetO (Tells (rName_val s))) 400 (entry Try.prog 24 [.kn (.string s)]) := by
  rw [rName_res]
  have hm : s.size ≤ maxLen := hp
  have hmx : maxLen = 9223372036854775807 := rfl
  refine loop_ind (S := Nat) (fun i => rName_c2 s i) (fun i => i ≤ s.size ∧ badFrom s (s.size - i) i = badAt s) (fun i => s.size - i) (fun i hv ih => ?_) 0 ⟨Nat.zero_le _, rfl⟩
  obtain ⟨v1, v2⟩ := hv
  apply hstep
  rw [rName_l2]
  have e1 : (i : Int).toNat = i := by omega
  rw [e1]
  refine cond_intro (fun h1 => ?_) (fun h1 => ?_)
  · have hi : i < s.size := by simp only [decide_eq_true_eq] at h1; omega
    rw [wrap_succ hi hm]
    have hb : byteI s i = (((s.data.getD i (OfNat.ofNat 0)).toNat : Nat) : Int) := rfl
    generalize (((s.data.getD i (OfNat.ofNat 0)).toNat : Nat) : Int) = x at hb
    have go : okC x = true → good (rName_c2 s ((i + 1 : Nat) : Int)) := fun ho => ih (i + 1) ⟨hi, by rw [← bad_go hi (by rw [hb]; exact ho)]; exact v2⟩ (by omega)
    have no : okC x = false → Tells (rName_val s) (some (.kn (.bool false))) := fun ho => tell_bool (name_no (i := i) (by rw [← v2, bad_end hi (by rw [hb]; exact ho)])).symm
    have bnd : (0 : Int) ≤ i ∧ (i : Int) < s.size := ⟨by omega, by omega⟩
    repeat' first | exact bnd | refine And.intro bnd ?_ | refine cond_intro (fun h => ?_) (fun h => ?_)
    all_goals first | refine no (okC_not.2 ?_) | refine go (okC_iff.2 ?_)
    all_goals simp only [decide_eq_true_eq, decide_eq_false_iff_not, bne_iff_ne, ne_eq, bne_eq_false_iff_eq, Bool.not_eq_true', Bool.not_eq_false', beq_iff_eq, beq_eq_false_iff_ne] at *
    all_goals omega
  · have hi : i = s.size := by simp only [decide_eq_false_iff_not] at h1; omega
    rw [hi, Nat.sub_self] at v2
    have hv : badAt s = -1 := v2.symm
    repeat' first | refine cond_intro (fun h => ?_) (fun h => ?_)
    all_goals refine tell_bool ?_
    all_goals unfold isName
    all_goals simp only [decide_eq_true_eq, decide_eq_false_iff_not] at *
    all_goals rw [hv, Bool.eq_iff_iff]
    all_goals simp
    all_goals omega
theorem rName_con : SpecOK Try.prog 24 (lift GrName) := by
  refine con_of_run3 (con := conOf []) (hs := (0, [(24, 2, [0, 3], [])])) 400 Try.func24 rfl (by kernel_rfl) rfl conNil ?_
  intro args0 p r hG hp
  unfold GrName at hG
  split at hG
  case h_2 => cases hG
  rename_i s
  cases hG
  exact ⟨[.kn (.string s)], ⟨VExt.refl _, trivial⟩, by simp [Try.ntmps24], fun good hstep hext hle => rName_ok _ hp good hstep hext hle⟩
def all_pre (s : ByteArray) : Prop := s.size ≤ maxLen
noncomputable def all_val (s : ByteArray) : V := .kn (.bool (decide (badAt s = -1)))
noncomputable def Gall : PSpec
  | [.kn (.string s), .fn 64 []] => some (all_pre s, all_val s)
  | _ => none
theorem all_res (s : ByteArray) (good : Cfg → Prop) (R : Option V → Prop) : arun Try.prog (conOf []) (0, [(63, 2, [0, 1, 7, 8], [])]) good (RetO (R)) 400 (entry Try.prog 63 [.kn (.string s), .fn 64 []]) =
    (good { fr := { fn := (63 : Nat), nt := (18 : Nat), t := [((0 : Nat), V.kn (Value.string s)), ((1 : Nat), V.fn (64 : Nat) []), ((7 : Nat), V.kn (Value.int IntKind.i64 (↑s.size : Int))), ((8 : Nat), V.kn (Value.int IntKind.i64 (0 : Int)))], k := loopK Try.prog (63 : Nat) (2 : Nat) }, cs := [], h := [] }) := by kernel_rfl
@[reducible] noncomputable def all_c2 (s : ByteArray) (i : Int) : Cfg := ⟨⟨63, 18, [(0, .kn (.string s)), (1, .fn 64 []), (7, .kn (.int .i64 s.size)), (8, .kn (.int .i64 i))], loopK Try.prog 63 2⟩, [], []⟩
theorem all_l2 (s : ByteArray) (i : Int) (good : Cfg → Prop) (R : Option V → Prop) : arun Try.prog (conOf []) (0, [(63, 2, [0, 1, 7, 8], [])]) good (RetO (R)) 400 (all_c2 s i) =
    (bif decide (i < (↑s.size : Int)) then ((0 : Int) ≤ i ∧ i < (↑s.size : Int)) ∧ bif decide ((↑(s.data.getD i.toNat (OfNat.ofNat (0 : Nat))).toNat : Int) ≥ (97 : Int)) then bif decide ((↑(s.data.getD i.toNat (OfNat.ofNat (0 : Nat))).toNat : Int) ≤ (122 : Int)) then good { fr := { fn := (63 : Nat), nt := (18 : Nat), t := [((0 : Nat), V.kn (Value.string s)), ((1 : Nat), V.fn (64 : Nat) []), ((7 : Nat), V.kn (Value.int IntKind.i64 (↑s.size : Int))), ((8 : Nat), V.kn (Value.int IntKind.i64 (IntKind.i64.wrap (i + (1 : Int)))))], k := loopK Try.prog (63 : Nat) (2 : Nat) }, cs := [], h := [] } else bif decide ((↑(s.data.getD i.toNat (OfNat.ofNat (0 : Nat))).toNat : Int) ≥ (48 : Int)) then bif decide ((↑(s.data.getD i.toNat (OfNat.ofNat (0 : Nat))).toNat : Int) ≤ (57 : Int)) then good { fr := { fn := (63 : Nat), nt := (18 : Nat), t := [((0 : Nat), V.kn (Value.string s)), ((1 : Nat), V.fn (64 : Nat) []), ((7 : Nat), V.kn (Value.int IntKind.i64 (↑s.size : Int))), ((8 : Nat), V.kn (Value.int IntKind.i64 (IntKind.i64.wrap (i + (1 : Int)))))], k := loopK Try.prog (63 : Nat) (2 : Nat) }, cs := [], h := [] } else bif !(↑(s.data.getD i.toNat (OfNat.ofNat (0 : Nat))).toNat : Int) == (45 : Int) then R (some (V.kn (Value.bool false))) else good { fr := { fn := (63 : Nat), nt := (18 : Nat), t := [((0 : Nat), V.kn (Value.string s)), ((1 : Nat), V.fn (64 : Nat) []), ((7 : Nat), V.kn (Value.int IntKind.i64 (↑s.size : Int))), ((8 : Nat), V.kn (Value.int IntKind.i64 (IntKind.i64.wrap (i + (1 : Int)))))], k := loopK Try.prog (63 : Nat) (2 : Nat) }, cs := [], h := [] } else bif !(↑(s.data.getD i.toNat (OfNat.ofNat (0 : Nat))).toNat : Int) == (45 : Int) then R (some (V.kn (Value.bool false))) else good { fr := { fn := (63 : Nat), nt := (18 : Nat), t := [((0 : Nat), V.kn (Value.string s)), ((1 : Nat), V.fn (64 : Nat) []), ((7 : Nat), V.kn (Value.int IntKind.i64 (↑s.size : Int))), ((8 : Nat), V.kn (Value.int IntKind.i64 (IntKind.i64.wrap (i + (1 : Int)))))], k := loopK Try.prog (63 : Nat) (2 : Nat) }, cs := [], h := [] } else bif decide ((↑(s.data.getD i.toNat (OfNat.ofNat (0 : Nat))).toNat : Int) ≥ (48 : Int)) then bif decide ((↑(s.data.getD i.toNat (OfNat.ofNat (0 : Nat))).toNat : Int) ≤ (57 : Int)) then good { fr := { fn := (63 : Nat), nt := (18 : Nat), t := [((0 : Nat), V.kn (Value.string s)), ((1 : Nat), V.fn (64 : Nat) []), ((7 : Nat), V.kn (Value.int IntKind.i64 (↑s.size : Int))), ((8 : Nat), V.kn (Value.int IntKind.i64 (IntKind.i64.wrap (i + (1 : Int)))))], k := loopK Try.prog (63 : Nat) (2 : Nat) }, cs := [], h := [] } else bif !(↑(s.data.getD i.toNat (OfNat.ofNat (0 : Nat))).toNat : Int) == (45 : Int) then R (some (V.kn (Value.bool false))) else good { fr := { fn := (63 : Nat), nt := (18 : Nat), t := [((0 : Nat), V.kn (Value.string s)), ((1 : Nat), V.fn (64 : Nat) []), ((7 : Nat), V.kn (Value.int IntKind.i64 (↑s.size : Int))), ((8 : Nat), V.kn (Value.int IntKind.i64 (IntKind.i64.wrap (i + (1 : Int)))))], k := loopK Try.prog (63 : Nat) (2 : Nat) }, cs := [], h := [] } else bif !(↑(s.data.getD i.toNat (OfNat.ofNat (0 : Nat))).toNat : Int) == (45 : Int) then R (some (V.kn (Value.bool false))) else good { fr := { fn := (63 : Nat), nt := (18 : Nat), t := [((0 : Nat), V.kn (Value.string s)), ((1 : Nat), V.fn (64 : Nat) []), ((7 : Nat), V.kn (Value.int IntKind.i64 (↑s.size : Int))), ((8 : Nat), V.kn (Value.int IntKind.i64 (IntKind.i64.wrap (i + (1 : Int)))))], k := loopK Try.prog (63 : Nat) (2 : Nat) }, cs := [], h := [] } else R (some (V.kn (Value.bool true)))) := by kernel_rfl
theorem all_ok (s : ByteArray) (hp : all_pre s) (good : Cfg → Prop) (hstep : ∀ c, arun Try.prog (conOf []) (0, [(63, 2, [0, 1, 7, 8], [])]) good (RetO (Tells (all_val s))) 400 (c) → good c) (hext : ∀ c c', CfgExt c c' → good c' → good c) (hle : ∀ c c', CfgLe 0 c c' → good c' → good c) : arun Try.prog (conOf []) (0, [(63, 2, [0, 1, 7, 8], [])]) good (RetO (Tells (all_val s))) 400 (entry Try.prog 63 [.kn (.string s), .fn 64 []]) := by
  rw [all_res]
  have hm : s.size ≤ maxLen := hp
  have hmx : maxLen = 9223372036854775807 := rfl
  refine loop_ind (S := Nat) (fun i => all_c2 s i) (fun i => i ≤ s.size ∧ badFrom s (s.size - i) i = badAt s) (fun i => s.size - i) (fun i hv ih => ?_) 0 ⟨Nat.zero_le _, rfl⟩
  obtain ⟨v1, v2⟩ := hv
  apply hstep
  rw [all_l2]
  have e1 : (i : Int).toNat = i := by omega
  rw [e1]
  refine cond_intro (fun h1 => ?_) (fun h1 => ?_)
  · have hi : i < s.size := by simp only [decide_eq_true_eq] at h1; omega
    rw [wrap_succ hi hm]
    have hb : byteI s i = (((s.data.getD i (OfNat.ofNat 0)).toNat : Nat) : Int) := rfl
    generalize (((s.data.getD i (OfNat.ofNat 0)).toNat : Nat) : Int) = x at hb
    have go : okC x = true → good (all_c2 s ((i + 1 : Nat) : Int)) := fun ho => ih (i + 1) ⟨hi, by rw [← bad_go hi (by rw [hb]; exact ho)]; exact v2⟩ (by omega)
    have no : okC x = false → Tells (all_val s) (some (.kn (.bool false))) := fun ho => tell_bool (by rw [← v2, bad_end hi (by rw [hb]; exact ho)]; exact (decide_eq_false (by omega)).symm)
    have bnd : (0 : Int) ≤ i ∧ (i : Int) < s.size := ⟨by omega, by omega⟩
    repeat' first | exact bnd | refine And.intro bnd ?_ | refine cond_intro (fun h => ?_) (fun h => ?_)
    all_goals first | refine no (okC_not.2 ?_) | refine go (okC_iff.2 ?_)
    all_goals simp only [decide_eq_true_eq, decide_eq_false_iff_not, bne_iff_ne, ne_eq, bne_eq_false_iff_eq, Bool.not_eq_true', Bool.not_eq_false', beq_iff_eq, beq_eq_false_iff_ne] at *
    all_goals omega
  · have hi : i = s.size := by simp only [decide_eq_false_iff_not] at h1; omega
    rw [hi, Nat.sub_self] at v2
    have hv : badAt s = -1 := v2.symm
    exact tell_bool (by rw [hv]; rfl)
theorem all_con : SpecOK Try.prog 63 (lift Gall) := by
  refine con_of_run3 (con := conOf []) (hs := (0, [(63, 2, [0, 1, 7, 8], [])])) 400 Try.func63 rfl (by kernel_rfl) rfl conNil ?_
  intro args0 p r hG hp
  unfold Gall at hG
  split at hG
  case h_2 => cases hG
  rename_i s
  cases hG
  exact ⟨[.kn (.string s), .fn 64 []], ⟨VExt.refl _, VExt.refl _, trivial⟩, by simp [Try.ntmps63], fun good hstep hext hle => all_ok _ hp good hstep hext hle⟩
def mName_pre (s : ByteArray) : Prop := s.size ≤ maxLen
noncomputable def mName_val (s : ByteArray) : V := .kn (.bool (isName s))
noncomputable def GmName : PSpec
  | [.kn (.string s)] => some (mName_pre s, mName_val s)
  | _ => none
theorem mName_res (s : ByteArray) (good : Cfg → Prop) (R : Option V → Prop) : arun Try.prog (conOf [(63, lift Gall)]) (0, []) good (RetO (R)) 400 (entry Try.prog 45 [.kn (.string s)]) =
    (bif decide ((↑s.size : Int) ≥ (1 : Int)) then bif decide ((↑s.size : Int) ≤ (16 : Int)) then all_pre s ∧ R (some (V.kn (Value.bool (decide (badAt s = (-1 : Int)))))) else R (some (V.kn (Value.bool false))) else R (some (V.kn (Value.bool false)))) := by kernel_rfl
theorem mName_ok (s : ByteArray) (hp : mName_pre s) (good : Cfg → Prop) (hstep : ∀ c, arun Try.prog (conOf [(63, lift Gall)]) (0, []) good (RetO (Tells (mName_val s))) 400 (c) → good c) (hext : ∀ c c', CfgExt c c' → good c' → good c) (hle : ∀ c c', CfgLe 0 c c' → good c' → good c) : arun Try.prog (conOf [(63, lift Gall)]) (0, []) good (RetO (Tells (mName_val s))) 400 (entry Try.prog 45 [.kn (.string s)]) := by
  rw [mName_res]
  have hm : s.size ≤ maxLen := hp
  repeat' first | exact hm | refine And.intro hm ?_ | refine cond_intro (fun h => ?_) (fun h => ?_)
  all_goals refine tell_bool ?_
  all_goals unfold isName
  all_goals simp only [decide_eq_true_eq, decide_eq_false_iff_not] at *
  all_goals rw [Bool.eq_iff_iff]
  all_goals simp
  all_goals omega
theorem mName_con : SpecOK Try.prog 45 (lift GmName) := by
  refine con_of_run3 (con := conOf [(63, lift Gall)]) (hs := (0, [])) 400 Try.func45 rfl (by kernel_rfl) rfl (conCons all_con conNil) ?_
  intro args0 p r hG hp
  unfold GmName at hG
  split at hG
  case h_2 => cases hG
  rename_i s
  cases hG
  exact ⟨[.kn (.string s)], ⟨VExt.refl _, trivial⟩, by simp [Try.ntmps45], fun good hstep hext hle => mName_ok _ hp good hstep hext hle⟩
end Go.Proofs.Ytlfppcidlfkpkaa
