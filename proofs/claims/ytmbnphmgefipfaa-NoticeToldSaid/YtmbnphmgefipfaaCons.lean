/- What is proved: contracts of functions of one seat, each by the executor; written by a program of the prover (gen.py) and by hand. Conditions: each contract names its own. -/
import Derived.Test.YtmbnphmgefipfaaAw2
import Derived.Test.YtmbnphmgefipfaaProg
import Derived.KernelRfl
import Derived.IntWalk

namespace Go.Proofs.Ytmbnphmgefipfaa
open Go Go.Aw Go.RowKit
set_option linter.unusedVariables false
set_option linter.unusedSimpArgs false
set_option maxRecDepth 10000
def W (n : Int) : Int := IntKind.i64.wrap n
def isD (d : Int) : Prop := 0 ≤ d ∧ d ≤ 1048576
def isB (d : Int) : Bool := decide (0 ≤ d ∧ d ≤ 1048576)
def risesAt (l : List Int) (m : Int) (i : Nat) : Prop := 0 ≤ l.getD i 0 ∧ l.getD i 0 ≤ m ∧ (0 < i → l.getD (i - 1) 0 < l.getD i 0)
def risesP (l : List Int) (m : Int) : Prop := (∀ i, i < l.length → risesAt l m i) ∧ l.length ≤ 4096
def mayP (r h : List Int) : Prop := risesP r 6 ∧ risesP h 1048576
noncomputable def ownR (r h : List Int) : List Int := bif bP (mayP r h) then r else []
noncomputable def ownH (r h : List Int) : List Int := bif bP (mayP r h) then h else []
def restP (r h : List Int) (d : Int) : Prop := d.tmod 7 ∈ r ∨ d ∈ h
noncomputable def wk (r h : List Int) (d : Int) : Bool := !bP (mayP r h ∧ restP r h d)
def srt (l : List Int) : Prop := ∀ i j, i < j → j < l.length → l.getD i 0 < l.getD j 0
def along (w : Int → Bool) : Nat → Int → Int → Option Int
  | 0, _, _ => none
  | k + 1, d, n => if isB d = true then (if 0 < (bif w d then n - 1 else n) then along w k (d + 1) (bif w d then n - 1 else n) else some d) else none
def alongD (w : Int → Bool) (d n : Int) : Option Int := along w (1048577 - d).toNat d n
def cntN (w : Int → Bool) (a : Int) : Nat → Nat
  | 0 => 0
  | k + 1 => cntN w a k + (bif w (a + k) then 1 else 0)
def cnt (w : Int → Bool) (a b : Int) : Nat := cntN w a (b - a).toNat
noncomputable def deadline (r h : List Int) (p : Int) : Option Int := if isB p = true then alongD (wk r h) (p + 1) 5 else none
noncomputable def expiry (r h : List Int) (p : Int) : Option Int := alongD (wk r h) p 1
noncomputable def daysI (r h : List Int) (p t : Int) : Int := match deadline r h p with
  | none => 0
  | some by_ => (cnt (wk r h) (max t p + 1) (by_ + 1) : Nat)
def preB (o : Option Int) (an : Bool) (t : Int) : Bool := match o with
  | none => false
  | some b => !an && decide (b < t)
def two (o : Option Int) : V := .tup [.kn (.int .i64 (o.getD 0)), .kn (.bool o.isSome)]


theorem isB_iff {d : Int} : isB d = true ↔ (0 ≤ d ∧ d ≤ 1048576) := by simp [isB]
theorem along_none {w : Int → Bool} {d n : Int} (h : isB d = false) : alongD w d n = none := by
  unfold alongD
  cases hk : (1048577 - d).toNat with
  | zero => rfl
  | succ k => simp [along, h]
theorem along_some {w : Int → Bool} {d n : Int} (h : isB d = true) : alongD w d n = if 0 < (bif w d then n - 1 else n) then alongD w (d + 1) (bif w d then n - 1 else n) else some d := by
  have hb := isB_iff.1 h
  unfold alongD
  rw [show (1048577 - d).toNat = (1048577 - (d + 1)).toNat + 1 by omega]
  simp only [along, h, if_true]
theorem along_go {w : Int → Bool} {d n : Int} (h : isB d = true) (hn : 0 < (bif w d then n - 1 else n)) : alongD w d n = alongD w (d + 1) (bif w d then n - 1 else n) := by rw [along_some h, if_pos hn]
theorem along_end {w : Int → Bool} {d n : Int} (h : isB d = true) (hn : ¬ 0 < (bif w d then n - 1 else n)) : alongD w d n = some d := by rw [along_some h, if_neg hn]
theorem risesP_srt {l : List Int} {m : Int} (h : risesP l m) : srt l := by
  intro i j
  induction j with
  | zero => intro hij; omega
  | succ j ih =>
    intro hij hj
    have h1 := (h.1 (j + 1) hj).2.2 (by omega)
    simp only [Nat.add_sub_cancel] at h1
    by_cases he : i = j
    · subst he; exact h1
    · exact Int.lt_trans (ih (by omega) (by omega)) h1
theorem ownH_srt (r h : List Int) : srt (ownH r h) := by
  unfold ownH
  cases hb : bP (mayP r h) with
  | true => exact risesP_srt (bP_iff.1 hb).2
  | false => intro i j hi hj; simp at hj
theorem own_rest (r h : List Int) (d : Int) : restP (ownR r h) (ownH r h) d ↔ (mayP r h ∧ restP r h d) := by
  unfold ownR ownH
  cases hb : bP (mayP r h) with
  | true => simp [bP_iff.1 hb]
  | false => simp [bP_not.1 hb, restP]

def dis_pre (d : Int) : Prop := True
noncomputable def dis_val (d : Int) : V := .kn (.bool (isB d))
noncomputable def Gdis : PSpec
  | [.kn (.int .i64 d)] => some (dis_pre d, dis_val d)
  | _ => none
theorem dis_res (d : Int) (good : Cfg → Prop) (R : Option V → Prop) : arun Try.prog (conOf []) (0, []) good (RetO (R)) 400 (entry Try.prog 42 [.kn (.int .i64 d)]) =
    (bif decide (d ≥ (0 : Int)) then R (some (V.kn (Value.bool (decide (d ≤ (1048576 : Int)))))) else R (some (V.kn (Value.bool false)))) := by kernel_rfl
theorem dis_ok (d : Int) (hp : dis_pre d) (good : Cfg → Prop) (hstep : ∀ c, arun Try.prog (conOf []) (0, []) good (RetO (Tells (dis_val d))) 400 (c) → good c) (hext : ∀ c c', CfgExt c c' → good c' → good c) (hle : ∀ c c', CfgLe 0 c c' → good c' → good c) : arun Try.prog (conOf []) (0, []) good (RetO (Tells (dis_val d))) 400 (entry Try.prog 42 [.kn (.int .i64 d)]) := by
  rw [dis_res]
  repeat' first | exact trivial | refine And.intro ?_ ?_ | refine cond_intro (fun h => ?_) (fun h => ?_)
  all_goals refine tell_bool ?_
  all_goals simp only [decide_eq_true_eq, decide_eq_false_iff_not] at *
  all_goals rw [Bool.eq_iff_iff]
  all_goals simp [isB]
  all_goals omega
theorem dis_con : SpecOK Try.prog 42 (lift Gdis) := by
  refine con_of_run3 (con := conOf []) (hs := (0, [])) 400 Try.func42 rfl (by kernel_rfl) rfl conNil ?_
  intro args0 p r hG hp
  unfold Gdis at hG
  split at hG
  case h_2 => cases hG
  rename_i d
  cases hG
  exact ⟨[.kn (.int .i64 d)], ⟨VExt.refl _, trivial⟩, by simp [Try.ntmps42], fun good hstep hext hle => dis_ok _ hp good hstep hext hle⟩
def Is_pre (d : Int) : Prop := True
noncomputable def Is_val (d : Int) : V := .kn (.bool (isB d))
noncomputable def GIs : PSpec
  | [.kn (.int .i64 d)] => some (Is_pre d, Is_val d)
  | _ => none
theorem Is_res (d : Int) (good : Cfg → Prop) (R : Option V → Prop) : arun Try.prog (conOf []) (0, []) good (RetO (R)) 400 (entry Try.prog 26 [.kn (.int .i64 d)]) =
    (bif decide (d ≥ (0 : Int)) then R (some (V.kn (Value.bool (decide (d ≤ (1048576 : Int)))))) else R (some (V.kn (Value.bool false)))) := by kernel_rfl
theorem Is_ok (d : Int) (hp : Is_pre d) (good : Cfg → Prop) (hstep : ∀ c, arun Try.prog (conOf []) (0, []) good (RetO (Tells (Is_val d))) 400 (c) → good c) (hext : ∀ c c', CfgExt c c' → good c' → good c) (hle : ∀ c c', CfgLe 0 c c' → good c' → good c) : arun Try.prog (conOf []) (0, []) good (RetO (Tells (Is_val d))) 400 (entry Try.prog 26 [.kn (.int .i64 d)]) := by
  rw [Is_res]
  repeat' first | exact trivial | refine And.intro ?_ ?_ | refine cond_intro (fun h => ?_) (fun h => ?_)
  all_goals refine tell_bool ?_
  all_goals simp only [decide_eq_true_eq, decide_eq_false_iff_not] at *
  all_goals rw [Bool.eq_iff_iff]
  all_goals simp [isB]
  all_goals omega
theorem Is_con : SpecOK Try.prog 26 (lift GIs) := by
  refine con_of_run3 (con := conOf []) (hs := (0, [])) 400 Try.func26 rfl (by kernel_rfl) rfl conNil ?_
  intro args0 p r hG hp
  unfold GIs at hG
  split at hG
  case h_2 => cases hG
  rename_i d
  cases hG
  exact ⟨[.kn (.int .i64 d)], ⟨VExt.refl _, trivial⟩, by simp [Try.ntmps26], fun good hstep hext hle => Is_ok _ hp good hstep hext hle⟩
def nright_pre (d : Int) : Prop := True
noncomputable def nright_val (d : Int) : V := .kn (.bool (isB d))
noncomputable def Gnright : PSpec
  | [.kn (.int .i64 d)] => some (nright_pre d, nright_val d)
  | _ => none
theorem nright_res (d : Int) (good : Cfg → Prop) (R : Option V → Prop) : arun Try.prog (conOf []) (0, []) good (RetO (R)) 400 (entry Try.prog 38 [.kn (.int .i64 d)]) =
    (bif decide (d ≥ (0 : Int)) then R (some (V.kn (Value.bool (decide (d ≤ (1048576 : Int)))))) else R (some (V.kn (Value.bool false)))) := by kernel_rfl
theorem nright_ok (d : Int) (hp : nright_pre d) (good : Cfg → Prop) (hstep : ∀ c, arun Try.prog (conOf []) (0, []) good (RetO (Tells (nright_val d))) 400 (c) → good c) (hext : ∀ c c', CfgExt c c' → good c' → good c) (hle : ∀ c c', CfgLe 0 c c' → good c' → good c) : arun Try.prog (conOf []) (0, []) good (RetO (Tells (nright_val d))) 400 (entry Try.prog 38 [.kn (.int .i64 d)]) := by
  rw [nright_res]
  repeat' first | exact trivial | refine And.intro ?_ ?_ | refine cond_intro (fun h => ?_) (fun h => ?_)
  all_goals refine tell_bool ?_
  all_goals simp only [decide_eq_true_eq, decide_eq_false_iff_not] at *
  all_goals rw [Bool.eq_iff_iff]
  all_goals simp [isB]
  all_goals omega
theorem nright_con : SpecOK Try.prog 38 (lift Gnright) := by
  refine con_of_run3 (con := conOf []) (hs := (0, [])) 400 Try.func38 rfl (by kernel_rfl) rfl conNil ?_
  intro args0 p r hG hp
  unfold Gnright at hG
  split at hG
  case h_2 => cases hG
  rename_i d
  cases hG
  exact ⟨[.kn (.int .i64 d)], ⟨VExt.refl _, trivial⟩, by simp [Try.ntmps38], fun good hstep hext hle => nright_ok _ hp good hstep hext hle⟩
def drises_pre (m : Int) (l : List Int) : Prop := True
noncomputable def drises_val (m : Int) (l : List Int) : V := .kn (.bool (bP (risesP l m)))
noncomputable def Gdrises : PSpec
  | [.list s_l n_l f_l, .kn (.int .i64 m)] => some (eInt.okl s_l n_l f_l ∧ drises_pre m (eInt.dl n_l f_l), drises_val m (eInt.dl n_l f_l))
  | _ => none
theorem drises_res (m : Int) (l : List Int) (good : Cfg → Prop) (R : Option V → Prop) : arun Try.prog (conOf []) (0, [(39, 2, [0, 1, 7, 8, 9], [])]) good (RetO (R)) 400 (entry Try.prog 39 [.list eInt.s l.length (eInt.tl l), .kn (.int .i64 m)]) =
    (good { fr := { fn := (39 : Nat), nt := (38 : Nat), t := [((0 : Nat), V.list (1 : Nat) l.length (eInt.tl l)), ((1 : Nat), V.kn (Value.int IntKind.i64 m)), ((7 : Nat), V.list (1 : Nat) l.length (eInt.tl l)), ((8 : Nat), V.kn (Value.int IntKind.i64 ↑l.length)), ((9 : Nat), V.kn (Value.int IntKind.i64 (0 : Int)))], k := loopK Try.prog (39 : Nat) (2 : Nat) }, cs := [], h := [] }) := by kernel_rfl
@[reducible] noncomputable def drises_c2 (m : Int) (l : List Int) (i : Int) : Cfg := ⟨⟨39, 38, [(0, .list eInt.s l.length (eInt.tl l)), (1, .kn (.int .i64 m)), (7, .list eInt.s l.length (eInt.tl l)), (8, .kn (.int .i64 l.length)), (9, .kn (.int .i64 i))], loopK Try.prog 39 2⟩, [], []⟩
theorem drises_l2 (m : Int) (l : List Int) (i : Int) (good : Cfg → Prop) (R : Option V → Prop) : arun Try.prog (conOf []) (0, [(39, 2, [0, 1, 7, 8, 9], [])]) good (RetO (R)) 400 (drises_c2 m l i) =
    (bif decide (i < ↑l.length) then ((0 : Int) ≤ i ∧ i < ↑l.length) ∧ bif decide (l.getD i.toNat (0 : Int) < (0 : Int)) then R (some (V.kn (Value.bool false))) else bif decide (l.getD i.toNat (0 : Int) > m) then R (some (V.kn (Value.bool false))) else bif decide (i > (0 : Int)) then ((0 : Int) ≤ IntKind.i64.wrap (i - (1 : Int)) ∧ IntKind.i64.wrap (i - (1 : Int)) < ↑l.length) ∧ bif decide (l.getD (IntKind.i64.wrap (i - (1 : Int))).toNat (0 : Int) ≥ l.getD i.toNat (0 : Int)) then R (some (V.kn (Value.bool false))) else good { fr := { fn := (39 : Nat), nt := (38 : Nat), t := [((0 : Nat), V.list (1 : Nat) l.length (eInt.tl l)), ((1 : Nat), V.kn (Value.int IntKind.i64 m)), ((7 : Nat), V.list (1 : Nat) l.length (eInt.tl l)), ((8 : Nat), V.kn (Value.int IntKind.i64 ↑l.length)), ((9 : Nat), V.kn (Value.int IntKind.i64 (IntKind.i64.wrap (i + (1 : Int)))))], k := loopK Try.prog (39 : Nat) (2 : Nat) }, cs := [], h := [] } else good { fr := { fn := (39 : Nat), nt := (38 : Nat), t := [((0 : Nat), V.list (1 : Nat) l.length (eInt.tl l)), ((1 : Nat), V.kn (Value.int IntKind.i64 m)), ((7 : Nat), V.list (1 : Nat) l.length (eInt.tl l)), ((8 : Nat), V.kn (Value.int IntKind.i64 ↑l.length)), ((9 : Nat), V.kn (Value.int IntKind.i64 (IntKind.i64.wrap (i + (1 : Int)))))], k := loopK Try.prog (39 : Nat) (2 : Nat) }, cs := [], h := [] } else R (some (V.kn (Value.bool (decide (↑l.length ≤ (4096 : Int))))))) := by kernel_rfl
theorem drises_ok (m : Int) (l : List Int) (len_l : l.length ≤ maxLen) (hp : drises_pre m l) (good : Cfg → Prop) (hstep : ∀ c, arun Try.prog (conOf []) (0, [(39, 2, [0, 1, 7, 8, 9], [])]) good (RetO (Tells (drises_val m l))) 400 (c) → good c) (hext : ∀ c c', CfgExt c c' → good c' → good c) (hle : ∀ c c', CfgLe 0 c c' → good c' → good c) : arun Try.prog (conOf []) (0, [(39, 2, [0, 1, 7, 8, 9], [])]) good (RetO (Tells (drises_val m l))) 400 (entry Try.prog 39 [.list eInt.s l.length (eInt.tl l), .kn (.int .i64 m)]) := by
  rw [drises_res]
  refine foreach l (fun i (_ : Unit) => ∀ j, j < i → risesAt l m j) (fun i _ => drises_c2 m l i) (fun i _ hi hv ih => ?_) (fun _ hv => ?_) () (fun j hj => by omega)
  · apply hstep
    rw [drises_l2]
    have hm : maxLen = 9223372036854775807 := rfl
    have e1 : (i : Int).toNat = i := by omega
    have fin : risesAt l m i → ∀ j, j < i + 1 → risesAt l m j := fun h j hj => by
      by_cases hji : j = i
      · subst hji; exact h
      · exact hv j (by omega)
    have bad : ¬ risesAt l m i → Tells (drises_val m l) (some (.kn (.bool false))) := fun h => tell_false fun hr => h (hr.1 i hi)
    have e2 : 0 < i → IntKind.i64.wrap ((i : Int) - 1) = ((i - 1 : Nat) : Int) := fun h => by rw [wrap_in (by omega) (by omega)]; omega
    rw [e1, wrap_succ hi len_l]
    refine cond_true' (decide_eq_true (by omega)) ?_
    have k1 : (0 : Int) ≤ i ∧ (i : Int) < l.length := ⟨by omega, by omega⟩
    have c1 : (decide ((i : Int) > 0) = true) → 0 < i := fun h => by simp only [decide_eq_true_eq] at h; omega
    have c2 : (decide ((i : Int) > 0) = true) → (0 : Int) ≤ IntKind.i64.wrap ((i : Int) - 1) ∧ IntKind.i64.wrap ((i : Int) - 1) < l.length := fun h => by have := c1 h; rw [e2 this]; omega
    repeat' first | exact k1 | exact c2 ‹_› | refine And.intro ?_ ?_ | refine cond_intro (fun h => ?_) (fun h => ?_)
    all_goals first | refine bad fun ho => ?_ | refine ih () (fin ?_)
    all_goals first | (obtain ⟨o1, o2, o3⟩ := ho; simp only [decide_eq_true_eq, decide_eq_false_iff_not] at *; first | omega | (have := o3 (by omega); rw [e2 (by omega), Int.toNat_natCast] at *; omega)) | skip
    all_goals (unfold risesAt; simp only [decide_eq_true_eq, decide_eq_false_iff_not] at *; refine ⟨by omega, by omega, fun h0 => ?_⟩; first | omega | (rw [e2 h0, Int.toNat_natCast] at *; omega))
  · apply hstep
    rw [drises_l2]
    refine cond_false' (decide_eq_false (by omega)) (tell_iff ?_)
    rw [decide_eq_true_eq]
    exact ⟨fun h => ⟨hv, by omega⟩, fun h => by have := h.2; omega⟩
theorem drises_con : SpecOK Try.prog 39 (lift Gdrises) := by
  refine con_of_run3 (con := conOf []) (hs := (0, [(39, 2, [0, 1, 7, 8, 9], [])])) 400 Try.func39 rfl (by kernel_rfl) rfl conNil ?_
  intro args0 p r hG hp
  unfold Gdrises at hG
  split at hG
  case h_2 => cases hG
  rename_i s_l n_l f_l m
  cases hG
  obtain ⟨ok_l, hp⟩ := hp
  exact ⟨[.list eInt.s (eInt.dl n_l f_l).length (eInt.tl (eInt.dl n_l f_l)), .kn (.int .i64 m)], ⟨eInt.extl ok_l, VExt.refl _, trivial⟩, by simp [Try.ntmps39], fun good hstep hext hle => drises_ok _ _ (by rw [eInt.dl_length]; exact ok_l.2.1) hp good hstep hext hle⟩
def rrises_pre (m : Int) (l : List Int) : Prop := True
noncomputable def rrises_val (m : Int) (l : List Int) : V := .kn (.bool (bP (risesP l m)))
noncomputable def Grrises : PSpec
  | [.list s_l n_l f_l, .kn (.int .i64 m)] => some (eInt.okl s_l n_l f_l ∧ rrises_pre m (eInt.dl n_l f_l), rrises_val m (eInt.dl n_l f_l))
  | _ => none
theorem rrises_res (m : Int) (l : List Int) (good : Cfg → Prop) (R : Option V → Prop) : arun Try.prog (conOf []) (0, [(55, 2, [0, 1, 5], [])]) good (RetO (R)) 400 (entry Try.prog 55 [.list eInt.s l.length (eInt.tl l), .kn (.int .i64 m)]) =
    (good { fr := { fn := (55 : Nat), nt := (44 : Nat), t := [((0 : Nat), V.list (1 : Nat) l.length (eInt.tl l)), ((1 : Nat), V.kn (Value.int IntKind.i64 m)), ((5 : Nat), V.kn (Value.int IntKind.i64 (0 : Int)))], k := loopK Try.prog (55 : Nat) (2 : Nat) }, cs := [], h := [] }) := by kernel_rfl
@[reducible] noncomputable def rrises_c2 (m : Int) (l : List Int) (i : Int) : Cfg := ⟨⟨55, 44, [(0, .list eInt.s l.length (eInt.tl l)), (1, .kn (.int .i64 m)), (5, .kn (.int .i64 i))], loopK Try.prog 55 2⟩, [], []⟩
theorem rrises_l2 (m : Int) (l : List Int) (i : Int) (good : Cfg → Prop) (R : Option V → Prop) : arun Try.prog (conOf []) (0, [(55, 2, [0, 1, 5], [])]) good (RetO (R)) 400 (rrises_c2 m l i) =
    (bif decide (i < ↑l.length) then ((0 : Int) ≤ i ∧ i < ↑l.length) ∧ bif decide (l.getD i.toNat (0 : Int) < (0 : Int)) then R (some (V.kn (Value.bool false))) else ((0 : Int) ≤ i ∧ i < ↑l.length) ∧ bif decide (l.getD i.toNat (0 : Int) > m) then R (some (V.kn (Value.bool false))) else bif decide (i > (0 : Int)) then ((0 : Int) ≤ IntKind.i64.wrap (i - (1 : Int)) ∧ IntKind.i64.wrap (i - (1 : Int)) < ↑l.length) ∧ ((0 : Int) ≤ i ∧ i < ↑l.length) ∧ bif decide (l.getD (IntKind.i64.wrap (i - (1 : Int))).toNat (0 : Int) ≥ l.getD i.toNat (0 : Int)) then R (some (V.kn (Value.bool false))) else good { fr := { fn := (55 : Nat), nt := (44 : Nat), t := [((0 : Nat), V.list (1 : Nat) l.length (eInt.tl l)), ((1 : Nat), V.kn (Value.int IntKind.i64 m)), ((5 : Nat), V.kn (Value.int IntKind.i64 (IntKind.i64.wrap (i + (1 : Int)))))], k := loopK Try.prog (55 : Nat) (2 : Nat) }, cs := [], h := [] } else good { fr := { fn := (55 : Nat), nt := (44 : Nat), t := [((0 : Nat), V.list (1 : Nat) l.length (eInt.tl l)), ((1 : Nat), V.kn (Value.int IntKind.i64 m)), ((5 : Nat), V.kn (Value.int IntKind.i64 (IntKind.i64.wrap (i + (1 : Int)))))], k := loopK Try.prog (55 : Nat) (2 : Nat) }, cs := [], h := [] } else R (some (V.kn (Value.bool (decide (↑l.length ≤ (4096 : Int))))))) := by kernel_rfl
theorem rrises_ok (m : Int) (l : List Int) (len_l : l.length ≤ maxLen) (hp : rrises_pre m l) (good : Cfg → Prop) (hstep : ∀ c, arun Try.prog (conOf []) (0, [(55, 2, [0, 1, 5], [])]) good (RetO (Tells (rrises_val m l))) 400 (c) → good c) (hext : ∀ c c', CfgExt c c' → good c' → good c) (hle : ∀ c c', CfgLe 0 c c' → good c' → good c) : arun Try.prog (conOf []) (0, [(55, 2, [0, 1, 5], [])]) good (RetO (Tells (rrises_val m l))) 400 (entry Try.prog 55 [.list eInt.s l.length (eInt.tl l), .kn (.int .i64 m)]) := by
  rw [rrises_res]
  refine foreach l (fun i (_ : Unit) => ∀ j, j < i → risesAt l m j) (fun i _ => rrises_c2 m l i) (fun i _ hi hv ih => ?_) (fun _ hv => ?_) () (fun j hj => by omega)
  · apply hstep
    rw [rrises_l2]
    have hm : maxLen = 9223372036854775807 := rfl
    have e1 : (i : Int).toNat = i := by omega
    have fin : risesAt l m i → ∀ j, j < i + 1 → risesAt l m j := fun h j hj => by
      by_cases hji : j = i
      · subst hji; exact h
      · exact hv j (by omega)
    have bad : ¬ risesAt l m i → Tells (rrises_val m l) (some (.kn (.bool false))) := fun h => tell_false fun hr => h (hr.1 i hi)
    have e2 : 0 < i → IntKind.i64.wrap ((i : Int) - 1) = ((i - 1 : Nat) : Int) := fun h => by rw [wrap_in (by omega) (by omega)]; omega
    rw [e1, wrap_succ hi len_l]
    refine cond_true' (decide_eq_true (by omega)) ?_
    have k1 : (0 : Int) ≤ i ∧ (i : Int) < l.length := ⟨by omega, by omega⟩
    have c1 : (decide ((i : Int) > 0) = true) → 0 < i := fun h => by simp only [decide_eq_true_eq] at h; omega
    have c2 : (decide ((i : Int) > 0) = true) → (0 : Int) ≤ IntKind.i64.wrap ((i : Int) - 1) ∧ IntKind.i64.wrap ((i : Int) - 1) < l.length := fun h => by have := c1 h; rw [e2 this]; omega
    repeat' first | exact k1 | exact c2 ‹_› | refine And.intro ?_ ?_ | refine cond_intro (fun h => ?_) (fun h => ?_)
    all_goals first | refine bad fun ho => ?_ | refine ih () (fin ?_)
    all_goals first | (obtain ⟨o1, o2, o3⟩ := ho; simp only [decide_eq_true_eq, decide_eq_false_iff_not] at *; first | omega | (have := o3 (by omega); rw [e2 (by omega), Int.toNat_natCast] at *; omega)) | skip
    all_goals (unfold risesAt; simp only [decide_eq_true_eq, decide_eq_false_iff_not] at *; refine ⟨by omega, by omega, fun h0 => ?_⟩; first | omega | (rw [e2 h0, Int.toNat_natCast] at *; omega))
  · apply hstep
    rw [rrises_l2]
    refine cond_false' (decide_eq_false (by omega)) (tell_iff ?_)
    rw [decide_eq_true_eq]
    exact ⟨fun h => ⟨hv, by omega⟩, fun h => by have := h.2; omega⟩
theorem rrises_con : SpecOK Try.prog 55 (lift Grrises) := by
  refine con_of_run3 (con := conOf []) (hs := (0, [(55, 2, [0, 1, 5], [])])) 400 Try.func55 rfl (by kernel_rfl) rfl conNil ?_
  intro args0 p r hG hp
  unfold Grrises at hG
  split at hG
  case h_2 => cases hG
  rename_i s_l n_l f_l m
  cases hG
  obtain ⟨ok_l, hp⟩ := hp
  exact ⟨[.list eInt.s (eInt.dl n_l f_l).length (eInt.tl (eInt.dl n_l f_l)), .kn (.int .i64 m)], ⟨eInt.extl ok_l, VExt.refl _, trivial⟩, by simp [Try.ntmps55], fun good hstep hext hle => rrises_ok _ _ (by rw [eInt.dl_length]; exact ok_l.2.1) hp good hstep hext hle⟩
def dMay_pre  (r : List Int) (h : List Int) : Prop := True
noncomputable def dMay_val  (r : List Int) (h : List Int) : V := .kn (.bool (bP (mayP r h)))
noncomputable def GdMay : PSpec
  | [.agg [.list s_r n_r f_r, .list s_h n_h f_h]] => some (eInt.okl s_r n_r f_r ∧ eInt.okl s_h n_h f_h ∧ dMay_pre (eInt.dl n_r f_r) (eInt.dl n_h f_h), dMay_val (eInt.dl n_r f_r) (eInt.dl n_h f_h))
  | _ => none
theorem dMay_res  (r : List Int) (h : List Int) (good : Cfg → Prop) (R : Option V → Prop) : arun Try.prog (conOf [(39, lift Gdrises)]) (0, []) good (RetO (R)) 400 (entry Try.prog 22 [.agg [.list eInt.s r.length (eInt.tl r), .list eInt.s h.length (eInt.tl h)]]) =
    ((eInt.okl (1 : Nat) r.length (eInt.tl r) ∧ drises_pre (6 : Int) (eInt.dl r.length (eInt.tl r))) ∧ bif bP (risesP (eInt.dl r.length (eInt.tl r)) (6 : Int)) then (eInt.okl (1 : Nat) h.length (eInt.tl h) ∧ drises_pre (1048576 : Int) (eInt.dl h.length (eInt.tl h))) ∧ R (some (V.kn (Value.bool (bP (risesP (eInt.dl h.length (eInt.tl h)) (1048576 : Int)))))) else R (some (V.kn (Value.bool false)))) := by kernel_rfl
theorem dMay_ok  (r : List Int) (h : List Int) (len_r : r.length ≤ maxLen) (len_h : h.length ≤ maxLen) (hp : dMay_pre r h) (good : Cfg → Prop) (hstep : ∀ c, arun Try.prog (conOf [(39, lift Gdrises)]) (0, []) good (RetO (Tells (dMay_val r h))) 400 (c) → good c) (hext : ∀ c c', CfgExt c c' → good c' → good c) (hle : ∀ c c', CfgLe 0 c c' → good c' → good c) : arun Try.prog (conOf [(39, lift Gdrises)]) (0, []) good (RetO (Tells (dMay_val r h))) 400 (entry Try.prog 22 [.agg [.list eInt.s r.length (eInt.tl r), .list eInt.s h.length (eInt.tl h)]]) := by
  rw [dMay_res]
  have ok_r : eInt.okl 1 r.length (eInt.tl r) := eInt.okl_tl len_r
  have ok_h : eInt.okl 1 h.length (eInt.tl h) := eInt.okl_tl len_h
  try simp only [eInt.dl_tl]
  
  refine ⟨⟨ok_r, trivial⟩, cond_intro (fun h1 => ⟨⟨ok_h, trivial⟩, tell_iff ?_⟩) (fun h1 => tell_false fun hp => ?_)⟩
  · simp only [bP_iff] at h1 ⊢
    exact ⟨fun h2 => ⟨h1, h2⟩, fun h2 => h2.2⟩
  · exact bP_not.1 h1 hp.1
theorem dMay_con : SpecOK Try.prog 22 (lift GdMay) := by
  refine con_of_run3 (con := conOf [(39, lift Gdrises)]) (hs := (0, [])) 400 Try.func22 rfl (by kernel_rfl) rfl (conCons drises_con conNil) ?_
  intro args0 p r hG hp
  unfold GdMay at hG
  split at hG
  case h_2 => cases hG
  rename_i s_r n_r f_r s_h n_h f_h
  cases hG
  obtain ⟨ok_r, hp⟩ := hp
  obtain ⟨ok_h, hp⟩ := hp
  exact ⟨[.agg [.list eInt.s (eInt.dl n_r f_r).length (eInt.tl (eInt.dl n_r f_r)), .list eInt.s (eInt.dl n_h f_h).length (eInt.tl (eInt.dl n_h f_h))]], ⟨VExt.agg ⟨eInt.extl ok_r, eInt.extl ok_h, trivial⟩, trivial⟩, by simp [Try.ntmps22], fun good hstep hext hle => dMay_ok _ _ (by rw [eInt.dl_length]; exact ok_r.2.1) (by rw [eInt.dl_length]; exact ok_h.2.1) hp good hstep hext hle⟩
def rMay_pre  (r : List Int) (h : List Int) : Prop := True
noncomputable def rMay_val  (r : List Int) (h : List Int) : V := .kn (.bool (bP (mayP r h)))
noncomputable def GrMay : PSpec
  | [.agg [.list s_r n_r f_r, .list s_h n_h f_h]] => some (eInt.okl s_r n_r f_r ∧ eInt.okl s_h n_h f_h ∧ rMay_pre (eInt.dl n_r f_r) (eInt.dl n_h f_h), rMay_val (eInt.dl n_r f_r) (eInt.dl n_h f_h))
  | _ => none
theorem rMay_res  (r : List Int) (h : List Int) (good : Cfg → Prop) (R : Option V → Prop) : arun Try.prog (conOf [(55, lift Grrises)]) (0, []) good (RetO (R)) 400 (entry Try.prog 45 [.agg [.list eInt.s r.length (eInt.tl r), .list eInt.s h.length (eInt.tl h)]]) =
    ((eInt.okl (1 : Nat) r.length (eInt.tl r) ∧ rrises_pre (6 : Int) (eInt.dl r.length (eInt.tl r))) ∧ bif bP (risesP (eInt.dl r.length (eInt.tl r)) (6 : Int)) then (eInt.okl (1 : Nat) h.length (eInt.tl h) ∧ rrises_pre (1048576 : Int) (eInt.dl h.length (eInt.tl h))) ∧ R (some (V.kn (Value.bool (bP (risesP (eInt.dl h.length (eInt.tl h)) (1048576 : Int)))))) else R (some (V.kn (Value.bool false)))) := by kernel_rfl
theorem rMay_ok  (r : List Int) (h : List Int) (len_r : r.length ≤ maxLen) (len_h : h.length ≤ maxLen) (hp : rMay_pre r h) (good : Cfg → Prop) (hstep : ∀ c, arun Try.prog (conOf [(55, lift Grrises)]) (0, []) good (RetO (Tells (rMay_val r h))) 400 (c) → good c) (hext : ∀ c c', CfgExt c c' → good c' → good c) (hle : ∀ c c', CfgLe 0 c c' → good c' → good c) : arun Try.prog (conOf [(55, lift Grrises)]) (0, []) good (RetO (Tells (rMay_val r h))) 400 (entry Try.prog 45 [.agg [.list eInt.s r.length (eInt.tl r), .list eInt.s h.length (eInt.tl h)]]) := by
  rw [rMay_res]
  have ok_r : eInt.okl 1 r.length (eInt.tl r) := eInt.okl_tl len_r
  have ok_h : eInt.okl 1 h.length (eInt.tl h) := eInt.okl_tl len_h
  try simp only [eInt.dl_tl]
  
  refine ⟨⟨ok_r, trivial⟩, cond_intro (fun h1 => ⟨⟨ok_h, trivial⟩, tell_iff ?_⟩) (fun h1 => tell_false fun hp => ?_)⟩
  · simp only [bP_iff] at h1 ⊢
    exact ⟨fun h2 => ⟨h1, h2⟩, fun h2 => h2.2⟩
  · exact bP_not.1 h1 hp.1
theorem rMay_con : SpecOK Try.prog 45 (lift GrMay) := by
  refine con_of_run3 (con := conOf [(55, lift Grrises)]) (hs := (0, [])) 400 Try.func45 rfl (by kernel_rfl) rfl (conCons rrises_con conNil) ?_
  intro args0 p r hG hp
  unfold GrMay at hG
  split at hG
  case h_2 => cases hG
  rename_i s_r n_r f_r s_h n_h f_h
  cases hG
  obtain ⟨ok_r, hp⟩ := hp
  obtain ⟨ok_h, hp⟩ := hp
  exact ⟨[.agg [.list eInt.s (eInt.dl n_r f_r).length (eInt.tl (eInt.dl n_r f_r)), .list eInt.s (eInt.dl n_h f_h).length (eInt.tl (eInt.dl n_h f_h))]], ⟨VExt.agg ⟨eInt.extl ok_r, eInt.extl ok_h, trivial⟩, trivial⟩, by simp [Try.ntmps45], fun good hstep hext hle => rMay_ok _ _ (by rw [eInt.dl_length]; exact ok_r.2.1) (by rw [eInt.dl_length]; exact ok_h.2.1) hp good hstep hext hle⟩
def own_pre  (r : List Int) (h : List Int) : Prop := True
noncomputable def own_val  (r : List Int) (h : List Int) : V := .agg [.list eInt.s (ownR r h).length (eInt.tl (ownR r h)), .list eInt.s (ownH r h).length (eInt.tl (ownH r h))]
noncomputable def Gown : PSpec
  | [.agg [.list s_r n_r f_r, .list s_h n_h f_h]] => some (eInt.okl s_r n_r f_r ∧ eInt.okl s_h n_h f_h ∧ own_pre (eInt.dl n_r f_r) (eInt.dl n_h f_h), own_val (eInt.dl n_r f_r) (eInt.dl n_h f_h))
  | _ => none
theorem own_res  (r : List Int) (h : List Int) (good : Cfg → Prop) (R : Option V → Prop) : arun Try.prog (conOf [(22, lift GdMay)]) (0, []) good (RetO (R)) 400 (entry Try.prog 40 [.agg [.list eInt.s r.length (eInt.tl r), .list eInt.s h.length (eInt.tl h)]]) =
    ((eInt.okl (1 : Nat) r.length (eInt.tl r) ∧ eInt.okl (1 : Nat) h.length (eInt.tl h) ∧ dMay_pre (eInt.dl r.length (eInt.tl r)) (eInt.dl h.length (eInt.tl h))) ∧ bif bP (mayP (eInt.dl r.length (eInt.tl r)) (eInt.dl h.length (eInt.tl h))) then R (some (V.agg [V.list (1 : Nat) r.length (eInt.tl r), V.list (1 : Nat) h.length (eInt.tl h)])) else R (some (V.agg [V.list (1 : Nat) (0 : Nat) fun i => [], V.list (1 : Nat) (0 : Nat) fun i => []]))) := by kernel_rfl
theorem own_ok  (r : List Int) (h : List Int) (len_r : r.length ≤ maxLen) (len_h : h.length ≤ maxLen) (hp : own_pre r h) (good : Cfg → Prop) (hstep : ∀ c, arun Try.prog (conOf [(22, lift GdMay)]) (0, []) good (RetO (Tells (own_val r h))) 400 (c) → good c) (hext : ∀ c c', CfgExt c c' → good c' → good c) (hle : ∀ c c', CfgLe 0 c c' → good c' → good c) : arun Try.prog (conOf [(22, lift GdMay)]) (0, []) good (RetO (Tells (own_val r h))) 400 (entry Try.prog 40 [.agg [.list eInt.s r.length (eInt.tl r), .list eInt.s h.length (eInt.tl h)]]) := by
  rw [own_res]
  have ok_r : eInt.okl 1 r.length (eInt.tl r) := eInt.okl_tl len_r
  have ok_h : eInt.okl 1 h.length (eInt.tl h) := eInt.okl_tl len_h
  try simp only [eInt.dl_tl]
  
  refine ⟨⟨ok_r, ok_h, trivial⟩, cond_intro (fun h1 => tell ?_) (fun h1 => tell_ext ?_)⟩
  · simp only [own_val, ownR, ownH, h1, cond_true]; rfl
  · simp only [own_val, ownR, ownH, h1, cond_false]
    exact VExt.agg ⟨VExt.nilL, VExt.nilL, trivial⟩
theorem own_con : SpecOK Try.prog 40 (lift Gown) := by
  refine con_of_run3 (con := conOf [(22, lift GdMay)]) (hs := (0, [])) 400 Try.func40 rfl (by kernel_rfl) rfl (conCons dMay_con conNil) ?_
  intro args0 p r hG hp
  unfold Gown at hG
  split at hG
  case h_2 => cases hG
  rename_i s_r n_r f_r s_h n_h f_h
  cases hG
  obtain ⟨ok_r, hp⟩ := hp
  obtain ⟨ok_h, hp⟩ := hp
  exact ⟨[.agg [.list eInt.s (eInt.dl n_r f_r).length (eInt.tl (eInt.dl n_r f_r)), .list eInt.s (eInt.dl n_h f_h).length (eInt.tl (eInt.dl n_h f_h))]], ⟨VExt.agg ⟨eInt.extl ok_r, eInt.extl ok_h, trivial⟩, trivial⟩, by simp [Try.ntmps40], fun good hstep hext hle => own_ok _ _ (by rw [eInt.dl_length]; exact ok_r.2.1) (by rw [eInt.dl_length]; exact ok_h.2.1) hp good hstep hext hle⟩
noncomputable def idxP {α : Type} (p : α → Prop) (xs : List α) : Int := bif bP (∃ x ∈ xs, p x) then ((xs.findIdx fun x => bP (p x) : Nat) : Int) else -1


theorem idxP_miss {α : Type} {p : α → Prop} {xs : List α} (h : ∀ i (hi : i < xs.length), ¬ p xs[i]) : idxP p xs = -1 := by
  unfold idxP
  rw [bP_false (fun ⟨x, hx, hp⟩ => by obtain ⟨i, hi, rfl⟩ := List.getElem_of_mem hx; exact h i hi hp)]
  rfl
theorem idxP_hit {α : Type} {p : α → Prop} {xs : List α} {i : Nat} (hi : i < xs.length) (h : ∀ j (hj : j < xs.length), j < i → ¬ p xs[j]) (hp : p xs[i]) : idxP p xs = (i : Int) := by
  unfold idxP
  rw [bP_true ⟨_, List.getElem_mem hi, hp⟩]
  have : xs.findIdx (fun x => bP (p x)) = i := (List.findIdx_eq hi).2 ⟨bP_true hp, fun j hj => bP_false (h j (by omega) hj)⟩
  rw [this]
  rfl
theorem idxP_nonneg {α : Type} {p : α → Prop} {xs : List α} : 0 ≤ idxP p xs ↔ ∃ x ∈ xs, p x := by
  unfold idxP
  cases h : bP (∃ x ∈ xs, p x) with
  | true => simp [bP_iff.1 h]
  | false => simp [bP_not.1 h]

def indexI_pre (v : Int) (xs : List Int) : Prop := True
noncomputable def indexI_val (v : Int) (xs : List Int) : V := .kn (.int .i64 (idxP (fun x => v = x) xs))
noncomputable def GindexI : PSpec
  | [.list s_xs n_xs f_xs, .kn (.int .i64 v)] => some (eInt.okl s_xs n_xs f_xs ∧ indexI_pre v (eInt.dl n_xs f_xs), indexI_val v (eInt.dl n_xs f_xs))
  | _ => none
theorem indexI_res (v : Int) (xs : List Int) (good : Cfg → Prop) (R : Option V → Prop) : arun Try.prog (conOf []) (0, [(60, 2, [0, 1, 7, 8], [])]) good (RetO (R)) 400 (entry Try.prog 60 [.list eInt.s xs.length (eInt.tl xs), .kn (.int .i64 v)]) =
    (good { fr := { fn := (60 : Nat), nt := (19 : Nat), t := [((0 : Nat), V.list (1 : Nat) xs.length (eInt.tl xs)), ((1 : Nat), V.kn (Value.int IntKind.i64 v)), ((7 : Nat), V.kn (Value.int IntKind.i64 ↑xs.length)), ((8 : Nat), V.kn (Value.int IntKind.i64 (0 : Int)))], k := loopK Try.prog (60 : Nat) (2 : Nat) }, cs := [], h := [] }) := by kernel_rfl
@[reducible] noncomputable def indexI_c2 (v : Int) (xs : List Int) (i : Int) : Cfg := ⟨⟨60, 19, [(0, .list eInt.s xs.length (eInt.tl xs)), (1, .kn (.int .i64 v)), (7, .kn (.int .i64 xs.length)), (8, .kn (.int .i64 i))], loopK Try.prog 60 2⟩, [], []⟩
theorem indexI_l2 (v : Int) (xs : List Int) (i : Int) (good : Cfg → Prop) (R : Option V → Prop) : arun Try.prog (conOf []) (0, [(60, 2, [0, 1, 7, 8], [])]) good (RetO (R)) 400 (indexI_c2 v xs i) =
    (bif decide (i < ↑xs.length) then ((0 : Int) ≤ i ∧ i < ↑xs.length) ∧ bif v == xs.getD i.toNat (0 : Int) then R (some (V.kn (Value.int IntKind.i64 i))) else good { fr := { fn := (60 : Nat), nt := (19 : Nat), t := [((0 : Nat), V.list (1 : Nat) xs.length (eInt.tl xs)), ((1 : Nat), V.kn (Value.int IntKind.i64 v)), ((7 : Nat), V.kn (Value.int IntKind.i64 ↑xs.length)), ((8 : Nat), V.kn (Value.int IntKind.i64 (IntKind.i64.wrap (i + (1 : Int)))))], k := loopK Try.prog (60 : Nat) (2 : Nat) }, cs := [], h := [] } else R (some (V.kn (Value.int IntKind.i64 (-1 : Int))))) := by kernel_rfl
theorem indexI_ok (v : Int) (xs : List Int) (len_xs : xs.length ≤ maxLen) (hp : indexI_pre v xs) (good : Cfg → Prop) (hstep : ∀ c, arun Try.prog (conOf []) (0, [(60, 2, [0, 1, 7, 8], [])]) good (RetO (Tells (indexI_val v xs))) 400 (c) → good c) (hext : ∀ c c', CfgExt c c' → good c' → good c) (hle : ∀ c c', CfgLe 0 c c' → good c' → good c) : arun Try.prog (conOf []) (0, [(60, 2, [0, 1, 7, 8], [])]) good (RetO (Tells (indexI_val v xs))) 400 (entry Try.prog 60 [.list eInt.s xs.length (eInt.tl xs), .kn (.int .i64 v)]) := by
  rw [indexI_res]
  refine foreach xs (fun i (_ : Unit) => ∀ j (hl : j < xs.length), j < i → ¬ v = xs[j]) (fun i _ => indexI_c2 v xs i) (fun i _ hi hv ih => ?_) (fun _ hv => ?_) () (fun j hl hj => by omega)
  · apply hstep
    rw [indexI_l2]
    have e1 : (i : Int).toNat = i := by omega
    rw [e1, wrap_succ hi len_xs, getD_at _ hi]
    refine cond_true' (decide_eq_true (by omega)) ⟨⟨by omega, by omega⟩, cond_intro (fun h => ?_) (fun h => ih () (fun j hl hj => ?_))⟩
    · refine tell ?_
      rw [indexI_val, idxP_hit (p := fun x => v = x) hi hv (by simpa using h)]
    · by_cases hji : j = i
      · subst hji; simpa using h
      · exact hv j hl (by omega)
  · apply hstep
    rw [indexI_l2]
    refine cond_false' (decide_eq_false (by omega)) (tell ?_)
    rw [indexI_val, idxP_miss fun j hl => hv j hl hl]
theorem indexI_con : SpecOK Try.prog 60 (lift GindexI) := by
  refine con_of_run3 (con := conOf []) (hs := (0, [(60, 2, [0, 1, 7, 8], [])])) 400 Try.func60 rfl (by kernel_rfl) rfl conNil ?_
  intro args0 p r hG hp
  unfold GindexI at hG
  split at hG
  case h_2 => cases hG
  rename_i s_xs n_xs f_xs v
  cases hG
  obtain ⟨ok_xs, hp⟩ := hp
  exact ⟨[.list eInt.s (eInt.dl n_xs f_xs).length (eInt.tl (eInt.dl n_xs f_xs)), .kn (.int .i64 v)], ⟨eInt.extl ok_xs, VExt.refl _, trivial⟩, by simp [Try.ntmps60], fun good hstep hext hle => indexI_ok _ _ (by rw [eInt.dl_length]; exact ok_xs.2.1) hp good hstep hext hle⟩
def containsI_pre (v : Int) (xs : List Int) : Prop := True
noncomputable def containsI_val (v : Int) (xs : List Int) : V := .kn (.bool (bP (v ∈ xs)))
noncomputable def GcontainsI : PSpec
  | [.list s_xs n_xs f_xs, .kn (.int .i64 v)] => some (eInt.okl s_xs n_xs f_xs ∧ containsI_pre v (eInt.dl n_xs f_xs), containsI_val v (eInt.dl n_xs f_xs))
  | _ => none
theorem containsI_res (v : Int) (xs : List Int) (good : Cfg → Prop) (R : Option V → Prop) : arun Try.prog (conOf [(60, lift GindexI)]) (0, []) good (RetO (R)) 400 (entry Try.prog 54 [.list eInt.s xs.length (eInt.tl xs), .kn (.int .i64 v)]) =
    ((eInt.okl (1 : Nat) xs.length (eInt.tl xs) ∧ indexI_pre v (eInt.dl xs.length (eInt.tl xs))) ∧ R (some (V.kn (Value.bool (decide (idxP (fun x => v = x) (eInt.dl xs.length (eInt.tl xs)) ≥ (0 : Int))))))) := by kernel_rfl
theorem containsI_ok (v : Int) (xs : List Int) (len_xs : xs.length ≤ maxLen) (hp : containsI_pre v xs) (good : Cfg → Prop) (hstep : ∀ c, arun Try.prog (conOf [(60, lift GindexI)]) (0, []) good (RetO (Tells (containsI_val v xs))) 400 (c) → good c) (hext : ∀ c c', CfgExt c c' → good c' → good c) (hle : ∀ c c', CfgLe 0 c c' → good c' → good c) : arun Try.prog (conOf [(60, lift GindexI)]) (0, []) good (RetO (Tells (containsI_val v xs))) 400 (entry Try.prog 54 [.list eInt.s xs.length (eInt.tl xs), .kn (.int .i64 v)]) := by
  rw [containsI_res]
  have ok : eInt.okl 1 xs.length (eInt.tl xs) := eInt.okl_tl len_xs
  simp only [eInt.dl_tl]
  refine ⟨⟨ok, trivial⟩, tell_iff ?_⟩
  rw [decide_eq_true_eq]
  show 0 ≤ idxP (fun x => v = x) xs ↔ v ∈ xs
  rw [idxP_nonneg]
  exact ⟨fun ⟨x, hx, e⟩ => e ▸ hx, fun h => ⟨v, h, rfl⟩⟩
theorem containsI_con : SpecOK Try.prog 54 (lift GcontainsI) := by
  refine con_of_run3 (con := conOf [(60, lift GindexI)]) (hs := (0, [])) 400 Try.func54 rfl (by kernel_rfl) rfl (conCons indexI_con conNil) ?_
  intro args0 p r hG hp
  unfold GcontainsI at hG
  split at hG
  case h_2 => cases hG
  rename_i s_xs n_xs f_xs v
  cases hG
  obtain ⟨ok_xs, hp⟩ := hp
  exact ⟨[.list eInt.s (eInt.dl n_xs f_xs).length (eInt.tl (eInt.dl n_xs f_xs)), .kn (.int .i64 v)], ⟨eInt.extl ok_xs, VExt.refl _, trivial⟩, by simp [Try.ntmps54], fun good hstep hext hle => containsI_ok _ _ (by rw [eInt.dl_length]; exact ok_xs.2.1) hp good hstep hext hle⟩
def rin_pre (v : Int) (xs : List Int) : Prop := True
noncomputable def rin_val (v : Int) (xs : List Int) : V := .kn (.bool (bP (v ∈ xs)))
noncomputable def Grin : PSpec
  | [.list s_xs n_xs f_xs, .kn (.int .i64 v)] => some (eInt.okl s_xs n_xs f_xs ∧ rin_pre v (eInt.dl n_xs f_xs), rin_val v (eInt.dl n_xs f_xs))
  | _ => none
theorem rin_res (v : Int) (xs : List Int) (good : Cfg → Prop) (R : Option V → Prop) : arun Try.prog (conOf []) (0, [(46, 2, [0, 1, 5], [])]) good (RetO (R)) 400 (entry Try.prog 46 [.list eInt.s xs.length (eInt.tl xs), .kn (.int .i64 v)]) =
    (good { fr := { fn := (46 : Nat), nt := (18 : Nat), t := [((0 : Nat), V.list (1 : Nat) xs.length (eInt.tl xs)), ((1 : Nat), V.kn (Value.int IntKind.i64 v)), ((5 : Nat), V.kn (Value.int IntKind.i64 (0 : Int)))], k := loopK Try.prog (46 : Nat) (2 : Nat) }, cs := [], h := [] }) := by kernel_rfl
@[reducible] noncomputable def rin_c2 (v : Int) (xs : List Int) (i : Int) : Cfg := ⟨⟨46, 18, [(0, .list eInt.s xs.length (eInt.tl xs)), (1, .kn (.int .i64 v)), (5, .kn (.int .i64 i))], loopK Try.prog 46 2⟩, [], []⟩
theorem rin_l2 (v : Int) (xs : List Int) (i : Int) (good : Cfg → Prop) (R : Option V → Prop) : arun Try.prog (conOf []) (0, [(46, 2, [0, 1, 5], [])]) good (RetO (R)) 400 (rin_c2 v xs i) =
    (bif decide (i < ↑xs.length) then ((0 : Int) ≤ i ∧ i < ↑xs.length) ∧ bif xs.getD i.toNat (0 : Int) == v then R (some (V.kn (Value.bool true))) else good { fr := { fn := (46 : Nat), nt := (18 : Nat), t := [((0 : Nat), V.list (1 : Nat) xs.length (eInt.tl xs)), ((1 : Nat), V.kn (Value.int IntKind.i64 v)), ((5 : Nat), V.kn (Value.int IntKind.i64 (IntKind.i64.wrap (i + (1 : Int)))))], k := loopK Try.prog (46 : Nat) (2 : Nat) }, cs := [], h := [] } else R (some (V.kn (Value.bool false)))) := by kernel_rfl
theorem rin_ok (v : Int) (xs : List Int) (len_xs : xs.length ≤ maxLen) (hp : rin_pre v xs) (good : Cfg → Prop) (hstep : ∀ c, arun Try.prog (conOf []) (0, [(46, 2, [0, 1, 5], [])]) good (RetO (Tells (rin_val v xs))) 400 (c) → good c) (hext : ∀ c c', CfgExt c c' → good c' → good c) (hle : ∀ c c', CfgLe 0 c c' → good c' → good c) : arun Try.prog (conOf []) (0, [(46, 2, [0, 1, 5], [])]) good (RetO (Tells (rin_val v xs))) 400 (entry Try.prog 46 [.list eInt.s xs.length (eInt.tl xs), .kn (.int .i64 v)]) := by
  rw [rin_res]
  refine foreach xs (fun i (_ : Unit) => ∀ j (hl : j < xs.length), j < i → xs[j] ≠ v) (fun i _ => rin_c2 v xs i) (fun i _ hi hv ih => ?_) (fun _ hv => ?_) () (fun j hl hj => by omega)
  · apply hstep
    rw [rin_l2]
    have e1 : (i : Int).toNat = i := by omega
    rw [e1, wrap_succ hi len_xs, getD_at _ hi]
    refine cond_true' (decide_eq_true (by omega)) ⟨⟨by omega, by omega⟩, cond_intro (fun h => tell_true ?_) (fun h => ih () (fun j hl hj => ?_))⟩
    · have : xs[i] = v := by simpa using h
      rw [← this]; exact List.getElem_mem hi
    · by_cases hji : j = i
      · subst hji; simpa using h
      · exact hv j hl (by omega)
  · apply hstep
    rw [rin_l2]
    refine cond_false' (decide_eq_false (by omega)) (tell_false fun hm => ?_)
    obtain ⟨j, hj, e⟩ := List.getElem_of_mem hm
    exact hv j hj hj e
theorem rin_con : SpecOK Try.prog 46 (lift Grin) := by
  refine con_of_run3 (con := conOf []) (hs := (0, [(46, 2, [0, 1, 5], [])])) 400 Try.func46 rfl (by kernel_rfl) rfl conNil ?_
  intro args0 p r hG hp
  unfold Grin at hG
  split at hG
  case h_2 => cases hG
  rename_i s_xs n_xs f_xs v
  cases hG
  obtain ⟨ok_xs, hp⟩ := hp
  exact ⟨[.list eInt.s (eInt.dl n_xs f_xs).length (eInt.tl (eInt.dl n_xs f_xs)), .kn (.int .i64 v)], ⟨eInt.extl ok_xs, VExt.refl _, trivial⟩, by simp [Try.ntmps46], fun good hstep hext hle => rin_ok _ _ (by rw [eInt.dl_length]; exact ok_xs.2.1) hp good hstep hext hle⟩
def cmpLess_pre (a b : Int) : Prop := True
noncomputable def cmpLess_val (a b : Int) : V := .kn (.bool (decide (a < b)))
noncomputable def GcmpLess : PSpec
  | [.kn (.int .i64 a), .kn (.int .i64 b)] => some (cmpLess_pre a b, cmpLess_val a b)
  | _ => none
theorem cmpLess_res (a b : Int) (good : Cfg → Prop) (R : Option V → Prop) : arun Try.prog (conOf []) (0, []) good (RetO (R)) 400 (entry Try.prog 67 [.kn (.int .i64 a), .kn (.int .i64 b)]) =
    (bif a != a then bif !b != b then R (some (V.kn (Value.bool true))) else R (some (V.kn (Value.bool (decide (a < b))))) else R (some (V.kn (Value.bool (decide (a < b)))))) := by kernel_rfl
theorem cmpLess_ok (a b : Int) (hp : cmpLess_pre a b) (good : Cfg → Prop) (hstep : ∀ c, arun Try.prog (conOf []) (0, []) good (RetO (Tells (cmpLess_val a b))) 400 (c) → good c) (hext : ∀ c c', CfgExt c c' → good c' → good c) (hle : ∀ c c', CfgLe 0 c c' → good c' → good c) : arun Try.prog (conOf []) (0, []) good (RetO (Tells (cmpLess_val a b))) 400 (entry Try.prog 67 [.kn (.int .i64 a), .kn (.int .i64 b)]) := by
  rw [cmpLess_res]
  refine cond_intro (fun h => ?_) (fun h => tell rfl)
  simp at h
theorem cmpLess_con : SpecOK Try.prog 67 (lift GcmpLess) := by
  refine con_of_run3 (con := conOf []) (hs := (0, [])) 400 Try.func67 rfl (by kernel_rfl) rfl conNil ?_
  intro args0 p r hG hp
  unfold GcmpLess at hG
  split at hG
  case h_2 => cases hG
  rename_i a b
  cases hG
  exact ⟨[.kn (.int .i64 a), .kn (.int .i64 b)], ⟨VExt.refl _, VExt.refl _, trivial⟩, by simp [Try.ntmps67], fun good hstep hext hle => cmpLess_ok _ _ hp good hstep hext hle⟩

theorem mid_eq {i j : Int} (hi : 0 ≤ i) (hij : i < j) (hj : j ≤ 9223372036854775807) : IntKind.i64.wrap ((IntKind.u64.wrap (IntKind.i64.wrap (i + j))).fdiv (2 : Int)) = (i + j) / 2 := by
  have e : IntKind.u64.wrap (IntKind.i64.wrap (i + j)) = i + j := by
    have e2 : IntKind.u64.wrap (IntKind.i64.wrap (i + j)) = (IntKind.i64.wrap (i + j)) % 18446744073709551616 := rfl
    rw [e2, IntKind.wrap_i64]; omega
  rw [e, Int.fdiv_eq_ediv_of_nonneg _ (by omega), wrap_in (by omega) (by omega)]
theorem srt_mem {xs : List Int} {v : Int} (h : srt xs) {i : Nat} (hi : i ≤ xs.length) (h1 : ∀ k, k < i → xs.getD k 0 < v) (h2 : ∀ k, i ≤ k → k < xs.length → ¬ xs.getD k 0 < v) : v ∈ xs ↔ (i < xs.length ∧ xs.getD i 0 = v) := by
  constructor
  · intro hm
    obtain ⟨k, hk, e⟩ := List.getElem_of_mem hm
    rw [← getD_at 0 hk] at e
    have h3 : ¬ k < i := fun hlt => by have := h1 k hlt; omega
    have h4 : ¬ i < k := fun hlt => by have := h i k hlt hk; have := h2 i (Nat.le_refl _) (by omega); omega
    have : k = i := by omega
    subst this
    exact ⟨hk, e⟩
  · rintro ⟨hl, e⟩
    rw [getD_at 0 hl] at e
    rw [← e]; exact List.getElem_mem hl

def bsearch_pre (v : Int) (xs : List Int) : Prop := srt xs
noncomputable def bsearch_val (v : Int) (xs : List Int) : V := .tup [.any, .kn (.bool (bP (v ∈ xs)))]
noncomputable def Gbsearch : PSpec
  | [.list s_xs n_xs f_xs, .kn (.int .i64 v)] => some (eInt.okl s_xs n_xs f_xs ∧ bsearch_pre v (eInt.dl n_xs f_xs), bsearch_val v (eInt.dl n_xs f_xs))
  | _ => none
theorem bsearch_res (v : Int) (xs : List Int) (good : Cfg → Prop) (R : Option V → Prop) : arun Try.prog (conOf [(67, lift GcmpLess)]) (0, [(72, 3, [0, 1, 6, 7, 8], [])]) good (RetO (R)) 400 (entry Try.prog 72 [.list eInt.s xs.length (eInt.tl xs), .kn (.int .i64 v)]) =
    (good { fr := { fn := (72 : Nat), nt := (54 : Nat), t := [((0 : Nat), V.list (1 : Nat) xs.length (eInt.tl xs)), ((1 : Nat), V.kn (Value.int IntKind.i64 v)), ((6 : Nat), V.kn (Value.int IntKind.i64 ↑xs.length)), ((7 : Nat), V.kn (Value.int IntKind.i64 (0 : Int))), ((8 : Nat), V.kn (Value.int IntKind.i64 ↑xs.length))], k := loopK Try.prog (72 : Nat) (3 : Nat) }, cs := [], h := [] }) := by kernel_rfl
@[reducible] noncomputable def bsearch_c3 (v : Int) (xs : List Int) (i j : Int) : Cfg := ⟨⟨72, 54, [(0, .list eInt.s xs.length (eInt.tl xs)), (1, .kn (.int .i64 v)), (6, .kn (.int .i64 xs.length)), (7, .kn (.int .i64 i)), (8, .kn (.int .i64 j))], loopK Try.prog 72 3⟩, [], []⟩
theorem bsearch_l3 (v : Int) (xs : List Int) (i j : Int) (good : Cfg → Prop) (R : Option V → Prop) : arun Try.prog (conOf [(67, lift GcmpLess)]) (0, [(72, 3, [0, 1, 6, 7, 8], [])]) good (RetO (R)) 400 (bsearch_c3 v xs i j) =
    (bif decide (i < j) then ((0 : Int) ≤ IntKind.i64.wrap ((IntKind.u64.wrap (IntKind.i64.wrap (i + j))).fdiv (2 : Int)) ∧ IntKind.i64.wrap ((IntKind.u64.wrap (IntKind.i64.wrap (i + j))).fdiv (2 : Int)) < ↑xs.length) ∧ cmpLess_pre (xs.getD (IntKind.i64.wrap ((IntKind.u64.wrap (IntKind.i64.wrap (i + j))).fdiv (2 : Int))).toNat (0 : Int)) v ∧ bif decide (xs.getD (IntKind.i64.wrap ((IntKind.u64.wrap (IntKind.i64.wrap (i + j))).fdiv (2 : Int))).toNat (0 : Int) < v) then good { fr := { fn := (72 : Nat), nt := (54 : Nat), t := [((0 : Nat), V.list (1 : Nat) xs.length (eInt.tl xs)), ((1 : Nat), V.kn (Value.int IntKind.i64 v)), ((6 : Nat), V.kn (Value.int IntKind.i64 ↑xs.length)), ((7 : Nat), V.kn (Value.int IntKind.i64 (IntKind.i64.wrap (IntKind.i64.wrap ((IntKind.u64.wrap (IntKind.i64.wrap (i + j))).fdiv (2 : Int)) + (1 : Int))))), ((8 : Nat), V.kn (Value.int IntKind.i64 j))], k := loopK Try.prog (72 : Nat) (3 : Nat) }, cs := [], h := [] } else good { fr := { fn := (72 : Nat), nt := (54 : Nat), t := [((0 : Nat), V.list (1 : Nat) xs.length (eInt.tl xs)), ((1 : Nat), V.kn (Value.int IntKind.i64 v)), ((6 : Nat), V.kn (Value.int IntKind.i64 ↑xs.length)), ((7 : Nat), V.kn (Value.int IntKind.i64 i)), ((8 : Nat), V.kn (Value.int IntKind.i64 (IntKind.i64.wrap ((IntKind.u64.wrap (IntKind.i64.wrap (i + j))).fdiv (2 : Int)))))], k := loopK Try.prog (72 : Nat) (3 : Nat) }, cs := [], h := [] } else bif decide (i < ↑xs.length) then ((0 : Int) ≤ i ∧ i < ↑xs.length) ∧ bif xs.getD i.toNat (0 : Int) == v then R (some (V.tup [V.kn (Value.int IntKind.i64 i), V.kn (Value.bool true)])) else ((0 : Int) ≤ i ∧ i < ↑xs.length) ∧ bif xs.getD i.toNat (0 : Int) != xs.getD i.toNat (0 : Int) then R (some (V.tup [V.kn (Value.int IntKind.i64 i), V.kn (Value.bool (v != v))])) else R (some (V.tup [V.kn (Value.int IntKind.i64 i), V.kn (Value.bool false)])) else R (some (V.tup [V.kn (Value.int IntKind.i64 i), V.kn (Value.bool false)]))) := by kernel_rfl
theorem bsearch_ok (v : Int) (xs : List Int) (len_xs : xs.length ≤ maxLen) (hp : bsearch_pre v xs) (good : Cfg → Prop) (hstep : ∀ c, arun Try.prog (conOf [(67, lift GcmpLess)]) (0, [(72, 3, [0, 1, 6, 7, 8], [])]) good (RetO (Tells (bsearch_val v xs))) 400 (c) → good c) (hext : ∀ c c', CfgExt c c' → good c' → good c) (hle : ∀ c c', CfgLe 0 c c' → good c' → good c) : arun Try.prog (conOf [(67, lift GcmpLess)]) (0, [(72, 3, [0, 1, 6, 7, 8], [])]) good (RetO (Tells (bsearch_val v xs))) 400 (entry Try.prog 72 [.list eInt.s xs.length (eInt.tl xs), .kn (.int .i64 v)]) := by
  rw [bsearch_res]
  have hm : maxLen = 9223372036854775807 := rfl
  have fin : ∀ (x : V) (b : Bool), (b = true ↔ v ∈ xs) → Tells (bsearch_val v xs) (some (V.tup [x, V.kn (Value.bool b)])) := fun x b hb => tell_ext (by
    rw [bsearch_val, bP_eq hb]
    intro F σ y h
    cases h with
    | tup hl hh =>
      refine .tup hl fun i u hu => ?_
      match i, hu with
      | 0, hu => cases hu; exact .any
      | 1, hu => exact hh 1 u hu)
  have hp' : srt xs := hp
  have hp : ∀ i j, i < j → j < xs.length → xs.getD i 0 < xs.getD j 0 := hp'
  refine loop_ind (S := Int × Int) (fun s => bsearch_c3 v xs s.1 s.2) (fun s => 0 ≤ s.1 ∧ s.1 ≤ s.2 ∧ s.2 ≤ xs.length ∧ (∀ k : Nat, (k : Int) < s.1 → xs.getD k 0 < v) ∧ (∀ k : Nat, s.2 ≤ k → k < xs.length → ¬ xs.getD k 0 < v)) (fun s => (s.2 - s.1).toNat) (fun s hv ih => ?_) (0, (xs.length : Int)) ⟨by simp, by simp, by simp, fun k hk => by simp at hk; omega, fun k hk hl => by simp at hk; omega⟩
  obtain ⟨i, j⟩ := s
  obtain ⟨v1, v2, v3, v4, v5⟩ := hv
  simp only at v1 v2 v3 v4 v5 ih
  apply hstep
  rw [bsearch_l3]
  refine cond_intro (fun h => ?_) (fun h => ?_)
  · simp only [decide_eq_true_eq] at h
    rw [mid_eq v1 h (by omega)]
    have hq : i ≤ (i + j) / 2 ∧ (i + j) / 2 < j := by omega
    refine ⟨⟨by omega, by omega⟩, trivial, cond_intro (fun h1 => ?_) (fun h1 => ?_)⟩
    · simp only [decide_eq_true_eq] at h1
      rw [wrap_in (by omega) (by omega)]
      refine ih ((i + j) / 2 + 1, j) ⟨by simp only; omega, by simp only; omega, v3, fun k hk => ?_, v5⟩ (by simp only; omega)
      simp only at hk
      by_cases hk2 : k = ((i + j) / 2).toNat
      · rw [hk2]; exact h1
      · exact Int.lt_trans (hp k _ (by omega) (by omega)) h1
    · simp only [decide_eq_false_iff_not] at h1
      refine ih (i, (i + j) / 2) ⟨v1, by simp only; omega, by simp only; omega, v4, fun k hk hl => ?_⟩ (by simp only; omega)
      simp only at hk
      by_cases hk2 : k = ((i + j) / 2).toNat
      · rw [hk2]; exact h1
      · intro hlt; exact h1 (Int.lt_trans (hp _ k (by omega) hl) hlt)
  · simp only [decide_eq_false_iff_not] at h
    have hij : i = j := by omega
    subst hij
    have key := srt_mem (v := v) hp' (i := i.toNat) (by omega) (fun k hk => v4 k (by omega)) (fun k hk hl => v5 k (by omega) hl)
    refine cond_intro (fun h1 => ⟨⟨by omega, by simp only [decide_eq_true_eq] at h1; omega⟩, cond_intro (fun h2 => fin _ _ ?_) (fun h2 => ⟨⟨by omega, by simp only [decide_eq_true_eq] at h1; omega⟩, cond_intro (fun h3 => ?_) (fun h3 => fin _ _ ?_)⟩)⟩) (fun h1 => fin _ _ ?_)
    · simp only [decide_eq_true_eq] at h1; rw [key]; simp only [true_iff]; exact ⟨by omega, by simpa using h2⟩
    · simp at h3
    · rw [key]; simp only [Bool.false_eq_true, false_iff]; intro hh; have := hh.2; rw [this] at h2; simp at h2
    · simp only [decide_eq_false_iff_not] at h1; rw [key]; simp only [Bool.false_eq_true, false_iff]; intro hh; omega
theorem bsearch_con : SpecOK Try.prog 72 (lift Gbsearch) := by
  refine con_of_run3 (con := conOf [(67, lift GcmpLess)]) (hs := (0, [(72, 3, [0, 1, 6, 7, 8], [])])) 400 Try.func72 rfl (by kernel_rfl) rfl (conCons cmpLess_con conNil) ?_
  intro args0 p r hG hp
  unfold Gbsearch at hG
  split at hG
  case h_2 => cases hG
  rename_i s_xs n_xs f_xs v
  cases hG
  obtain ⟨ok_xs, hp⟩ := hp
  exact ⟨[.list eInt.s (eInt.dl n_xs f_xs).length (eInt.tl (eInt.dl n_xs f_xs)), .kn (.int .i64 v)], ⟨eInt.extl ok_xs, VExt.refl _, trivial⟩, by simp [Try.ntmps72], fun good hstep hext hle => bsearch_ok _ _ (by rw [eInt.dl_length]; exact ok_xs.2.1) hp good hstep hext hle⟩
def free_pre (d : Int) (r : List Int) (h : List Int) : Prop := srt h
noncomputable def free_val (d : Int) (r : List Int) (h : List Int) : V := .kn (.bool (bP (d ∈ h)))
noncomputable def Gfree : PSpec
  | [.agg [.list s_r n_r f_r, .list s_h n_h f_h], .kn (.int .i64 d)] => some (eInt.okl s_r n_r f_r ∧ eInt.okl s_h n_h f_h ∧ free_pre d (eInt.dl n_r f_r) (eInt.dl n_h f_h), free_val d (eInt.dl n_r f_r) (eInt.dl n_h f_h))
  | _ => none
theorem free_res (d : Int) (r : List Int) (h : List Int) (good : Cfg → Prop) (R : Option V → Prop) : arun Try.prog (conOf [(72, lift Gbsearch)]) (0, []) good (RetO (R)) 400 (entry Try.prog 59 [.agg [.list eInt.s r.length (eInt.tl r), .list eInt.s h.length (eInt.tl h)], .kn (.int .i64 d)]) =
    ((eInt.okl (1 : Nat) h.length (eInt.tl h) ∧ bsearch_pre d (eInt.dl h.length (eInt.tl h))) ∧ R (some (V.kn (Value.bool (bP (d ∈ eInt.dl h.length (eInt.tl h))))))) := by kernel_rfl
theorem free_ok (d : Int) (r : List Int) (h : List Int) (len_r : r.length ≤ maxLen) (len_h : h.length ≤ maxLen) (hp : free_pre d r h) (good : Cfg → Prop) (hstep : ∀ c, arun Try.prog (conOf [(72, lift Gbsearch)]) (0, []) good (RetO (Tells (free_val d r h))) 400 (c) → good c) (hext : ∀ c c', CfgExt c c' → good c' → good c) (hle : ∀ c c', CfgLe 0 c c' → good c' → good c) : arun Try.prog (conOf [(72, lift Gbsearch)]) (0, []) good (RetO (Tells (free_val d r h))) 400 (entry Try.prog 59 [.agg [.list eInt.s r.length (eInt.tl r), .list eInt.s h.length (eInt.tl h)], .kn (.int .i64 d)]) := by
  rw [free_res]
  have ok_r : eInt.okl 1 r.length (eInt.tl r) := eInt.okl_tl len_r
  have ok_h : eInt.okl 1 h.length (eInt.tl h) := eInt.okl_tl len_h
  try simp only [eInt.dl_tl]
  
  exact ⟨⟨ok_h, hp⟩, tell rfl⟩
theorem free_con : SpecOK Try.prog 59 (lift Gfree) := by
  refine con_of_run3 (con := conOf [(72, lift Gbsearch)]) (hs := (0, [])) 400 Try.func59 rfl (by kernel_rfl) rfl (conCons bsearch_con conNil) ?_
  intro args0 p r hG hp
  unfold Gfree at hG
  split at hG
  case h_2 => cases hG
  rename_i s_r n_r f_r s_h n_h f_h d
  cases hG
  obtain ⟨ok_r, hp⟩ := hp
  obtain ⟨ok_h, hp⟩ := hp
  exact ⟨[.agg [.list eInt.s (eInt.dl n_r f_r).length (eInt.tl (eInt.dl n_r f_r)), .list eInt.s (eInt.dl n_h f_h).length (eInt.tl (eInt.dl n_h f_h))], .kn (.int .i64 d)], ⟨VExt.agg ⟨eInt.extl ok_r, eInt.extl ok_h, trivial⟩, VExt.refl _, trivial⟩, by simp [Try.ntmps59], fun good hstep hext hle => free_ok _ _ _ (by rw [eInt.dl_length]; exact ok_r.2.1) (by rw [eInt.dl_length]; exact ok_h.2.1) hp good hstep hext hle⟩
def rests_pre (d : Int) (r : List Int) (h : List Int) : Prop := srt h
noncomputable def rests_val (d : Int) (r : List Int) (h : List Int) : V := .kn (.bool (bP (restP r h d)))
noncomputable def Grests : PSpec
  | [.agg [.list s_r n_r f_r, .list s_h n_h f_h], .kn (.int .i64 d)] => some (eInt.okl s_r n_r f_r ∧ eInt.okl s_h n_h f_h ∧ rests_pre d (eInt.dl n_r f_r) (eInt.dl n_h f_h), rests_val d (eInt.dl n_r f_r) (eInt.dl n_h f_h))
  | _ => none
theorem rests_res (d : Int) (r : List Int) (h : List Int) (good : Cfg → Prop) (R : Option V → Prop) : arun Try.prog (conOf [(54, lift GcontainsI), (59, lift Gfree)]) (0, []) good (RetO (R)) 400 (entry Try.prog 53 [.agg [.list eInt.s r.length (eInt.tl r), .list eInt.s h.length (eInt.tl h)], .kn (.int .i64 d)]) =
    ((eInt.okl (1 : Nat) r.length (eInt.tl r) ∧ containsI_pre (d.tmod (7 : Int)) (eInt.dl r.length (eInt.tl r))) ∧ bif bP (d.tmod (7 : Int) ∈ eInt.dl r.length (eInt.tl r)) then R (some (V.kn (Value.bool true))) else (eInt.okl (1 : Nat) r.length (eInt.tl r) ∧ eInt.okl (1 : Nat) h.length (eInt.tl h) ∧ free_pre d (eInt.dl r.length (eInt.tl r)) (eInt.dl h.length (eInt.tl h))) ∧ R (some (V.kn (Value.bool (bP (d ∈ eInt.dl h.length (eInt.tl h))))))) := by kernel_rfl
theorem rests_ok (d : Int) (r : List Int) (h : List Int) (len_r : r.length ≤ maxLen) (len_h : h.length ≤ maxLen) (hp : rests_pre d r h) (good : Cfg → Prop) (hstep : ∀ c, arun Try.prog (conOf [(54, lift GcontainsI), (59, lift Gfree)]) (0, []) good (RetO (Tells (rests_val d r h))) 400 (c) → good c) (hext : ∀ c c', CfgExt c c' → good c' → good c) (hle : ∀ c c', CfgLe 0 c c' → good c' → good c) : arun Try.prog (conOf [(54, lift GcontainsI), (59, lift Gfree)]) (0, []) good (RetO (Tells (rests_val d r h))) 400 (entry Try.prog 53 [.agg [.list eInt.s r.length (eInt.tl r), .list eInt.s h.length (eInt.tl h)], .kn (.int .i64 d)]) := by
  rw [rests_res]
  have ok_r : eInt.okl 1 r.length (eInt.tl r) := eInt.okl_tl len_r
  have ok_h : eInt.okl 1 h.length (eInt.tl h) := eInt.okl_tl len_h
  try simp only [eInt.dl_tl]
  
  refine ⟨⟨ok_r, trivial⟩, cond_intro (fun h1 => tell_true (.inl (bP_iff.1 h1))) (fun h1 => ⟨⟨ok_r, ok_h, hp⟩, tell_iff ?_⟩)⟩
  rw [bP_iff]
  exact ⟨.inr, fun hh => hh.resolve_left (bP_not.1 h1)⟩
theorem rests_con : SpecOK Try.prog 53 (lift Grests) := by
  refine con_of_run3 (con := conOf [(54, lift GcontainsI), (59, lift Gfree)]) (hs := (0, [])) 400 Try.func53 rfl (by kernel_rfl) rfl (conCons containsI_con (conCons free_con conNil)) ?_
  intro args0 p r hG hp
  unfold Grests at hG
  split at hG
  case h_2 => cases hG
  rename_i s_r n_r f_r s_h n_h f_h d
  cases hG
  obtain ⟨ok_r, hp⟩ := hp
  obtain ⟨ok_h, hp⟩ := hp
  exact ⟨[.agg [.list eInt.s (eInt.dl n_r f_r).length (eInt.tl (eInt.dl n_r f_r)), .list eInt.s (eInt.dl n_h f_h).length (eInt.tl (eInt.dl n_h f_h))], .kn (.int .i64 d)], ⟨VExt.agg ⟨eInt.extl ok_r, eInt.extl ok_h, trivial⟩, VExt.refl _, trivial⟩, by simp [Try.ntmps53], fun good hstep hext hle => rests_ok _ _ _ (by rw [eInt.dl_length]; exact ok_r.2.1) (by rw [eInt.dl_length]; exact ok_h.2.1) hp good hstep hext hle⟩
def dalong_pre (d n st : Int) (r : List Int) (h : List Int) : Prop := st = 1 ∧ 1 ≤ n ∧ n ≤ 9223372036854775807 ∧ inI64 d
noncomputable def dalong_val (d n st : Int) (r : List Int) (h : List Int) : V := two (alongD (wk r h) d n)
noncomputable def Gdalong : PSpec
  | [.agg [.list s_r n_r f_r, .list s_h n_h f_h], .kn (.int .i64 d), .kn (.int .i64 n), .kn (.int .i64 st)] => some (eInt.okl s_r n_r f_r ∧ eInt.okl s_h n_h f_h ∧ dalong_pre d n st (eInt.dl n_r f_r) (eInt.dl n_h f_h), dalong_val d n st (eInt.dl n_r f_r) (eInt.dl n_h f_h))
  | _ => none
theorem dalong_res (d n st : Int) (r : List Int) (h : List Int) (good : Cfg → Prop) (R : Option V → Prop) : arun Try.prog (conOf [(40, lift Gown), (42, lift Gdis), (53, lift Grests)]) (0, [(43, 1000000, [1, 2, 3, 4], [(0, 4, [])])]) good (RetO (R)) 400 (entry Try.prog 43 [.agg [.list eInt.s r.length (eInt.tl r), .list eInt.s h.length (eInt.tl h)], .kn (.int .i64 d), .kn (.int .i64 n), .kn (.int .i64 st)]) =
    ((eInt.okl (1 : Nat) r.length (eInt.tl r) ∧ eInt.okl (1 : Nat) h.length (eInt.tl h) ∧ own_pre (eInt.dl r.length (eInt.tl r)) (eInt.dl h.length (eInt.tl h))) ∧ dis_pre d ∧ bif !isB d then R (some (V.tup [V.kn (Value.int IntKind.i64 (0 : Int)), V.kn (Value.bool false)])) else (eInt.okl (1 : Nat) (ownR (eInt.dl r.length (eInt.tl r)) (eInt.dl h.length (eInt.tl h))).length (eInt.tl (ownR (eInt.dl r.length (eInt.tl r)) (eInt.dl h.length (eInt.tl h)))) ∧ eInt.okl (1 : Nat) (ownH (eInt.dl r.length (eInt.tl r)) (eInt.dl h.length (eInt.tl h))).length (eInt.tl (ownH (eInt.dl r.length (eInt.tl r)) (eInt.dl h.length (eInt.tl h)))) ∧ rests_pre d (eInt.dl (ownR (eInt.dl r.length (eInt.tl r)) (eInt.dl h.length (eInt.tl h))).length (eInt.tl (ownR (eInt.dl r.length (eInt.tl r)) (eInt.dl h.length (eInt.tl h))))) (eInt.dl (ownH (eInt.dl r.length (eInt.tl r)) (eInt.dl h.length (eInt.tl h))).length (eInt.tl (ownH (eInt.dl r.length (eInt.tl r)) (eInt.dl h.length (eInt.tl h)))))) ∧ bif !bP (restP (eInt.dl (ownR (eInt.dl r.length (eInt.tl r)) (eInt.dl h.length (eInt.tl h))).length (eInt.tl (ownR (eInt.dl r.length (eInt.tl r)) (eInt.dl h.length (eInt.tl h))))) (eInt.dl (ownH (eInt.dl r.length (eInt.tl r)) (eInt.dl h.length (eInt.tl h))).length (eInt.tl (ownH (eInt.dl r.length (eInt.tl r)) (eInt.dl h.length (eInt.tl h))))) d) then bif decide (IntKind.i64.wrap (n - (1 : Int)) > (0 : Int)) then good { fr := { fn := (43 : Nat), nt := (27 : Nat), t := [((1 : Nat), V.kn (Value.int IntKind.i64 (IntKind.i64.wrap (d + st)))), ((2 : Nat), V.kn (Value.int IntKind.i64 (IntKind.i64.wrap (n - (1 : Int))))), ((3 : Nat), V.kn (Value.int IntKind.i64 st)), ((4 : Nat), V.ptr (0 : Nat) (0 : Nat))], k := gotoK Try.prog (43 : Nat) (0 : Nat) }, cs := [], h := [O.cells [V.list (1 : Nat) (ownR (eInt.dl r.length (eInt.tl r)) (eInt.dl h.length (eInt.tl h))).length (eInt.tl (ownR (eInt.dl r.length (eInt.tl r)) (eInt.dl h.length (eInt.tl h)))), V.list (1 : Nat) (ownH (eInt.dl r.length (eInt.tl r)) (eInt.dl h.length (eInt.tl h))).length (eInt.tl (ownH (eInt.dl r.length (eInt.tl r)) (eInt.dl h.length (eInt.tl h))))]] } else R (some (V.tup [V.kn (Value.int IntKind.i64 d), V.kn (Value.bool true)])) else bif decide (n > (0 : Int)) then good { fr := { fn := (43 : Nat), nt := (27 : Nat), t := [((1 : Nat), V.kn (Value.int IntKind.i64 (IntKind.i64.wrap (d + st)))), ((2 : Nat), V.kn (Value.int IntKind.i64 n)), ((3 : Nat), V.kn (Value.int IntKind.i64 st)), ((4 : Nat), V.ptr (0 : Nat) (0 : Nat))], k := gotoK Try.prog (43 : Nat) (0 : Nat) }, cs := [], h := [O.cells [V.list (1 : Nat) (ownR (eInt.dl r.length (eInt.tl r)) (eInt.dl h.length (eInt.tl h))).length (eInt.tl (ownR (eInt.dl r.length (eInt.tl r)) (eInt.dl h.length (eInt.tl h)))), V.list (1 : Nat) (ownH (eInt.dl r.length (eInt.tl r)) (eInt.dl h.length (eInt.tl h))).length (eInt.tl (ownH (eInt.dl r.length (eInt.tl r)) (eInt.dl h.length (eInt.tl h))))]] } else R (some (V.tup [V.kn (Value.int IntKind.i64 d), V.kn (Value.bool true)]))) := by kernel_rfl
@[reducible] noncomputable def dalong_c1000000 (d n st : Int) (r : List Int) (h : List Int) (d2 n2 : Int) : Cfg := ⟨⟨43, 27, [(1, .kn (.int .i64 d2)), (2, .kn (.int .i64 n2)), (3, .kn (.int .i64 st)), (4, .ptr 0 0)], gotoK Try.prog 43 0⟩, [], [.cells [.list eInt.s (ownR r h).length (eInt.tl (ownR r h)), .list eInt.s (ownH r h).length (eInt.tl (ownH r h))]]⟩
theorem dalong_l1000000 (d n st : Int) (r : List Int) (h : List Int) (d2 n2 : Int) (good : Cfg → Prop) (R : Option V → Prop) : arun Try.prog (conOf [(40, lift Gown), (42, lift Gdis), (53, lift Grests)]) (0, [(43, 1000000, [1, 2, 3, 4], [(0, 4, [])])]) good (RetO (R)) 400 (dalong_c1000000 d n st r h d2 n2) =
    (dis_pre d2 ∧ bif !isB d2 then R (some (V.tup [V.kn (Value.int IntKind.i64 (0 : Int)), V.kn (Value.bool false)])) else (eInt.okl (1 : Nat) (ownR r h).length (eInt.tl (ownR r h)) ∧ eInt.okl (1 : Nat) (ownH r h).length (eInt.tl (ownH r h)) ∧ rests_pre d2 (eInt.dl (ownR r h).length (eInt.tl (ownR r h))) (eInt.dl (ownH r h).length (eInt.tl (ownH r h)))) ∧ bif !bP (restP (eInt.dl (ownR r h).length (eInt.tl (ownR r h))) (eInt.dl (ownH r h).length (eInt.tl (ownH r h))) d2) then bif decide (IntKind.i64.wrap (n2 - (1 : Int)) > (0 : Int)) then good { fr := { fn := (43 : Nat), nt := (27 : Nat), t := [((1 : Nat), V.kn (Value.int IntKind.i64 (IntKind.i64.wrap (d2 + st)))), ((2 : Nat), V.kn (Value.int IntKind.i64 (IntKind.i64.wrap (n2 - (1 : Int))))), ((3 : Nat), V.kn (Value.int IntKind.i64 st)), ((4 : Nat), V.ptr (0 : Nat) (0 : Nat))], k := gotoK Try.prog (43 : Nat) (0 : Nat) }, cs := [], h := [O.cells [V.list (1 : Nat) (ownR r h).length (eInt.tl (ownR r h)), V.list (1 : Nat) (ownH r h).length (eInt.tl (ownH r h))]] } else R (some (V.tup [V.kn (Value.int IntKind.i64 d2), V.kn (Value.bool true)])) else bif decide (n2 > (0 : Int)) then good { fr := { fn := (43 : Nat), nt := (27 : Nat), t := [((1 : Nat), V.kn (Value.int IntKind.i64 (IntKind.i64.wrap (d2 + st)))), ((2 : Nat), V.kn (Value.int IntKind.i64 n2)), ((3 : Nat), V.kn (Value.int IntKind.i64 st)), ((4 : Nat), V.ptr (0 : Nat) (0 : Nat))], k := gotoK Try.prog (43 : Nat) (0 : Nat) }, cs := [], h := [O.cells [V.list (1 : Nat) (ownR r h).length (eInt.tl (ownR r h)), V.list (1 : Nat) (ownH r h).length (eInt.tl (ownH r h))]] } else R (some (V.tup [V.kn (Value.int IntKind.i64 d2), V.kn (Value.bool true)]))) := by kernel_rfl
theorem dalong_ok (d n st : Int) (r : List Int) (h : List Int) (len_r : r.length ≤ maxLen) (len_h : h.length ≤ maxLen) (hp : dalong_pre d n st r h) (good : Cfg → Prop) (hstep : ∀ c, arun Try.prog (conOf [(40, lift Gown), (42, lift Gdis), (53, lift Grests)]) (0, [(43, 1000000, [1, 2, 3, 4], [(0, 4, [])])]) good (RetO (Tells (dalong_val d n st r h))) 400 (c) → good c) (hext : ∀ c c', CfgExt c c' → good c' → good c) (hle : ∀ c c', CfgLe 0 c c' → good c' → good c) : arun Try.prog (conOf [(40, lift Gown), (42, lift Gdis), (53, lift Grests)]) (0, [(43, 1000000, [1, 2, 3, 4], [(0, 4, [])])]) good (RetO (Tells (dalong_val d n st r h))) 400 (entry Try.prog 43 [.agg [.list eInt.s r.length (eInt.tl r), .list eInt.s h.length (eInt.tl h)], .kn (.int .i64 d), .kn (.int .i64 n), .kn (.int .i64 st)]) := by
  rw [dalong_res]
  have ok_r : eInt.okl 1 r.length (eInt.tl r) := eInt.okl_tl len_r
  have ok_h : eInt.okl 1 h.length (eInt.tl h) := eInt.okl_tl len_h
  try simp only [eInt.dl_tl]
  
  obtain ⟨rfl, hn1, hn2, hd⟩ := hp
  have lR : (ownR r h).length ≤ maxLen := by unfold ownR; cases bP (mayP r h); exact Nat.zero_le _; exact len_r
  have lH : (ownH r h).length ≤ maxLen := by unfold ownH; cases bP (mayP r h); exact Nat.zero_le _; exact len_h
  have oR : eInt.okl 1 (ownR r h).length (eInt.tl (ownR r h)) := eInt.okl_tl lR
  have oH : eInt.okl 1 (ownH r h).length (eInt.tl (ownH r h)) := eInt.okl_tl lH
  have sH := ownH_srt r h
  have ew : ∀ x, bP (restP (ownR r h) (ownH r h) x) = !wk r h x := fun x => by
    unfold wk
    rw [Bool.not_not]
    exact congrArg bP (propext (own_rest r h x))
  have key : ∀ s : Int × Int, (1 ≤ s.2 ∧ s.2 ≤ 9223372036854775807 ∧ inI64 s.1 ∧ alongD (wk r h) s.1 s.2 = alongD (wk r h) d n) → good (dalong_c1000000 d n 1 r h s.1 s.2) := fun s hs => by
    refine loop_ind (S := Int × Int) (fun s => dalong_c1000000 d n 1 r h s.1 s.2) (fun s => 1 ≤ s.2 ∧ s.2 ≤ 9223372036854775807 ∧ inI64 s.1 ∧ alongD (wk r h) s.1 s.2 = alongD (wk r h) d n) (fun s => (1048578 - s.1).toNat) (fun s hv ih => ?_) s hs
    obtain ⟨d2, n2⟩ := s
    obtain ⟨v1, v2, v3, v4⟩ := hv
    simp only at v1 v2 v3 v4 ih
    apply hstep
    rw [dalong_l1000000]
    simp only [eInt.dl_tl, ew, Bool.not_not]
    refine ⟨trivial, cond_intro (fun h1 => ?_) (fun h1 => ⟨⟨oR, oH, sH⟩, ?_⟩)⟩
    · simp only [Bool.not_eq_true'] at h1
      refine tell ?_
      rw [dalong_val, ← v4, along_none h1]; rfl
    · simp only [Bool.not_eq_false'] at h1
      have hb := isB_iff.1 h1
      rw [along_some h1] at v4
      cases hw : wk r h d2 with
      | true =>
        rw [hw] at v4
        simp only [cond_true] at v4 ⊢
        rw [wrap_in (n := n2 - 1) (by omega) (by omega), wrap_in (n := d2 + 1) (by omega) (by omega)]
        refine cond_intro (fun h2 => ih (d2 + 1, n2 - 1) ⟨?_, ?_, ?_, ?_⟩ ?_) (fun h2 => tell ?_)
        all_goals simp only [decide_eq_true_eq, decide_eq_false_iff_not, inI64] at *
        all_goals first | omega | skip
        · rw [if_pos (by omega)] at v4; exact v4
        · rw [if_neg (by omega)] at v4; rw [dalong_val, ← v4]; rfl
      | false =>
        rw [hw] at v4
        simp only [cond_false] at v4 ⊢
        rw [wrap_in (n := d2 + 1) (by omega) (by omega)]
        refine cond_intro (fun h2 => ih (d2 + 1, n2) ⟨?_, ?_, ?_, ?_⟩ ?_) (fun h2 => ?_)
        all_goals simp only [decide_eq_true_eq, decide_eq_false_iff_not, inI64] at *
        all_goals first | omega | skip
        · rw [if_pos (by omega)] at v4; exact v4
  simp only [ew, Bool.not_not]
  refine ⟨⟨ok_r, ok_h, trivial⟩, trivial, cond_intro (fun h1 => ?_) (fun h1 => ⟨⟨oR, oH, sH⟩, ?_⟩)⟩
  · simp only [Bool.not_eq_true'] at h1
    refine tell ?_
    rw [dalong_val, along_none h1]; rfl
  · simp only [Bool.not_eq_false'] at h1
    have hb := isB_iff.1 h1
    have v4 := along_some (w := wk r h) (n := n) h1
    cases hw : wk r h d with
    | true =>
      rw [hw] at v4
      simp only [cond_true] at v4 ⊢
      rw [wrap_in (n := n - 1) (by omega) (by omega), wrap_in (n := d + 1) (by omega) (by omega)]
      refine cond_intro (fun h2 => key (d + 1, n - 1) ⟨?_, ?_, ?_, ?_⟩) (fun h2 => tell ?_)
      all_goals simp only [decide_eq_true_eq, decide_eq_false_iff_not, inI64] at *
      all_goals first | omega | skip
      · rw [if_pos (by omega)] at v4; exact v4.symm
      · rw [if_neg (by omega)] at v4; rw [dalong_val, v4]; rfl
    | false =>
      rw [hw] at v4
      simp only [cond_false] at v4 ⊢
      rw [wrap_in (n := d + 1) (by omega) (by omega)]
      refine cond_intro (fun h2 => key (d + 1, n) ⟨?_, ?_, ?_, ?_⟩) (fun h2 => ?_)
      all_goals simp only [decide_eq_true_eq, decide_eq_false_iff_not, inI64] at *
      all_goals first | omega | skip
      · rw [if_pos (by omega)] at v4; exact v4.symm
theorem dalong_con : SpecOK Try.prog 43 (lift Gdalong) := by
  refine con_of_run3 (con := conOf [(40, lift Gown), (42, lift Gdis), (53, lift Grests)]) (hs := (0, [(43, 1000000, [1, 2, 3, 4], [(0, 4, [])])])) 400 Try.func43 rfl (by kernel_rfl) rfl (conCons own_con (conCons dis_con (conCons rests_con conNil))) ?_
  intro args0 p r hG hp
  unfold Gdalong at hG
  split at hG
  case h_2 => cases hG
  rename_i s_r n_r f_r s_h n_h f_h d n st
  cases hG
  obtain ⟨ok_r, hp⟩ := hp
  obtain ⟨ok_h, hp⟩ := hp
  exact ⟨[.agg [.list eInt.s (eInt.dl n_r f_r).length (eInt.tl (eInt.dl n_r f_r)), .list eInt.s (eInt.dl n_h f_h).length (eInt.tl (eInt.dl n_h f_h))], .kn (.int .i64 d), .kn (.int .i64 n), .kn (.int .i64 st)], ⟨VExt.agg ⟨eInt.extl ok_r, eInt.extl ok_h, trivial⟩, VExt.refl _, VExt.refl _, VExt.refl _, trivial⟩, by simp [Try.ntmps43], fun good hstep hext hle => dalong_ok _ _ _ _ _ (by rw [eInt.dl_length]; exact ok_r.2.1) (by rw [eInt.dl_length]; exact ok_h.2.1) hp good hstep hext hle⟩
def dNext_pre (d : Int) (r : List Int) (h : List Int) : Prop := inI64 d
noncomputable def dNext_val (d : Int) (r : List Int) (h : List Int) : V := two (alongD (wk r h) d 1)
noncomputable def GdNext : PSpec
  | [.agg [.list s_r n_r f_r, .list s_h n_h f_h], .kn (.int .i64 d)] => some (eInt.okl s_r n_r f_r ∧ eInt.okl s_h n_h f_h ∧ dNext_pre d (eInt.dl n_r f_r) (eInt.dl n_h f_h), dNext_val d (eInt.dl n_r f_r) (eInt.dl n_h f_h))
  | _ => none
theorem dNext_res (d : Int) (r : List Int) (h : List Int) (good : Cfg → Prop) (R : Option V → Prop) : arun Try.prog (conOf [(43, lift Gdalong)]) (0, []) good (RetO (R)) 400 (entry Try.prog 28 [.agg [.list eInt.s r.length (eInt.tl r), .list eInt.s h.length (eInt.tl h)], .kn (.int .i64 d)]) =
    ((eInt.okl (1 : Nat) r.length (eInt.tl r) ∧ eInt.okl (1 : Nat) h.length (eInt.tl h) ∧ dalong_pre d (1 : Int) (1 : Int) (eInt.dl r.length (eInt.tl r)) (eInt.dl h.length (eInt.tl h))) ∧ R (some (V.tup [V.kn (Value.int IntKind.i64 ((alongD (wk (eInt.dl r.length (eInt.tl r)) (eInt.dl h.length (eInt.tl h))) d (1 : Int)).getD (0 : Int))), V.kn (Value.bool (alongD (wk (eInt.dl r.length (eInt.tl r)) (eInt.dl h.length (eInt.tl h))) d (1 : Int)).isSome)]))) := by kernel_rfl
theorem dNext_ok (d : Int) (r : List Int) (h : List Int) (len_r : r.length ≤ maxLen) (len_h : h.length ≤ maxLen) (hp : dNext_pre d r h) (good : Cfg → Prop) (hstep : ∀ c, arun Try.prog (conOf [(43, lift Gdalong)]) (0, []) good (RetO (Tells (dNext_val d r h))) 400 (c) → good c) (hext : ∀ c c', CfgExt c c' → good c' → good c) (hle : ∀ c c', CfgLe 0 c c' → good c' → good c) : arun Try.prog (conOf [(43, lift Gdalong)]) (0, []) good (RetO (Tells (dNext_val d r h))) 400 (entry Try.prog 28 [.agg [.list eInt.s r.length (eInt.tl r), .list eInt.s h.length (eInt.tl h)], .kn (.int .i64 d)]) := by
  rw [dNext_res]
  have ok_r : eInt.okl 1 r.length (eInt.tl r) := eInt.okl_tl len_r
  have ok_h : eInt.okl 1 h.length (eInt.tl h) := eInt.okl_tl len_h
  try simp only [eInt.dl_tl]
  
  exact ⟨⟨ok_r, ok_h, rfl, by omega, by omega, hp⟩, tell rfl⟩
theorem dNext_con : SpecOK Try.prog 28 (lift GdNext) := by
  refine con_of_run3 (con := conOf [(43, lift Gdalong)]) (hs := (0, [])) 400 Try.func28 rfl (by kernel_rfl) rfl (conCons dalong_con conNil) ?_
  intro args0 p r hG hp
  unfold GdNext at hG
  split at hG
  case h_2 => cases hG
  rename_i s_r n_r f_r s_h n_h f_h d
  cases hG
  obtain ⟨ok_r, hp⟩ := hp
  obtain ⟨ok_h, hp⟩ := hp
  exact ⟨[.agg [.list eInt.s (eInt.dl n_r f_r).length (eInt.tl (eInt.dl n_r f_r)), .list eInt.s (eInt.dl n_h f_h).length (eInt.tl (eInt.dl n_h f_h))], .kn (.int .i64 d)], ⟨VExt.agg ⟨eInt.extl ok_r, eInt.extl ok_h, trivial⟩, VExt.refl _, trivial⟩, by simp [Try.ntmps28], fun good hstep hext hle => dNext_ok _ _ _ (by rw [eInt.dl_length]; exact ok_r.2.1) (by rw [eInt.dl_length]; exact ok_h.2.1) hp good hstep hext hle⟩
def dAdd_pre (d n : Int) (r : List Int) (h : List Int) : Prop := 1 ≤ n ∧ n ≤ 1048576 ∧ inI64 d
noncomputable def dAdd_val (d n : Int) (r : List Int) (h : List Int) : V := two (if isB d = true then alongD (wk r h) (d + 1) n else none)
noncomputable def GdAdd : PSpec
  | [.agg [.list s_r n_r f_r, .list s_h n_h f_h], .kn (.int .i64 d), .kn (.int .i64 n)] => some (eInt.okl s_r n_r f_r ∧ eInt.okl s_h n_h f_h ∧ dAdd_pre d n (eInt.dl n_r f_r) (eInt.dl n_h f_h), dAdd_val d n (eInt.dl n_r f_r) (eInt.dl n_h f_h))
  | _ => none
theorem dAdd_res (d n : Int) (r : List Int) (h : List Int) (good : Cfg → Prop) (R : Option V → Prop) : arun Try.prog (conOf [(42, lift Gdis), (28, lift GdNext), (43, lift Gdalong)]) (0, []) good (RetO (R)) 400 (entry Try.prog 24 [.agg [.list eInt.s r.length (eInt.tl r), .list eInt.s h.length (eInt.tl h)], .kn (.int .i64 d), .kn (.int .i64 n)]) =
    (dis_pre d ∧ bif !isB d then R (some (V.tup [V.kn (Value.int IntKind.i64 (0 : Int)), V.kn (Value.bool false)])) else bif decide (n < (-1048576 : Int)) then R (some (V.tup [V.kn (Value.int IntKind.i64 (0 : Int)), V.kn (Value.bool false)])) else bif decide (n > (1048576 : Int)) then R (some (V.tup [V.kn (Value.int IntKind.i64 (0 : Int)), V.kn (Value.bool false)])) else bif n == (0 : Int) then (eInt.okl (1 : Nat) r.length (eInt.tl r) ∧ eInt.okl (1 : Nat) h.length (eInt.tl h) ∧ dNext_pre d (eInt.dl r.length (eInt.tl r)) (eInt.dl h.length (eInt.tl h))) ∧ R (some (V.tup [V.kn (Value.int IntKind.i64 ((alongD (wk (eInt.dl r.length (eInt.tl r)) (eInt.dl h.length (eInt.tl h))) d (1 : Int)).getD (0 : Int))), V.kn (Value.bool (alongD (wk (eInt.dl r.length (eInt.tl r)) (eInt.dl h.length (eInt.tl h))) d (1 : Int)).isSome)])) else bif decide (n < (0 : Int)) then (eInt.okl (1 : Nat) r.length (eInt.tl r) ∧ eInt.okl (1 : Nat) h.length (eInt.tl h) ∧ dalong_pre (IntKind.i64.wrap (d - (1 : Int))) (IntKind.i64.wrap ((0 : Int) - n)) (-1 : Int) (eInt.dl r.length (eInt.tl r)) (eInt.dl h.length (eInt.tl h))) ∧ R (some (V.tup [V.kn (Value.int IntKind.i64 ((alongD (wk (eInt.dl r.length (eInt.tl r)) (eInt.dl h.length (eInt.tl h))) (IntKind.i64.wrap (d - (1 : Int))) (IntKind.i64.wrap ((0 : Int) - n))).getD (0 : Int))), V.kn (Value.bool (alongD (wk (eInt.dl r.length (eInt.tl r)) (eInt.dl h.length (eInt.tl h))) (IntKind.i64.wrap (d - (1 : Int))) (IntKind.i64.wrap ((0 : Int) - n))).isSome)])) else (eInt.okl (1 : Nat) r.length (eInt.tl r) ∧ eInt.okl (1 : Nat) h.length (eInt.tl h) ∧ dalong_pre (IntKind.i64.wrap (d + (1 : Int))) n (1 : Int) (eInt.dl r.length (eInt.tl r)) (eInt.dl h.length (eInt.tl h))) ∧ R (some (V.tup [V.kn (Value.int IntKind.i64 ((alongD (wk (eInt.dl r.length (eInt.tl r)) (eInt.dl h.length (eInt.tl h))) (IntKind.i64.wrap (d + (1 : Int))) n).getD (0 : Int))), V.kn (Value.bool (alongD (wk (eInt.dl r.length (eInt.tl r)) (eInt.dl h.length (eInt.tl h))) (IntKind.i64.wrap (d + (1 : Int))) n).isSome)]))) := by kernel_rfl
theorem dAdd_ok (d n : Int) (r : List Int) (h : List Int) (len_r : r.length ≤ maxLen) (len_h : h.length ≤ maxLen) (hp : dAdd_pre d n r h) (good : Cfg → Prop) (hstep : ∀ c, arun Try.prog (conOf [(42, lift Gdis), (28, lift GdNext), (43, lift Gdalong)]) (0, []) good (RetO (Tells (dAdd_val d n r h))) 400 (c) → good c) (hext : ∀ c c', CfgExt c c' → good c' → good c) (hle : ∀ c c', CfgLe 0 c c' → good c' → good c) : arun Try.prog (conOf [(42, lift Gdis), (28, lift GdNext), (43, lift Gdalong)]) (0, []) good (RetO (Tells (dAdd_val d n r h))) 400 (entry Try.prog 24 [.agg [.list eInt.s r.length (eInt.tl r), .list eInt.s h.length (eInt.tl h)], .kn (.int .i64 d), .kn (.int .i64 n)]) := by
  rw [dAdd_res]
  have ok_r : eInt.okl 1 r.length (eInt.tl r) := eInt.okl_tl len_r
  have ok_h : eInt.okl 1 h.length (eInt.tl h) := eInt.okl_tl len_h
  try simp only [eInt.dl_tl]
  
  obtain ⟨h1, h2, h3⟩ := hp
  refine ⟨trivial, cond_intro (fun hb => tell ?_) (fun hb => ?_)⟩
  · simp only [Bool.not_eq_true'] at hb
    rw [dAdd_val, hb]; rfl
  · simp only [Bool.not_eq_false'] at hb
    have hb' := isB_iff.1 hb
    rw [wrap_in (n := d + 1) (by omega) (by omega)]
    refine cond_false' (decide_eq_false (by omega)) (cond_false' (decide_eq_false (by omega)) (cond_false' (by simp; omega) (cond_false' (decide_eq_false (by omega)) ⟨⟨ok_r, ok_h, rfl, h1, by omega, by unfold inI64; omega⟩, tell ?_⟩)))
    rw [dAdd_val, hb]; rfl
theorem dAdd_con : SpecOK Try.prog 24 (lift GdAdd) := by
  refine con_of_run3 (con := conOf [(42, lift Gdis), (28, lift GdNext), (43, lift Gdalong)]) (hs := (0, [])) 400 Try.func24 rfl (by kernel_rfl) rfl (conCons dis_con (conCons dNext_con (conCons dalong_con conNil))) ?_
  intro args0 p r hG hp
  unfold GdAdd at hG
  split at hG
  case h_2 => cases hG
  rename_i s_r n_r f_r s_h n_h f_h d n
  cases hG
  obtain ⟨ok_r, hp⟩ := hp
  obtain ⟨ok_h, hp⟩ := hp
  exact ⟨[.agg [.list eInt.s (eInt.dl n_r f_r).length (eInt.tl (eInt.dl n_r f_r)), .list eInt.s (eInt.dl n_h f_h).length (eInt.tl (eInt.dl n_h f_h))], .kn (.int .i64 d), .kn (.int .i64 n)], ⟨VExt.agg ⟨eInt.extl ok_r, eInt.extl ok_h, trivial⟩, VExt.refl _, VExt.refl _, trivial⟩, by simp [Try.ntmps24], fun good hstep hext hle => dAdd_ok _ _ _ _ (by rw [eInt.dl_length]; exact ok_r.2.1) (by rw [eInt.dl_length]; exact ok_h.2.1) hp good hstep hext hle⟩
def nDeadline_pre (d : Int) (r : List Int) (h : List Int) : Prop := inI64 d
noncomputable def nDeadline_val (d : Int) (r : List Int) (h : List Int) : V := two (deadline r h d)
noncomputable def GnDeadline : PSpec
  | [.agg [.list s_r n_r f_r, .list s_h n_h f_h], .kn (.int .i64 d)] => some (eInt.okl s_r n_r f_r ∧ eInt.okl s_h n_h f_h ∧ nDeadline_pre d (eInt.dl n_r f_r) (eInt.dl n_h f_h), nDeadline_val d (eInt.dl n_r f_r) (eInt.dl n_h f_h))
  | _ => none
theorem nDeadline_res (d : Int) (r : List Int) (h : List Int) (good : Cfg → Prop) (R : Option V → Prop) : arun Try.prog (conOf [(24, lift GdAdd)]) (0, []) good (RetO (R)) 400 (entry Try.prog 10 [.agg [.list eInt.s r.length (eInt.tl r), .list eInt.s h.length (eInt.tl h)], .kn (.int .i64 d)]) =
    ((eInt.okl (1 : Nat) r.length (eInt.tl r) ∧ eInt.okl (1 : Nat) h.length (eInt.tl h) ∧ dAdd_pre d (5 : Int) (eInt.dl r.length (eInt.tl r)) (eInt.dl h.length (eInt.tl h))) ∧ R (some (V.tup [V.kn (Value.int IntKind.i64 ((if isB d = true then alongD (wk (eInt.dl r.length (eInt.tl r)) (eInt.dl h.length (eInt.tl h))) (d + (1 : Int)) (5 : Int) else none).getD (0 : Int))), V.kn (Value.bool (if isB d = true then alongD (wk (eInt.dl r.length (eInt.tl r)) (eInt.dl h.length (eInt.tl h))) (d + (1 : Int)) (5 : Int) else none).isSome)]))) := by kernel_rfl
theorem nDeadline_ok (d : Int) (r : List Int) (h : List Int) (len_r : r.length ≤ maxLen) (len_h : h.length ≤ maxLen) (hp : nDeadline_pre d r h) (good : Cfg → Prop) (hstep : ∀ c, arun Try.prog (conOf [(24, lift GdAdd)]) (0, []) good (RetO (Tells (nDeadline_val d r h))) 400 (c) → good c) (hext : ∀ c c', CfgExt c c' → good c' → good c) (hle : ∀ c c', CfgLe 0 c c' → good c' → good c) : arun Try.prog (conOf [(24, lift GdAdd)]) (0, []) good (RetO (Tells (nDeadline_val d r h))) 400 (entry Try.prog 10 [.agg [.list eInt.s r.length (eInt.tl r), .list eInt.s h.length (eInt.tl h)], .kn (.int .i64 d)]) := by
  rw [nDeadline_res]
  have ok_r : eInt.okl 1 r.length (eInt.tl r) := eInt.okl_tl len_r
  have ok_h : eInt.okl 1 h.length (eInt.tl h) := eInt.okl_tl len_h
  try simp only [eInt.dl_tl]
  
  exact ⟨⟨ok_r, ok_h, by omega, by omega, hp⟩, tell rfl⟩
theorem nDeadline_con : SpecOK Try.prog 10 (lift GnDeadline) := by
  refine con_of_run3 (con := conOf [(24, lift GdAdd)]) (hs := (0, [])) 400 Try.func10 rfl (by kernel_rfl) rfl (conCons dAdd_con conNil) ?_
  intro args0 p r hG hp
  unfold GnDeadline at hG
  split at hG
  case h_2 => cases hG
  rename_i s_r n_r f_r s_h n_h f_h d
  cases hG
  obtain ⟨ok_r, hp⟩ := hp
  obtain ⟨ok_h, hp⟩ := hp
  exact ⟨[.agg [.list eInt.s (eInt.dl n_r f_r).length (eInt.tl (eInt.dl n_r f_r)), .list eInt.s (eInt.dl n_h f_h).length (eInt.tl (eInt.dl n_h f_h))], .kn (.int .i64 d)], ⟨VExt.agg ⟨eInt.extl ok_r, eInt.extl ok_h, trivial⟩, VExt.refl _, trivial⟩, by simp [Try.ntmps10], fun good hstep hext hle => nDeadline_ok _ _ _ (by rw [eInt.dl_length]; exact ok_r.2.1) (by rw [eInt.dl_length]; exact ok_h.2.1) hp good hstep hext hle⟩
def nExpiry_pre (d : Int) (r : List Int) (h : List Int) : Prop := inI64 d
noncomputable def nExpiry_val (d : Int) (r : List Int) (h : List Int) : V := two (expiry r h d)
noncomputable def GnExpiry : PSpec
  | [.agg [.list s_r n_r f_r, .list s_h n_h f_h], .kn (.int .i64 d)] => some (eInt.okl s_r n_r f_r ∧ eInt.okl s_h n_h f_h ∧ nExpiry_pre d (eInt.dl n_r f_r) (eInt.dl n_h f_h), nExpiry_val d (eInt.dl n_r f_r) (eInt.dl n_h f_h))
  | _ => none
theorem nExpiry_res (d : Int) (r : List Int) (h : List Int) (good : Cfg → Prop) (R : Option V → Prop) : arun Try.prog (conOf [(28, lift GdNext)]) (0, []) good (RetO (R)) 400 (entry Try.prog 16 [.agg [.list eInt.s r.length (eInt.tl r), .list eInt.s h.length (eInt.tl h)], .kn (.int .i64 d)]) =
    ((eInt.okl (1 : Nat) r.length (eInt.tl r) ∧ eInt.okl (1 : Nat) h.length (eInt.tl h) ∧ dNext_pre d (eInt.dl r.length (eInt.tl r)) (eInt.dl h.length (eInt.tl h))) ∧ R (some (V.tup [V.kn (Value.int IntKind.i64 ((alongD (wk (eInt.dl r.length (eInt.tl r)) (eInt.dl h.length (eInt.tl h))) d (1 : Int)).getD (0 : Int))), V.kn (Value.bool (alongD (wk (eInt.dl r.length (eInt.tl r)) (eInt.dl h.length (eInt.tl h))) d (1 : Int)).isSome)]))) := by kernel_rfl
theorem nExpiry_ok (d : Int) (r : List Int) (h : List Int) (len_r : r.length ≤ maxLen) (len_h : h.length ≤ maxLen) (hp : nExpiry_pre d r h) (good : Cfg → Prop) (hstep : ∀ c, arun Try.prog (conOf [(28, lift GdNext)]) (0, []) good (RetO (Tells (nExpiry_val d r h))) 400 (c) → good c) (hext : ∀ c c', CfgExt c c' → good c' → good c) (hle : ∀ c c', CfgLe 0 c c' → good c' → good c) : arun Try.prog (conOf [(28, lift GdNext)]) (0, []) good (RetO (Tells (nExpiry_val d r h))) 400 (entry Try.prog 16 [.agg [.list eInt.s r.length (eInt.tl r), .list eInt.s h.length (eInt.tl h)], .kn (.int .i64 d)]) := by
  rw [nExpiry_res]
  have ok_r : eInt.okl 1 r.length (eInt.tl r) := eInt.okl_tl len_r
  have ok_h : eInt.okl 1 h.length (eInt.tl h) := eInt.okl_tl len_h
  try simp only [eInt.dl_tl]
  
  exact ⟨⟨ok_r, ok_h, hp⟩, tell rfl⟩
theorem nExpiry_con : SpecOK Try.prog 16 (lift GnExpiry) := by
  refine con_of_run3 (con := conOf [(28, lift GdNext)]) (hs := (0, [])) 400 Try.func16 rfl (by kernel_rfl) rfl (conCons dNext_con conNil) ?_
  intro args0 p r hG hp
  unfold GnExpiry at hG
  split at hG
  case h_2 => cases hG
  rename_i s_r n_r f_r s_h n_h f_h d
  cases hG
  obtain ⟨ok_r, hp⟩ := hp
  obtain ⟨ok_h, hp⟩ := hp
  exact ⟨[.agg [.list eInt.s (eInt.dl n_r f_r).length (eInt.tl (eInt.dl n_r f_r)), .list eInt.s (eInt.dl n_h f_h).length (eInt.tl (eInt.dl n_h f_h))], .kn (.int .i64 d)], ⟨VExt.agg ⟨eInt.extl ok_r, eInt.extl ok_h, trivial⟩, VExt.refl _, trivial⟩, by simp [Try.ntmps16], fun good hstep hext hle => nExpiry_ok _ _ _ (by rw [eInt.dl_length]; exact ok_r.2.1) (by rw [eInt.dl_length]; exact ok_h.2.1) hp good hstep hext hle⟩
def rRests_pre (d : Int) (r : List Int) (h : List Int) : Prop := True
noncomputable def rRests_val (d : Int) (r : List Int) (h : List Int) : V := .kn (.bool (bP (isB d = true ∧ mayP r h ∧ restP r h d)))
noncomputable def GrRests : PSpec
  | [.agg [.list s_r n_r f_r, .list s_h n_h f_h], .kn (.int .i64 d)] => some (eInt.okl s_r n_r f_r ∧ eInt.okl s_h n_h f_h ∧ rRests_pre d (eInt.dl n_r f_r) (eInt.dl n_h f_h), rRests_val d (eInt.dl n_r f_r) (eInt.dl n_h f_h))
  | _ => none
theorem rRests_res (d : Int) (r : List Int) (h : List Int) (good : Cfg → Prop) (R : Option V → Prop) : arun Try.prog (conOf [(26, lift GIs), (45, lift GrMay), (46, lift Grin)]) (0, []) good (RetO (R)) 400 (entry Try.prog 27 [.agg [.list eInt.s r.length (eInt.tl r), .list eInt.s h.length (eInt.tl h)], .kn (.int .i64 d)]) =
    (Is_pre d ∧ bif isB d then (eInt.okl (1 : Nat) r.length (eInt.tl r) ∧ eInt.okl (1 : Nat) h.length (eInt.tl h) ∧ rMay_pre (eInt.dl r.length (eInt.tl r)) (eInt.dl h.length (eInt.tl h))) ∧ bif bP (mayP (eInt.dl r.length (eInt.tl r)) (eInt.dl h.length (eInt.tl h))) then (eInt.okl (1 : Nat) r.length (eInt.tl r) ∧ rin_pre (d.tmod (7 : Int)) (eInt.dl r.length (eInt.tl r))) ∧ bif bP (d.tmod (7 : Int) ∈ eInt.dl r.length (eInt.tl r)) then R (some (V.kn (Value.bool true))) else (eInt.okl (1 : Nat) h.length (eInt.tl h) ∧ rin_pre d (eInt.dl h.length (eInt.tl h))) ∧ R (some (V.kn (Value.bool (bP (d ∈ eInt.dl h.length (eInt.tl h)))))) else R (some (V.kn (Value.bool false))) else R (some (V.kn (Value.bool false)))) := by kernel_rfl
theorem rRests_ok (d : Int) (r : List Int) (h : List Int) (len_r : r.length ≤ maxLen) (len_h : h.length ≤ maxLen) (hp : rRests_pre d r h) (good : Cfg → Prop) (hstep : ∀ c, arun Try.prog (conOf [(26, lift GIs), (45, lift GrMay), (46, lift Grin)]) (0, []) good (RetO (Tells (rRests_val d r h))) 400 (c) → good c) (hext : ∀ c c', CfgExt c c' → good c' → good c) (hle : ∀ c c', CfgLe 0 c c' → good c' → good c) : arun Try.prog (conOf [(26, lift GIs), (45, lift GrMay), (46, lift Grin)]) (0, []) good (RetO (Tells (rRests_val d r h))) 400 (entry Try.prog 27 [.agg [.list eInt.s r.length (eInt.tl r), .list eInt.s h.length (eInt.tl h)], .kn (.int .i64 d)]) := by
  rw [rRests_res]
  have ok_r : eInt.okl 1 r.length (eInt.tl r) := eInt.okl_tl len_r
  have ok_h : eInt.okl 1 h.length (eInt.tl h) := eInt.okl_tl len_h
  try simp only [eInt.dl_tl]
  repeat' first | exact trivial | exact ok_r | exact ok_h | refine And.intro ?_ ?_ | refine cond_intro (fun hh => ?_) (fun hh => ?_)
  all_goals first | refine tell_true ?_ | (refine tell_false fun hq => ?_) | refine tell_iff ?_
  all_goals simp_all [bP_iff, bP_not, restP]
theorem rRests_con : SpecOK Try.prog 27 (lift GrRests) := by
  refine con_of_run3 (con := conOf [(26, lift GIs), (45, lift GrMay), (46, lift Grin)]) (hs := (0, [])) 400 Try.func27 rfl (by kernel_rfl) rfl (conCons Is_con (conCons rMay_con (conCons rin_con conNil))) ?_
  intro args0 p r hG hp
  unfold GrRests at hG
  split at hG
  case h_2 => cases hG
  rename_i s_r n_r f_r s_h n_h f_h d
  cases hG
  obtain ⟨ok_r, hp⟩ := hp
  obtain ⟨ok_h, hp⟩ := hp
  exact ⟨[.agg [.list eInt.s (eInt.dl n_r f_r).length (eInt.tl (eInt.dl n_r f_r)), .list eInt.s (eInt.dl n_h f_h).length (eInt.tl (eInt.dl n_h f_h))], .kn (.int .i64 d)], ⟨VExt.agg ⟨eInt.extl ok_r, eInt.extl ok_h, trivial⟩, VExt.refl _, trivial⟩, by simp [Try.ntmps27], fun good hstep hext hle => rRests_ok _ _ _ (by rw [eInt.dl_length]; exact ok_r.2.1) (by rw [eInt.dl_length]; exact ok_h.2.1) hp good hstep hext hle⟩
def rWorks_pre (d : Int) (r : List Int) (h : List Int) : Prop := True
noncomputable def rWorks_val (d : Int) (r : List Int) (h : List Int) : V := .kn (.bool (isB d && wk r h d))
noncomputable def GrWorks : PSpec
  | [.agg [.list s_r n_r f_r, .list s_h n_h f_h], .kn (.int .i64 d)] => some (eInt.okl s_r n_r f_r ∧ eInt.okl s_h n_h f_h ∧ rWorks_pre d (eInt.dl n_r f_r) (eInt.dl n_h f_h), rWorks_val d (eInt.dl n_r f_r) (eInt.dl n_h f_h))
  | _ => none
theorem rWorks_res (d : Int) (r : List Int) (h : List Int) (good : Cfg → Prop) (R : Option V → Prop) : arun Try.prog (conOf [(26, lift GIs), (27, lift GrRests)]) (0, []) good (RetO (R)) 400 (entry Try.prog 13 [.agg [.list eInt.s r.length (eInt.tl r), .list eInt.s h.length (eInt.tl h)], .kn (.int .i64 d)]) =
    (Is_pre d ∧ bif isB d then (eInt.okl (1 : Nat) r.length (eInt.tl r) ∧ eInt.okl (1 : Nat) h.length (eInt.tl h) ∧ rRests_pre d (eInt.dl r.length (eInt.tl r)) (eInt.dl h.length (eInt.tl h))) ∧ R (some (V.kn (Value.bool !bP (isB d = true ∧ mayP (eInt.dl r.length (eInt.tl r)) (eInt.dl h.length (eInt.tl h)) ∧ restP (eInt.dl r.length (eInt.tl r)) (eInt.dl h.length (eInt.tl h)) d)))) else R (some (V.kn (Value.bool false)))) := by kernel_rfl
theorem rWorks_ok (d : Int) (r : List Int) (h : List Int) (len_r : r.length ≤ maxLen) (len_h : h.length ≤ maxLen) (hp : rWorks_pre d r h) (good : Cfg → Prop) (hstep : ∀ c, arun Try.prog (conOf [(26, lift GIs), (27, lift GrRests)]) (0, []) good (RetO (Tells (rWorks_val d r h))) 400 (c) → good c) (hext : ∀ c c', CfgExt c c' → good c' → good c) (hle : ∀ c c', CfgLe 0 c c' → good c' → good c) : arun Try.prog (conOf [(26, lift GIs), (27, lift GrRests)]) (0, []) good (RetO (Tells (rWorks_val d r h))) 400 (entry Try.prog 13 [.agg [.list eInt.s r.length (eInt.tl r), .list eInt.s h.length (eInt.tl h)], .kn (.int .i64 d)]) := by
  rw [rWorks_res]
  have ok_r : eInt.okl 1 r.length (eInt.tl r) := eInt.okl_tl len_r
  have ok_h : eInt.okl 1 h.length (eInt.tl h) := eInt.okl_tl len_h
  try simp only [eInt.dl_tl]
  repeat' first | exact trivial | exact ok_r | exact ok_h | refine And.intro ?_ ?_ | refine cond_intro (fun hh => ?_) (fun hh => ?_)
  all_goals refine tell_bool ?_
  all_goals simp_all [wk]
theorem rWorks_con : SpecOK Try.prog 13 (lift GrWorks) := by
  refine con_of_run3 (con := conOf [(26, lift GIs), (27, lift GrRests)]) (hs := (0, [])) 400 Try.func13 rfl (by kernel_rfl) rfl (conCons Is_con (conCons rRests_con conNil)) ?_
  intro args0 p r hG hp
  unfold GrWorks at hG
  split at hG
  case h_2 => cases hG
  rename_i s_r n_r f_r s_h n_h f_h d
  cases hG
  obtain ⟨ok_r, hp⟩ := hp
  obtain ⟨ok_h, hp⟩ := hp
  exact ⟨[.agg [.list eInt.s (eInt.dl n_r f_r).length (eInt.tl (eInt.dl n_r f_r)), .list eInt.s (eInt.dl n_h f_h).length (eInt.tl (eInt.dl n_h f_h))], .kn (.int .i64 d)], ⟨VExt.agg ⟨eInt.extl ok_r, eInt.extl ok_h, trivial⟩, VExt.refl _, trivial⟩, by simp [Try.ntmps13], fun good hstep hext hle => rWorks_ok _ _ _ (by rw [eInt.dl_length]; exact ok_r.2.1) (by rw [eInt.dl_length]; exact ok_h.2.1) hp good hstep hext hle⟩
def rDeadline_pre (d : Int) (r : List Int) (h : List Int) : Prop := inI64 d
noncomputable def rDeadline_val (d : Int) (r : List Int) (h : List Int) : V := two (deadline r h d)
noncomputable def GrDeadline : PSpec
  | [.agg [.list s_r n_r f_r, .list s_h n_h f_h], .kn (.int .i64 d)] => some (eInt.okl s_r n_r f_r ∧ eInt.okl s_h n_h f_h ∧ rDeadline_pre d (eInt.dl n_r f_r) (eInt.dl n_h f_h), rDeadline_val d (eInt.dl n_r f_r) (eInt.dl n_h f_h))
  | _ => none
theorem rDeadline_res (d : Int) (r : List Int) (h : List Int) (good : Cfg → Prop) (R : Option V → Prop) : arun Try.prog (conOf [(26, lift GIs), (13, lift GrWorks)]) (0, [(15, 5, [2, 6, 7], [(0, 2, [])])]) good (RetO (R)) 400 (entry Try.prog 15 [.agg [.list eInt.s r.length (eInt.tl r), .list eInt.s h.length (eInt.tl h)], .kn (.int .i64 d)]) =
    (Is_pre d ∧ bif !isB d then R (some (V.tup [V.kn (Value.int IntKind.i64 (0 : Int)), V.kn (Value.bool false)])) else good { fr := { fn := (15 : Nat), nt := (25 : Nat), t := [((2 : Nat), V.ptr (0 : Nat) (0 : Nat)), ((6 : Nat), V.kn (Value.int IntKind.i64 (0 : Int))), ((7 : Nat), V.kn (Value.int IntKind.i64 (IntKind.i64.wrap (d + (1 : Int)))))], k := loopK Try.prog (15 : Nat) (5 : Nat) }, cs := [], h := [O.cells [V.list (1 : Nat) r.length (eInt.tl r), V.list (1 : Nat) h.length (eInt.tl h)]] }) := by kernel_rfl
@[reducible] noncomputable def rDeadline_c5 (d : Int) (r : List Int) (h : List Int) (n e : Int) : Cfg := ⟨⟨15, 25, [(2, .ptr 0 0), (6, .kn (.int .i64 n)), (7, .kn (.int .i64 e))], loopK Try.prog 15 5⟩, [], [.cells [.list eInt.s r.length (eInt.tl r), .list eInt.s h.length (eInt.tl h)]]⟩
theorem rDeadline_l5 (d : Int) (r : List Int) (h : List Int) (n e : Int) (good : Cfg → Prop) (R : Option V → Prop) : arun Try.prog (conOf [(26, lift GIs), (13, lift GrWorks)]) (0, [(15, 5, [2, 6, 7], [(0, 2, [])])]) good (RetO (R)) 400 (rDeadline_c5 d r h n e) =
    (bif decide (e ≤ (1048576 : Int)) then (eInt.okl (1 : Nat) r.length (eInt.tl r) ∧ eInt.okl (1 : Nat) h.length (eInt.tl h) ∧ rWorks_pre e (eInt.dl r.length (eInt.tl r)) (eInt.dl h.length (eInt.tl h))) ∧ bif isB e && wk (eInt.dl r.length (eInt.tl r)) (eInt.dl h.length (eInt.tl h)) e then bif IntKind.i64.wrap (n + (1 : Int)) == (5 : Int) then R (some (V.tup [V.kn (Value.int IntKind.i64 e), V.kn (Value.bool true)])) else good { fr := { fn := (15 : Nat), nt := (25 : Nat), t := [((2 : Nat), V.ptr (0 : Nat) (0 : Nat)), ((6 : Nat), V.kn (Value.int IntKind.i64 (IntKind.i64.wrap (n + (1 : Int))))), ((7 : Nat), V.kn (Value.int IntKind.i64 (IntKind.i64.wrap (e + (1 : Int)))))], k := loopK Try.prog (15 : Nat) (5 : Nat) }, cs := [], h := [O.cells [V.list (1 : Nat) r.length (eInt.tl r), V.list (1 : Nat) h.length (eInt.tl h)]] } else bif n == (5 : Int) then R (some (V.tup [V.kn (Value.int IntKind.i64 e), V.kn (Value.bool true)])) else good { fr := { fn := (15 : Nat), nt := (25 : Nat), t := [((2 : Nat), V.ptr (0 : Nat) (0 : Nat)), ((6 : Nat), V.kn (Value.int IntKind.i64 n)), ((7 : Nat), V.kn (Value.int IntKind.i64 (IntKind.i64.wrap (e + (1 : Int)))))], k := loopK Try.prog (15 : Nat) (5 : Nat) }, cs := [], h := [O.cells [V.list (1 : Nat) r.length (eInt.tl r), V.list (1 : Nat) h.length (eInt.tl h)]] } else R (some (V.tup [V.kn (Value.int IntKind.i64 (0 : Int)), V.kn (Value.bool false)]))) := by kernel_rfl
theorem rDeadline_ok (d : Int) (r : List Int) (h : List Int) (len_r : r.length ≤ maxLen) (len_h : h.length ≤ maxLen) (hp : rDeadline_pre d r h) (good : Cfg → Prop) (hstep : ∀ c, arun Try.prog (conOf [(26, lift GIs), (13, lift GrWorks)]) (0, [(15, 5, [2, 6, 7], [(0, 2, [])])]) good (RetO (Tells (rDeadline_val d r h))) 400 (c) → good c) (hext : ∀ c c', CfgExt c c' → good c' → good c) (hle : ∀ c c', CfgLe 0 c c' → good c' → good c) : arun Try.prog (conOf [(26, lift GIs), (13, lift GrWorks)]) (0, [(15, 5, [2, 6, 7], [(0, 2, [])])]) good (RetO (Tells (rDeadline_val d r h))) 400 (entry Try.prog 15 [.agg [.list eInt.s r.length (eInt.tl r), .list eInt.s h.length (eInt.tl h)], .kn (.int .i64 d)]) := by
  rw [rDeadline_res]
  have ok_r : eInt.okl 1 r.length (eInt.tl r) := eInt.okl_tl len_r
  have ok_h : eInt.okl 1 h.length (eInt.tl h) := eInt.okl_tl len_h
  try simp only [eInt.dl_tl]
  
  refine ⟨trivial, cond_intro (fun hb => tell ?_) (fun hb => ?_)⟩
  · simp only [Bool.not_eq_true'] at hb
    rw [rDeadline_val, deadline, hb]; rfl
  · simp only [Bool.not_eq_false'] at hb
    have hb' := isB_iff.1 hb
    rw [wrap_in (n := d + 1) (by omega) (by omega)]
    refine loop_ind (S := Int × Int) (fun s => rDeadline_c5 d r h s.1 s.2) (fun s => 0 ≤ s.1 ∧ s.1 ≤ 4 ∧ 0 ≤ s.2 ∧ s.2 ≤ 1048577 ∧ alongD (wk r h) s.2 (5 - s.1) = deadline r h d) (fun s => (1048577 - s.2).toNat) (fun s hv ih => ?_) (0, d + 1) ⟨by simp, by simp, by simp; omega, by simp; omega, by simp [deadline, hb]⟩
    obtain ⟨n, e⟩ := s
    obtain ⟨v1, v2, v3, v4, v5⟩ := hv
    simp only at v1 v2 v3 v4 v5 ih
    apply hstep
    rw [rDeadline_l5]
    simp only [eInt.dl_tl]
    refine cond_intro (fun h1 => ⟨⟨ok_r, ok_h, trivial⟩, ?_⟩) (fun h1 => tell ?_)
    · simp only [decide_eq_true_eq] at h1
      have he : isB e = true := isB_iff.2 ⟨v3, h1⟩
      rw [along_some he] at v5
      rw [he, Bool.true_and, wrap_in (n := e + 1) (by omega) (by omega), wrap_in (n := n + 1) (by omega) (by omega)]
      cases hw : wk r h e with
      | true =>
        rw [hw] at v5
        simp only [cond_true] at v5 ⊢
        refine cond_intro (fun h2 => tell ?_) (fun h2 => ih (n + 1, e + 1) ⟨?_, ?_, ?_, ?_, ?_⟩ ?_)
        · simp only [beq_iff_eq] at h2
          rw [if_neg (by omega)] at v5
          rw [rDeadline_val, ← v5]; rfl
        all_goals simp only [beq_eq_false_iff_ne, ne_eq] at *
        all_goals first | omega | skip
        rw [if_pos (by omega)] at v5
        rw [← v5]; congr 1; omega
      | false =>
        rw [hw] at v5
        simp only [cond_false] at v5 ⊢
        refine cond_false' (by simp; omega) (ih (n, e + 1) ⟨?_, ?_, ?_, ?_, ?_⟩ ?_)
        all_goals simp only
        all_goals first | omega | skip
        rw [if_pos (by omega)] at v5
        exact v5
    · simp only [decide_eq_false_iff_not] at h1
      rw [rDeadline_val, ← v5, along_none (by simp [isB]; omega)]; rfl
theorem rDeadline_con : SpecOK Try.prog 15 (lift GrDeadline) := by
  refine con_of_run3 (con := conOf [(26, lift GIs), (13, lift GrWorks)]) (hs := (0, [(15, 5, [2, 6, 7], [(0, 2, [])])])) 400 Try.func15 rfl (by kernel_rfl) rfl (conCons Is_con (conCons rWorks_con conNil)) ?_
  intro args0 p r hG hp
  unfold GrDeadline at hG
  split at hG
  case h_2 => cases hG
  rename_i s_r n_r f_r s_h n_h f_h d
  cases hG
  obtain ⟨ok_r, hp⟩ := hp
  obtain ⟨ok_h, hp⟩ := hp
  exact ⟨[.agg [.list eInt.s (eInt.dl n_r f_r).length (eInt.tl (eInt.dl n_r f_r)), .list eInt.s (eInt.dl n_h f_h).length (eInt.tl (eInt.dl n_h f_h))], .kn (.int .i64 d)], ⟨VExt.agg ⟨eInt.extl ok_r, eInt.extl ok_h, trivial⟩, VExt.refl _, trivial⟩, by simp [Try.ntmps15], fun good hstep hext hle => rDeadline_ok _ _ _ (by rw [eInt.dl_length]; exact ok_r.2.1) (by rw [eInt.dl_length]; exact ok_h.2.1) hp good hstep hext hle⟩
def rExpiry_pre (d : Int) (r : List Int) (h : List Int) : Prop := inI64 d
noncomputable def rExpiry_val (d : Int) (r : List Int) (h : List Int) : V := two (expiry r h d)
noncomputable def GrExpiry : PSpec
  | [.agg [.list s_r n_r f_r, .list s_h n_h f_h], .kn (.int .i64 d)] => some (eInt.okl s_r n_r f_r ∧ eInt.okl s_h n_h f_h ∧ rExpiry_pre d (eInt.dl n_r f_r) (eInt.dl n_h f_h), rExpiry_val d (eInt.dl n_r f_r) (eInt.dl n_h f_h))
  | _ => none
theorem rExpiry_res (d : Int) (r : List Int) (h : List Int) (good : Cfg → Prop) (R : Option V → Prop) : arun Try.prog (conOf [(26, lift GIs), (13, lift GrWorks)]) (0, [(17, 4, [2, 6], [(0, 2, [])])]) good (RetO (R)) 400 (entry Try.prog 17 [.agg [.list eInt.s r.length (eInt.tl r), .list eInt.s h.length (eInt.tl h)], .kn (.int .i64 d)]) =
    (Is_pre d ∧ bif !isB d then R (some (V.tup [V.kn (Value.int IntKind.i64 (0 : Int)), V.kn (Value.bool false)])) else good { fr := { fn := (17 : Nat), nt := (19 : Nat), t := [((2 : Nat), V.ptr (0 : Nat) (0 : Nat)), ((6 : Nat), V.kn (Value.int IntKind.i64 d))], k := loopK Try.prog (17 : Nat) (4 : Nat) }, cs := [], h := [O.cells [V.list (1 : Nat) r.length (eInt.tl r), V.list (1 : Nat) h.length (eInt.tl h)]] }) := by kernel_rfl
@[reducible] noncomputable def rExpiry_c4 (d : Int) (r : List Int) (h : List Int) (e : Int) : Cfg := ⟨⟨17, 19, [(2, .ptr 0 0), (6, .kn (.int .i64 e))], loopK Try.prog 17 4⟩, [], [.cells [.list eInt.s r.length (eInt.tl r), .list eInt.s h.length (eInt.tl h)]]⟩
theorem rExpiry_l4 (d : Int) (r : List Int) (h : List Int) (e : Int) (good : Cfg → Prop) (R : Option V → Prop) : arun Try.prog (conOf [(26, lift GIs), (13, lift GrWorks)]) (0, [(17, 4, [2, 6], [(0, 2, [])])]) good (RetO (R)) 400 (rExpiry_c4 d r h e) =
    (bif decide (e ≤ (1048576 : Int)) then (eInt.okl (1 : Nat) r.length (eInt.tl r) ∧ eInt.okl (1 : Nat) h.length (eInt.tl h) ∧ rWorks_pre e (eInt.dl r.length (eInt.tl r)) (eInt.dl h.length (eInt.tl h))) ∧ bif isB e && wk (eInt.dl r.length (eInt.tl r)) (eInt.dl h.length (eInt.tl h)) e then R (some (V.tup [V.kn (Value.int IntKind.i64 e), V.kn (Value.bool true)])) else good { fr := { fn := (17 : Nat), nt := (19 : Nat), t := [((2 : Nat), V.ptr (0 : Nat) (0 : Nat)), ((6 : Nat), V.kn (Value.int IntKind.i64 (IntKind.i64.wrap (e + (1 : Int)))))], k := loopK Try.prog (17 : Nat) (4 : Nat) }, cs := [], h := [O.cells [V.list (1 : Nat) r.length (eInt.tl r), V.list (1 : Nat) h.length (eInt.tl h)]] } else R (some (V.tup [V.kn (Value.int IntKind.i64 (0 : Int)), V.kn (Value.bool false)]))) := by kernel_rfl
theorem rExpiry_ok (d : Int) (r : List Int) (h : List Int) (len_r : r.length ≤ maxLen) (len_h : h.length ≤ maxLen) (hp : rExpiry_pre d r h) (good : Cfg → Prop) (hstep : ∀ c, arun Try.prog (conOf [(26, lift GIs), (13, lift GrWorks)]) (0, [(17, 4, [2, 6], [(0, 2, [])])]) good (RetO (Tells (rExpiry_val d r h))) 400 (c) → good c) (hext : ∀ c c', CfgExt c c' → good c' → good c) (hle : ∀ c c', CfgLe 0 c c' → good c' → good c) : arun Try.prog (conOf [(26, lift GIs), (13, lift GrWorks)]) (0, [(17, 4, [2, 6], [(0, 2, [])])]) good (RetO (Tells (rExpiry_val d r h))) 400 (entry Try.prog 17 [.agg [.list eInt.s r.length (eInt.tl r), .list eInt.s h.length (eInt.tl h)], .kn (.int .i64 d)]) := by
  rw [rExpiry_res]
  have ok_r : eInt.okl 1 r.length (eInt.tl r) := eInt.okl_tl len_r
  have ok_h : eInt.okl 1 h.length (eInt.tl h) := eInt.okl_tl len_h
  try simp only [eInt.dl_tl]
  
  refine ⟨trivial, cond_intro (fun hb => tell ?_) (fun hb => ?_)⟩
  · simp only [Bool.not_eq_true'] at hb
    rw [rExpiry_val, expiry, along_none hb]; rfl
  · simp only [Bool.not_eq_false'] at hb
    have hb' := isB_iff.1 hb
    refine loop_ind (S := Int) (fun s => rExpiry_c4 d r h s) (fun s => 0 ≤ s ∧ s ≤ 1048577 ∧ alongD (wk r h) s 1 = expiry r h d) (fun s => (1048577 - s).toNat) (fun e hv ih => ?_) d ⟨by omega, by omega, rfl⟩
    obtain ⟨v3, v4, v5⟩ := hv
    apply hstep
    rw [rExpiry_l4]
    simp only [eInt.dl_tl]
    refine cond_intro (fun h1 => ⟨⟨ok_r, ok_h, trivial⟩, ?_⟩) (fun h1 => tell ?_)
    · simp only [decide_eq_true_eq] at h1
      have he : isB e = true := isB_iff.2 ⟨v3, h1⟩
      rw [along_some he] at v5
      rw [he, Bool.true_and, wrap_in (n := e + 1) (by omega) (by omega)]
      cases hw : wk r h e with
      | true =>
        rw [hw] at v5
        simp only [cond_true] at v5 ⊢
        refine tell ?_
        rw [if_neg (by omega)] at v5
        rw [rExpiry_val, ← v5]; rfl
      | false =>
        rw [hw] at v5
        simp only [cond_false] at v5 ⊢
        rw [if_pos (by omega)] at v5
        exact ih (e + 1) ⟨by omega, by omega, v5⟩ (by omega)
    · simp only [decide_eq_false_iff_not] at h1
      rw [rExpiry_val, ← v5, along_none (by simp [isB]; omega)]; rfl
theorem rExpiry_con : SpecOK Try.prog 17 (lift GrExpiry) := by
  refine con_of_run3 (con := conOf [(26, lift GIs), (13, lift GrWorks)]) (hs := (0, [(17, 4, [2, 6], [(0, 2, [])])])) 400 Try.func17 rfl (by kernel_rfl) rfl (conCons Is_con (conCons rWorks_con conNil)) ?_
  intro args0 p r hG hp
  unfold GrExpiry at hG
  split at hG
  case h_2 => cases hG
  rename_i s_r n_r f_r s_h n_h f_h d
  cases hG
  obtain ⟨ok_r, hp⟩ := hp
  obtain ⟨ok_h, hp⟩ := hp
  exact ⟨[.agg [.list eInt.s (eInt.dl n_r f_r).length (eInt.tl (eInt.dl n_r f_r)), .list eInt.s (eInt.dl n_h f_h).length (eInt.tl (eInt.dl n_h f_h))], .kn (.int .i64 d)], ⟨VExt.agg ⟨eInt.extl ok_r, eInt.extl ok_h, trivial⟩, VExt.refl _, trivial⟩, by simp [Try.ntmps17], fun good hstep hext hle => rExpiry_ok _ _ _ (by rw [eInt.dl_length]; exact ok_r.2.1) (by rw [eInt.dl_length]; exact ok_h.2.1) hp good hstep hext hle⟩

theorem along_facts {w : Int → Bool} : ∀ (k : Nat) (d n e : Int), along w k d n = some e → 1 ≤ n → isB d = true ∧ d ≤ e ∧ isB e = true ∧ w e = true ∧ (cnt w d (e + 1) : Int) = n
  | 0, d, n, e, h, _ => by simp [along] at h
  | k + 1, d, n, e, h, hn => by
    simp only [along] at h
    split at h
    · rename_i hb
      have step : ∀ x, d + 1 ≤ x → cnt w d (x + 1) = (bif w d then 1 else 0) + cnt w (d + 1) (x + 1) := by
        intro x hx
        unfold cnt
        rw [show (x + 1 - d).toNat = (x + 1 - (d + 1)).toNat + 1 by omega]
        generalize (x + 1 - (d + 1)).toNat = q
        induction q with
        | zero => simp [cntN]
        | succ q ih =>
          simp only [cntN] at ih ⊢
          have e3 : d + ((q + 1 : Nat) : Int) = d + 1 + (q : Int) := by omega
          rw [e3]
          omega
      split at h
      · rename_i h2
        have ⟨i1, i2, i3, i4, i5⟩ := along_facts k _ _ _ h (by omega)
        refine ⟨hb, by omega, i3, i4, ?_⟩
        rw [step e i2]
        cases hw : w d <;> rw [hw] at i5 <;> simp only [cond_true, cond_false] at i5 ⊢ <;> omega
      · rename_i h2
        cases h
        cases hw : w d with
        | false => rw [hw] at h2; simp only [cond_false] at h2; omega
        | true =>
          rw [hw] at h2; simp only [cond_true] at h2
          refine ⟨hb, Int.le_refl _, hb, rfl, ?_⟩
          unfold cnt
          rw [show (d + 1 - d).toNat = 1 by omega]
          simp [cntN, hw]
          omega
    · cases h
theorem cnt_succ {w : Int → Bool} {a e : Int} (h : a ≤ e) : cnt w a (e + 1) = cnt w a e + (bif w e then 1 else 0) := by
  unfold cnt
  rw [show (e + 1 - a).toNat = (e - a).toNat + 1 by omega]
  simp only [cntN]
  rw [show a + ((e - a).toNat : Int) = e by omega]
theorem cnt_none {w : Int → Bool} {a e : Int} (h : e ≤ a) : cnt w a e = 0 := by
  unfold cnt
  rw [show (e - a).toNat = 0 by omega]
  rfl
theorem cnt_split {w : Int → Bool} {a m : Int} (h : a ≤ m) : ∀ (k : Nat), cnt w a (m + k) = cnt w a m + cnt w m (m + k)
  | 0 => by rw [cnt_none (a := m) (by omega)]; simp
  | k + 1 => by
    have e : m + ((k + 1 : Nat) : Int) = (m + k) + 1 := by omega
    rw [e, cnt_succ (by omega), cnt_succ (by omega), cnt_split h k]; omega
theorem cnt_add {w : Int → Bool} {a m b : Int} (h : a ≤ m) (h2 : m ≤ b) : cnt w a b = cnt w a m + cnt w m b := by
  have := cnt_split (w := w) h (b - m).toNat
  rwa [show m + ((b - m).toNat : Int) = b by omega] at this
theorem deadline_facts {r h : List Int} {p b : Int} (hd : deadline r h p = some b) : isB p = true ∧ p < b ∧ isB b = true ∧ wk r h b = true ∧ cnt (wk r h) (p + 1) (b + 1) = 5 := by
  unfold deadline at hd
  split at hd
  · rename_i hb
    have ⟨i1, i2, i3, i4, i5⟩ := along_facts _ _ _ _ hd (by omega)
    exact ⟨hb, by omega, i3, i4, by omega⟩
  · cases hd
theorem expiry_facts {r h : List Int} {p b : Int} (hd : expiry r h p = some b) : isB p = true ∧ p ≤ b ∧ isB b = true ∧ wk r h b = true ∧ cnt (wk r h) p (b + 1) = 1 := by
  have ⟨i1, i2, i3, i4, i5⟩ := along_facts _ _ _ _ hd (by omega)
  exact ⟨i1, i2, i3, i4, by omega⟩

def rDays_pre (p t : Int) (r : List Int) (h : List Int) : Prop := inI64 p ∧ inI64 t
noncomputable def rDays_val (p t : Int) (r : List Int) (h : List Int) : V := .kn (.int .i64 (daysI r h p t))
noncomputable def GrDays : PSpec
  | [.agg [.list s_r n_r f_r, .list s_h n_h f_h], .kn (.int .i64 p), .kn (.int .i64 t)] => some (eInt.okl s_r n_r f_r ∧ eInt.okl s_h n_h f_h ∧ rDays_pre p t (eInt.dl n_r f_r) (eInt.dl n_h f_h), rDays_val p t (eInt.dl n_r f_r) (eInt.dl n_h f_h))
  | _ => none
theorem rDays_res (p t : Int) (r : List Int) (h : List Int) (good : Cfg → Prop) (R : Option V → Prop) : arun Try.prog (conOf [(15, lift GrDeadline), (13, lift GrWorks)]) (0, [(18, 8, [2, 3, 9, 10], [(0, 3, [])])]) good (RetO (R)) 400 (entry Try.prog 18 [.agg [.list eInt.s r.length (eInt.tl r), .list eInt.s h.length (eInt.tl h)], .kn (.int .i64 p), .kn (.int .i64 t)]) =
    ((eInt.okl (1 : Nat) r.length (eInt.tl r) ∧ eInt.okl (1 : Nat) h.length (eInt.tl h) ∧ rDeadline_pre p (eInt.dl r.length (eInt.tl r)) (eInt.dl h.length (eInt.tl h))) ∧ bif !(deadline (eInt.dl r.length (eInt.tl r)) (eInt.dl h.length (eInt.tl h)) p).isSome then R (some (V.kn (Value.int IntKind.i64 (0 : Int)))) else bif decide (t < p) then good { fr := { fn := (18 : Nat), nt := (35 : Nat), t := [((2 : Nat), V.kn (Value.int IntKind.i64 p)), ((3 : Nat), V.ptr (0 : Nat) (0 : Nat)), ((9 : Nat), V.kn (Value.int IntKind.i64 (0 : Int))), ((10 : Nat), V.kn (Value.int IntKind.i64 ((deadline (eInt.dl r.length (eInt.tl r)) (eInt.dl h.length (eInt.tl h)) p).getD (0 : Int))))], k := loopK Try.prog (18 : Nat) (8 : Nat) }, cs := [], h := [O.cells [V.list (1 : Nat) r.length (eInt.tl r), V.list (1 : Nat) h.length (eInt.tl h)]] } else good { fr := { fn := (18 : Nat), nt := (35 : Nat), t := [((2 : Nat), V.kn (Value.int IntKind.i64 t)), ((3 : Nat), V.ptr (0 : Nat) (0 : Nat)), ((9 : Nat), V.kn (Value.int IntKind.i64 (0 : Int))), ((10 : Nat), V.kn (Value.int IntKind.i64 ((deadline (eInt.dl r.length (eInt.tl r)) (eInt.dl h.length (eInt.tl h)) p).getD (0 : Int))))], k := loopK Try.prog (18 : Nat) (8 : Nat) }, cs := [], h := [O.cells [V.list (1 : Nat) r.length (eInt.tl r), V.list (1 : Nat) h.length (eInt.tl h)]] }) := by kernel_rfl
@[reducible] noncomputable def rDays_c8 (p t : Int) (r : List Int) (h : List Int) (t2 n e : Int) : Cfg := ⟨⟨18, 35, [(2, .kn (.int .i64 t2)), (3, .ptr 0 0), (9, .kn (.int .i64 n)), (10, .kn (.int .i64 e))], loopK Try.prog 18 8⟩, [], [.cells [.list eInt.s r.length (eInt.tl r), .list eInt.s h.length (eInt.tl h)]]⟩
theorem rDays_l8 (p t : Int) (r : List Int) (h : List Int) (t2 n e : Int) (good : Cfg → Prop) (R : Option V → Prop) : arun Try.prog (conOf [(15, lift GrDeadline), (13, lift GrWorks)]) (0, [(18, 8, [2, 3, 9, 10], [(0, 3, [])])]) good (RetO (R)) 400 (rDays_c8 p t r h t2 n e) =
    (bif decide (e > t2) then (eInt.okl (1 : Nat) r.length (eInt.tl r) ∧ eInt.okl (1 : Nat) h.length (eInt.tl h) ∧ rWorks_pre e (eInt.dl r.length (eInt.tl r)) (eInt.dl h.length (eInt.tl h))) ∧ bif isB e && wk (eInt.dl r.length (eInt.tl r)) (eInt.dl h.length (eInt.tl h)) e then good { fr := { fn := (18 : Nat), nt := (35 : Nat), t := [((2 : Nat), V.kn (Value.int IntKind.i64 t2)), ((3 : Nat), V.ptr (0 : Nat) (0 : Nat)), ((9 : Nat), V.kn (Value.int IntKind.i64 (IntKind.i64.wrap (n + (1 : Int))))), ((10 : Nat), V.kn (Value.int IntKind.i64 (IntKind.i64.wrap (e - (1 : Int)))))], k := loopK Try.prog (18 : Nat) (8 : Nat) }, cs := [], h := [O.cells [V.list (1 : Nat) r.length (eInt.tl r), V.list (1 : Nat) h.length (eInt.tl h)]] } else good { fr := { fn := (18 : Nat), nt := (35 : Nat), t := [((2 : Nat), V.kn (Value.int IntKind.i64 t2)), ((3 : Nat), V.ptr (0 : Nat) (0 : Nat)), ((9 : Nat), V.kn (Value.int IntKind.i64 n)), ((10 : Nat), V.kn (Value.int IntKind.i64 (IntKind.i64.wrap (e - (1 : Int)))))], k := loopK Try.prog (18 : Nat) (8 : Nat) }, cs := [], h := [O.cells [V.list (1 : Nat) r.length (eInt.tl r), V.list (1 : Nat) h.length (eInt.tl h)]] } else R (some (V.kn (Value.int IntKind.i64 n)))) := by kernel_rfl
theorem rDays_ok (p t : Int) (r : List Int) (h : List Int) (len_r : r.length ≤ maxLen) (len_h : h.length ≤ maxLen) (hp : rDays_pre p t r h) (good : Cfg → Prop) (hstep : ∀ c, arun Try.prog (conOf [(15, lift GrDeadline), (13, lift GrWorks)]) (0, [(18, 8, [2, 3, 9, 10], [(0, 3, [])])]) good (RetO (Tells (rDays_val p t r h))) 400 (c) → good c) (hext : ∀ c c', CfgExt c c' → good c' → good c) (hle : ∀ c c', CfgLe 0 c c' → good c' → good c) : arun Try.prog (conOf [(15, lift GrDeadline), (13, lift GrWorks)]) (0, [(18, 8, [2, 3, 9, 10], [(0, 3, [])])]) good (RetO (Tells (rDays_val p t r h))) 400 (entry Try.prog 18 [.agg [.list eInt.s r.length (eInt.tl r), .list eInt.s h.length (eInt.tl h)], .kn (.int .i64 p), .kn (.int .i64 t)]) := by
  rw [rDays_res]
  have ok_r : eInt.okl 1 r.length (eInt.tl r) := eInt.okl_tl len_r
  have ok_h : eInt.okl 1 h.length (eInt.tl h) := eInt.okl_tl len_h
  try simp only [eInt.dl_tl]
  
  obtain ⟨p1, p2⟩ := hp
  have key : ∀ (b t2 : Int), deadline r h p = some b → max t p = t2 → good (rDays_c8 p t r h t2 0 b) := fun b t2 hb ht => by
    have ⟨f1, f2, f3, f4, f5⟩ := deadline_facts hb
    have f1' := isB_iff.1 f1
    have f3' := isB_iff.1 f3
    refine loop_ind (S := Nat × Int) (fun s => rDays_c8 p t r h t2 s.1 s.2) (fun s => (0 < s.1 → t2 < b) ∧ s.2 ≤ b ∧ ((s.2 = b) ∨ t2 ≤ s.2) ∧ s.1 ≤ b - s.2 ∧ s.1 + cnt (wk r h) (t2 + 1) (s.2 + 1) = cnt (wk r h) (t2 + 1) (b + 1)) (fun s => (s.2 - t2).toNat) (fun s hv ih => ?_) (0, b) ⟨by simp, by simp, .inl rfl, by simp, by simp⟩
    obtain ⟨n, e⟩ := s
    obtain ⟨v0, v1, v2, v4, v3⟩ := hv
    simp only at v0 v1 v2 v3 v4 ih
    apply hstep
    rw [rDays_l8]
    simp only [eInt.dl_tl]
    refine cond_intro (fun h1 => ⟨⟨ok_r, ok_h, trivial⟩, ?_⟩) (fun h1 => tell ?_)
    · simp only [decide_eq_true_eq] at h1
      have he : isB e = true := isB_iff.2 (by omega)
      rw [cnt_succ (by omega)] at v3
      rw [he, Bool.true_and, wrap_in (n := e - 1) (by omega) (by omega), wrap_in (n := (n : Int) + 1) (by omega) (by omega)]
      have e1 : e - 1 + 1 = e := by omega
      cases hw : wk r h e with
      | true =>
        rw [hw] at v3
        simp only [cond_true] at v3 ⊢
        have := ih (n + 1, e - 1) ⟨fun _ => by omega, by simp only; omega, by simp only; omega, by simp only; omega, by simp only; rw [e1]; omega⟩ (by simp only; omega)
        exact this
      | false =>
        rw [hw] at v3
        simp only [cond_false] at v3 ⊢
        exact ih (n, e - 1) ⟨v0, by simp only; omega, by simp only; omega, by simp only; omega, by simp only; rw [e1]; omega⟩ (by simp only; omega)
    · simp only [decide_eq_false_iff_not] at h1
      rw [rDays_val, daysI, hb]
      simp only [ht]
      rw [cnt_none (by omega)] at v3
      rw [← v3]; rfl
  refine ⟨⟨ok_r, ok_h, p1⟩, ?_⟩
  cases hd : deadline r h p with
  | none => exact tell (by rw [rDays_val, daysI, hd])
  | some b =>
    refine cond_false' rfl (cond_intro (fun h1 => ?_) (fun h1 => ?_))
    · simp only [decide_eq_true_eq] at h1
      exact key b p hd (by omega)
    · simp only [decide_eq_false_iff_not] at h1
      exact key b t hd (by omega)
theorem rDays_con : SpecOK Try.prog 18 (lift GrDays) := by
  refine con_of_run3 (con := conOf [(15, lift GrDeadline), (13, lift GrWorks)]) (hs := (0, [(18, 8, [2, 3, 9, 10], [(0, 3, [])])])) 400 Try.func18 rfl (by kernel_rfl) rfl (conCons rDeadline_con (conCons rWorks_con conNil)) ?_
  intro args0 p r hG hp
  unfold GrDays at hG
  split at hG
  case h_2 => cases hG
  rename_i s_r n_r f_r s_h n_h f_h p t
  cases hG
  obtain ⟨ok_r, hp⟩ := hp
  obtain ⟨ok_h, hp⟩ := hp
  exact ⟨[.agg [.list eInt.s (eInt.dl n_r f_r).length (eInt.tl (eInt.dl n_r f_r)), .list eInt.s (eInt.dl n_h f_h).length (eInt.tl (eInt.dl n_h f_h))], .kn (.int .i64 p), .kn (.int .i64 t)], ⟨VExt.agg ⟨eInt.extl ok_r, eInt.extl ok_h, trivial⟩, VExt.refl _, VExt.refl _, trivial⟩, by simp [Try.ntmps18], fun good hstep hext hle => rDays_ok _ _ _ _ (by rw [eInt.dl_length]; exact ok_r.2.1) (by rw [eInt.dl_length]; exact ok_h.2.1) hp good hstep hext hle⟩

theorem cntN_congr {w v : Int → Bool} {a : Int} : ∀ {k : Nat}, (∀ i : Nat, i < k → w (a + i) = v (a + i)) → cntN w a k = cntN v a k
  | 0, _ => rfl
  | k + 1, h => by simp only [cntN]; rw [cntN_congr fun i hi => h i (by omega), h k (by omega)]
theorem cntN_le (w : Int → Bool) (a : Int) : ∀ k, cntN w a k ≤ k
  | 0 => Nat.le_refl _
  | k + 1 => by
    have := cntN_le w a k
    simp only [cntN]
    cases w (a + k) <;> simp only [cond_true, cond_false] <;> omega
/-- how many of a row, each once, stand below -/
theorem cntN_row (q : Int → Bool) (N : Nat) : ∀ (l : List Int), l.Nodup → cntN (fun x => bP (x ∈ l) && q x) 0 N = (l.filter fun x => decide (0 ≤ x ∧ x < (N : Int)) && q x).length
  | [], _ => by
    have : ∀ k, cntN (fun x => bP (x ∈ ([] : List Int)) && q x) 0 k = 0 := fun k => by
      induction k with
      | zero => rfl
      | succ k ih => simp only [cntN]; rw [ih, bP_false (by simp)]; rfl
    rw [this]; rfl
  | a :: l, h => by
    rw [List.nodup_cons] at h
    have ih := cntN_row q N l h.2
    have : ∀ k, cntN (fun x => bP (x ∈ a :: l) && q x) 0 k = cntN (fun x => bP (x ∈ l) && q x) 0 k + (bif decide (0 ≤ a ∧ a < k) && q a then 1 else 0) := fun k => by
      induction k with
      | zero => simp only [cntN]; rw [decide_eq_false (by omega)]; rfl
      | succ k ihk =>
        simp only [cntN]
        rw [ihk, Int.zero_add]
        by_cases e : (k : Int) = a
        · subst e
          rw [bP_true (p := (k : Int) ∈ (k : Int) :: l) (by simp), bP_false h.1, decide_eq_false (show ¬ (0 ≤ (k : Int) ∧ (k : Int) < (k : Int)) by omega), decide_eq_true (show 0 ≤ (k : Int) ∧ (k : Int) < ((k + 1 : Nat) : Int) by omega)]
        · have e1 : bP ((k : Int) ∈ a :: l) = bP ((k : Int) ∈ l) := congrArg bP (propext (by simp [e]))
          have e2 : decide (0 ≤ a ∧ a < ((k + 1 : Nat) : Int)) = decide (0 ≤ a ∧ a < (k : Int)) := by
            rw [Bool.eq_iff_iff]; simp only [decide_eq_true_eq]; omega
          rw [e1, e2]; omega
    rw [this N, ih, List.filter_cons]
    cases decide (0 ≤ a ∧ a < (N : Int)) && q a <;> simp
theorem srt_nodup {l : List Int} (h : srt l) : l.Nodup := by
  unfold List.Nodup
  rw [List.pairwise_iff_getElem]
  intro i j hi hj hij e
  have := h i j hij hj
  rw [getD_at 0 hj, getD_at 0 hi] at this
  omega
theorem mayP_len {r h : List Int} (hm : mayP r h) : r.length ≤ 7 ∧ h.length ≤ 4096 := by
  refine ⟨?_, hm.2.2⟩
  have hs := risesP_srt hm.1
  have : ∀ i, i < r.length → (i : Int) ≤ r.getD i 0 := by
    intro i
    induction i with
    | zero => intro hi; exact (hm.1.1 0 hi).1
    | succ i ih => intro hi; have := ih (by omega); have := hs i (i + 1) (by omega) hi; omega
  by_cases h0 : r.length = 0
  · omega
  · have h1 := this (r.length - 1) (by omega)
    have h2 := (hm.1.1 (r.length - 1) (by omega)).2.1
    omega
def notR (r : List Int) (x : Int) : Prop := ¬ x.tmod 7 ∈ r
theorem tmod7 {x : Int} (h : 0 ≤ x) : x.tmod 7 = x % 7 := Int.tmod_eq_emod_of_nonneg h
theorem cnt7 {r h : List Int} (hm : mayP r h) : cntN (fun x => bP (notR r x)) 0 7 + r.length = 7 := by
  have h1 := cntN_row (fun _ => true) 7 r (srt_nodup (risesP_srt hm.1))
  have h2 : (r.filter fun x => decide (0 ≤ x ∧ x < ((7 : Nat) : Int)) && true) = r := List.filter_eq_self.2 fun x hx => by
    obtain ⟨i, hi, e⟩ := List.getElem_of_mem hx
    have := hm.1.1 i hi
    unfold risesAt at this
    rw [getD_at 0 hi, e] at this
    simp; omega
  rw [h2] at h1
  rw [← h1]
  have : ∀ k, k ≤ 7 → cntN (fun x => bP (notR r x)) 0 k + cntN (fun x => bP (x ∈ r) && true) 0 k = k := fun k => by
    induction k with
    | zero => intro _; rfl
    | succ k ih =>
      intro hk
      have := ih (by omega)
      simp only [cntN, Int.zero_add]
      have e : ((k : Int)).tmod 7 = k := by rw [tmod7 (by omega)]; omega
      by_cases hmem : (k : Int) ∈ r
      · rw [bP_false (p := notR r k) (by unfold notR; rw [e]; simpa using hmem), bP_true hmem]; simp only [Bool.and_true, cond_true, cond_false] at this ⊢; omega
      · rw [bP_true (p := notR r k) (by unfold notR; rw [e]; exact hmem), bP_false hmem]; simp only [Bool.and_true, cond_true, cond_false] at this ⊢; omega
  exact this 7 (by omega)
theorem cnt_week {r h : List Int} (hm : mayP r h) : ∀ (q m : Nat), m < 7 → cntN (fun x => bP (notR r x)) 0 (7 * q + m) = q * (7 - r.length) + cntN (fun x => bP (notR r x)) 0 m := by
  have per : ∀ (q m : Nat), bP (notR r ((7 * q + m : Nat) : Int)) = bP (notR r (m : Int)) := fun q m => by
    unfold notR
    rw [tmod7 (by omega), tmod7 (by omega)]
    congr 2
    have : ((7 * q + m : Nat) : Int) % 7 = (m : Int) % 7 := by omega
    rw [this]
  have add : ∀ (q m : Nat), cntN (fun x => bP (notR r x)) 0 (7 * q + m) = cntN (fun x => bP (notR r x)) 0 (7 * q) + cntN (fun x => bP (notR r x)) 0 m := fun q m => by
    induction m with
    | zero => simp [cntN]
    | succ m ih =>
      have e : 7 * q + (m + 1) = (7 * q + m) + 1 := by omega
      rw [e]
      simp only [cntN, Int.zero_add]
      rw [ih, per q m]; omega
  have h7 := cnt7 hm
  have whole : ∀ q : Nat, cntN (fun x => bP (notR r x)) 0 (7 * q) = q * (7 - r.length) := fun q => by
    induction q with
    | zero => simp [cntN]
    | succ q ih =>
      have e : 7 * (q + 1) = 7 * q + 7 := by omega
      rw [e, add q 7, ih, Nat.succ_mul]; omega
  intro q m _
  rw [add q m, whole q]
theorem cnt_hol {r h : List Int} (hm : mayP r h) (N : Nat) : cntN (fun x => !bP (restP r h x)) 0 N + (h.filter fun x => decide (x < (N : Int)) && bP (notR r x)).length = cntN (fun x => bP (notR r x)) 0 N := by
  have h1 := cntN_row (fun x => bP (notR r x)) N h (srt_nodup (risesP_srt hm.2))
  have h2 : (h.filter fun x => decide (0 ≤ x ∧ x < (N : Int)) && bP (notR r x)) = h.filter fun x => decide (x < (N : Int)) && bP (notR r x) := List.filter_congr fun x hx => by
    obtain ⟨i, hi, e⟩ := List.getElem_of_mem hx
    have := hm.2.1 i hi
    unfold risesAt at this
    rw [getD_at 0 hi, e] at this
    have : decide (0 ≤ x ∧ x < (N : Int)) = decide (x < (N : Int)) := by rw [Bool.eq_iff_iff]; simp only [decide_eq_true_eq]; omega
    rw [this]
  rw [← h2, ← h1]
  clear h1 h2
  induction N with
  | zero => rfl
  | succ N ih =>
    simp only [cntN, Int.zero_add]
    by_cases a : notR r (N : Int)
    · by_cases b : (N : Int) ∈ h
      · rw [bP_true a, bP_true b, bP_true (p := restP r h N) (.inr b)]; simp only [Bool.and_true, Bool.not_true, cond_true, cond_false]; omega
      · rw [bP_true a, bP_false b, bP_false (p := restP r h N) (fun hh => hh.elim a b)]; simp only [Bool.and_true, Bool.not_false, cond_true, cond_false]; omega
    · rw [bP_false a, bP_true (p := restP r h N) (.inl (Classical.not_not.1 a))]; simp only [Bool.and_false, Bool.not_true, cond_false]; omega

def ahead_pre (d : Int) (r : List Int) (h : List Int) : Prop := mayP r h ∧ 0 ≤ d ∧ d ≤ 1048577
noncomputable def ahead_val (d : Int) (r : List Int) (h : List Int) : V := .kn (.int .i64 ((cntN (fun x => !bP (restP r h x)) 0 d.toNat : Nat) : Int))
noncomputable def Gahead : PSpec
  | [.agg [.list s_r n_r f_r, .list s_h n_h f_h], .kn (.int .i64 d)] => some (eInt.okl s_r n_r f_r ∧ eInt.okl s_h n_h f_h ∧ ahead_pre d (eInt.dl n_r f_r) (eInt.dl n_h f_h), ahead_val d (eInt.dl n_r f_r) (eInt.dl n_h f_h))
  | _ => none
theorem ahead_res (d : Int) (r : List Int) (h : List Int) (good : Cfg → Prop) (R : Option V → Prop) : arun Try.prog (conOf [(54, lift GcontainsI)]) (0, [(44, 3, [1, 2, 5, 17, 18], [(0, 2, [])]), (44, 9, [1, 2, 5, 30, 31, 32], [(0, 2, [])])]) good (RetO (R)) 400 (entry Try.prog 44 [.agg [.list eInt.s r.length (eInt.tl r), .list eInt.s h.length (eInt.tl h)], .kn (.int .i64 d)]) =
    (good { fr := { fn := (44 : Nat), nt := (51 : Nat), t := [((1 : Nat), V.kn (Value.int IntKind.i64 d)), ((2 : Nat), V.ptr (0 : Nat) (0 : Nat)), ((5 : Nat), V.kn (Value.int IntKind.i64 (IntKind.i64.wrap (IntKind.i64.wrap (d.tdiv (7 : Int)) * IntKind.i64.wrap ((7 : Int) - ↑r.length))))), ((17 : Nat), V.kn (Value.int IntKind.i64 (d.tmod (7 : Int)))), ((18 : Nat), V.kn (Value.int IntKind.i64 (0 : Int)))], k := loopK Try.prog (44 : Nat) (3 : Nat) }, cs := [], h := [O.cells [V.list (1 : Nat) r.length (eInt.tl r), V.list (1 : Nat) h.length (eInt.tl h)]] }) := by kernel_rfl
@[reducible] noncomputable def ahead_c3 (d : Int) (r : List Int) (h : List Int) (n m k : Int) : Cfg := ⟨⟨44, 51, [(1, .kn (.int .i64 d)), (2, .ptr 0 0), (5, .kn (.int .i64 n)), (17, .kn (.int .i64 m)), (18, .kn (.int .i64 k))], loopK Try.prog 44 3⟩, [], [.cells [.list eInt.s r.length (eInt.tl r), .list eInt.s h.length (eInt.tl h)]]⟩
theorem ahead_l3 (d : Int) (r : List Int) (h : List Int) (n m k : Int) (good : Cfg → Prop) (R : Option V → Prop) : arun Try.prog (conOf [(54, lift GcontainsI)]) (0, [(44, 3, [1, 2, 5, 17, 18], [(0, 2, [])]), (44, 9, [1, 2, 5, 30, 31, 32], [(0, 2, [])])]) good (RetO (R)) 400 (ahead_c3 d r h n m k) =
    (bif decide (k < m) then (eInt.okl (1 : Nat) r.length (eInt.tl r) ∧ containsI_pre k (eInt.dl r.length (eInt.tl r))) ∧ bif !bP (k ∈ eInt.dl r.length (eInt.tl r)) then good { fr := { fn := (44 : Nat), nt := (51 : Nat), t := [((1 : Nat), V.kn (Value.int IntKind.i64 d)), ((2 : Nat), V.ptr (0 : Nat) (0 : Nat)), ((5 : Nat), V.kn (Value.int IntKind.i64 (IntKind.i64.wrap (n + (1 : Int))))), ((17 : Nat), V.kn (Value.int IntKind.i64 m)), ((18 : Nat), V.kn (Value.int IntKind.i64 (IntKind.i64.wrap (k + (1 : Int)))))], k := loopK Try.prog (44 : Nat) (3 : Nat) }, cs := [], h := [O.cells [V.list (1 : Nat) r.length (eInt.tl r), V.list (1 : Nat) h.length (eInt.tl h)]] } else good { fr := { fn := (44 : Nat), nt := (51 : Nat), t := [((1 : Nat), V.kn (Value.int IntKind.i64 d)), ((2 : Nat), V.ptr (0 : Nat) (0 : Nat)), ((5 : Nat), V.kn (Value.int IntKind.i64 n)), ((17 : Nat), V.kn (Value.int IntKind.i64 m)), ((18 : Nat), V.kn (Value.int IntKind.i64 (IntKind.i64.wrap (k + (1 : Int)))))], k := loopK Try.prog (44 : Nat) (3 : Nat) }, cs := [], h := [O.cells [V.list (1 : Nat) r.length (eInt.tl r), V.list (1 : Nat) h.length (eInt.tl h)]] } else good { fr := { fn := (44 : Nat), nt := (51 : Nat), t := [((1 : Nat), V.kn (Value.int IntKind.i64 d)), ((2 : Nat), V.ptr (0 : Nat) (0 : Nat)), ((5 : Nat), V.kn (Value.int IntKind.i64 n)), ((30 : Nat), V.list (1 : Nat) h.length (eInt.tl h)), ((31 : Nat), V.kn (Value.int IntKind.i64 ↑h.length)), ((32 : Nat), V.kn (Value.int IntKind.i64 (0 : Int)))], k := loopK Try.prog (44 : Nat) (9 : Nat) }, cs := [], h := [O.cells [V.list (1 : Nat) r.length (eInt.tl r), V.list (1 : Nat) h.length (eInt.tl h)]] }) := by kernel_rfl
@[reducible] noncomputable def ahead_c9 (d : Int) (r : List Int) (h : List Int) (n i : Int) : Cfg := ⟨⟨44, 51, [(1, .kn (.int .i64 d)), (2, .ptr 0 0), (5, .kn (.int .i64 n)), (30, .list eInt.s h.length (eInt.tl h)), (31, .kn (.int .i64 h.length)), (32, .kn (.int .i64 i))], loopK Try.prog 44 9⟩, [], [.cells [.list eInt.s r.length (eInt.tl r), .list eInt.s h.length (eInt.tl h)]]⟩
theorem ahead_l9 (d : Int) (r : List Int) (h : List Int) (n i : Int) (good : Cfg → Prop) (R : Option V → Prop) : arun Try.prog (conOf [(54, lift GcontainsI)]) (0, [(44, 3, [1, 2, 5, 17, 18], [(0, 2, [])]), (44, 9, [1, 2, 5, 30, 31, 32], [(0, 2, [])])]) good (RetO (R)) 400 (ahead_c9 d r h n i) =
    (bif decide (i < ↑h.length) then ((0 : Int) ≤ i ∧ i < ↑h.length) ∧ bif decide (h.getD i.toNat (0 : Int) < d) then (eInt.okl (1 : Nat) r.length (eInt.tl r) ∧ containsI_pre ((h.getD i.toNat (0 : Int)).tmod (7 : Int)) (eInt.dl r.length (eInt.tl r))) ∧ bif !bP ((h.getD i.toNat (0 : Int)).tmod (7 : Int) ∈ eInt.dl r.length (eInt.tl r)) then good { fr := { fn := (44 : Nat), nt := (51 : Nat), t := [((1 : Nat), V.kn (Value.int IntKind.i64 d)), ((2 : Nat), V.ptr (0 : Nat) (0 : Nat)), ((5 : Nat), V.kn (Value.int IntKind.i64 (IntKind.i64.wrap (n - (1 : Int))))), ((30 : Nat), V.list (1 : Nat) h.length (eInt.tl h)), ((31 : Nat), V.kn (Value.int IntKind.i64 ↑h.length)), ((32 : Nat), V.kn (Value.int IntKind.i64 (IntKind.i64.wrap (i + (1 : Int)))))], k := loopK Try.prog (44 : Nat) (9 : Nat) }, cs := [], h := [O.cells [V.list (1 : Nat) r.length (eInt.tl r), V.list (1 : Nat) h.length (eInt.tl h)]] } else good { fr := { fn := (44 : Nat), nt := (51 : Nat), t := [((1 : Nat), V.kn (Value.int IntKind.i64 d)), ((2 : Nat), V.ptr (0 : Nat) (0 : Nat)), ((5 : Nat), V.kn (Value.int IntKind.i64 n)), ((30 : Nat), V.list (1 : Nat) h.length (eInt.tl h)), ((31 : Nat), V.kn (Value.int IntKind.i64 ↑h.length)), ((32 : Nat), V.kn (Value.int IntKind.i64 (IntKind.i64.wrap (i + (1 : Int)))))], k := loopK Try.prog (44 : Nat) (9 : Nat) }, cs := [], h := [O.cells [V.list (1 : Nat) r.length (eInt.tl r), V.list (1 : Nat) h.length (eInt.tl h)]] } else good { fr := { fn := (44 : Nat), nt := (51 : Nat), t := [((1 : Nat), V.kn (Value.int IntKind.i64 d)), ((2 : Nat), V.ptr (0 : Nat) (0 : Nat)), ((5 : Nat), V.kn (Value.int IntKind.i64 n)), ((30 : Nat), V.list (1 : Nat) h.length (eInt.tl h)), ((31 : Nat), V.kn (Value.int IntKind.i64 ↑h.length)), ((32 : Nat), V.kn (Value.int IntKind.i64 (IntKind.i64.wrap (i + (1 : Int)))))], k := loopK Try.prog (44 : Nat) (9 : Nat) }, cs := [], h := [O.cells [V.list (1 : Nat) r.length (eInt.tl r), V.list (1 : Nat) h.length (eInt.tl h)]] } else R (some (V.kn (Value.int IntKind.i64 n)))) := by kernel_rfl
theorem ahead_ok (d : Int) (r : List Int) (h : List Int) (len_r : r.length ≤ maxLen) (len_h : h.length ≤ maxLen) (hp : ahead_pre d r h) (good : Cfg → Prop) (hstep : ∀ c, arun Try.prog (conOf [(54, lift GcontainsI)]) (0, [(44, 3, [1, 2, 5, 17, 18], [(0, 2, [])]), (44, 9, [1, 2, 5, 30, 31, 32], [(0, 2, [])])]) good (RetO (Tells (ahead_val d r h))) 400 (c) → good c) (hext : ∀ c c', CfgExt c c' → good c' → good c) (hle : ∀ c c', CfgLe 0 c c' → good c' → good c) : arun Try.prog (conOf [(54, lift GcontainsI)]) (0, [(44, 3, [1, 2, 5, 17, 18], [(0, 2, [])]), (44, 9, [1, 2, 5, 30, 31, 32], [(0, 2, [])])]) good (RetO (Tells (ahead_val d r h))) 400 (entry Try.prog 44 [.agg [.list eInt.s r.length (eInt.tl r), .list eInt.s h.length (eInt.tl h)], .kn (.int .i64 d)]) := by
  rw [ahead_res]
  have ok_r : eInt.okl 1 r.length (eInt.tl r) := eInt.okl_tl len_r
  have ok_h : eInt.okl 1 h.length (eInt.tl h) := eInt.okl_tl len_h
  try simp only [eInt.dl_tl]
  
  obtain ⟨hm, hd0, hd1⟩ := hp
  obtain ⟨l7, lh⟩ := mayP_len hm
  have hmx : maxLen = 9223372036854775807 := rfl
  have eq : d.tdiv 7 = d / 7 := Int.tdiv_eq_ediv_of_nonneg hd0
  have em : d.tmod 7 = d % 7 := tmod7 hd0
  have hq := Int.mul_le_mul_of_nonneg_left (show (7 : Int) - r.length ≤ 7 by omega) (show 0 ≤ d / 7 by omega)
  have hq0 := Int.mul_nonneg (show 0 ≤ d / 7 by omega) (show (0 : Int) ≤ 7 - r.length by omega)
  rw [eq, em, wrap_in (n := d / 7) (by omega) (by omega), wrap_in (n := 7 - (r.length : Int)) (by omega) (by omega), wrap_in (n := d / 7 * (7 - (r.length : Int))) (by omega) (by omega)]
  generalize hQ : d / 7 * (7 - (r.length : Int)) = Q at hq hq0
  have cA : ∀ k, (cntN (fun x => bP (notR r x)) 0 k : Int) ≤ k := fun k => by have := cntN_le (fun x => bP (notR r x)) 0 k; omega
  have whole : Q + cntN (fun x => bP (notR r x)) 0 (d % 7).toNat = cntN (fun x => bP (notR r x)) 0 d.toNat := by
    have := cnt_week hm (d / 7).toNat (d % 7).toNat (by omega)
    rw [show 7 * (d / 7).toNat + (d % 7).toNat = d.toNat by omega] at this
    rw [this, ← hQ]
    have e : ((((d / 7).toNat * (7 - r.length) : Nat)) : Int) = d / 7 * (7 - (r.length : Int)) := by
      rw [Int.natCast_mul, Int.toNat_of_nonneg (by omega), Int.ofNat_sub l7]; rfl
    omega
  refine loop_ind (S := Int × Nat) (fun s => ahead_c3 d r h s.1 (d % 7) s.2) (fun s => (s.2 : Int) ≤ d % 7 ∧ s.1 = Q + cntN (fun x => bP (notR r x)) 0 s.2) (fun s => (d % 7 - s.2).toNat) (fun s hv ih => ?_) (Q, 0) ⟨by simp only; omega, by simp [cntN]⟩
  obtain ⟨n, k⟩ := s
  obtain ⟨v1, v2⟩ := hv
  simp only at v1 v2 ih
  apply hstep
  rw [ahead_l3]
  simp only [eInt.dl_tl]
  have := cA k
  refine cond_intro (fun h1 => ⟨⟨ok_r, trivial⟩, ?_⟩) (fun h1 => ?_)
  · simp only [decide_eq_true_eq] at h1
    rw [wrap_in (n := (k : Int) + 1) (by omega) (by omega), wrap_in (n := n + 1) (by omega) (by omega)]
    have ek : ((k : Int)).tmod 7 = k := by rw [tmod7 (by omega)]; omega
    have hk : cntN (fun x => bP (notR r x)) 0 (k + 1) = cntN (fun x => bP (notR r x)) 0 k + (bif !bP ((k : Int) ∈ r) then 1 else 0) := by
      simp only [cntN, Int.zero_add]
      congr 1
      unfold notR
      rw [ek]
      by_cases hmem : (k : Int) ∈ r
      · rw [bP_true hmem, bP_false (by simpa using hmem)]; rfl
      · rw [bP_false hmem, bP_true hmem]; rfl
    refine cond_intro (fun h2 => ?_) (fun h2 => ?_)
    · rw [h2] at hk; simp only [cond_true] at hk
      exact ih (n + 1, k + 1) ⟨by simp only; omega, by simp only; rw [hk]; omega⟩ (by simp only; omega)
    · rw [h2] at hk; simp only [cond_false] at hk
      exact ih (n, k + 1) ⟨by simp only; omega, by simp only; rw [hk]; omega⟩ (by simp only; omega)
  · simp only [decide_eq_false_iff_not] at h1
    have hk : k = (d % 7).toNat := by omega
    have hn : n = cntN (fun x => bP (notR r x)) 0 d.toNat := by rw [v2, hk]; exact whole
    have hA := cA d.toNat
    refine foreach h (fun i (n : Int) => n = cntN (fun x => bP (notR r x)) 0 d.toNat - ((h.take i).filter fun x => decide (x < d) && bP (notR r x)).length) (fun i n => ahead_c9 d r h n i) (fun i n hi hv ih => ?_) (fun n hv => ?_) n (by simpa using hn)
    · apply hstep
      rw [ahead_l9]
      simp only [eInt.dl_tl]
      have e1 : (i : Int).toNat = i := by omega
      have hl : ((h.take i).filter fun x => decide (x < d) && bP (notR r x)).length ≤ i := Nat.le_trans (List.length_filter_le _ _) (by simp; omega)
      have ht : ((h.take (i + 1)).filter fun x => decide (x < d) && bP (notR r x)).length = ((h.take i).filter fun x => decide (x < d) && bP (notR r x)).length + (bif decide (h[i] < d) && !bP (h[i].tmod 7 ∈ r) then 1 else 0) := by
        rw [take_at hi, List.filter_append, List.length_append]
        congr 1
        have : bP (notR r h[i]) = !bP (h[i].tmod 7 ∈ r) := by
          unfold notR
          by_cases hmem : h[i].tmod 7 ∈ r
          · rw [bP_true hmem, bP_false (by simpa using hmem)]; rfl
          · rw [bP_false hmem, bP_true hmem]; rfl
        rw [List.filter_cons, this]
        cases decide (h[i] < d) && !bP (h[i].tmod 7 ∈ r) <;> simp
      rw [e1, wrap_succ hi len_h, getD_at _ hi, wrap_in (n := n - 1) (by omega) (by omega)]
      refine cond_true' (decide_eq_true (by omega)) ⟨⟨by omega, by omega⟩, cond_intro (fun h1 => ⟨⟨ok_r, trivial⟩, cond_intro (fun h2 => ih _ ?_) (fun h2 => ih _ ?_)⟩) (fun h1 => ih _ ?_)⟩
      · rw [ht, h1, h2, hv]; simp only [Bool.and_true, cond_true]; omega
      · rw [ht, h1, h2, hv]; simp only [Bool.and_false, cond_false]; omega
      · rw [ht, h1, hv]; simp only [Bool.false_and, cond_false]; omega
    · apply hstep
      rw [ahead_l9]
      refine cond_false' (decide_eq_false (by omega)) (tell ?_)
      have := cnt_hol hm d.toNat
      rw [Int.toNat_of_nonneg hd0] at this
      rw [List.take_of_length_le (Nat.le_refl _)] at hv
      rw [ahead_val, hv]
      congr 2
      omega
theorem ahead_con : SpecOK Try.prog 44 (lift Gahead) := by
  refine con_of_run3 (con := conOf [(54, lift GcontainsI)]) (hs := (0, [(44, 3, [1, 2, 5, 17, 18], [(0, 2, [])]), (44, 9, [1, 2, 5, 30, 31, 32], [(0, 2, [])])])) 400 Try.func44 rfl (by kernel_rfl) rfl (conCons containsI_con conNil) ?_
  intro args0 p r hG hp
  unfold Gahead at hG
  split at hG
  case h_2 => cases hG
  rename_i s_r n_r f_r s_h n_h f_h d
  cases hG
  obtain ⟨ok_r, hp⟩ := hp
  obtain ⟨ok_h, hp⟩ := hp
  exact ⟨[.agg [.list eInt.s (eInt.dl n_r f_r).length (eInt.tl (eInt.dl n_r f_r)), .list eInt.s (eInt.dl n_h f_h).length (eInt.tl (eInt.dl n_h f_h))], .kn (.int .i64 d)], ⟨VExt.agg ⟨eInt.extl ok_r, eInt.extl ok_h, trivial⟩, VExt.refl _, trivial⟩, by simp [Try.ntmps44], fun good hstep hext hle => ahead_ok _ _ _ (by rw [eInt.dl_length]; exact ok_r.2.1) (by rw [eInt.dl_length]; exact ok_h.2.1) hp good hstep hext hle⟩

theorem own_may {r h : List Int} : mayP (ownR r h) (ownH r h) := by
  unfold ownR ownH
  cases hb : bP (mayP r h) with
  | true => exact bP_iff.1 hb
  | false => exact ⟨⟨fun i hi => by simp at hi, by simp⟩, ⟨fun i hi => by simp at hi, by simp⟩⟩
theorem own_wk {r h : List Int} : (fun x => !bP (restP (ownR r h) (ownH r h) x)) = wk r h := by
  funext x
  unfold wk
  exact congrArg (fun q => !bP q) (propext (own_rest r h x))
theorem cnt0 {w : Int → Bool} {a b : Int} (h0 : 0 ≤ a) (h : a ≤ b) : cntN w 0 b.toNat = cntN w 0 a.toNat + cnt w a b := by
  have := cnt_add (w := w) h0 h
  unfold cnt at this ⊢
  simpa using this
theorem own_len {r h : List Int} (l1 : r.length ≤ maxLen) (l2 : h.length ≤ maxLen) : (ownR r h).length ≤ maxLen ∧ (ownH r h).length ≤ maxLen := by
  unfold ownR ownH
  cases bP (mayP r h)
  · exact ⟨Nat.zero_le _, Nat.zero_le _⟩
  · exact ⟨l1, l2⟩

def Between_pre (a b : Int) (r : List Int) (h : List Int) : Prop := True
noncomputable def Between_val (a b : Int) (r : List Int) (h : List Int) : V := .kn (.int .i64 ((cnt (wk r h) (max a 0) (min b 1048577) : Nat) : Int))
noncomputable def GBetween : PSpec
  | [.agg [.list s_r n_r f_r, .list s_h n_h f_h], .kn (.int .i64 a), .kn (.int .i64 b)] => some (eInt.okl s_r n_r f_r ∧ eInt.okl s_h n_h f_h ∧ Between_pre a b (eInt.dl n_r f_r) (eInt.dl n_h f_h), Between_val a b (eInt.dl n_r f_r) (eInt.dl n_h f_h))
  | _ => none
theorem Between_res (a b : Int) (r : List Int) (h : List Int) (good : Cfg → Prop) (R : Option V → Prop) : arun Try.prog (conOf [(40, lift Gown), (44, lift Gahead)]) (0, []) good (RetO (R)) 400 (entry Try.prog 25 [.agg [.list eInt.s r.length (eInt.tl r), .list eInt.s h.length (eInt.tl h)], .kn (.int .i64 a), .kn (.int .i64 b)]) =
    (bif decide ((if (1048577 : Int) < b then (1048577 : Int) else b) ≤ if (0 : Int) > a then (0 : Int) else a) then R (some (V.kn (Value.int IntKind.i64 (0 : Int)))) else (eInt.okl (1 : Nat) r.length (eInt.tl r) ∧ eInt.okl (1 : Nat) h.length (eInt.tl h) ∧ own_pre (eInt.dl r.length (eInt.tl r)) (eInt.dl h.length (eInt.tl h))) ∧ (eInt.okl (1 : Nat) (ownR (eInt.dl r.length (eInt.tl r)) (eInt.dl h.length (eInt.tl h))).length (eInt.tl (ownR (eInt.dl r.length (eInt.tl r)) (eInt.dl h.length (eInt.tl h)))) ∧ eInt.okl (1 : Nat) (ownH (eInt.dl r.length (eInt.tl r)) (eInt.dl h.length (eInt.tl h))).length (eInt.tl (ownH (eInt.dl r.length (eInt.tl r)) (eInt.dl h.length (eInt.tl h)))) ∧ ahead_pre (if (1048577 : Int) < b then (1048577 : Int) else b) (eInt.dl (ownR (eInt.dl r.length (eInt.tl r)) (eInt.dl h.length (eInt.tl h))).length (eInt.tl (ownR (eInt.dl r.length (eInt.tl r)) (eInt.dl h.length (eInt.tl h))))) (eInt.dl (ownH (eInt.dl r.length (eInt.tl r)) (eInt.dl h.length (eInt.tl h))).length (eInt.tl (ownH (eInt.dl r.length (eInt.tl r)) (eInt.dl h.length (eInt.tl h)))))) ∧ (eInt.okl (1 : Nat) (ownR (eInt.dl r.length (eInt.tl r)) (eInt.dl h.length (eInt.tl h))).length (eInt.tl (ownR (eInt.dl r.length (eInt.tl r)) (eInt.dl h.length (eInt.tl h)))) ∧ eInt.okl (1 : Nat) (ownH (eInt.dl r.length (eInt.tl r)) (eInt.dl h.length (eInt.tl h))).length (eInt.tl (ownH (eInt.dl r.length (eInt.tl r)) (eInt.dl h.length (eInt.tl h)))) ∧ ahead_pre (if (0 : Int) > a then (0 : Int) else a) (eInt.dl (ownR (eInt.dl r.length (eInt.tl r)) (eInt.dl h.length (eInt.tl h))).length (eInt.tl (ownR (eInt.dl r.length (eInt.tl r)) (eInt.dl h.length (eInt.tl h))))) (eInt.dl (ownH (eInt.dl r.length (eInt.tl r)) (eInt.dl h.length (eInt.tl h))).length (eInt.tl (ownH (eInt.dl r.length (eInt.tl r)) (eInt.dl h.length (eInt.tl h)))))) ∧ R (some (V.kn (Value.int IntKind.i64 (IntKind.i64.wrap (↑(cntN (fun x => !bP (restP (eInt.dl (ownR (eInt.dl r.length (eInt.tl r)) (eInt.dl h.length (eInt.tl h))).length (eInt.tl (ownR (eInt.dl r.length (eInt.tl r)) (eInt.dl h.length (eInt.tl h))))) (eInt.dl (ownH (eInt.dl r.length (eInt.tl r)) (eInt.dl h.length (eInt.tl h))).length (eInt.tl (ownH (eInt.dl r.length (eInt.tl r)) (eInt.dl h.length (eInt.tl h))))) x)) (0 : Int) (if (1048577 : Int) < b then (1048577 : Int) else b).toNat) - ↑(cntN (fun x => !bP (restP (eInt.dl (ownR (eInt.dl r.length (eInt.tl r)) (eInt.dl h.length (eInt.tl h))).length (eInt.tl (ownR (eInt.dl r.length (eInt.tl r)) (eInt.dl h.length (eInt.tl h))))) (eInt.dl (ownH (eInt.dl r.length (eInt.tl r)) (eInt.dl h.length (eInt.tl h))).length (eInt.tl (ownH (eInt.dl r.length (eInt.tl r)) (eInt.dl h.length (eInt.tl h))))) x)) (0 : Int) (if (0 : Int) > a then (0 : Int) else a).toNat))))))) := by kernel_rfl
theorem Between_ok (a b : Int) (r : List Int) (h : List Int) (len_r : r.length ≤ maxLen) (len_h : h.length ≤ maxLen) (hp : Between_pre a b r h) (good : Cfg → Prop) (hstep : ∀ c, arun Try.prog (conOf [(40, lift Gown), (44, lift Gahead)]) (0, []) good (RetO (Tells (Between_val a b r h))) 400 (c) → good c) (hext : ∀ c c', CfgExt c c' → good c' → good c) (hle : ∀ c c', CfgLe 0 c c' → good c' → good c) : arun Try.prog (conOf [(40, lift Gown), (44, lift Gahead)]) (0, []) good (RetO (Tells (Between_val a b r h))) 400 (entry Try.prog 25 [.agg [.list eInt.s r.length (eInt.tl r), .list eInt.s h.length (eInt.tl h)], .kn (.int .i64 a), .kn (.int .i64 b)]) := by
  rw [Between_res]
  have ok_r : eInt.okl 1 r.length (eInt.tl r) := eInt.okl_tl len_r
  have ok_h : eInt.okl 1 h.length (eInt.tl h) := eInt.okl_tl len_h
  try simp only [eInt.dl_tl]
  
  have hl := own_len (r := r) (h := h) len_r len_h
  have oR : eInt.okl 1 (ownR r h).length (eInt.tl (ownR r h)) := eInt.okl_tl hl.1
  have oH : eInt.okl 1 (ownH r h).length (eInt.tl (ownH r h)) := eInt.okl_tl hl.2
  rw [show (if (1048577 : Int) < b then (1048577 : Int) else b) = min b 1048577 by omega, show (if (0 : Int) > a then (0 : Int) else a) = max a 0 by omega, own_wk]
  refine cond_intro (fun h1 => tell ?_) (fun h1 => ?_)
  · simp only [decide_eq_true_eq] at h1
    rw [Between_val, cnt_none h1]; rfl
  · simp only [decide_eq_false_iff_not] at h1
    refine ⟨⟨ok_r, ok_h, trivial⟩, ⟨oR, oH, own_may, by omega, by omega⟩, ⟨oR, oH, own_may, by omega, by omega⟩, tell ?_⟩
    have h2 := cnt0 (w := wk r h) (a := max a 0) (b := min b 1048577) (by omega) (by omega)
    have h3 := cntN_le (wk r h) 0 (min b 1048577).toNat
    rw [wrap_in (by omega) (by omega), Between_val, h2]
    congr 2
    omega
theorem Between_con : SpecOK Try.prog 25 (lift GBetween) := by
  refine con_of_run3 (con := conOf [(40, lift Gown), (44, lift Gahead)]) (hs := (0, [])) 400 Try.func25 rfl (by kernel_rfl) rfl (conCons own_con (conCons ahead_con conNil)) ?_
  intro args0 p r hG hp
  unfold GBetween at hG
  split at hG
  case h_2 => cases hG
  rename_i s_r n_r f_r s_h n_h f_h a b
  cases hG
  obtain ⟨ok_r, hp⟩ := hp
  obtain ⟨ok_h, hp⟩ := hp
  exact ⟨[.agg [.list eInt.s (eInt.dl n_r f_r).length (eInt.tl (eInt.dl n_r f_r)), .list eInt.s (eInt.dl n_h f_h).length (eInt.tl (eInt.dl n_h f_h))], .kn (.int .i64 a), .kn (.int .i64 b)], ⟨VExt.agg ⟨eInt.extl ok_r, eInt.extl ok_h, trivial⟩, VExt.refl _, VExt.refl _, trivial⟩, by simp [Try.ntmps25], fun good hstep hext hle => Between_ok _ _ _ _ (by rw [eInt.dl_length]; exact ok_r.2.1) (by rw [eInt.dl_length]; exact ok_h.2.1) hp good hstep hext hle⟩
def nDays_pre (p t : Int) (r : List Int) (h : List Int) : Prop := inI64 p ∧ inI64 t
noncomputable def nDays_val (p t : Int) (r : List Int) (h : List Int) : V := .kn (.int .i64 (daysI r h p t))
noncomputable def GnDays : PSpec
  | [.agg [.list s_r n_r f_r, .list s_h n_h f_h], .kn (.int .i64 p), .kn (.int .i64 t)] => some (eInt.okl s_r n_r f_r ∧ eInt.okl s_h n_h f_h ∧ nDays_pre p t (eInt.dl n_r f_r) (eInt.dl n_h f_h), nDays_val p t (eInt.dl n_r f_r) (eInt.dl n_h f_h))
  | _ => none
theorem nDays_res (p t : Int) (r : List Int) (h : List Int) (good : Cfg → Prop) (R : Option V → Prop) : arun Try.prog (conOf [(10, lift GnDeadline), (25, lift GBetween)]) (0, []) good (RetO (R)) 400 (entry Try.prog 12 [.agg [.list eInt.s r.length (eInt.tl r), .list eInt.s h.length (eInt.tl h)], .kn (.int .i64 p), .kn (.int .i64 t)]) =
    ((eInt.okl (1 : Nat) r.length (eInt.tl r) ∧ eInt.okl (1 : Nat) h.length (eInt.tl h) ∧ nDeadline_pre p (eInt.dl r.length (eInt.tl r)) (eInt.dl h.length (eInt.tl h))) ∧ bif !(deadline (eInt.dl r.length (eInt.tl r)) (eInt.dl h.length (eInt.tl h)) p).isSome then R (some (V.kn (Value.int IntKind.i64 (0 : Int)))) else bif decide ((if p > t then p else t) ≥ (deadline (eInt.dl r.length (eInt.tl r)) (eInt.dl h.length (eInt.tl h)) p).getD (0 : Int)) then R (some (V.kn (Value.int IntKind.i64 (0 : Int)))) else (eInt.okl (1 : Nat) r.length (eInt.tl r) ∧ eInt.okl (1 : Nat) h.length (eInt.tl h) ∧ Between_pre (IntKind.i64.wrap ((if p > t then p else t) + (1 : Int))) (IntKind.i64.wrap ((deadline (eInt.dl r.length (eInt.tl r)) (eInt.dl h.length (eInt.tl h)) p).getD (0 : Int) + (1 : Int))) (eInt.dl r.length (eInt.tl r)) (eInt.dl h.length (eInt.tl h))) ∧ R (some (V.kn (Value.int IntKind.i64 ↑(cnt (wk (eInt.dl r.length (eInt.tl r)) (eInt.dl h.length (eInt.tl h))) (max (IntKind.i64.wrap ((if p > t then p else t) + (1 : Int))) (0 : Int)) (min (IntKind.i64.wrap ((deadline (eInt.dl r.length (eInt.tl r)) (eInt.dl h.length (eInt.tl h)) p).getD (0 : Int) + (1 : Int))) (1048577 : Int))))))) := by kernel_rfl
theorem nDays_ok (p t : Int) (r : List Int) (h : List Int) (len_r : r.length ≤ maxLen) (len_h : h.length ≤ maxLen) (hp : nDays_pre p t r h) (good : Cfg → Prop) (hstep : ∀ c, arun Try.prog (conOf [(10, lift GnDeadline), (25, lift GBetween)]) (0, []) good (RetO (Tells (nDays_val p t r h))) 400 (c) → good c) (hext : ∀ c c', CfgExt c c' → good c' → good c) (hle : ∀ c c', CfgLe 0 c c' → good c' → good c) : arun Try.prog (conOf [(10, lift GnDeadline), (25, lift GBetween)]) (0, []) good (RetO (Tells (nDays_val p t r h))) 400 (entry Try.prog 12 [.agg [.list eInt.s r.length (eInt.tl r), .list eInt.s h.length (eInt.tl h)], .kn (.int .i64 p), .kn (.int .i64 t)]) := by
  rw [nDays_res]
  have ok_r : eInt.okl 1 r.length (eInt.tl r) := eInt.okl_tl len_r
  have ok_h : eInt.okl 1 h.length (eInt.tl h) := eInt.okl_tl len_h
  try simp only [eInt.dl_tl]
  
  obtain ⟨p1, p2⟩ := hp
  refine ⟨⟨ok_r, ok_h, p1⟩, ?_⟩
  rw [show (if p > t then p else t) = max t p by omega]
  cases hd : deadline r h p with
  | none => exact tell (by rw [nDays_val, daysI, hd])
  | some b =>
    have ⟨f1, f2, f3, f4, f5⟩ := deadline_facts hd
    have f1' := isB_iff.1 f1
    have f3' := isB_iff.1 f3
    refine cond_false' rfl (cond_intro (fun h1 => ?_) (fun h1 => ⟨⟨ok_r, ok_h, trivial⟩, ?_⟩))
    · simp only [decide_eq_true_eq, Option.getD_some] at h1
      exact tell (by simp only [nDays_val, daysI, hd]; rw [cnt_none (by omega)]; rfl)
    · simp only [decide_eq_false_iff_not, Option.getD_some] at h1 ⊢
      rw [wrap_in (n := max t p + 1) (by omega) (by omega), wrap_in (n := b + 1) (by omega) (by omega), show max (max t p + 1) 0 = max t p + 1 by omega, show min (b + 1) 1048577 = b + 1 by omega]
      exact tell (by rw [nDays_val, daysI, hd])
theorem nDays_con : SpecOK Try.prog 12 (lift GnDays) := by
  refine con_of_run3 (con := conOf [(10, lift GnDeadline), (25, lift GBetween)]) (hs := (0, [])) 400 Try.func12 rfl (by kernel_rfl) rfl (conCons nDeadline_con (conCons Between_con conNil)) ?_
  intro args0 p r hG hp
  unfold GnDays at hG
  split at hG
  case h_2 => cases hG
  rename_i s_r n_r f_r s_h n_h f_h p t
  cases hG
  obtain ⟨ok_r, hp⟩ := hp
  obtain ⟨ok_h, hp⟩ := hp
  exact ⟨[.agg [.list eInt.s (eInt.dl n_r f_r).length (eInt.tl (eInt.dl n_r f_r)), .list eInt.s (eInt.dl n_h f_h).length (eInt.tl (eInt.dl n_h f_h))], .kn (.int .i64 p), .kn (.int .i64 t)], ⟨VExt.agg ⟨eInt.extl ok_r, eInt.extl ok_h, trivial⟩, VExt.refl _, VExt.refl _, trivial⟩, by simp [Try.ntmps12], fun good hstep hext hle => nDays_ok _ _ _ _ (by rw [eInt.dl_length]; exact ok_r.2.1) (by rw [eInt.dl_length]; exact ok_h.2.1) hp good hstep hext hle⟩
def nPre_pre (p t : Int) (an : Bool) (r : List Int) (h : List Int) : Prop := inI64 p
noncomputable def nPre_val (p t : Int) (an : Bool) (r : List Int) (h : List Int) : V := .kn (.bool (preB (deadline r h p) an t))
noncomputable def GnPre : PSpec
  | [.agg [.list s_r n_r f_r, .list s_h n_h f_h], .kn (.int .i64 p), .kn (.int .i64 t), .kn (.bool an)] => some (eInt.okl s_r n_r f_r ∧ eInt.okl s_h n_h f_h ∧ nPre_pre p t an (eInt.dl n_r f_r) (eInt.dl n_h f_h), nPre_val p t an (eInt.dl n_r f_r) (eInt.dl n_h f_h))
  | _ => none
theorem nPre_res (p t : Int) (an : Bool) (r : List Int) (h : List Int) (good : Cfg → Prop) (R : Option V → Prop) : arun Try.prog (conOf [(10, lift GnDeadline)]) (0, []) good (RetO (R)) 400 (entry Try.prog 14 [.agg [.list eInt.s r.length (eInt.tl r), .list eInt.s h.length (eInt.tl h)], .kn (.int .i64 p), .kn (.int .i64 t), .kn (.bool an)]) =
    ((eInt.okl (1 : Nat) r.length (eInt.tl r) ∧ eInt.okl (1 : Nat) h.length (eInt.tl h) ∧ nDeadline_pre p (eInt.dl r.length (eInt.tl r)) (eInt.dl h.length (eInt.tl h))) ∧ bif (deadline (eInt.dl r.length (eInt.tl r)) (eInt.dl h.length (eInt.tl h)) p).isSome then bif !an then R (some (V.kn (Value.bool (decide (t > (deadline (eInt.dl r.length (eInt.tl r)) (eInt.dl h.length (eInt.tl h)) p).getD (0 : Int)))))) else R (some (V.kn (Value.bool false))) else R (some (V.kn (Value.bool false)))) := by kernel_rfl
theorem nPre_ok (p t : Int) (an : Bool) (r : List Int) (h : List Int) (len_r : r.length ≤ maxLen) (len_h : h.length ≤ maxLen) (hp : nPre_pre p t an r h) (good : Cfg → Prop) (hstep : ∀ c, arun Try.prog (conOf [(10, lift GnDeadline)]) (0, []) good (RetO (Tells (nPre_val p t an r h))) 400 (c) → good c) (hext : ∀ c c', CfgExt c c' → good c' → good c) (hle : ∀ c c', CfgLe 0 c c' → good c' → good c) : arun Try.prog (conOf [(10, lift GnDeadline)]) (0, []) good (RetO (Tells (nPre_val p t an r h))) 400 (entry Try.prog 14 [.agg [.list eInt.s r.length (eInt.tl r), .list eInt.s h.length (eInt.tl h)], .kn (.int .i64 p), .kn (.int .i64 t), .kn (.bool an)]) := by
  rw [nPre_res]
  have ok_r : eInt.okl 1 r.length (eInt.tl r) := eInt.okl_tl len_r
  have ok_h : eInt.okl 1 h.length (eInt.tl h) := eInt.okl_tl len_h
  try simp only [eInt.dl_tl]
  
  refine ⟨⟨ok_r, ok_h, hp⟩, ?_⟩
  rw [nPre_val]
  cases hd : deadline r h p with
  | none => exact tell rfl
  | some b => cases an <;> exact tell rfl
theorem nPre_con : SpecOK Try.prog 14 (lift GnPre) := by
  refine con_of_run3 (con := conOf [(10, lift GnDeadline)]) (hs := (0, [])) 400 Try.func14 rfl (by kernel_rfl) rfl (conCons nDeadline_con conNil) ?_
  intro args0 p r hG hp
  unfold GnPre at hG
  split at hG
  case h_2 => cases hG
  rename_i s_r n_r f_r s_h n_h f_h p t an
  cases hG
  obtain ⟨ok_r, hp⟩ := hp
  obtain ⟨ok_h, hp⟩ := hp
  exact ⟨[.agg [.list eInt.s (eInt.dl n_r f_r).length (eInt.tl (eInt.dl n_r f_r)), .list eInt.s (eInt.dl n_h f_h).length (eInt.tl (eInt.dl n_h f_h))], .kn (.int .i64 p), .kn (.int .i64 t), .kn (.bool an)], ⟨VExt.agg ⟨eInt.extl ok_r, eInt.extl ok_h, trivial⟩, VExt.refl _, VExt.refl _, VExt.refl _, trivial⟩, by simp [Try.ntmps14], fun good hstep hext hle => nPre_ok _ _ _ _ _ (by rw [eInt.dl_length]; exact ok_r.2.1) (by rw [eInt.dl_length]; exact ok_h.2.1) hp good hstep hext hle⟩
def few_pre  (r : List Int) (h : List Int) : Prop := True
noncomputable def few_val  (r : List Int) (h : List Int) : V := .kn (.bool (decide (r.length ≤ 20 ∧ h.length ≤ 60)))
noncomputable def Gfew : PSpec
  | [.agg [.list s_r n_r f_r, .list s_h n_h f_h]] => some (eInt.okl s_r n_r f_r ∧ eInt.okl s_h n_h f_h ∧ few_pre (eInt.dl n_r f_r) (eInt.dl n_h f_h), few_val (eInt.dl n_r f_r) (eInt.dl n_h f_h))
  | _ => none
theorem few_res  (r : List Int) (h : List Int) (good : Cfg → Prop) (R : Option V → Prop) : arun Try.prog (conOf []) (0, []) good (RetO (R)) 400 (entry Try.prog 11 [.agg [.list eInt.s r.length (eInt.tl r), .list eInt.s h.length (eInt.tl h)]]) =
    (bif decide (↑r.length ≤ (20 : Int)) then R (some (V.kn (Value.bool (decide (↑h.length ≤ (60 : Int)))))) else R (some (V.kn (Value.bool false)))) := by kernel_rfl
theorem few_ok  (r : List Int) (h : List Int) (len_r : r.length ≤ maxLen) (len_h : h.length ≤ maxLen) (hp : few_pre r h) (good : Cfg → Prop) (hstep : ∀ c, arun Try.prog (conOf []) (0, []) good (RetO (Tells (few_val r h))) 400 (c) → good c) (hext : ∀ c c', CfgExt c c' → good c' → good c) (hle : ∀ c c', CfgLe 0 c c' → good c' → good c) : arun Try.prog (conOf []) (0, []) good (RetO (Tells (few_val r h))) 400 (entry Try.prog 11 [.agg [.list eInt.s r.length (eInt.tl r), .list eInt.s h.length (eInt.tl h)]]) := by
  rw [few_res]
  repeat' first | exact trivial | refine And.intro ?_ ?_ | refine cond_intro (fun h => ?_) (fun h => ?_)
  all_goals refine tell_bool ?_
  all_goals simp only [decide_eq_true_eq, decide_eq_false_iff_not] at *
  all_goals rw [Bool.eq_iff_iff]
  all_goals simp
  all_goals omega
theorem few_con : SpecOK Try.prog 11 (lift Gfew) := by
  refine con_of_run3 (con := conOf []) (hs := (0, [])) 400 Try.func11 rfl (by kernel_rfl) rfl conNil ?_
  intro args0 p r hG hp
  unfold Gfew at hG
  split at hG
  case h_2 => cases hG
  rename_i s_r n_r f_r s_h n_h f_h
  cases hG
  obtain ⟨ok_r, hp⟩ := hp
  obtain ⟨ok_h, hp⟩ := hp
  exact ⟨[.agg [.list eInt.s (eInt.dl n_r f_r).length (eInt.tl (eInt.dl n_r f_r)), .list eInt.s (eInt.dl n_h f_h).length (eInt.tl (eInt.dl n_h f_h))]], ⟨VExt.agg ⟨eInt.extl ok_r, eInt.extl ok_h, trivial⟩, trivial⟩, by simp [Try.ntmps11], fun good hstep hext hle => few_ok _ _ (by rw [eInt.dl_length]; exact ok_r.2.1) (by rw [eInt.dl_length]; exact ok_h.2.1) hp good hstep hext hle⟩

theorem ex1 : deadline [] [] 10 = some 15 := by
  have hw : ∀ d, wk [] [] d = true := fun d => by unfold wk; rw [bP_false (fun hh => by have := hh.2; simp [restP] at this)]; rfl
  have go : ∀ d n, isB d = true → 1 < n → alongD (wk [] []) d n = alongD (wk [] []) (d + 1) (n - 1) := fun d n h1 h2 => by rw [along_go h1 (by rw [hw]; simp only [cond_true]; omega), hw]; rfl
  unfold deadline
  rw [if_pos (by rfl), go _ _ (by rfl) (by omega), go _ _ (by rfl) (by omega), go _ _ (by rfl) (by omega), go _ _ (by rfl) (by omega), along_end (by rfl) (by rw [hw]; simp)]; rfl
theorem ex2 : deadline [5, 6] [] 4 = some 11 := by
  have hm : mayP [5, 6] [] := ⟨⟨fun i hi => by
    match i, hi with
    | 0, _ => simp [risesAt]
    | 1, _ => simp [risesAt], by simp⟩, ⟨fun i hi => by simp at hi, by simp⟩⟩
  have hw : ∀ d, 0 ≤ d → wk [5, 6] [] d = !decide (d % 7 = 5 ∨ d % 7 = 6) := fun d h0 => by
    unfold wk
    have : (mayP [5, 6] [] ∧ restP [5, 6] [] d) ↔ (d % 7 = 5 ∨ d % 7 = 6) := by simp [hm, restP, tmod7 h0]
    rw [bP_eq (b := decide (d % 7 = 5 ∨ d % 7 = 6)) (by rw [this]; simp)]
  have go : ∀ d n e m, isB d = true → (bif !decide (d % 7 = 5 ∨ d % 7 = 6) then n - 1 else n) = m → 0 < m → d + 1 = e → alongD (wk [5, 6] []) d n = alongD (wk [5, 6] []) e m := fun d n e m h1 h2 h3 h4 => by
    have h0 := isB_iff.1 h1
    rw [along_go h1 (by rw [hw d h0.1, h2]; exact h3), hw d h0.1, h2, h4]
  unfold deadline
  rw [if_pos (by rfl), go (4 + 1) 5 6 5 (by rfl) (by rfl) (by omega) (by omega), go 6 5 7 5 (by rfl) (by rfl) (by omega) (by omega), go 7 5 8 4 (by rfl) (by rfl) (by omega) (by omega), go 8 4 9 3 (by rfl) (by rfl) (by omega) (by omega), go 9 3 10 2 (by rfl) (by rfl) (by omega) (by omega), go 10 2 11 1 (by rfl) (by rfl) (by omega) (by omega), along_end (by rfl) (by rw [hw _ (by omega)]; simp)]

def awake_pre  : Prop := True
noncomputable def awake_val  : V := .kn (.bool true)
noncomputable def Gawake : PSpec
  | [] => some (awake_pre , awake_val )
  | _ => none
theorem awake_res  (good : Cfg → Prop) (R : Option V → Prop) : arun Try.prog (conOf [(10, lift GnDeadline), (12, lift GnDays), (14, lift GnPre)]) (0, []) good (RetO (R)) 400 (entry Try.prog 9 []) =
    (((eInt.okl (1 : Nat) (0 : Nat) fun x => []) ∧ (eInt.okl (1 : Nat) (0 : Nat) fun x => []) ∧ nDeadline_pre (10 : Int) [] []) ∧ (eInt.okl (1 : Nat) (2 : Nat) (rowF [V.kn (Value.int IntKind.i64 (5 : Int)), V.kn (Value.int IntKind.i64 (6 : Int))] (1 : Nat)) ∧ (eInt.okl (1 : Nat) (0 : Nat) fun x => []) ∧ nDeadline_pre (4 : Int) [(5 : Int), (6 : Int)] []) ∧ bif (deadline [] [] (10 : Int)).getD (0 : Int) == (15 : Int) then bif (deadline [] [] (10 : Int)).isSome then bif (deadline [(5 : Int), (6 : Int)] [] (4 : Int)).getD (0 : Int) == (11 : Int) then bif (deadline [(5 : Int), (6 : Int)] [] (4 : Int)).isSome then ((eInt.okl (1 : Nat) (0 : Nat) fun x => []) ∧ (eInt.okl (1 : Nat) (0 : Nat) fun x => []) ∧ nDays_pre (10 : Int) (12 : Int) [] []) ∧ bif daysI [] [] (10 : Int) (12 : Int) == (3 : Int) then ((eInt.okl (1 : Nat) (0 : Nat) fun x => []) ∧ (eInt.okl (1 : Nat) (0 : Nat) fun x => []) ∧ nPre_pre (10 : Int) (16 : Int) false [] []) ∧ R (some (V.kn (Value.bool (preB (deadline [] [] (10 : Int)) false (16 : Int))))) else R (some (V.kn (Value.bool false))) else R (some (V.kn (Value.bool false))) else R (some (V.kn (Value.bool false))) else R (some (V.kn (Value.bool false))) else R (some (V.kn (Value.bool false)))) := by kernel_rfl
theorem awake_ok  (hp : awake_pre ) (good : Cfg → Prop) (hstep : ∀ c, arun Try.prog (conOf [(10, lift GnDeadline), (12, lift GnDays), (14, lift GnPre)]) (0, []) good (RetO (Tells (awake_val ))) 400 (c) → good c) (hext : ∀ c c', CfgExt c c' → good c' → good c) (hle : ∀ c c', CfgLe 0 c c' → good c' → good c) : arun Try.prog (conOf [(10, lift GnDeadline), (12, lift GnDays), (14, lift GnPre)]) (0, []) good (RetO (Tells (awake_val ))) 400 (entry Try.prog 9 []) := by
  rw [awake_res]
  have hd3 : daysI [] [] 10 12 = 3 := by
    have hw : ∀ d, wk [] [] d = true := fun d => by unfold wk; rw [bP_false (fun hh => by have := hh.2; simp [restP] at this)]; rfl
    unfold daysI
    rw [ex1]
    show ((cnt (wk [] []) (12 + 1) (15 + 1) : Nat) : Int) = 3
    simp [cnt, cntN, hw]
  have z : ∀ f, eInt.okl 1 0 f := fun f => eInt.okl_zero _ _
  rw [ex1, ex2, hd3]
  refine ⟨⟨z _, z _, ?_⟩, ⟨⟨.inr rfl, ?_, fun i hi => ?_⟩, z _, ?_⟩, ⟨z _, z _, ?_, ?_⟩, ⟨z _, z _, ?_⟩, tell rfl⟩
  · unfold nDeadline_pre inI64; omega
  · unfold maxLen; omega
  · match i, hi with
    | 0, _ => rfl
    | 1, _ => rfl
  · unfold nDeadline_pre inI64; omega
  · unfold inI64; omega
  · unfold inI64; omega
  · unfold nPre_pre inI64; omega
theorem awake_con : SpecOK Try.prog 9 (lift Gawake) := by
  refine con_of_run3 (con := conOf [(10, lift GnDeadline), (12, lift GnDays), (14, lift GnPre)]) (hs := (0, [])) 400 Try.func9 rfl (by kernel_rfl) rfl (conCons nDeadline_con (conCons nDays_con (conCons nPre_con conNil))) ?_
  intro args0 p r hG hp
  unfold Gawake at hG
  split at hG
  case h_2 => cases hG
  cases hG
  exact ⟨[], trivial, by simp [Try.ntmps9], fun good hstep hext hle => awake_ok  hp good hstep hext hle⟩

theorem days_end {r h : List Int} {p b t : Int} (hd : deadline r h p = some b) : daysI r h p t = (cnt (wk r h) (max t p + 1) (b + 1) : Nat) := by
  unfold daysI; rw [hd]

def NoticeDays_pre (p t : Int) (an : Bool) (r : List Int) (h : List Int) : Prop := inI64 p ∧ inI64 t
noncomputable def NoticeDays_val (p t : Int) (an : Bool) (r : List Int) (h : List Int) : V := .kn (.bool true)
noncomputable def GNoticeDays : PSpec
  | [.agg [.list s_r n_r f_r, .list s_h n_h f_h], .kn (.int .i64 p), .kn (.int .i64 t), .kn (.bool an)] => some (eInt.okl s_r n_r f_r ∧ eInt.okl s_h n_h f_h ∧ NoticeDays_pre p t an (eInt.dl n_r f_r) (eInt.dl n_h f_h), NoticeDays_val p t an (eInt.dl n_r f_r) (eInt.dl n_h f_h))
  | _ => none
theorem NoticeDays_res (p t : Int) (an : Bool) (r : List Int) (h : List Int) (good : Cfg → Prop) (R : Option V → Prop) : arun Try.prog (conOf [(9, lift Gawake), (11, lift Gfew), (10, lift GnDeadline), (15, lift GrDeadline), (16, lift GnExpiry), (17, lift GrExpiry), (12, lift GnDays), (18, lift GrDays), (14, lift GnPre), (13, lift GrWorks)]) (0, []) good (RetO (R)) 3000 (entry Try.prog 4 [.agg [.list eInt.s r.length (eInt.tl r), .list eInt.s h.length (eInt.tl h)], .kn (.int .i64 p), .kn (.int .i64 t), .kn (.bool an)]) =
    (awake_pre ∧ (eInt.okl (1 : Nat) r.length (eInt.tl r) ∧ eInt.okl (1 : Nat) h.length (eInt.tl h) ∧ few_pre (eInt.dl r.length (eInt.tl r)) (eInt.dl h.length (eInt.tl h))) ∧ bif !decide ((eInt.dl r.length (eInt.tl r)).length ≤ (20 : Nat) ∧ (eInt.dl h.length (eInt.tl h)).length ≤ (60 : Nat)) then R (some (V.kn (Value.bool true))) else (eInt.okl (1 : Nat) r.length (eInt.tl r) ∧ eInt.okl (1 : Nat) h.length (eInt.tl h) ∧ nDeadline_pre p (eInt.dl r.length (eInt.tl r)) (eInt.dl h.length (eInt.tl h))) ∧ (eInt.okl (1 : Nat) r.length (eInt.tl r) ∧ eInt.okl (1 : Nat) h.length (eInt.tl h) ∧ rDeadline_pre p (eInt.dl r.length (eInt.tl r)) (eInt.dl h.length (eInt.tl h))) ∧ (eInt.okl (1 : Nat) r.length (eInt.tl r) ∧ eInt.okl (1 : Nat) h.length (eInt.tl h) ∧ nExpiry_pre p (eInt.dl r.length (eInt.tl r)) (eInt.dl h.length (eInt.tl h))) ∧ (eInt.okl (1 : Nat) r.length (eInt.tl r) ∧ eInt.okl (1 : Nat) h.length (eInt.tl h) ∧ rExpiry_pre p (eInt.dl r.length (eInt.tl r)) (eInt.dl h.length (eInt.tl h))) ∧ bif (deadline (eInt.dl r.length (eInt.tl r)) (eInt.dl h.length (eInt.tl h)) p).getD (0 : Int) == (deadline (eInt.dl r.length (eInt.tl r)) (eInt.dl h.length (eInt.tl h)) p).getD (0 : Int) then bif (deadline (eInt.dl r.length (eInt.tl r)) (eInt.dl h.length (eInt.tl h)) p).isSome == (deadline (eInt.dl r.length (eInt.tl r)) (eInt.dl h.length (eInt.tl h)) p).isSome then bif (expiry (eInt.dl r.length (eInt.tl r)) (eInt.dl h.length (eInt.tl h)) p).getD (0 : Int) == (expiry (eInt.dl r.length (eInt.tl r)) (eInt.dl h.length (eInt.tl h)) p).getD (0 : Int) then bif (expiry (eInt.dl r.length (eInt.tl r)) (eInt.dl h.length (eInt.tl h)) p).isSome == (expiry (eInt.dl r.length (eInt.tl r)) (eInt.dl h.length (eInt.tl h)) p).isSome then (eInt.okl (1 : Nat) r.length (eInt.tl r) ∧ eInt.okl (1 : Nat) h.length (eInt.tl h) ∧ nDays_pre p t (eInt.dl r.length (eInt.tl r)) (eInt.dl h.length (eInt.tl h))) ∧ (eInt.okl (1 : Nat) r.length (eInt.tl r) ∧ eInt.okl (1 : Nat) h.length (eInt.tl h) ∧ rDays_pre p t (eInt.dl r.length (eInt.tl r)) (eInt.dl h.length (eInt.tl h))) ∧ bif daysI (eInt.dl r.length (eInt.tl r)) (eInt.dl h.length (eInt.tl h)) p t == daysI (eInt.dl r.length (eInt.tl r)) (eInt.dl h.length (eInt.tl h)) p t then (eInt.okl (1 : Nat) r.length (eInt.tl r) ∧ eInt.okl (1 : Nat) h.length (eInt.tl h) ∧ nPre_pre p t an (eInt.dl r.length (eInt.tl r)) (eInt.dl h.length (eInt.tl h))) ∧ bif (deadline (eInt.dl r.length (eInt.tl r)) (eInt.dl h.length (eInt.tl h)) p).isSome then bif !an then R (some (V.kn (Value.bool (preB (deadline (eInt.dl r.length (eInt.tl r)) (eInt.dl h.length (eInt.tl h)) p) an t == decide (t > (deadline (eInt.dl r.length (eInt.tl r)) (eInt.dl h.length (eInt.tl h)) p).getD (0 : Int)))))) else R (some (V.kn (Value.bool (preB (deadline (eInt.dl r.length (eInt.tl r)) (eInt.dl h.length (eInt.tl h)) p) an t == false)))) else R (some (V.kn (Value.bool (preB (deadline (eInt.dl r.length (eInt.tl r)) (eInt.dl h.length (eInt.tl h)) p) an t == false)))) else R (some (V.kn (Value.bool false))) else R (some (V.kn (Value.bool false))) else R (some (V.kn (Value.bool false))) else R (some (V.kn (Value.bool false))) else R (some (V.kn (Value.bool false)))) := by kernel_rfl
theorem NoticeDays_ok (p t : Int) (an : Bool) (r : List Int) (h : List Int) (len_r : r.length ≤ maxLen) (len_h : h.length ≤ maxLen) (hp : NoticeDays_pre p t an r h) (good : Cfg → Prop) (hstep : ∀ c, arun Try.prog (conOf [(9, lift Gawake), (11, lift Gfew), (10, lift GnDeadline), (15, lift GrDeadline), (16, lift GnExpiry), (17, lift GrExpiry), (12, lift GnDays), (18, lift GrDays), (14, lift GnPre), (13, lift GrWorks)]) (0, []) good (RetO (Tells (NoticeDays_val p t an r h))) 3000 (c) → good c) (hext : ∀ c c', CfgExt c c' → good c' → good c) (hle : ∀ c c', CfgLe 0 c c' → good c' → good c) : arun Try.prog (conOf [(9, lift Gawake), (11, lift Gfew), (10, lift GnDeadline), (15, lift GrDeadline), (16, lift GnExpiry), (17, lift GrExpiry), (12, lift GnDays), (18, lift GrDays), (14, lift GnPre), (13, lift GrWorks)]) (0, []) good (RetO (Tells (NoticeDays_val p t an r h))) 3000 (entry Try.prog 4 [.agg [.list eInt.s r.length (eInt.tl r), .list eInt.s h.length (eInt.tl h)], .kn (.int .i64 p), .kn (.int .i64 t), .kn (.bool an)]) := by
  rw [NoticeDays_res]
  have ok_r : eInt.okl 1 r.length (eInt.tl r) := eInt.okl_tl len_r
  have ok_h : eInt.okl 1 h.length (eInt.tl h) := eInt.okl_tl len_h
  try simp only [eInt.dl_tl]
  
  obtain ⟨p1, p2⟩ := hp
  simp only [beq_self_eq_true, cond_true]
  have k1 : eInt.okl 1 r.length (eInt.tl r) ∧ eInt.okl 1 h.length (eInt.tl h) ∧ True := ⟨ok_r, ok_h, trivial⟩
  have k2 : eInt.okl 1 r.length (eInt.tl r) ∧ eInt.okl 1 h.length (eInt.tl h) ∧ inI64 p := ⟨ok_r, ok_h, p1⟩
  have k3 : eInt.okl 1 r.length (eInt.tl r) ∧ eInt.okl 1 h.length (eInt.tl h) ∧ inI64 p ∧ inI64 t := ⟨ok_r, ok_h, p1, p2⟩
  refine ⟨trivial, k1, cond_intro (fun _ => tell rfl) (fun _ => ⟨k2, k2, k2, k2, k3, k3, k2, ?_⟩)⟩
  cases hd : deadline r h p with
  | none => exact tell rfl
  | some b =>
    cases an
    · exact tell_bool (by show (decide (b < t) == decide (t > b)) = true; simp)
    · exact tell rfl
theorem len_2 {u : List V} (h : u.length = 2) : ∃ y0 y1, u = [y0, y1] := by
  match u, h with
  | [y0, y1], _ => exact ⟨y0, y1, rfl⟩
theorem NoticeDays_walk (W : World) {u0 : List V} {v0 : Array Value} (o0 : u0.length = 2) (c0 : ∀ (i : Nat) (c : CS) (u : V), ([.sl [.int .i64], .sl [.int .i64]] : List CS)[i]? = some c → u0[i]? = some u → VOK c u) (e0 : RV (whole W) sig0 (.agg u0) (.agg v0)) {u1 : V} {v1 : Value} (o1 : VOK (.int .i64) u1) (e1 : RV (whole W) sig0 u1 v1) {u2 : V} {v2 : Value} (o2 : VOK (.int .i64) u2) (e2 : RV (whole W) sig0 u2 v2) {u3 : V} {v3 : Value} (o3 : VOK (.bool) u3) (e3 : RV (whole W) sig0 u3 v3) : Calls Try.prog 4 #[.agg v0, v1, v2, v3] W fun e w' => e = .returned (.bool true) ∧ Below W.heap.size W w' := by
  obtain ⟨u0_0, u0_1, rfl⟩ := len_2 o0
  have h0_0 := c0 0 _ u0_0 rfl rfl
  obtain ⟨x0_0, l0_0, e0_0, w0_0⟩ := eInt_vok h0_0
  have h0_1 := c0 1 _ u0_1 rfl rfl
  obtain ⟨x0_1, l0_1, e0_1, w0_1⟩ := eInt_vok h0_1
  obtain ⟨n1, rfl, w1⟩ := vok_int o1
  obtain ⟨n2, rfl, w2⟩ := vok_int o2
  obtain ⟨n3, rfl⟩ := vok_bool o3
  exact law_calls3 (con := conOf [(9, lift Gawake), (11, lift Gfew), (10, lift GnDeadline), (15, lift GrDeadline), (16, lift GnExpiry), (17, lift GrExpiry), (12, lift GnDays), (18, lift GrDays), (14, lift GnPre), (13, lift GrWorks)]) (hs := (0, [])) 3000 Try.func4 rfl (by kernel_rfl) rfl (conCons awake_con (conCons few_con (conCons nDeadline_con (conCons rDeadline_con (conCons nExpiry_con (conCons rExpiry_con (conCons nDays_con (conCons rDays_con (conCons nPre_con (conCons rWorks_con conNil)))))))))) (args := [_, _, _, _]) (args' := [.agg [.list eInt.s x0_0.length (eInt.tl x0_0), .list eInt.s x0_1.length (eInt.tl x0_1)], .kn (.int .i64 n1), .kn (.int .i64 n2), .kn (.bool n3)]) ⟨e0, e1, e2, e3, trivial⟩ ⟨VExt.agg ⟨e0_0, e0_1, trivial⟩, VExt.refl _, VExt.refl _, VExt.refl _, trivial⟩ (by simp [Try.ntmps4]) fun good hstep hext hle => NoticeDays_ok n1 n2 n3 x0_0 x0_1 l0_0 l0_1 (⟨wf_i64 w1, wf_i64 w2⟩) good hstep hext hle

def NoticeCounts_pre (p : Int) (r : List Int) (h : List Int) : Prop := inI64 p
noncomputable def NoticeCounts_val (p : Int) (r : List Int) (h : List Int) : V := .kn (.bool true)
noncomputable def GNoticeCounts : PSpec
  | [.agg [.list s_r n_r f_r, .list s_h n_h f_h], .kn (.int .i64 p)] => some (eInt.okl s_r n_r f_r ∧ eInt.okl s_h n_h f_h ∧ NoticeCounts_pre p (eInt.dl n_r f_r) (eInt.dl n_h f_h), NoticeCounts_val p (eInt.dl n_r f_r) (eInt.dl n_h f_h))
  | _ => none
theorem NoticeCounts_res (p : Int) (r : List Int) (h : List Int) (good : Cfg → Prop) (R : Option V → Prop) : arun Try.prog (conOf [(9, lift Gawake), (11, lift Gfew), (10, lift GnDeadline), (15, lift GrDeadline), (16, lift GnExpiry), (17, lift GrExpiry), (12, lift GnDays), (18, lift GrDays), (14, lift GnPre), (13, lift GrWorks)]) (0, [(3, 11, [1, 2, 5, 7], [(0, 2, [])])]) good (RetO (R)) 3000 (entry Try.prog 3 [.agg [.list eInt.s r.length (eInt.tl r), .list eInt.s h.length (eInt.tl h)], .kn (.int .i64 p)]) =
    (awake_pre ∧ (eInt.okl (1 : Nat) r.length (eInt.tl r) ∧ eInt.okl (1 : Nat) h.length (eInt.tl h) ∧ nDeadline_pre p (eInt.dl r.length (eInt.tl r)) (eInt.dl h.length (eInt.tl h))) ∧ (eInt.okl (1 : Nat) r.length (eInt.tl r) ∧ eInt.okl (1 : Nat) h.length (eInt.tl h) ∧ few_pre (eInt.dl r.length (eInt.tl r)) (eInt.dl h.length (eInt.tl h))) ∧ bif !decide ((eInt.dl r.length (eInt.tl r)).length ≤ (20 : Nat) ∧ (eInt.dl h.length (eInt.tl h)).length ≤ (60 : Nat)) then R (some (V.kn (Value.bool true))) else bif !(deadline (eInt.dl r.length (eInt.tl r)) (eInt.dl h.length (eInt.tl h)) p).isSome then R (some (V.kn (Value.bool true))) else bif decide (IntKind.i64.wrap ((deadline (eInt.dl r.length (eInt.tl r)) (eInt.dl h.length (eInt.tl h)) p).getD (0 : Int) - p) > (400 : Int)) then R (some (V.kn (Value.bool true))) else (eInt.okl (1 : Nat) r.length (eInt.tl r) ∧ eInt.okl (1 : Nat) h.length (eInt.tl h) ∧ nDays_pre p p (eInt.dl r.length (eInt.tl r)) (eInt.dl h.length (eInt.tl h))) ∧ bif daysI (eInt.dl r.length (eInt.tl r)) (eInt.dl h.length (eInt.tl h)) p p != (5 : Int) then R (some (V.kn (Value.bool false))) else (eInt.okl (1 : Nat) r.length (eInt.tl r) ∧ eInt.okl (1 : Nat) h.length (eInt.tl h) ∧ nDays_pre p ((deadline (eInt.dl r.length (eInt.tl r)) (eInt.dl h.length (eInt.tl h)) p).getD (0 : Int)) (eInt.dl r.length (eInt.tl r)) (eInt.dl h.length (eInt.tl h))) ∧ bif daysI (eInt.dl r.length (eInt.tl r)) (eInt.dl h.length (eInt.tl h)) p ((deadline (eInt.dl r.length (eInt.tl r)) (eInt.dl h.length (eInt.tl h)) p).getD (0 : Int)) != (0 : Int) then R (some (V.kn (Value.bool false))) else (eInt.okl (1 : Nat) r.length (eInt.tl r) ∧ eInt.okl (1 : Nat) h.length (eInt.tl h) ∧ rWorks_pre ((deadline (eInt.dl r.length (eInt.tl r)) (eInt.dl h.length (eInt.tl h)) p).getD (0 : Int)) (eInt.dl r.length (eInt.tl r)) (eInt.dl h.length (eInt.tl h))) ∧ bif !(isB ((deadline (eInt.dl r.length (eInt.tl r)) (eInt.dl h.length (eInt.tl h)) p).getD (0 : Int)) && wk (eInt.dl r.length (eInt.tl r)) (eInt.dl h.length (eInt.tl h)) ((deadline (eInt.dl r.length (eInt.tl r)) (eInt.dl h.length (eInt.tl h)) p).getD (0 : Int))) then R (some (V.kn (Value.bool false))) else good { fr := { fn := (3 : Nat), nt := (91 : Nat), t := [((1 : Nat), V.kn (Value.int IntKind.i64 p)), ((2 : Nat), V.ptr (0 : Nat) (0 : Nat)), ((5 : Nat), V.kn (Value.int IntKind.i64 ((deadline (eInt.dl r.length (eInt.tl r)) (eInt.dl h.length (eInt.tl h)) p).getD (0 : Int)))), ((7 : Nat), V.kn (Value.int IntKind.i64 (IntKind.i64.wrap (p + (1 : Int)))))], k := loopK Try.prog (3 : Nat) (11 : Nat) }, cs := [], h := [O.cells [V.list (1 : Nat) r.length (eInt.tl r), V.list (1 : Nat) h.length (eInt.tl h)]] }) := by kernel_rfl
@[reducible] noncomputable def NoticeCounts_c11 (p : Int) (r : List Int) (h : List Int) (b e : Int) : Cfg := ⟨⟨3, 91, [(1, .kn (.int .i64 p)), (2, .ptr 0 0), (5, .kn (.int .i64 b)), (7, .kn (.int .i64 e))], loopK Try.prog 3 11⟩, [], [.cells [.list eInt.s r.length (eInt.tl r), .list eInt.s h.length (eInt.tl h)]]⟩
theorem NoticeCounts_l11 (p : Int) (r : List Int) (h : List Int) (b e : Int) (good : Cfg → Prop) (R : Option V → Prop) : arun Try.prog (conOf [(9, lift Gawake), (11, lift Gfew), (10, lift GnDeadline), (15, lift GrDeadline), (16, lift GnExpiry), (17, lift GrExpiry), (12, lift GnDays), (18, lift GrDays), (14, lift GnPre), (13, lift GrWorks)]) (0, [(3, 11, [1, 2, 5, 7], [(0, 2, [])])]) good (RetO (R)) 3000 (NoticeCounts_c11 p r h b e) =
    (bif decide (e ≤ IntKind.i64.wrap (b + (1 : Int))) then (eInt.okl (1 : Nat) r.length (eInt.tl r) ∧ eInt.okl (1 : Nat) h.length (eInt.tl h) ∧ nDays_pre p (IntKind.i64.wrap (e - (1 : Int))) (eInt.dl r.length (eInt.tl r)) (eInt.dl h.length (eInt.tl h))) ∧ bif decide (e ≤ b) then (eInt.okl (1 : Nat) r.length (eInt.tl r) ∧ eInt.okl (1 : Nat) h.length (eInt.tl h) ∧ rWorks_pre e (eInt.dl r.length (eInt.tl r)) (eInt.dl h.length (eInt.tl h))) ∧ bif isB e && wk (eInt.dl r.length (eInt.tl r)) (eInt.dl h.length (eInt.tl h)) e then (eInt.okl (1 : Nat) r.length (eInt.tl r) ∧ eInt.okl (1 : Nat) h.length (eInt.tl h) ∧ nDays_pre p e (eInt.dl r.length (eInt.tl r)) (eInt.dl h.length (eInt.tl h))) ∧ bif daysI (eInt.dl r.length (eInt.tl r)) (eInt.dl h.length (eInt.tl h)) p e != IntKind.i64.wrap (daysI (eInt.dl r.length (eInt.tl r)) (eInt.dl h.length (eInt.tl h)) p (IntKind.i64.wrap (e - (1 : Int))) - (1 : Int)) then R (some (V.kn (Value.bool false))) else (eInt.okl (1 : Nat) r.length (eInt.tl r) ∧ eInt.okl (1 : Nat) h.length (eInt.tl h) ∧ nPre_pre p e false (eInt.dl r.length (eInt.tl r)) (eInt.dl h.length (eInt.tl h))) ∧ bif !preB (deadline (eInt.dl r.length (eInt.tl r)) (eInt.dl h.length (eInt.tl h)) p) false e == decide (e > b) then R (some (V.kn (Value.bool false))) else (eInt.okl (1 : Nat) r.length (eInt.tl r) ∧ eInt.okl (1 : Nat) h.length (eInt.tl h) ∧ nPre_pre p e true (eInt.dl r.length (eInt.tl r)) (eInt.dl h.length (eInt.tl h))) ∧ bif preB (deadline (eInt.dl r.length (eInt.tl r)) (eInt.dl h.length (eInt.tl h)) p) true e then R (some (V.kn (Value.bool false))) else good { fr := { fn := (3 : Nat), nt := (91 : Nat), t := [((1 : Nat), V.kn (Value.int IntKind.i64 p)), ((2 : Nat), V.ptr (0 : Nat) (0 : Nat)), ((5 : Nat), V.kn (Value.int IntKind.i64 b)), ((7 : Nat), V.kn (Value.int IntKind.i64 (IntKind.i64.wrap (e + (1 : Int)))))], k := loopK Try.prog (3 : Nat) (11 : Nat) }, cs := [], h := [O.cells [V.list (1 : Nat) r.length (eInt.tl r), V.list (1 : Nat) h.length (eInt.tl h)]] } else (eInt.okl (1 : Nat) r.length (eInt.tl r) ∧ eInt.okl (1 : Nat) h.length (eInt.tl h) ∧ nDays_pre p e (eInt.dl r.length (eInt.tl r)) (eInt.dl h.length (eInt.tl h))) ∧ bif daysI (eInt.dl r.length (eInt.tl r)) (eInt.dl h.length (eInt.tl h)) p e != daysI (eInt.dl r.length (eInt.tl r)) (eInt.dl h.length (eInt.tl h)) p (IntKind.i64.wrap (e - (1 : Int))) then R (some (V.kn (Value.bool false))) else (eInt.okl (1 : Nat) r.length (eInt.tl r) ∧ eInt.okl (1 : Nat) h.length (eInt.tl h) ∧ nPre_pre p e false (eInt.dl r.length (eInt.tl r)) (eInt.dl h.length (eInt.tl h))) ∧ bif !preB (deadline (eInt.dl r.length (eInt.tl r)) (eInt.dl h.length (eInt.tl h)) p) false e == decide (e > b) then R (some (V.kn (Value.bool false))) else (eInt.okl (1 : Nat) r.length (eInt.tl r) ∧ eInt.okl (1 : Nat) h.length (eInt.tl h) ∧ nPre_pre p e true (eInt.dl r.length (eInt.tl r)) (eInt.dl h.length (eInt.tl h))) ∧ bif preB (deadline (eInt.dl r.length (eInt.tl r)) (eInt.dl h.length (eInt.tl h)) p) true e then R (some (V.kn (Value.bool false))) else good { fr := { fn := (3 : Nat), nt := (91 : Nat), t := [((1 : Nat), V.kn (Value.int IntKind.i64 p)), ((2 : Nat), V.ptr (0 : Nat) (0 : Nat)), ((5 : Nat), V.kn (Value.int IntKind.i64 b)), ((7 : Nat), V.kn (Value.int IntKind.i64 (IntKind.i64.wrap (e + (1 : Int)))))], k := loopK Try.prog (3 : Nat) (11 : Nat) }, cs := [], h := [O.cells [V.list (1 : Nat) r.length (eInt.tl r), V.list (1 : Nat) h.length (eInt.tl h)]] } else (eInt.okl (1 : Nat) r.length (eInt.tl r) ∧ eInt.okl (1 : Nat) h.length (eInt.tl h) ∧ nDays_pre p e (eInt.dl r.length (eInt.tl r)) (eInt.dl h.length (eInt.tl h))) ∧ bif daysI (eInt.dl r.length (eInt.tl r)) (eInt.dl h.length (eInt.tl h)) p e != daysI (eInt.dl r.length (eInt.tl r)) (eInt.dl h.length (eInt.tl h)) p (IntKind.i64.wrap (e - (1 : Int))) then R (some (V.kn (Value.bool false))) else (eInt.okl (1 : Nat) r.length (eInt.tl r) ∧ eInt.okl (1 : Nat) h.length (eInt.tl h) ∧ nPre_pre p e false (eInt.dl r.length (eInt.tl r)) (eInt.dl h.length (eInt.tl h))) ∧ bif !preB (deadline (eInt.dl r.length (eInt.tl r)) (eInt.dl h.length (eInt.tl h)) p) false e == decide (e > b) then R (some (V.kn (Value.bool false))) else (eInt.okl (1 : Nat) r.length (eInt.tl r) ∧ eInt.okl (1 : Nat) h.length (eInt.tl h) ∧ nPre_pre p e true (eInt.dl r.length (eInt.tl r)) (eInt.dl h.length (eInt.tl h))) ∧ bif preB (deadline (eInt.dl r.length (eInt.tl r)) (eInt.dl h.length (eInt.tl h)) p) true e then R (some (V.kn (Value.bool false))) else good { fr := { fn := (3 : Nat), nt := (91 : Nat), t := [((1 : Nat), V.kn (Value.int IntKind.i64 p)), ((2 : Nat), V.ptr (0 : Nat) (0 : Nat)), ((5 : Nat), V.kn (Value.int IntKind.i64 b)), ((7 : Nat), V.kn (Value.int IntKind.i64 (IntKind.i64.wrap (e + (1 : Int)))))], k := loopK Try.prog (3 : Nat) (11 : Nat) }, cs := [], h := [O.cells [V.list (1 : Nat) r.length (eInt.tl r), V.list (1 : Nat) h.length (eInt.tl h)]] } else R (some (V.kn (Value.bool true)))) := by kernel_rfl
theorem NoticeCounts_ok (p : Int) (r : List Int) (h : List Int) (len_r : r.length ≤ maxLen) (len_h : h.length ≤ maxLen) (hp : NoticeCounts_pre p r h) (good : Cfg → Prop) (hstep : ∀ c, arun Try.prog (conOf [(9, lift Gawake), (11, lift Gfew), (10, lift GnDeadline), (15, lift GrDeadline), (16, lift GnExpiry), (17, lift GrExpiry), (12, lift GnDays), (18, lift GrDays), (14, lift GnPre), (13, lift GrWorks)]) (0, [(3, 11, [1, 2, 5, 7], [(0, 2, [])])]) good (RetO (Tells (NoticeCounts_val p r h))) 3000 (c) → good c) (hext : ∀ c c', CfgExt c c' → good c' → good c) (hle : ∀ c c', CfgLe 0 c c' → good c' → good c) : arun Try.prog (conOf [(9, lift Gawake), (11, lift Gfew), (10, lift GnDeadline), (15, lift GrDeadline), (16, lift GnExpiry), (17, lift GrExpiry), (12, lift GnDays), (18, lift GrDays), (14, lift GnPre), (13, lift GrWorks)]) (0, [(3, 11, [1, 2, 5, 7], [(0, 2, [])])]) good (RetO (Tells (NoticeCounts_val p r h))) 3000 (entry Try.prog 3 [.agg [.list eInt.s r.length (eInt.tl r), .list eInt.s h.length (eInt.tl h)], .kn (.int .i64 p)]) := by
  rw [NoticeCounts_res]
  have ok_r : eInt.okl 1 r.length (eInt.tl r) := eInt.okl_tl len_r
  have ok_h : eInt.okl 1 h.length (eInt.tl h) := eInt.okl_tl len_h
  try simp only [eInt.dl_tl]
  
  have p1 : inI64 p := hp
  have k1 : eInt.okl 1 r.length (eInt.tl r) ∧ eInt.okl 1 h.length (eInt.tl h) ∧ True := ⟨ok_r, ok_h, trivial⟩
  have k2 : eInt.okl 1 r.length (eInt.tl r) ∧ eInt.okl 1 h.length (eInt.tl h) ∧ inI64 p := ⟨ok_r, ok_h, p1⟩
  have k3 : ∀ {t}, inI64 t → eInt.okl 1 r.length (eInt.tl r) ∧ eInt.okl 1 h.length (eInt.tl h) ∧ inI64 p ∧ inI64 t := fun h => ⟨ok_r, ok_h, p1, h⟩
  refine ⟨trivial, k2, k1, cond_intro (fun _ => tell rfl) (fun _ => ?_)⟩
  cases hd : deadline r h p with
  | none => exact tell rfl
  | some b =>
    have ⟨f1, f2, f3, f4, f5⟩ := deadline_facts hd
    have f1' := isB_iff.1 f1
    have f3' := isB_iff.1 f3
    have q5 : daysI r h p p = 5 := by rw [days_end hd, show max p p + 1 = p + 1 by omega, f5]; rfl
    have q0 : daysI r h p b = 0 := by rw [days_end hd, cnt_none (by omega)]; rfl
    simp only [Option.isSome_some, Option.getD_some, Bool.not_true, cond_false, q5, q0, f3, f4, Bool.and_self, bne_self_eq_false]
    rw [wrap_in (n := p + 1) (by omega) (by omega)]
    refine cond_intro (fun _ => tell rfl) (fun h400 => ⟨k3 p1, k3 (by unfold inI64; omega), k1, ?_⟩)
    refine loop_ind (S := Int) (fun s => NoticeCounts_c11 p r h b s) (fun s => p < s ∧ s ≤ b + 2) (fun s => (b + 2 - s).toNat) (fun e hv ih => ?_) (p + 1) ⟨by omega, by omega⟩
    apply hstep
    rw [NoticeCounts_l11]
    simp only [eInt.dl_tl, hd]
    rw [wrap_in (n := b + 1) (by omega) (by omega), wrap_in (n := e - 1) (by omega) (by omega), wrap_in (n := e + 1) (by omega) (by omega)]
    refine cond_intro (fun h1 => ?_) (fun h1 => tell rfl)
    simp only [decide_eq_true_eq] at h1
    have n1 : inI64 (e - 1) := by unfold inI64; omega
    have n2 : inI64 e := by unfold inI64; omega
    have e1 : daysI r h p (e - 1) = (cnt (wk r h) e (b + 1) : Nat) := by rw [days_end hd, show max (e - 1) p + 1 = e by omega]
    have e2 : daysI r h p e = (cnt (wk r h) (e + 1) (b + 1) : Nat) := by rw [days_end hd, show max e p + 1 = e + 1 by omega]
    have hc := cntN_le (wk r h) e (b + 1 - e).toNat
    have e5 : cnt (wk r h) e (b + 1) = cntN (wk r h) e (b + 1 - e).toNat := rfl
    have e3 : e ≤ b → cnt (wk r h) e (b + 1) = (bif wk r h e then 1 else 0) + cnt (wk r h) (e + 1) (b + 1) := fun hle => by
      rw [cnt_add (w := wk r h) (m := e + 1) (by omega) (by omega), cnt_succ (Int.le_refl e), cnt_none (Int.le_refl e)]; omega
    refine ⟨k3 n1, cond_intro (fun h2 => ⟨k1, ?_⟩) (fun h2 => ⟨k3 n2, ?_⟩)⟩
    · simp only [decide_eq_true_eq] at h2
      have he : isB e = true := isB_iff.2 (by omega)
      have e4 := e3 h2
      rw [he, Bool.true_and]
      cases hw : wk r h e with
      | true =>
        rw [hw] at e4; simp only [cond_true] at e4 ⊢
        rw [wrap_in (n := daysI r h p (e - 1) - 1) (by omega) (by omega)]
        exact ⟨k3 n2, cond_false' (by rw [e1, e2, e4]; simp; omega) ⟨k2, cond_false' (by simp [preB]) ⟨k2, cond_false' (by simp [preB]) (ih (e + 1) (by omega) (by omega))⟩⟩⟩
      | false =>
        rw [hw] at e4; simp only [cond_false] at e4 ⊢
        exact ⟨k3 n2, cond_false' (by rw [e1, e2, e4]; simp) ⟨k2, cond_false' (by simp [preB]) ⟨k2, cond_false' (by simp [preB]) (ih (e + 1) (by omega) (by omega))⟩⟩⟩
    · simp only [decide_eq_false_iff_not] at h2
      exact cond_false' (by rw [e1, e2, cnt_none (a := e) (by omega), cnt_none (a := e + 1) (by omega)]; simp) ⟨k2, cond_false' (by simp [preB]) ⟨k2, cond_false' (by simp [preB]) (ih (e + 1) (by omega) (by omega))⟩⟩
theorem NoticeCounts_walk (W : World) {u0 : List V} {v0 : Array Value} (o0 : u0.length = 2) (c0 : ∀ (i : Nat) (c : CS) (u : V), ([.sl [.int .i64], .sl [.int .i64]] : List CS)[i]? = some c → u0[i]? = some u → VOK c u) (e0 : RV (whole W) sig0 (.agg u0) (.agg v0)) {u1 : V} {v1 : Value} (o1 : VOK (.int .i64) u1) (e1 : RV (whole W) sig0 u1 v1) : Calls Try.prog 3 #[.agg v0, v1] W fun e w' => e = .returned (.bool true) ∧ Below W.heap.size W w' := by
  obtain ⟨u0_0, u0_1, rfl⟩ := len_2 o0
  have h0_0 := c0 0 _ u0_0 rfl rfl
  obtain ⟨x0_0, l0_0, e0_0, w0_0⟩ := eInt_vok h0_0
  have h0_1 := c0 1 _ u0_1 rfl rfl
  obtain ⟨x0_1, l0_1, e0_1, w0_1⟩ := eInt_vok h0_1
  obtain ⟨n1, rfl, w1⟩ := vok_int o1
  exact law_calls3 (con := conOf [(9, lift Gawake), (11, lift Gfew), (10, lift GnDeadline), (15, lift GrDeadline), (16, lift GnExpiry), (17, lift GrExpiry), (12, lift GnDays), (18, lift GrDays), (14, lift GnPre), (13, lift GrWorks)]) (hs := (0, [(3, 11, [1, 2, 5, 7], [(0, 2, [])])])) 3000 Try.func3 rfl (by kernel_rfl) rfl (conCons awake_con (conCons few_con (conCons nDeadline_con (conCons rDeadline_con (conCons nExpiry_con (conCons rExpiry_con (conCons nDays_con (conCons rDays_con (conCons nPre_con (conCons rWorks_con conNil)))))))))) (args := [_, _]) (args' := [.agg [.list eInt.s x0_0.length (eInt.tl x0_0), .list eInt.s x0_1.length (eInt.tl x0_1)], .kn (.int .i64 n1)]) ⟨e0, e1, trivial⟩ ⟨VExt.agg ⟨e0_0, e0_1, trivial⟩, VExt.refl _, trivial⟩ (by simp [Try.ntmps3]) fun good hstep hext hle => NoticeCounts_ok n1 x0_0 x0_1 l0_0 l0_1 (wf_i64 w1) good hstep hext hle

def lastI (o q : Option Int) : Int := match q with
  | none => o.getD 0
  | some b => min (o.getD 0) b
noncomputable def lateI (r h : List Int) (latest expir within s p : Int) : Int := bif !(isB s && isB p && isB latest && isB expir && isB within) then 1 else bif !(expiry r h expir).isSome then 4 else bif decide (p < s) then 6 else bif decide (s > latest) || decide (p > lastI (expiry r h expir) (expiry r h (s + within))) then 11 else 0

def nLate_pre (x0 x1 x2 x3 x4 x5 x6 x7 x8 x9 x10 x14 x15 x16 x17 : V) (latest expir within : Int) (s p : Int) (r : List Int) (h : List Int) : Prop := inI64 expir
noncomputable def nLate_val (x0 x1 x2 x3 x4 x5 x6 x7 x8 x9 x10 x14 x15 x16 x17 : V) (latest expir within : Int) (s p : Int) (r : List Int) (h : List Int) : V := .kn (.int .i64 (lateI r h latest expir within s p))
noncomputable def GnLate : PSpec
  | [.agg [.list s_r n_r f_r, .list s_h n_h f_h], .agg [x0, x1, x2, x3, x4, x5, x6, x7, x8, x9, x10, .kn (.int .i64 latest), .kn (.int .i64 expir), .kn (.int .i64 within), x14, x15, x16, x17], .kn (.int .i64 s), .kn (.int .i64 p)] => some (eInt.okl s_r n_r f_r ∧ eInt.okl s_h n_h f_h ∧ nLate_pre x0 x1 x2 x3 x4 x5 x6 x7 x8 x9 x10 x14 x15 x16 x17 latest expir within s p (eInt.dl n_r f_r) (eInt.dl n_h f_h), nLate_val x0 x1 x2 x3 x4 x5 x6 x7 x8 x9 x10 x14 x15 x16 x17 latest expir within s p (eInt.dl n_r f_r) (eInt.dl n_h f_h))
  | _ => none
theorem nLate_res (x0 x1 x2 x3 x4 x5 x6 x7 x8 x9 x10 x14 x15 x16 x17 : V) (latest expir within : Int) (s p : Int) (r : List Int) (h : List Int) (good : Cfg → Prop) (R : Option V → Prop) : arun Try.prog (conOf [(38, lift Gnright), (16, lift GnExpiry)]) (0, []) good (RetO (R)) 1500 (entry Try.prog 21 [.agg [.list eInt.s r.length (eInt.tl r), .list eInt.s h.length (eInt.tl h)], .agg [x0, x1, x2, x3, x4, x5, x6, x7, x8, x9, x10, .kn (.int .i64 latest), .kn (.int .i64 expir), .kn (.int .i64 within), x14, x15, x16, x17], .kn (.int .i64 s), .kn (.int .i64 p)]) =
    (((0 : Int) ≤ (0 : Int) ∧ (0 : Int) < (5 : Int)) ∧ (0 : Nat) < (5 : Nat) ∧ nright_pre s ∧ bif !isB s then R (some (V.kn (Value.int IntKind.i64 (1 : Int)))) else ((0 : Int) ≤ (1 : Int) ∧ (1 : Int) < (5 : Int)) ∧ (1 : Nat) < (5 : Nat) ∧ nright_pre p ∧ bif !isB p then R (some (V.kn (Value.int IntKind.i64 (1 : Int)))) else ((0 : Int) ≤ (2 : Int) ∧ (2 : Int) < (5 : Int)) ∧ (2 : Nat) < (5 : Nat) ∧ nright_pre latest ∧ bif !isB latest then R (some (V.kn (Value.int IntKind.i64 (1 : Int)))) else ((0 : Int) ≤ (3 : Int) ∧ (3 : Int) < (5 : Int)) ∧ (3 : Nat) < (5 : Nat) ∧ nright_pre expir ∧ bif !isB expir then R (some (V.kn (Value.int IntKind.i64 (1 : Int)))) else ((0 : Int) ≤ (4 : Int) ∧ (4 : Int) < (5 : Int)) ∧ (4 : Nat) < (5 : Nat) ∧ nright_pre within ∧ bif !isB within then R (some (V.kn (Value.int IntKind.i64 (1 : Int)))) else (eInt.okl (1 : Nat) r.length (eInt.tl r) ∧ eInt.okl (1 : Nat) h.length (eInt.tl h) ∧ nExpiry_pre expir (eInt.dl r.length (eInt.tl r)) (eInt.dl h.length (eInt.tl h))) ∧ bif !(expiry (eInt.dl r.length (eInt.tl r)) (eInt.dl h.length (eInt.tl h)) expir).isSome then R (some (V.kn (Value.int IntKind.i64 (4 : Int)))) else (eInt.okl (1 : Nat) r.length (eInt.tl r) ∧ eInt.okl (1 : Nat) h.length (eInt.tl h) ∧ nExpiry_pre (IntKind.i64.wrap (s + within)) (eInt.dl r.length (eInt.tl r)) (eInt.dl h.length (eInt.tl h))) ∧ bif (expiry (eInt.dl r.length (eInt.tl r)) (eInt.dl h.length (eInt.tl h)) (IntKind.i64.wrap (s + within))).isSome then bif decide (p < s) then R (some (V.kn (Value.int IntKind.i64 (6 : Int)))) else bif decide (s > latest) then R (some (V.kn (Value.int IntKind.i64 (11 : Int)))) else bif decide (p > if (expiry (eInt.dl r.length (eInt.tl r)) (eInt.dl h.length (eInt.tl h)) (IntKind.i64.wrap (s + within))).getD (0 : Int) < (expiry (eInt.dl r.length (eInt.tl r)) (eInt.dl h.length (eInt.tl h)) expir).getD (0 : Int) then (expiry (eInt.dl r.length (eInt.tl r)) (eInt.dl h.length (eInt.tl h)) (IntKind.i64.wrap (s + within))).getD (0 : Int) else (expiry (eInt.dl r.length (eInt.tl r)) (eInt.dl h.length (eInt.tl h)) expir).getD (0 : Int)) then R (some (V.kn (Value.int IntKind.i64 (11 : Int)))) else R (some (V.kn (Value.int IntKind.i64 (0 : Int)))) else bif decide (p < s) then R (some (V.kn (Value.int IntKind.i64 (6 : Int)))) else bif decide (s > latest) then R (some (V.kn (Value.int IntKind.i64 (11 : Int)))) else bif decide (p > (expiry (eInt.dl r.length (eInt.tl r)) (eInt.dl h.length (eInt.tl h)) expir).getD (0 : Int)) then R (some (V.kn (Value.int IntKind.i64 (11 : Int)))) else R (some (V.kn (Value.int IntKind.i64 (0 : Int))))) := by kernel_rfl
theorem nLate_ok (x0 x1 x2 x3 x4 x5 x6 x7 x8 x9 x10 x14 x15 x16 x17 : V) (latest expir within : Int) (s p : Int) (r : List Int) (h : List Int) (len_r : r.length ≤ maxLen) (len_h : h.length ≤ maxLen) (hp : nLate_pre x0 x1 x2 x3 x4 x5 x6 x7 x8 x9 x10 x14 x15 x16 x17 latest expir within s p r h) (good : Cfg → Prop) (hstep : ∀ c, arun Try.prog (conOf [(38, lift Gnright), (16, lift GnExpiry)]) (0, []) good (RetO (Tells (nLate_val x0 x1 x2 x3 x4 x5 x6 x7 x8 x9 x10 x14 x15 x16 x17 latest expir within s p r h))) 1500 (c) → good c) (hext : ∀ c c', CfgExt c c' → good c' → good c) (hle : ∀ c c', CfgLe 0 c c' → good c' → good c) : arun Try.prog (conOf [(38, lift Gnright), (16, lift GnExpiry)]) (0, []) good (RetO (Tells (nLate_val x0 x1 x2 x3 x4 x5 x6 x7 x8 x9 x10 x14 x15 x16 x17 latest expir within s p r h))) 1500 (entry Try.prog 21 [.agg [.list eInt.s r.length (eInt.tl r), .list eInt.s h.length (eInt.tl h)], .agg [x0, x1, x2, x3, x4, x5, x6, x7, x8, x9, x10, .kn (.int .i64 latest), .kn (.int .i64 expir), .kn (.int .i64 within), x14, x15, x16, x17], .kn (.int .i64 s), .kn (.int .i64 p)]) := by
  rw [nLate_res]
  have ok_r : eInt.okl 1 r.length (eInt.tl r) := eInt.okl_tl len_r
  have ok_h : eInt.okl 1 h.length (eInt.tl h) := eInt.okl_tl len_h
  try simp only [eInt.dl_tl]
  
  have k2 : ∀ {t}, inI64 t → eInt.okl 1 r.length (eInt.tl r) ∧ eInt.okl 1 h.length (eInt.tl h) ∧ inI64 t := fun h => ⟨ok_r, ok_h, h⟩
  have lit : ∀ k : Nat, k < 5 → (0 : Int) ≤ k ∧ (k : Int) < 5 := fun k hk => by omega
  rw [nLate_val]
  refine ⟨lit 0 (by omega), by omega, trivial, cond_intro (fun h1 => tell (by simp only [lateI]; simp_all)) (fun h1 => ⟨lit 1 (by omega), by omega, trivial, cond_intro (fun h2 => tell (by simp only [lateI]; simp_all)) (fun h2 => ⟨lit 2 (by omega), by omega, trivial, cond_intro (fun h3 => tell (by simp only [lateI]; simp_all)) (fun h3 => ⟨lit 3 (by omega), by omega, trivial, cond_intro (fun h4 => tell (by simp only [lateI]; simp_all)) (fun h4 => ⟨lit 4 (by omega), by omega, trivial, cond_intro (fun h5 => tell (by simp only [lateI]; simp_all)) (fun h5 => ⟨k2 hp, cond_intro (fun h6 => tell (by simp only [lateI]; simp_all)) (fun h6 => ?_)⟩)⟩)⟩)⟩)⟩)⟩
  simp only [Bool.not_eq_false'] at h1 h2 h3 h4 h5 h6
  have b1 := isB_iff.1 h1
  have b5 := isB_iff.1 h5
  rw [wrap_in (n := s + within) (by omega) (by omega)]
  refine ⟨k2 (by unfold inI64; omega), ?_⟩
  simp only [lateI, h1, h2, h3, h4, h5, h6, Bool.and_self, Bool.not_true, cond_false]
  cases hq : expiry r h (s + within) with
  | none =>
    rw [show lastI (expiry r h expir) none = (expiry r h expir).getD 0 from rfl]
    simp only [Option.isSome_none, cond_false]
    refine cond_intro (fun h7 => tell (by rw [h7]; rfl)) (fun h7 => cond_intro (fun h8 => tell (by rw [h7, h8]; rfl)) (fun h8 => cond_intro (fun h9 => ?_) (fun h9 => ?_)))
    all_goals simp only [decide_eq_true_eq, decide_eq_false_iff_not] at h9
    · exact tell (by rw [h7, h8, decide_eq_true (show p > (expiry r h expir).getD 0 from h9)]; rfl)
    · exact tell (by rw [h7, h8, decide_eq_false (show ¬ p > (expiry r h expir).getD 0 from h9)]; rfl)
  | some b =>
    rw [show lastI (expiry r h expir) (some b) = min ((expiry r h expir).getD 0) b from rfl]
    simp only [Option.isSome_some, Option.getD_some, cond_true]
    have e : (if b < (expiry r h expir).getD 0 then b else (expiry r h expir).getD 0) = min ((expiry r h expir).getD 0) b := by omega
    rw [e]
    refine cond_intro (fun h7 => tell (by rw [h7]; rfl)) (fun h7 => cond_intro (fun h8 => tell (by rw [h7, h8]; rfl)) (fun h8 => cond_intro (fun h9 => tell (by rw [h7, h8, h9]; rfl)) (fun h9 => tell (by rw [h7, h8, h9]; rfl))))
set_option maxHeartbeats 2000000 in
theorem nLate_con : SpecOK Try.prog 21 (lift GnLate) := by
  refine con_of_run3 (con := conOf [(38, lift Gnright), (16, lift GnExpiry)]) (hs := (0, [])) 1500 Try.func21 rfl (by kernel_rfl) rfl (conCons nright_con (conCons nExpiry_con conNil)) ?_
  intro args0 p r hG hp
  unfold GnLate at hG
  split at hG
  case h_2 => cases hG
  rename_i s_r n_r f_r s_h n_h f_h x0 x1 x2 x3 x4 x5 x6 x7 x8 x9 x10 latest expir within x14 x15 x16 x17 s p
  cases hG
  obtain ⟨ok_r, hp⟩ := hp
  obtain ⟨ok_h, hp⟩ := hp
  exact ⟨[.agg [.list eInt.s (eInt.dl n_r f_r).length (eInt.tl (eInt.dl n_r f_r)), .list eInt.s (eInt.dl n_h f_h).length (eInt.tl (eInt.dl n_h f_h))], .agg [x0, x1, x2, x3, x4, x5, x6, x7, x8, x9, x10, .kn (.int .i64 latest), .kn (.int .i64 expir), .kn (.int .i64 within), x14, x15, x16, x17], .kn (.int .i64 s), .kn (.int .i64 p)], ⟨VExt.agg ⟨eInt.extl ok_r, eInt.extl ok_h, trivial⟩, VExt.refl _, VExt.refl _, VExt.refl _, trivial⟩, by simp [Try.ntmps21], fun good hstep hext hle => nLate_ok _ _ _ _ _ _ _ _ _ _ _ _ _ _ _ _ _ _ _ _ _ _ (by rw [eInt.dl_length]; exact ok_r.2.1) (by rw [eInt.dl_length]; exact ok_h.2.1) hp good hstep hext hle⟩

theorem late_eq {r h : List Int} {latest y w s p e : Int} (h1 : isB s = true) (h2 : isB p = true) (h3 : isB latest = true) (h5 : isB w = true) (he : expiry r h y = some e) :
    lateI r h latest y w s p = bif decide (p < s) then 6 else bif decide (s > latest) || decide (p > lastI (some e) (expiry r h (s + w))) then 11 else 0 := by
  have h4 := (expiry_facts he).1
  simp only [lateI, h1, h2, h3, h4, h5, he, Bool.and_self, Bool.not_true, cond_false, Option.isSome_some]

def NoticeLast_pre (y s w : Int) (r : List Int) (h : List Int) : Prop := inI64 y ∧ inI64 s ∧ inI64 w
noncomputable def NoticeLast_val (y s w : Int) (r : List Int) (h : List Int) : V := .kn (.bool true)
noncomputable def GNoticeLast : PSpec
  | [.agg [.list s_r n_r f_r, .list s_h n_h f_h], .kn (.int .i64 y), .kn (.int .i64 s), .kn (.int .i64 w)] => some (eInt.okl s_r n_r f_r ∧ eInt.okl s_h n_h f_h ∧ NoticeLast_pre y s w (eInt.dl n_r f_r) (eInt.dl n_h f_h), NoticeLast_val y s w (eInt.dl n_r f_r) (eInt.dl n_h f_h))
  | _ => none
theorem NoticeLast_res (y s w : Int) (r : List Int) (h : List Int) (good : Cfg → Prop) (R : Option V → Prop) : arun Try.prog (conOf [(9, lift Gawake), (11, lift Gfew), (16, lift GnExpiry), (21, lift GnLate)]) (0, []) good (RetO (R)) 3000 (entry Try.prog 7 [.agg [.list eInt.s r.length (eInt.tl r), .list eInt.s h.length (eInt.tl h)], .kn (.int .i64 y), .kn (.int .i64 s), .kn (.int .i64 w)]) =
    (awake_pre ∧ (eInt.okl (1 : Nat) r.length (eInt.tl r) ∧ eInt.okl (1 : Nat) h.length (eInt.tl h) ∧ nExpiry_pre y (eInt.dl r.length (eInt.tl r)) (eInt.dl h.length (eInt.tl h))) ∧ (eInt.okl (1 : Nat) r.length (eInt.tl r) ∧ eInt.okl (1 : Nat) h.length (eInt.tl h) ∧ few_pre (eInt.dl r.length (eInt.tl r)) (eInt.dl h.length (eInt.tl h))) ∧ bif !decide ((eInt.dl r.length (eInt.tl r)).length ≤ (20 : Nat) ∧ (eInt.dl h.length (eInt.tl h)).length ≤ (60 : Nat)) then R (some (V.kn (Value.bool true))) else bif !(expiry (eInt.dl r.length (eInt.tl r)) (eInt.dl h.length (eInt.tl h)) y).isSome then R (some (V.kn (Value.bool true))) else bif decide (s < (0 : Int)) then R (some (V.kn (Value.bool true))) else bif decide (s > (expiry (eInt.dl r.length (eInt.tl r)) (eInt.dl h.length (eInt.tl h)) y).getD (0 : Int)) then R (some (V.kn (Value.bool true))) else bif decide (w < (0 : Int)) then R (some (V.kn (Value.bool true))) else bif decide (w > (1048576 : Int)) then R (some (V.kn (Value.bool true))) else (eInt.okl (1 : Nat) r.length (eInt.tl r) ∧ eInt.okl (1 : Nat) h.length (eInt.tl h) ∧ nExpiry_pre (IntKind.i64.wrap (s + w)) (eInt.dl r.length (eInt.tl r)) (eInt.dl h.length (eInt.tl h))) ∧ bif (expiry (eInt.dl r.length (eInt.tl r)) (eInt.dl h.length (eInt.tl h)) (IntKind.i64.wrap (s + w))).isSome then bif decide ((if (expiry (eInt.dl r.length (eInt.tl r)) (eInt.dl h.length (eInt.tl h)) (IntKind.i64.wrap (s + w))).getD (0 : Int) < (expiry (eInt.dl r.length (eInt.tl r)) (eInt.dl h.length (eInt.tl h)) y).getD (0 : Int) then (expiry (eInt.dl r.length (eInt.tl r)) (eInt.dl h.length (eInt.tl h)) (IntKind.i64.wrap (s + w))).getD (0 : Int) else (expiry (eInt.dl r.length (eInt.tl r)) (eInt.dl h.length (eInt.tl h)) y).getD (0 : Int)) < s) then R (some (V.kn (Value.bool false))) else (eInt.okl (1 : Nat) r.length (eInt.tl r) ∧ eInt.okl (1 : Nat) h.length (eInt.tl h) ∧ nLate_pre (V.kn (Value.string { data := #[] })) (V.kn (Value.string { data := #[] })) (V.kn (Value.string { data := #[] })) (V.kn (Value.string { data := #[] })) (V.kn (Value.string { data := #[] })) (V.kn (Value.string { data := #[] })) (V.kn (Value.string { data := #[] })) (V.kn (Value.string { data := #[] })) (V.kn (Value.int IntKind.i64 (0 : Int))) (V.kn (Value.int IntKind.i64 (0 : Int))) (V.kn (Value.int IntKind.i64 (0 : Int))) (V.kn (Value.int IntKind.i64 (0 : Int))) (V.kn (Value.bool false)) (V.kn (Value.bool false)) (V.list (1 : Nat) (0 : Nat) fun i => []) s y w s (if (expiry (eInt.dl r.length (eInt.tl r)) (eInt.dl h.length (eInt.tl h)) (IntKind.i64.wrap (s + w))).getD (0 : Int) < (expiry (eInt.dl r.length (eInt.tl r)) (eInt.dl h.length (eInt.tl h)) y).getD (0 : Int) then (expiry (eInt.dl r.length (eInt.tl r)) (eInt.dl h.length (eInt.tl h)) (IntKind.i64.wrap (s + w))).getD (0 : Int) else (expiry (eInt.dl r.length (eInt.tl r)) (eInt.dl h.length (eInt.tl h)) y).getD (0 : Int)) (eInt.dl r.length (eInt.tl r)) (eInt.dl h.length (eInt.tl h))) ∧ bif lateI (eInt.dl r.length (eInt.tl r)) (eInt.dl h.length (eInt.tl h)) s y w s (if (expiry (eInt.dl r.length (eInt.tl r)) (eInt.dl h.length (eInt.tl h)) (IntKind.i64.wrap (s + w))).getD (0 : Int) < (expiry (eInt.dl r.length (eInt.tl r)) (eInt.dl h.length (eInt.tl h)) y).getD (0 : Int) then (expiry (eInt.dl r.length (eInt.tl r)) (eInt.dl h.length (eInt.tl h)) (IntKind.i64.wrap (s + w))).getD (0 : Int) else (expiry (eInt.dl r.length (eInt.tl r)) (eInt.dl h.length (eInt.tl h)) y).getD (0 : Int)) != (0 : Int) then R (some (V.kn (Value.bool false))) else bif decide ((if (expiry (eInt.dl r.length (eInt.tl r)) (eInt.dl h.length (eInt.tl h)) (IntKind.i64.wrap (s + w))).getD (0 : Int) < (expiry (eInt.dl r.length (eInt.tl r)) (eInt.dl h.length (eInt.tl h)) y).getD (0 : Int) then (expiry (eInt.dl r.length (eInt.tl r)) (eInt.dl h.length (eInt.tl h)) (IntKind.i64.wrap (s + w))).getD (0 : Int) else (expiry (eInt.dl r.length (eInt.tl r)) (eInt.dl h.length (eInt.tl h)) y).getD (0 : Int)) < (1048576 : Int)) then (eInt.okl (1 : Nat) r.length (eInt.tl r) ∧ eInt.okl (1 : Nat) h.length (eInt.tl h) ∧ nLate_pre (V.kn (Value.string { data := #[] })) (V.kn (Value.string { data := #[] })) (V.kn (Value.string { data := #[] })) (V.kn (Value.string { data := #[] })) (V.kn (Value.string { data := #[] })) (V.kn (Value.string { data := #[] })) (V.kn (Value.string { data := #[] })) (V.kn (Value.string { data := #[] })) (V.kn (Value.int IntKind.i64 (0 : Int))) (V.kn (Value.int IntKind.i64 (0 : Int))) (V.kn (Value.int IntKind.i64 (0 : Int))) (V.kn (Value.int IntKind.i64 (0 : Int))) (V.kn (Value.bool false)) (V.kn (Value.bool false)) (V.list (1 : Nat) (0 : Nat) fun i => []) s y w s (IntKind.i64.wrap ((if (expiry (eInt.dl r.length (eInt.tl r)) (eInt.dl h.length (eInt.tl h)) (IntKind.i64.wrap (s + w))).getD (0 : Int) < (expiry (eInt.dl r.length (eInt.tl r)) (eInt.dl h.length (eInt.tl h)) y).getD (0 : Int) then (expiry (eInt.dl r.length (eInt.tl r)) (eInt.dl h.length (eInt.tl h)) (IntKind.i64.wrap (s + w))).getD (0 : Int) else (expiry (eInt.dl r.length (eInt.tl r)) (eInt.dl h.length (eInt.tl h)) y).getD (0 : Int)) + (1 : Int))) (eInt.dl r.length (eInt.tl r)) (eInt.dl h.length (eInt.tl h))) ∧ bif lateI (eInt.dl r.length (eInt.tl r)) (eInt.dl h.length (eInt.tl h)) s y w s (IntKind.i64.wrap ((if (expiry (eInt.dl r.length (eInt.tl r)) (eInt.dl h.length (eInt.tl h)) (IntKind.i64.wrap (s + w))).getD (0 : Int) < (expiry (eInt.dl r.length (eInt.tl r)) (eInt.dl h.length (eInt.tl h)) y).getD (0 : Int) then (expiry (eInt.dl r.length (eInt.tl r)) (eInt.dl h.length (eInt.tl h)) (IntKind.i64.wrap (s + w))).getD (0 : Int) else (expiry (eInt.dl r.length (eInt.tl r)) (eInt.dl h.length (eInt.tl h)) y).getD (0 : Int)) + (1 : Int))) != (11 : Int) then R (some (V.kn (Value.bool false))) else bif s == (0 : Int) then R (some (V.kn (Value.bool true))) else (eInt.okl (1 : Nat) r.length (eInt.tl r) ∧ eInt.okl (1 : Nat) h.length (eInt.tl h) ∧ nLate_pre (V.kn (Value.string { data := #[] })) (V.kn (Value.string { data := #[] })) (V.kn (Value.string { data := #[] })) (V.kn (Value.string { data := #[] })) (V.kn (Value.string { data := #[] })) (V.kn (Value.string { data := #[] })) (V.kn (Value.string { data := #[] })) (V.kn (Value.string { data := #[] })) (V.kn (Value.int IntKind.i64 (0 : Int))) (V.kn (Value.int IntKind.i64 (0 : Int))) (V.kn (Value.int IntKind.i64 (0 : Int))) (V.kn (Value.int IntKind.i64 (0 : Int))) (V.kn (Value.bool false)) (V.kn (Value.bool false)) (V.list (1 : Nat) (0 : Nat) fun i => []) (IntKind.i64.wrap (s - (1 : Int))) y w s (if (expiry (eInt.dl r.length (eInt.tl r)) (eInt.dl h.length (eInt.tl h)) (IntKind.i64.wrap (s + w))).getD (0 : Int) < (expiry (eInt.dl r.length (eInt.tl r)) (eInt.dl h.length (eInt.tl h)) y).getD (0 : Int) then (expiry (eInt.dl r.length (eInt.tl r)) (eInt.dl h.length (eInt.tl h)) (IntKind.i64.wrap (s + w))).getD (0 : Int) else (expiry (eInt.dl r.length (eInt.tl r)) (eInt.dl h.length (eInt.tl h)) y).getD (0 : Int)) (eInt.dl r.length (eInt.tl r)) (eInt.dl h.length (eInt.tl h))) ∧ bif lateI (eInt.dl r.length (eInt.tl r)) (eInt.dl h.length (eInt.tl h)) (IntKind.i64.wrap (s - (1 : Int))) y w s (if (expiry (eInt.dl r.length (eInt.tl r)) (eInt.dl h.length (eInt.tl h)) (IntKind.i64.wrap (s + w))).getD (0 : Int) < (expiry (eInt.dl r.length (eInt.tl r)) (eInt.dl h.length (eInt.tl h)) y).getD (0 : Int) then (expiry (eInt.dl r.length (eInt.tl r)) (eInt.dl h.length (eInt.tl h)) (IntKind.i64.wrap (s + w))).getD (0 : Int) else (expiry (eInt.dl r.length (eInt.tl r)) (eInt.dl h.length (eInt.tl h)) y).getD (0 : Int)) == (11 : Int) then (eInt.okl (1 : Nat) r.length (eInt.tl r) ∧ eInt.okl (1 : Nat) h.length (eInt.tl h) ∧ nLate_pre (V.kn (Value.string { data := #[] })) (V.kn (Value.string { data := #[] })) (V.kn (Value.string { data := #[] })) (V.kn (Value.string { data := #[] })) (V.kn (Value.string { data := #[] })) (V.kn (Value.string { data := #[] })) (V.kn (Value.string { data := #[] })) (V.kn (Value.string { data := #[] })) (V.kn (Value.int IntKind.i64 (0 : Int))) (V.kn (Value.int IntKind.i64 (0 : Int))) (V.kn (Value.int IntKind.i64 (0 : Int))) (V.kn (Value.int IntKind.i64 (0 : Int))) (V.kn (Value.bool false)) (V.kn (Value.bool false)) (V.list (1 : Nat) (0 : Nat) fun i => []) s y w s (IntKind.i64.wrap (s - (1 : Int))) (eInt.dl r.length (eInt.tl r)) (eInt.dl h.length (eInt.tl h))) ∧ R (some (V.kn (Value.bool (lateI (eInt.dl r.length (eInt.tl r)) (eInt.dl h.length (eInt.tl h)) s y w s (IntKind.i64.wrap (s - (1 : Int))) == (6 : Int))))) else R (some (V.kn (Value.bool false))) else bif s == (0 : Int) then R (some (V.kn (Value.bool true))) else (eInt.okl (1 : Nat) r.length (eInt.tl r) ∧ eInt.okl (1 : Nat) h.length (eInt.tl h) ∧ nLate_pre (V.kn (Value.string { data := #[] })) (V.kn (Value.string { data := #[] })) (V.kn (Value.string { data := #[] })) (V.kn (Value.string { data := #[] })) (V.kn (Value.string { data := #[] })) (V.kn (Value.string { data := #[] })) (V.kn (Value.string { data := #[] })) (V.kn (Value.string { data := #[] })) (V.kn (Value.int IntKind.i64 (0 : Int))) (V.kn (Value.int IntKind.i64 (0 : Int))) (V.kn (Value.int IntKind.i64 (0 : Int))) (V.kn (Value.int IntKind.i64 (0 : Int))) (V.kn (Value.bool false)) (V.kn (Value.bool false)) (V.list (1 : Nat) (0 : Nat) fun i => []) (IntKind.i64.wrap (s - (1 : Int))) y w s (if (expiry (eInt.dl r.length (eInt.tl r)) (eInt.dl h.length (eInt.tl h)) (IntKind.i64.wrap (s + w))).getD (0 : Int) < (expiry (eInt.dl r.length (eInt.tl r)) (eInt.dl h.length (eInt.tl h)) y).getD (0 : Int) then (expiry (eInt.dl r.length (eInt.tl r)) (eInt.dl h.length (eInt.tl h)) (IntKind.i64.wrap (s + w))).getD (0 : Int) else (expiry (eInt.dl r.length (eInt.tl r)) (eInt.dl h.length (eInt.tl h)) y).getD (0 : Int)) (eInt.dl r.length (eInt.tl r)) (eInt.dl h.length (eInt.tl h))) ∧ bif lateI (eInt.dl r.length (eInt.tl r)) (eInt.dl h.length (eInt.tl h)) (IntKind.i64.wrap (s - (1 : Int))) y w s (if (expiry (eInt.dl r.length (eInt.tl r)) (eInt.dl h.length (eInt.tl h)) (IntKind.i64.wrap (s + w))).getD (0 : Int) < (expiry (eInt.dl r.length (eInt.tl r)) (eInt.dl h.length (eInt.tl h)) y).getD (0 : Int) then (expiry (eInt.dl r.length (eInt.tl r)) (eInt.dl h.length (eInt.tl h)) (IntKind.i64.wrap (s + w))).getD (0 : Int) else (expiry (eInt.dl r.length (eInt.tl r)) (eInt.dl h.length (eInt.tl h)) y).getD (0 : Int)) == (11 : Int) then (eInt.okl (1 : Nat) r.length (eInt.tl r) ∧ eInt.okl (1 : Nat) h.length (eInt.tl h) ∧ nLate_pre (V.kn (Value.string { data := #[] })) (V.kn (Value.string { data := #[] })) (V.kn (Value.string { data := #[] })) (V.kn (Value.string { data := #[] })) (V.kn (Value.string { data := #[] })) (V.kn (Value.string { data := #[] })) (V.kn (Value.string { data := #[] })) (V.kn (Value.string { data := #[] })) (V.kn (Value.int IntKind.i64 (0 : Int))) (V.kn (Value.int IntKind.i64 (0 : Int))) (V.kn (Value.int IntKind.i64 (0 : Int))) (V.kn (Value.int IntKind.i64 (0 : Int))) (V.kn (Value.bool false)) (V.kn (Value.bool false)) (V.list (1 : Nat) (0 : Nat) fun i => []) s y w s (IntKind.i64.wrap (s - (1 : Int))) (eInt.dl r.length (eInt.tl r)) (eInt.dl h.length (eInt.tl h))) ∧ R (some (V.kn (Value.bool (lateI (eInt.dl r.length (eInt.tl r)) (eInt.dl h.length (eInt.tl h)) s y w s (IntKind.i64.wrap (s - (1 : Int))) == (6 : Int))))) else R (some (V.kn (Value.bool false))) else bif decide ((expiry (eInt.dl r.length (eInt.tl r)) (eInt.dl h.length (eInt.tl h)) y).getD (0 : Int) < s) then R (some (V.kn (Value.bool false))) else (eInt.okl (1 : Nat) r.length (eInt.tl r) ∧ eInt.okl (1 : Nat) h.length (eInt.tl h) ∧ nLate_pre (V.kn (Value.string { data := #[] })) (V.kn (Value.string { data := #[] })) (V.kn (Value.string { data := #[] })) (V.kn (Value.string { data := #[] })) (V.kn (Value.string { data := #[] })) (V.kn (Value.string { data := #[] })) (V.kn (Value.string { data := #[] })) (V.kn (Value.string { data := #[] })) (V.kn (Value.int IntKind.i64 (0 : Int))) (V.kn (Value.int IntKind.i64 (0 : Int))) (V.kn (Value.int IntKind.i64 (0 : Int))) (V.kn (Value.int IntKind.i64 (0 : Int))) (V.kn (Value.bool false)) (V.kn (Value.bool false)) (V.list (1 : Nat) (0 : Nat) fun i => []) s y w s ((expiry (eInt.dl r.length (eInt.tl r)) (eInt.dl h.length (eInt.tl h)) y).getD (0 : Int)) (eInt.dl r.length (eInt.tl r)) (eInt.dl h.length (eInt.tl h))) ∧ bif lateI (eInt.dl r.length (eInt.tl r)) (eInt.dl h.length (eInt.tl h)) s y w s ((expiry (eInt.dl r.length (eInt.tl r)) (eInt.dl h.length (eInt.tl h)) y).getD (0 : Int)) != (0 : Int) then R (some (V.kn (Value.bool false))) else bif decide ((expiry (eInt.dl r.length (eInt.tl r)) (eInt.dl h.length (eInt.tl h)) y).getD (0 : Int) < (1048576 : Int)) then (eInt.okl (1 : Nat) r.length (eInt.tl r) ∧ eInt.okl (1 : Nat) h.length (eInt.tl h) ∧ nLate_pre (V.kn (Value.string { data := #[] })) (V.kn (Value.string { data := #[] })) (V.kn (Value.string { data := #[] })) (V.kn (Value.string { data := #[] })) (V.kn (Value.string { data := #[] })) (V.kn (Value.string { data := #[] })) (V.kn (Value.string { data := #[] })) (V.kn (Value.string { data := #[] })) (V.kn (Value.int IntKind.i64 (0 : Int))) (V.kn (Value.int IntKind.i64 (0 : Int))) (V.kn (Value.int IntKind.i64 (0 : Int))) (V.kn (Value.int IntKind.i64 (0 : Int))) (V.kn (Value.bool false)) (V.kn (Value.bool false)) (V.list (1 : Nat) (0 : Nat) fun i => []) s y w s (IntKind.i64.wrap ((expiry (eInt.dl r.length (eInt.tl r)) (eInt.dl h.length (eInt.tl h)) y).getD (0 : Int) + (1 : Int))) (eInt.dl r.length (eInt.tl r)) (eInt.dl h.length (eInt.tl h))) ∧ bif lateI (eInt.dl r.length (eInt.tl r)) (eInt.dl h.length (eInt.tl h)) s y w s (IntKind.i64.wrap ((expiry (eInt.dl r.length (eInt.tl r)) (eInt.dl h.length (eInt.tl h)) y).getD (0 : Int) + (1 : Int))) != (11 : Int) then R (some (V.kn (Value.bool false))) else bif s == (0 : Int) then R (some (V.kn (Value.bool true))) else (eInt.okl (1 : Nat) r.length (eInt.tl r) ∧ eInt.okl (1 : Nat) h.length (eInt.tl h) ∧ nLate_pre (V.kn (Value.string { data := #[] })) (V.kn (Value.string { data := #[] })) (V.kn (Value.string { data := #[] })) (V.kn (Value.string { data := #[] })) (V.kn (Value.string { data := #[] })) (V.kn (Value.string { data := #[] })) (V.kn (Value.string { data := #[] })) (V.kn (Value.string { data := #[] })) (V.kn (Value.int IntKind.i64 (0 : Int))) (V.kn (Value.int IntKind.i64 (0 : Int))) (V.kn (Value.int IntKind.i64 (0 : Int))) (V.kn (Value.int IntKind.i64 (0 : Int))) (V.kn (Value.bool false)) (V.kn (Value.bool false)) (V.list (1 : Nat) (0 : Nat) fun i => []) (IntKind.i64.wrap (s - (1 : Int))) y w s ((expiry (eInt.dl r.length (eInt.tl r)) (eInt.dl h.length (eInt.tl h)) y).getD (0 : Int)) (eInt.dl r.length (eInt.tl r)) (eInt.dl h.length (eInt.tl h))) ∧ bif lateI (eInt.dl r.length (eInt.tl r)) (eInt.dl h.length (eInt.tl h)) (IntKind.i64.wrap (s - (1 : Int))) y w s ((expiry (eInt.dl r.length (eInt.tl r)) (eInt.dl h.length (eInt.tl h)) y).getD (0 : Int)) == (11 : Int) then (eInt.okl (1 : Nat) r.length (eInt.tl r) ∧ eInt.okl (1 : Nat) h.length (eInt.tl h) ∧ nLate_pre (V.kn (Value.string { data := #[] })) (V.kn (Value.string { data := #[] })) (V.kn (Value.string { data := #[] })) (V.kn (Value.string { data := #[] })) (V.kn (Value.string { data := #[] })) (V.kn (Value.string { data := #[] })) (V.kn (Value.string { data := #[] })) (V.kn (Value.string { data := #[] })) (V.kn (Value.int IntKind.i64 (0 : Int))) (V.kn (Value.int IntKind.i64 (0 : Int))) (V.kn (Value.int IntKind.i64 (0 : Int))) (V.kn (Value.int IntKind.i64 (0 : Int))) (V.kn (Value.bool false)) (V.kn (Value.bool false)) (V.list (1 : Nat) (0 : Nat) fun i => []) s y w s (IntKind.i64.wrap (s - (1 : Int))) (eInt.dl r.length (eInt.tl r)) (eInt.dl h.length (eInt.tl h))) ∧ R (some (V.kn (Value.bool (lateI (eInt.dl r.length (eInt.tl r)) (eInt.dl h.length (eInt.tl h)) s y w s (IntKind.i64.wrap (s - (1 : Int))) == (6 : Int))))) else R (some (V.kn (Value.bool false))) else bif s == (0 : Int) then R (some (V.kn (Value.bool true))) else (eInt.okl (1 : Nat) r.length (eInt.tl r) ∧ eInt.okl (1 : Nat) h.length (eInt.tl h) ∧ nLate_pre (V.kn (Value.string { data := #[] })) (V.kn (Value.string { data := #[] })) (V.kn (Value.string { data := #[] })) (V.kn (Value.string { data := #[] })) (V.kn (Value.string { data := #[] })) (V.kn (Value.string { data := #[] })) (V.kn (Value.string { data := #[] })) (V.kn (Value.string { data := #[] })) (V.kn (Value.int IntKind.i64 (0 : Int))) (V.kn (Value.int IntKind.i64 (0 : Int))) (V.kn (Value.int IntKind.i64 (0 : Int))) (V.kn (Value.int IntKind.i64 (0 : Int))) (V.kn (Value.bool false)) (V.kn (Value.bool false)) (V.list (1 : Nat) (0 : Nat) fun i => []) (IntKind.i64.wrap (s - (1 : Int))) y w s ((expiry (eInt.dl r.length (eInt.tl r)) (eInt.dl h.length (eInt.tl h)) y).getD (0 : Int)) (eInt.dl r.length (eInt.tl r)) (eInt.dl h.length (eInt.tl h))) ∧ bif lateI (eInt.dl r.length (eInt.tl r)) (eInt.dl h.length (eInt.tl h)) (IntKind.i64.wrap (s - (1 : Int))) y w s ((expiry (eInt.dl r.length (eInt.tl r)) (eInt.dl h.length (eInt.tl h)) y).getD (0 : Int)) == (11 : Int) then (eInt.okl (1 : Nat) r.length (eInt.tl r) ∧ eInt.okl (1 : Nat) h.length (eInt.tl h) ∧ nLate_pre (V.kn (Value.string { data := #[] })) (V.kn (Value.string { data := #[] })) (V.kn (Value.string { data := #[] })) (V.kn (Value.string { data := #[] })) (V.kn (Value.string { data := #[] })) (V.kn (Value.string { data := #[] })) (V.kn (Value.string { data := #[] })) (V.kn (Value.string { data := #[] })) (V.kn (Value.int IntKind.i64 (0 : Int))) (V.kn (Value.int IntKind.i64 (0 : Int))) (V.kn (Value.int IntKind.i64 (0 : Int))) (V.kn (Value.int IntKind.i64 (0 : Int))) (V.kn (Value.bool false)) (V.kn (Value.bool false)) (V.list (1 : Nat) (0 : Nat) fun i => []) s y w s (IntKind.i64.wrap (s - (1 : Int))) (eInt.dl r.length (eInt.tl r)) (eInt.dl h.length (eInt.tl h))) ∧ R (some (V.kn (Value.bool (lateI (eInt.dl r.length (eInt.tl r)) (eInt.dl h.length (eInt.tl h)) s y w s (IntKind.i64.wrap (s - (1 : Int))) == (6 : Int))))) else R (some (V.kn (Value.bool false)))) := by kernel_rfl
theorem NoticeLast_ok (y s w : Int) (r : List Int) (h : List Int) (len_r : r.length ≤ maxLen) (len_h : h.length ≤ maxLen) (hp : NoticeLast_pre y s w r h) (good : Cfg → Prop) (hstep : ∀ c, arun Try.prog (conOf [(9, lift Gawake), (11, lift Gfew), (16, lift GnExpiry), (21, lift GnLate)]) (0, []) good (RetO (Tells (NoticeLast_val y s w r h))) 3000 (c) → good c) (hext : ∀ c c', CfgExt c c' → good c' → good c) (hle : ∀ c c', CfgLe 0 c c' → good c' → good c) : arun Try.prog (conOf [(9, lift Gawake), (11, lift Gfew), (16, lift GnExpiry), (21, lift GnLate)]) (0, []) good (RetO (Tells (NoticeLast_val y s w r h))) 3000 (entry Try.prog 7 [.agg [.list eInt.s r.length (eInt.tl r), .list eInt.s h.length (eInt.tl h)], .kn (.int .i64 y), .kn (.int .i64 s), .kn (.int .i64 w)]) := by
  rw [NoticeLast_res]
  have ok_r : eInt.okl 1 r.length (eInt.tl r) := eInt.okl_tl len_r
  have ok_h : eInt.okl 1 h.length (eInt.tl h) := eInt.okl_tl len_h
  try simp only [eInt.dl_tl]
  
  obtain ⟨p1, p2, p3⟩ := hp
  have k1 : eInt.okl 1 r.length (eInt.tl r) ∧ eInt.okl 1 h.length (eInt.tl h) ∧ True := ⟨ok_r, ok_h, trivial⟩
  have k2 : ∀ {t}, inI64 t → eInt.okl 1 r.length (eInt.tl r) ∧ eInt.okl 1 h.length (eInt.tl h) ∧ inI64 t := fun h => ⟨ok_r, ok_h, h⟩
  refine ⟨trivial, k2 p1, k1, cond_intro (fun _ => tell rfl) (fun _ => ?_)⟩
  cases he : expiry r h y with
  | none => exact tell rfl
  | some e =>
    have ⟨f1, f2, f3, f4, f5⟩ := expiry_facts he
    have f1' := isB_iff.1 f1
    have f3' := isB_iff.1 f3
    simp only [Option.isSome_some, Option.getD_some, Bool.not_true, cond_false]
    refine cond_intro (fun _ => tell rfl) (fun h1 => cond_intro (fun _ => tell rfl) (fun h2 => cond_intro (fun _ => tell rfl) (fun h3 => cond_intro (fun _ => tell rfl) (fun h4 => ?_))))
    simp only [decide_eq_false_iff_not] at h1 h2 h3 h4
    have e1 : IntKind.i64.wrap (s + w) = s + w := wrap_in (by omega) (by omega)
    have e2 : IntKind.i64.wrap (s - 1) = s - 1 := wrap_in (by omega) (by omega)
    have bs : isB s = true := isB_iff.2 (by omega)
    have bw : isB w = true := isB_iff.2 (by omega)
    rw [e1, e2]
    refine ⟨k2 (by unfold inI64; omega), ?_⟩
    have fin : ∀ E : Int, s ≤ E → E ≤ e → E = lastI (some e) (expiry r h (s + w)) → lateI r h s y w s E = 0 ∧ (E < 1048576 → lateI r h s y w s (E + 1) = 11) ∧ (s ≠ 0 → lateI r h (s - 1) y w s E = 11 ∧ lateI r h s y w s (s - 1) = 6) := fun E hs hE hl => by
      have bE : isB E = true := isB_iff.2 (by omega)
      refine ⟨?_, fun h5 => ?_, fun h5 => ⟨?_, ?_⟩⟩
      · rw [late_eq bs bE bs bw he, ← hl, decide_eq_false (by omega), decide_eq_false (by omega), decide_eq_false (by omega)]; rfl
      · rw [late_eq bs (isB_iff.2 (by omega)) bs bw he, ← hl, decide_eq_false (by omega), decide_eq_false (by omega), decide_eq_true (by omega)]; rfl
      · rw [late_eq bs bE (isB_iff.2 (by omega)) bw he, ← hl, decide_eq_false (by omega), decide_eq_true (by omega)]; rfl
      · rw [late_eq bs (isB_iff.2 (by omega)) bs bw he, decide_eq_true (by omega)]; rfl
    cases hq : expiry r h (s + w) with
    | none =>
      rw [hq] at fin
      have ⟨g1, g2, g3⟩ := fin e (by omega) (by omega) rfl
      simp only [Option.isSome_none, cond_false]
      rw [g1, decide_eq_false (show ¬ e < s by omega)]
      simp only [cond_false, bne_self_eq_false]
      have kp : eInt.okl 1 r.length (eInt.tl r) ∧ eInt.okl 1 h.length (eInt.tl h) ∧ inI64 y := k2 p1
      refine ⟨kp, cond_intro (fun h5 => ⟨kp, ?_⟩) (fun h5 => ?_)⟩
      · rw [wrap_in (by omega) (by omega), g2 (by simpa using h5)]
        simp only [cond_false, bne_self_eq_false]
        refine cond_intro (fun h6 => tell rfl) (fun h6 => ?_)
        have ⟨g4, g5⟩ := g3 (by simpa using h6)
        rw [g4, g5]
        exact ⟨kp, kp, tell rfl⟩
      · refine cond_intro (fun h6 => tell rfl) (fun h6 => ?_)
        have ⟨g4, g5⟩ := g3 (by simpa using h6)
        rw [g4, g5]
        exact ⟨kp, kp, tell rfl⟩
    | some b =>
      rw [hq] at fin
      have ⟨q1, q2, q3, q4, q5⟩ := expiry_facts hq
      have q3' := isB_iff.1 q3
      have ⟨g1, g2, g3⟩ := fin (min e b) (by omega) (by omega) rfl
      simp only [Option.isSome_some, Option.getD_some, cond_true]
      have e3 : (if b < e then b else e) = min e b := by omega
      rw [e3]
      rw [g1, decide_eq_false (show ¬ min e b < s by omega)]
      simp only [cond_false, bne_self_eq_false]
      have kp : eInt.okl 1 r.length (eInt.tl r) ∧ eInt.okl 1 h.length (eInt.tl h) ∧ inI64 y := k2 p1
      refine ⟨kp, cond_intro (fun h5 => ⟨kp, ?_⟩) (fun h5 => ?_)⟩
      · rw [wrap_in (by omega) (by omega), g2 (by simpa using h5)]
        simp only [cond_false, bne_self_eq_false]
        refine cond_intro (fun h6 => tell rfl) (fun h6 => ?_)
        have ⟨g4, g5⟩ := g3 (by simpa using h6)
        rw [g4, g5]
        exact ⟨kp, kp, tell rfl⟩
      · refine cond_intro (fun h6 => tell rfl) (fun h6 => ?_)
        have ⟨g4, g5⟩ := g3 (by simpa using h6)
        rw [g4, g5]
        exact ⟨kp, kp, tell rfl⟩
theorem NoticeLast_walk (W : World) {u0 : List V} {v0 : Array Value} (o0 : u0.length = 2) (c0 : ∀ (i : Nat) (c : CS) (u : V), ([.sl [.int .i64], .sl [.int .i64]] : List CS)[i]? = some c → u0[i]? = some u → VOK c u) (e0 : RV (whole W) sig0 (.agg u0) (.agg v0)) {u1 : V} {v1 : Value} (o1 : VOK (.int .i64) u1) (e1 : RV (whole W) sig0 u1 v1) {u2 : V} {v2 : Value} (o2 : VOK (.int .i64) u2) (e2 : RV (whole W) sig0 u2 v2) {u3 : V} {v3 : Value} (o3 : VOK (.int .i64) u3) (e3 : RV (whole W) sig0 u3 v3) : Calls Try.prog 7 #[.agg v0, v1, v2, v3] W fun e w' => e = .returned (.bool true) ∧ Below W.heap.size W w' := by
  obtain ⟨u0_0, u0_1, rfl⟩ := len_2 o0
  have h0_0 := c0 0 _ u0_0 rfl rfl
  obtain ⟨x0_0, l0_0, e0_0, w0_0⟩ := eInt_vok h0_0
  have h0_1 := c0 1 _ u0_1 rfl rfl
  obtain ⟨x0_1, l0_1, e0_1, w0_1⟩ := eInt_vok h0_1
  obtain ⟨n1, rfl, w1⟩ := vok_int o1
  obtain ⟨n2, rfl, w2⟩ := vok_int o2
  obtain ⟨n3, rfl, w3⟩ := vok_int o3
  exact law_calls3 (con := conOf [(9, lift Gawake), (11, lift Gfew), (16, lift GnExpiry), (21, lift GnLate)]) (hs := (0, [])) 3000 Try.func7 rfl (by kernel_rfl) rfl (conCons awake_con (conCons few_con (conCons nExpiry_con (conCons nLate_con conNil)))) (args := [_, _, _, _]) (args' := [.agg [.list eInt.s x0_0.length (eInt.tl x0_0), .list eInt.s x0_1.length (eInt.tl x0_1)], .kn (.int .i64 n1), .kn (.int .i64 n2), .kn (.int .i64 n3)]) ⟨e0, e1, e2, e3, trivial⟩ ⟨VExt.agg ⟨e0_0, e0_1, trivial⟩, VExt.refl _, VExt.refl _, VExt.refl _, trivial⟩ (by simp [Try.ntmps7]) fun good hstep hext hle => NoticeLast_ok n1 n2 n3 x0_0 x0_1 l0_0 l0_1 (⟨wf_i64 w1, wf_i64 w2, wf_i64 w3⟩) good hstep hext hle

end Go.Proofs.Ytmbnphmgefipfaa
