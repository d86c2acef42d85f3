/- What is proved: contracts of functions of one seat, each by the executor; written by a program of the prover (gen.py) and by hand. Conditions: each contract names its own. -/
import Derived.Test.YtmbnphmgefipfaaAw2
import Derived.Test.YtmbnphmgefipfaaProg
import Derived.KernelRfl
import Derived.IntWalk
import Derived.Test.YtmbnphmgefipfaaCons
namespace Go.Proofs.Ytmbnphmgefipfaa
open Go Go.Aw Go.RowKit
set_option linter.unusedVariables false
set_option linter.unusedSimpArgs false
set_option maxRecDepth 10000
structure Fault where
  paper : Int
  kind : Int
  field : ByteArray
  why : Int
def eFault : Enc Fault where
  s := 4
  toV d := [.kn (.int .i64 d.paper), .kn (.int .i64 d.kind), .kn (.string d.field), .kn (.int .i64 d.why)]
  ofV c := match c with | [x0, x1, x2, x3] => ⟨vInt x0, vInt x1, vStr x2, vInt x3⟩ | _ => ⟨0, 0, ByteArray.empty, 0⟩
  dflt := ⟨0, 0, ByteArray.empty, 0⟩
  inv d := by rfl
  len d := rfl
def eFault_wf (d : Fault) : Prop := inI64 d.paper ∧ inI64 d.kind ∧ d.field.size ≤ maxLen ∧ inI64 d.why

noncomputable def answerI (o : Option Int) (p a : Int) (fs ts : List Fault) : Int := bif bP (fs = []) then 0 else match o with
  | none => 2
  | some b => bif bP (a ≤ b ∧ p ≤ a ∧ ∃ x ∈ ts, x ∈ fs) then 1 else 2


theorem fault_beq (p k : Int) (fl : ByteArray) (y : Int) (b : Fault) : (p == b.paper && (k == b.kind && (fl == b.field && (y == b.why && true)))) = bP ((⟨p, k, fl, y⟩ : Fault) = b) := by
  refine (bP_eq ?_).symm
  obtain ⟨p2, k2, fl2, y2⟩ := b
  simp only [Bool.and_eq_true, beq_iff_eq, Go.MapKept.bytes_beq, Fault.mk.injEq, and_true]
theorem answer_nil (o : Option Int) (p a : Int) (ts : List Fault) : answerI o p a [] ts = 0 := by unfold answerI; rw [bP_true rfl]; rfl
theorem answer_none {p a : Int} {fs ts : List Fault} (h : fs ≠ []) : answerI none p a fs ts = 2 := by unfold answerI; rw [bP_false h]; rfl
theorem answer_yes {p a b : Int} {fs ts : List Fault} (h : fs ≠ []) (k : a ≤ b ∧ p ≤ a ∧ ∃ x ∈ ts, x ∈ fs) : answerI (some b) p a fs ts = 1 := by unfold answerI; rw [bP_false h]; show (bif bP _ then _ else _) = _; rw [bP_true k]; rfl
theorem answer_no {p a b : Int} {fs ts : List Fault} (h : fs ≠ []) (k : ¬ (a ≤ b ∧ p ≤ a ∧ ∃ x ∈ ts, x ∈ fs)) : answerI (some b) p a fs ts = 2 := by unfold answerI; rw [bP_false h]; show (bif bP _ then _ else _) = _; rw [bP_false k]; rfl

def indexF_pre (p k : Int) (fl : ByteArray) (y : Int) (xs : List Fault) : Prop := True
noncomputable def indexF_val (p k : Int) (fl : ByteArray) (y : Int) (xs : List Fault) : V := .kn (.int .i64 (idxP (fun x => (⟨p, k, fl, y⟩ : Fault) = x) xs))
noncomputable def GindexF : PSpec
  | [.list s_xs n_xs f_xs, .agg [.kn (.int .i64 p), .kn (.int .i64 k), .kn (.string fl), .kn (.int .i64 y)]] => some (eFault.okl s_xs n_xs f_xs ∧ indexF_pre p k fl y (eFault.dl n_xs f_xs), indexF_val p k fl y (eFault.dl n_xs f_xs))
  | _ => none
theorem indexF_res (p k : Int) (fl : ByteArray) (y : Int) (xs : List Fault) (good : Cfg → Prop) (R : Option V → Prop) : arun Try.prog (conOf []) (0, [(48, 2, [0, 3, 7, 8], [(0, 3, [])])]) good (RetO (R)) 400 (entry Try.prog 48 [.list eFault.s xs.length (eFault.tl xs), .agg [.kn (.int .i64 p), .kn (.int .i64 k), .kn (.string fl), .kn (.int .i64 y)]]) =
    (good { fr := { fn := (48 : Nat), nt := (19 : Nat), t := [((0 : Nat), V.list (4 : Nat) xs.length (eFault.tl xs)), ((3 : Nat), V.ptr (0 : Nat) (0 : Nat)), ((7 : Nat), V.kn (Value.int IntKind.i64 ↑xs.length)), ((8 : Nat), V.kn (Value.int IntKind.i64 (0 : Int)))], k := loopK Try.prog (48 : Nat) (2 : Nat) }, cs := [], h := [O.cells [V.kn (Value.int IntKind.i64 p), V.kn (Value.int IntKind.i64 k), V.kn (Value.string fl), V.kn (Value.int IntKind.i64 y)]] }) := by kernel_rfl
@[reducible] noncomputable def indexF_c2 (p k : Int) (fl : ByteArray) (y : Int) (xs : List Fault) (i : Int) : Cfg := ⟨⟨48, 19, [(0, .list eFault.s xs.length (eFault.tl xs)), (3, .ptr 0 0), (7, .kn (.int .i64 xs.length)), (8, .kn (.int .i64 i))], loopK Try.prog 48 2⟩, [], [.cells [.kn (.int .i64 p), .kn (.int .i64 k), .kn (.string fl), .kn (.int .i64 y)]]⟩
theorem indexF_l2 (p k : Int) (fl : ByteArray) (y : Int) (xs : List Fault) (i : Int) (good : Cfg → Prop) (R : Option V → Prop) : arun Try.prog (conOf []) (0, [(48, 2, [0, 3, 7, 8], [(0, 3, [])])]) good (RetO (R)) 400 (indexF_c2 p k fl y xs i) =
    (bif decide (i < ↑xs.length) then ((0 : Int) ≤ i ∧ i < ↑xs.length) ∧ bif p == (xs.getD i.toNat eFault.dflt).paper && (k == (xs.getD i.toNat eFault.dflt).kind && (fl == (xs.getD i.toNat eFault.dflt).field && (y == (xs.getD i.toNat eFault.dflt).why && true))) then R (some (V.kn (Value.int IntKind.i64 i))) else good { fr := { fn := (48 : Nat), nt := (19 : Nat), t := [((0 : Nat), V.list (4 : Nat) xs.length (eFault.tl xs)), ((3 : Nat), V.ptr (0 : Nat) (0 : Nat)), ((7 : Nat), V.kn (Value.int IntKind.i64 ↑xs.length)), ((8 : Nat), V.kn (Value.int IntKind.i64 (IntKind.i64.wrap (i + (1 : Int)))))], k := loopK Try.prog (48 : Nat) (2 : Nat) }, cs := [], h := [O.cells [V.kn (Value.int IntKind.i64 p), V.kn (Value.int IntKind.i64 k), V.kn (Value.string fl), V.kn (Value.int IntKind.i64 y)]] } else R (some (V.kn (Value.int IntKind.i64 (-1 : Int))))) := by kernel_rfl
theorem indexF_ok (p k : Int) (fl : ByteArray) (y : Int) (xs : List Fault) (len_xs : xs.length ≤ maxLen) (hp : indexF_pre p k fl y xs) (good : Cfg → Prop) (hstep : ∀ c, arun Try.prog (conOf []) (0, [(48, 2, [0, 3, 7, 8], [(0, 3, [])])]) good (RetO (Tells (indexF_val p k fl y xs))) 400 (c) → good c) (hext : ∀ c c', CfgExt c c' → good c' → good c) (hle : ∀ c c', CfgLe 0 c c' → good c' → good c) : arun Try.prog (conOf []) (0, [(48, 2, [0, 3, 7, 8], [(0, 3, [])])]) good (RetO (Tells (indexF_val p k fl y xs))) 400 (entry Try.prog 48 [.list eFault.s xs.length (eFault.tl xs), .agg [.kn (.int .i64 p), .kn (.int .i64 k), .kn (.string fl), .kn (.int .i64 y)]]) := by
  rw [indexF_res]
  refine foreach xs (fun i (_ : Unit) => ∀ j (hl : j < xs.length), j < i → ¬ (⟨p, k, fl, y⟩ : Fault) = xs[j]) (fun i _ => indexF_c2 p k fl y xs i) (fun i _ hi hv ih => ?_) (fun _ hv => ?_) () (fun j hl hj => by omega)
  · apply hstep
    rw [indexF_l2]
    have e1 : (i : Int).toNat = i := by omega
    rw [e1, wrap_succ hi len_xs, getD_at _ hi, fault_beq]
    refine cond_true' (decide_eq_true (by omega)) ⟨⟨by omega, by omega⟩, cond_intro (fun h => ?_) (fun h => ih () (fun j hl hj => ?_))⟩
    · refine tell ?_
      rw [indexF_val, idxP_hit (p := fun x => (⟨p, k, fl, y⟩ : Fault) = x) hi hv (bP_iff.1 h)]
    · by_cases hji : j = i
      · subst hji; exact bP_not.1 h
      · exact hv j hl (by omega)
  · apply hstep
    rw [indexF_l2]
    refine cond_false' (decide_eq_false (by omega)) (tell ?_)
    rw [indexF_val, idxP_miss fun j hl => hv j hl hl]
theorem indexF_con : SpecOK Try.prog 48 (lift GindexF) := by
  refine con_of_run3 (con := conOf []) (hs := (0, [(48, 2, [0, 3, 7, 8], [(0, 3, [])])])) 400 Try.func48 rfl (by kernel_rfl) rfl conNil ?_
  intro args0 p r hG hp
  unfold GindexF at hG
  split at hG
  case h_2 => cases hG
  rename_i s_xs n_xs f_xs p k fl y
  cases hG
  obtain ⟨ok_xs, hp⟩ := hp
  exact ⟨[.list eFault.s (eFault.dl n_xs f_xs).length (eFault.tl (eFault.dl n_xs f_xs)), .agg [.kn (.int .i64 p), .kn (.int .i64 k), .kn (.string fl), .kn (.int .i64 y)]], ⟨eFault.extl ok_xs, VExt.refl _, trivial⟩, by simp [Try.ntmps48], fun good hstep hext hle => indexF_ok _ _ _ _ _ (by rw [eFault.dl_length]; exact ok_xs.2.1) hp good hstep hext hle⟩
def containsF_pre (p k : Int) (fl : ByteArray) (y : Int) (xs : List Fault) : Prop := True
noncomputable def containsF_val (p k : Int) (fl : ByteArray) (y : Int) (xs : List Fault) : V := .kn (.bool (bP ((⟨p, k, fl, y⟩ : Fault) ∈ xs)))
noncomputable def GcontainsF : PSpec
  | [.list s_xs n_xs f_xs, .agg [.kn (.int .i64 p), .kn (.int .i64 k), .kn (.string fl), .kn (.int .i64 y)]] => some (eFault.okl s_xs n_xs f_xs ∧ containsF_pre p k fl y (eFault.dl n_xs f_xs), containsF_val p k fl y (eFault.dl n_xs f_xs))
  | _ => none
theorem containsF_res (p k : Int) (fl : ByteArray) (y : Int) (xs : List Fault) (good : Cfg → Prop) (R : Option V → Prop) : arun Try.prog (conOf [(48, lift GindexF)]) (0, []) good (RetO (R)) 400 (entry Try.prog 34 [.list eFault.s xs.length (eFault.tl xs), .agg [.kn (.int .i64 p), .kn (.int .i64 k), .kn (.string fl), .kn (.int .i64 y)]]) =
    ((eFault.okl (4 : Nat) xs.length (eFault.tl xs) ∧ indexF_pre p k fl y (eFault.dl xs.length (eFault.tl xs))) ∧ R (some (V.kn (Value.bool (decide (idxP (fun x => { paper := p, kind := k, field := fl, why := y } = x) (eFault.dl xs.length (eFault.tl xs)) ≥ (0 : Int))))))) := by kernel_rfl
theorem containsF_ok (p k : Int) (fl : ByteArray) (y : Int) (xs : List Fault) (len_xs : xs.length ≤ maxLen) (hp : containsF_pre p k fl y xs) (good : Cfg → Prop) (hstep : ∀ c, arun Try.prog (conOf [(48, lift GindexF)]) (0, []) good (RetO (Tells (containsF_val p k fl y xs))) 400 (c) → good c) (hext : ∀ c c', CfgExt c c' → good c' → good c) (hle : ∀ c c', CfgLe 0 c c' → good c' → good c) : arun Try.prog (conOf [(48, lift GindexF)]) (0, []) good (RetO (Tells (containsF_val p k fl y xs))) 400 (entry Try.prog 34 [.list eFault.s xs.length (eFault.tl xs), .agg [.kn (.int .i64 p), .kn (.int .i64 k), .kn (.string fl), .kn (.int .i64 y)]]) := by
  rw [containsF_res]
  have ok : eFault.okl 4 xs.length (eFault.tl xs) := eFault.okl_tl len_xs
  simp only [eFault.dl_tl]
  refine ⟨⟨ok, trivial⟩, tell_iff ?_⟩
  rw [decide_eq_true_eq]
  show 0 ≤ idxP _ xs ↔ _
  rw [idxP_nonneg]
  exact ⟨fun ⟨x, hx, e⟩ => e ▸ hx, fun h => ⟨_, h, rfl⟩⟩
theorem containsF_con : SpecOK Try.prog 34 (lift GcontainsF) := by
  refine con_of_run3 (con := conOf [(48, lift GindexF)]) (hs := (0, [])) 400 Try.func34 rfl (by kernel_rfl) rfl (conCons indexF_con conNil) ?_
  intro args0 p r hG hp
  unfold GcontainsF at hG
  split at hG
  case h_2 => cases hG
  rename_i s_xs n_xs f_xs p k fl y
  cases hG
  obtain ⟨ok_xs, hp⟩ := hp
  exact ⟨[.list eFault.s (eFault.dl n_xs f_xs).length (eFault.tl (eFault.dl n_xs f_xs)), .agg [.kn (.int .i64 p), .kn (.int .i64 k), .kn (.string fl), .kn (.int .i64 y)]], ⟨eFault.extl ok_xs, VExt.refl _, trivial⟩, by simp [Try.ntmps34], fun good hstep hext hle => containsF_ok _ _ _ _ _ (by rw [eFault.dl_length]; exact ok_xs.2.1) hp good hstep hext hle⟩
def indexFn_pre  (xs : List Fault) (ys : List Fault) : Prop := True
noncomputable def indexFn_val  (xs : List Fault) (ys : List Fault) : V := .kn (.int .i64 (idxP (fun x => x ∈ ys) xs))
noncomputable def indexFn_objs  (xs : List Fault) (ys : List Fault) : List O := [.cells [.list eFault.s ys.length (eFault.tl ys)]]
noncomputable def SindexFn : SSpec
  | [.list s_xs n_xs f_xs, .fn 33 [.ptr 0 0]], [.cells [.list s_ys n_ys f_ys]] => .ret (eFault.okl s_xs n_xs f_xs ∧ eFault.okl s_ys n_ys f_ys ∧ indexFn_pre (eFault.dl n_xs f_xs) (eFault.dl n_ys f_ys)) (indexFn_val (eFault.dl n_xs f_xs) (eFault.dl n_ys f_ys)) (indexFn_objs (eFault.dl n_xs f_xs) (eFault.dl n_ys f_ys))
  | _, _ => .none
theorem indexFn_res  (xs : List Fault) (ys : List Fault) (good : Cfg → Prop) (R : V → List O → Prop) : arun Try.prog (conOf [(34, lift GcontainsF)]) (1, [(47, 2, [0, 1, 7, 8], [])]) good (RetS 1 [.list eFault.s xs.length (eFault.tl xs), .fn 33 [.ptr 0 0]] [] (R)) 400 (entryO Try.prog 47 [.list eFault.s xs.length (eFault.tl xs), .fn 33 [.ptr 0 0]] [.cells [.list eFault.s ys.length (eFault.tl ys)]]) =
    (good { fr := { fn := (47 : Nat), nt := (19 : Nat), t := [((0 : Nat), V.list (4 : Nat) xs.length (eFault.tl xs)), ((1 : Nat), V.fn (33 : Nat) [V.ptr (0 : Nat) (0 : Nat)]), ((7 : Nat), V.kn (Value.int IntKind.i64 ↑xs.length)), ((8 : Nat), V.kn (Value.int IntKind.i64 (0 : Int)))], k := loopK Try.prog (47 : Nat) (2 : Nat) }, cs := [], h := [O.cells [V.list (4 : Nat) ys.length (eFault.tl ys)]] }) := by kernel_rfl
@[reducible] noncomputable def indexFn_c2 (xs : List Fault) (ys : List Fault) (i : Int) : Cfg := ⟨⟨47, 19, [(0, .list eFault.s xs.length (eFault.tl xs)), (1, .fn 33 [.ptr 0 0]), (7, .kn (.int .i64 xs.length)), (8, .kn (.int .i64 i))], loopK Try.prog 47 2⟩, [], [.cells [.list eFault.s ys.length (eFault.tl ys)]]⟩
theorem indexFn_l2 (xs : List Fault) (ys : List Fault) (i : Int) (good : Cfg → Prop) (R : V → List O → Prop) : arun Try.prog (conOf [(34, lift GcontainsF)]) (1, [(47, 2, [0, 1, 7, 8], [])]) good (RetS 1 [.list eFault.s xs.length (eFault.tl xs), .fn 33 [.ptr 0 0]] [] (R)) 400 (indexFn_c2 xs ys i) =
    (bif decide (i < ↑xs.length) then ((0 : Int) ≤ i ∧ i < ↑xs.length) ∧ (eFault.okl (4 : Nat) ys.length (eFault.tl ys) ∧ containsF_pre (xs.getD i.toNat eFault.dflt).paper (xs.getD i.toNat eFault.dflt).kind (xs.getD i.toNat eFault.dflt).field (xs.getD i.toNat eFault.dflt).why (eFault.dl ys.length (eFault.tl ys))) ∧ bif bP ({ paper := (xs.getD i.toNat eFault.dflt).paper, kind := (xs.getD i.toNat eFault.dflt).kind, field := (xs.getD i.toNat eFault.dflt).field, why := (xs.getD i.toNat eFault.dflt).why } ∈ eFault.dl ys.length (eFault.tl ys)) then R (V.kn (Value.int IntKind.i64 i)) [O.cells [V.list (4 : Nat) ys.length (eFault.tl ys)]] else good { fr := { fn := (47 : Nat), nt := (19 : Nat), t := [((0 : Nat), V.list (4 : Nat) xs.length (eFault.tl xs)), ((1 : Nat), V.fn (33 : Nat) [V.ptr (0 : Nat) (0 : Nat)]), ((7 : Nat), V.kn (Value.int IntKind.i64 ↑xs.length)), ((8 : Nat), V.kn (Value.int IntKind.i64 (IntKind.i64.wrap (i + (1 : Int)))))], k := loopK Try.prog (47 : Nat) (2 : Nat) }, cs := [], h := [O.cells [V.list (4 : Nat) ys.length (eFault.tl ys)]] } else R (V.kn (Value.int IntKind.i64 (-1 : Int))) [O.cells [V.list (4 : Nat) ys.length (eFault.tl ys)]]) := by kernel_rfl
theorem indexFn_ok  (xs : List Fault) (ys : List Fault) (len_xs : xs.length ≤ maxLen) (len_ys : ys.length ≤ maxLen) (hp : indexFn_pre xs ys) (good : Cfg → Prop) (hstep : ∀ c, arun Try.prog (conOf [(34, lift GcontainsF)]) (1, [(47, 2, [0, 1, 7, 8], [])]) good (RetS 1 [.list eFault.s xs.length (eFault.tl xs), .fn 33 [.ptr 0 0]] [] (TellsO 1 (indexFn_val xs ys) (indexFn_objs xs ys))) 400 (c) → good c) (hext : ∀ c c', CfgExt c c' → good c' → good c) (hle : ∀ c c', CfgLe 1 c c' → good c' → good c) : arun Try.prog (conOf [(34, lift GcontainsF)]) (1, [(47, 2, [0, 1, 7, 8], [])]) good (RetS 1 [.list eFault.s xs.length (eFault.tl xs), .fn 33 [.ptr 0 0]] [] (TellsO 1 (indexFn_val xs ys) (indexFn_objs xs ys))) 400 (entryO Try.prog 47 [.list eFault.s xs.length (eFault.tl xs), .fn 33 [.ptr 0 0]] [.cells [.list eFault.s ys.length (eFault.tl ys)]]) := by
  rw [indexFn_res]
  refine foreach xs (fun i (_ : Unit) => ∀ j (hl : j < xs.length), j < i → ¬ xs[j] ∈ ys) (fun i _ => indexFn_c2 xs ys i) (fun i _ hi hv ih => ?_) (fun _ hv => ?_) () (fun j hl hj => by omega)
  · apply hstep
    rw [indexFn_l2]
    have e1 : (i : Int).toNat = i := by omega
    have ok : eFault.okl 4 ys.length (eFault.tl ys) := eFault.okl_tl len_ys
    rw [e1, wrap_succ hi len_xs, getD_at _ hi, eFault.dl_tl]
    refine cond_true' (decide_eq_true (by omega)) ⟨⟨by omega, by omega⟩, ⟨ok, trivial⟩, cond_intro (fun h => ?_) (fun h => ih () (fun j hl hj => ?_))⟩
    · refine tellO_eq ?_ (OExts.refl _)
      rw [indexFn_val, idxP_hit (p := fun x => x ∈ ys) hi hv (bP_iff.1 h)]
    · by_cases hji : j = i
      · subst hji; exact bP_not.1 h
      · exact hv j hl (by omega)
  · apply hstep
    rw [indexFn_l2]
    refine cond_false' (decide_eq_false (by omega)) (tellO_eq ?_ (OExts.refl _))
    rw [indexFn_val, idxP_miss fun j hl => hv j hl hl]
theorem indexFn_con : SpecOK Try.prog 47 (liftS [(1, [0])] SindexFn) := by
  refine liftS_ok (con_of_runS (con := conOf [(34, lift GcontainsF)]) (hs := (1, [(47, 2, [0, 1, 7, 8], [])])) 400 [] Try.func47 rfl (by kernel_rfl) (conCons containsF_con conNil) ?_)
  intro args0 os0
  unfold SindexFn
  split
  case h_2 => trivial
  rename_i s_xs n_xs f_xs s_ys n_ys f_ys
  intro hp
  obtain ⟨ok_xs, hp⟩ := hp
  obtain ⟨ok_ys, hp⟩ := hp
  exact ⟨[.list eFault.s (eFault.dl n_xs f_xs).length (eFault.tl (eFault.dl n_xs f_xs)), .fn 33 [.ptr 0 0]], [.cells [.list eFault.s (eFault.dl n_ys f_ys).length (eFault.tl (eFault.dl n_ys f_ys))]], ⟨eFault.extl ok_xs, VExt.refl _, trivial⟩, by simp [Try.ntmps47], rfl, Re.exts (⟨OExt.cells ⟨eFault.extl ok_ys, trivial⟩, trivial⟩), fun good hstep hext hle => indexFn_ok _ _ (by rw [eFault.dl_length]; exact ok_xs.2.1) (by rw [eFault.dl_length]; exact ok_ys.2.1) hp good hstep hext hle⟩
def contFn_pre  (xs : List Fault) (ys : List Fault) : Prop := True
noncomputable def contFn_val  (xs : List Fault) (ys : List Fault) : V := .kn (.bool (bP (∃ x ∈ xs, x ∈ ys)))
noncomputable def contFn_objs  (xs : List Fault) (ys : List Fault) : List O := [.cells [.list eFault.s ys.length (eFault.tl ys)]]
noncomputable def ScontFn : SSpec
  | [.list s_xs n_xs f_xs, .fn 33 [.ptr 0 0]], [.cells [.list s_ys n_ys f_ys]] => .ret (eFault.okl s_xs n_xs f_xs ∧ eFault.okl s_ys n_ys f_ys ∧ contFn_pre (eFault.dl n_xs f_xs) (eFault.dl n_ys f_ys)) (contFn_val (eFault.dl n_xs f_xs) (eFault.dl n_ys f_ys)) (contFn_objs (eFault.dl n_xs f_xs) (eFault.dl n_ys f_ys))
  | _, _ => .none
theorem contFn_res  (xs : List Fault) (ys : List Fault) (good : Cfg → Prop) (R : V → List O → Prop) : arun Try.prog (conOf [(47, liftS [(1, [0])] SindexFn)]) (1, []) good (RetS 1 [.list eFault.s xs.length (eFault.tl xs), .fn 33 [.ptr 0 0]] [] (R)) 400 (entryO Try.prog 32 [.list eFault.s xs.length (eFault.tl xs), .fn 33 [.ptr 0 0]] [.cells [.list eFault.s ys.length (eFault.tl ys)]]) =
    ((eFault.okl (4 : Nat) xs.length (eFault.tl xs) ∧ eFault.okl (4 : Nat) ys.length (eFault.tl ys) ∧ indexFn_pre (eFault.dl xs.length (eFault.tl xs)) (eFault.dl ys.length (eFault.tl ys))) ∧ R (V.kn (Value.bool (decide (idxP (fun x => x ∈ eFault.dl ys.length (eFault.tl ys)) (eFault.dl xs.length (eFault.tl xs)) ≥ (0 : Int))))) [O.cells [V.list (4 : Nat) (eFault.dl ys.length (eFault.tl ys)).length (eFault.tl (eFault.dl ys.length (eFault.tl ys)))]]) := by kernel_rfl
theorem contFn_ok  (xs : List Fault) (ys : List Fault) (len_xs : xs.length ≤ maxLen) (len_ys : ys.length ≤ maxLen) (hp : contFn_pre xs ys) (good : Cfg → Prop) (hstep : ∀ c, arun Try.prog (conOf [(47, liftS [(1, [0])] SindexFn)]) (1, []) good (RetS 1 [.list eFault.s xs.length (eFault.tl xs), .fn 33 [.ptr 0 0]] [] (TellsO 1 (contFn_val xs ys) (contFn_objs xs ys))) 400 (c) → good c) (hext : ∀ c c', CfgExt c c' → good c' → good c) (hle : ∀ c c', CfgLe 1 c c' → good c' → good c) : arun Try.prog (conOf [(47, liftS [(1, [0])] SindexFn)]) (1, []) good (RetS 1 [.list eFault.s xs.length (eFault.tl xs), .fn 33 [.ptr 0 0]] [] (TellsO 1 (contFn_val xs ys) (contFn_objs xs ys))) 400 (entryO Try.prog 32 [.list eFault.s xs.length (eFault.tl xs), .fn 33 [.ptr 0 0]] [.cells [.list eFault.s ys.length (eFault.tl ys)]]) := by
  rw [contFn_res]
  have ok : eFault.okl 4 xs.length (eFault.tl xs) := eFault.okl_tl len_xs
  have ok2 : eFault.okl 4 ys.length (eFault.tl ys) := eFault.okl_tl len_ys
  simp only [eFault.dl_tl]
  refine ⟨⟨ok, ok2, trivial⟩, tellO_bool ?_ (OExts.refl _)⟩
  refine (bP_eq ?_).symm
  rw [decide_eq_true_eq]
  show 0 ≤ idxP _ xs ↔ _
  rw [idxP_nonneg]
theorem contFn_con : SpecOK Try.prog 32 (liftS [(1, [0])] ScontFn) := by
  refine liftS_ok (con_of_runS (con := conOf [(47, liftS [(1, [0])] SindexFn)]) (hs := (1, [])) 400 [] Try.func32 rfl (by kernel_rfl) (conCons indexFn_con conNil) ?_)
  intro args0 os0
  unfold ScontFn
  split
  case h_2 => trivial
  rename_i s_xs n_xs f_xs s_ys n_ys f_ys
  intro hp
  obtain ⟨ok_xs, hp⟩ := hp
  obtain ⟨ok_ys, hp⟩ := hp
  exact ⟨[.list eFault.s (eFault.dl n_xs f_xs).length (eFault.tl (eFault.dl n_xs f_xs)), .fn 33 [.ptr 0 0]], [.cells [.list eFault.s (eFault.dl n_ys f_ys).length (eFault.tl (eFault.dl n_ys f_ys))]], ⟨eFault.extl ok_xs, VExt.refl _, trivial⟩, by simp [Try.ntmps32], rfl, Re.exts (⟨OExt.cells ⟨eFault.extl ok_ys, trivial⟩, trivial⟩), fun good hstep hext hle => contFn_ok _ _ (by rw [eFault.dl_length]; exact ok_xs.2.1) (by rw [eFault.dl_length]; exact ok_ys.2.1) hp good hstep hext hle⟩
def nAnswer_pre (p a : Int) (r : List Int) (h : List Int) (fs : List Fault) (ts : List Fault) : Prop := inI64 p
noncomputable def nAnswer_val (p a : Int) (r : List Int) (h : List Int) (fs : List Fault) (ts : List Fault) : V := .kn (.int .i64 (answerI (deadline r h p) p a fs ts))
noncomputable def GnAnswer : PSpec
  | [.agg [.list s_r n_r f_r, .list s_h n_h f_h], .kn (.int .i64 p), .kn (.int .i64 a), .list s_fs n_fs f_fs, .list s_ts n_ts f_ts] => some (eInt.okl s_r n_r f_r ∧ eInt.okl s_h n_h f_h ∧ eFault.okl s_fs n_fs f_fs ∧ eFault.okl s_ts n_ts f_ts ∧ nAnswer_pre p a (eInt.dl n_r f_r) (eInt.dl n_h f_h) (eFault.dl n_fs f_fs) (eFault.dl n_ts f_ts), nAnswer_val p a (eInt.dl n_r f_r) (eInt.dl n_h f_h) (eFault.dl n_fs f_fs) (eFault.dl n_ts f_ts))
  | _ => none
theorem nAnswer_res (p a : Int) (r : List Int) (h : List Int) (fs : List Fault) (ts : List Fault) (good : Cfg → Prop) (R : Option V → Prop) : arun Try.prog (conOf [(10, lift GnDeadline), (32, liftS [(1, [0])] ScontFn)]) (0, []) good (RetO (R)) 1000 (entry Try.prog 19 [.agg [.list eInt.s r.length (eInt.tl r), .list eInt.s h.length (eInt.tl h)], .kn (.int .i64 p), .kn (.int .i64 a), .list eFault.s fs.length (eFault.tl fs), .list eFault.s ts.length (eFault.tl ts)]) =
    (bif ↑fs.length == (0 : Int) then R (some (V.kn (Value.int IntKind.i64 (0 : Int)))) else (eInt.okl (1 : Nat) r.length (eInt.tl r) ∧ eInt.okl (1 : Nat) h.length (eInt.tl h) ∧ nDeadline_pre p (eInt.dl r.length (eInt.tl r)) (eInt.dl h.length (eInt.tl h))) ∧ ((0 : Int) ≤ (0 : Int) ∧ (0 : Int) < (3 : Int)) ∧ (0 : Nat) < (3 : Nat) ∧ bif !(deadline (eInt.dl r.length (eInt.tl r)) (eInt.dl h.length (eInt.tl h)) p).isSome then R (some (V.kn (Value.int IntKind.i64 (2 : Int)))) else ((0 : Int) ≤ (1 : Int) ∧ (1 : Int) < (3 : Int)) ∧ (1 : Nat) < (3 : Nat) ∧ bif decide (a > (deadline (eInt.dl r.length (eInt.tl r)) (eInt.dl h.length (eInt.tl h)) p).getD (0 : Int)) then R (some (V.kn (Value.int IntKind.i64 (2 : Int)))) else bif decide (a < p) then R (some (V.kn (Value.int IntKind.i64 (2 : Int)))) else ((0 : Int) ≤ (2 : Int) ∧ (2 : Int) < (3 : Int)) ∧ (2 : Nat) < (3 : Nat) ∧ (eFault.okl (4 : Nat) ts.length (eFault.tl ts) ∧ eFault.okl (4 : Nat) fs.length (eFault.tl fs) ∧ contFn_pre (eFault.dl ts.length (eFault.tl ts)) (eFault.dl fs.length (eFault.tl fs))) ∧ bif !bP (∃ x, x ∈ eFault.dl ts.length (eFault.tl ts) ∧ x ∈ eFault.dl fs.length (eFault.tl fs)) then R (some (V.kn (Value.int IntKind.i64 (2 : Int)))) else R (some (V.kn (Value.int IntKind.i64 (1 : Int))))) := by kernel_rfl
theorem nAnswer_ok (p a : Int) (r : List Int) (h : List Int) (fs : List Fault) (ts : List Fault) (len_r : r.length ≤ maxLen) (len_h : h.length ≤ maxLen) (len_fs : fs.length ≤ maxLen) (len_ts : ts.length ≤ maxLen) (hp : nAnswer_pre p a r h fs ts) (good : Cfg → Prop) (hstep : ∀ c, arun Try.prog (conOf [(10, lift GnDeadline), (32, liftS [(1, [0])] ScontFn)]) (0, []) good (RetO (Tells (nAnswer_val p a r h fs ts))) 1000 (c) → good c) (hext : ∀ c c', CfgExt c c' → good c' → good c) (hle : ∀ c c', CfgLe 0 c c' → good c' → good c) : arun Try.prog (conOf [(10, lift GnDeadline), (32, liftS [(1, [0])] ScontFn)]) (0, []) good (RetO (Tells (nAnswer_val p a r h fs ts))) 1000 (entry Try.prog 19 [.agg [.list eInt.s r.length (eInt.tl r), .list eInt.s h.length (eInt.tl h)], .kn (.int .i64 p), .kn (.int .i64 a), .list eFault.s fs.length (eFault.tl fs), .list eFault.s ts.length (eFault.tl ts)]) := by
  rw [nAnswer_res]
  have ok_r : eInt.okl 1 r.length (eInt.tl r) := eInt.okl_tl len_r
  have ok_h : eInt.okl 1 h.length (eInt.tl h) := eInt.okl_tl len_h
  try simp only [eInt.dl_tl]
  have ok_f : eFault.okl 4 fs.length (eFault.tl fs) := eFault.okl_tl len_fs
  have ok_t : eFault.okl 4 ts.length (eFault.tl ts) := eFault.okl_tl len_ts
  try simp only [eFault.dl_tl]
  
  refine cond_intro (fun h1 => tell ?_) (fun h1 => ?_)
  · have e : fs = [] := by simpa using h1
    rw [nAnswer_val, e, answer_nil]
  have hne : fs ≠ [] := by intro e; subst e; simp at h1
  
  refine ⟨⟨ok_r, ok_h, hp⟩, ⟨by omega, by omega⟩, by omega, ?_⟩
  cases hd : deadline r h p with
  | none => exact tell (by rw [nAnswer_val, hd, answer_none hne])
  | some b =>
    refine ⟨⟨by omega, by omega⟩, by omega, cond_intro (fun h2 => tell ?_) (fun h2 => cond_intro (fun h3 => tell ?_) (fun h3 => ⟨⟨by omega, by omega⟩, by omega, ⟨ok_t, ok_f, trivial⟩, cond_intro (fun h4 => tell ?_) (fun h4 => tell ?_)⟩))⟩
    all_goals simp only [Option.getD_some, decide_eq_true_eq, decide_eq_false_iff_not, Bool.not_eq_true', Bool.not_eq_false', bP_iff, bP_not] at *
    · rw [nAnswer_val, hd, answer_no hne (by intro hh; have := hh.1; omega)]
    · rw [nAnswer_val, hd, answer_no hne (by intro hh; have := hh.2.1; omega)]
    · rw [nAnswer_val, hd, answer_no hne (by intro hh; exact h4 hh.2.2)]
    · rw [nAnswer_val, hd, answer_yes hne ⟨by omega, by omega, h4⟩]
theorem nAnswer_con : SpecOK Try.prog 19 (lift GnAnswer) := by
  refine con_of_run3 (con := conOf [(10, lift GnDeadline), (32, liftS [(1, [0])] ScontFn)]) (hs := (0, [])) 1000 Try.func19 rfl (by kernel_rfl) rfl (conCons nDeadline_con (conCons contFn_con conNil)) ?_
  intro args0 p r hG hp
  unfold GnAnswer at hG
  split at hG
  case h_2 => cases hG
  rename_i s_r n_r f_r s_h n_h f_h p a s_fs n_fs f_fs s_ts n_ts f_ts
  cases hG
  obtain ⟨ok_r, hp⟩ := hp
  obtain ⟨ok_h, hp⟩ := hp
  obtain ⟨ok_fs, hp⟩ := hp
  obtain ⟨ok_ts, hp⟩ := hp
  exact ⟨[.agg [.list eInt.s (eInt.dl n_r f_r).length (eInt.tl (eInt.dl n_r f_r)), .list eInt.s (eInt.dl n_h f_h).length (eInt.tl (eInt.dl n_h f_h))], .kn (.int .i64 p), .kn (.int .i64 a), .list eFault.s (eFault.dl n_fs f_fs).length (eFault.tl (eFault.dl n_fs f_fs)), .list eFault.s (eFault.dl n_ts f_ts).length (eFault.tl (eFault.dl n_ts f_ts))], ⟨VExt.agg ⟨eInt.extl ok_r, eInt.extl ok_h, trivial⟩, VExt.refl _, VExt.refl _, eFault.extl ok_fs, eFault.extl ok_ts, trivial⟩, by simp [Try.ntmps19], fun good hstep hext hle => nAnswer_ok _ _ _ _ _ _ (by rw [eInt.dl_length]; exact ok_r.2.1) (by rw [eInt.dl_length]; exact ok_h.2.1) (by rw [eFault.dl_length]; exact ok_fs.2.1) (by rw [eFault.dl_length]; exact ok_ts.2.1) hp good hstep hext hle⟩
def rCounts_pre  (fs : List Fault) (ts : List Fault) : Prop := True
noncomputable def rCounts_val  (fs : List Fault) (ts : List Fault) : V := .kn (.bool (bP (∃ x ∈ ts, x ∈ fs)))
noncomputable def GrCounts : PSpec
  | [.list s_fs n_fs f_fs, .list s_ts n_ts f_ts] => some (eFault.okl s_fs n_fs f_fs ∧ eFault.okl s_ts n_ts f_ts ∧ rCounts_pre (eFault.dl n_fs f_fs) (eFault.dl n_ts f_ts), rCounts_val (eFault.dl n_fs f_fs) (eFault.dl n_ts f_ts))
  | _ => none
theorem rCounts_res  (fs : List Fault) (ts : List Fault) (good : Cfg → Prop) (R : Option V → Prop) : arun Try.prog (conOf []) (0, [(35, 2, [0, 1, 5], []), (35, 5, [0, 1, 5, 6], [])]) good (RetO (R)) 400 (entry Try.prog 35 [.list eFault.s fs.length (eFault.tl fs), .list eFault.s ts.length (eFault.tl ts)]) =
    (good { fr := { fn := (35 : Nat), nt := (28 : Nat), t := [((0 : Nat), V.list (4 : Nat) fs.length (eFault.tl fs)), ((1 : Nat), V.list (4 : Nat) ts.length (eFault.tl ts)), ((5 : Nat), V.kn (Value.int IntKind.i64 (0 : Int)))], k := loopK Try.prog (35 : Nat) (2 : Nat) }, cs := [], h := [] }) := by kernel_rfl
@[reducible] noncomputable def rCounts_c2 (fs : List Fault) (ts : List Fault) (i : Int) : Cfg := ⟨⟨35, 28, [(0, .list eFault.s fs.length (eFault.tl fs)), (1, .list eFault.s ts.length (eFault.tl ts)), (5, .kn (.int .i64 i))], loopK Try.prog 35 2⟩, [], []⟩
theorem rCounts_l2 (fs : List Fault) (ts : List Fault) (i : Int) (good : Cfg → Prop) (R : Option V → Prop) : arun Try.prog (conOf []) (0, [(35, 2, [0, 1, 5], []), (35, 5, [0, 1, 5, 6], [])]) good (RetO (R)) 400 (rCounts_c2 fs ts i) =
    (bif decide (i < ↑ts.length) then good { fr := { fn := (35 : Nat), nt := (28 : Nat), t := [((0 : Nat), V.list (4 : Nat) fs.length (eFault.tl fs)), ((1 : Nat), V.list (4 : Nat) ts.length (eFault.tl ts)), ((5 : Nat), V.kn (Value.int IntKind.i64 i)), ((6 : Nat), V.kn (Value.int IntKind.i64 (0 : Int)))], k := loopK Try.prog (35 : Nat) (5 : Nat) }, cs := [], h := [] } else R (some (V.kn (Value.bool false)))) := by kernel_rfl
@[reducible] noncomputable def rCounts_c5 (fs : List Fault) (ts : List Fault) (i k : Int) : Cfg := ⟨⟨35, 28, [(0, .list eFault.s fs.length (eFault.tl fs)), (1, .list eFault.s ts.length (eFault.tl ts)), (5, .kn (.int .i64 i)), (6, .kn (.int .i64 k))], loopK Try.prog 35 5⟩, [], []⟩
theorem rCounts_l5 (fs : List Fault) (ts : List Fault) (i k : Int) (good : Cfg → Prop) (R : Option V → Prop) : arun Try.prog (conOf []) (0, [(35, 2, [0, 1, 5], []), (35, 5, [0, 1, 5, 6], [])]) good (RetO (R)) 400 (rCounts_c5 fs ts i k) =
    (bif decide (k < ↑fs.length) then ((0 : Int) ≤ i ∧ i < ↑ts.length) ∧ ((0 : Int) ≤ k ∧ k < ↑fs.length) ∧ bif (ts.getD i.toNat eFault.dflt).paper == (fs.getD k.toNat eFault.dflt).paper && ((ts.getD i.toNat eFault.dflt).kind == (fs.getD k.toNat eFault.dflt).kind && ((ts.getD i.toNat eFault.dflt).field == (fs.getD k.toNat eFault.dflt).field && ((ts.getD i.toNat eFault.dflt).why == (fs.getD k.toNat eFault.dflt).why && true))) then R (some (V.kn (Value.bool true))) else good { fr := { fn := (35 : Nat), nt := (28 : Nat), t := [((0 : Nat), V.list (4 : Nat) fs.length (eFault.tl fs)), ((1 : Nat), V.list (4 : Nat) ts.length (eFault.tl ts)), ((5 : Nat), V.kn (Value.int IntKind.i64 i)), ((6 : Nat), V.kn (Value.int IntKind.i64 (IntKind.i64.wrap (k + (1 : Int)))))], k := loopK Try.prog (35 : Nat) (5 : Nat) }, cs := [], h := [] } else good { fr := { fn := (35 : Nat), nt := (28 : Nat), t := [((0 : Nat), V.list (4 : Nat) fs.length (eFault.tl fs)), ((1 : Nat), V.list (4 : Nat) ts.length (eFault.tl ts)), ((5 : Nat), V.kn (Value.int IntKind.i64 (IntKind.i64.wrap (i + (1 : Int)))))], k := loopK Try.prog (35 : Nat) (2 : Nat) }, cs := [], h := [] }) := by kernel_rfl
theorem rCounts_ok  (fs : List Fault) (ts : List Fault) (len_fs : fs.length ≤ maxLen) (len_ts : ts.length ≤ maxLen) (hp : rCounts_pre fs ts) (good : Cfg → Prop) (hstep : ∀ c, arun Try.prog (conOf []) (0, [(35, 2, [0, 1, 5], []), (35, 5, [0, 1, 5, 6], [])]) good (RetO (Tells (rCounts_val fs ts))) 400 (c) → good c) (hext : ∀ c c', CfgExt c c' → good c' → good c) (hle : ∀ c c', CfgLe 0 c c' → good c' → good c) : arun Try.prog (conOf []) (0, [(35, 2, [0, 1, 5], []), (35, 5, [0, 1, 5, 6], [])]) good (RetO (Tells (rCounts_val fs ts))) 400 (entry Try.prog 35 [.list eFault.s fs.length (eFault.tl fs), .list eFault.s ts.length (eFault.tl ts)]) := by
  rw [rCounts_res]
  refine foreach ts (fun i (_ : Unit) => ∀ j (hl : j < ts.length), j < i → ¬ ts[j] ∈ fs) (fun i _ => rCounts_c2 fs ts i) (fun i _ hi hv ih => ?_) (fun _ hv => ?_) () (fun j hl hj => by omega)
  · apply hstep
    rw [rCounts_l2]
    have e1 : (i : Int).toNat = i := by omega
    refine cond_true' (decide_eq_true (by omega)) ?_
    refine foreach fs (fun k (_ : Unit) => ∀ j (hl : j < fs.length), j < k → ¬ ts[i] = fs[j]) (fun k _ => rCounts_c5 fs ts i k) (fun k _ hk hw ih2 => ?_) (fun _ hw => ?_) () (fun j hl hj => by omega)
    · apply hstep
      rw [rCounts_l5]
      have e2 : (k : Int).toNat = k := by omega
      rw [e1, e2, wrap_succ hk len_fs, getD_at _ hi, getD_at _ hk, fault_beq]
      refine cond_true' (decide_eq_true (by omega)) ⟨⟨by omega, by omega⟩, ⟨by omega, by omega⟩, cond_intro (fun h => ?_) (fun h => ih2 () (fun j hl hj => ?_))⟩
      · have h' : ts[i] = fs[k] := bP_iff.1 h
        exact tell_true ⟨ts[i], List.getElem_mem hi, by rw [h']; exact List.getElem_mem hk⟩
      · by_cases hjk : j = k
        · subst hjk; exact bP_not.1 h
        · exact hw j hl (by omega)
    · apply hstep
      rw [rCounts_l5, wrap_succ hi len_ts]
      refine cond_false' (decide_eq_false (by omega)) (ih () fun j hl hj => ?_)
      by_cases hji : j = i
      · subst hji
        intro hm
        obtain ⟨q, hq, e⟩ := List.getElem_of_mem hm
        exact hw q hq hq e.symm
      · exact hv j hl (by omega)
  · apply hstep
    rw [rCounts_l2]
    refine cond_false' (decide_eq_false (by omega)) (tell_false fun ⟨x, hx, hf⟩ => ?_)
    obtain ⟨j, hj, rfl⟩ := List.getElem_of_mem hx
    exact hv j hj hj hf
theorem rCounts_con : SpecOK Try.prog 35 (lift GrCounts) := by
  refine con_of_run3 (con := conOf []) (hs := (0, [(35, 2, [0, 1, 5], []), (35, 5, [0, 1, 5, 6], [])])) 400 Try.func35 rfl (by kernel_rfl) rfl conNil ?_
  intro args0 p r hG hp
  unfold GrCounts at hG
  split at hG
  case h_2 => cases hG
  rename_i s_fs n_fs f_fs s_ts n_ts f_ts
  cases hG
  obtain ⟨ok_fs, hp⟩ := hp
  obtain ⟨ok_ts, hp⟩ := hp
  exact ⟨[.list eFault.s (eFault.dl n_fs f_fs).length (eFault.tl (eFault.dl n_fs f_fs)), .list eFault.s (eFault.dl n_ts f_ts).length (eFault.tl (eFault.dl n_ts f_ts))], ⟨eFault.extl ok_fs, eFault.extl ok_ts, trivial⟩, by simp [Try.ntmps35], fun good hstep hext hle => rCounts_ok _ _ (by rw [eFault.dl_length]; exact ok_fs.2.1) (by rw [eFault.dl_length]; exact ok_ts.2.1) hp good hstep hext hle⟩
def rAnswer_pre (p a : Int) (r : List Int) (h : List Int) (fs : List Fault) (ts : List Fault) : Prop := inI64 p
noncomputable def rAnswer_val (p a : Int) (r : List Int) (h : List Int) (fs : List Fault) (ts : List Fault) : V := .kn (.int .i64 (answerI (deadline r h p) p a fs ts))
noncomputable def GrAnswer : PSpec
  | [.agg [.list s_r n_r f_r, .list s_h n_h f_h], .kn (.int .i64 p), .kn (.int .i64 a), .list s_fs n_fs f_fs, .list s_ts n_ts f_ts] => some (eInt.okl s_r n_r f_r ∧ eInt.okl s_h n_h f_h ∧ eFault.okl s_fs n_fs f_fs ∧ eFault.okl s_ts n_ts f_ts ∧ rAnswer_pre p a (eInt.dl n_r f_r) (eInt.dl n_h f_h) (eFault.dl n_fs f_fs) (eFault.dl n_ts f_ts), rAnswer_val p a (eInt.dl n_r f_r) (eInt.dl n_h f_h) (eFault.dl n_fs f_fs) (eFault.dl n_ts f_ts))
  | _ => none
theorem rAnswer_res (p a : Int) (r : List Int) (h : List Int) (fs : List Fault) (ts : List Fault) (good : Cfg → Prop) (R : Option V → Prop) : arun Try.prog (conOf [(15, lift GrDeadline), (35, lift GrCounts)]) (0, []) good (RetO (R)) 400 (entry Try.prog 20 [.agg [.list eInt.s r.length (eInt.tl r), .list eInt.s h.length (eInt.tl h)], .kn (.int .i64 p), .kn (.int .i64 a), .list eFault.s fs.length (eFault.tl fs), .list eFault.s ts.length (eFault.tl ts)]) =
    (bif ↑fs.length == (0 : Int) then R (some (V.kn (Value.int IntKind.i64 (0 : Int)))) else (eInt.okl (1 : Nat) r.length (eInt.tl r) ∧ eInt.okl (1 : Nat) h.length (eInt.tl h) ∧ rDeadline_pre p (eInt.dl r.length (eInt.tl r)) (eInt.dl h.length (eInt.tl h))) ∧ bif !(deadline (eInt.dl r.length (eInt.tl r)) (eInt.dl h.length (eInt.tl h)) p).isSome then R (some (V.kn (Value.int IntKind.i64 (2 : Int)))) else bif decide (a > (deadline (eInt.dl r.length (eInt.tl r)) (eInt.dl h.length (eInt.tl h)) p).getD (0 : Int)) then R (some (V.kn (Value.int IntKind.i64 (2 : Int)))) else bif decide (a < p) then R (some (V.kn (Value.int IntKind.i64 (2 : Int)))) else (eFault.okl (4 : Nat) fs.length (eFault.tl fs) ∧ eFault.okl (4 : Nat) ts.length (eFault.tl ts) ∧ rCounts_pre (eFault.dl fs.length (eFault.tl fs)) (eFault.dl ts.length (eFault.tl ts))) ∧ bif !bP (∃ x, x ∈ eFault.dl ts.length (eFault.tl ts) ∧ x ∈ eFault.dl fs.length (eFault.tl fs)) then R (some (V.kn (Value.int IntKind.i64 (2 : Int)))) else R (some (V.kn (Value.int IntKind.i64 (1 : Int))))) := by kernel_rfl
theorem rAnswer_ok (p a : Int) (r : List Int) (h : List Int) (fs : List Fault) (ts : List Fault) (len_r : r.length ≤ maxLen) (len_h : h.length ≤ maxLen) (len_fs : fs.length ≤ maxLen) (len_ts : ts.length ≤ maxLen) (hp : rAnswer_pre p a r h fs ts) (good : Cfg → Prop) (hstep : ∀ c, arun Try.prog (conOf [(15, lift GrDeadline), (35, lift GrCounts)]) (0, []) good (RetO (Tells (rAnswer_val p a r h fs ts))) 400 (c) → good c) (hext : ∀ c c', CfgExt c c' → good c' → good c) (hle : ∀ c c', CfgLe 0 c c' → good c' → good c) : arun Try.prog (conOf [(15, lift GrDeadline), (35, lift GrCounts)]) (0, []) good (RetO (Tells (rAnswer_val p a r h fs ts))) 400 (entry Try.prog 20 [.agg [.list eInt.s r.length (eInt.tl r), .list eInt.s h.length (eInt.tl h)], .kn (.int .i64 p), .kn (.int .i64 a), .list eFault.s fs.length (eFault.tl fs), .list eFault.s ts.length (eFault.tl ts)]) := by
  rw [rAnswer_res]
  have ok_r : eInt.okl 1 r.length (eInt.tl r) := eInt.okl_tl len_r
  have ok_h : eInt.okl 1 h.length (eInt.tl h) := eInt.okl_tl len_h
  try simp only [eInt.dl_tl]
  have ok_f : eFault.okl 4 fs.length (eFault.tl fs) := eFault.okl_tl len_fs
  have ok_t : eFault.okl 4 ts.length (eFault.tl ts) := eFault.okl_tl len_ts
  try simp only [eFault.dl_tl]
  
  refine cond_intro (fun h1 => tell ?_) (fun h1 => ?_)
  · have e : fs = [] := by simpa using h1
    rw [rAnswer_val, e, answer_nil]
  have hne : fs ≠ [] := by intro e; subst e; simp at h1
  
  refine ⟨⟨ok_r, ok_h, hp⟩, ?_⟩
  cases hd : deadline r h p with
  | none => exact tell (by rw [rAnswer_val, hd, answer_none hne])
  | some b =>
    refine cond_false' rfl ?_
    refine cond_intro (fun h2 => tell ?_) (fun h2 => ?_)
    rotate_left
    refine cond_intro (fun h3 => tell ?_) (fun h3 => ?_)
    rotate_left
    refine ⟨⟨ok_f, ok_t, trivial⟩, cond_intro (fun h4 => tell ?_) (fun h4 => tell ?_)⟩
    rotate_left
    rotate_left
    all_goals simp only [Option.getD_some, decide_eq_true_eq, decide_eq_false_iff_not, Bool.not_eq_true', Bool.not_eq_false', bP_iff, bP_not] at *
    · rw [rAnswer_val, hd, answer_no hne (by intro hh; have := hh.1; omega)]
    · rw [rAnswer_val, hd, answer_no hne (by intro hh; have := hh.2.1; omega)]
    · rw [rAnswer_val, hd, answer_no hne (by intro hh; exact h4 hh.2.2)]
    · rw [rAnswer_val, hd, answer_yes hne ⟨by omega, by omega, h4⟩]
theorem rAnswer_con : SpecOK Try.prog 20 (lift GrAnswer) := by
  refine con_of_run3 (con := conOf [(15, lift GrDeadline), (35, lift GrCounts)]) (hs := (0, [])) 400 Try.func20 rfl (by kernel_rfl) rfl (conCons rDeadline_con (conCons rCounts_con conNil)) ?_
  intro args0 p r hG hp
  unfold GrAnswer at hG
  split at hG
  case h_2 => cases hG
  rename_i s_r n_r f_r s_h n_h f_h p a s_fs n_fs f_fs s_ts n_ts f_ts
  cases hG
  obtain ⟨ok_r, hp⟩ := hp
  obtain ⟨ok_h, hp⟩ := hp
  obtain ⟨ok_fs, hp⟩ := hp
  obtain ⟨ok_ts, hp⟩ := hp
  exact ⟨[.agg [.list eInt.s (eInt.dl n_r f_r).length (eInt.tl (eInt.dl n_r f_r)), .list eInt.s (eInt.dl n_h f_h).length (eInt.tl (eInt.dl n_h f_h))], .kn (.int .i64 p), .kn (.int .i64 a), .list eFault.s (eFault.dl n_fs f_fs).length (eFault.tl (eFault.dl n_fs f_fs)), .list eFault.s (eFault.dl n_ts f_ts).length (eFault.tl (eFault.dl n_ts f_ts))], ⟨VExt.agg ⟨eInt.extl ok_r, eInt.extl ok_h, trivial⟩, VExt.refl _, VExt.refl _, eFault.extl ok_fs, eFault.extl ok_ts, trivial⟩, by simp [Try.ntmps20], fun good hstep hext hle => rAnswer_ok _ _ _ _ _ _ (by rw [eInt.dl_length]; exact ok_r.2.1) (by rw [eInt.dl_length]; exact ok_h.2.1) (by rw [eFault.dl_length]; exact ok_fs.2.1) (by rw [eFault.dl_length]; exact ok_ts.2.1) hp good hstep hext hle⟩
def NoticeAnswers_pre (p a : Int) (r : List Int) (h : List Int) (fs : List Fault) (ts : List Fault) : Prop := inI64 p
noncomputable def NoticeAnswers_val (p a : Int) (r : List Int) (h : List Int) (fs : List Fault) (ts : List Fault) : V := .kn (.bool true)
noncomputable def GNoticeAnswers : PSpec
  | [.agg [.list s_r n_r f_r, .list s_h n_h f_h], .kn (.int .i64 p), .kn (.int .i64 a), .list s_fs n_fs f_fs, .list s_ts n_ts f_ts] => some (eInt.okl s_r n_r f_r ∧ eInt.okl s_h n_h f_h ∧ eFault.okl s_fs n_fs f_fs ∧ eFault.okl s_ts n_ts f_ts ∧ NoticeAnswers_pre p a (eInt.dl n_r f_r) (eInt.dl n_h f_h) (eFault.dl n_fs f_fs) (eFault.dl n_ts f_ts), NoticeAnswers_val p a (eInt.dl n_r f_r) (eInt.dl n_h f_h) (eFault.dl n_fs f_fs) (eFault.dl n_ts f_ts))
  | _ => none
theorem NoticeAnswers_res (p a : Int) (r : List Int) (h : List Int) (fs : List Fault) (ts : List Fault) (good : Cfg → Prop) (R : Option V → Prop) : arun Try.prog (conOf [(9, lift Gawake), (11, lift Gfew), (19, lift GnAnswer), (20, lift GrAnswer)]) (0, []) good (RetO (R)) 1000 (entry Try.prog 5 [.agg [.list eInt.s r.length (eInt.tl r), .list eInt.s h.length (eInt.tl h)], .kn (.int .i64 p), .kn (.int .i64 a), .list eFault.s fs.length (eFault.tl fs), .list eFault.s ts.length (eFault.tl ts)]) =
    (awake_pre ∧ (eInt.okl (1 : Nat) r.length (eInt.tl r) ∧ eInt.okl (1 : Nat) h.length (eInt.tl h) ∧ few_pre (eInt.dl r.length (eInt.tl r)) (eInt.dl h.length (eInt.tl h))) ∧ bif !decide ((eInt.dl r.length (eInt.tl r)).length ≤ (20 : Nat) ∧ (eInt.dl h.length (eInt.tl h)).length ≤ (60 : Nat)) then R (some (V.kn (Value.bool true))) else bif decide (↑fs.length > (30 : Int)) then R (some (V.kn (Value.bool true))) else bif decide (↑ts.length > (30 : Int)) then R (some (V.kn (Value.bool true))) else (eInt.okl (1 : Nat) r.length (eInt.tl r) ∧ eInt.okl (1 : Nat) h.length (eInt.tl h) ∧ eFault.okl (4 : Nat) fs.length (eFault.tl fs) ∧ eFault.okl (4 : Nat) ts.length (eFault.tl ts) ∧ nAnswer_pre p a (eInt.dl r.length (eInt.tl r)) (eInt.dl h.length (eInt.tl h)) (eFault.dl fs.length (eFault.tl fs)) (eFault.dl ts.length (eFault.tl ts))) ∧ (eInt.okl (1 : Nat) r.length (eInt.tl r) ∧ eInt.okl (1 : Nat) h.length (eInt.tl h) ∧ eFault.okl (4 : Nat) fs.length (eFault.tl fs) ∧ eFault.okl (4 : Nat) ts.length (eFault.tl ts) ∧ rAnswer_pre p a (eInt.dl r.length (eInt.tl r)) (eInt.dl h.length (eInt.tl h)) (eFault.dl fs.length (eFault.tl fs)) (eFault.dl ts.length (eFault.tl ts))) ∧ R (some (V.kn (Value.bool (answerI (deadline (eInt.dl r.length (eInt.tl r)) (eInt.dl h.length (eInt.tl h)) p) p a (eFault.dl fs.length (eFault.tl fs)) (eFault.dl ts.length (eFault.tl ts)) == answerI (deadline (eInt.dl r.length (eInt.tl r)) (eInt.dl h.length (eInt.tl h)) p) p a (eFault.dl fs.length (eFault.tl fs)) (eFault.dl ts.length (eFault.tl ts))))))) := by kernel_rfl
theorem NoticeAnswers_ok (p a : Int) (r : List Int) (h : List Int) (fs : List Fault) (ts : List Fault) (len_r : r.length ≤ maxLen) (len_h : h.length ≤ maxLen) (len_fs : fs.length ≤ maxLen) (len_ts : ts.length ≤ maxLen) (hp : NoticeAnswers_pre p a r h fs ts) (good : Cfg → Prop) (hstep : ∀ c, arun Try.prog (conOf [(9, lift Gawake), (11, lift Gfew), (19, lift GnAnswer), (20, lift GrAnswer)]) (0, []) good (RetO (Tells (NoticeAnswers_val p a r h fs ts))) 1000 (c) → good c) (hext : ∀ c c', CfgExt c c' → good c' → good c) (hle : ∀ c c', CfgLe 0 c c' → good c' → good c) : arun Try.prog (conOf [(9, lift Gawake), (11, lift Gfew), (19, lift GnAnswer), (20, lift GrAnswer)]) (0, []) good (RetO (Tells (NoticeAnswers_val p a r h fs ts))) 1000 (entry Try.prog 5 [.agg [.list eInt.s r.length (eInt.tl r), .list eInt.s h.length (eInt.tl h)], .kn (.int .i64 p), .kn (.int .i64 a), .list eFault.s fs.length (eFault.tl fs), .list eFault.s ts.length (eFault.tl ts)]) := by
  rw [NoticeAnswers_res]
  have ok_r : eInt.okl 1 r.length (eInt.tl r) := eInt.okl_tl len_r
  have ok_h : eInt.okl 1 h.length (eInt.tl h) := eInt.okl_tl len_h
  try simp only [eInt.dl_tl]
  have ok_f : eFault.okl 4 fs.length (eFault.tl fs) := eFault.okl_tl len_fs
  have ok_t : eFault.okl 4 ts.length (eFault.tl ts) := eFault.okl_tl len_ts
  try simp only [eFault.dl_tl]
  
  have k : eInt.okl 1 r.length (eInt.tl r) ∧ eInt.okl 1 h.length (eInt.tl h) ∧ eFault.okl 4 fs.length (eFault.tl fs) ∧ eFault.okl 4 ts.length (eFault.tl ts) ∧ inI64 p := ⟨ok_r, ok_h, ok_f, ok_t, hp⟩
  exact ⟨trivial, ⟨ok_r, ok_h, trivial⟩, cond_intro (fun _ => tell rfl) (fun _ => cond_intro (fun _ => tell rfl) (fun _ => cond_intro (fun _ => tell rfl) (fun _ => ⟨k, k, tell_bool (by simp)⟩)))⟩
/-- data that comes in -/
theorem eFault_vok {u : V} (h : VOK (.sl [.int .i64, .int .i64, .str, .int .i64]) u) : ∃ xs : List Fault, xs.length ≤ maxLen ∧ VExt u (.list eFault.s xs.length (eFault.tl xs)) ∧ ∀ x ∈ xs, eFault_wf x := by
  refine eFault.vok h rfl fun c hl hh => ?_
  match c, hl with
  | [c0, c1, c2, c3], _ =>
    have h0 := hh 0 _ c0 rfl rfl
    have h1 := hh 1 _ c1 rfl rfl
    have h2 := hh 2 _ c2 rfl rfl
    have h3 := hh 3 _ c3 rfl rfl
    obtain ⟨n0, rfl, w0⟩ := vok_int h0
    obtain ⟨n1, rfl, w1⟩ := vok_int h1
    obtain ⟨n2, rfl, w2⟩ := vok_str h2
    obtain ⟨n3, rfl, w3⟩ := vok_int h3
    exact ⟨⟨n0, n1, n2, n3⟩, ⟨VExt.refl _, VExt.refl _, VExt.refl _, VExt.refl _, trivial⟩, ⟨wf_i64 w0, wf_i64 w1, w2, wf_i64 w3⟩⟩

theorem NoticeAnswers_walk (W : World) {u0 : List V} {v0 : Array Value} (o0 : u0.length = 2) (c0 : ∀ (i : Nat) (c : CS) (u : V), ([.sl [.int .i64], .sl [.int .i64]] : List CS)[i]? = some c → u0[i]? = some u → VOK c u) (e0 : RV (whole W) sig0 (.agg u0) (.agg v0)) {u1 : V} {v1 : Value} (o1 : VOK (.int .i64) u1) (e1 : RV (whole W) sig0 u1 v1) {u2 : V} {v2 : Value} (o2 : VOK (.int .i64) u2) (e2 : RV (whole W) sig0 u2 v2) {u3 : V} {v3 : Value} (o3 : VOK (.sl [.int .i64, .int .i64, .str, .int .i64]) u3) (e3 : RV (whole W) sig0 u3 v3) {u4 : V} {v4 : Value} (o4 : VOK (.sl [.int .i64, .int .i64, .str, .int .i64]) u4) (e4 : RV (whole W) sig0 u4 v4) : Calls Try.prog 5 #[.agg v0, v1, v2, v3, v4] W fun e w' => e = .returned (.bool true) ∧ Below W.heap.size W w' := by
  obtain ⟨u0_0, u0_1, rfl⟩ := len_2 o0
  have h0_0 := c0 0 _ u0_0 rfl rfl
  obtain ⟨x0_0, l0_0, e0_0, w0_0⟩ := eInt_vok h0_0
  have h0_1 := c0 1 _ u0_1 rfl rfl
  obtain ⟨x0_1, l0_1, e0_1, w0_1⟩ := eInt_vok h0_1
  obtain ⟨n1, rfl, w1⟩ := vok_int o1
  obtain ⟨n2, rfl, w2⟩ := vok_int o2
  obtain ⟨x3, l3, x3e, w3⟩ := eFault_vok o3
  obtain ⟨x4, l4, x4e, w4⟩ := eFault_vok o4
  exact law_calls3 (con := conOf [(9, lift Gawake), (11, lift Gfew), (19, lift GnAnswer), (20, lift GrAnswer)]) (hs := (0, [])) 1000 Try.func5 rfl (by kernel_rfl) rfl (conCons awake_con (conCons few_con (conCons nAnswer_con (conCons rAnswer_con conNil)))) (args := [_, _, _, _, _]) (args' := [.agg [.list eInt.s x0_0.length (eInt.tl x0_0), .list eInt.s x0_1.length (eInt.tl x0_1)], .kn (.int .i64 n1), .kn (.int .i64 n2), .list eFault.s x3.length (eFault.tl x3), .list eFault.s x4.length (eFault.tl x4)]) ⟨e0, e1, e2, e3, e4, trivial⟩ ⟨VExt.agg ⟨e0_0, e0_1, trivial⟩, VExt.refl _, VExt.refl _, x3e, x4e, trivial⟩ (by simp [Try.ntmps5]) fun good hstep hext hle => NoticeAnswers_ok n1 n2 x0_0 x0_1 x3 x4 l0_0 l0_1 l3 l4 (wf_i64 w1) good hstep hext hle

def NoticeTold_pre (p a k : Int) (r : List Int) (h : List Int) (fs : List Fault) (ts : List Fault) : Prop := inI64 p
noncomputable def NoticeTold_val (p a k : Int) (r : List Int) (h : List Int) (fs : List Fault) (ts : List Fault) : V := .kn (.bool true)
noncomputable def GNoticeTold : PSpec
  | [.agg [.list s_r n_r f_r, .list s_h n_h f_h], .kn (.int .i64 p), .kn (.int .i64 a), .list s_fs n_fs f_fs, .list s_ts n_ts f_ts, .kn (.int .i64 k)] => some (eInt.okl s_r n_r f_r ∧ eInt.okl s_h n_h f_h ∧ eFault.okl s_fs n_fs f_fs ∧ eFault.okl s_ts n_ts f_ts ∧ NoticeTold_pre p a k (eInt.dl n_r f_r) (eInt.dl n_h f_h) (eFault.dl n_fs f_fs) (eFault.dl n_ts f_ts), NoticeTold_val p a k (eInt.dl n_r f_r) (eInt.dl n_h f_h) (eFault.dl n_fs f_fs) (eFault.dl n_ts f_ts))
  | _ => none
theorem NoticeTold_res (p a k : Int) (r : List Int) (h : List Int) (fs : List Fault) (ts : List Fault) (good : Cfg → Prop) (R : Option V → Prop) : arun Try.prog (conOf [(9, lift Gawake), (11, lift Gfew), (10, lift GnDeadline), (19, lift GnAnswer)]) (0, [(6, 10, [1, 2, 3, 4, 6, 15, 16, 17, 18], [(0, 6, []), (0, 16, []), (0, 17, [])]), (6, 14, [1, 2, 3, 4, 6, 15, 16, 17, 18, 19, 20], [(0, 6, []), (0, 16, []), (0, 17, [])])]) good (RetO (R)) 2000 (entry Try.prog 6 [.agg [.list eInt.s r.length (eInt.tl r), .list eInt.s h.length (eInt.tl h)], .kn (.int .i64 p), .kn (.int .i64 a), .list eFault.s fs.length (eFault.tl fs), .list eFault.s ts.length (eFault.tl ts), .kn (.int .i64 k)]) =
    (awake_pre ∧ (eInt.okl (1 : Nat) r.length (eInt.tl r) ∧ eInt.okl (1 : Nat) h.length (eInt.tl h) ∧ nDeadline_pre p (eInt.dl r.length (eInt.tl r)) (eInt.dl h.length (eInt.tl h))) ∧ (eInt.okl (1 : Nat) r.length (eInt.tl r) ∧ eInt.okl (1 : Nat) h.length (eInt.tl h) ∧ few_pre (eInt.dl r.length (eInt.tl r)) (eInt.dl h.length (eInt.tl h))) ∧ bif !decide ((eInt.dl r.length (eInt.tl r)).length ≤ (20 : Nat) ∧ (eInt.dl h.length (eInt.tl h)).length ≤ (60 : Nat)) then R (some (V.kn (Value.bool true))) else bif !(deadline (eInt.dl r.length (eInt.tl r)) (eInt.dl h.length (eInt.tl h)) p).isSome then R (some (V.kn (Value.bool true))) else bif ↑fs.length == (0 : Int) then R (some (V.kn (Value.bool true))) else bif decide (↑fs.length > (30 : Int)) then R (some (V.kn (Value.bool true))) else bif decide (↑ts.length > (30 : Int)) then R (some (V.kn (Value.bool true))) else bif decide (k < (0 : Int)) then R (some (V.kn (Value.bool true))) else bif decide (k ≥ ↑fs.length) then R (some (V.kn (Value.bool true))) else bif decide (a ≥ p) then ((0 : Nat) + ts.length ≤ (9223372036854775807 : Nat) ∧ ((0 : Nat) + ts.length) * (40 : Nat) ≤ (140737488355328 : Nat)) ∧ ((0 : Int) ≤ k ∧ k < ↑fs.length) ∧ ((0 : Nat) + ts.length + (1 : Nat) ≤ (9223372036854775807 : Nat) ∧ ((0 : Nat) + ts.length + (1 : Nat)) * (40 : Nat) ≤ (140737488355328 : Nat)) ∧ good { fr := { fn := (6 : Nat), nt := (137 : Nat), t := [((1 : Nat), V.kn (Value.int IntKind.i64 p)), ((2 : Nat), V.kn (Value.int IntKind.i64 a)), ((3 : Nat), V.list (4 : Nat) fs.length (eFault.tl fs)), ((4 : Nat), V.list (4 : Nat) ts.length (eFault.tl ts)), ((6 : Nat), V.ptr (0 : Nat) (0 : Nat)), ((15 : Nat), V.kn (Value.bool (decide (a ≤ (deadline (eInt.dl r.length (eInt.tl r)) (eInt.dl h.length (eInt.tl h)) p).getD (0 : Int))))), ((16 : Nat), V.sl (1 : Nat)), ((17 : Nat), V.kn (Value.slice none (0 : Nat) (0 : Nat))), ((18 : Nat), V.kn (Value.int IntKind.i64 (0 : Int)))], k := loopK Try.prog (6 : Nat) (10 : Nat) }, cs := [], h := [O.cells [V.list (1 : Nat) r.length (eInt.tl r), V.list (1 : Nat) h.length (eInt.tl h)], O.row (36 : Nat) (4 : Nat) ((0 : Nat) + ts.length + (1 : Nat)) (catF ((0 : Nat) + ts.length) (catF (0 : Nat) (rowF [] (4 : Nat)) (eFault.tl ts)) (rowF [V.kn (Value.int IntKind.i64 (fs.getD k.toNat eFault.dflt).paper), V.kn (Value.int IntKind.i64 (fs.getD k.toNat eFault.dflt).kind), V.kn (Value.string (fs.getD k.toNat eFault.dflt).field), V.kn (Value.int IntKind.i64 (fs.getD k.toNat eFault.dflt).why)] (4 : Nat))) true] } else ((0 : Nat) + ts.length ≤ (9223372036854775807 : Nat) ∧ ((0 : Nat) + ts.length) * (40 : Nat) ≤ (140737488355328 : Nat)) ∧ ((0 : Int) ≤ k ∧ k < ↑fs.length) ∧ ((0 : Nat) + ts.length + (1 : Nat) ≤ (9223372036854775807 : Nat) ∧ ((0 : Nat) + ts.length + (1 : Nat)) * (40 : Nat) ≤ (140737488355328 : Nat)) ∧ good { fr := { fn := (6 : Nat), nt := (137 : Nat), t := [((1 : Nat), V.kn (Value.int IntKind.i64 p)), ((2 : Nat), V.kn (Value.int IntKind.i64 a)), ((3 : Nat), V.list (4 : Nat) fs.length (eFault.tl fs)), ((4 : Nat), V.list (4 : Nat) ts.length (eFault.tl ts)), ((6 : Nat), V.ptr (0 : Nat) (0 : Nat)), ((15 : Nat), V.kn (Value.bool false)), ((16 : Nat), V.sl (1 : Nat)), ((17 : Nat), V.kn (Value.slice none (0 : Nat) (0 : Nat))), ((18 : Nat), V.kn (Value.int IntKind.i64 (0 : Int)))], k := loopK Try.prog (6 : Nat) (10 : Nat) }, cs := [], h := [O.cells [V.list (1 : Nat) r.length (eInt.tl r), V.list (1 : Nat) h.length (eInt.tl h)], O.row (36 : Nat) (4 : Nat) ((0 : Nat) + ts.length + (1 : Nat)) (catF ((0 : Nat) + ts.length) (catF (0 : Nat) (rowF [] (4 : Nat)) (eFault.tl ts)) (rowF [V.kn (Value.int IntKind.i64 (fs.getD k.toNat eFault.dflt).paper), V.kn (Value.int IntKind.i64 (fs.getD k.toNat eFault.dflt).kind), V.kn (Value.string (fs.getD k.toNat eFault.dflt).field), V.kn (Value.int IntKind.i64 (fs.getD k.toNat eFault.dflt).why)] (4 : Nat))) true] }) := by kernel_rfl
@[reducible] noncomputable def NoticeTold_c10 (p a k : Int) (r : List Int) (h : List Int) (fs : List Fault) (ts : List Fault) (wi ot : List Fault) (bb : Bool) (i : Int) : Cfg := ⟨⟨6, 137, [(1, .kn (.int .i64 p)), (2, .kn (.int .i64 a)), (3, .list eFault.s fs.length (eFault.tl fs)), (4, .list eFault.s ts.length (eFault.tl ts)), (6, .ptr 0 0), (15, .kn (.bool bb)), (16, .sl 1), (17, .sl 2), (18, .kn (.int .i64 i))], loopK Try.prog 6 10⟩, [], [.cells [.list eInt.s r.length (eInt.tl r), .list eInt.s h.length (eInt.tl h)], .row 36 4 wi.length (eFault.tl wi) true, .row 36 4 ot.length (eFault.tl ot) true]⟩
theorem NoticeTold_l10 (p a k : Int) (r : List Int) (h : List Int) (fs : List Fault) (ts : List Fault) (wi ot : List Fault) (bb : Bool) (i : Int) (good : Cfg → Prop) (R : Option V → Prop) : arun Try.prog (conOf [(9, lift Gawake), (11, lift Gfew), (10, lift GnDeadline), (19, lift GnAnswer)]) (0, [(6, 10, [1, 2, 3, 4, 6, 15, 16, 17, 18], [(0, 6, []), (0, 16, []), (0, 17, [])]), (6, 14, [1, 2, 3, 4, 6, 15, 16, 17, 18, 19, 20], [(0, 6, []), (0, 16, []), (0, 17, [])])]) good (RetO (R)) 2000 (NoticeTold_c10 p a k r h fs ts wi ot bb i) =
    (bif decide (i < ↑ts.length) then good { fr := { fn := (6 : Nat), nt := (137 : Nat), t := [((1 : Nat), V.kn (Value.int IntKind.i64 p)), ((2 : Nat), V.kn (Value.int IntKind.i64 a)), ((3 : Nat), V.list (4 : Nat) fs.length (eFault.tl fs)), ((4 : Nat), V.list (4 : Nat) ts.length (eFault.tl ts)), ((6 : Nat), V.ptr (0 : Nat) (0 : Nat)), ((15 : Nat), V.kn (Value.bool bb)), ((16 : Nat), V.sl (1 : Nat)), ((17 : Nat), V.sl (2 : Nat)), ((18 : Nat), V.kn (Value.int IntKind.i64 i)), ((19 : Nat), V.kn (Value.bool false)), ((20 : Nat), V.kn (Value.int IntKind.i64 (0 : Int)))], k := loopK Try.prog (6 : Nat) (14 : Nat) }, cs := [], h := [O.cells [V.list (1 : Nat) r.length (eInt.tl r), V.list (1 : Nat) h.length (eInt.tl h)], O.row (36 : Nat) (4 : Nat) wi.length (eFault.tl wi) true, O.row (36 : Nat) (4 : Nat) ot.length (eFault.tl ot) true] } else (eInt.okl (1 : Nat) r.length (eInt.tl r) ∧ eInt.okl (1 : Nat) h.length (eInt.tl h) ∧ eFault.okl (4 : Nat) fs.length (eFault.tl fs) ∧ eFault.okl (4 : Nat) wi.length (eFault.tl wi) ∧ nAnswer_pre p a (eInt.dl r.length (eInt.tl r)) (eInt.dl h.length (eInt.tl h)) (eFault.dl fs.length (eFault.tl fs)) (eFault.dl wi.length (eFault.tl wi))) ∧ bif (answerI (deadline (eInt.dl r.length (eInt.tl r)) (eInt.dl h.length (eInt.tl h)) p) p a (eFault.dl fs.length (eFault.tl fs)) (eFault.dl wi.length (eFault.tl wi)) == (1 : Int)) == bb then (eInt.okl (1 : Nat) r.length (eInt.tl r) ∧ eInt.okl (1 : Nat) h.length (eInt.tl h) ∧ eFault.okl (4 : Nat) fs.length (eFault.tl fs) ∧ eFault.okl (4 : Nat) ot.length (eFault.tl ot) ∧ nAnswer_pre p a (eInt.dl r.length (eInt.tl r)) (eInt.dl h.length (eInt.tl h)) (eFault.dl fs.length (eFault.tl fs)) (eFault.dl ot.length (eFault.tl ot))) ∧ bif answerI (deadline (eInt.dl r.length (eInt.tl r)) (eInt.dl h.length (eInt.tl h)) p) p a (eFault.dl fs.length (eFault.tl fs)) (eFault.dl ot.length (eFault.tl ot)) == (2 : Int) then (eInt.okl (1 : Nat) r.length (eInt.tl r) ∧ eInt.okl (1 : Nat) h.length (eInt.tl h) ∧ (eFault.okl (1 : Nat) (0 : Nat) fun x => []) ∧ eFault.okl (4 : Nat) wi.length (eFault.tl wi) ∧ nAnswer_pre p a (eInt.dl r.length (eInt.tl r)) (eInt.dl h.length (eInt.tl h)) [] (eFault.dl wi.length (eFault.tl wi))) ∧ R (some (V.kn (Value.bool (answerI (deadline (eInt.dl r.length (eInt.tl r)) (eInt.dl h.length (eInt.tl h)) p) p a [] (eFault.dl wi.length (eFault.tl wi)) == (0 : Int))))) else R (some (V.kn (Value.bool false))) else R (some (V.kn (Value.bool false)))) := by kernel_rfl
@[reducible] noncomputable def NoticeTold_c14 (p a k : Int) (r : List Int) (h : List Int) (fs : List Fault) (ts : List Fault) (wi ot : List Fault) (bb : Bool) (i j : Int) (th : Bool) : Cfg := ⟨⟨6, 137, [(1, .kn (.int .i64 p)), (2, .kn (.int .i64 a)), (3, .list eFault.s fs.length (eFault.tl fs)), (4, .list eFault.s ts.length (eFault.tl ts)), (6, .ptr 0 0), (15, .kn (.bool bb)), (16, .sl 1), (17, .sl 2), (18, .kn (.int .i64 i)), (19, .kn (.bool th)), (20, .kn (.int .i64 j))], loopK Try.prog 6 14⟩, [], [.cells [.list eInt.s r.length (eInt.tl r), .list eInt.s h.length (eInt.tl h)], .row 36 4 wi.length (eFault.tl wi) true, .row 36 4 ot.length (eFault.tl ot) true]⟩
theorem NoticeTold_l14 (p a k : Int) (r : List Int) (h : List Int) (fs : List Fault) (ts : List Fault) (wi ot : List Fault) (bb : Bool) (i j : Int) (th : Bool) (good : Cfg → Prop) (R : Option V → Prop) : arun Try.prog (conOf [(9, lift Gawake), (11, lift Gfew), (10, lift GnDeadline), (19, lift GnAnswer)]) (0, [(6, 10, [1, 2, 3, 4, 6, 15, 16, 17, 18], [(0, 6, []), (0, 16, []), (0, 17, [])]), (6, 14, [1, 2, 3, 4, 6, 15, 16, 17, 18, 19, 20], [(0, 6, []), (0, 16, []), (0, 17, [])])]) good (RetO (R)) 2000 (NoticeTold_c14 p a k r h fs ts wi ot bb i j th) =
    (bif decide (j < ↑fs.length) then bif th then good { fr := { fn := (6 : Nat), nt := (137 : Nat), t := [((1 : Nat), V.kn (Value.int IntKind.i64 p)), ((2 : Nat), V.kn (Value.int IntKind.i64 a)), ((3 : Nat), V.list (4 : Nat) fs.length (eFault.tl fs)), ((4 : Nat), V.list (4 : Nat) ts.length (eFault.tl ts)), ((6 : Nat), V.ptr (0 : Nat) (0 : Nat)), ((15 : Nat), V.kn (Value.bool bb)), ((16 : Nat), V.sl (1 : Nat)), ((17 : Nat), V.sl (2 : Nat)), ((18 : Nat), V.kn (Value.int IntKind.i64 i)), ((19 : Nat), V.kn (Value.bool true)), ((20 : Nat), V.kn (Value.int IntKind.i64 (IntKind.i64.wrap (j + (1 : Int)))))], k := loopK Try.prog (6 : Nat) (14 : Nat) }, cs := [], h := [O.cells [V.list (1 : Nat) r.length (eInt.tl r), V.list (1 : Nat) h.length (eInt.tl h)], O.row (36 : Nat) (4 : Nat) wi.length (eFault.tl wi) true, O.row (36 : Nat) (4 : Nat) ot.length (eFault.tl ot) true] } else ((0 : Int) ≤ j ∧ j < ↑fs.length) ∧ ((0 : Int) ≤ i ∧ i < ↑ts.length) ∧ good { fr := { fn := (6 : Nat), nt := (137 : Nat), t := [((1 : Nat), V.kn (Value.int IntKind.i64 p)), ((2 : Nat), V.kn (Value.int IntKind.i64 a)), ((3 : Nat), V.list (4 : Nat) fs.length (eFault.tl fs)), ((4 : Nat), V.list (4 : Nat) ts.length (eFault.tl ts)), ((6 : Nat), V.ptr (0 : Nat) (0 : Nat)), ((15 : Nat), V.kn (Value.bool bb)), ((16 : Nat), V.sl (1 : Nat)), ((17 : Nat), V.sl (2 : Nat)), ((18 : Nat), V.kn (Value.int IntKind.i64 i)), ((19 : Nat), V.kn (Value.bool ((fs.getD j.toNat eFault.dflt).paper == (ts.getD i.toNat eFault.dflt).paper && ((fs.getD j.toNat eFault.dflt).kind == (ts.getD i.toNat eFault.dflt).kind && ((fs.getD j.toNat eFault.dflt).field == (ts.getD i.toNat eFault.dflt).field && ((fs.getD j.toNat eFault.dflt).why == (ts.getD i.toNat eFault.dflt).why && true)))))), ((20 : Nat), V.kn (Value.int IntKind.i64 (IntKind.i64.wrap (j + (1 : Int)))))], k := loopK Try.prog (6 : Nat) (14 : Nat) }, cs := [], h := [O.cells [V.list (1 : Nat) r.length (eInt.tl r), V.list (1 : Nat) h.length (eInt.tl h)], O.row (36 : Nat) (4 : Nat) wi.length (eFault.tl wi) true, O.row (36 : Nat) (4 : Nat) ot.length (eFault.tl ot) true] } else bif !th then ((0 : Int) ≤ i ∧ i < ↑ts.length) ∧ (ot.length + (1 : Nat) ≤ (9223372036854775807 : Nat) ∧ (ot.length + (1 : Nat)) * (40 : Nat) ≤ (140737488355328 : Nat)) ∧ good { fr := { fn := (6 : Nat), nt := (137 : Nat), t := [((1 : Nat), V.kn (Value.int IntKind.i64 p)), ((2 : Nat), V.kn (Value.int IntKind.i64 a)), ((3 : Nat), V.list (4 : Nat) fs.length (eFault.tl fs)), ((4 : Nat), V.list (4 : Nat) ts.length (eFault.tl ts)), ((6 : Nat), V.ptr (0 : Nat) (0 : Nat)), ((15 : Nat), V.kn (Value.bool bb)), ((16 : Nat), V.sl (1 : Nat)), ((17 : Nat), V.sl (2 : Nat)), ((18 : Nat), V.kn (Value.int IntKind.i64 (IntKind.i64.wrap (i + (1 : Int)))))], k := loopK Try.prog (6 : Nat) (10 : Nat) }, cs := [], h := [O.cells [V.list (1 : Nat) r.length (eInt.tl r), V.list (1 : Nat) h.length (eInt.tl h)], O.row (36 : Nat) (4 : Nat) wi.length (eFault.tl wi) true, O.row (36 : Nat) (4 : Nat) (ot.length + (1 : Nat)) (catF ot.length (eFault.tl ot) (rowF [V.kn (Value.int IntKind.i64 (ts.getD i.toNat eFault.dflt).paper), V.kn (Value.int IntKind.i64 (ts.getD i.toNat eFault.dflt).kind), V.kn (Value.string (ts.getD i.toNat eFault.dflt).field), V.kn (Value.int IntKind.i64 (ts.getD i.toNat eFault.dflt).why)] (4 : Nat))) true] } else good { fr := { fn := (6 : Nat), nt := (137 : Nat), t := [((1 : Nat), V.kn (Value.int IntKind.i64 p)), ((2 : Nat), V.kn (Value.int IntKind.i64 a)), ((3 : Nat), V.list (4 : Nat) fs.length (eFault.tl fs)), ((4 : Nat), V.list (4 : Nat) ts.length (eFault.tl ts)), ((6 : Nat), V.ptr (0 : Nat) (0 : Nat)), ((15 : Nat), V.kn (Value.bool bb)), ((16 : Nat), V.sl (1 : Nat)), ((17 : Nat), V.sl (2 : Nat)), ((18 : Nat), V.kn (Value.int IntKind.i64 (IntKind.i64.wrap (i + (1 : Int)))))], k := loopK Try.prog (6 : Nat) (10 : Nat) }, cs := [], h := [O.cells [V.list (1 : Nat) r.length (eInt.tl r), V.list (1 : Nat) h.length (eInt.tl h)], O.row (36 : Nat) (4 : Nat) wi.length (eFault.tl wi) true, O.row (36 : Nat) (4 : Nat) ot.length (eFault.tl ot) true] }) := by kernel_rfl
theorem NoticeTold_ok (p a k : Int) (r : List Int) (h : List Int) (fs : List Fault) (ts : List Fault) (len_r : r.length ≤ maxLen) (len_h : h.length ≤ maxLen) (len_fs : fs.length ≤ maxLen) (len_ts : ts.length ≤ maxLen) (hp : NoticeTold_pre p a k r h fs ts) (good : Cfg → Prop) (hstep : ∀ c, arun Try.prog (conOf [(9, lift Gawake), (11, lift Gfew), (10, lift GnDeadline), (19, lift GnAnswer)]) (0, [(6, 10, [1, 2, 3, 4, 6, 15, 16, 17, 18], [(0, 6, []), (0, 16, []), (0, 17, [])]), (6, 14, [1, 2, 3, 4, 6, 15, 16, 17, 18, 19, 20], [(0, 6, []), (0, 16, []), (0, 17, [])])]) good (RetO (Tells (NoticeTold_val p a k r h fs ts))) 2000 (c) → good c) (hext : ∀ c c', CfgExt c c' → good c' → good c) (hle : ∀ c c', CfgLe 0 c c' → good c' → good c) : arun Try.prog (conOf [(9, lift Gawake), (11, lift Gfew), (10, lift GnDeadline), (19, lift GnAnswer)]) (0, [(6, 10, [1, 2, 3, 4, 6, 15, 16, 17, 18], [(0, 6, []), (0, 16, []), (0, 17, [])]), (6, 14, [1, 2, 3, 4, 6, 15, 16, 17, 18, 19, 20], [(0, 6, []), (0, 16, []), (0, 17, [])])]) good (RetO (Tells (NoticeTold_val p a k r h fs ts))) 2000 (entry Try.prog 6 [.agg [.list eInt.s r.length (eInt.tl r), .list eInt.s h.length (eInt.tl h)], .kn (.int .i64 p), .kn (.int .i64 a), .list eFault.s fs.length (eFault.tl fs), .list eFault.s ts.length (eFault.tl ts), .kn (.int .i64 k)]) := by
  rw [NoticeTold_res]
  have ok_r : eInt.okl 1 r.length (eInt.tl r) := eInt.okl_tl len_r
  have ok_h : eInt.okl 1 h.length (eInt.tl h) := eInt.okl_tl len_h
  try simp only [eInt.dl_tl]
  have ok_f : eFault.okl 4 fs.length (eFault.tl fs) := eFault.okl_tl len_fs
  have ok_t : eFault.okl 4 ts.length (eFault.tl ts) := eFault.okl_tl len_ts
  try simp only [eFault.dl_tl]
  
  have hmx : maxLen = 9223372036854775807 := rfl
  refine ⟨trivial, ⟨ok_r, ok_h, hp⟩, ⟨ok_r, ok_h, trivial⟩, cond_intro (fun _ => tell rfl) (fun _ => ?_)⟩
  cases hd : deadline r h p with
  | none => exact tell rfl
  | some b =>
    refine cond_false' rfl (cond_intro (fun _ => tell rfl) (fun g1 => cond_intro (fun _ => tell rfl) (fun g2 => cond_intro (fun _ => tell rfl) (fun g3 => cond_intro (fun _ => tell rfl) (fun g4 => cond_intro (fun _ => tell rfl) (fun g5 => ?_))))))
    simp only [decide_eq_false_iff_not] at g2 g3 g4 g5
    have hne : fs ≠ [] := by intro e; subst e; simp at g1
    have hk : k.toNat < fs.length := by omega
    have core : ∀ (bb : Bool) (wi : List Fault), (bb = true ↔ (p ≤ a ∧ a ≤ b)) → wi.length ≤ 31 → (∃ x ∈ wi, x ∈ fs) → good (NoticeTold_c10 p a k r h fs ts wi [] bb 0) := fun bb wi hbb hwl hwi => by
      have ok_w : eFault.okl 4 wi.length (eFault.tl wi) := eFault.okl_tl (by omega)
      refine foreach (S := List Fault) ts (fun i ot => ot.length ≤ i ∧ ∀ x ∈ ot, x ∉ fs) (fun i ot => NoticeTold_c10 p a k r h fs ts wi ot bb i) (fun i ot hi hv ih => ?_) (fun ot hv => ?_) [] ⟨by simp, by simp⟩
      · obtain ⟨v1, v2⟩ := hv
        apply hstep
        rw [NoticeTold_l10]
        have e1 : (i : Int).toNat = i := by omega
        refine cond_true' (decide_eq_true (by omega)) ?_
        refine foreach (S := Bool) fs (fun j th => th = bP (∃ (q : Nat) (hq : q < fs.length), q < j ∧ fs[q] = ts[i])) (fun j th => NoticeTold_c14 p a k r h fs ts wi ot bb i j th) (fun j th hj hw ih2 => ?_) (fun th hw => ?_) false (bP_false (by rintro ⟨q, hq, h1, _⟩; omega)).symm
        · apply hstep
          rw [NoticeTold_l14]
          have e2 : (j : Int).toNat = j := by omega
          rw [e1, e2, wrap_succ hj len_fs, getD_at _ hi, getD_at _ hj, fault_beq]
          refine cond_true' (decide_eq_true (by omega)) (cond_intro (fun ht => ih2 true ?_) (fun ht => ⟨⟨by omega, by omega⟩, ⟨by omega, by omega⟩, ih2 _ ?_⟩))
          · rw [hw, bP_iff] at ht
            obtain ⟨q, hq, h1, h2⟩ := ht
            exact (bP_true ⟨q, hq, by omega, h2⟩).symm
          · rw [hw, bP_not] at ht
            refine congrArg bP (propext ⟨fun e => ⟨j, hj, by omega, e⟩, ?_⟩)
            rintro ⟨q, hq, h1, h2⟩
            by_cases hqj : q = j
            · subst hqj; exact h2
            · exact (ht ⟨q, hq, by omega, h2⟩).elim
        · apply hstep
          rw [NoticeTold_l14, e1, wrap_succ hi len_ts, getD_at _ hi]
          have hin : th = bP (ts[i] ∈ fs) := by
            rw [hw]
            refine congrArg bP (propext ⟨fun ⟨q, hq, _, e⟩ => by rw [← e]; exact List.getElem_mem hq, fun hm => ?_⟩)
            obtain ⟨q, hq, e⟩ := List.getElem_of_mem hm
            exact ⟨q, hq, hq, e⟩
          refine cond_false' (decide_eq_false (by omega)) (cond_intro (fun ht => ⟨⟨by omega, by omega⟩, ⟨by omega, by omega⟩, ?_⟩) (fun ht => ih ot ⟨by omega, v2⟩))
          have hno : ts[i] ∉ fs := by rw [hin, Bool.not_eq_true', bP_not] at ht; exact ht
          refine hext _ (NoticeTold_c10 p a k r h fs ts wi (ot ++ [ts[i]]) bb ((i + 1 : Nat) : Int)) ⟨rfl, rfl, rfl, rfl, TExts.refl _, ⟨OExt.refl _, OExt.refl _, eFault.oext (eFault.is_app (eFault.is_tl ot) (eFault.is_one ts[i] rfl)), trivial⟩⟩ (ih (ot ++ [ts[i]]) ⟨by simp; omega, fun x hx => ?_⟩)
          rcases List.mem_append.1 hx with hx | hx
          · exact v2 x hx
          · rw [List.mem_singleton.1 hx]; exact hno
      · obtain ⟨v1, v2⟩ := hv
        have ok_o : eFault.okl 4 ot.length (eFault.tl ot) := eFault.okl_tl (by omega)
        apply hstep
        rw [NoticeTold_l10]
        simp only [eInt.dl_tl, eFault.dl_tl, hd, answer_nil]
        refine cond_false' (decide_eq_false (by omega)) ⟨⟨ok_r, ok_h, ok_f, ok_w, hp⟩, ?_⟩
        have q1 : ((answerI (some b) p a fs wi == (1 : Int)) == bb) = true := by
          by_cases hin : p ≤ a ∧ a ≤ b
          · rw [hbb.2 hin, answer_yes hne ⟨hin.2, hin.1, hwi⟩]; rfl
          · have : bb = false := by cases bb; rfl; exact (hin (hbb.1 rfl)).elim
            rw [this, answer_no hne (fun hh => hin ⟨hh.2.1, hh.1⟩)]; rfl
        have q2 : (answerI (some b) p a fs ot == (2 : Int)) = true := by
          rw [answer_no hne (fun hh => by obtain ⟨x, hx, hf⟩ := hh.2.2; exact v2 x hx hf)]; rfl
        exact cond_true' q1 ⟨⟨ok_r, ok_h, ok_f, ok_o, hp⟩, cond_true' q2 ⟨⟨ok_r, ok_h, eFault.okl_zero _ _, ok_w, hp⟩, tell rfl⟩⟩
    have hw : eFault.is (0 + ts.length + 1) (catF (0 + ts.length) (catF 0 (rowF [] 4) (eFault.tl ts)) (rowF (eFault.toV (fs.getD k.toNat eFault.dflt)) 4)) (ts ++ [fs.getD k.toNat eFault.dflt]) := eFault.is_app (eFault.is_app0 (eFault.is_tl ts)) (eFault.is_one _ rfl)
    have hmem : ∃ x ∈ ts ++ [fs.getD k.toNat eFault.dflt], x ∈ fs := ⟨_, List.mem_append_right _ (List.mem_singleton.2 rfl), by rw [getD_at _ hk]; exact List.getElem_mem hk⟩
    have hlen : (ts ++ [fs.getD k.toNat eFault.dflt]).length ≤ 31 := by simp; omega
    refine cond_intro (fun g6 => ⟨⟨by omega, by omega⟩, ⟨by omega, by omega⟩, ⟨by omega, by omega⟩, ?_⟩) (fun g6 => ⟨⟨by omega, by omega⟩, ⟨by omega, by omega⟩, ⟨by omega, by omega⟩, ?_⟩)
    all_goals simp only [decide_eq_true_eq, decide_eq_false_iff_not] at g6
    · refine hle _ _ (nil_own 17 2 36 4 (eFault.tl []) rfl rfl) (hext _ (NoticeTold_c10 p a k r h fs ts _ [] (decide (a ≤ b)) 0) ⟨rfl, rfl, rfl, rfl, TExts.refl _, ⟨OExt.refl _, eFault.oext hw, OExt.refl _, trivial⟩⟩ (core _ _ ?_ hlen hmem))
      simp only [decide_eq_true_eq]; omega
    · refine hle _ _ (nil_own 17 2 36 4 (eFault.tl []) rfl rfl) (hext _ (NoticeTold_c10 p a k r h fs ts _ [] false 0) ⟨rfl, rfl, rfl, rfl, TExts.refl _, ⟨OExt.refl _, eFault.oext hw, OExt.refl _, trivial⟩⟩ (core _ _ ?_ hlen hmem))
      simp; omega
theorem NoticeTold_walk (W : World) {u0 : List V} {v0 : Array Value} (o0 : u0.length = 2) (c0 : ∀ (i : Nat) (c : CS) (u : V), ([.sl [.int .i64], .sl [.int .i64]] : List CS)[i]? = some c → u0[i]? = some u → VOK c u) (e0 : RV (whole W) sig0 (.agg u0) (.agg v0)) {u1 : V} {v1 : Value} (o1 : VOK (.int .i64) u1) (e1 : RV (whole W) sig0 u1 v1) {u2 : V} {v2 : Value} (o2 : VOK (.int .i64) u2) (e2 : RV (whole W) sig0 u2 v2) {u3 : V} {v3 : Value} (o3 : VOK (.sl [.int .i64, .int .i64, .str, .int .i64]) u3) (e3 : RV (whole W) sig0 u3 v3) {u4 : V} {v4 : Value} (o4 : VOK (.sl [.int .i64, .int .i64, .str, .int .i64]) u4) (e4 : RV (whole W) sig0 u4 v4) {u5 : V} {v5 : Value} (o5 : VOK (.int .i64) u5) (e5 : RV (whole W) sig0 u5 v5) : Calls Try.prog 6 #[.agg v0, v1, v2, v3, v4, v5] W fun e w' => e = .returned (.bool true) ∧ Below W.heap.size W w' := by
  obtain ⟨u0_0, u0_1, rfl⟩ := len_2 o0
  have h0_0 := c0 0 _ u0_0 rfl rfl
  obtain ⟨x0_0, l0_0, e0_0, w0_0⟩ := eInt_vok h0_0
  have h0_1 := c0 1 _ u0_1 rfl rfl
  obtain ⟨x0_1, l0_1, e0_1, w0_1⟩ := eInt_vok h0_1
  obtain ⟨n1, rfl, w1⟩ := vok_int o1
  obtain ⟨n2, rfl, w2⟩ := vok_int o2
  obtain ⟨x3, l3, x3e, w3⟩ := eFault_vok o3
  obtain ⟨x4, l4, x4e, w4⟩ := eFault_vok o4
  obtain ⟨n5, rfl, w5⟩ := vok_int o5
  exact law_calls3 (con := conOf [(9, lift Gawake), (11, lift Gfew), (10, lift GnDeadline), (19, lift GnAnswer)]) (hs := (0, [(6, 10, [1, 2, 3, 4, 6, 15, 16, 17, 18], [(0, 6, []), (0, 16, []), (0, 17, [])]), (6, 14, [1, 2, 3, 4, 6, 15, 16, 17, 18, 19, 20], [(0, 6, []), (0, 16, []), (0, 17, [])])])) 2000 Try.func6 rfl (by kernel_rfl) rfl (conCons awake_con (conCons few_con (conCons nDeadline_con (conCons nAnswer_con conNil)))) (args := [_, _, _, _, _, _]) (args' := [.agg [.list eInt.s x0_0.length (eInt.tl x0_0), .list eInt.s x0_1.length (eInt.tl x0_1)], .kn (.int .i64 n1), .kn (.int .i64 n2), .list eFault.s x3.length (eFault.tl x3), .list eFault.s x4.length (eFault.tl x4), .kn (.int .i64 n5)]) ⟨e0, e1, e2, e3, e4, e5, trivial⟩ ⟨VExt.agg ⟨e0_0, e0_1, trivial⟩, VExt.refl _, VExt.refl _, x3e, x4e, VExt.refl _, trivial⟩ (by simp [Try.ntmps6]) fun good hstep hext hle => NoticeTold_ok n1 n2 n5 x0_0 x0_1 x3 x4 l0_0 l0_1 l3 l4 (wf_i64 w1) good hstep hext hle

end Go.Proofs.Ytmbnphmgefipfaa
