/- What is proved: contracts of functions of one seat, each by the executor; written by a program of the prover (gen.py) and by hand. Conditions: each contract names its own. -/
import Derived.Test.YtgepkpajndlgeaaAw2
import Derived.Test.YtgepkpajndlgeaaProg
import Derived.KernelRfl
import Derived.IntWalk
import Derived.Test.YtgepkpajndlgeaaCong
import Derived.MapKept
namespace Go.Proofs.Ytgepkpajndlgeaa
open Go Go.Aw Go.RowKit
set_option linter.unusedVariables false
set_option linter.unusedSimpArgs false
set_option maxRecDepth 10000

theorem own_own (o : List Hand) (b : ByteArray) : ownL (ownL o b) b = ownL o b := by
  unfold ownL
  rw [List.filter_filter]
  congr 1
  funext x
  simp
theorem stepE_own (o : List Hand) (x : Hand) : stepE (ownL o x.box) x = stepE o x := by
  unfold stepE beginE handE hasB
  rw [own_own]
theorem box_eq {x : Hand} {b : ByteArray} (h : (x.box == b) = true) : x.box = b := (Go.MapKept.bytes_beq _ _).1 h
theorem done_own_at (l : List Hand) (b : ByteArray) : ∀ i, i ≤ l.length → doneL (ownL (l.take i) b) = ownL (doneL (l.take i)) b
  | 0, _ => by simp [doneL, ownL]
  | i + 1, h => by
    have ih := done_own_at l b i (by omega)
    have hi : i < l.length := by omega
    rw [ownL_snoc hi, done_snoc hi]
    generalize l[i] = x
    generalize doneL (l.take i) = o at *
    have e1 : ownL (doneS o x) b = ownL o b ++ (bif x.box == b then (bif stepE o x == 0 then [x] else []) else []) := by
      unfold doneS
      cases hq : (stepE o x == 0) with
      | true => simp only [cond_true]; rw [ownL_add]
      | false => simp only [cond_false]; cases (x.box == b) <;> simp
    rw [e1]
    cases hb : (x.box == b) with
    | false => simp only [cond_false, List.append_nil]; exact ih
    | true =>
      have := box_eq hb
      subst this
      simp only [cond_true]
      have e2 : doneL (ownL (l.take i) x.box ++ [x]) = doneS (ownL o x.box) x := by
        rw [← ih]; unfold doneL; rw [List.foldl_append]; rfl
      rw [e2]
      unfold doneS
      rw [stepE_own]
      cases (stepE o x == 0) <;> simp
theorem done_own (l : List Hand) (b : ByteArray) : doneL (ownL l b) = ownL (doneL l) b := by
  have := done_own_at l b l.length (Nat.le_refl _)
  rwa [List.take_length] at this
theorem done_len' (l : List Hand) : (doneL l).length ≤ l.length := by
  have := done_len l l.length (Nat.le_refl _)
  rwa [List.take_length] at this
/-- Each is taken behind those ahead of it. -/
def okL (w : List Hand) : Prop := ∀ i (hi : i < w.length), stepE (w.take i) w[i] = 0
theorem okL_snoc {w : List Hand} {x : Hand} (h : okL w) (hx : stepE w x = 0) : okL (w ++ [x]) := fun i hi => by
  by_cases e : i < w.length
  · rw [List.take_append_of_le_length (by omega), List.getElem_append_left e]; exact h i e
  · have hi' : i = w.length := by simp at hi; omega
    subst hi'
    simpa using hx
theorem okL_done (l : List Hand) (b : ByteArray) : ∀ i, i ≤ l.length → okL (ownL (doneL (l.take i)) b)
  | 0, _ => fun i hi => by simp [doneL, ownL] at hi
  | i + 1, h => by
    have ih := okL_done l b i (by omega)
    have hi : i < l.length := by omega
    rw [done_snoc hi]
    generalize l[i] = x
    generalize doneL (l.take i) = o at *
    unfold doneS
    cases hq : (stepE o x == 0) with
    | false => exact ih
    | true =>
      simp only [cond_true]
      rw [ownL_add]
      cases hb : (x.box == b) with
      | false => simpa using ih
      | true =>
        have := box_eq hb
        subst this
        exact okL_snoc ih (by rw [stepE_own]; simpa using hq)
theorem okL_own (l : List Hand) (b : ByteArray) : okL (ownL (doneL l) b) := by
  have := okL_done l b l.length (Nat.le_refl _)
  rwa [List.take_length] at this
theorem okL_take {w : List Hand} (h : okL w) (m : Nat) : okL (w.take m) := fun i hi => by
  have h1 : i < m ∧ i < w.length := by simp at hi; omega
  rw [List.take_take, List.getElem_take, Nat.min_eq_left (by omega)]
  exact h i h1.2
theorem done_ok_at {w : List Hand} (h : okL w) : ∀ i, i ≤ w.length → doneL (w.take i) = w.take i
  | 0, _ => by simp [doneL]
  | i + 1, hi => by
    have hlt : i < w.length := by omega
    rw [done_snoc hlt, done_ok_at h i (by omega)]
    unfold doneS
    rw [h i hlt, take_at hlt]
    rfl
theorem done_ok {w : List Hand} (h : okL w) : doneL w = w := by
  have := done_ok_at h w.length (Nat.le_refl _)
  rwa [List.take_length] at this
theorem chk_ok {w : List Hand} (h : okL w) : ∀ k i, i + k = w.length → chk w (k + 1) i = ((w.length : Int), 0)
  | 0, i, e => chk_end (by omega)
  | k + 1, i, e => by rw [chk_go (by omega) (h i (by omega))]; exact chk_ok h k (i + 1) (by omega)
theorem own_mem {w : List Hand} {b : ByteArray} (h : ∀ x ∈ w, (x.box == b) = true) : ownL w b = w := List.filter_eq_self.2 h
theorem own_box {o : List Hand} {b : ByteArray} : ∀ x ∈ ownL o b, (x.box == b) = true := fun x hx => (List.mem_filter.1 hx).2
theorem done_mem_at (l : List Hand) : ∀ i, i ≤ l.length → ∀ x ∈ doneL (l.take i), x ∈ l
  | 0, _, x, hx => by simp [doneL] at hx
  | i + 1, h, x, hx => by
    have hi : i < l.length := by omega
    rw [done_snoc hi] at hx
    unfold doneS at hx
    cases hq : (stepE (doneL (l.take i)) l[i] == 0) with
    | false => rw [hq] at hx; exact done_mem_at l i (by omega) x hx
    | true =>
      rw [hq] at hx
      rcases List.mem_append.1 hx with h1 | h1
      · exact done_mem_at l i (by omega) x h1
      · simp at h1; subst h1; exact List.getElem_mem hi
theorem done_mem {l : List Hand} {x : Hand} (h : x ∈ doneL l) : x ∈ l := done_mem_at l l.length (Nat.le_refl _) x (by rw [List.take_length]; exact h)
theorem step_day {o : List Hand} {x : Hand} (h : stepE o x = 0) : x.day ≤ 1048576 := by
  have hd : dayOK x.day = true := by
    cases hq : dayOK x.day with
    | true => rfl
    | false =>
      unfold stepE at h
      cases h1 : (x.src.toList == []) with
      | true =>
        rw [h1] at h
        simp only [cond_true, beginE, hq] at h
        cases q1 : isName x.box <;> cases q2 : isName x.dst <;> cases q3 : isName x.place <;> simp [q1, q2, q3] at h
      | false =>
        rw [h1] at h
        simp only [cond_false, handE, hq] at h
        cases q1 : isName x.box <;> cases q2 : isName x.src <;> cases q3 : isName x.dst <;> cases q4 : isName x.place <;> cases q5 : (x.src.toList == x.dst.toList) <;> simp [q1, q2, q3, q4, q5] at h
  exact (of_decide_eq_true hd).2
theorem as_last {w : List Hand} {d : Int} (n : Nat) (hn : w.length = n + 1) (h : (w[n]'(by omega)).day ≤ d) : asI w d = some n := by
  unfold asI
  rw [hn]
  unfold lastI
  have e : eHand.tl w n = eHand.toV (w[n]'(by omega)) := by show eHand.toV (w.getD n eHand.dflt) = _; rw [getD_at _ (by omega)]
  rw [e]
  show (bif decide ((w[n]'(by omega)).day ≤ d) then some n else lastI d (eHand.tl w) n) = some n
  rw [decide_eq_true h]; rfl
theorem wf_u8 {n : Int} (h : (Lit.int .u8 n).wf = true) : inU8 n := by
  simp [Lit.wf, IntKind.min, IntKind.max, IntKind.signed, IntKind.bits] at h; unfold inU8; omega

def CustodyApart_pre (b : ByteArray) (d : Int) (l : List Hand) : Prop := ∀ x ∈ l, eHand_wf x
noncomputable def CustodyApart_val (b : ByteArray) (d : Int) (l : List Hand) : V := .kn (.bool true)
noncomputable def GCustodyApart : PSpec
  | [.list s_l n_l f_l, .kn (.string b), .kn (.int .i64 d)] => some (eHand.okl s_l n_l f_l ∧ CustodyApart_pre b d (eHand.dl n_l f_l), CustodyApart_val b d (eHand.dl n_l f_l))
  | _ => none
theorem CustodyApart_res (b : ByteArray) (d : Int) (l : List Hand) (good : Cfg → Prop) (R : Option V → Prop) : arun Try.prog (conOf [(9, lift Glong), (11, liftS [] Splay), (12, lift GOwn), (14, lift GSame), (10, lift Gawake), (13, liftS [(0, []), (0, [0])] SAs), (15, liftS [(0, []), (0, [0])] SHist)]) (0, []) good (RetO (R)) 3000 (entry Try.prog 3 [.list eHand.s l.length (eHand.tl l), .kn (.string b), .kn (.int .i64 d)]) =
    ((eHand.okl (5 : Nat) l.length (eHand.tl l) ∧ long_pre (eHand.dl l.length (eHand.tl l))) ∧ bif longB (eHand.dl l.length (eHand.tl l)) then awake_pre ∧ R (some (V.kn (Value.bool true))) else bif decide ((↑b.size : Int) > (60 : Int)) then awake_pre ∧ R (some (V.kn (Value.bool true))) else (eHand.okl (5 : Nat) l.length (eHand.tl l) ∧ play_pre (eHand.dl l.length (eHand.tl l))) ∧ (eHand.okl (5 : Nat) l.length (eHand.tl l) ∧ Own_pre b (eHand.dl l.length (eHand.tl l))) ∧ (eHand.okl (5 : Nat) (ownL (eHand.dl l.length (eHand.tl l)) b).length (eHand.tl (ownL (eHand.dl l.length (eHand.tl l)) b)) ∧ play_pre (eHand.dl (ownL (eHand.dl l.length (eHand.tl l)) b).length (eHand.tl (ownL (eHand.dl l.length (eHand.tl l)) b)))) ∧ (mapOK (hasG (ownK (doneL (eHand.dl l.length (eHand.tl l))))) getG (subG (ownK (doneL (eHand.dl l.length (eHand.tl l))))) ∧ (decF (subG (ownK (doneL (eHand.dl l.length (eHand.tl l))))) (Value.string b)).length ≤ (4000 : Nat)) ∧ (mapOK (hasG (ownK (doneL (eHand.dl (ownL (eHand.dl l.length (eHand.tl l)) b).length (eHand.tl (ownL (eHand.dl l.length (eHand.tl l)) b)))))) getG (subG (ownK (doneL (eHand.dl (ownL (eHand.dl l.length (eHand.tl l)) b).length (eHand.tl (ownL (eHand.dl l.length (eHand.tl l)) b)))))) ∧ (decF (subG (ownK (doneL (eHand.dl (ownL (eHand.dl l.length (eHand.tl l)) b).length (eHand.tl (ownL (eHand.dl l.length (eHand.tl l)) b)))))) (Value.string b)).length ≤ (4000 : Nat)) ∧ bif (strOf (eHand.tl (decF (subG (ownK (doneL (eHand.dl l.length (eHand.tl l))))) (Value.string b))) (2 : Nat) (asI (decF (subG (ownK (doneL (eHand.dl l.length (eHand.tl l))))) (Value.string b)) d)).toList == (strOf (eHand.tl (decF (subG (ownK (doneL (eHand.dl (ownL (eHand.dl l.length (eHand.tl l)) b).length (eHand.tl (ownL (eHand.dl l.length (eHand.tl l)) b)))))) (Value.string b))) (2 : Nat) (asI (decF (subG (ownK (doneL (eHand.dl (ownL (eHand.dl l.length (eHand.tl l)) b).length (eHand.tl (ownL (eHand.dl l.length (eHand.tl l)) b)))))) (Value.string b)) d)).toList then bif (strOf (eHand.tl (decF (subG (ownK (doneL (eHand.dl l.length (eHand.tl l))))) (Value.string b))) (3 : Nat) (asI (decF (subG (ownK (doneL (eHand.dl l.length (eHand.tl l))))) (Value.string b)) d)).toList == (strOf (eHand.tl (decF (subG (ownK (doneL (eHand.dl (ownL (eHand.dl l.length (eHand.tl l)) b).length (eHand.tl (ownL (eHand.dl l.length (eHand.tl l)) b)))))) (Value.string b))) (3 : Nat) (asI (decF (subG (ownK (doneL (eHand.dl (ownL (eHand.dl l.length (eHand.tl l)) b).length (eHand.tl (ownL (eHand.dl l.length (eHand.tl l)) b)))))) (Value.string b)) d)).toList then bif (asI (decF (subG (ownK (doneL (eHand.dl l.length (eHand.tl l))))) (Value.string b)) d).isSome == (asI (decF (subG (ownK (doneL (eHand.dl (ownL (eHand.dl l.length (eHand.tl l)) b).length (eHand.tl (ownL (eHand.dl l.length (eHand.tl l)) b)))))) (Value.string b)) d).isSome then (mapOK (hasG (decF (subG (ownK (doneL (eHand.dl l.length (eHand.tl l))))))) getG (subG (decF (subG (ownK (doneL (eHand.dl l.length (eHand.tl l))))))) ∧ (decF (subG (decF (subG (ownK (doneL (eHand.dl l.length (eHand.tl l))))))) (Value.string b)).length ≤ (4000 : Nat)) ∧ (mapOK (hasG (decF (subG (ownK (doneL (eHand.dl (ownL (eHand.dl l.length (eHand.tl l)) b).length (eHand.tl (ownL (eHand.dl l.length (eHand.tl l)) b)))))))) getG (subG (decF (subG (ownK (doneL (eHand.dl (ownL (eHand.dl l.length (eHand.tl l)) b).length (eHand.tl (ownL (eHand.dl l.length (eHand.tl l)) b)))))))) ∧ (decF (subG (decF (subG (ownK (doneL (eHand.dl (ownL (eHand.dl l.length (eHand.tl l)) b).length (eHand.tl (ownL (eHand.dl l.length (eHand.tl l)) b)))))))) (Value.string b)).length ≤ (4000 : Nat)) ∧ (eHand.okl (5 : Nat) (decF (subG (decF (subG (ownK (doneL (eHand.dl l.length (eHand.tl l))))))) (Value.string b)).length (eHand.tl (decF (subG (decF (subG (ownK (doneL (eHand.dl l.length (eHand.tl l))))))) (Value.string b))) ∧ eHand.okl (5 : Nat) (decF (subG (decF (subG (ownK (doneL (eHand.dl (ownL (eHand.dl l.length (eHand.tl l)) b).length (eHand.tl (ownL (eHand.dl l.length (eHand.tl l)) b)))))))) (Value.string b)).length (eHand.tl (decF (subG (decF (subG (ownK (doneL (eHand.dl (ownL (eHand.dl l.length (eHand.tl l)) b).length (eHand.tl (ownL (eHand.dl l.length (eHand.tl l)) b)))))))) (Value.string b))) ∧ Same_pre (eHand.dl (decF (subG (decF (subG (ownK (doneL (eHand.dl l.length (eHand.tl l))))))) (Value.string b)).length (eHand.tl (decF (subG (decF (subG (ownK (doneL (eHand.dl l.length (eHand.tl l))))))) (Value.string b)))) (eHand.dl (decF (subG (decF (subG (ownK (doneL (eHand.dl (ownL (eHand.dl l.length (eHand.tl l)) b).length (eHand.tl (ownL (eHand.dl l.length (eHand.tl l)) b)))))))) (Value.string b)).length (eHand.tl (decF (subG (decF (subG (ownK (doneL (eHand.dl (ownL (eHand.dl l.length (eHand.tl l)) b).length (eHand.tl (ownL (eHand.dl l.length (eHand.tl l)) b)))))))) (Value.string b))))) ∧ bif bP (eHand.dl (decF (subG (decF (subG (ownK (doneL (eHand.dl l.length (eHand.tl l))))))) (Value.string b)).length (eHand.tl (decF (subG (decF (subG (ownK (doneL (eHand.dl l.length (eHand.tl l))))))) (Value.string b))) = eHand.dl (decF (subG (decF (subG (ownK (doneL (eHand.dl (ownL (eHand.dl l.length (eHand.tl l)) b).length (eHand.tl (ownL (eHand.dl l.length (eHand.tl l)) b)))))))) (Value.string b)).length (eHand.tl (decF (subG (decF (subG (ownK (doneL (eHand.dl (ownL (eHand.dl l.length (eHand.tl l)) b).length (eHand.tl (ownL (eHand.dl l.length (eHand.tl l)) b)))))))) (Value.string b)))) then awake_pre ∧ R (some (V.kn (Value.bool true))) else R (some (V.kn (Value.bool false))) else R (some (V.kn (Value.bool false))) else R (some (V.kn (Value.bool false))) else R (some (V.kn (Value.bool false)))) := by kernel_rfl
theorem CustodyApart_ok (b : ByteArray) (d : Int) (l : List Hand) (len_l : l.length ≤ maxLen) (hp : CustodyApart_pre b d l) (good : Cfg → Prop) (hstep : ∀ c, arun Try.prog (conOf [(9, lift Glong), (11, liftS [] Splay), (12, lift GOwn), (14, lift GSame), (10, lift Gawake), (13, liftS [(0, []), (0, [0])] SAs), (15, liftS [(0, []), (0, [0])] SHist)]) (0, []) good (RetO (Tells (CustodyApart_val b d l))) 3000 (c) → good c) (hext : ∀ c c', CfgExt c c' → good c' → good c) (hle : ∀ c c', CfgLe 0 c c' → good c' → good c) : arun Try.prog (conOf [(9, lift Glong), (11, liftS [] Splay), (12, lift GOwn), (14, lift GSame), (10, lift Gawake), (13, liftS [(0, []), (0, [0])] SAs), (15, liftS [(0, []), (0, [0])] SHist)]) (0, []) good (RetO (Tells (CustodyApart_val b d l))) 3000 (entry Try.prog 3 [.list eHand.s l.length (eHand.tl l), .kn (.string b), .kn (.int .i64 d)]) := by
  rw [CustodyApart_res]
  have ok := eHand.okl_tl len_l
  have hmx : maxLen = 9223372036854775807 := rfl
  simp only [eHand.dl_tl, decF_sub]
  refine ⟨⟨ok, trivial⟩, cond_intro (fun h => ⟨trivial, tell rfl⟩) (fun h => cond_intro (fun h2 => ⟨trivial, tell rfl⟩) (fun h2 => ?_))⟩
  have hl : l.length ≤ 60 := by
    have := bP_not.1 h
    by_cases h2 : 60 < l.length
    · exact (this (.inr h2)).elim
    · omega
  have hol := ownL_len l b
  have hdl := done_len' l
  have e : ownK (doneL (ownL l b)) (.string b) = ownK (doneL l) (.string b) := by
    show ownL _ b = ownL _ b
    rw [done_own, own_own]
  have hk : (ownK (doneL l) (.string b)).length ≤ 60 := by
    have := ownL_len (doneL l) b
    show (ownL _ b).length ≤ 60
    omega
  rw [e]
  have okk : eHand.okl 5 (ownK (doneL l) (.string b)).length (eHand.tl (ownK (doneL l) (.string b))) := eHand.okl_tl (by omega)
  exact ⟨⟨ok, hl, hp⟩, ⟨ok, by show l.length ≤ 4000; omega⟩, ⟨eHand.okl_tl (by omega), by omega, fun x hx => hp x (List.mem_filter.1 hx).1⟩, ⟨mapOK_G _, by omega⟩, ⟨mapOK_G _, by omega⟩, cond_true' (beq_self_eq_true _) (cond_true' (beq_self_eq_true _) (cond_true' (beq_self_eq_true _) ⟨⟨mapOK_G _, by omega⟩, ⟨mapOK_G _, by omega⟩, ⟨okk, okk, trivial⟩, cond_true' (bP_true rfl) ⟨trivial, tell rfl⟩⟩))⟩
theorem CustodyApart_walk (W : World) {u0 : V} {v0 : Value} (o0 : VOK (.sl [.str, .str, .str, .str, .int .i64]) u0) (e0 : RV (whole W) sig0 u0 v0) {u1 : V} {v1 : Value} (o1 : VOK (.str) u1) (e1 : RV (whole W) sig0 u1 v1) {u2 : V} {v2 : Value} (o2 : VOK (.int .i64) u2) (e2 : RV (whole W) sig0 u2 v2) : Calls Try.prog 3 #[v0, v1, v2] W fun e w' => e = .returned (.bool true) ∧ Below W.heap.size W w' := by
  obtain ⟨x0, l0, x0e, w0⟩ := eHand_vok o0
  obtain ⟨n1, rfl, w1⟩ := vok_str o1
  obtain ⟨n2, rfl, w2⟩ := vok_int o2
  exact law_calls3 (con := conOf [(9, lift Glong), (11, liftS [] Splay), (12, lift GOwn), (14, lift GSame), (10, lift Gawake), (13, liftS [(0, []), (0, [0])] SAs), (15, liftS [(0, []), (0, [0])] SHist)]) (hs := (0, [])) 3000 Try.func3 rfl (by kernel_rfl) rfl (conCons long_con (conCons play_con (conCons Own_con (conCons Same_con (conCons awake_con (conCons As_con (conCons Hist_con conNil))))))) (args := [_, _, _]) (args' := [.list eHand.s x0.length (eHand.tl x0), .kn (.string n1), .kn (.int .i64 n2)]) ⟨e0, e1, e2, trivial⟩ ⟨x0e, VExt.refl _, VExt.refl _, trivial⟩ (by simp [Try.ntmps3]) fun good hstep hext hle => CustodyApart_ok n1 n2 x0 l0 (w0) good hstep hext hle

def CustodyHistories_pre (b : ByteArray) (k : Int) (l : List Hand) : Prop := (∀ x ∈ l, eHand_wf x) ∧ inU8 k
noncomputable def CustodyHistories_val (b : ByteArray) (k : Int) (l : List Hand) : V := .kn (.bool true)
noncomputable def GCustodyHistories : PSpec
  | [.list s_l n_l f_l, .kn (.string b), .kn (.int .u8 k)] => some (eHand.okl s_l n_l f_l ∧ CustodyHistories_pre b k (eHand.dl n_l f_l), CustodyHistories_val b k (eHand.dl n_l f_l))
  | _ => none
theorem CustodyHistories_res (b : ByteArray) (k : Int) (l : List Hand) (good : Cfg → Prop) (R : Option V → Prop) : arun Try.prog (conOf [(9, lift Glong), (11, liftS [] Splay), (12, lift GOwn), (14, lift GSame), (10, lift Gawake), (13, liftS [(0, []), (0, [0])] SAs), (15, liftS [(0, []), (0, [0])] SHist), (16, lift GcCheck)]) (0, []) good (RetO (R)) 3000 (entry Try.prog 5 [.list eHand.s l.length (eHand.tl l), .kn (.string b), .kn (.int .u8 k)]) =
    ((eHand.okl (5 : Nat) l.length (eHand.tl l) ∧ long_pre (eHand.dl l.length (eHand.tl l))) ∧ bif longB (eHand.dl l.length (eHand.tl l)) then awake_pre ∧ R (some (V.kn (Value.bool true))) else bif decide ((↑b.size : Int) > (60 : Int)) then awake_pre ∧ R (some (V.kn (Value.bool true))) else (eHand.okl (5 : Nat) l.length (eHand.tl l) ∧ play_pre (eHand.dl l.length (eHand.tl l))) ∧ (mapOK (hasG (ownK (doneL (eHand.dl l.length (eHand.tl l))))) getG (subG (ownK (doneL (eHand.dl l.length (eHand.tl l))))) ∧ (decF (subG (ownK (doneL (eHand.dl l.length (eHand.tl l))))) (Value.string b)).length ≤ (4000 : Nat)) ∧ ((0 : Int) ≤ (0 : Int) ∧ ((0 : Int) ≤ if (↑(decF (subG (ownK (doneL (eHand.dl l.length (eHand.tl l))))) (Value.string b)).length : Int) < IntKind.i64.wrap k then (↑(decF (subG (ownK (doneL (eHand.dl l.length (eHand.tl l))))) (Value.string b)).length : Int) else IntKind.i64.wrap k) ∧ (if (↑(decF (subG (ownK (doneL (eHand.dl l.length (eHand.tl l))))) (Value.string b)).length : Int) < IntKind.i64.wrap k then (↑(decF (subG (ownK (doneL (eHand.dl l.length (eHand.tl l))))) (Value.string b)).length : Int) else IntKind.i64.wrap k) ≤ (↑(decF (subG (ownK (doneL (eHand.dl l.length (eHand.tl l))))) (Value.string b)).length : Int)) ∧ (eHand.okl (5 : Nat) ((if (↑(decF (subG (ownK (doneL (eHand.dl l.length (eHand.tl l))))) (Value.string b)).length : Int) < IntKind.i64.wrap k then (↑(decF (subG (ownK (doneL (eHand.dl l.length (eHand.tl l))))) (Value.string b)).length : Int) else IntKind.i64.wrap k).toNat - (0 : Nat)) (partF (0 : Nat) (eHand.tl (decF (subG (ownK (doneL (eHand.dl l.length (eHand.tl l))))) (Value.string b)))) ∧ cCheck_pre (eHand.dl ((if (↑(decF (subG (ownK (doneL (eHand.dl l.length (eHand.tl l))))) (Value.string b)).length : Int) < IntKind.i64.wrap k then (↑(decF (subG (ownK (doneL (eHand.dl l.length (eHand.tl l))))) (Value.string b)).length : Int) else IntKind.i64.wrap k).toNat - (0 : Nat)) (partF (0 : Nat) (eHand.tl (decF (subG (ownK (doneL (eHand.dl l.length (eHand.tl l))))) (Value.string b)))))) ∧ bif (chk (eHand.dl ((if (↑(decF (subG (ownK (doneL (eHand.dl l.length (eHand.tl l))))) (Value.string b)).length : Int) < IntKind.i64.wrap k then (↑(decF (subG (ownK (doneL (eHand.dl l.length (eHand.tl l))))) (Value.string b)).length : Int) else IntKind.i64.wrap k).toNat - (0 : Nat)) (partF (0 : Nat) (eHand.tl (decF (subG (ownK (doneL (eHand.dl l.length (eHand.tl l))))) (Value.string b))))) ((eHand.dl ((if (↑(decF (subG (ownK (doneL (eHand.dl l.length (eHand.tl l))))) (Value.string b)).length : Int) < IntKind.i64.wrap k then (↑(decF (subG (ownK (doneL (eHand.dl l.length (eHand.tl l))))) (Value.string b)).length : Int) else IntKind.i64.wrap k).toNat - (0 : Nat)) (partF (0 : Nat) (eHand.tl (decF (subG (ownK (doneL (eHand.dl l.length (eHand.tl l))))) (Value.string b))))).length + (1 : Nat)) (0 : Nat)).fst != if (↑(decF (subG (ownK (doneL (eHand.dl l.length (eHand.tl l))))) (Value.string b)).length : Int) < IntKind.i64.wrap k then (↑(decF (subG (ownK (doneL (eHand.dl l.length (eHand.tl l))))) (Value.string b)).length : Int) else IntKind.i64.wrap k then R (some (V.kn (Value.bool false))) else bif (chk (eHand.dl ((if (↑(decF (subG (ownK (doneL (eHand.dl l.length (eHand.tl l))))) (Value.string b)).length : Int) < IntKind.i64.wrap k then (↑(decF (subG (ownK (doneL (eHand.dl l.length (eHand.tl l))))) (Value.string b)).length : Int) else IntKind.i64.wrap k).toNat - (0 : Nat)) (partF (0 : Nat) (eHand.tl (decF (subG (ownK (doneL (eHand.dl l.length (eHand.tl l))))) (Value.string b))))) ((eHand.dl ((if (↑(decF (subG (ownK (doneL (eHand.dl l.length (eHand.tl l))))) (Value.string b)).length : Int) < IntKind.i64.wrap k then (↑(decF (subG (ownK (doneL (eHand.dl l.length (eHand.tl l))))) (Value.string b)).length : Int) else IntKind.i64.wrap k).toNat - (0 : Nat)) (partF (0 : Nat) (eHand.tl (decF (subG (ownK (doneL (eHand.dl l.length (eHand.tl l))))) (Value.string b))))).length + (1 : Nat)) (0 : Nat)).snd != (0 : Int) then R (some (V.kn (Value.bool false))) else bif (if (↑(decF (subG (ownK (doneL (eHand.dl l.length (eHand.tl l))))) (Value.string b)).length : Int) < IntKind.i64.wrap k then (↑(decF (subG (ownK (doneL (eHand.dl l.length (eHand.tl l))))) (Value.string b)).length : Int) else IntKind.i64.wrap k) == (0 : Int) then awake_pre ∧ R (some (V.kn (Value.bool true))) else ((0 : Int) ≤ (0 : Int) ∧ ((0 : Int) ≤ if (↑(decF (subG (ownK (doneL (eHand.dl l.length (eHand.tl l))))) (Value.string b)).length : Int) < IntKind.i64.wrap k then (↑(decF (subG (ownK (doneL (eHand.dl l.length (eHand.tl l))))) (Value.string b)).length : Int) else IntKind.i64.wrap k) ∧ (if (↑(decF (subG (ownK (doneL (eHand.dl l.length (eHand.tl l))))) (Value.string b)).length : Int) < IntKind.i64.wrap k then (↑(decF (subG (ownK (doneL (eHand.dl l.length (eHand.tl l))))) (Value.string b)).length : Int) else IntKind.i64.wrap k) ≤ (↑(decF (subG (ownK (doneL (eHand.dl l.length (eHand.tl l))))) (Value.string b)).length : Int)) ∧ (eHand.okl (5 : Nat) ((if (↑(decF (subG (ownK (doneL (eHand.dl l.length (eHand.tl l))))) (Value.string b)).length : Int) < IntKind.i64.wrap k then (↑(decF (subG (ownK (doneL (eHand.dl l.length (eHand.tl l))))) (Value.string b)).length : Int) else IntKind.i64.wrap k).toNat - (0 : Nat)) (partF (0 : Nat) (eHand.tl (decF (subG (ownK (doneL (eHand.dl l.length (eHand.tl l))))) (Value.string b)))) ∧ play_pre (eHand.dl ((if (↑(decF (subG (ownK (doneL (eHand.dl l.length (eHand.tl l))))) (Value.string b)).length : Int) < IntKind.i64.wrap k then (↑(decF (subG (ownK (doneL (eHand.dl l.length (eHand.tl l))))) (Value.string b)).length : Int) else IntKind.i64.wrap k).toNat - (0 : Nat)) (partF (0 : Nat) (eHand.tl (decF (subG (ownK (doneL (eHand.dl l.length (eHand.tl l))))) (Value.string b)))))) ∧ (mapOK (hasG (ownK (doneL (eHand.dl ((if (↑(decF (subG (ownK (doneL (eHand.dl l.length (eHand.tl l))))) (Value.string b)).length : Int) < IntKind.i64.wrap k then (↑(decF (subG (ownK (doneL (eHand.dl l.length (eHand.tl l))))) (Value.string b)).length : Int) else IntKind.i64.wrap k).toNat - (0 : Nat)) (partF (0 : Nat) (eHand.tl (decF (subG (ownK (doneL (eHand.dl l.length (eHand.tl l))))) (Value.string b)))))))) getG (subG (ownK (doneL (eHand.dl ((if (↑(decF (subG (ownK (doneL (eHand.dl l.length (eHand.tl l))))) (Value.string b)).length : Int) < IntKind.i64.wrap k then (↑(decF (subG (ownK (doneL (eHand.dl l.length (eHand.tl l))))) (Value.string b)).length : Int) else IntKind.i64.wrap k).toNat - (0 : Nat)) (partF (0 : Nat) (eHand.tl (decF (subG (ownK (doneL (eHand.dl l.length (eHand.tl l))))) (Value.string b)))))))) ∧ (decF (subG (ownK (doneL (eHand.dl ((if (↑(decF (subG (ownK (doneL (eHand.dl l.length (eHand.tl l))))) (Value.string b)).length : Int) < IntKind.i64.wrap k then (↑(decF (subG (ownK (doneL (eHand.dl l.length (eHand.tl l))))) (Value.string b)).length : Int) else IntKind.i64.wrap k).toNat - (0 : Nat)) (partF (0 : Nat) (eHand.tl (decF (subG (ownK (doneL (eHand.dl l.length (eHand.tl l))))) (Value.string b)))))))) (Value.string b)).length ≤ (4000 : Nat)) ∧ ((0 : Int) ≤ IntKind.i64.wrap ((if (↑(decF (subG (ownK (doneL (eHand.dl l.length (eHand.tl l))))) (Value.string b)).length : Int) < IntKind.i64.wrap k then (↑(decF (subG (ownK (doneL (eHand.dl l.length (eHand.tl l))))) (Value.string b)).length : Int) else IntKind.i64.wrap k) - (1 : Int)) ∧ IntKind.i64.wrap ((if (↑(decF (subG (ownK (doneL (eHand.dl l.length (eHand.tl l))))) (Value.string b)).length : Int) < IntKind.i64.wrap k then (↑(decF (subG (ownK (doneL (eHand.dl l.length (eHand.tl l))))) (Value.string b)).length : Int) else IntKind.i64.wrap k) - (1 : Int)) < (↑(decF (subG (ownK (doneL (eHand.dl l.length (eHand.tl l))))) (Value.string b)).length : Int)) ∧ bif (asI (decF (subG (ownK (doneL (eHand.dl ((if (↑(decF (subG (ownK (doneL (eHand.dl l.length (eHand.tl l))))) (Value.string b)).length : Int) < IntKind.i64.wrap k then (↑(decF (subG (ownK (doneL (eHand.dl l.length (eHand.tl l))))) (Value.string b)).length : Int) else IntKind.i64.wrap k).toNat - (0 : Nat)) (partF (0 : Nat) (eHand.tl (decF (subG (ownK (doneL (eHand.dl l.length (eHand.tl l))))) (Value.string b)))))))) (Value.string b)) (1048576 : Int)).isSome then bif (strOf (eHand.tl (decF (subG (ownK (doneL (eHand.dl ((if (↑(decF (subG (ownK (doneL (eHand.dl l.length (eHand.tl l))))) (Value.string b)).length : Int) < IntKind.i64.wrap k then (↑(decF (subG (ownK (doneL (eHand.dl l.length (eHand.tl l))))) (Value.string b)).length : Int) else IntKind.i64.wrap k).toNat - (0 : Nat)) (partF (0 : Nat) (eHand.tl (decF (subG (ownK (doneL (eHand.dl l.length (eHand.tl l))))) (Value.string b)))))))) (Value.string b))) (2 : Nat) (asI (decF (subG (ownK (doneL (eHand.dl ((if (↑(decF (subG (ownK (doneL (eHand.dl l.length (eHand.tl l))))) (Value.string b)).length : Int) < IntKind.i64.wrap k then (↑(decF (subG (ownK (doneL (eHand.dl l.length (eHand.tl l))))) (Value.string b)).length : Int) else IntKind.i64.wrap k).toNat - (0 : Nat)) (partF (0 : Nat) (eHand.tl (decF (subG (ownK (doneL (eHand.dl l.length (eHand.tl l))))) (Value.string b)))))))) (Value.string b)) (1048576 : Int))).toList == ((decF (subG (ownK (doneL (eHand.dl l.length (eHand.tl l))))) (Value.string b)).getD (IntKind.i64.wrap ((if (↑(decF (subG (ownK (doneL (eHand.dl l.length (eHand.tl l))))) (Value.string b)).length : Int) < IntKind.i64.wrap k then (↑(decF (subG (ownK (doneL (eHand.dl l.length (eHand.tl l))))) (Value.string b)).length : Int) else IntKind.i64.wrap k) - (1 : Int))).toNat eHand.dflt).dst.toList then bif (strOf (eHand.tl (decF (subG (ownK (doneL (eHand.dl ((if (↑(decF (subG (ownK (doneL (eHand.dl l.length (eHand.tl l))))) (Value.string b)).length : Int) < IntKind.i64.wrap k then (↑(decF (subG (ownK (doneL (eHand.dl l.length (eHand.tl l))))) (Value.string b)).length : Int) else IntKind.i64.wrap k).toNat - (0 : Nat)) (partF (0 : Nat) (eHand.tl (decF (subG (ownK (doneL (eHand.dl l.length (eHand.tl l))))) (Value.string b)))))))) (Value.string b))) (3 : Nat) (asI (decF (subG (ownK (doneL (eHand.dl ((if (↑(decF (subG (ownK (doneL (eHand.dl l.length (eHand.tl l))))) (Value.string b)).length : Int) < IntKind.i64.wrap k then (↑(decF (subG (ownK (doneL (eHand.dl l.length (eHand.tl l))))) (Value.string b)).length : Int) else IntKind.i64.wrap k).toNat - (0 : Nat)) (partF (0 : Nat) (eHand.tl (decF (subG (ownK (doneL (eHand.dl l.length (eHand.tl l))))) (Value.string b)))))))) (Value.string b)) (1048576 : Int))).toList == ((decF (subG (ownK (doneL (eHand.dl l.length (eHand.tl l))))) (Value.string b)).getD (IntKind.i64.wrap ((if (↑(decF (subG (ownK (doneL (eHand.dl l.length (eHand.tl l))))) (Value.string b)).length : Int) < IntKind.i64.wrap k then (↑(decF (subG (ownK (doneL (eHand.dl l.length (eHand.tl l))))) (Value.string b)).length : Int) else IntKind.i64.wrap k) - (1 : Int))).toNat eHand.dflt).place.toList then awake_pre ∧ R (some (V.kn (Value.bool true))) else R (some (V.kn (Value.bool false))) else R (some (V.kn (Value.bool false))) else R (some (V.kn (Value.bool false)))) := by kernel_rfl
theorem CustodyHistories_ok (b : ByteArray) (k : Int) (l : List Hand) (len_l : l.length ≤ maxLen) (hp : CustodyHistories_pre b k l) (good : Cfg → Prop) (hstep : ∀ c, arun Try.prog (conOf [(9, lift Glong), (11, liftS [] Splay), (12, lift GOwn), (14, lift GSame), (10, lift Gawake), (13, liftS [(0, []), (0, [0])] SAs), (15, liftS [(0, []), (0, [0])] SHist), (16, lift GcCheck)]) (0, []) good (RetO (Tells (CustodyHistories_val b k l))) 3000 (c) → good c) (hext : ∀ c c', CfgExt c c' → good c' → good c) (hle : ∀ c c', CfgLe 0 c c' → good c' → good c) : arun Try.prog (conOf [(9, lift Glong), (11, liftS [] Splay), (12, lift GOwn), (14, lift GSame), (10, lift Gawake), (13, liftS [(0, []), (0, [0])] SAs), (15, liftS [(0, []), (0, [0])] SHist), (16, lift GcCheck)]) (0, []) good (RetO (Tells (CustodyHistories_val b k l))) 3000 (entry Try.prog 5 [.list eHand.s l.length (eHand.tl l), .kn (.string b), .kn (.int .u8 k)]) := by
  rw [CustodyHistories_res]
  obtain ⟨hp, hk0, hk1⟩ := hp
  have ok := eHand.okl_tl len_l
  have hmx : maxLen = 9223372036854775807 := rfl
  simp only [eHand.dl_tl, decF_sub]
  refine ⟨⟨ok, trivial⟩, cond_intro (fun h => ⟨trivial, tell rfl⟩) (fun h => cond_intro (fun h2 => ⟨trivial, tell rfl⟩) (fun h2 => ?_))⟩
  have hl : l.length ≤ 60 := by
    have := bP_not.1 h
    by_cases h2 : 60 < l.length
    · exact (this (.inr h2)).elim
    · omega
  have hdl := done_len' l
  have hol := ownL_len (doneL l) b
  have hw := okL_own l b
  have hbx := @own_box (doneL l) b
  have hmem : ∀ x ∈ ownL (doneL l) b, eHand_wf x := fun x hx => hp x (done_mem (List.mem_filter.1 hx).1)
  have hK : ownK (doneL l) (.string b) = ownL (doneL l) b := rfl
  simp only [hK]
  generalize ownL (doneL l) b = w at *
  rw [wrap_in (n := k) (by omega) (by omega)]
  obtain ⟨m, hm, hmw⟩ : ∃ m : Nat, (if (w.length : Int) < k then (w.length : Int) else k) = (m : Int) ∧ m ≤ w.length := by
    by_cases e : (w.length : Int) < k
    · exact ⟨w.length, by rw [if_pos e], Nat.le_refl _⟩
    · exact ⟨k.toNat, by rw [if_neg e]; omega, by omega⟩
  simp only [hm, Int.toNat_natCast, Nat.sub_zero]
  have hpt : eHand.is m (partF 0 (eHand.tl w)) (w.take m) := eHand.is_part (eHand.is_tl w) 0 m (by omega)
  have okp : eHand.okl 5 m (partF 0 (eHand.tl w)) := eHand.okl_is hpt (by omega)
  simp only [eHand.is_dl hpt]
  have hpo := okL_take hw m
  have hpb : ∀ x ∈ w.take m, (x.box == b) = true := fun x hx => hbx x (List.mem_of_mem_take hx)
  have hpw : ∀ x ∈ w.take m, eHand_wf x := fun x hx => hmem x (List.mem_of_mem_take hx)
  have hlen : (w.take m).length = m := by rw [List.length_take]; omega
  have hlast : ∀ n, n < m → (w.take m)[n]? = w[n]? := fun n h => List.getElem?_take_of_lt h
  rw [chk_ok hpo _ 0 (by omega), done_ok hpo]
  have hq : ownK (w.take m) (.string b) = w.take m := own_mem hpb
  rw [hq]
  generalize w.take m = p at *
  rw [hlen]
  refine ⟨⟨ok, hl, hp⟩, ⟨mapOK_G _, by omega⟩, ⟨by omega, by omega, by omega⟩, ⟨okp, by show p.length ≤ 60; omega⟩, cond_false' (by simp) (cond_false' (by rfl) (cond_intro (fun h0 => ⟨trivial, tell rfl⟩) (fun h0 => ?_)))⟩
  obtain ⟨n, rfl⟩ : ∃ n, m = n + 1 := ⟨m - 1, by have : ((m : Int) == 0) = false := h0; simp at this; omega⟩
  have ew : IntKind.i64.wrap (((n + 1 : Nat) : Int) - 1) = (n : Int) := by rw [wrap_in (by omega) (by omega)]; omega
  rw [ew, Int.toNat_natCast, getD_at _ (by omega)]
  have hpn : p[n]'(by omega) = w[n]'(by omega) := by
    have := hlast n (by omega)
    rw [List.getElem?_eq_getElem (by omega), List.getElem?_eq_getElem (by omega)] at this
    exact Option.some.inj this
  have hday : (p[n]'(by omega)).day ≤ 1048576 := step_day (hpo n (by omega))
  rw [as_last n hlen hday]
  have et : eHand.tl p n = eHand.toV (p[n]'(by omega)) := by show eHand.toV (p.getD n eHand.dflt) = _; rw [getD_at _ (by omega)]
  have es2 : strOf (eHand.tl p) 2 (some n) = (w[n]'(by omega)).dst := by simp only [strOf, et, hpn]; rfl
  have es3 : strOf (eHand.tl p) 3 (some n) = (w[n]'(by omega)).place := by simp only [strOf, et, hpn]; rfl
  rw [es2, es3]
  exact ⟨⟨by omega, by omega, by omega⟩, ⟨okp, by omega, hpw⟩, ⟨mapOK_G _, by omega⟩, ⟨by omega, by omega⟩, cond_true' rfl (cond_true' (beq_self_eq_true _) (cond_true' (beq_self_eq_true _) ⟨trivial, tell rfl⟩))⟩
theorem CustodyHistories_walk (W : World) {u0 : V} {v0 : Value} (o0 : VOK (.sl [.str, .str, .str, .str, .int .i64]) u0) (e0 : RV (whole W) sig0 u0 v0) {u1 : V} {v1 : Value} (o1 : VOK (.str) u1) (e1 : RV (whole W) sig0 u1 v1) {u2 : V} {v2 : Value} (o2 : VOK (.int .u8) u2) (e2 : RV (whole W) sig0 u2 v2) : Calls Try.prog 5 #[v0, v1, v2] W fun e w' => e = .returned (.bool true) ∧ Below W.heap.size W w' := by
  obtain ⟨x0, l0, x0e, w0⟩ := eHand_vok o0
  obtain ⟨n1, rfl, w1⟩ := vok_str o1
  obtain ⟨n2, rfl, w2⟩ := vok_int o2
  exact law_calls3 (con := conOf [(9, lift Glong), (11, liftS [] Splay), (12, lift GOwn), (14, lift GSame), (10, lift Gawake), (13, liftS [(0, []), (0, [0])] SAs), (15, liftS [(0, []), (0, [0])] SHist), (16, lift GcCheck)]) (hs := (0, [])) 3000 Try.func5 rfl (by kernel_rfl) rfl (conCons long_con (conCons play_con (conCons Own_con (conCons Same_con (conCons awake_con (conCons As_con (conCons Hist_con (conCons cCheck_con conNil)))))))) (args := [_, _, _]) (args' := [.list eHand.s x0.length (eHand.tl x0), .kn (.string n1), .kn (.int .u8 n2)]) ⟨e0, e1, e2, trivial⟩ ⟨x0e, VExt.refl _, VExt.refl _, trivial⟩ (by simp [Try.ntmps5]) fun good hstep hext hle => CustodyHistories_ok n1 n2 x0 l0 (⟨w0, wf_u8 w2⟩) good hstep hext hle

end Go.Proofs.Ytgepkpajndlgeaa
