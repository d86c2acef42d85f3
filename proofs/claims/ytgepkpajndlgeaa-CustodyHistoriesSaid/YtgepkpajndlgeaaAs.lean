/- What is proved: a walk back over a slice of rows, for the last one of a day (a range over slices.Backward), hands back what the executor says of it. Condition: the slice holds rows of four texts and a number. -/
import Derived.RangeFuncNested
import Derived.RangeFuncBox
import Derived.RangeFuncLeaves
import Derived.Shelf.Abstract
import Derived.Shelf.RegionOpen
import Derived.RegionIn
import Derived.WalkKit
import Derived.OwnWalkIn
import Derived.TacticsInMore
import Derived.LoopNIn
import Derived.LoopIn
import Derived.Test.YtgepkpajndlgeaaAw2
import Derived.Test.YtgepkpajndlgeaaProg
namespace Go.Proofs.Ytgepkpajndlgeaa
open Go.RowKit Go.Shelf Go.Aw

attribute [local go_sem] Oper.semAt_some

abbrev Bk.Row := ByteArray × ByteArray × ByteArray × ByteArray × Int
def Bk.rowV (r : Bk.Row) : Value := .agg #[.string r.1, .string r.2.1, .string r.2.2.1, .string r.2.2.2.1, .int .i64 r.2.2.2.2]
def Bk.encB (x : Nat × Bk.Row) : Array Value := #[.int .i64 x.1, Bk.rowV x.2]
/-- What has come when k rounds are over. -/
def Bk.upto {α : Type} (f : Nat → α) (k : Nat) : List α := (List.range k).map f
theorem Bk.upto_succ {α : Type} (f : Nat → α) (k : Nat) : Bk.upto f (k + 1) = Bk.upto f k ++ [f k] := by simp [Bk.upto, List.range_succ]
theorem Bk.upto_length {α : Type} (f : Nat → α) (k : Nat) : (Bk.upto f k).length = k := by simp [Bk.upto]

def Bk.RowAt (W : World) (b o : Nat) (r : Bk.Row) : Prop :=
  W.cell? ⟨b, o, none⟩ = some (.string r.1) ∧ W.cell? ⟨b, o + 1, none⟩ = some (.string r.2.1) ∧ W.cell? ⟨b, o + 2, none⟩ = some (.string r.2.2.1) ∧
  W.cell? ⟨b, o + 3, none⟩ = some (.string r.2.2.2.1) ∧ W.cell? ⟨b, o + 4, none⟩ = some (.int .i64 r.2.2.2.2)
theorem Bk.RowAt.below {n₀ : Nat} {A B : World} (h : Below n₀ A B) {b o : Nat} (hb : b < n₀) {r : Bk.Row} (hr : Bk.RowAt A b o r) : Bk.RowAt B b o r :=
  ⟨(h.cell (p := ⟨b, o, none⟩) hb).trans hr.1, (h.cell (p := ⟨b, o + 1, none⟩) hb).trans hr.2.1, (h.cell (p := ⟨b, o + 2, none⟩) hb).trans hr.2.2.1, (h.cell (p := ⟨b, o + 3, none⟩) hb).trans hr.2.2.2.1, (h.cell (p := ⟨b, o + 4, none⟩) hb).trans hr.2.2.2.2⟩

set_option maxRecDepth 100000 in
set_option maxHeartbeats 2000000 in
theorem Bk.back1_in (F : Fence) (n : Nat) (h7 : F.fn 43) (hro : F.round = none) (hn : 1 ≤ n) (l Bs n₀ b off len cap : Nat) (rs : Nat → Bk.Row) (hreach : len ≤ 1000000) (hb : b < n₀) (hBn : Bs < n₀) (J Jx : List (Nat × Bk.Row) → World → Prop)
    (hY : ∀ pre x W, J pre W → pre.length < len → YieldAt F (n - 1) Try.prog l (Bk.encB x) W fun e W' =>
      (e = .returned (.bool true) ∧ J (pre ++ [x]) W' ∧ Below n₀ W W') ∨ (e = .returned (.bool false) ∧ Jx (pre ++ [x]) W'))
    (W : World) (hBs : W.cell? ⟨Bs, 0, none⟩ = some (.slice (some ⟨b, off, none⟩) len cap)) (hc : ∀ j, j < len → Bk.RowAt W b (off + j * 5) (rs j)) (h0 : J [] W) :
    CallsIn F n Try.prog 43 #[.func (.yield l) #[] #[], .pointer (some ⟨Bs, 0, none⟩)] W fun e W' => (∃ v, e = .returned v) ∧
      ((∃ ys, ys = Bk.upto (fun j => (len - 1 - j, rs (len - 1 - j))) len ∧ J ys W') ∨ (∃ pre, (∃ k, k ≤ len ∧ pre = Bk.upto (fun j => (len - 1 - j, rs (len - 1 - j))) k) ∧ Jx pre W')) := by
  refine callsIn_of_wp Try.func43 rfl h7 ?_ hro
  simp only [Try.ntmps43, List.size_toArray, List.length_cons, List.length_nil, Nat.reduceAdd, Nat.reduceSub, Array.replicate_succ, Array.replicate_zero, List.push_toArray, List.append_toArray, List.nil_append, List.cons_append]
  gi_wp2
  gi_loopw [3] (fun i wr => ∃ k : Nat, k ≤ len ∧ i = .int .i64 ((len : Int) - 1 - k) ∧ J (Bk.upto (fun j => (len - 1 - j, rs (len - 1 - j))) k) wr ∧ Below n₀ W wr)
    (fun i _ => (intOf i + 1).toNat)
  case atStart => exact ⟨0, Nat.zero_le _, by simp, h0, Below.refl _ _⟩
  case round =>
    obtain ⟨k, hk, rfl, hJs, hnx⟩ := hrel
    have hB1 : wr.cell? ⟨Bs, 0, none⟩ = some (.slice (some ⟨b, off, none⟩) len cap) := (hnx.cell (p := ⟨Bs, 0, none⟩) hBn).trans hBs
    by_cases hlt : k < len
    · obtain ⟨j, hj', hjl, hjk⟩ : ∃ j : Nat, (len : Int) - 1 - k = (j : Int) ∧ j < len ∧ j + k + 1 = len := ⟨len - 1 - k, by omega, by omega, by omega⟩
      obtain ⟨fn, tmps, assign, body, hy, hR⟩ := hY _ (j, rs j) wr hJs (by rw [Bk.upto_length]; exact hlt)
      have hcx := (hc j hjl).below hnx hb
      obtain ⟨hc0, hc1, hc2, hc3, hc4⟩ := hcx
      rw [hj']
      dsimp only [Bk.encB, Bk.rowV] at hy
      have hup : Bk.upto (fun j => (len - 1 - j, rs (len - 1 - j))) (k + 1) = Bk.upto (fun j => (len - 1 - j, rs (len - 1 - j))) k ++ [(j, rs j)] := by
        rw [Bk.upto_succ]; have : len - 1 - k = j := by omega
        simp [this]
      gi_wp2
      refine hR.mono ?_
      rintro e W3 (⟨rfl, hJ3, hk3⟩ | ⟨rfl, hJx3⟩)
      · have hB3 : W3.cell? ⟨Bs, 0, none⟩ = some (.slice (some ⟨b, off, none⟩) len cap) := (hk3.cell (p := ⟨Bs, 0, none⟩) hBn).trans hB1
        gi_wp2
        go_roundw
        case rel => exact ⟨k + 1, by omega, by simp; omega, by rw [hup]; exact hJ3, hnx.trans hk3⟩
        case measure => simp [intOf]
      · gi_wp2
        refine bodyPost_ret (results_none rfl _ _ _) rfl ?_
        exact ⟨⟨_, rfl⟩, .inr ⟨_, ⟨k + 1, by omega, hup.symm⟩, hJx3⟩⟩
    · obtain rfl : k = len := by omega
      have h1 : (k : Int) - 1 - k = -1 := by omega
      rw [h1]
      gi_wp2
      go_end0
      exact ⟨⟨_, rfl⟩, .inl ⟨_, rfl, hJs⟩⟩

set_option maxRecDepth 100000 in
set_option maxHeartbeats 2000000 in
/-- .. at a slice without elements. -/
theorem Bk.back1_nil_in (F : Fence) (n : Nat) (h7 : F.fn 43) (hro : F.round = none) (l Bs : Nat) (a : Option Addr) (cap : Nat) (J : List (Nat × Bk.Row) → World → Prop)
    (W : World) (hBs : W.cell? ⟨Bs, 0, none⟩ = some (.slice a 0 cap)) (h0 : J [] W) :
    CallsIn F n Try.prog 43 #[.func (.yield l) #[] #[], .pointer (some ⟨Bs, 0, none⟩)] W fun e W' => (∃ v, e = .returned v) ∧ J [] W' := by
  refine callsIn_of_wp Try.func43 rfl h7 ?_ hro
  simp only [Try.ntmps43, List.size_toArray, List.length_cons, List.length_nil, Nat.reduceAdd, Nat.reduceSub, Array.replicate_succ, Array.replicate_zero, List.push_toArray, List.append_toArray, List.nil_append, List.cons_append]
  gi_wp2
  gi_loopw [3] (fun i wr => i = .int .i64 (-1) ∧ J [] wr) (fun _ _ => 0)
  case atStart => exact ⟨rfl, h0⟩
  case round =>
    obtain ⟨rfl, hJs⟩ := hrel
    gi_wp2
    go_end0
    exact ⟨⟨_, rfl⟩, hJs⟩

/-- The slice value sv holds rows, below n₀; or there are none. -/
def Bk.Rows (n₀ : Nat) (W : World) (sv : Value) (len : Nat) (rs : Nat → Bk.Row) : Prop :=
  (∃ a cap, sv = .slice a 0 cap ∧ len = 0) ∨ ∃ b off cap, sv = .slice (some ⟨b, off, none⟩) len cap ∧ b < n₀ ∧ ∀ j, j < len → Bk.RowAt W b (off + j * 5) (rs j)
theorem Bk.Rows.below {n₀ : Nat} {A B : World} (h : Below n₀ A B) {sv : Value} {len : Nat} {rs : Nat → Bk.Row} : Bk.Rows n₀ A sv len rs → Bk.Rows n₀ B sv len rs
  | .inl e => .inl e
  | .inr ⟨b, off, cap, e, hb, hc⟩ => .inr ⟨b, off, cap, e, hb, fun j hj => (hc j hj).below h hb⟩
def Bk.backF (len : Nat) (rs : Nat → Bk.Row) (j : Nat) : Nat × Bk.Row := (len - 1 - j, rs (len - 1 - j))

theorem Bk.back_stops (F : Fence) (n : Nat) (h7 : F.fn 43) (hro : F.round = none) (hn : 1 ≤ n) (Bs n₀ len : Nat) (sv : Value) (rs : Nat → Bk.Row) (hreach : len ≤ 1000000) (w : World) (hBs : Bs < n₀) (hn₀ : n₀ ≤ w.heap.size)
    (hc : w.cell? ⟨Bs, 0, none⟩ = some sv) (hI : Bk.Rows n₀ w sv len rs) :
    SeqStopsK F n Try.prog 43 #[.pointer (some ⟨Bs, 0, none⟩)] Bk.encB (Below n₀) (fun ys => ys = Bk.upto (Bk.backF len rs) len) (fun pre => ∃ k, k ≤ len ∧ pre = Bk.upto (Bk.backF len rs) k) len w := fun l J Jx W hW _ _ hY h0 => by
  have hc' := (hW.cell (p := ⟨Bs, 0, none⟩) (Nat.lt_of_lt_of_le hBs hn₀)).trans hc
  rcases hI.below (hW.mono hn₀) with ⟨a, cap, rfl, rfl⟩ | ⟨b, off, cap, rfl, hb, hcs⟩
  · exact (Bk.back1_nil_in F n h7 hro l Bs a cap J W hc' h0).mono fun e W' ⟨he, hj⟩ => ⟨he, .inl ⟨_, rfl, hj⟩⟩
  · exact Bk.back1_in F n h7 hro hn l Bs n₀ b off len cap rs hreach hb hBs J Jx hY W hc' hcs h0

theorem Bk.tailK_of {P : Program} {f : FuncId} {fn : Func} {c : Code} {K : List Item} (hf : P.funcs[f]? = some fn) (hb : fn.body = some c) (h : findRF c [] = some K) : tailK P f = K := by
  simp [tailK, hf, hb, h]

/-- What a row of cells holds. -/
theorem Bk.rows_of {base : Blk} {σ : Sig} {F : Fz} {h : List O} {w : World} (g : Gm base σ F h w) {lv : V} {sv : Value} {s n : Nat} {f : Nat → List V} (hv : view (getO h) lv = some (s, n, f)) (hr : RV F σ lv sv) (rs : Nat → Bk.Row)
    (hs : n = 0 ∨ s = 5) (hrs : ∀ i, i < n → f i = [.kn (.string (rs i).1), .kn (.string (rs i).2.1), .kn (.string (rs i).2.2.1), .kn (.string (rs i).2.2.2.1), .kn (.int .i64 (rs i).2.2.2.2)]) :
    Bk.Rows w.heap.size w sv n rs := by
  have hkn : ∀ {σ : Sig} {x y : Value}, RV F σ (.kn x) y → y = x := fun h => by cases h; rfl
  have hrow : ∀ (b off : Nat) (i : Nat) (G : Nat → Value), i < n → (∀ j, j < 5 → w.cell? ⟨b, off + j, none⟩ = some (G j)) → (∀ j u, (f i)[j]? = some u → ∃ σ, RV F σ u (G j)) → Bk.RowAt w b off (rs i) := fun b off i G hi hc hg => by
    rw [hrs i hi] at hg
    obtain ⟨_, h0⟩ := hg 0 _ rfl
    obtain ⟨_, h1⟩ := hg 1 _ rfl
    obtain ⟨_, h2⟩ := hg 2 _ rfl
    obtain ⟨_, h3⟩ := hg 3 _ rfl
    obtain ⟨_, h4⟩ := hg 4 _ rfl
    exact ⟨by rw [← hkn h0]; exact hc 0 (by omega), by rw [← hkn h1]; exact hc 1 (by omega), by rw [← hkn h2]; exact hc 2 (by omega), by rw [← hkn h3]; exact hc 3 (by omega), by rw [← hkn h4]; exact hc 4 (by omega)⟩
  unfold view at hv
  split at hv
  · cases hv
    cases hr with
    | list0 hn => exact .inl ⟨_, _, by rw [hn], hn⟩
    | @list _ _ _ _ b off cap G hcap hl hc ho hrr =>
      by_cases h0 : n = 0
      · subst h0; exact .inl ⟨_, _, rfl, rfl⟩
      · obtain rfl : s = 5 := hs.resolve_left h0
        refine .inr ⟨b, off, cap, rfl, ?_, fun i hi => hrow b (off + i * 5) i (G i) hi (fun j hj => cellF_cell g (hc i j hi hj)) fun j u hu => ⟨_, hrr i j u hi hu⟩⟩
        have := hc 0 0 (by omega) (by omega)
        unfold cellF at this
        cases hb : F b with
        | none => rw [hb] at this; cases this
        | some o => exact (Array.getElem?_eq_some_iff.1 (g.fz b o hb)).1
  · cases hv
    cases hr
    exact .inl ⟨_, _, rfl, rfl⟩
  · rename_i l
    split at hv
    · rename_i e s' n' f' p hO
      cases hv
      cases hr with
      | sl hσ =>
      have ho := g.obj l
      rw [hO, hσ] at ho
      obtain ⟨v, xs, hx, hown, hl, hrr, h1⟩ := ho
      cases hx
      obtain ⟨hlen, ⟨rfl, rfl⟩ | ⟨b, cap, cur, rfl, _, hb, hn, hm, hsz, htk⟩⟩ := hown
      · exact .inl ⟨_, _, rfl, rfl⟩
      · by_cases h0 : n = 0
        · subst h0; exact .inl ⟨_, _, rfl, rfl⟩
        · obtain rfl : s = 5 := hs.resolve_left h0
          refine .inr ⟨b, 0, cap, rfl, (Array.getElem?_eq_some_iff.1 hb).1, fun i hi => ?_⟩
          have hle : i * 5 + 5 ≤ n * 5 := by omega
          refine hrow b (0 + i * 5) i (fun j => xs.getD (i * 5 + j) undef) hi (fun j hj => ?_) fun j u hu => ⟨_, hrr i j u hi hu⟩
          have hlt : i * 5 + j < cur.size := by rw [hsz]; omega
          simp only [World.cell?, hb]
          rw [← htk]
          have : (cur.toList.take (n * 5)).getD (i * 5 + j) undef = cur[i * 5 + j] := by
            rw [List.getD_eq_getElem?_getD, List.getElem?_take_of_lt (by omega), List.getElem?_eq_getElem (by simpa using hlt)]
            simp
          rw [this]
          simp [hlt]
    · cases hv
  · cases hv

/-- What the walk back hands back. -/
def Bk.asV (day : Int) (rs : Nat → Bk.Row) : Nat → Option Nat
  | 0 => none
  | n + 1 => bif decide ((rs n).2.2.2.2 ≤ day) then some n else Bk.asV day rs n

theorem Bk.lastI_eq {day : Int} {rs : Nat → Bk.Row} {f : Nat → List V} : ∀ n, (∀ i, i < n → f i = [.kn (.string (rs i).1), .kn (.string (rs i).2.1), .kn (.string (rs i).2.2.1), .kn (.string (rs i).2.2.2.1), .kn (.int .i64 (rs i).2.2.2.2)]) → lastI day f n = Bk.asV day rs n
  | 0, _ => rfl
  | n + 1, h => by
    have ih := Bk.lastI_eq (day := day) n fun i hi => h i (by omega)
    unfold lastI Bk.asV
    rw [h n (by omega), ih]
    rfl
theorem Bk.asV_none {day : Int} {rs : Nat → Bk.Row} : ∀ n, (∀ i, i < n → day < (rs i).2.2.2.2) → Bk.asV day rs n = none
  | 0, _ => rfl
  | n + 1, h => by
    have h1 := h n (by omega)
    have : decide ((rs n).2.2.2.2 ≤ day) = false := decide_eq_false (by omega)
    simp [Bk.asV, this, Bk.asV_none n fun i hi => h i (by omega)]
theorem Bk.asV_some {day : Int} {rs : Nat → Bk.Row} {m : Nat} (hm : (rs m).2.2.2.2 ≤ day) : ∀ n, m < n → (∀ i, m < i → i < n → day < (rs i).2.2.2.2) → Bk.asV day rs n = some m
  | 0, h, _ => by omega
  | n + 1, h, hh => by
    by_cases e : m = n
    · subst e; simp [Bk.asV, hm]
    · have h1 := hh n (by omega) (by omega)
      have : decide ((rs n).2.2.2.2 ≤ day) = false := decide_eq_false (by omega)
      simp [Bk.asV, this, Bk.asV_some hm n (by omega) fun i h1 h2 => hh i h1 (by omega)]

theorem Bk.cons_of {α : Type} {l : List α} {n : Nat} (h : l.length = n + 1) : ∃ x r, l = x :: r ∧ r.length = n := by
  cases l with
  | nil => cases h
  | cons x r => exact ⟨x, r, rfl, by simpa using h⟩

def Bk.cellsR (r : Bk.Row) : Array Value := #[.string r.1, .string r.2.1, .string r.2.2.1, .string r.2.2.2.1, .int .i64 r.2.2.2.2]
def Bk.BoxR (W : World) (B : Nat) (r : Bk.Row) : Prop := W.heap[B]? = some (.cells (Bk.cellsR r) 41 (0, 0))
set_option maxRecDepth 100000 in
set_option maxHeartbeats 2000000 in
theorem Bk.as_tail {t : Tm} {h : List O} {q qd q6 q7 q8 : Nat} {lv v6 v7 v8 : V} {s n : Nat} {f : Nat → List V} {day : Int} (rs : Nat → Bk.Row)
    (h17 : Go.Aw.look t 17 = .fn 43 [.ptr q 0]) (hq : getO h q = .cells [lv]) (hv : view (getO h) lv = some (s, n, f)) (h5 : Go.Aw.look t 5 = .ptr qd 0) (hqd : getO h qd = .cells [.kn (.int .i64 day)])
    (h6 : Go.Aw.look t 6 = .ptr q6 0) (h7 : Go.Aw.look t 7 = .ptr q7 0) (h8 : Go.Aw.look t 8 = .ptr q8 0) (hq6 : getO h q6 = .cells [v6]) (hq7 : getO h q7 = .cells [v7]) (hq8 : getO h q8 = .cells [v8])
    (hnd : q6 ≠ q7 ∧ q6 ≠ q8 ∧ q7 ≠ q8) (hn : n ≤ 1000000)
    (hs : n = 0 ∨ s = 5) (hrs : ∀ i, i < n → f i = [.kn (.string (rs i).1), .kn (.string (rs i).2.1), .kn (.string (rs i).2.2.1), .kn (.string (rs i).2.2.2.1), .kn (.int .i64 (rs i).2.2.2.2)]) :
    TailOK Try.prog ⟨13, 28, t, tailK Try.prog 13⟩ h (.tup [.kn (.string (strOf f 2 (lastI day f n))), .kn (.string (strOf f 3 (lastI day f n))), .kn (.bool (lastI day f n).isSome)]) [(q6, .dead), (q7, .dead), (q8, .dead)] := by
  refine ⟨fun base σ F w b a g hbase hf cs => ?_⟩
  rw [Bk.tailK_of Try.func13 rfl rfl]
  obtain ⟨hfn, hkd, hdf, hsz, htm⟩ := hf
  have cell : ∀ {i q : Nat} {u : V}, Go.Aw.look t i = .ptr q 0 → getO h q = .cells [u] → ∃ (b : Nat) (x : Value), a.tmps.getD i undef = .pointer (some ⟨b, 0, none⟩) ∧ σ q = some (.pointer (some ⟨b, 0, none⟩)) ∧ w.cell? ⟨b, 0, none⟩ = some x ∧ RV F σ u x ∧ b < w.heap.size ∧ w.frozen? ⟨b, 0, none⟩ = false ∧ ob (getO h q) (σ q) = some b := by
    intro i q u hl hO
    have h1 := htm i
    rw [hl] at h1
    have h2 := g.obj q
    rw [hO] at h2
    obtain ⟨b, arr, e, hσ, hb, hsz, hx⟩ := h2
    generalize a.tmps.getD i undef = y at h1
    cases h1 with
    | ptr h3 =>
      rw [hσ] at h3
      cases h3
      have hlt : 0 < arr.size := by rw [hsz]; simp
      refine ⟨b, arr.getD 0 undef, by simp, hσ, by simp [World.cell?, hb, hlt, Array.getD_eq_getD_getElem?], hx 0 u rfl, (Array.getElem?_eq_some_iff.1 hb).1, by simp [World.frozen?, hb], by rw [hO, hσ]; rfl⟩
  obtain ⟨b5, x5, e5, s5, c5, r5, l5, f5, o5⟩ := cell h5 hqd
  obtain ⟨b6, x6, e6, s6, c6, r6, l6, f6, o6⟩ := cell h6 hq6
  obtain ⟨b7, x7, e7, s7, c7, r7, l7, f7, o7⟩ := cell h7 hq7
  obtain ⟨b8, x8, e8, s8, c8, r8, l8, f8, o8⟩ := cell h8 hq8
  obtain rfl : x5 = .int .i64 day := by cases r5; rfl
  have n67 : b6 ≠ b7 := fun e => hnd.1 (g.sep q6 q7 b6 o6 (e ▸ o7))
  have n68 : b6 ≠ b8 := fun e => hnd.2.1 (g.sep q6 q8 b6 o6 (e ▸ o8))
  have n78 : b7 ≠ b8 := fun e => hnd.2.2 (g.sep q7 q8 b7 o7 (e ▸ o8))
  obtain ⟨bq, sv, e17, cq, rq, lq⟩ : ∃ bq sv, a.tmps.getD 17 undef = .func (.func 43) #[] #[.pointer (some ⟨bq, 0, none⟩)] ∧ w.cell? ⟨bq, 0, none⟩ = some sv ∧ RV F σ lv sv ∧ bq < w.heap.size := by
    have h1 := htm 17
    rw [h17] at h1
    generalize a.tmps.getD 17 undef = y at h1
    cases h1 with
    | @fn _ _ _ xs hl hh =>
      have h2 := hh 0 _ rfl
      have hsx : xs = #[xs.getD 0 undef] := by
        apply Array.ext
        · rw [← hl]; rfl
        · intro i h1 h2; have : i = 0 := by simp at h2; omega
          subst this; simp [Array.getD_eq_getD_getElem?, h1]
      generalize xs.getD 0 undef = y at h2 hsx
      subst hsx
      have h3 := g.obj q
      rw [hq] at h3
      obtain ⟨b, arr, e, hσ, hb, hsz, hx⟩ := h3
      cases h2 with
      | ptr h4 =>
        rw [hσ] at h4
        cases h4
        have hlt : 0 < arr.size := by rw [hsz]; simp
        exact ⟨b, arr.getD 0 undef, by simp, by simp [World.cell?, hb, hlt, Array.getD_eq_getD_getElem?], hx 0 lv rfl, (Array.getElem?_eq_some_iff.1 hb).1⟩
  have hrows := Bk.rows_of g hv rq rs hs hrs
  obtain ⟨⟨tm⟩, df⟩ := a
  obtain rfl : df = [] := hdf
  replace hsz : tm.length = 28 := hsz
  obtain ⟨t0, m0, rfl, z0⟩ := Bk.cons_of hsz
  obtain ⟨t1, m1, rfl, z1⟩ := Bk.cons_of z0
  obtain ⟨t2, m2, rfl, z2⟩ := Bk.cons_of z1
  obtain ⟨t3, m3, rfl, z3⟩ := Bk.cons_of z2
  obtain ⟨t4, m4, rfl, z4⟩ := Bk.cons_of z3
  obtain ⟨t5, m5, rfl, z5⟩ := Bk.cons_of z4
  obtain ⟨t6, m6, rfl, z6⟩ := Bk.cons_of z5
  obtain ⟨t7, m7, rfl, z7⟩ := Bk.cons_of z6
  obtain ⟨t8, m8, rfl, z8⟩ := Bk.cons_of z7
  obtain ⟨t9, m9, rfl, z9⟩ := Bk.cons_of z8
  obtain ⟨t10, m10, rfl, z10⟩ := Bk.cons_of z9
  obtain ⟨t11, m11, rfl, z11⟩ := Bk.cons_of z10
  obtain ⟨t12, m12, rfl, z12⟩ := Bk.cons_of z11
  obtain ⟨t13, m13, rfl, z13⟩ := Bk.cons_of z12
  obtain ⟨t14, m14, rfl, z14⟩ := Bk.cons_of z13
  obtain ⟨t15, m15, rfl, z15⟩ := Bk.cons_of z14
  obtain ⟨t16, m16, rfl, z16⟩ := Bk.cons_of z15
  obtain ⟨t17, m17, rfl, z17⟩ := Bk.cons_of z16
  obtain ⟨t18, m18, rfl, z18⟩ := Bk.cons_of z17
  obtain ⟨t19, m19, rfl, z19⟩ := Bk.cons_of z18
  obtain ⟨t20, m20, rfl, z20⟩ := Bk.cons_of z19
  obtain ⟨t21, m21, rfl, z21⟩ := Bk.cons_of z20
  obtain ⟨t22, m22, rfl, z22⟩ := Bk.cons_of z21
  obtain ⟨t23, m23, rfl, z23⟩ := Bk.cons_of z22
  obtain ⟨t24, m24, rfl, z24⟩ := Bk.cons_of z23
  obtain ⟨t25, m25, rfl, z25⟩ := Bk.cons_of z24
  obtain ⟨t26, m26, rfl, z26⟩ := Bk.cons_of z25
  obtain ⟨t27, m27, rfl, z27⟩ := Bk.cons_of z26
  obtain rfl : m27 = [] := List.length_eq_zero_iff.1 z27
  obtain rfl : t5 = _ := e5
  obtain rfl : t6 = _ := e6
  obtain rfl : t7 = _ := e7
  obtain rfl : t8 = _ := e8
  obtain rfl : t17 = _ := e17
  clear htm
  have hout : ∀ {q : Nat} {cs : List V} {bb : Nat}, getO h q = .cells cs → ob (getO h q) (σ q) = some bb → ¬ base bb := fun hO ho => (g.own _ _ ho).1
  refine tail_done (P := Try.prog) (n := 3) (fun e w' => e = .returned (.tuple #[.string (strOf f 2 (Bk.asV day rs n)), .string (strOf f 3 (Bk.asV day rs n)), .bool (Bk.asV day rs n).isSome]) ∧ Chg [b6, b7, b8] w w') Try.func13 b hfn hkd cs ?fin ?_
  case fin =>
    rintro e w' ⟨rfl, hC⟩
    refine ⟨_, rfl, σ, F, ?_, ?_, Sle.refl _, FExt.refl _ _, hC.os, hC.tape, hC.output, hC.size, fun k hk => hC.block k (hbase k hk) fun hm => ?_⟩
    · refine g.kill [q6, q7, q8] hC.size (fun k hk hne => hC.block k hk fun hm => ?_) fun l hl => ?_
      · simp only [List.mem_cons, List.not_mem_nil, or_false] at hm
        rcases hm with rfl | rfl | rfl
        · exact hne q6 (by simp) o6
        · exact hne q7 (by simp) o7
        · exact hne q8 (by simp) o8
      · simp only [List.mem_cons, List.not_mem_nil, or_false] at hl
        rcases hl with rfl | rfl | rfl
        · exact ⟨_, hq6⟩
        · exact ⟨_, hq7⟩
        · exact ⟨_, hq8⟩
    · rw [Bk.lastI_eq n hrs]
      refine .tup rfl fun i v hi => ?_
      match i, hi with
      | 0, hi => cases hi; exact .kn
      | 1, hi => cases hi; exact .kn
      | 2, hi => cases hi; exact .kn
    · simp only [List.mem_cons, List.not_mem_nil, or_false] at hm
      rcases hm with rfl | rfl | rfl
      · exact hout hq6 o6 hk
      · exact hout hq7 o7 hk
      · exact hout hq8 o8 hk
  have hleave : ∀ (W : World) (D : Nat) (u6 u7 : ByteArray) (u8 : Bool), Chg [b6, b7, b8] w W → W.cell? ⟨b6, 0, none⟩ = some (.string u6) → W.cell? ⟨b7, 0, none⟩ = some (.string u7) → W.cell? ⟨b8, 0, none⟩ = some (.bool u8) →
      W.heap[D]? = some (.deferred (some [])) → w.heap.size ≤ D →
      LeavesInM Fence.wide 3 Try.prog Try.f13 #[t0, t1, t2, t3, t4, .pointer (some ⟨b5, 0, none⟩), .pointer (some ⟨b6, 0, none⟩), .pointer (some ⟨b7, 0, none⟩), .pointer (some ⟨b8, 0, none⟩), t9, t10, t11, t12, t13, t14, t15, t16, .func (.func 43) #[] #[.pointer (some ⟨bq, 0, none⟩)], t18, t19, t20, t21, t22, t23, t24, t25, t26, t27]
        (fun e w' => e = .returned (.tuple #[.string u6, .string u7, .bool u8]) ∧ Chg [b6, b7, b8] w w') [{ target := .collected D, args := #[] }] .returning W := by
    intro W D u6 u7 u8 hC h6 h7 h8 hK hD
    refine ⟨by simp, .inl ⟨_, _, rfl, run_takeDeferred hK, ?_⟩⟩
    have hB : Below w.heap.size W (W.putObj D (.deferred none)) := belowK_b (w := w) (Nat.le_refl _) W D _ _ hD hK rfl rfl
    have g6 := (hB.cell (p := ⟨b6, 0, none⟩) l6).trans h6
    have g7 := (hB.cell (p := ⟨b7, 0, none⟩) l7).trans h7
    have g8 := (hB.cell (p := ⟨b8, 0, none⟩) l8).trans h8
    refine ⟨_, ?_, rfl, hC.trans_below hB⟩
    generalize W.putObj D (.deferred none) = W' at g6 g7 g8
    simp [results, Try.f13, go_sem, g6, g7, g8]
  obtain ⟨I, hI⟩ : ∃ I : List (Nat × Bk.Row) → World → Prop, I = fun pre W => (∀ x ∈ pre, day < x.2.2.2.2.2) ∧ Below w.heap.size w W := ⟨_, rfl⟩
  obtain ⟨Ix, hX⟩ : ∃ Ix : Code → List (Nat × Bk.Row) → World → Prop, Ix = fun c pre W => c = .ret ∧ ∃ p x, pre = p ++ [x] ∧ (∀ y ∈ p, day < y.2.2.2.2.2) ∧ x.2.2.2.2.2 ≤ day ∧ Chg [b6, b7, b8] w W ∧ W.cell? ⟨b6, 0, none⟩ = some (.string x.2.2.2.1) ∧ W.cell? ⟨b7, 0, none⟩ = some (.string x.2.2.2.2.1) ∧ W.cell? ⟨b8, 0, none⟩ = some (.bool true) := ⟨_, rfl⟩
  refine wpIn_rangeFunc_ownH (F := Fence.wide) (n := 3) rfl (by omega) (gf := 43) (lb := #[.pointer (some ⟨bq, 0, none⟩)]) rfl trivial (enters_of Try.func43 (by kernel_rfl) rfl)
    (Bk.back_stops Fence.wide _ trivial rfl (by omega) bq w.heap.size n sv rs hn w lq (Nat.le_refl _) cq hrows) belowK_t (belowK_b (Nat.le_refl _)) (Below.refl _ _) (fun _ => rfl)
    I Ix
    ?hI ?hIx (by rw [hI]; exact ⟨by simp, Below.refl _ _⟩)
    (fun x a' W => ∃ Bx, w.heap.size ≤ Bx ∧ Bk.BoxR W Bx x.2 ∧ a' = { tmps := #[t0, t1, t2, t3, t4, .pointer (some ⟨b5, 0, none⟩), .pointer (some ⟨b6, 0, none⟩), .pointer (some ⟨b7, 0, none⟩), .pointer (some ⟨b8, 0, none⟩), t9, .pointer (some ⟨Bx, 0, none⟩), t11, t12, t13, t14, t15, t16, .func (.func 43) #[] #[.pointer (some ⟨bq, 0, none⟩)], .int .i64 x.1, Bk.rowV x.2, t20, t21, t22, t23, t24, t25, t26, t27], defers := [] })
    ?hAx ?assign ?body ?done ?stop
  case hI => rw [hI]; exact OwnFrom.and (fun s A B row hs hg hr => hs) (ownFrom_below (Nat.le_refl _) (Nat.le_refl _))
  case hIx =>
    rw [hX]
    intro c
    rintro s A B row ⟨rfl, p, x, he, hp, hx, hC, hc6, hc7, hc8⟩ hg hr
    have hB : Below w.heap.size A B := (Below.refl _ A).grown hg hC.size (fun k e => (hr k e).1)
    exact ⟨rfl, p, x, he, hp, hx, hC.trans_below hB, (hB.cell (p := ⟨b6, 0, none⟩) l6).trans hc6, (hB.cell (p := ⟨b7, 0, none⟩) l7).trans hc7, (hB.cell (p := ⟨b8, 0, none⟩) l8).trans hc8⟩
  case hAx =>
    rintro x a' s A B row ⟨Bx, h1, h2, h3⟩ hg hr
    exact ⟨Bx, h1, (grownBy_keeps_cells hg (fun r e => (hr r e).2) h2 rfl).trans h2, h3⟩
  case assign =>
    rintro l pre ⟨i, r1, r2, r3, r4, d⟩ W K hIW hK
    simp only [Bk.encB, Bk.rowV]
    have hB : Below w.heap.size w W := by rw [hI] at hIW; exact hIW.2
    have hIW' : ∀ o, I pre (W.alloc o) := fun o => by rw [hI] at hIW ⊢; exact ⟨hIW.1, hB.alloc hB.size _⟩
    clear hI hX
    gi_wp2
    exact hK _ _ ((KeepsOthers.alloc _ _).from _) ((Below.refl _ W).alloc hB.size _) (hIW' _) ⟨W.heap.size, hB.size, World.alloc_heap_new W _, rfl⟩
  case body =>
    rintro l pre ⟨i, r1, r2, r3, r4, d⟩ a' W hl ⟨r, hr⟩ hIW ⟨Bx, hBx, bX, rfl⟩ hlt
    obtain ⟨hp, hB⟩ : (∀ x ∈ pre, day < x.2.2.2.2.2) ∧ Below w.heap.size w W := by rw [hI] at hIW; exact hIW
    have hx5 : W.cell? ⟨b5, 0, none⟩ = some (.int .i64 day) := (hB.cell (p := ⟨b5, 0, none⟩) l5).trans c5
    have hx6 : W.cell? ⟨b6, 0, none⟩ = some x6 := (hB.cell (p := ⟨b6, 0, none⟩) l6).trans c6
    have hx7 : W.cell? ⟨b7, 0, none⟩ = some x7 := (hB.cell (p := ⟨b7, 0, none⟩) l7).trans c7
    have hx8 : W.cell? ⟨b8, 0, none⟩ = some x8 := (hB.cell (p := ⟨b8, 0, none⟩) l8).trans c8
    have hf6 : W.frozen? ⟨b6, 0, none⟩ = false := (World.frozen?_of_block (hB.block b6 l6)).trans f6
    have hf7 : W.frozen? ⟨b7, 0, none⟩ = false := (World.frozen?_of_block (hB.block b7 l7)).trans f7
    have hf8 : W.frozen? ⟨b8, 0, none⟩ = false := (World.frozen?_of_block (hB.block b8 l8)).trans f8
    have y2 : W.cell? ⟨Bx, 2, none⟩ = some (.string r3) := by simp [World.cell?, show W.heap[Bx]? = _ from bX, Bk.cellsR]
    have y3 : W.cell? ⟨Bx, 3, none⟩ = some (.string r4) := by simp [World.cell?, show W.heap[Bx]? = _ from bX, Bk.cellsR]
    have y4 : W.cell? ⟨Bx, 4, none⟩ = some (.int .i64 d) := by simp [World.cell?, show W.heap[Bx]? = _ from bX, Bk.cellsR]
    simp only [Bk.rowV]
    by_cases hle : d ≤ day
    · have hend : ∀ W3, W3 = (((W.setCell ⟨b6, 0, none⟩ (.string r3)).setCell ⟨b7, 0, none⟩ (.string r4)).setCell ⟨b8, 0, none⟩ (.bool true)).drew → KeepsFrom w.heap.size W W3 ∧ Ix .ret (pre ++ [(i, r1, r2, r3, r4, d)]) W3 := by
        rintro _ rfl
        refine ⟨((((KeepsOthers.setCell W _ _).trans (KeepsOthers.setCell _ _ _)).trans (KeepsOthers.setCell _ _ _)).trans (KeepsOthers.drew _)).from _, ?_⟩
        obtain ⟨W3, hW3⟩ : ∃ W3, W3 = ((W.setCell ⟨b6, 0, none⟩ (.string r3)).setCell ⟨b7, 0, none⟩ (.string r4)).setCell ⟨b8, 0, none⟩ (.bool true) := ⟨_, rfl⟩
        rw [← hW3]
        have hC : Chg [b6, b7, b8] w W3 := by
          rw [hW3]
          exact (((Chg.of_below hB).set (by simp) _).set (by simp) _).set (by simp) _
        have hD : Below w.heap.size W3 W3.drew := (Below.refl _ _).drew
        rw [hX]
        refine ⟨rfl, pre, _, rfl, hp, hle, hC.trans_below hD, (hD.cell (p := ⟨b6, 0, none⟩) l6).trans ?_, (hD.cell (p := ⟨b7, 0, none⟩) l7).trans ?_, (hD.cell (p := ⟨b8, 0, none⟩) l8).trans ?_⟩
        · rw [hW3, set_far (Ne.symm n68), set_far (Ne.symm n67)]
          exact set_near hx6
        · rw [hW3, set_far (Ne.symm n78)]
          exact set_near ((set_far n67).trans hx7)
        · rw [hW3]
          exact set_near (((set_far n78).trans (set_far n68)).trans hx8)
      clear hI hX
      gi_wp2
      gi_region
      all_goals gi_wp2
      all_goals exact hend _ rfl
    · have hend : KeepsFrom w.heap.size W W ∧ Below w.heap.size W W ∧ I (pre ++ [(i, r1, r2, r3, r4, d)]) W := by
        refine ⟨(KeepsOthers.refl W).from _, Below.refl _ _, ?_⟩
        rw [hI]
        refine ⟨fun y hy => ?_, hB⟩
        rcases List.mem_append.1 hy with hy | hy
        · exact hp y hy
        · simp only [List.mem_singleton] at hy; subst hy; simpa using hle
      clear hI hX
      gi_wp2
      exact hend
  case done =>
    intro D xs W hD hxs hIW hK
    obtain ⟨hp, hB⟩ : (∀ x ∈ xs, day < x.2.2.2.2.2) ∧ Below w.heap.size w W := by rw [hI] at hIW; exact hIW
    show Code.wpIn _ _ _ _ _ _ _
    have hx6 : W.cell? ⟨b6, 0, none⟩ = some x6 := (hB.cell (p := ⟨b6, 0, none⟩) l6).trans c6
    have hx7 : W.cell? ⟨b7, 0, none⟩ = some x7 := (hB.cell (p := ⟨b7, 0, none⟩) l7).trans c7
    have hx8 : W.cell? ⟨b8, 0, none⟩ = some x8 := (hB.cell (p := ⟨b8, 0, none⟩) l8).trans c8
    have hf6 : W.frozen? ⟨b6, 0, none⟩ = false := (World.frozen?_of_block (hB.block b6 l6)).trans f6
    have hf7 : W.frozen? ⟨b7, 0, none⟩ = false := (World.frozen?_of_block (hB.block b7 l7)).trans f7
    have hf8 : W.frozen? ⟨b8, 0, none⟩ = false := (World.frozen?_of_block (hB.block b8 l8)).trans f8
    have hnone : Bk.asV day rs n = none := Bk.asV_none n fun i hi => by
      have := hp (Bk.backF n rs (n - 1 - i)) (by rw [hxs]; exact List.mem_map.2 ⟨n - 1 - i, by simp; omega, rfl⟩)
      simpa [Bk.backF, show n - 1 - (n - 1 - i) = i by omega] using this
    rw [hnone]
    clear hI hX
    gi_wp2
    exact hleave _ D _ _ _ ((((Chg.of_below hB).set (by simp) _).set (by simp) _).set (by simp) _)
      (by rw [set_far (Ne.symm n68), set_far (Ne.symm n67)]; exact set_near hx6)
      (by rw [set_far (Ne.symm n78)]; exact set_near ((set_far n67).trans hx7))
      (set_near (((set_far n78).trans (set_far n68)).trans hx8)) (set_heap (by omega) (set_heap (by omega) (set_heap (by omega) hK))) hD
  case stop =>
    intro D c pre W hD hS hIW hK
    obtain ⟨k, hk, rfl⟩ := hS
    rw [hX] at hIW
    obtain ⟨rfl, p, x, he, hp, hx, hC, hc6, hc7, hc8⟩ := hIW
    obtain ⟨m, hm, hmn, hxr⟩ : ∃ m, Bk.asV day rs n = some m ∧ m < n ∧ x.2 = rs m := by
      cases k with
      | zero => simp [Bk.upto] at he
      | succ k =>
        rw [Bk.upto_succ] at he
        obtain ⟨e1, e2⟩ := List.append_inj' he rfl
        obtain rfl : Bk.backF n rs k = x := by simpa using e2
        refine ⟨n - 1 - k, Bk.asV_some hx n (by omega) fun i h1 h2 => ?_, by omega, rfl⟩
        have := hp (Bk.backF n rs (n - 1 - i)) (by rw [← e1]; exact List.mem_map.2 ⟨n - 1 - i, by simp; omega, rfl⟩)
        simpa [Bk.backF, show n - 1 - (n - 1 - i) = i by omega] using this
    rw [hm, show strOf f 2 (some m) = x.2.2.2.1 by simp only [strOf, hrs m hmn, hxr]; rfl, show strOf f 3 (some m) = x.2.2.2.2.1 by simp only [strOf, hrs m hmn, hxr]; rfl]
    clear hI hX
    gi_wp2
    all_goals exact hleave _ D _ _ _ hC hc6 hc7 hc8 hK hD

end Go.Proofs.Ytgepkpajndlgeaa
