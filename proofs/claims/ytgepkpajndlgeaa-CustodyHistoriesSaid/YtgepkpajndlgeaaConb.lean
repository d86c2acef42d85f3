/- What is proved: contracts of functions of one seat, each by the executor; written by a program of the prover (gen.py) and by hand. Conditions: each contract names its own. -/
import Derived.Test.YtgepkpajndlgeaaAw2
import Derived.Test.YtgepkpajndlgeaaProg
import Derived.KernelRfl
import Derived.IntWalk
import Derived.Test.YtgepkpajndlgeaaCons
namespace Go.Proofs.Ytgepkpajndlgeaa
open Go Go.Aw Go.RowKit
set_option linter.unusedVariables false
set_option linter.unusedSimpArgs false
set_option maxRecDepth 10000
def ownL (l : List Hand) (b : ByteArray) : List Hand := l.filter fun x => x.box == b
def leS (s x : ByteArray) : Bool := Op.bytesLess s.toList x.toList || s.toList == x.toList
def putA (s : ByteArray) (o : List ByteArray) (x : ByteArray) : List ByteArray := bif !(x.toList == s.toList) then o ++ [x] else o
def putS (s : ByteArray) (st : List ByteArray × Bool) (x : ByteArray) : List ByteArray × Bool := bif !st.2 && leS s x then (putA s (st.1 ++ [s]) x, true) else (putA s st.1 x, st.2)
def putL (l : List ByteArray) (s : ByteArray) : List ByteArray := bif (l.foldl (putS s) ([], false)).2 then (l.foldl (putS s) ([], false)).1 else (l.foldl (putS s) ([], false)).1 ++ [s]
def boxesL (l : List Hand) : List ByteArray := l.foldl (fun o x => putL o x.box) []


theorem ownL_snoc {l : List Hand} {b : ByteArray} {i : Nat} (hi : i < l.length) : ownL (l.take (i + 1)) b = ownL (l.take i) b ++ (bif l[i].box == b then [l[i]] else []) := by
  unfold ownL
  rw [take_at hi, List.filter_append]
  cases h : (l[i].box == b) <;> simp [List.filter, h]
theorem ownL_len (l : List Hand) (b : ByteArray) : (ownL l b).length ≤ l.length := List.length_filter_le _ _
theorem putA_len (s : ByteArray) (o : List ByteArray) (x : ByteArray) : (putA s o x).length ≤ o.length + 1 := by
  unfold putA; cases (!(x.toList == s.toList)) <;> simp
theorem putS_len (s : ByteArray) : ∀ (l : List ByteArray) (st : List ByteArray × Bool), (l.foldl (putS s) st).1.length + (bif (l.foldl (putS s) st).2 then 0 else 1) ≤ st.1.length + (bif st.2 then 0 else 1) + l.length
  | [], st => by simp
  | x :: r, st => by
    have h1 := putS_len s r (putS s st x)
    have h2 : (putS s st x).1.length + (bif (putS s st x).2 then 0 else 1) ≤ st.1.length + (bif st.2 then 0 else 1) + 1 := by
      obtain ⟨o, d⟩ := st
      unfold putS
      have e1 := putA_len s (o ++ [s]) x
      have e2 := putA_len s o x
      cases d <;> cases leS s x <;> simp at * <;> omega
    simp only [List.foldl_cons, List.length_cons]
    omega
theorem putL_len (l : List ByteArray) (s : ByteArray) : (putL l s).length ≤ l.length + 1 := by
  have := putS_len s l ([], false)
  unfold putL
  cases h : (l.foldl (putS s) ([], false)).2 <;> rw [h] at this <;> simp at * <;> omega
theorem boxesL_snoc {l : List Hand} {i : Nat} (hi : i < l.length) : boxesL (l.take (i + 1)) = putL (boxesL (l.take i)) l[i].box := by
  unfold boxesL; rw [take_at hi, List.foldl_append]; rfl
theorem boxes_len (l : List Hand) : ∀ i, i ≤ l.length → (boxesL (l.take i)).length ≤ i
  | 0, _ => by simp [boxesL]
  | i + 1, h => by
    rw [boxesL_snoc (by omega)]
    have := putL_len (boxesL (l.take i)) (l[i]'(by omega)).box
    have := boxes_len l i (by omega)
    omega

def Own_pre (b : ByteArray) (l : List Hand) : Prop := l.length ≤ 4000
noncomputable def Own_val (b : ByteArray) (l : List Hand) : V := .list eHand.s (ownL l b).length (eHand.tl (ownL l b))
noncomputable def GOwn : PSpec
  | [.list s_l n_l f_l, .kn (.string b)] => some (eHand.okl s_l n_l f_l ∧ Own_pre b (eHand.dl n_l f_l), Own_val b (eHand.dl n_l f_l))
  | _ => none
theorem Own_res (b : ByteArray) (l : List Hand) (good : Cfg → Prop) (R : Option V → Prop) : arun Try.prog (conOf []) (0, [(12, 3, [0, 1, 5, 6], [(0, 5, [])])]) good (RetO (R)) 400 (entry Try.prog 12 [.list eHand.s l.length (eHand.tl l), .kn (.string b)]) =
    (good { fr := { fn := (12 : Nat), nt := (29 : Nat), t := [((0 : Nat), V.list (5 : Nat) l.length (eHand.tl l)), ((1 : Nat), V.kn (Value.string b)), ((5 : Nat), V.sl (0 : Nat)), ((6 : Nat), V.kn (Value.int IntKind.i64 (0 : Int)))], k := loopK Try.prog (12 : Nat) (3 : Nat) }, cs := [], h := [O.row (41 : Nat) (5 : Nat) (0 : Nat) (rowF [] (5 : Nat)) true] }) := by kernel_rfl
@[reducible] noncomputable def Own_c3 (b : ByteArray) (l : List Hand) (o : List Hand) (i : Int) : Cfg := ⟨⟨12, 29, [(0, .list eHand.s l.length (eHand.tl l)), (1, .kn (.string b)), (5, .sl 0), (6, .kn (.int .i64 i))], loopK Try.prog 12 3⟩, [], [.row 41 5 o.length (eHand.tl o) true]⟩
theorem Own_l3 (b : ByteArray) (l : List Hand) (o : List Hand) (i : Int) (good : Cfg → Prop) (R : Option V → Prop) : arun Try.prog (conOf []) (0, [(12, 3, [0, 1, 5, 6], [(0, 5, [])])]) good (RetO (R)) 400 (Own_c3 b l o i) =
    (bif decide (i < (↑l.length : Int)) then ((0 : Int) ≤ i ∧ i < (↑l.length : Int)) ∧ bif (l.getD i.toNat eHand.dflt).box.toList == b.toList then ((0 : Int) ≤ i ∧ i < (↑l.length : Int)) ∧ (o.length + (1 : Nat) ≤ (9223372036854775807 : Nat) ∧ (o.length + (1 : Nat)) * (72 : Nat) ≤ (140737488355328 : Nat)) ∧ good { fr := { fn := (12 : Nat), nt := (29 : Nat), t := [((0 : Nat), V.list (5 : Nat) l.length (eHand.tl l)), ((1 : Nat), V.kn (Value.string b)), ((5 : Nat), V.sl (0 : Nat)), ((6 : Nat), V.kn (Value.int IntKind.i64 (IntKind.i64.wrap (i + (1 : Int)))))], k := loopK Try.prog (12 : Nat) (3 : Nat) }, cs := [], h := [O.row (41 : Nat) (5 : Nat) (o.length + (1 : Nat)) (catF o.length (eHand.tl o) (rowF [V.kn (Value.string (l.getD i.toNat eHand.dflt).box), V.kn (Value.string (l.getD i.toNat eHand.dflt).src), V.kn (Value.string (l.getD i.toNat eHand.dflt).dst), V.kn (Value.string (l.getD i.toNat eHand.dflt).place), V.kn (Value.int IntKind.i64 (l.getD i.toNat eHand.dflt).day)] (5 : Nat))) true] } else good { fr := { fn := (12 : Nat), nt := (29 : Nat), t := [((0 : Nat), V.list (5 : Nat) l.length (eHand.tl l)), ((1 : Nat), V.kn (Value.string b)), ((5 : Nat), V.sl (0 : Nat)), ((6 : Nat), V.kn (Value.int IntKind.i64 (IntKind.i64.wrap (i + (1 : Int)))))], k := loopK Try.prog (12 : Nat) (3 : Nat) }, cs := [], h := [O.row (41 : Nat) (5 : Nat) o.length (eHand.tl o) true] } else R (some (V.list (5 : Nat) o.length (eHand.tl o)))) := by kernel_rfl
theorem Own_ok (b : ByteArray) (l : List Hand) (len_l : l.length ≤ maxLen) (hp : Own_pre b l) (good : Cfg → Prop) (hstep : ∀ c, arun Try.prog (conOf []) (0, [(12, 3, [0, 1, 5, 6], [(0, 5, [])])]) good (RetO (Tells (Own_val b l))) 400 (c) → good c) (hext : ∀ c c', CfgExt c c' → good c' → good c) (hle : ∀ c c', CfgLe 0 c c' → good c' → good c) : arun Try.prog (conOf []) (0, [(12, 3, [0, 1, 5, 6], [(0, 5, [])])]) good (RetO (Tells (Own_val b l))) 400 (entry Try.prog 12 [.list eHand.s l.length (eHand.tl l), .kn (.string b)]) := by
  rw [Own_res]
  have hl : l.length ≤ 4000 := hp
  have hmx : maxLen = 9223372036854775807 := rfl
  refine hext _ (Own_c3 b l [] 0) ⟨rfl, rfl, rfl, rfl, TExts.refl _, ⟨OExt.row rfl (fun i hi => by omega), trivial⟩⟩ ?_
  refine foreach l (fun i (_ : Unit) => True) (fun i _ => Own_c3 b l (ownL (l.take i.toNat) b) i) (fun i _ hi hv ih => ?_) (fun _ hv => ?_) () trivial
  · apply hstep
    rw [Own_l3]
    have e1 : (i : Int).toNat = i := by omega
    have e2 : (((i + 1 : Nat) : Int)).toNat = i + 1 := by omega
    have hlen : (ownL (l.take i) b).length ≤ i := Nat.le_trans (ownL_len _ _) (by rw [List.length_take]; omega)
    rw [e1, wrap_succ hi len_l, getD_at _ hi, ← beq_toListBytes]
    refine cond_true' (decide_eq_true (by omega)) ⟨⟨by omega, by omega⟩, cond_intro (fun h => ⟨⟨by omega, by omega⟩, ⟨by omega, by omega⟩, ?_⟩) (fun h => ?_)⟩
    · have hs := ownL_snoc (b := b) hi
      rw [h] at hs
      refine hext _ (Own_c3 b l (ownL (l.take (i + 1)) b) ((i + 1 : Nat) : Int)) ⟨rfl, rfl, rfl, rfl, TExts.refl _, ⟨eHand.oext (by rw [hs]; exact eHand.is_app (eHand.is_tl _) (eHand.is_one l[i] rfl)), trivial⟩⟩ ?_
      have := ih () trivial
      rwa [e2] at this
    · have hs := ownL_snoc (b := b) hi
      rw [h] at hs
      simp only [cond_false, List.append_nil] at hs
      have := ih () trivial
      rwa [e2, hs] at this
  · apply hstep
    rw [Own_l3, Int.toNat_natCast, List.take_length]
    exact cond_false' (decide_eq_false (by omega)) (tell rfl)
theorem Own_con : SpecOK Try.prog 12 (lift GOwn) := by
  refine con_of_run3 (con := conOf []) (hs := (0, [(12, 3, [0, 1, 5, 6], [(0, 5, [])])])) 400 Try.func12 rfl (by kernel_rfl) rfl conNil ?_
  intro args0 p r hG hp
  unfold GOwn at hG
  split at hG
  case h_2 => cases hG
  rename_i s_l n_l f_l b
  cases hG
  obtain ⟨ok_l, hp⟩ := hp
  exact ⟨[.list eHand.s (eHand.dl n_l f_l).length (eHand.tl (eHand.dl n_l f_l)), .kn (.string b)], ⟨eHand.extl ok_l, VExt.refl _, trivial⟩, by simp [Try.ntmps12], fun good hstep hext hle => Own_ok _ _ (by rw [eHand.dl_length]; exact ok_l.2.1) hp good hstep hext hle⟩
def Put_pre (s : ByteArray) (xs : List ByteArray) : Prop := xs.length ≤ 4000
noncomputable def Put_val (s : ByteArray) (xs : List ByteArray) : V := .list eStr.s (putL xs s).length (eStr.tl (putL xs s))
noncomputable def GPut : PSpec
  | [.list s_xs n_xs f_xs, .kn (.string s)] => some (eStr.okl s_xs n_xs f_xs ∧ Put_pre s (eStr.dl n_xs f_xs), Put_val s (eStr.dl n_xs f_xs))
  | _ => none
theorem Put_res (s : ByteArray) (xs : List ByteArray) (good : Cfg → Prop) (R : Option V → Prop) : arun Try.prog (conOf []) (0, [(40, 4, [0, 1, 5, 6, 7], [(0, 5, [])])]) good (RetO (R)) 400 (entry Try.prog 40 [.list eStr.s xs.length (eStr.tl xs), .kn (.string s)]) =
    (good { fr := { fn := (40 : Nat), nt := (49 : Nat), t := [((0 : Nat), V.list (1 : Nat) xs.length (eStr.tl xs)), ((1 : Nat), V.kn (Value.string s)), ((5 : Nat), V.sl (0 : Nat)), ((6 : Nat), V.kn (Value.bool false)), ((7 : Nat), V.kn (Value.int IntKind.i64 (0 : Int)))], k := loopK Try.prog (40 : Nat) (4 : Nat) }, cs := [], h := [O.row (9 : Nat) (1 : Nat) (0 : Nat) (rowF [] (1 : Nat)) true] }) := by kernel_rfl
@[reducible] noncomputable def Put_c4 (s : ByteArray) (xs : List ByteArray) (o : List ByteArray) (dn : Bool) (i : Int) : Cfg := ⟨⟨40, 49, [(0, .list eStr.s xs.length (eStr.tl xs)), (1, .kn (.string s)), (5, .sl 0), (6, .kn (.bool dn)), (7, .kn (.int .i64 i))], loopK Try.prog 40 4⟩, [], [.row 9 1 o.length (eStr.tl o) true]⟩
theorem Put_l4 (s : ByteArray) (xs : List ByteArray) (o : List ByteArray) (dn : Bool) (i : Int) (good : Cfg → Prop) (R : Option V → Prop) : arun Try.prog (conOf []) (0, [(40, 4, [0, 1, 5, 6, 7], [(0, 5, [])])]) good (RetO (R)) 400 (Put_c4 s xs o dn i) =
    (bif decide (i < (↑xs.length : Int)) then bif !dn then ((0 : Int) ≤ i ∧ i < (↑xs.length : Int)) ∧ bif Op.bytesLess s.toList (xs.getD i.toNat eStr.dflt).toList || s.toList == (xs.getD i.toNat eStr.dflt).toList then (o.length + (1 : Nat) ≤ (9223372036854775807 : Nat) ∧ (o.length + (1 : Nat)) * (16 : Nat) ≤ (140737488355328 : Nat)) ∧ ((0 : Int) ≤ i ∧ i < (↑xs.length : Int)) ∧ bif !(xs.getD i.toNat eStr.dflt).toList == s.toList then ((0 : Int) ≤ i ∧ i < (↑xs.length : Int)) ∧ (o.length + (1 : Nat) + (1 : Nat) ≤ (9223372036854775807 : Nat) ∧ (o.length + (1 : Nat) + (1 : Nat)) * (16 : Nat) ≤ (140737488355328 : Nat)) ∧ good { fr := { fn := (40 : Nat), nt := (49 : Nat), t := [((0 : Nat), V.list (1 : Nat) xs.length (eStr.tl xs)), ((1 : Nat), V.kn (Value.string s)), ((5 : Nat), V.sl (0 : Nat)), ((6 : Nat), V.kn (Value.bool true)), ((7 : Nat), V.kn (Value.int IntKind.i64 (IntKind.i64.wrap (i + (1 : Int)))))], k := loopK Try.prog (40 : Nat) (4 : Nat) }, cs := [], h := [O.row (9 : Nat) (1 : Nat) (o.length + (1 : Nat) + (1 : Nat)) (catF (o.length + (1 : Nat)) (catF o.length (eStr.tl o) (rowF [V.kn (Value.string s)] (1 : Nat))) (rowF [V.kn (Value.string (xs.getD i.toNat eStr.dflt))] (1 : Nat))) true] } else good { fr := { fn := (40 : Nat), nt := (49 : Nat), t := [((0 : Nat), V.list (1 : Nat) xs.length (eStr.tl xs)), ((1 : Nat), V.kn (Value.string s)), ((5 : Nat), V.sl (0 : Nat)), ((6 : Nat), V.kn (Value.bool true)), ((7 : Nat), V.kn (Value.int IntKind.i64 (IntKind.i64.wrap (i + (1 : Int)))))], k := loopK Try.prog (40 : Nat) (4 : Nat) }, cs := [], h := [O.row (9 : Nat) (1 : Nat) (o.length + (1 : Nat)) (catF o.length (eStr.tl o) (rowF [V.kn (Value.string s)] (1 : Nat))) true] } else ((0 : Int) ≤ i ∧ i < (↑xs.length : Int)) ∧ bif !(xs.getD i.toNat eStr.dflt).toList == s.toList then ((0 : Int) ≤ i ∧ i < (↑xs.length : Int)) ∧ (o.length + (1 : Nat) ≤ (9223372036854775807 : Nat) ∧ (o.length + (1 : Nat)) * (16 : Nat) ≤ (140737488355328 : Nat)) ∧ good { fr := { fn := (40 : Nat), nt := (49 : Nat), t := [((0 : Nat), V.list (1 : Nat) xs.length (eStr.tl xs)), ((1 : Nat), V.kn (Value.string s)), ((5 : Nat), V.sl (0 : Nat)), ((6 : Nat), V.kn (Value.bool dn)), ((7 : Nat), V.kn (Value.int IntKind.i64 (IntKind.i64.wrap (i + (1 : Int)))))], k := loopK Try.prog (40 : Nat) (4 : Nat) }, cs := [], h := [O.row (9 : Nat) (1 : Nat) (o.length + (1 : Nat)) (catF o.length (eStr.tl o) (rowF [V.kn (Value.string (xs.getD i.toNat eStr.dflt))] (1 : Nat))) true] } else good { fr := { fn := (40 : Nat), nt := (49 : Nat), t := [((0 : Nat), V.list (1 : Nat) xs.length (eStr.tl xs)), ((1 : Nat), V.kn (Value.string s)), ((5 : Nat), V.sl (0 : Nat)), ((6 : Nat), V.kn (Value.bool dn)), ((7 : Nat), V.kn (Value.int IntKind.i64 (IntKind.i64.wrap (i + (1 : Int)))))], k := loopK Try.prog (40 : Nat) (4 : Nat) }, cs := [], h := [O.row (9 : Nat) (1 : Nat) o.length (eStr.tl o) true] } else ((0 : Int) ≤ i ∧ i < (↑xs.length : Int)) ∧ bif !(xs.getD i.toNat eStr.dflt).toList == s.toList then ((0 : Int) ≤ i ∧ i < (↑xs.length : Int)) ∧ (o.length + (1 : Nat) ≤ (9223372036854775807 : Nat) ∧ (o.length + (1 : Nat)) * (16 : Nat) ≤ (140737488355328 : Nat)) ∧ good { fr := { fn := (40 : Nat), nt := (49 : Nat), t := [((0 : Nat), V.list (1 : Nat) xs.length (eStr.tl xs)), ((1 : Nat), V.kn (Value.string s)), ((5 : Nat), V.sl (0 : Nat)), ((6 : Nat), V.kn (Value.bool dn)), ((7 : Nat), V.kn (Value.int IntKind.i64 (IntKind.i64.wrap (i + (1 : Int)))))], k := loopK Try.prog (40 : Nat) (4 : Nat) }, cs := [], h := [O.row (9 : Nat) (1 : Nat) (o.length + (1 : Nat)) (catF o.length (eStr.tl o) (rowF [V.kn (Value.string (xs.getD i.toNat eStr.dflt))] (1 : Nat))) true] } else good { fr := { fn := (40 : Nat), nt := (49 : Nat), t := [((0 : Nat), V.list (1 : Nat) xs.length (eStr.tl xs)), ((1 : Nat), V.kn (Value.string s)), ((5 : Nat), V.sl (0 : Nat)), ((6 : Nat), V.kn (Value.bool dn)), ((7 : Nat), V.kn (Value.int IntKind.i64 (IntKind.i64.wrap (i + (1 : Int)))))], k := loopK Try.prog (40 : Nat) (4 : Nat) }, cs := [], h := [O.row (9 : Nat) (1 : Nat) o.length (eStr.tl o) true] } else bif !dn then (o.length + (1 : Nat) ≤ (9223372036854775807 : Nat) ∧ (o.length + (1 : Nat)) * (16 : Nat) ≤ (140737488355328 : Nat)) ∧ R (some (V.list (1 : Nat) (o.length + (1 : Nat)) (catF o.length (eStr.tl o) (rowF [V.kn (Value.string s)] (1 : Nat))))) else R (some (V.list (1 : Nat) o.length (eStr.tl o)))) := by kernel_rfl
theorem Put_ok (s : ByteArray) (xs : List ByteArray) (len_xs : xs.length ≤ maxLen) (hp : Put_pre s xs) (good : Cfg → Prop) (hstep : ∀ c, arun Try.prog (conOf []) (0, [(40, 4, [0, 1, 5, 6, 7], [(0, 5, [])])]) good (RetO (Tells (Put_val s xs))) 400 (c) → good c) (hext : ∀ c c', CfgExt c c' → good c' → good c) (hle : ∀ c c', CfgLe 0 c c' → good c' → good c) : arun Try.prog (conOf []) (0, [(40, 4, [0, 1, 5, 6, 7], [(0, 5, [])])]) good (RetO (Tells (Put_val s xs))) 400 (entry Try.prog 40 [.list eStr.s xs.length (eStr.tl xs), .kn (.string s)]) := by
  rw [Put_res]
  have hl : xs.length ≤ 4000 := hp
  have hmx : maxLen = 9223372036854775807 := rfl
  refine hext _ (Put_c4 s xs [] false 0) ⟨rfl, rfl, rfl, rfl, TExts.refl _, ⟨OExt.row rfl (fun i hi => by omega), trivial⟩⟩ ?_
  refine foreach (S := List ByteArray × Bool) xs (fun i st => st = (xs.take i).foldl (putS s) ([], false)) (fun i st => Put_c4 s xs st.1 st.2 i) (fun i st hi hv ih => ?_) (fun st hv => ?_) ([], false) rfl
  · obtain ⟨o, dn⟩ := st
    apply hstep
    rw [Put_l4]
    have e1 : (i : Int).toNat = i := by omega
    have hlen := putS_len s (xs.take i) ([], false)
    rw [← hv, List.length_take] at hlen
    simp at hlen
    have hlo : o.length ≤ i + 1 := by cases dn <;> simp at hlen <;> omega
    have hn : putS s (o, dn) xs[i] = (xs.take (i + 1)).foldl (putS s) ([], false) := by rw [take_at hi, List.foldl_append, ← hv]; rfl
    have bnd : (0 : Int) ≤ i ∧ (i : Int) < xs.length := ⟨by omega, by omega⟩
    have b1 : o.length + 1 ≤ 9223372036854775807 ∧ (o.length + 1) * 16 ≤ 140737488355328 := ⟨by omega, by omega⟩
    have b2 : o.length + 1 + 1 ≤ 9223372036854775807 ∧ (o.length + 1 + 1) * 16 ≤ 140737488355328 := ⟨by omega, by omega⟩
    rw [e1, wrap_succ hi len_xs, getD_at _ hi]
    have next : ∀ (o' : List ByteArray) (d' : Bool) (n : Nat) (f : Nat → List V), putS s (o, dn) xs[i] = (o', d') → eStr.is n f o' → good ⟨⟨40, 49, [(0, .list eStr.s xs.length (eStr.tl xs)), (1, .kn (.string s)), (5, .sl 0), (6, .kn (.bool d')), (7, .kn (.int .i64 ((i + 1 : Nat) : Int)))], loopK Try.prog 40 4⟩, [], [.row 9 1 n f true]⟩ := fun o' d' n f he hf =>
      hext _ (Put_c4 s xs o' d' ((i + 1 : Nat) : Int)) ⟨rfl, rfl, rfl, rfl, TExts.refl _, ⟨eStr.oext hf, trivial⟩⟩ (ih (o', d') (by rw [← hn, he]))
    refine cond_true' (decide_eq_true (by omega)) ?_
    have le : (Op.bytesLess s.toList xs[i].toList || s.toList == xs[i].toList) = leS s xs[i] := rfl
    rw [le]
    cases dn with
    | true =>
      refine cond_false' rfl ⟨bnd, cond_intro (fun h => ⟨bnd, b1, next (o ++ [xs[i]]) true _ _ ?_ (eStr.is_app (eStr.is_tl _) (eStr.is_one xs[i] rfl))⟩) (fun h => next o true _ _ ?_ (eStr.is_tl _))⟩
      · simp [putS, putA, h]
      · simp [putS, putA, h]
    | false =>
      refine cond_true' rfl ⟨bnd, cond_intro (fun g => ⟨b1, bnd, cond_intro (fun h => ⟨bnd, b2, next (o ++ [s] ++ [xs[i]]) true _ _ ?_ (eStr.is_app (eStr.is_app (eStr.is_tl _) (eStr.is_one s rfl)) (eStr.is_one xs[i] rfl))⟩) (fun h => next (o ++ [s]) true _ _ ?_ (eStr.is_app (eStr.is_tl _) (eStr.is_one s rfl)))⟩) (fun g => ⟨bnd, cond_intro (fun h => ⟨bnd, b1, next (o ++ [xs[i]]) false _ _ ?_ (eStr.is_app (eStr.is_tl _) (eStr.is_one xs[i] rfl))⟩) (fun h => next o false _ _ ?_ (eStr.is_tl _))⟩)⟩
      all_goals simp [putS, putA, h, g]
  · obtain ⟨o, dn⟩ := st
    apply hstep
    rw [Put_l4]
    rw [List.take_length] at hv
    have hlen := putS_len s xs ([], false)
    rw [← hv] at hlen
    simp at hlen
    have hlo : o.length ≤ xs.length + 1 := by cases dn <;> simp at hlen <;> omega
    have b3 : o.length + 1 ≤ 9223372036854775807 ∧ (o.length + 1) * 16 ≤ 140737488355328 := ⟨by omega, by omega⟩
    have hval : Put_val s xs = .list eStr.s (bif dn then o else o ++ [s]).length (eStr.tl (bif dn then o else o ++ [s])) := by rw [Put_val, putL, ← hv]
    rw [hval]
    refine cond_false' (decide_eq_false (by omega)) ?_
    cases dn with
    | true => exact cond_false' rfl (tell rfl)
    | false => exact cond_true' rfl ⟨b3, tell_ext (eStr.ext_is (eStr.is_app (eStr.is_tl _) (eStr.is_one s rfl)))⟩
theorem Put_con : SpecOK Try.prog 40 (lift GPut) := by
  refine con_of_run3 (con := conOf []) (hs := (0, [(40, 4, [0, 1, 5, 6, 7], [(0, 5, [])])])) 400 Try.func40 rfl (by kernel_rfl) rfl conNil ?_
  intro args0 p r hG hp
  unfold GPut at hG
  split at hG
  case h_2 => cases hG
  rename_i s_xs n_xs f_xs s
  cases hG
  obtain ⟨ok_xs, hp⟩ := hp
  exact ⟨[.list eStr.s (eStr.dl n_xs f_xs).length (eStr.tl (eStr.dl n_xs f_xs)), .kn (.string s)], ⟨eStr.extl ok_xs, VExt.refl _, trivial⟩, by simp [Try.ntmps40], fun good hstep hext hle => Put_ok _ _ (by rw [eStr.dl_length]; exact ok_xs.2.1) hp good hstep hext hle⟩
def Boxes_pre  (l : List Hand) : Prop := l.length ≤ 4000
noncomputable def Boxes_val  (l : List Hand) : V := .list eStr.s (boxesL l).length (eStr.tl (boxesL l))
noncomputable def GBoxes : PSpec
  | [.list s_l n_l f_l] => some (eHand.okl s_l n_l f_l ∧ Boxes_pre (eHand.dl n_l f_l), Boxes_val (eHand.dl n_l f_l))
  | _ => none
theorem Boxes_res  (l : List Hand) (good : Cfg → Prop) (R : Option V → Prop) : arun Try.prog (conOf [(40, lift GPut)]) (0, [(27, 3, [0, 3, 4], [(0, 3, [])])]) good (RetO (R)) 400 (entry Try.prog 27 [.list eHand.s l.length (eHand.tl l)]) =
    (good { fr := { fn := (27 : Nat), nt := (20 : Nat), t := [((0 : Nat), V.list (5 : Nat) l.length (eHand.tl l)), ((3 : Nat), V.sl (0 : Nat)), ((4 : Nat), V.kn (Value.int IntKind.i64 (0 : Int)))], k := loopK Try.prog (27 : Nat) (3 : Nat) }, cs := [], h := [O.row (9 : Nat) (1 : Nat) (0 : Nat) (rowF [] (1 : Nat)) true] }) := by kernel_rfl
@[reducible] noncomputable def Boxes_c3 (l : List Hand) (o : List ByteArray) (i : Int) : Cfg := ⟨⟨27, 20, [(0, .list eHand.s l.length (eHand.tl l)), (3, .list eStr.s (o).length (eStr.tl (o))), (4, .kn (.int .i64 i))], loopK Try.prog 27 3⟩, [], []⟩
theorem Boxes_l3 (l : List Hand) (o : List ByteArray) (i : Int) (good : Cfg → Prop) (R : Option V → Prop) : arun Try.prog (conOf [(40, lift GPut)]) (0, [(27, 3, [0, 3, 4], [(0, 3, [])])]) good (RetO (R)) 400 (Boxes_c3 l o i) =
    (bif decide (i < (↑l.length : Int)) then ((0 : Int) ≤ i ∧ i < (↑l.length : Int)) ∧ (eStr.okl (1 : Nat) o.length (eStr.tl o) ∧ Put_pre (l.getD i.toNat eHand.dflt).box (eStr.dl o.length (eStr.tl o))) ∧ good { fr := { fn := (27 : Nat), nt := (20 : Nat), t := [((0 : Nat), V.list (5 : Nat) l.length (eHand.tl l)), ((3 : Nat), V.list (1 : Nat) (putL (eStr.dl o.length (eStr.tl o)) (l.getD i.toNat eHand.dflt).box).length (eStr.tl (putL (eStr.dl o.length (eStr.tl o)) (l.getD i.toNat eHand.dflt).box))), ((4 : Nat), V.kn (Value.int IntKind.i64 (IntKind.i64.wrap (i + (1 : Int)))))], k := loopK Try.prog (27 : Nat) (3 : Nat) }, cs := [], h := [] } else R (some (V.list (1 : Nat) o.length (eStr.tl o)))) := by kernel_rfl
theorem Boxes_ok  (l : List Hand) (len_l : l.length ≤ maxLen) (hp : Boxes_pre l) (good : Cfg → Prop) (hstep : ∀ c, arun Try.prog (conOf [(40, lift GPut)]) (0, [(27, 3, [0, 3, 4], [(0, 3, [])])]) good (RetO (Tells (Boxes_val l))) 400 (c) → good c) (hext : ∀ c c', CfgExt c c' → good c' → good c) (hle : ∀ c c', CfgLe 0 c c' → good c' → good c) : arun Try.prog (conOf [(40, lift GPut)]) (0, [(27, 3, [0, 3, 4], [(0, 3, [])])]) good (RetO (Tells (Boxes_val l))) 400 (entry Try.prog 27 [.list eHand.s l.length (eHand.tl l)]) := by
  rw [Boxes_res]
  have hl : l.length ≤ 4000 := hp
  have hmx : maxLen = 9223372036854775807 := rfl
  refine hle _ _ ((sl_list 3 0 rfl rfl).trans (norm_le [] rfl (by intro j hj; omega))) ?_
  refine hext _ (Boxes_c3 l [] 0) ⟨rfl, rfl, rfl, rfl, ⟨⟨rfl, VExt.refl _⟩, ⟨rfl, VExt.nilL⟩, ⟨rfl, VExt.refl _⟩, trivial⟩, trivial⟩ ?_
  refine foreach l (fun i (_ : Unit) => True) (fun i _ => Boxes_c3 l (boxesL (l.take i.toNat)) i) (fun i _ hi hv ih => ?_) (fun _ hv => ?_) () trivial
  · apply hstep
    rw [Boxes_l3]
    have e1 : (i : Int).toNat = i := by omega
    have e2 : (((i + 1 : Nat) : Int)).toNat = i + 1 := by omega
    have hlen := boxes_len l i (by omega)
    rw [e1, wrap_succ hi len_l, getD_at _ hi, eStr.dl_tl]
    refine cond_true' (decide_eq_true (by omega)) ⟨⟨by omega, by omega⟩, ⟨eStr.okl_tl (by omega), ?_⟩, ?_⟩
    · show (boxesL (l.take i)).length ≤ 4000
      omega
    · have := ih () trivial
      rwa [e2, boxesL_snoc hi] at this
  · apply hstep
    rw [Boxes_l3, Int.toNat_natCast, List.take_length]
    exact cond_false' (decide_eq_false (by omega)) (tell rfl)
theorem Boxes_con : SpecOK Try.prog 27 (lift GBoxes) := by
  refine con_of_run3 (con := conOf [(40, lift GPut)]) (hs := (0, [(27, 3, [0, 3, 4], [(0, 3, [])])])) 400 Try.func27 rfl (by kernel_rfl) rfl (conCons Put_con conNil) ?_
  intro args0 p r hG hp
  unfold GBoxes at hG
  split at hG
  case h_2 => cases hG
  rename_i s_l n_l f_l
  cases hG
  obtain ⟨ok_l, hp⟩ := hp
  exact ⟨[.list eHand.s (eHand.dl n_l f_l).length (eHand.tl (eHand.dl n_l f_l))], ⟨eHand.extl ok_l, trivial⟩, by simp [Try.ntmps27], fun good hstep hext hle => Boxes_ok _ (by rw [eHand.dl_length]; exact ok_l.2.1) hp good hstep hext hle⟩
def dayOK (d : Int) : Bool := decide (0 ≤ d ∧ d ≤ 1048576)
def hasB (l : List Hand) (b : ByteArray) : Bool := decide (0 < (ownL l b).length)
def lastH (o : List Hand) : Hand := o.getD (o.length - 1) eHand.dflt
def beginE (l : List Hand) (b w p : ByteArray) (d : Int) : Int := bif !isName b then 1 else bif !isName w then 1 else bif !isName p then 1 else bif !dayOK d then 3 else bif hasB l b then 5 else 0
def handE (l : List Hand) (x : Hand) : Int := bif !isName x.box then 1 else bif !isName x.src then 1 else bif !isName x.dst then 1 else bif !isName x.place then 1 else bif x.src.toList == x.dst.toList then 1 else bif !dayOK x.day then 3 else
  bif !hasB l x.box then 4 else bif !((lastH (ownL l x.box)).dst.toList == x.src.toList) then 8 else bif decide (x.day < (lastH (ownL l x.box)).day) then 6 else 0
def stepE (l : List Hand) (x : Hand) : Int := bif x.src.toList == [] then beginE l x.box x.dst x.place x.day else handE l x
def chk (l : List Hand) : Nat → Nat → Int × Int
  | 0, _ => ((l.length : Int), 0)
  | k + 1, i => bif decide (i < l.length) then (bif stepE (l.take i) (l.getD i eHand.dflt) == 0 then chk l k (i + 1) else ((i : Int), stepE (l.take i) (l.getD i eHand.dflt))) else ((l.length : Int), 0)
def chkV (l : List Hand) : V := .tup [.kn (.int .i64 (chk l (l.length + 1) 0).1), .kn (.int .i64 (chk l (l.length + 1) 0).2)]


theorem dayOK_true {d : Int} (h : 0 ≤ d ∧ d ≤ 1048576) : dayOK d = true := decide_eq_true h
theorem dayOK_false {d : Int} (h : ¬ (0 ≤ d ∧ d ≤ 1048576)) : dayOK d = false := decide_eq_false h
theorem hasB_true {l : List Hand} {b : ByteArray} (h : 0 < (ownL l b).length) : hasB l b = true := decide_eq_true h
theorem hasB_false {l : List Hand} {b : ByteArray} (h : (ownL l b).length = 0) : hasB l b = false := decide_eq_false (by omega)
theorem chk_end {l : List Hand} {k i : Nat} (h : l.length ≤ i) : chk l (k + 1) i = ((l.length : Int), 0) := by rw [chk, decide_eq_false (by omega)]; rfl
theorem chk_go {l : List Hand} {k i : Nat} (h : i < l.length) (e : stepE (l.take i) l[i] = 0) : chk l (k + 1) i = chk l k (i + 1) := by rw [chk, decide_eq_true h, getD_at _ h, e]; rfl
theorem chk_stop {l : List Hand} {k i : Nat} (h : i < l.length) (e : ¬ stepE (l.take i) l[i] = 0) : chk l (k + 1) i = ((i : Int), stepE (l.take i) l[i]) := by
  rw [chk, decide_eq_true h, getD_at _ h]
  simp only [cond_true]
  rw [show (stepE (l.take i) l[i] == 0) = false by simpa using e]
  rfl

def Begins_pre (b w p : ByteArray) (d : Int) (l : List Hand) : Prop := l.length ≤ 4000 ∧ b.size ≤ maxLen ∧ w.size ≤ maxLen ∧ p.size ≤ maxLen
noncomputable def Begins_val (b w p : ByteArray) (d : Int) (l : List Hand) : V := .kn (.int .i64 (beginE l b w p d))
noncomputable def GBegins : PSpec
  | [.list s_l n_l f_l, .kn (.string b), .kn (.string w), .kn (.string p), .kn (.int .i64 d)] => some (eHand.okl s_l n_l f_l ∧ Begins_pre b w p d (eHand.dl n_l f_l), Begins_val b w p d (eHand.dl n_l f_l))
  | _ => none
theorem Begins_res (b w p : ByteArray) (d : Int) (l : List Hand) (good : Cfg → Prop) (R : Option V → Prop) : arun Try.prog (conOf [(51, lift GrName), (12, lift GOwn), (27, lift GBoxes)]) (0, []) good (RetO (R)) 400 (entry Try.prog 29 [.list eHand.s l.length (eHand.tl l), .kn (.string b), .kn (.string w), .kn (.string p), .kn (.int .i64 d)]) =
    (rName_pre b ∧ bif !isName b then R (some (V.kn (Value.int IntKind.i64 (1 : Int)))) else rName_pre w ∧ bif !isName w then R (some (V.kn (Value.int IntKind.i64 (1 : Int)))) else rName_pre p ∧ bif !isName p then R (some (V.kn (Value.int IntKind.i64 (1 : Int)))) else bif decide (d ≥ (0 : Int)) then bif !decide (d ≤ (1048576 : Int)) then R (some (V.kn (Value.int IntKind.i64 (3 : Int)))) else (eHand.okl (5 : Nat) l.length (eHand.tl l) ∧ Own_pre b (eHand.dl l.length (eHand.tl l))) ∧ bif decide ((↑(ownL (eHand.dl l.length (eHand.tl l)) b).length : Int) > (0 : Int)) then R (some (V.kn (Value.int IntKind.i64 (5 : Int)))) else (eHand.okl (5 : Nat) l.length (eHand.tl l) ∧ Boxes_pre (eHand.dl l.length (eHand.tl l))) ∧ bif decide ((↑(boxesL (eHand.dl l.length (eHand.tl l))).length : Int) ≥ (4096 : Int)) then R (some (V.kn (Value.int IntKind.i64 (7 : Int)))) else R (some (V.kn (Value.int IntKind.i64 (0 : Int)))) else R (some (V.kn (Value.int IntKind.i64 (3 : Int))))) := by kernel_rfl
theorem Begins_ok (b w p : ByteArray) (d : Int) (l : List Hand) (len_l : l.length ≤ maxLen) (hp : Begins_pre b w p d l) (good : Cfg → Prop) (hstep : ∀ c, arun Try.prog (conOf [(51, lift GrName), (12, lift GOwn), (27, lift GBoxes)]) (0, []) good (RetO (Tells (Begins_val b w p d l))) 400 (c) → good c) (hext : ∀ c c', CfgExt c c' → good c' → good c) (hle : ∀ c c', CfgLe 0 c c' → good c' → good c) : arun Try.prog (conOf [(51, lift GrName), (12, lift GOwn), (27, lift GBoxes)]) (0, []) good (RetO (Tells (Begins_val b w p d l))) 400 (entry Try.prog 29 [.list eHand.s l.length (eHand.tl l), .kn (.string b), .kn (.string w), .kn (.string p), .kn (.int .i64 d)]) := by
  rw [Begins_res]
  obtain ⟨hl, s1, s2, s3⟩ := hp
  have ok : eHand.okl 5 l.length (eHand.tl l) := eHand.okl_tl len_l
  simp only [eHand.dl_tl]
  have hbx : (boxesL l).length ≤ l.length := by have := boxes_len l l.length (Nat.le_refl _); rwa [List.take_length] at this
  refine ⟨s1, cond_intro (fun h1 => tell (by rw [Begins_val, beginE, h1]; rfl)) (fun h1 => ⟨s2, cond_intro (fun h2 => tell (by rw [Begins_val, beginE, h1, h2]; rfl)) (fun h2 => ⟨s3, cond_intro (fun h3 => tell (by rw [Begins_val, beginE, h1, h2, h3]; rfl)) (fun h3 => ?_)⟩)⟩)⟩
  have hv : Begins_val b w p d l = .kn (.int .i64 (bif !dayOK d then 3 else bif hasB l b then 5 else 0)) := by rw [Begins_val, beginE, h1, h2, h3]; rfl
  rw [hv]
  refine cond_intro (fun h4 => ?_) (fun h4 => ?_)
  · refine cond_intro (fun h5 => ?_) (fun h5 => ?_)
    · simp only [Bool.not_eq_true', decide_eq_true_eq, decide_eq_false_iff_not] at h4 h5
      exact tell (by rw [dayOK_false (by omega)]; rfl)
    · simp only [Bool.not_eq_false', decide_eq_true_eq] at h4 h5
      rw [dayOK_true (by omega)]
      refine ⟨⟨ok, hl⟩, cond_intro (fun h6 => ?_) (fun h6 => ⟨⟨ok, hl⟩, cond_false' (decide_eq_false (by omega)) ?_⟩)⟩
      · simp only [decide_eq_true_eq] at h6
        exact tell (by rw [hasB_true (by omega)]; rfl)
      · simp only [decide_eq_false_iff_not] at h6
        exact tell (by rw [hasB_false (by omega)]; rfl)
  · simp only [decide_eq_false_iff_not] at h4
    exact tell (by rw [dayOK_false (by omega)]; rfl)
theorem Begins_con : SpecOK Try.prog 29 (lift GBegins) := by
  refine con_of_run3 (con := conOf [(51, lift GrName), (12, lift GOwn), (27, lift GBoxes)]) (hs := (0, [])) 400 Try.func29 rfl (by kernel_rfl) rfl (conCons rName_con (conCons Own_con (conCons Boxes_con conNil))) ?_
  intro args0 p r hG hp
  unfold GBegins at hG
  split at hG
  case h_2 => cases hG
  rename_i s_l n_l f_l b w p d
  cases hG
  obtain ⟨ok_l, hp⟩ := hp
  exact ⟨[.list eHand.s (eHand.dl n_l f_l).length (eHand.tl (eHand.dl n_l f_l)), .kn (.string b), .kn (.string w), .kn (.string p), .kn (.int .i64 d)], ⟨eHand.extl ok_l, VExt.refl _, VExt.refl _, VExt.refl _, VExt.refl _, trivial⟩, by simp [Try.ntmps29], fun good hstep hext hle => Begins_ok _ _ _ _ _ (by rw [eHand.dl_length]; exact ok_l.2.1) hp good hstep hext hle⟩
def Hands_pre (hb hs hd hq : ByteArray) (hy : Int) (l : List Hand) : Prop := l.length ≤ 4000 ∧ hb.size ≤ maxLen ∧ hs.size ≤ maxLen ∧ hd.size ≤ maxLen ∧ hq.size ≤ maxLen
noncomputable def Hands_val (hb hs hd hq : ByteArray) (hy : Int) (l : List Hand) : V := .kn (.int .i64 (handE l (⟨hb, hs, hd, hq, hy⟩ : Hand)))
noncomputable def GHands : PSpec
  | [.list s_l n_l f_l, .agg [.kn (.string hb), .kn (.string hs), .kn (.string hd), .kn (.string hq), .kn (.int .i64 hy)]] => some (eHand.okl s_l n_l f_l ∧ Hands_pre hb hs hd hq hy (eHand.dl n_l f_l), Hands_val hb hs hd hq hy (eHand.dl n_l f_l))
  | _ => none
theorem Hands_res (hb hs hd hq : ByteArray) (hy : Int) (l : List Hand) (good : Cfg → Prop) (R : Option V → Prop) : arun Try.prog (conOf [(51, lift GrName), (12, lift GOwn)]) (0, []) good (RetO (R)) 400 (entry Try.prog 30 [.list eHand.s l.length (eHand.tl l), .agg [.kn (.string hb), .kn (.string hs), .kn (.string hd), .kn (.string hq), .kn (.int .i64 hy)]]) =
    (rName_pre hb ∧ bif !isName hb then R (some (V.kn (Value.int IntKind.i64 (1 : Int)))) else rName_pre hs ∧ bif !isName hs then R (some (V.kn (Value.int IntKind.i64 (1 : Int)))) else rName_pre hd ∧ bif !isName hd then R (some (V.kn (Value.int IntKind.i64 (1 : Int)))) else rName_pre hq ∧ bif !isName hq then R (some (V.kn (Value.int IntKind.i64 (1 : Int)))) else bif hs.toList == hd.toList then R (some (V.kn (Value.int IntKind.i64 (1 : Int)))) else bif decide (hy ≥ (0 : Int)) then bif !decide (hy ≤ (1048576 : Int)) then R (some (V.kn (Value.int IntKind.i64 (3 : Int)))) else (eHand.okl (5 : Nat) l.length (eHand.tl l) ∧ Own_pre hb (eHand.dl l.length (eHand.tl l))) ∧ bif (↑(ownL (eHand.dl l.length (eHand.tl l)) hb).length : Int) == (0 : Int) then R (some (V.kn (Value.int IntKind.i64 (4 : Int)))) else ((0 : Int) ≤ IntKind.i64.wrap ((↑(ownL (eHand.dl l.length (eHand.tl l)) hb).length : Int) - (1 : Int)) ∧ IntKind.i64.wrap ((↑(ownL (eHand.dl l.length (eHand.tl l)) hb).length : Int) - (1 : Int)) < (↑(ownL (eHand.dl l.length (eHand.tl l)) hb).length : Int)) ∧ bif !((ownL (eHand.dl l.length (eHand.tl l)) hb).getD (IntKind.i64.wrap ((↑(ownL (eHand.dl l.length (eHand.tl l)) hb).length : Int) - (1 : Int))).toNat eHand.dflt).dst.toList == hs.toList then R (some (V.kn (Value.int IntKind.i64 (8 : Int)))) else bif decide (hy < ((ownL (eHand.dl l.length (eHand.tl l)) hb).getD (IntKind.i64.wrap ((↑(ownL (eHand.dl l.length (eHand.tl l)) hb).length : Int) - (1 : Int))).toNat eHand.dflt).day) then R (some (V.kn (Value.int IntKind.i64 (6 : Int)))) else bif decide ((↑(ownL (eHand.dl l.length (eHand.tl l)) hb).length : Int) ≥ (4096 : Int)) then R (some (V.kn (Value.int IntKind.i64 (7 : Int)))) else R (some (V.kn (Value.int IntKind.i64 (0 : Int)))) else R (some (V.kn (Value.int IntKind.i64 (3 : Int))))) := by kernel_rfl
theorem Hands_ok (hb hs hd hq : ByteArray) (hy : Int) (l : List Hand) (len_l : l.length ≤ maxLen) (hp : Hands_pre hb hs hd hq hy l) (good : Cfg → Prop) (hstep : ∀ c, arun Try.prog (conOf [(51, lift GrName), (12, lift GOwn)]) (0, []) good (RetO (Tells (Hands_val hb hs hd hq hy l))) 400 (c) → good c) (hext : ∀ c c', CfgExt c c' → good c' → good c) (hle : ∀ c c', CfgLe 0 c c' → good c' → good c) : arun Try.prog (conOf [(51, lift GrName), (12, lift GOwn)]) (0, []) good (RetO (Tells (Hands_val hb hs hd hq hy l))) 400 (entry Try.prog 30 [.list eHand.s l.length (eHand.tl l), .agg [.kn (.string hb), .kn (.string hs), .kn (.string hd), .kn (.string hq), .kn (.int .i64 hy)]]) := by
  rw [Hands_res]
  obtain ⟨hl, s1, s2, s3, s4⟩ := hp
  have ok : eHand.okl 5 l.length (eHand.tl l) := eHand.okl_tl len_l
  have hmx : maxLen = 9223372036854775807 := rfl
  have hol := ownL_len l hb
  simp only [eHand.dl_tl]
  have ev : ∀ k, handE l ⟨hb, hs, hd, hq, hy⟩ = k → Tells (Hands_val hb hs hd hq hy l) (some (.kn (.int .i64 k))) := fun k e => tell (by rw [Hands_val, e])
  unfold handE at ev
  dsimp only at ev
  refine ⟨s1, cond_intro (fun h1 => ev _ (by rw [h1]; rfl)) (fun h1 => ⟨s2, cond_intro (fun h2 => ev _ (by rw [h1, h2]; rfl)) (fun h2 => ⟨s3, cond_intro (fun h3 => ev _ (by rw [h1, h2, h3]; rfl)) (fun h3 => ⟨s4, cond_intro (fun h4 => ev _ (by rw [h1, h2, h3, h4]; rfl)) (fun h4 => ?_)⟩)⟩)⟩)⟩
  rw [h1, h2, h3, h4] at ev
  simp only [cond_false] at ev
  refine cond_intro (fun h5 => ev _ (by rw [h5]; rfl)) (fun h5 => ?_)
  rw [h5] at ev
  simp only [cond_false] at ev
  refine cond_intro (fun h6 => ?_) (fun h6 => ?_)
  · refine cond_intro (fun h7 => ?_) (fun h7 => ?_)
    · simp only [Bool.not_eq_true', decide_eq_true_eq, decide_eq_false_iff_not] at h6 h7
      exact ev _ (by rw [dayOK_false (by omega)]; rfl)
    · simp only [Bool.not_eq_false', decide_eq_true_eq] at h6 h7
      rw [dayOK_true (by omega)] at ev
      simp only [Bool.not_true, cond_false] at ev
      refine ⟨⟨ok, hl⟩, cond_intro (fun h8 => ?_) (fun h8 => ?_)⟩
      · have : (ownL l hb).length = 0 := by simpa using h8
        exact ev _ (by rw [hasB_false this]; rfl)
      · have h9 : 0 < (ownL l hb).length := by simp at h8; exact List.length_pos_iff.2 h8
        rw [hasB_true h9] at ev
        simp only [Bool.not_true, cond_false] at ev
        have ew : IntKind.i64.wrap (((ownL l hb).length : Int) - 1) = (((ownL l hb).length - 1 : Nat) : Int) := by rw [wrap_in (by omega) (by omega)]; omega
        rw [ew, Int.toNat_natCast]
        refine ⟨⟨by omega, by omega⟩, cond_intro (fun g1 => ev _ ?_) (fun g1 => cond_intro (fun g2 => ev _ ?_) (fun g2 => cond_false' (decide_eq_false (by omega)) (ev _ ?_)))⟩
        · rw [show (!((lastH (ownL l hb)).dst.toList == hs.toList)) = true from g1]; rfl
        · rw [show (!((lastH (ownL l hb)).dst.toList == hs.toList)) = false from g1, show decide (hy < (lastH (ownL l hb)).day) = true from g2]; rfl
        · rw [show (!((lastH (ownL l hb)).dst.toList == hs.toList)) = false from g1, show decide (hy < (lastH (ownL l hb)).day) = false from g2]; rfl
  · simp only [decide_eq_false_iff_not] at h6
    exact ev _ (by rw [dayOK_false (by omega)]; rfl)
theorem Hands_con : SpecOK Try.prog 30 (lift GHands) := by
  refine con_of_run3 (con := conOf [(51, lift GrName), (12, lift GOwn)]) (hs := (0, [])) 400 Try.func30 rfl (by kernel_rfl) rfl (conCons rName_con (conCons Own_con conNil)) ?_
  intro args0 p r hG hp
  unfold GHands at hG
  split at hG
  case h_2 => cases hG
  rename_i s_l n_l f_l hb hs hd hq hy
  cases hG
  obtain ⟨ok_l, hp⟩ := hp
  exact ⟨[.list eHand.s (eHand.dl n_l f_l).length (eHand.tl (eHand.dl n_l f_l)), .agg [.kn (.string hb), .kn (.string hs), .kn (.string hd), .kn (.string hq), .kn (.int .i64 hy)]], ⟨eHand.extl ok_l, VExt.refl _, trivial⟩, by simp [Try.ntmps30], fun good hstep hext hle => Hands_ok _ _ _ _ _ _ (by rw [eHand.dl_length]; exact ok_l.2.1) hp good hstep hext hle⟩
def rCheck_pre  (l : List Hand) : Prop := l.length ≤ 60 ∧ ∀ x ∈ l, eHand_wf x
noncomputable def rCheck_val  (l : List Hand) : V := (chkV l)
noncomputable def GrCheck : PSpec
  | [.list s_l n_l f_l] => some (eHand.okl s_l n_l f_l ∧ rCheck_pre (eHand.dl n_l f_l), rCheck_val (eHand.dl n_l f_l))
  | _ => none
theorem rCheck_res  (l : List Hand) (good : Cfg → Prop) (R : Option V → Prop) : arun Try.prog (conOf [(29, lift GBegins), (30, lift GHands)]) (0, [(17, 3, [0, 4, 5], [(0, 4, [])])]) good (RetO (R)) 400 (entry Try.prog 17 [.list eHand.s l.length (eHand.tl l)]) =
    (good { fr := { fn := (17 : Nat), nt := (61 : Nat), t := [((0 : Nat), V.list (5 : Nat) l.length (eHand.tl l)), ((4 : Nat), V.sl (0 : Nat)), ((5 : Nat), V.kn (Value.int IntKind.i64 (0 : Int)))], k := loopK Try.prog (17 : Nat) (3 : Nat) }, cs := [], h := [O.row (41 : Nat) (5 : Nat) (0 : Nat) (rowF [] (5 : Nat)) true] }) := by kernel_rfl
@[reducible] noncomputable def rCheck_c3 (l : List Hand) (o : List Hand) (i : Int) : Cfg := ⟨⟨17, 61, [(0, .list eHand.s l.length (eHand.tl l)), (4, .sl 0), (5, .kn (.int .i64 i))], loopK Try.prog 17 3⟩, [], [.row 41 5 o.length (eHand.tl o) true]⟩
theorem rCheck_l3 (l : List Hand) (o : List Hand) (i : Int) (good : Cfg → Prop) (R : Option V → Prop) : arun Try.prog (conOf [(29, lift GBegins), (30, lift GHands)]) (0, [(17, 3, [0, 4, 5], [(0, 4, [])])]) good (RetO (R)) 400 (rCheck_c3 l o i) =
    (bif decide (i < (↑l.length : Int)) then ((0 : Int) ≤ i ∧ i < (↑l.length : Int)) ∧ bif (l.getD i.toNat eHand.dflt).src.toList == [] then ((0 : Int) ≤ i ∧ i < (↑l.length : Int)) ∧ ((0 : Int) ≤ i ∧ i < (↑l.length : Int)) ∧ ((0 : Int) ≤ i ∧ i < (↑l.length : Int)) ∧ ((0 : Int) ≤ i ∧ i < (↑l.length : Int)) ∧ (eHand.okl (5 : Nat) o.length (eHand.tl o) ∧ Begins_pre (l.getD i.toNat eHand.dflt).box (l.getD i.toNat eHand.dflt).dst (l.getD i.toNat eHand.dflt).place (l.getD i.toNat eHand.dflt).day (eHand.dl o.length (eHand.tl o))) ∧ bif beginE (eHand.dl o.length (eHand.tl o)) (l.getD i.toNat eHand.dflt).box (l.getD i.toNat eHand.dflt).dst (l.getD i.toNat eHand.dflt).place (l.getD i.toNat eHand.dflt).day != (0 : Int) then R (some (V.tup [V.kn (Value.int IntKind.i64 i), V.kn (Value.int IntKind.i64 (beginE (eHand.dl o.length (eHand.tl o)) (l.getD i.toNat eHand.dflt).box (l.getD i.toNat eHand.dflt).dst (l.getD i.toNat eHand.dflt).place (l.getD i.toNat eHand.dflt).day))])) else ((0 : Int) ≤ i ∧ i < (↑l.length : Int)) ∧ (o.length + (1 : Nat) ≤ (9223372036854775807 : Nat) ∧ (o.length + (1 : Nat)) * (72 : Nat) ≤ (140737488355328 : Nat)) ∧ good { fr := { fn := (17 : Nat), nt := (61 : Nat), t := [((0 : Nat), V.list (5 : Nat) l.length (eHand.tl l)), ((4 : Nat), V.sl (0 : Nat)), ((5 : Nat), V.kn (Value.int IntKind.i64 (IntKind.i64.wrap (i + (1 : Int)))))], k := loopK Try.prog (17 : Nat) (3 : Nat) }, cs := [], h := [O.row (41 : Nat) (5 : Nat) (o.length + (1 : Nat)) (catF o.length (eHand.tl o) (rowF [V.kn (Value.string (l.getD i.toNat eHand.dflt).box), V.kn (Value.string (l.getD i.toNat eHand.dflt).src), V.kn (Value.string (l.getD i.toNat eHand.dflt).dst), V.kn (Value.string (l.getD i.toNat eHand.dflt).place), V.kn (Value.int IntKind.i64 (l.getD i.toNat eHand.dflt).day)] (5 : Nat))) true] } else ((0 : Int) ≤ i ∧ i < (↑l.length : Int)) ∧ (eHand.okl (5 : Nat) o.length (eHand.tl o) ∧ Hands_pre (l.getD i.toNat eHand.dflt).box (l.getD i.toNat eHand.dflt).src (l.getD i.toNat eHand.dflt).dst (l.getD i.toNat eHand.dflt).place (l.getD i.toNat eHand.dflt).day (eHand.dl o.length (eHand.tl o))) ∧ bif handE (eHand.dl o.length (eHand.tl o)) { box := (l.getD i.toNat eHand.dflt).box, src := (l.getD i.toNat eHand.dflt).src, dst := (l.getD i.toNat eHand.dflt).dst, place := (l.getD i.toNat eHand.dflt).place, day := (l.getD i.toNat eHand.dflt).day } != (0 : Int) then R (some (V.tup [V.kn (Value.int IntKind.i64 i), V.kn (Value.int IntKind.i64 (handE (eHand.dl o.length (eHand.tl o)) { box := (l.getD i.toNat eHand.dflt).box, src := (l.getD i.toNat eHand.dflt).src, dst := (l.getD i.toNat eHand.dflt).dst, place := (l.getD i.toNat eHand.dflt).place, day := (l.getD i.toNat eHand.dflt).day }))])) else ((0 : Int) ≤ i ∧ i < (↑l.length : Int)) ∧ (o.length + (1 : Nat) ≤ (9223372036854775807 : Nat) ∧ (o.length + (1 : Nat)) * (72 : Nat) ≤ (140737488355328 : Nat)) ∧ good { fr := { fn := (17 : Nat), nt := (61 : Nat), t := [((0 : Nat), V.list (5 : Nat) l.length (eHand.tl l)), ((4 : Nat), V.sl (0 : Nat)), ((5 : Nat), V.kn (Value.int IntKind.i64 (IntKind.i64.wrap (i + (1 : Int)))))], k := loopK Try.prog (17 : Nat) (3 : Nat) }, cs := [], h := [O.row (41 : Nat) (5 : Nat) (o.length + (1 : Nat)) (catF o.length (eHand.tl o) (rowF [V.kn (Value.string (l.getD i.toNat eHand.dflt).box), V.kn (Value.string (l.getD i.toNat eHand.dflt).src), V.kn (Value.string (l.getD i.toNat eHand.dflt).dst), V.kn (Value.string (l.getD i.toNat eHand.dflt).place), V.kn (Value.int IntKind.i64 (l.getD i.toNat eHand.dflt).day)] (5 : Nat))) true] } else R (some (V.tup [V.kn (Value.int IntKind.i64 (↑l.length : Int)), V.kn (Value.int IntKind.i64 (0 : Int))]))) := by kernel_rfl
theorem rCheck_ok  (l : List Hand) (len_l : l.length ≤ maxLen) (hp : rCheck_pre l) (good : Cfg → Prop) (hstep : ∀ c, arun Try.prog (conOf [(29, lift GBegins), (30, lift GHands)]) (0, [(17, 3, [0, 4, 5], [(0, 4, [])])]) good (RetO (Tells (rCheck_val l))) 400 (c) → good c) (hext : ∀ c c', CfgExt c c' → good c' → good c) (hle : ∀ c c', CfgLe 0 c c' → good c' → good c) : arun Try.prog (conOf [(29, lift GBegins), (30, lift GHands)]) (0, [(17, 3, [0, 4, 5], [(0, 4, [])])]) good (RetO (Tells (rCheck_val l))) 400 (entry Try.prog 17 [.list eHand.s l.length (eHand.tl l)]) := by
  rw [rCheck_res]
  obtain ⟨hl, hw⟩ := hp
  have hmx : maxLen = 9223372036854775807 := rfl
  refine hext _ (rCheck_c3 l [] 0) ⟨rfl, rfl, rfl, rfl, TExts.refl _, ⟨OExt.row rfl (fun i hi => by omega), trivial⟩⟩ ?_
  refine foreach l (fun i (_ : Unit) => chk l (l.length + 1 - i) i = chk l (l.length + 1) 0) (fun i _ => rCheck_c3 l (l.take i.toNat) i) (fun i _ hi hv ih => ?_) (fun _ hv => ?_) () rfl
  · apply hstep
    rw [rCheck_l3]
    have e1 : (i : Int).toNat = i := by omega
    have e2 : (((i + 1 : Nat) : Int)).toNat = i + 1 := by omega
    have hlen : (l.take i).length = i := by rw [List.length_take]; omega
    obtain ⟨w1, w2, w3, w4, w5⟩ := hw _ (List.getElem_mem hi)
    have bnd : (0 : Int) ≤ i ∧ (i : Int) < l.length := ⟨by omega, by omega⟩
    have b1 : (l.take i).length + 1 ≤ 9223372036854775807 ∧ ((l.take i).length + 1) * 72 ≤ 140737488355328 := ⟨by omega, by omega⟩
    have ok : eHand.okl 5 (l.take i).length (eHand.tl (l.take i)) := eHand.okl_tl (by omega)
    have hk : l.length + 1 - i = (l.length + 1 - (i + 1)) + 1 := by omega
    rw [hk] at hv
    rw [e1, wrap_succ hi len_l, getD_at _ hi, eHand.dl_tl]
    have stop : ∀ e, stepE (l.take i) l[i] = e → (e != 0) = true → Tells (rCheck_val l) (some (.tup [.kn (.int .i64 (i : Int)), .kn (.int .i64 e)])) := fun e h1 h2 => tell (by
      rw [rCheck_val, chkV, ← hv, chk_stop hi (by rw [h1]; simpa using h2), h1])
    have go : ∀ e, stepE (l.take i) l[i] = e → (e != 0) = false → good (rCheck_c3 l (l.take i ++ [l[i]]) ((i + 1 : Nat) : Int)) := fun e h1 h2 => by
      have := ih () (by rw [← hv, chk_go hi (by rw [h1]; simpa using h2)])
      rwa [e2, take_at hi] at this
    have next : good (rCheck_c3 l (l.take i ++ [l[i]]) ((i + 1 : Nat) : Int)) → good ⟨⟨17, 61, [(0, .list eHand.s l.length (eHand.tl l)), (4, .sl 0), (5, .kn (.int .i64 ((i + 1 : Nat) : Int)))], loopK Try.prog 17 3⟩, [], [.row 41 5 ((l.take i).length + 1) (catF (l.take i).length (eHand.tl (l.take i)) (rowF (eHand.toV l[i]) 5)) true]⟩ := fun h =>
      hext _ (rCheck_c3 l (l.take i ++ [l[i]]) ((i + 1 : Nat) : Int)) ⟨rfl, rfl, rfl, rfl, TExts.refl _, ⟨eHand.oext (eHand.is_app (eHand.is_tl _) (eHand.is_one l[i] rfl)), trivial⟩⟩ h
    refine cond_true' (decide_eq_true (by omega)) ⟨bnd, cond_intro (fun h1 => ?_) (fun h1 => ?_)⟩
    · have hs : stepE (l.take i) l[i] = beginE (l.take i) l[i].box l[i].dst l[i].place l[i].day := by rw [stepE, h1]; rfl
      exact ⟨bnd, bnd, bnd, bnd, ⟨ok, by omega, w1, w3, w4⟩, cond_intro (fun h2 => stop _ hs h2) (fun h2 => ⟨bnd, b1, next (go _ hs h2)⟩)⟩
    · have hs : stepE (l.take i) l[i] = handE (l.take i) l[i] := by rw [stepE, h1]; rfl
      exact ⟨bnd, ⟨ok, by omega, w1, w2, w3, w4⟩, cond_intro (fun h2 => stop _ hs h2) (fun h2 => ⟨bnd, b1, next (go _ hs h2)⟩)⟩
  · apply hstep
    rw [rCheck_l3]
    refine cond_false' (decide_eq_false (by omega)) (tell ?_)
    rw [rCheck_val, chkV, ← hv, show l.length + 1 - l.length = 0 + 1 by omega, chk_end (Nat.le_refl _)]
theorem rCheck_con : SpecOK Try.prog 17 (lift GrCheck) := by
  refine con_of_run3 (con := conOf [(29, lift GBegins), (30, lift GHands)]) (hs := (0, [(17, 3, [0, 4, 5], [(0, 4, [])])])) 400 Try.func17 rfl (by kernel_rfl) rfl (conCons Begins_con (conCons Hands_con conNil)) ?_
  intro args0 p r hG hp
  unfold GrCheck at hG
  split at hG
  case h_2 => cases hG
  rename_i s_l n_l f_l
  cases hG
  obtain ⟨ok_l, hp⟩ := hp
  exact ⟨[.list eHand.s (eHand.dl n_l f_l).length (eHand.tl (eHand.dl n_l f_l))], ⟨eHand.extl ok_l, trivial⟩, by simp [Try.ntmps17], fun good hstep hext hle => rCheck_ok _ (by rw [eHand.dl_length]; exact ok_l.2.1) hp good hstep hext hle⟩
end Go.Proofs.Ytgepkpajndlgeaa
