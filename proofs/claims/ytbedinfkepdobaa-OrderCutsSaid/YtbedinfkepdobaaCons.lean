/- What is proved: contracts of functions of one seat, each by the executor; written by a program of the prover (gen.py) and by hand. Conditions: each contract names its own. -/
import Derived.Test.YtbedinfkepdobaaAw2
import Derived.Test.YtbedinfkepdobaaProg
import Derived.KernelRfl
import Derived.IntWalk
import Derived.Laws.RangeString
import Derived.Laws.RangeAny
import Derived.MapKept
namespace Go.Proofs.Ytbedinfkepdobaa
open Go Go.Aw Go.RowKit
set_option linter.unusedVariables false
set_option linter.unusedSimpArgs false
set_option maxRecDepth 10000
structure Line where
  good : ByteArray
  count : Int
  price : Int
def eLine : Enc Line where
  s := 3
  toV d := [.kn (.string d.good), .kn (.int .i64 d.count), .kn (.int .i64 d.price)]
  ofV c := match c with | [x0, x1, x2] => ⟨vStr x0, vInt x1, vInt x2⟩ | _ => ⟨ByteArray.empty, 0, 0⟩
  dflt := ⟨ByteArray.empty, 0, 0⟩
  inv d := by rfl
  len d := rfl
def eLine_wf (d : Line) : Prop := d.good.size ≤ maxLen ∧ inI64 d.count ∧ inI64 d.price

def okC (c : Int) : Bool := decide (97 ≤ c ∧ c ≤ 122 ∨ 48 ≤ c ∧ c ≤ 57 ∨ c = 45)
def byteI (s : ByteArray) (i : Nat) : Int := ((s.data.getD i 0).toNat : Nat)
def badFrom (s : ByteArray) : Nat → Nat → Int
  | 0, _ => -1
  | k + 1, i => bif okC (byteI s i) then badFrom s k (i + 1) else (i : Int)
def badAt (s : ByteArray) : Int := badFrom s s.size 0
def isName (s : ByteArray) : Bool := decide (badAt s = -1 ∧ 1 ≤ s.size ∧ s.size ≤ 16)
noncomputable def idxP {α : Type} (p : α → Prop) (xs : List α) : Int := bif bP (∃ x ∈ xs, p x) then ((xs.findIdx fun x => bP (p x) : Nat) : Int) else -1


theorem idxP_miss {α : Type} {p : α → Prop} {xs : List α} (h : ∀ i (hi : i < xs.length), ¬ p xs[i]) : idxP p xs = -1 := by
  unfold idxP
  rw [bP_false (fun ⟨x, hx, hp⟩ => by obtain ⟨i, hi, rfl⟩ := List.getElem_of_mem hx; exact h i hi hp)]
  rfl
theorem idxP_hit {α : Type} {p : α → Prop} {xs : List α} {i : Nat} (hi : i < xs.length) (h : ∀ j (hj : j < xs.length), j < i → ¬ p xs[j]) (hp : p xs[i]) : idxP p xs = (i : Int) := by
  unfold idxP
  rw [bP_true ⟨_, List.getElem_mem hi, hp⟩]
  have : xs.findIdx (fun x => bP (p x)) = i := (List.findIdx_eq hi).2 ⟨bP_true hp, fun j hj => bP_false (h j (by omega) hj)⟩
  rw [this]
  rfl
theorem idxP_nonneg {α : Type} {p : α → Prop} {xs : List α} : 0 ≤ idxP p xs ↔ ∃ x ∈ xs, p x := by
  unfold idxP
  cases h : bP (∃ x ∈ xs, p x) with
  | true => simp [bP_iff.1 h]
  | false => simp [bP_not.1 h]
theorem okC_iff {c : Int} : okC c = true ↔ (97 ≤ c ∧ c ≤ 122 ∨ 48 ≤ c ∧ c ≤ 57 ∨ c = 45) := by simp [okC]
theorem okC_not {c : Int} : okC c = false ↔ ¬ (97 ≤ c ∧ c ≤ 122 ∨ 48 ≤ c ∧ c ≤ 57 ∨ c = 45) := by rw [← Bool.not_eq_true, okC_iff]
theorem bad_go {s : ByteArray} {i : Nat} (hi : i < s.size) (h : okC (byteI s i) = true) : badFrom s (s.size - i) i = badFrom s (s.size - (i + 1)) (i + 1) := by
  rw [show s.size - i = (s.size - (i + 1)) + 1 by omega, badFrom, h]; rfl
theorem bad_end {s : ByteArray} {i : Nat} (hi : i < s.size) (h : okC (byteI s i) = false) : badFrom s (s.size - i) i = (i : Int) := by
  rw [show s.size - i = (s.size - (i + 1)) + 1 by omega, badFrom, h]; rfl
theorem byte_get {s : ByteArray} {i : Nat} (hi : i < s.size) : byteI s i = ((s[i]'hi).toNat : Nat) := by
  unfold byteI
  have h2 : i < s.data.size := hi
  rw [Array.getD_eq_getD_getElem?, Array.getElem?_eq_getElem h2]
  rfl
theorem name_no {s : ByteArray} {i : Nat} (h : badAt s = (i : Int)) : isName s = false := by unfold isName; rw [h]; exact decide_eq_false (by omega)

def rName_pre (s : ByteArray) : Prop := s.size ≤ maxLen
noncomputable def rName_val (s : ByteArray) : V := .kn (.bool (isName s))
noncomputable def GrName : PSpec
  | [.kn (.string s)] => some (rName_pre s, rName_val s)
  | _ => none
theorem rName_res (s : ByteArray) (good : Cfg → Prop) (R : Option V → Prop) : arun Try.prog (conOf []) (0, [(30, 2, [0, 3], [])]) good (RetO (R)) 400 (entry Try.prog 30 [.kn (.string s)]) =
    (good { fr := { fn := (30 : Nat), nt := (36 : Nat), t := [((0 : Nat), V.kn (Value.string s)), ((3 : Nat), V.kn (Value.int IntKind.i64 (0 : Int)))], k := loopK Try.prog (30 : Nat) (2 : Nat) }, cs := [], h := [] }) := by kernel_rfl
@[reducible] noncomputable def rName_c2 (s : ByteArray) (i : Int) : Cfg := ⟨⟨30, 36, [(0, .kn (.string s)), (3, .kn (.int .i64 i))], loopK Try.prog 30 2⟩, [], []⟩
theorem rName_l2 (s : ByteArray) (i : Int) (good : Cfg → Prop) (R : Option V → Prop) : arun Try.prog (conOf []) (0, [(30, 2, [0, 3], [])]) good (RetO (R)) 400 (rName_c2 s i) =
    (bif decide (i < (↑s.size : Int)) then ((0 : Int) ≤ i ∧ i < (↑s.size : Int)) ∧ bif decide ((↑(s.data.getD i.toNat (OfNat.ofNat (0 : Nat))).toNat : Int) ≥ (97 : Int)) then bif !decide ((↑(s.data.getD i.toNat (OfNat.ofNat (0 : Nat))).toNat : Int) ≤ (122 : Int)) then ((0 : Int) ≤ i ∧ i < (↑s.size : Int)) ∧ bif decide ((↑(s.data.getD i.toNat (OfNat.ofNat (0 : Nat))).toNat : Int) ≥ (48 : Int)) then bif !decide ((↑(s.data.getD i.toNat (OfNat.ofNat (0 : Nat))).toNat : Int) ≤ (57 : Int)) then ((0 : Int) ≤ i ∧ i < (↑s.size : Int)) ∧ bif (↑(s.data.getD i.toNat (OfNat.ofNat (0 : Nat))).toNat : Int) != (45 : Int) then R (some (V.kn (Value.bool false))) else good { fr := { fn := (30 : Nat), nt := (36 : Nat), t := [((0 : Nat), V.kn (Value.string s)), ((3 : Nat), V.kn (Value.int IntKind.i64 (IntKind.i64.wrap (i + (1 : Int)))))], k := loopK Try.prog (30 : Nat) (2 : Nat) }, cs := [], h := [] } else good { fr := { fn := (30 : Nat), nt := (36 : Nat), t := [((0 : Nat), V.kn (Value.string s)), ((3 : Nat), V.kn (Value.int IntKind.i64 (IntKind.i64.wrap (i + (1 : Int)))))], k := loopK Try.prog (30 : Nat) (2 : Nat) }, cs := [], h := [] } else ((0 : Int) ≤ i ∧ i < (↑s.size : Int)) ∧ bif (↑(s.data.getD i.toNat (OfNat.ofNat (0 : Nat))).toNat : Int) != (45 : Int) then R (some (V.kn (Value.bool false))) else good { fr := { fn := (30 : Nat), nt := (36 : Nat), t := [((0 : Nat), V.kn (Value.string s)), ((3 : Nat), V.kn (Value.int IntKind.i64 (IntKind.i64.wrap (i + (1 : Int)))))], k := loopK Try.prog (30 : Nat) (2 : Nat) }, cs := [], h := [] } else good { fr := { fn := (30 : Nat), nt := (36 : Nat), t := [((0 : Nat), V.kn (Value.string s)), ((3 : Nat), V.kn (Value.int IntKind.i64 (IntKind.i64.wrap (i + (1 : Int)))))], k := loopK Try.prog (30 : Nat) (2 : Nat) }, cs := [], h := [] } else ((0 : Int) ≤ i ∧ i < (↑s.size : Int)) ∧ bif decide ((↑(s.data.getD i.toNat (OfNat.ofNat (0 : Nat))).toNat : Int) ≥ (48 : Int)) then bif !decide ((↑(s.data.getD i.toNat (OfNat.ofNat (0 : Nat))).toNat : Int) ≤ (57 : Int)) then ((0 : Int) ≤ i ∧ i < (↑s.size : Int)) ∧ bif (↑(s.data.getD i.toNat (OfNat.ofNat (0 : Nat))).toNat : Int) != (45 : Int) then R (some (V.kn (Value.bool false))) else good { fr := { fn := (30 : Nat), nt := (36 : Nat), t := [((0 : Nat), V.kn (Value.string s)), ((3 : Nat), V.kn (Value.int IntKind.i64 (IntKind.i64.wrap (i + (1 : Int)))))], k := loopK Try.prog (30 : Nat) (2 : Nat) }, cs := [], h := [] } else good { fr := { fn := (30 : Nat), nt := (36 : Nat), t := [((0 : Nat), V.kn (Value.string s)), ((3 : Nat), V.kn (Value.int IntKind.i64 (IntKind.i64.wrap (i + (1 : Int)))))], k := loopK Try.prog (30 : Nat) (2 : Nat) }, cs := [], h := [] } else ((0 : Int) ≤ i ∧ i < (↑s.size : Int)) ∧ bif (↑(s.data.getD i.toNat (OfNat.ofNat (0 : Nat))).toNat : Int) != (45 : Int) then R (some (V.kn (Value.bool false))) else good { fr := { fn := (30 : Nat), nt := (36 : Nat), t := [((0 : Nat), V.kn (Value.string s)), ((3 : Nat), V.kn (Value.int IntKind.i64 (IntKind.i64.wrap (i + (1 : Int)))))], k := loopK Try.prog (30 : Nat) (2 : Nat) }, cs := [], h := [] } else bif decide ((↑s.size : Int) ≥ (1 : Int)) then R (some (V.kn (Value.bool (decide ((↑s.size : Int) ≤ (16 : Int)))))) else R (some (V.kn (Value.bool false)))) := by kernel_rfl
theorem rName_ok (s : ByteArray) (hp : rName_pre s) (good : Cfg → Prop) (hstep : ∀ c, arun Try.prog (conOf []) (0, [(30, 2, [0, 3], [])]) good (RetO (Tells (rName_val s))) 400 (c) → good c) (hext : ∀ c c', CfgExt c c' → good c' → good c) (hle : ∀ c c', CfgLe 0 c c' → good c' → good c) : arun Try.prog (conOf []) (0, [(30, 2, [0, 3], [])]) good (RetO (Tells (rName_val s))) 400 (entry Try.prog 30 [.kn (.string s)]) := by
  rw [rName_res]
  have hm : s.size ≤ maxLen := hp
  have hmx : maxLen = 9223372036854775807 := rfl
  refine loop_ind (S := Nat) (fun i => rName_c2 s i) (fun i => i ≤ s.size ∧ badFrom s (s.size - i) i = badAt s) (fun i => s.size - i) (fun i hv ih => ?_) 0 ⟨Nat.zero_le _, rfl⟩
  obtain ⟨v1, v2⟩ := hv
  apply hstep
  rw [rName_l2]
  have e1 : (i : Int).toNat = i := by omega
  rw [e1]
  refine cond_intro (fun h1 => ?_) (fun h1 => ?_)
  · have hi : i < s.size := by simp only [decide_eq_true_eq] at h1; omega
    rw [wrap_succ hi hm]
    have hb : byteI s i = (((s.data.getD i (OfNat.ofNat 0)).toNat : Nat) : Int) := rfl
    generalize (((s.data.getD i (OfNat.ofNat 0)).toNat : Nat) : Int) = x at hb
    have go : okC x = true → good (rName_c2 s ((i + 1 : Nat) : Int)) := fun ho => ih (i + 1) ⟨hi, by rw [← bad_go hi (by rw [hb]; exact ho)]; exact v2⟩ (by omega)
    have no : okC x = false → Tells (rName_val s) (some (.kn (.bool false))) := fun ho => tell_bool (name_no (i := i) (by rw [← v2, bad_end hi (by rw [hb]; exact ho)])).symm
    have bnd : (0 : Int) ≤ i ∧ (i : Int) < s.size := ⟨by omega, by omega⟩
    repeat' first | exact bnd | refine And.intro bnd ?_ | refine cond_intro (fun h => ?_) (fun h => ?_)
    all_goals first | refine no (okC_not.2 ?_) | refine go (okC_iff.2 ?_)
    all_goals simp only [decide_eq_true_eq, decide_eq_false_iff_not, bne_iff_ne, ne_eq, bne_eq_false_iff_eq, Bool.not_eq_true', Bool.not_eq_false', beq_iff_eq, beq_eq_false_iff_ne] at *
    all_goals omega
  · have hi : i = s.size := by simp only [decide_eq_false_iff_not] at h1; omega
    rw [hi, Nat.sub_self] at v2
    have hv : badAt s = -1 := v2.symm
    repeat' first | refine cond_intro (fun h => ?_) (fun h => ?_)
    all_goals refine tell_bool ?_
    all_goals unfold isName
    all_goals simp only [decide_eq_true_eq, decide_eq_false_iff_not] at *
    all_goals rw [hv, Bool.eq_iff_iff]
    all_goals simp
    all_goals omega
theorem rName_con : SpecOK Try.prog 30 (lift GrName) := by
  refine con_of_run3 (con := conOf []) (hs := (0, [(30, 2, [0, 3], [])])) 400 Try.func30 rfl (by kernel_rfl) rfl conNil ?_
  intro args0 p r hG hp
  unfold GrName at hG
  split at hG
  case h_2 => cases hG
  rename_i s
  cases hG
  exact ⟨[.kn (.string s)], ⟨VExt.refl _, trivial⟩, by simp [Try.ntmps30], fun good hstep hext hle => rName_ok _ hp good hstep hext hle⟩
def all_pre (s : ByteArray) : Prop := s.size ≤ maxLen
noncomputable def all_val (s : ByteArray) : V := .kn (.bool (decide (badAt s = -1)))
noncomputable def Gall : PSpec
  | [.kn (.string s), .fn 58 []] => some (all_pre s, all_val s)
  | _ => none
theorem all_res (s : ByteArray) (good : Cfg → Prop) (R : Option V → Prop) : arun Try.prog (conOf []) (0, [(57, 2, [0, 1, 7, 8], [])]) good (RetO (R)) 400 (entry Try.prog 57 [.kn (.string s), .fn 58 []]) =
    (good { fr := { fn := (57 : Nat), nt := (18 : Nat), t := [((0 : Nat), V.kn (Value.string s)), ((1 : Nat), V.fn (58 : Nat) []), ((7 : Nat), V.kn (Value.int IntKind.i64 (↑s.size : Int))), ((8 : Nat), V.kn (Value.int IntKind.i64 (0 : Int)))], k := loopK Try.prog (57 : Nat) (2 : Nat) }, cs := [], h := [] }) := by kernel_rfl
@[reducible] noncomputable def all_c2 (s : ByteArray) (i : Int) : Cfg := ⟨⟨57, 18, [(0, .kn (.string s)), (1, .fn 58 []), (7, .kn (.int .i64 s.size)), (8, .kn (.int .i64 i))], loopK Try.prog 57 2⟩, [], []⟩
theorem all_l2 (s : ByteArray) (i : Int) (good : Cfg → Prop) (R : Option V → Prop) : arun Try.prog (conOf []) (0, [(57, 2, [0, 1, 7, 8], [])]) good (RetO (R)) 400 (all_c2 s i) =
    (bif decide (i < (↑s.size : Int)) then ((0 : Int) ≤ i ∧ i < (↑s.size : Int)) ∧ bif decide ((↑(s.data.getD i.toNat (OfNat.ofNat (0 : Nat))).toNat : Int) ≥ (97 : Int)) then bif decide ((↑(s.data.getD i.toNat (OfNat.ofNat (0 : Nat))).toNat : Int) ≤ (122 : Int)) then good { fr := { fn := (57 : Nat), nt := (18 : Nat), t := [((0 : Nat), V.kn (Value.string s)), ((1 : Nat), V.fn (58 : Nat) []), ((7 : Nat), V.kn (Value.int IntKind.i64 (↑s.size : Int))), ((8 : Nat), V.kn (Value.int IntKind.i64 (IntKind.i64.wrap (i + (1 : Int)))))], k := loopK Try.prog (57 : Nat) (2 : Nat) }, cs := [], h := [] } else bif decide ((↑(s.data.getD i.toNat (OfNat.ofNat (0 : Nat))).toNat : Int) ≥ (48 : Int)) then bif decide ((↑(s.data.getD i.toNat (OfNat.ofNat (0 : Nat))).toNat : Int) ≤ (57 : Int)) then good { fr := { fn := (57 : Nat), nt := (18 : Nat), t := [((0 : Nat), V.kn (Value.string s)), ((1 : Nat), V.fn (58 : Nat) []), ((7 : Nat), V.kn (Value.int IntKind.i64 (↑s.size : Int))), ((8 : Nat), V.kn (Value.int IntKind.i64 (IntKind.i64.wrap (i + (1 : Int)))))], k := loopK Try.prog (57 : Nat) (2 : Nat) }, cs := [], h := [] } else bif !(↑(s.data.getD i.toNat (OfNat.ofNat (0 : Nat))).toNat : Int) == (45 : Int) then R (some (V.kn (Value.bool false))) else good { fr := { fn := (57 : Nat), nt := (18 : Nat), t := [((0 : Nat), V.kn (Value.string s)), ((1 : Nat), V.fn (58 : Nat) []), ((7 : Nat), V.kn (Value.int IntKind.i64 (↑s.size : Int))), ((8 : Nat), V.kn (Value.int IntKind.i64 (IntKind.i64.wrap (i + (1 : Int)))))], k := loopK Try.prog (57 : Nat) (2 : Nat) }, cs := [], h := [] } else bif !(↑(s.data.getD i.toNat (OfNat.ofNat (0 : Nat))).toNat : Int) == (45 : Int) then R (some (V.kn (Value.bool false))) else good { fr := { fn := (57 : Nat), nt := (18 : Nat), t := [((0 : Nat), V.kn (Value.string s)), ((1 : Nat), V.fn (58 : Nat) []), ((7 : Nat), V.kn (Value.int IntKind.i64 (↑s.size : Int))), ((8 : Nat), V.kn (Value.int IntKind.i64 (IntKind.i64.wrap (i + (1 : Int)))))], k := loopK Try.prog (57 : Nat) (2 : Nat) }, cs := [], h := [] } else bif decide ((↑(s.data.getD i.toNat (OfNat.ofNat (0 : Nat))).toNat : Int) ≥ (48 : Int)) then bif decide ((↑(s.data.getD i.toNat (OfNat.ofNat (0 : Nat))).toNat : Int) ≤ (57 : Int)) then good { fr := { fn := (57 : Nat), nt := (18 : Nat), t := [((0 : Nat), V.kn (Value.string s)), ((1 : Nat), V.fn (58 : Nat) []), ((7 : Nat), V.kn (Value.int IntKind.i64 (↑s.size : Int))), ((8 : Nat), V.kn (Value.int IntKind.i64 (IntKind.i64.wrap (i + (1 : Int)))))], k := loopK Try.prog (57 : Nat) (2 : Nat) }, cs := [], h := [] } else bif !(↑(s.data.getD i.toNat (OfNat.ofNat (0 : Nat))).toNat : Int) == (45 : Int) then R (some (V.kn (Value.bool false))) else good { fr := { fn := (57 : Nat), nt := (18 : Nat), t := [((0 : Nat), V.kn (Value.string s)), ((1 : Nat), V.fn (58 : Nat) []), ((7 : Nat), V.kn (Value.int IntKind.i64 (↑s.size : Int))), ((8 : Nat), V.kn (Value.int IntKind.i64 (IntKind.i64.wrap (i + (1 : Int)))))], k := loopK Try.prog (57 : Nat) (2 : Nat) }, cs := [], h := [] } else bif !(↑(s.data.getD i.toNat (OfNat.ofNat (0 : Nat))).toNat : Int) == (45 : Int) then R (some (V.kn (Value.bool false))) else good { fr := { fn := (57 : Nat), nt := (18 : Nat), t := [((0 : Nat), V.kn (Value.string s)), ((1 : Nat), V.fn (58 : Nat) []), ((7 : Nat), V.kn (Value.int IntKind.i64 (↑s.size : Int))), ((8 : Nat), V.kn (Value.int IntKind.i64 (IntKind.i64.wrap (i + (1 : Int)))))], k := loopK Try.prog (57 : Nat) (2 : Nat) }, cs := [], h := [] } else R (some (V.kn (Value.bool true)))) := by kernel_rfl
theorem all_ok (s : ByteArray) (hp : all_pre s) (good : Cfg → Prop) (hstep : ∀ c, arun Try.prog (conOf []) (0, [(57, 2, [0, 1, 7, 8], [])]) good (RetO (Tells (all_val s))) 400 (c) → good c) (hext : ∀ c c', CfgExt c c' → good c' → good c) (hle : ∀ c c', CfgLe 0 c c' → good c' → good c) : arun Try.prog (conOf []) (0, [(57, 2, [0, 1, 7, 8], [])]) good (RetO (Tells (all_val s))) 400 (entry Try.prog 57 [.kn (.string s), .fn 58 []]) := by
  rw [all_res]
  have hm : s.size ≤ maxLen := hp
  have hmx : maxLen = 9223372036854775807 := rfl
  refine loop_ind (S := Nat) (fun i => all_c2 s i) (fun i => i ≤ s.size ∧ badFrom s (s.size - i) i = badAt s) (fun i => s.size - i) (fun i hv ih => ?_) 0 ⟨Nat.zero_le _, rfl⟩
  obtain ⟨v1, v2⟩ := hv
  apply hstep
  rw [all_l2]
  have e1 : (i : Int).toNat = i := by omega
  rw [e1]
  refine cond_intro (fun h1 => ?_) (fun h1 => ?_)
  · have hi : i < s.size := by simp only [decide_eq_true_eq] at h1; omega
    rw [wrap_succ hi hm]
    have hb : byteI s i = (((s.data.getD i (OfNat.ofNat 0)).toNat : Nat) : Int) := rfl
    generalize (((s.data.getD i (OfNat.ofNat 0)).toNat : Nat) : Int) = x at hb
    have go : okC x = true → good (all_c2 s ((i + 1 : Nat) : Int)) := fun ho => ih (i + 1) ⟨hi, by rw [← bad_go hi (by rw [hb]; exact ho)]; exact v2⟩ (by omega)
    have no : okC x = false → Tells (all_val s) (some (.kn (.bool false))) := fun ho => tell_bool (by rw [← v2, bad_end hi (by rw [hb]; exact ho)]; exact (decide_eq_false (by omega)).symm)
    have bnd : (0 : Int) ≤ i ∧ (i : Int) < s.size := ⟨by omega, by omega⟩
    repeat' first | exact bnd | refine And.intro bnd ?_ | refine cond_intro (fun h => ?_) (fun h => ?_)
    all_goals first | refine no (okC_not.2 ?_) | refine go (okC_iff.2 ?_)
    all_goals simp only [decide_eq_true_eq, decide_eq_false_iff_not, bne_iff_ne, ne_eq, bne_eq_false_iff_eq, Bool.not_eq_true', Bool.not_eq_false', beq_iff_eq, beq_eq_false_iff_ne] at *
    all_goals omega
  · have hi : i = s.size := by simp only [decide_eq_false_iff_not] at h1; omega
    rw [hi, Nat.sub_self] at v2
    have hv : badAt s = -1 := v2.symm
    exact tell_bool (by rw [hv]; rfl)
theorem all_con : SpecOK Try.prog 57 (lift Gall) := by
  refine con_of_run3 (con := conOf []) (hs := (0, [(57, 2, [0, 1, 7, 8], [])])) 400 Try.func57 rfl (by kernel_rfl) rfl conNil ?_
  intro args0 p r hG hp
  unfold Gall at hG
  split at hG
  case h_2 => cases hG
  rename_i s
  cases hG
  exact ⟨[.kn (.string s), .fn 58 []], ⟨VExt.refl _, VExt.refl _, trivial⟩, by simp [Try.ntmps57], fun good hstep hext hle => all_ok _ hp good hstep hext hle⟩
def mName_pre (s : ByteArray) : Prop := s.size ≤ maxLen
noncomputable def mName_val (s : ByteArray) : V := .kn (.bool (isName s))
noncomputable def GmName : PSpec
  | [.kn (.string s)] => some (mName_pre s, mName_val s)
  | _ => none
theorem mName_res (s : ByteArray) (good : Cfg → Prop) (R : Option V → Prop) : arun Try.prog (conOf [(57, lift Gall)]) (0, []) good (RetO (R)) 400 (entry Try.prog 27 [.kn (.string s)]) =
    (bif decide ((↑s.size : Int) ≥ (1 : Int)) then bif decide ((↑s.size : Int) ≤ (16 : Int)) then all_pre s ∧ R (some (V.kn (Value.bool (decide (badAt s = (-1 : Int)))))) else R (some (V.kn (Value.bool false))) else R (some (V.kn (Value.bool false)))) := by kernel_rfl
theorem mName_ok (s : ByteArray) (hp : mName_pre s) (good : Cfg → Prop) (hstep : ∀ c, arun Try.prog (conOf [(57, lift Gall)]) (0, []) good (RetO (Tells (mName_val s))) 400 (c) → good c) (hext : ∀ c c', CfgExt c c' → good c' → good c) (hle : ∀ c c', CfgLe 0 c c' → good c' → good c) : arun Try.prog (conOf [(57, lift Gall)]) (0, []) good (RetO (Tells (mName_val s))) 400 (entry Try.prog 27 [.kn (.string s)]) := by
  rw [mName_res]
  have hm : s.size ≤ maxLen := hp
  repeat' first | exact hm | refine And.intro hm ?_ | refine cond_intro (fun h => ?_) (fun h => ?_)
  all_goals refine tell_bool ?_
  all_goals unfold isName
  all_goals simp only [decide_eq_true_eq, decide_eq_false_iff_not] at *
  all_goals rw [Bool.eq_iff_iff]
  all_goals simp
  all_goals omega
theorem mName_con : SpecOK Try.prog 27 (lift GmName) := by
  refine con_of_run3 (con := conOf [(57, lift Gall)]) (hs := (0, [])) 400 Try.func27 rfl (by kernel_rfl) rfl (conCons all_con conNil) ?_
  intro args0 p r hG hp
  unfold GmName at hG
  split at hG
  case h_2 => cases hG
  rename_i s
  cases hG
  exact ⟨[.kn (.string s)], ⟨VExt.refl _, trivial⟩, by simp [Try.ntmps27], fun good hstep hext hle => mName_ok _ hp good hstep hext hle⟩
def okU (c : Int) : Bool := decide (65 ≤ c ∧ c ≤ 90)
def bufF (s : ByteArray) : Nat → Nat → Int
  | 0, _ => -1
  | k + 1, i => bif okU (byteI s i) then bufF s k (i + 1) else (i : Int)
def badU (s : ByteArray) : Int := bufF s s.size 0
def curB (s : ByteArray) : Bool := decide (badU s = -1 ∧ s.size = 3)
def seenB (l : List Line) (g : ByteArray) : Bool := l.any fun x => g == x.good
def seenF (l : List Line) (i : Int) (k : Value) : Bool := seenB (l.take i.toNat) (vStr (.kn k))
def lineOK (x : Line) : Prop := isName x.good = true ∧ 1 ≤ x.count ∧ x.count ≤ 1048576 ∧ 0 ≤ x.price ∧ x.price ≤ 1073741824
def lineAt (ls : List Line) (i : Nat) : Prop := lineOK (ls.getD i eLine.dflt) ∧ seenB (ls.take i) (ls.getD i eLine.dflt).good = false
def linesP (ls : List Line) : Prop := (∀ i, i < ls.length → lineAt ls i) ∧ 1 ≤ ls.length ∧ ls.length ≤ 64
noncomputable def findL (ls : List Line) (g : ByteArray) : Int := idxP (fun x => x.good = g) ls


theorem okU_iff {c : Int} : okU c = true ↔ (65 ≤ c ∧ c ≤ 90) := by simp [okU]
theorem okU_not {c : Int} : okU c = false ↔ ¬ (65 ≤ c ∧ c ≤ 90) := by rw [← Bool.not_eq_true, okU_iff]
theorem buf_go {s : ByteArray} {i : Nat} (hi : i < s.size) (h : okU (byteI s i) = true) : bufF s (s.size - i) i = bufF s (s.size - (i + 1)) (i + 1) := by
  rw [show s.size - i = (s.size - (i + 1)) + 1 by omega, bufF, h]; rfl
theorem buf_end {s : ByteArray} {i : Nat} (hi : i < s.size) (h : okU (byteI s i) = false) : bufF s (s.size - i) i = (i : Int) := by
  rw [show s.size - i = (s.size - (i + 1)) + 1 by omega, bufF, h]; rfl
theorem beq_cm (a b : ByteArray) : (a == b) = (b == a) := by
  rw [Bool.eq_iff_iff, Go.MapKept.bytes_beq, Go.MapKept.bytes_beq]; exact eq_comm
theorem seen_snoc {l : List Line} {i : Nat} (hi : i < l.length) (g : ByteArray) : seenB (l.take (i + 1)) g = (g == l[i].good || seenB (l.take i) g) := by
  unfold seenB
  rw [take_at hi, List.any_append]
  simp [Bool.or_comm]
theorem seen_iff {l : List Line} {g : ByteArray} : seenB l g = true ↔ ∃ x ∈ l, x.good = g := by
  unfold seenB
  rw [List.any_eq_true]
  exact ⟨fun ⟨x, hx, h⟩ => ⟨x, hx, ((Go.MapKept.bytes_beq _ _).1 h).symm⟩, fun ⟨x, hx, h⟩ => ⟨x, hx, (Go.MapKept.bytes_beq _ _).2 h.symm⟩⟩
theorem list_eq {a b : ByteArray} (h : (a.toList == b.toList) = true) : a = b := by
  rw [ByteArray.toList_eq, ByteArray.toList_eq, beq_iff_eq] at h
  obtain ⟨⟨x⟩⟩ := a
  obtain ⟨⟨y⟩⟩ := b
  have : x = y := h
  rw [this]
theorem list_ne {a b : ByteArray} (h : (a.toList == b.toList) = false) : ¬ a = b := fun e => by rw [e] at h; simp at h
theorem neg_badU (s : ByteArray) : badU s = -1 ∨ 0 ≤ badU s := by
  unfold badU
  generalize s.size = k, 0 = i
  induction k generalizing i with
  | zero => exact .inl rfl
  | succ k ih =>
    unfold bufF
    cases okU (byteI s i) with
    | true => exact ih (i + 1)
    | false => exact .inr (by simp)

def cup_pre (z : Int) : Prop := True
noncomputable def cup_val (z : Int) : V := .kn (.bool (!okU z))
noncomputable def Gcup : PSpec
  | [.kn (.int .i32 z)] => some (cup_pre z, cup_val z)
  | _ => none
theorem cup_res (z : Int) (good : Cfg → Prop) (R : Option V → Prop) : arun Try.prog (conOf []) (0, []) good (RetO (R)) 400 (entry Try.prog 80 [.kn (.int .i32 z)]) =
    (bif decide (z < (65 : Int)) then R (some (V.kn (Value.bool true))) else R (some (V.kn (Value.bool (decide (z > (90 : Int))))))) := by kernel_rfl
theorem cup_ok (z : Int) (hp : cup_pre z) (good : Cfg → Prop) (hstep : ∀ c, arun Try.prog (conOf []) (0, []) good (RetO (Tells (cup_val z))) 400 (c) → good c) (hext : ∀ c c', CfgExt c c' → good c' → good c) (hle : ∀ c c', CfgLe 0 c c' → good c' → good c) : arun Try.prog (conOf []) (0, []) good (RetO (Tells (cup_val z))) 400 (entry Try.prog 80 [.kn (.int .i32 z)]) := by
  rw [cup_res]
  repeat' first | exact trivial | refine And.intro ?_ ?_ | refine cond_intro (fun h => ?_) (fun h => ?_)
  all_goals refine tell_bool ?_
  all_goals simp only [decide_eq_true_eq, decide_eq_false_iff_not] at *
  all_goals rw [Bool.eq_iff_iff]
  all_goals simp only [Bool.not_eq_true', okU_not, decide_eq_true_eq, true_iff]
  all_goals omega
theorem cup_con : SpecOK Try.prog 80 (lift Gcup) := by
  refine con_of_run3 (con := conOf []) (hs := (0, [])) 400 Try.func80 rfl (by kernel_rfl) rfl conNil ?_
  intro args0 p r hG hp
  unfold Gcup at hG
  split at hG
  case h_2 => cases hG
  rename_i z
  cases hG
  exact ⟨[.kn (.int .i32 z)], ⟨VExt.refl _, trivial⟩, by simp [Try.ntmps80], fun good hstep hext hle => cup_ok _ hp good hstep hext hle⟩
def idxS_pre (s : ByteArray) (t : Bool) : Prop := t = true
noncomputable def idxS_val (s : ByteArray) (t : Bool) : V := .kn (.int .i64 (badU s))
noncomputable def GidxS : PSpec
  | [.kn (.string s), .fn 80 [], .kn (.bool t)] => some (idxS_pre s t, idxS_val s t)
  | _ => none
theorem idxS_res (s : ByteArray) (t : Bool) (good : Cfg → Prop) (R : Option V → Prop) : arun Try.prog (conOf [(80, lift Gcup)]) (0, [(112, 2, [1, 2, 10], [(0, 10, [])])]) good (RetO (R)) 400 (entry Try.prog 112 [.kn (.string s), .fn 80 [], .kn (.bool t)]) =
    (good { fr := { fn := (112 : Nat), nt := (21 : Nat), t := [((1 : Nat), V.fn (80 : Nat) []), ((2 : Nat), V.kn (Value.bool t)), ((10 : Nat), V.it (0 : Nat))], k := loopK Try.prog (112 : Nat) (2 : Nat) }, cs := [], h := [O.siter s (0 : Nat)] }) := by kernel_rfl
@[reducible] noncomputable def idxS_c2 (s : ByteArray) (t : Bool) (i : Nat) : Cfg := ⟨⟨112, 21, [(1, .fn 80 []), (2, .kn (.bool t)), (10, .it 0)], loopK Try.prog 112 2⟩, [], [.siter s i]⟩
theorem idxS_l2 (s : ByteArray) (t : Bool) (i : Nat) (good : Cfg → Prop) (R : Option V → Prop) : arun Try.prog (conOf [(80, lift Gcup)]) (0, [(112, 2, [1, 2, 10], [(0, 10, [])])]) good (RetO (R)) 400 (idxS_c2 s t i) =
    (bif i.blt s.size then cup_pre (↑(Utf8.decode s i).fst : Int) ∧ bif (!okU (↑(Utf8.decode s i).fst : Int)) == t then R (some (V.kn (Value.int IntKind.i64 (↑i : Int)))) else good { fr := { fn := (112 : Nat), nt := (21 : Nat), t := [((1 : Nat), V.fn (80 : Nat) []), ((2 : Nat), V.kn (Value.bool t)), ((10 : Nat), V.it (0 : Nat))], k := loopK Try.prog (112 : Nat) (2 : Nat) }, cs := [], h := [O.siter s (i + (Utf8.decode s i).snd)] } else R (some (V.kn (Value.int IntKind.i64 (-1 : Int))))) := by kernel_rfl
theorem idxS_ok (s : ByteArray) (t : Bool) (hp : idxS_pre s t) (good : Cfg → Prop) (hstep : ∀ c, arun Try.prog (conOf [(80, lift Gcup)]) (0, [(112, 2, [1, 2, 10], [(0, 10, [])])]) good (RetO (Tells (idxS_val s t))) 400 (c) → good c) (hext : ∀ c c', CfgExt c c' → good c' → good c) (hle : ∀ c c', CfgLe 0 c c' → good c' → good c) : arun Try.prog (conOf [(80, lift Gcup)]) (0, [(112, 2, [1, 2, 10], [(0, 10, [])])]) good (RetO (Tells (idxS_val s t))) 400 (entry Try.prog 112 [.kn (.string s), .fn 80 [], .kn (.bool t)]) := by
  rw [idxS_res]
  unfold idxS_pre at hp
  subst hp
  refine loop_ind (S := Nat) (fun i => idxS_c2 s true i) (fun i => i ≤ s.size ∧ bufF s (s.size - i) i = badU s) (fun i => s.size - i) (fun i hv ih => ?_) 0 ⟨Nat.zero_le _, rfl⟩
  obtain ⟨v1, v2⟩ := hv
  apply hstep
  rw [idxS_l2]
  refine cond_intro (fun h1 => ?_) (fun h1 => ?_)
  · have hi : i < s.size := by simpa [Nat.blt_eq] using h1
    refine ⟨trivial, ?_⟩
    have hb := byte_get hi
    cases ho : okU (byteI s i) with
    | true =>
      have h2 := okU_iff.1 ho
      have hd := decode_ascii s i hi (by omega)
      rw [hd]
      refine cond_false' ?_ (ih (i + 1) ⟨hi, by rw [← buf_go hi ho]; exact v2⟩ (by omega))
      show ((!okU _) == true) = false
      rw [← hb, ho]; rfl
    | false =>
      have h2 := okU_not.1 ho
      have h3 : okU ((Utf8.decode s i).1 : Nat) = false := by
        by_cases hh : (s[i]'hi).toNat < 128
        · rw [decode_ascii s i hi hh, ← hb]; exact ho
        · have := (decode_high s i hi (by omega)).1
          rw [okU_not]; omega
      refine cond_true' ?_ (tell ?_)
      · rw [h3]; rfl
      · rw [idxS_val, ← v2, buf_end hi ho]
  · have hi : i = s.size := by
      have : ¬ i < s.size := fun hh => by rw [show i.blt s.size = true by simpa [Nat.blt_eq] using hh] at h1; cases h1
      omega
    refine tell ?_
    rw [idxS_val, ← v2, hi, Nat.sub_self]; rfl
theorem idxS_con : SpecOK Try.prog 112 (lift GidxS) := by
  refine con_of_run3 (con := conOf [(80, lift Gcup)]) (hs := (0, [(112, 2, [1, 2, 10], [(0, 10, [])])])) 400 Try.func112 rfl (by kernel_rfl) rfl (conCons cup_con conNil) ?_
  intro args0 p r hG hp
  unfold GidxS at hG
  split at hG
  case h_2 => cases hG
  rename_i s t
  cases hG
  exact ⟨[.kn (.string s), .fn 80 [], .kn (.bool t)], ⟨VExt.refl _, VExt.refl _, VExt.refl _, trivial⟩, by simp [Try.ntmps112], fun good hstep hext hle => idxS_ok _ _ hp good hstep hext hle⟩
def mCur_pre (s : ByteArray) : Prop := True
noncomputable def mCur_val (s : ByteArray) : V := .kn (.bool (curB s))
noncomputable def GmCur : PSpec
  | [.kn (.string s)] => some (mCur_pre s, mCur_val s)
  | _ => none
theorem mCur_res (s : ByteArray) (good : Cfg → Prop) (R : Option V → Prop) : arun Try.prog (conOf [(112, lift GidxS)]) (0, []) good (RetO (R)) 400 (entry Try.prog 61 [.kn (.string s)]) =
    (bif (↑s.size : Int) == (3 : Int) then idxS_pre s true ∧ R (some (V.kn (Value.bool !decide (badU s ≥ (0 : Int))))) else R (some (V.kn (Value.bool false)))) := by kernel_rfl
theorem mCur_ok (s : ByteArray) (hp : mCur_pre s) (good : Cfg → Prop) (hstep : ∀ c, arun Try.prog (conOf [(112, lift GidxS)]) (0, []) good (RetO (Tells (mCur_val s))) 400 (c) → good c) (hext : ∀ c c', CfgExt c c' → good c' → good c) (hle : ∀ c c', CfgLe 0 c c' → good c' → good c) : arun Try.prog (conOf [(112, lift GidxS)]) (0, []) good (RetO (Tells (mCur_val s))) 400 (entry Try.prog 61 [.kn (.string s)]) := by
  rw [mCur_res]
  have hneg := neg_badU s
  refine cond_intro (fun h1 => ⟨rfl, tell_bool ?_⟩) (fun h1 => tell_bool ?_)
  all_goals unfold curB
  all_goals simp only [Bool.not_eq_true', Bool.not_eq_false', beq_iff_eq, beq_eq_false_iff_ne, ne_eq, decide_eq_true_eq, decide_eq_false_iff_not] at *
  all_goals rw [Bool.eq_iff_iff]
  all_goals simp only [Bool.not_eq_true', decide_eq_true_eq, decide_eq_false_iff_not, Bool.false_eq_true, false_iff]
  all_goals omega
theorem mCur_con : SpecOK Try.prog 61 (lift GmCur) := by
  refine con_of_run3 (con := conOf [(112, lift GidxS)]) (hs := (0, [])) 400 Try.func61 rfl (by kernel_rfl) rfl (conCons idxS_con conNil) ?_
  intro args0 p r hG hp
  unfold GmCur at hG
  split at hG
  case h_2 => cases hG
  rename_i s
  cases hG
  exact ⟨[.kn (.string s)], ⟨VExt.refl _, trivial⟩, by simp [Try.ntmps61], fun good hstep hext hle => mCur_ok _ hp good hstep hext hle⟩
def rCur_pre (s : ByteArray) : Prop := s.size ≤ maxLen
noncomputable def rCur_val (s : ByteArray) : V := .kn (.bool (curB s))
noncomputable def GrCur : PSpec
  | [.kn (.string s)] => some (rCur_pre s, rCur_val s)
  | _ => none
theorem rCur_res (s : ByteArray) (good : Cfg → Prop) (R : Option V → Prop) : arun Try.prog (conOf []) (0, []) good (RetO (R)) 400 (entry Try.prog 31 [.kn (.string s)]) =
    (bif (↑s.size : Int) != (3 : Int) then R (some (V.kn (Value.bool false))) else ((0 : Int) ≤ (0 : Int) ∧ (0 : Int) < (↑s.size : Int)) ∧ bif decide ((↑(s.data.getD (0 : Nat) (OfNat.ofNat (0 : Nat))).toNat : Int) < (65 : Int)) then R (some (V.kn (Value.bool false))) else ((0 : Int) ≤ (0 : Int) ∧ (0 : Int) < (↑s.size : Int)) ∧ bif decide ((↑(s.data.getD (0 : Nat) (OfNat.ofNat (0 : Nat))).toNat : Int) > (90 : Int)) then R (some (V.kn (Value.bool false))) else ((0 : Int) ≤ (1 : Int) ∧ (1 : Int) < (↑s.size : Int)) ∧ bif decide ((↑(s.data.getD (1 : Nat) (OfNat.ofNat (0 : Nat))).toNat : Int) < (65 : Int)) then R (some (V.kn (Value.bool false))) else ((0 : Int) ≤ (1 : Int) ∧ (1 : Int) < (↑s.size : Int)) ∧ bif decide ((↑(s.data.getD (1 : Nat) (OfNat.ofNat (0 : Nat))).toNat : Int) > (90 : Int)) then R (some (V.kn (Value.bool false))) else ((0 : Int) ≤ (2 : Int) ∧ (2 : Int) < (↑s.size : Int)) ∧ bif decide ((↑(s.data.getD (2 : Nat) (OfNat.ofNat (0 : Nat))).toNat : Int) < (65 : Int)) then R (some (V.kn (Value.bool false))) else ((0 : Int) ≤ (2 : Int) ∧ (2 : Int) < (↑s.size : Int)) ∧ bif decide ((↑(s.data.getD (2 : Nat) (OfNat.ofNat (0 : Nat))).toNat : Int) > (90 : Int)) then R (some (V.kn (Value.bool false))) else R (some (V.kn (Value.bool true)))) := by kernel_rfl
theorem rCur_ok (s : ByteArray) (hp : rCur_pre s) (good : Cfg → Prop) (hstep : ∀ c, arun Try.prog (conOf []) (0, []) good (RetO (Tells (rCur_val s))) 400 (c) → good c) (hext : ∀ c c', CfgExt c c' → good c' → good c) (hle : ∀ c c', CfgLe 0 c c' → good c' → good c) : arun Try.prog (conOf []) (0, []) good (RetO (Tells (rCur_val s))) 400 (entry Try.prog 31 [.kn (.string s)]) := by
  rw [rCur_res]
  refine cond_intro (fun h0 => tell_bool ?_) (fun h0 => ?_)
  · have : ¬ s.size = 3 := by simp at h0; omega
    exact (decide_eq_false (fun h => this h.2)).symm
  have h3 : s.size = 3 := by simp at h0; omega
  have hb : ∀ i, byteI s i = (((s.data.getD i (OfNat.ofNat 0)).toNat : Nat) : Int) := fun i => rfl
  have e : curB s = (okU (byteI s 0) && (okU (byteI s 1) && okU (byteI s 2))) := by
    unfold curB badU
    rw [h3]
    simp only [bufF]
    cases okU (byteI s 0) <;> cases okU (byteI s 1) <;> cases okU (byteI s 2) <;> rfl
  have hval : rCur_val s = .kn (.bool (okU (byteI s 0) && (okU (byteI s 1) && okU (byteI s 2)))) := by rw [rCur_val, e]
  rw [hval]
  simp only [← hb]
  have no0 : okU (byteI s 0) = false → Tells (.kn (.bool (okU (byteI s 0) && (okU (byteI s 1) && okU (byteI s 2))))) (some (.kn (.bool false))) := fun h => tell_bool (by rw [h]; rfl)
  have no1 : okU (byteI s 1) = false → Tells (.kn (.bool (okU (byteI s 0) && (okU (byteI s 1) && okU (byteI s 2))))) (some (.kn (.bool false))) := fun h => tell_bool (by rw [h]; simp)
  have no2 : okU (byteI s 2) = false → Tells (.kn (.bool (okU (byteI s 0) && (okU (byteI s 1) && okU (byteI s 2))))) (some (.kn (.bool false))) := fun h => tell_bool (by rw [h]; simp)
  refine ⟨⟨by omega, by omega⟩, cond_intro (fun a => no0 (okU_not.2 (by have := of_decide_eq_true a; omega))) (fun a1 => ⟨⟨by omega, by omega⟩, cond_intro (fun a => no0 (okU_not.2 (by have := of_decide_eq_true a; omega))) (fun a2 => ⟨⟨by omega, by omega⟩,
    cond_intro (fun a => no1 (okU_not.2 (by have := of_decide_eq_true a; omega))) (fun b1 => ⟨⟨by omega, by omega⟩, cond_intro (fun a => no1 (okU_not.2 (by have := of_decide_eq_true a; omega))) (fun b2 => ⟨⟨by omega, by omega⟩,
    cond_intro (fun a => no2 (okU_not.2 (by have := of_decide_eq_true a; omega))) (fun d1 => ⟨⟨by omega, by omega⟩, cond_intro (fun a => no2 (okU_not.2 (by have := of_decide_eq_true a; omega))) (fun d2 => tell_bool ?_)⟩)⟩)⟩)⟩)⟩)⟩
  have := of_decide_eq_false a1; have := of_decide_eq_false a2; have := of_decide_eq_false b1; have := of_decide_eq_false b2; have := of_decide_eq_false d1; have := of_decide_eq_false d2
  rw [okU_iff.2 (by omega), okU_iff.2 (by omega), okU_iff.2 (by omega)]; rfl
theorem rCur_con : SpecOK Try.prog 31 (lift GrCur) := by
  refine con_of_run3 (con := conOf []) (hs := (0, [])) 400 Try.func31 rfl (by kernel_rfl) rfl conNil ?_
  intro args0 p r hG hp
  unfold GrCur at hG
  split at hG
  case h_2 => cases hG
  rename_i s
  cases hG
  exact ⟨[.kn (.string s)], ⟨VExt.refl _, trivial⟩, by simp [Try.ntmps31], fun good hstep hext hle => rCur_ok _ hp good hstep hext hle⟩
def lines_pre  (ls : List Line) : Prop := ls.length ≤ 70 ∧ ∀ x ∈ ls, eLine_wf x
noncomputable def lines_val  (ls : List Line) : V := .kn (.bool (bP (linesP ls)))
noncomputable def Glines : PSpec
  | [.list s_ls n_ls f_ls] => some (eLine.okl s_ls n_ls f_ls ∧ lines_pre (eLine.dl n_ls f_ls), lines_val (eLine.dl n_ls f_ls))
  | _ => none
theorem lines_res  (ls : List Line) (good : Cfg → Prop) (R : Option V → Prop) : arun Try.prog (conOf [(27, lift GmName)]) (0, [(29, 3, [0, 3, 7, 8, 9], [(0, 3, [])])]) good (RetO (R)) 400 (entry Try.prog 29 [.list eLine.s ls.length (eLine.tl ls)]) =
    (good { fr := { fn := (29 : Nat), nt := (51 : Nat), t := [((0 : Nat), V.list (3 : Nat) ls.length (eLine.tl ls)), ((3 : Nat), V.mp (0 : Nat)), ((7 : Nat), V.list (3 : Nat) ls.length (eLine.tl ls)), ((8 : Nat), V.kn (Value.int IntKind.i64 (↑ls.length : Int))), ((9 : Nat), V.kn (Value.int IntKind.i64 (0 : Int)))], k := loopK Try.prog (29 : Nat) (3 : Nat) }, cs := [], h := [O.map KK.str false (0 : Nat) [] (fun i => false) (fun i => []) (fun i => []) []] }) := by kernel_rfl
@[reducible] noncomputable def lines_c3 (ls : List Line) (n : Nat) (i : Int) : Cfg := ⟨⟨29, 51, [(0, .list eLine.s ls.length (eLine.tl ls)), (3, .mp 0), (7, .list eLine.s ls.length (eLine.tl ls)), (8, .kn (.int .i64 ls.length)), (9, .kn (.int .i64 i))], loopK Try.prog 29 3⟩, [], [.map .str false n [] (seenF ls i) (fun _ => [.kn (.bool true)]) (fun _ => []) []]⟩
theorem lines_l3 (ls : List Line) (n : Nat) (i : Int) (good : Cfg → Prop) (R : Option V → Prop) : arun Try.prog (conOf [(27, lift GmName)]) (0, [(29, 3, [0, 3, 7, 8, 9], [(0, 3, [])])]) good (RetO (R)) 400 (lines_c3 ls n i) =
    (bif decide (i < (↑ls.length : Int)) then ((0 : Int) ≤ i ∧ i < (↑ls.length : Int)) ∧ mName_pre (ls.getD i.toNat eLine.dflt).good ∧ bif !isName (ls.getD i.toNat eLine.dflt).good then R (some (V.kn (Value.bool false))) else bif seenF ls i (Value.string (ls.getD i.toNat eLine.dflt).good) then R (some (V.kn (Value.bool false))) else bif decide ((ls.getD i.toNat eLine.dflt).count ≥ (1 : Int)) then bif !decide ((ls.getD i.toNat eLine.dflt).count ≤ (1048576 : Int)) then R (some (V.kn (Value.bool false))) else bif decide ((ls.getD i.toNat eLine.dflt).price < (0 : Int)) then R (some (V.kn (Value.bool false))) else bif decide ((ls.getD i.toNat eLine.dflt).price > (1073741824 : Int)) then R (some (V.kn (Value.bool false))) else good { fr := { fn := (29 : Nat), nt := (51 : Nat), t := [((0 : Nat), V.list (3 : Nat) ls.length (eLine.tl ls)), ((3 : Nat), V.mp (0 : Nat)), ((7 : Nat), V.list (3 : Nat) ls.length (eLine.tl ls)), ((8 : Nat), V.kn (Value.int IntKind.i64 (↑ls.length : Int))), ((9 : Nat), V.kn (Value.int IntKind.i64 (IntKind.i64.wrap (i + (1 : Int)))))], k := loopK Try.prog (29 : Nat) (3 : Nat) }, cs := [], h := [O.map KK.str false (bif seenF ls i (Value.string (ls.getD i.toNat eLine.dflt).good) then n else n + (1 : Nat)) [(Value.string (ls.getD i.toNat eLine.dflt).good, some [V.kn (Value.bool true)])] (fun k => seenF ls i k) (fun i => [V.kn (Value.bool true)]) (fun i => []) []] } else R (some (V.kn (Value.bool false))) else bif decide ((↑ls.length : Int) ≥ (1 : Int)) then R (some (V.kn (Value.bool (decide ((↑ls.length : Int) ≤ (64 : Int)))))) else R (some (V.kn (Value.bool false)))) := by kernel_rfl
theorem lines_ok  (ls : List Line) (len_ls : ls.length ≤ maxLen) (hp : lines_pre ls) (good : Cfg → Prop) (hstep : ∀ c, arun Try.prog (conOf [(27, lift GmName)]) (0, [(29, 3, [0, 3, 7, 8, 9], [(0, 3, [])])]) good (RetO (Tells (lines_val ls))) 400 (c) → good c) (hext : ∀ c c', CfgExt c c' → good c' → good c) (hle : ∀ c c', CfgLe 0 c c' → good c' → good c) : arun Try.prog (conOf [(27, lift GmName)]) (0, [(29, 3, [0, 3, 7, 8, 9], [(0, 3, [])])]) good (RetO (Tells (lines_val ls))) 400 (entry Try.prog 29 [.list eLine.s ls.length (eLine.tl ls)]) := by
  rw [lines_res]
  obtain ⟨hl, hw⟩ := hp
  have hmx : maxLen = 9223372036854775807 := rfl
  refine hle _ _ (map_same 0 (kd := .str) (ag := false) (n := 0) (its := []) (has' := seenF ls 0) (get' := fun _ => [.kn (.bool true)]) (sub' := fun _ => []) rfl (fun k hk => rfl) (fun k hk hh => by cases hh)) ?_
  refine foreach (S := Nat) ls (fun i _ => ∀ j, j < i → lineAt ls j) (fun i n => lines_c3 ls n i) (fun i n hi hv ih => ?_) (fun n hv => ?_) 0 (fun j hj => by omega)
  · apply hstep
    rw [lines_l3]
    have e1 : (i : Int).toNat = i := by omega
    rw [e1, wrap_succ hi len_ls, getD_at _ hi]
    have hno : ¬ lineAt ls i → Tells (lines_val ls) (some (.kn (.bool false))) := fun h => tell_false fun hh => h (hh.1 i hi)
    have hx : ls.getD i eLine.dflt = ls[i] := getD_at _ hi
    have hsn : seenF ls (i : Int) (.string ls[i].good) = seenB (ls.take i) ls[i].good := by unfold seenF; rw [e1]; rfl
    have hwf := hw _ (List.getElem_mem hi)
    refine cond_true' (decide_eq_true (by omega)) ⟨⟨by omega, by omega⟩, hwf.1, cond_intro (fun a1 => hno fun h => ?_) (fun a1 => cond_intro (fun a2 => hno fun h => ?_) (fun a2 => cond_intro (fun a3 => cond_intro (fun a4 => hno fun h => ?_) (fun a4 => cond_intro (fun a5 => hno fun h => ?_) (fun a5 => cond_intro (fun a6 => hno fun h => ?_) (fun a6 => ?_)))) (fun a3 => hno fun h => ?_)))⟩
    · have := h.1.1; rw [hx] at this; rw [this] at a1; cases a1
    · have := h.2; rw [hx, ← hsn, a2] at this; cases this
    · have := h.1.2.2.1; rw [hx] at this; simp at a4; omega
    · have := h.1.2.2.2.1; rw [hx] at this; have := of_decide_eq_true a5; omega
    · have := h.1.2.2.2.2; rw [hx] at this; have := of_decide_eq_true a6; omega
    · have hat : lineAt ls i := by
        unfold lineAt lineOK
        rw [hx, ← hsn]
        exact ⟨⟨by simpa using a1, of_decide_eq_true a3, by simpa using a4, by have := of_decide_eq_false a5; omega, by have := of_decide_eq_false a6; omega⟩, a2⟩
      refine hle _ _ (fold_one 0 (kd := .str) (ag := false) (its := []) (k0 := .string ls[i].good) (cs0 := [.kn (.bool true)]) (has' := seenF ls ((i + 1 : Nat) : Int)) (get' := fun _ => [.kn (.bool true)]) (sub' := fun _ => []) [] rfl rfl (fun k => rfl) (fun k hk => ?_) (fun k hk hq hh => ⟨rfl, rfl⟩) ⟨rfl, rfl, fun j q so hj => by simp at hj⟩ rfl (by simp)) ?_
      · cases k <;> first | cases hk | skip
        rename_i s
        show seenB (ls.take _) s = (s == ls[i].good || seenF ls i (.string s))
        unfold seenF
        rw [e1, show (((i + 1 : Nat) : Int)).toNat = i + 1 by omega, seen_snoc hi]; rfl
      · exact ih _ (fun j hj => by
          by_cases e : j = i
          · subst e; exact hat
          · exact hv j (by omega))
    · have := h.1.2.1; rw [hx] at this; have := of_decide_eq_false a3; omega
  · apply hstep
    rw [lines_l3]
    refine cond_false' (decide_eq_false (by omega)) (cond_intro (fun a1 => tell_iff ?_) (fun a1 => tell_false fun h => ?_))
    · rw [decide_eq_true_eq]
      have := of_decide_eq_true a1
      exact ⟨fun h => ⟨fun j hj => hv j hj, by omega, by omega⟩, fun h => by have := h.2.2; omega⟩
    · have := h.2.1; have := of_decide_eq_false a1; omega
theorem lines_con : SpecOK Try.prog 29 (lift Glines) := by
  refine con_of_run3 (con := conOf [(27, lift GmName)]) (hs := (0, [(29, 3, [0, 3, 7, 8, 9], [(0, 3, [])])])) 400 Try.func29 rfl (by kernel_rfl) rfl (conCons mName_con conNil) ?_
  intro args0 p r hG hp
  unfold Glines at hG
  split at hG
  case h_2 => cases hG
  rename_i s_ls n_ls f_ls
  cases hG
  obtain ⟨ok_ls, hp⟩ := hp
  exact ⟨[.list eLine.s (eLine.dl n_ls f_ls).length (eLine.tl (eLine.dl n_ls f_ls))], ⟨eLine.extl ok_ls, trivial⟩, by simp [Try.ntmps29], fun good hstep hext hle => lines_ok _ (by rw [eLine.dl_length]; exact ok_ls.2.1) hp good hstep hext hle⟩
def Find_pre (g : ByteArray) (ls : List Line) : Prop := True
noncomputable def Find_val (g : ByteArray) (ls : List Line) : V := .kn (.int .i64 (findL ls g))
noncomputable def GFind : PSpec
  | [.list s_ls n_ls f_ls, .kn (.string g)] => some (eLine.okl s_ls n_ls f_ls ∧ Find_pre g (eLine.dl n_ls f_ls), Find_val g (eLine.dl n_ls f_ls))
  | _ => none
theorem Find_res (g : ByteArray) (ls : List Line) (good : Cfg → Prop) (R : Option V → Prop) : arun Try.prog (conOf []) (0, [(32, 2, [0, 1, 5], [])]) good (RetO (R)) 400 (entry Try.prog 32 [.list eLine.s ls.length (eLine.tl ls), .kn (.string g)]) =
    (good { fr := { fn := (32 : Nat), nt := (20 : Nat), t := [((0 : Nat), V.list (3 : Nat) ls.length (eLine.tl ls)), ((1 : Nat), V.kn (Value.string g)), ((5 : Nat), V.kn (Value.int IntKind.i64 (0 : Int)))], k := loopK Try.prog (32 : Nat) (2 : Nat) }, cs := [], h := [] }) := by kernel_rfl
@[reducible] noncomputable def Find_c2 (g : ByteArray) (ls : List Line) (i : Int) : Cfg := ⟨⟨32, 20, [(0, .list eLine.s ls.length (eLine.tl ls)), (1, .kn (.string g)), (5, .kn (.int .i64 i))], loopK Try.prog 32 2⟩, [], []⟩
theorem Find_l2 (g : ByteArray) (ls : List Line) (i : Int) (good : Cfg → Prop) (R : Option V → Prop) : arun Try.prog (conOf []) (0, [(32, 2, [0, 1, 5], [])]) good (RetO (R)) 400 (Find_c2 g ls i) =
    (bif decide (i < (↑ls.length : Int)) then ((0 : Int) ≤ i ∧ i < (↑ls.length : Int)) ∧ bif (ls.getD i.toNat eLine.dflt).good.toList == g.toList then R (some (V.kn (Value.int IntKind.i64 i))) else good { fr := { fn := (32 : Nat), nt := (20 : Nat), t := [((0 : Nat), V.list (3 : Nat) ls.length (eLine.tl ls)), ((1 : Nat), V.kn (Value.string g)), ((5 : Nat), V.kn (Value.int IntKind.i64 (IntKind.i64.wrap (i + (1 : Int)))))], k := loopK Try.prog (32 : Nat) (2 : Nat) }, cs := [], h := [] } else R (some (V.kn (Value.int IntKind.i64 (-1 : Int))))) := by kernel_rfl
theorem Find_ok (g : ByteArray) (ls : List Line) (len_ls : ls.length ≤ maxLen) (hp : Find_pre g ls) (good : Cfg → Prop) (hstep : ∀ c, arun Try.prog (conOf []) (0, [(32, 2, [0, 1, 5], [])]) good (RetO (Tells (Find_val g ls))) 400 (c) → good c) (hext : ∀ c c', CfgExt c c' → good c' → good c) (hle : ∀ c c', CfgLe 0 c c' → good c' → good c) : arun Try.prog (conOf []) (0, [(32, 2, [0, 1, 5], [])]) good (RetO (Tells (Find_val g ls))) 400 (entry Try.prog 32 [.list eLine.s ls.length (eLine.tl ls), .kn (.string g)]) := by
  rw [Find_res]
  refine foreach ls (fun i (_ : Unit) => ∀ j (hj : j < ls.length), j < i → ¬ ls[j].good = g) (fun i _ => Find_c2 g ls i) (fun i _ hi hv ih => ?_) (fun _ hv => ?_) () (fun j hl hj => by omega)
  · apply hstep
    rw [Find_l2]
    have e1 : (i : Int).toNat = i := by omega
    rw [e1, wrap_succ hi len_ls, getD_at _ hi]
    refine cond_true' (decide_eq_true (by omega)) ⟨⟨by omega, by omega⟩, cond_intro (fun h => tell ?_) (fun h => ih () (fun j hl hj => ?_))⟩
    · rw [Find_val, findL, idxP_hit hi (fun j hj hji => hv j hj hji) (list_eq h)]
    · by_cases hji : j = i
      · subst hji; exact list_ne h
      · exact hv j hl (by omega)
  · apply hstep
    rw [Find_l2]
    exact cond_false' (decide_eq_false (by omega)) (tell (by rw [Find_val, findL, idxP_miss (fun i hi => hv i hi hi)]))
theorem Find_con : SpecOK Try.prog 32 (lift GFind) := by
  refine con_of_run3 (con := conOf []) (hs := (0, [(32, 2, [0, 1, 5], [])])) 400 Try.func32 rfl (by kernel_rfl) rfl conNil ?_
  intro args0 p r hG hp
  unfold GFind at hG
  split at hG
  case h_2 => cases hG
  rename_i s_ls n_ls f_ls g
  cases hG
  obtain ⟨ok_ls, hp⟩ := hp
  exact ⟨[.list eLine.s (eLine.dl n_ls f_ls).length (eLine.tl (eLine.dl n_ls f_ls)), .kn (.string g)], ⟨eLine.extl ok_ls, VExt.refl _, trivial⟩, by simp [Try.ntmps32], fun good hstep hext hle => Find_ok _ _ (by rw [eLine.dl_length]; exact ok_ls.2.1) hp good hstep hext hle⟩
noncomputable def mayB (no se bu cu fr tw : ByteArray) (te : Int) (ls : List Line) : Bool := isName no && (isName se && (isName bu && (isName fr && (isName tw && (!(se.toList == bu.toList) && (curB cu && (decide (0 ≤ te) && (decide (te ≤ 7) && bP (linesP ls)))))))))

def oMay_pre (no se bu cu fr tw : ByteArray) (te : Int) (ls : List Line) : Prop := no.size ≤ maxLen ∧ se.size ≤ maxLen ∧ bu.size ≤ maxLen ∧ cu.size ≤ maxLen ∧ fr.size ≤ maxLen ∧ tw.size ≤ maxLen ∧ ls.length ≤ 70 ∧ ∀ x ∈ ls, eLine_wf x
noncomputable def oMay_val (no se bu cu fr tw : ByteArray) (te : Int) (ls : List Line) : V := .kn (.bool (mayB no se bu cu fr tw te ls))
noncomputable def GoMay : PSpec
  | [.agg [.kn (.string no), .kn (.string se), .kn (.string bu), .kn (.string cu), .kn (.string fr), .kn (.string tw), .kn (.int .i64 te), .list s_ls n_ls f_ls]] => some (eLine.okl s_ls n_ls f_ls ∧ oMay_pre no se bu cu fr tw te (eLine.dl n_ls f_ls), oMay_val no se bu cu fr tw te (eLine.dl n_ls f_ls))
  | _ => none
theorem oMay_res (no se bu cu fr tw : ByteArray) (te : Int) (ls : List Line) (good : Cfg → Prop) (R : Option V → Prop) : arun Try.prog (conOf [(27, lift GmName), (61, lift GmCur), (29, lift Glines)]) (0, []) good (RetO (R)) 2000 (entry Try.prog 13 [.agg [.kn (.string no), .kn (.string se), .kn (.string bu), .kn (.string cu), .kn (.string fr), .kn (.string tw), .kn (.int .i64 te), .list eLine.s ls.length (eLine.tl ls)]]) =
    (((0 : Int) ≤ (0 : Int) ∧ (0 : Int) < (5 : Int)) ∧ (0 : Nat) < (5 : Nat) ∧ mName_pre no ∧ bif !isName no then R (some (V.kn (Value.bool false))) else ((0 : Int) ≤ (1 : Int) ∧ (1 : Int) < (5 : Int)) ∧ (1 : Nat) < (5 : Nat) ∧ mName_pre se ∧ bif !isName se then R (some (V.kn (Value.bool false))) else ((0 : Int) ≤ (2 : Int) ∧ (2 : Int) < (5 : Int)) ∧ (2 : Nat) < (5 : Nat) ∧ mName_pre bu ∧ bif !isName bu then R (some (V.kn (Value.bool false))) else ((0 : Int) ≤ (3 : Int) ∧ (3 : Int) < (5 : Int)) ∧ (3 : Nat) < (5 : Nat) ∧ mName_pre fr ∧ bif !isName fr then R (some (V.kn (Value.bool false))) else ((0 : Int) ≤ (4 : Int) ∧ (4 : Int) < (5 : Int)) ∧ (4 : Nat) < (5 : Nat) ∧ mName_pre tw ∧ bif !isName tw then R (some (V.kn (Value.bool false))) else bif !se.toList == bu.toList then mCur_pre cu ∧ bif curB cu then bif decide (te ≥ (0 : Int)) then bif decide (te ≤ (7 : Int)) then (eLine.okl (3 : Nat) ls.length (eLine.tl ls) ∧ lines_pre (eLine.dl ls.length (eLine.tl ls))) ∧ R (some (V.kn (Value.bool (bP (linesP (eLine.dl ls.length (eLine.tl ls))))))) else R (some (V.kn (Value.bool false))) else R (some (V.kn (Value.bool false))) else R (some (V.kn (Value.bool false))) else R (some (V.kn (Value.bool false)))) := by kernel_rfl
theorem oMay_ok (no se bu cu fr tw : ByteArray) (te : Int) (ls : List Line) (len_ls : ls.length ≤ maxLen) (hp : oMay_pre no se bu cu fr tw te ls) (good : Cfg → Prop) (hstep : ∀ c, arun Try.prog (conOf [(27, lift GmName), (61, lift GmCur), (29, lift Glines)]) (0, []) good (RetO (Tells (oMay_val no se bu cu fr tw te ls))) 2000 (c) → good c) (hext : ∀ c c', CfgExt c c' → good c' → good c) (hle : ∀ c c', CfgLe 0 c c' → good c' → good c) : arun Try.prog (conOf [(27, lift GmName), (61, lift GmCur), (29, lift Glines)]) (0, []) good (RetO (Tells (oMay_val no se bu cu fr tw te ls))) 2000 (entry Try.prog 13 [.agg [.kn (.string no), .kn (.string se), .kn (.string bu), .kn (.string cu), .kn (.string fr), .kn (.string tw), .kn (.int .i64 te), .list eLine.s ls.length (eLine.tl ls)]]) := by
  rw [oMay_res]
  obtain ⟨p1, p2, p3, p4, p5, p6, hl, hw⟩ := hp
  have ok := eLine.okl_tl len_ls
  have hlp : lines_pre ls := ⟨hl, hw⟩
  simp only [eLine.dl_tl]
  repeat' first | exact p1 | exact p2 | exact p3 | exact p4 | exact p5 | exact p6 | exact ok | exact hlp | exact trivial | refine And.intro ?_ ?_ | refine cond_intro (fun h => ?_) (fun h => ?_) | omega
  all_goals refine tell_bool ?_
  all_goals unfold mayB
  all_goals simp_all
  all_goals intros
  all_goals omega
theorem oMay_con : SpecOK Try.prog 13 (lift GoMay) := by
  refine con_of_run3 (con := conOf [(27, lift GmName), (61, lift GmCur), (29, lift Glines)]) (hs := (0, [])) 2000 Try.func13 rfl (by kernel_rfl) rfl (conCons mName_con (conCons mCur_con (conCons lines_con conNil))) ?_
  intro args0 p r hG hp
  unfold GoMay at hG
  split at hG
  case h_2 => cases hG
  rename_i no se bu cu fr tw te s_ls n_ls f_ls
  cases hG
  obtain ⟨ok_ls, hp⟩ := hp
  exact ⟨[.agg [.kn (.string no), .kn (.string se), .kn (.string bu), .kn (.string cu), .kn (.string fr), .kn (.string tw), .kn (.int .i64 te), .list eLine.s (eLine.dl n_ls f_ls).length (eLine.tl (eLine.dl n_ls f_ls))]], ⟨VExt.agg ⟨VExt.refl _, VExt.refl _, VExt.refl _, VExt.refl _, VExt.refl _, VExt.refl _, VExt.refl _, eLine.extl ok_ls, trivial⟩, trivial⟩, by simp [Try.ntmps13], fun good hstep hext hle => oMay_ok _ _ _ _ _ _ _ _ (by rw [eLine.dl_length]; exact ok_ls.2.1) hp good hstep hext hle⟩
def rMay_pre (no se bu cu fr tw : ByteArray) (te : Int) (ls : List Line) : Prop := no.size ≤ maxLen ∧ se.size ≤ maxLen ∧ bu.size ≤ maxLen ∧ cu.size ≤ maxLen ∧ fr.size ≤ maxLen ∧ tw.size ≤ maxLen ∧ ls.length ≤ 70 ∧ ∀ x ∈ ls, eLine_wf x
noncomputable def rMay_val (no se bu cu fr tw : ByteArray) (te : Int) (ls : List Line) : V := .kn (.bool (mayB no se bu cu fr tw te ls))
noncomputable def GrMay : PSpec
  | [.agg [.kn (.string no), .kn (.string se), .kn (.string bu), .kn (.string cu), .kn (.string fr), .kn (.string tw), .kn (.int .i64 te), .list s_ls n_ls f_ls]] => some (eLine.okl s_ls n_ls f_ls ∧ rMay_pre no se bu cu fr tw te (eLine.dl n_ls f_ls), rMay_val no se bu cu fr tw te (eLine.dl n_ls f_ls))
  | _ => none
theorem rMay_res (no se bu cu fr tw : ByteArray) (te : Int) (ls : List Line) (good : Cfg → Prop) (R : Option V → Prop) : arun Try.prog (conOf [(30, lift GrName), (31, lift GrCur), (32, lift GFind)]) (0, [(14, 10, [1, 5], [(0, 1, [])])]) good (RetO (R)) 2000 (entry Try.prog 14 [.agg [.kn (.string no), .kn (.string se), .kn (.string bu), .kn (.string cu), .kn (.string fr), .kn (.string tw), .kn (.int .i64 te), .list eLine.s ls.length (eLine.tl ls)]]) =
    (((0 : Int) ≤ (0 : Int) ∧ (0 : Int) < (5 : Int)) ∧ (0 : Nat) < (5 : Nat) ∧ rName_pre no ∧ bif !isName no then R (some (V.kn (Value.bool false))) else ((0 : Int) ≤ (1 : Int) ∧ (1 : Int) < (5 : Int)) ∧ (1 : Nat) < (5 : Nat) ∧ rName_pre se ∧ bif !isName se then R (some (V.kn (Value.bool false))) else ((0 : Int) ≤ (2 : Int) ∧ (2 : Int) < (5 : Int)) ∧ (2 : Nat) < (5 : Nat) ∧ rName_pre bu ∧ bif !isName bu then R (some (V.kn (Value.bool false))) else ((0 : Int) ≤ (3 : Int) ∧ (3 : Int) < (5 : Int)) ∧ (3 : Nat) < (5 : Nat) ∧ rName_pre fr ∧ bif !isName fr then R (some (V.kn (Value.bool false))) else ((0 : Int) ≤ (4 : Int) ∧ (4 : Int) < (5 : Int)) ∧ (4 : Nat) < (5 : Nat) ∧ rName_pre tw ∧ bif !isName tw then R (some (V.kn (Value.bool false))) else bif se.toList == bu.toList then R (some (V.kn (Value.bool false))) else rCur_pre cu ∧ bif !curB cu then R (some (V.kn (Value.bool false))) else bif decide (te < (0 : Int)) then R (some (V.kn (Value.bool false))) else bif decide (te > (7 : Int)) then R (some (V.kn (Value.bool false))) else bif decide ((↑ls.length : Int) < (1 : Int)) then R (some (V.kn (Value.bool false))) else bif decide ((↑ls.length : Int) > (64 : Int)) then R (some (V.kn (Value.bool false))) else good { fr := { fn := (14 : Nat), nt := (109 : Nat), t := [((1 : Nat), V.ptr (0 : Nat) (0 : Nat)), ((5 : Nat), V.kn (Value.int IntKind.i64 (0 : Int)))], k := loopK Try.prog (14 : Nat) (10 : Nat) }, cs := [], h := [O.cells [V.kn (Value.string no), V.kn (Value.string se), V.kn (Value.string bu), V.kn (Value.string cu), V.kn (Value.string fr), V.kn (Value.string tw), V.kn (Value.int IntKind.i64 te), V.list (3 : Nat) ls.length (eLine.tl ls)]] }) := by kernel_rfl
@[reducible] noncomputable def rMay_c10 (no se bu cu fr tw : ByteArray) (te : Int) (ls : List Line) (i : Int) : Cfg := ⟨⟨14, 109, [(1, .ptr 0 0), (5, .kn (.int .i64 i))], loopK Try.prog 14 10⟩, [], [.cells [.kn (.string no), .kn (.string se), .kn (.string bu), .kn (.string cu), .kn (.string fr), .kn (.string tw), .kn (.int .i64 te), .list eLine.s ls.length (eLine.tl ls)]]⟩
theorem rMay_l10 (no se bu cu fr tw : ByteArray) (te : Int) (ls : List Line) (i : Int) (good : Cfg → Prop) (R : Option V → Prop) : arun Try.prog (conOf [(30, lift GrName), (31, lift GrCur), (32, lift GFind)]) (0, [(14, 10, [1, 5], [(0, 1, [])])]) good (RetO (R)) 2000 (rMay_c10 no se bu cu fr tw te ls i) =
    (bif decide (i < (↑ls.length : Int)) then ((0 : Int) ≤ i ∧ i < (↑ls.length : Int)) ∧ rName_pre (ls.getD i.toNat eLine.dflt).good ∧ bif !isName (ls.getD i.toNat eLine.dflt).good then R (some (V.kn (Value.bool false))) else ((0 : Int) ≤ (0 : Int) ∧ (0 : Int) ≤ i ∧ i ≤ (↑ls.length : Int)) ∧ (eLine.okl (3 : Nat) (i.toNat - (0 : Nat)) (partF (0 : Nat) (eLine.tl ls)) ∧ Find_pre (ls.getD i.toNat eLine.dflt).good (eLine.dl (i.toNat - (0 : Nat)) (partF (0 : Nat) (eLine.tl ls)))) ∧ bif decide (findL (eLine.dl (i.toNat - (0 : Nat)) (partF (0 : Nat) (eLine.tl ls))) (ls.getD i.toNat eLine.dflt).good ≥ (0 : Int)) then R (some (V.kn (Value.bool false))) else bif decide ((ls.getD i.toNat eLine.dflt).count < (1 : Int)) then R (some (V.kn (Value.bool false))) else bif decide ((ls.getD i.toNat eLine.dflt).count > (1048576 : Int)) then R (some (V.kn (Value.bool false))) else bif decide ((ls.getD i.toNat eLine.dflt).price < (0 : Int)) then R (some (V.kn (Value.bool false))) else bif decide ((ls.getD i.toNat eLine.dflt).price > (1073741824 : Int)) then R (some (V.kn (Value.bool false))) else good { fr := { fn := (14 : Nat), nt := (109 : Nat), t := [((1 : Nat), V.ptr (0 : Nat) (0 : Nat)), ((5 : Nat), V.kn (Value.int IntKind.i64 (IntKind.i64.wrap (i + (1 : Int)))))], k := loopK Try.prog (14 : Nat) (10 : Nat) }, cs := [], h := [O.cells [V.kn (Value.string no), V.kn (Value.string se), V.kn (Value.string bu), V.kn (Value.string cu), V.kn (Value.string fr), V.kn (Value.string tw), V.kn (Value.int IntKind.i64 te), V.list (3 : Nat) ls.length (eLine.tl ls)]] } else R (some (V.kn (Value.bool true)))) := by kernel_rfl
theorem rMay_ok (no se bu cu fr tw : ByteArray) (te : Int) (ls : List Line) (len_ls : ls.length ≤ maxLen) (hp : rMay_pre no se bu cu fr tw te ls) (good : Cfg → Prop) (hstep : ∀ c, arun Try.prog (conOf [(30, lift GrName), (31, lift GrCur), (32, lift GFind)]) (0, [(14, 10, [1, 5], [(0, 1, [])])]) good (RetO (Tells (rMay_val no se bu cu fr tw te ls))) 2000 (c) → good c) (hext : ∀ c c', CfgExt c c' → good c' → good c) (hle : ∀ c c', CfgLe 0 c c' → good c' → good c) : arun Try.prog (conOf [(30, lift GrName), (31, lift GrCur), (32, lift GFind)]) (0, [(14, 10, [1, 5], [(0, 1, [])])]) good (RetO (Tells (rMay_val no se bu cu fr tw te ls))) 2000 (entry Try.prog 14 [.agg [.kn (.string no), .kn (.string se), .kn (.string bu), .kn (.string cu), .kn (.string fr), .kn (.string tw), .kn (.int .i64 te), .list eLine.s ls.length (eLine.tl ls)]]) := by
  rw [rMay_res]
  obtain ⟨p1, p2, p3, p4, p5, p6, hl, hw⟩ := hp
  have hmx : maxLen = 9223372036854775807 := rfl
  have loop : 1 ≤ ls.length → ls.length ≤ 64 → mayB no se bu cu fr tw te ls = bP (linesP ls) → good (rMay_c10 no se bu cu fr tw te ls 0) := fun g1 g2 hM => by
    have hv0 : rMay_val no se bu cu fr tw te ls = .kn (.bool (bP (linesP ls))) := by rw [rMay_val, hM]
    refine foreach ls (fun i (_ : Unit) => ∀ j, j < i → lineAt ls j) (fun i _ => rMay_c10 no se bu cu fr tw te ls i) (fun i _ hi hv ih => ?_) (fun _ hv => ?_) () (fun j hj => by omega)
    · apply hstep
      rw [rMay_l10, hv0]
      have e1 : (i : Int).toNat = i := by omega
      rw [e1, wrap_succ hi len_ls, getD_at _ hi, Nat.sub_zero]
      have hpt : eLine.is i (partF 0 (eLine.tl ls)) (ls.take i) := eLine.is_part (eLine.is_tl ls) 0 i (by omega)
      rw [eLine.is_dl hpt]
      have hwf := hw _ (List.getElem_mem hi)
      have hno : ¬ lineAt ls i → Tells (.kn (.bool (bP (linesP ls)))) (some (.kn (.bool false))) := fun h => tell_false fun hh => h (hh.1 i hi)
      have hx : ls.getD i eLine.dflt = ls[i] := getD_at _ hi
      have hsn : 0 ≤ findL (ls.take i) ls[i].good ↔ seenB (ls.take i) ls[i].good = true := by unfold findL; rw [idxP_nonneg, seen_iff]
      refine cond_true' (decide_eq_true (by omega)) ⟨⟨by omega, by omega⟩, hwf.1, cond_intro (fun a1 => hno fun h => ?_) (fun a1 => ⟨⟨by omega, by omega, by omega⟩, ⟨eLine.okl_is hpt (by omega), trivial⟩, cond_intro (fun a2 => hno fun h => ?_) (fun a2 => cond_intro (fun a3 => hno fun h => ?_) (fun a3 => cond_intro (fun a4 => hno fun h => ?_) (fun a4 => cond_intro (fun a5 => hno fun h => ?_) (fun a5 => cond_intro (fun a6 => hno fun h => ?_) (fun a6 => ?_)))))⟩)⟩
      · have := h.1.1; rw [hx] at this; rw [this] at a1; cases a1
      · have := h.2; rw [hx, hsn.1 (of_decide_eq_true a2)] at this; cases this
      · have := h.1.2.1; rw [hx] at this; have := of_decide_eq_true a3; omega
      · have := h.1.2.2.1; rw [hx] at this; have := of_decide_eq_true a4; omega
      · have := h.1.2.2.2.1; rw [hx] at this; have := of_decide_eq_true a5; omega
      · have := h.1.2.2.2.2; rw [hx] at this; have := of_decide_eq_true a6; omega
      · refine ih () (fun j hj => ?_)
        by_cases e : j = i
        · subst e
          unfold lineAt lineOK
          rw [hx]
          refine ⟨⟨by simpa using a1, by have := of_decide_eq_false a3; omega, by have := of_decide_eq_false a4; omega, by have := of_decide_eq_false a5; omega, by have := of_decide_eq_false a6; omega⟩, ?_⟩
          cases hq : seenB (ls.take j) ls[j].good with
          | false => rfl
          | true => exact (of_decide_eq_false a2 (hsn.2 hq)).elim
        · exact hv j (by omega)
    · apply hstep
      rw [rMay_l10, hv0]
      exact cond_false' (decide_eq_false (by omega)) (tell_true ⟨fun j hj => hv j hj, g1, g2⟩)
  have nolines : ¬ (1 ≤ ls.length ∧ ls.length ≤ 64) → bP (linesP ls) = false := fun h => bP_false fun hh => h ⟨hh.2.1, hh.2.2⟩
  repeat' first | exact p1 | exact p2 | exact p3 | exact p4 | exact p5 | exact p6 | exact trivial | refine And.intro ?_ ?_ | refine cond_intro (fun h => ?_) (fun h => ?_) | omega | refine loop ?_ ?_ ?_
  all_goals try refine tell_bool ?_
  all_goals first
    | (simp only [decide_eq_true_eq, decide_eq_false_iff_not] at *; omega)
    | (unfold mayB; simp_all; done)
    | (unfold mayB; simp_all; omega)
    | (unfold mayB; rw [nolines (by simp only [decide_eq_true_eq, decide_eq_false_iff_not] at *; omega)]; simp; done)
theorem rMay_con : SpecOK Try.prog 14 (lift GrMay) := by
  refine con_of_run3 (con := conOf [(30, lift GrName), (31, lift GrCur), (32, lift GFind)]) (hs := (0, [(14, 10, [1, 5], [(0, 1, [])])])) 2000 Try.func14 rfl (by kernel_rfl) rfl (conCons rName_con (conCons rCur_con (conCons Find_con conNil))) ?_
  intro args0 p r hG hp
  unfold GrMay at hG
  split at hG
  case h_2 => cases hG
  rename_i no se bu cu fr tw te s_ls n_ls f_ls
  cases hG
  obtain ⟨ok_ls, hp⟩ := hp
  exact ⟨[.agg [.kn (.string no), .kn (.string se), .kn (.string bu), .kn (.string cu), .kn (.string fr), .kn (.string tw), .kn (.int .i64 te), .list eLine.s (eLine.dl n_ls f_ls).length (eLine.tl (eLine.dl n_ls f_ls))]], ⟨VExt.agg ⟨VExt.refl _, VExt.refl _, VExt.refl _, VExt.refl _, VExt.refl _, VExt.refl _, VExt.refl _, eLine.extl ok_ls, trivial⟩, trivial⟩, by simp [Try.ntmps14], fun good hstep hext hle => rMay_ok _ _ _ _ _ _ _ _ (by rw [eLine.dl_length]; exact ok_ls.2.1) hp good hstep hext hle⟩
end Go.Proofs.Ytbedinfkepdobaa
