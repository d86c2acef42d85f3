/- What is proved: contracts of functions of one seat, each by the executor; written by a program of the prover (gen.py) and by hand. Conditions: each contract names its own. -/
import Derived.Test.YtgepkpajndlgeaaAw2
import Derived.Test.YtgepkpajndlgeaaProg
import Derived.KernelRfl
import Derived.IntWalk
import Derived.Laws.RangeString
import Derived.Laws.RangeAny
namespace Go.Proofs.Ytgepkpajndlgeaa
open Go Go.Aw Go.RowKit
set_option linter.unusedVariables false
set_option linter.unusedSimpArgs false
set_option maxRecDepth 10000
structure Hand where
  box : ByteArray
  src : ByteArray
  dst : ByteArray
  place : ByteArray
  day : Int
def eHand : Enc Hand where
  s := 5
  toV d := [.kn (.string d.box), .kn (.string d.src), .kn (.string d.dst), .kn (.string d.place), .kn (.int .i64 d.day)]
  ofV c := match c with | [x0, x1, x2, x3, x4] => ⟨vStr x0, vStr x1, vStr x2, vStr x3, vInt x4⟩ | _ => ⟨ByteArray.empty, ByteArray.empty, ByteArray.empty, ByteArray.empty, 0⟩
  dflt := ⟨ByteArray.empty, ByteArray.empty, ByteArray.empty, ByteArray.empty, 0⟩
  inv d := by rfl
  len d := rfl
def eHand_wf (d : Hand) : Prop := d.box.size ≤ maxLen ∧ d.src.size ≤ maxLen ∧ d.dst.size ≤ maxLen ∧ d.place.size ≤ maxLen ∧ inI64 d.day

def okC (c : Int) : Bool := decide (97 ≤ c ∧ c ≤ 122 ∨ 48 ≤ c ∧ c ≤ 57 ∨ c = 45)
def byteI (s : ByteArray) (i : Nat) : Int := ((s.data.getD i 0).toNat : Nat)
def badFrom (s : ByteArray) : Nat → Nat → Int
  | 0, _ => -1
  | k + 1, i => bif okC (byteI s i) then badFrom s k (i + 1) else (i : Int)
def badAt (s : ByteArray) : Int := badFrom s s.size 0
def isName (s : ByteArray) : Bool := decide (badAt s = -1 ∧ 1 ≤ s.size ∧ s.size ≤ 16)
noncomputable def idxP {α : Type} (p : α → Prop) (xs : List α) : Int := bif bP (∃ x ∈ xs, p x) then ((xs.findIdx fun x => bP (p x) : Nat) : Int) else -1


theorem idxP_miss {α : Type} {p : α → Prop} {xs : List α} (h : ∀ i (hi : i < xs.length), ¬ p xs[i]) : idxP p xs = -1 := by
  unfold idxP
  rw [bP_false (fun ⟨x, hx, hp⟩ => by obtain ⟨i, hi, rfl⟩ := List.getElem_of_mem hx; exact h i hi hp)]
  rfl
theorem idxP_hit {α : Type} {p : α → Prop} {xs : List α} {i : Nat} (hi : i < xs.length) (h : ∀ j (hj : j < xs.length), j < i → ¬ p xs[j]) (hp : p xs[i]) : idxP p xs = (i : Int) := by
  unfold idxP
  rw [bP_true ⟨_, List.getElem_mem hi, hp⟩]
  have : xs.findIdx (fun x => bP (p x)) = i := (List.findIdx_eq hi).2 ⟨bP_true hp, fun j hj => bP_false (h j (by omega) hj)⟩
  rw [this]
  rfl
theorem idxP_nonneg {α : Type} {p : α → Prop} {xs : List α} : 0 ≤ idxP p xs ↔ ∃ x ∈ xs, p x := by
  unfold idxP
  cases h : bP (∃ x ∈ xs, p x) with
  | true => simp [bP_iff.1 h]
  | false => simp [bP_not.1 h]
theorem okC_iff {c : Int} : okC c = true ↔ (97 ≤ c ∧ c ≤ 122 ∨ 48 ≤ c ∧ c ≤ 57 ∨ c = 45) := by simp [okC]
theorem okC_not {c : Int} : okC c = false ↔ ¬ (97 ≤ c ∧ c ≤ 122 ∨ 48 ≤ c ∧ c ≤ 57 ∨ c = 45) := by rw [← Bool.not_eq_true, okC_iff]
theorem bad_go {s : ByteArray} {i : Nat} (hi : i < s.size) (h : okC (byteI s i) = true) : badFrom s (s.size - i) i = badFrom s (s.size - (i + 1)) (i + 1) := by
  rw [show s.size - i = (s.size - (i + 1)) + 1 by omega, badFrom, h]; rfl
theorem bad_end {s : ByteArray} {i : Nat} (hi : i < s.size) (h : okC (byteI s i) = false) : badFrom s (s.size - i) i = (i : Int) := by
  rw [show s.size - i = (s.size - (i + 1)) + 1 by omega, badFrom, h]; rfl
theorem byte_get {s : ByteArray} {i : Nat} (hi : i < s.size) : byteI s i = ((s[i]'hi).toNat : Nat) := by
  unfold byteI
  have h2 : i < s.data.size := hi
  rw [Array.getD_eq_getD_getElem?, Array.getElem?_eq_getElem h2]
  rfl
theorem name_no {s : ByteArray} {i : Nat} (h : badAt s = (i : Int)) : isName s = false := by unfold isName; rw [h]; exact decide_eq_false (by omega)

def odd_pre (z : Int) : Prop := True
noncomputable def odd_val (z : Int) : V := .kn (.bool (!okC z))
noncomputable def Godd : PSpec
  | [.kn (.int .i32 z)] => some (odd_pre z, odd_val z)
  | _ => none
theorem odd_res (z : Int) (good : Cfg → Prop) (R : Option V → Prop) : arun Try.prog (conOf []) (0, []) good (RetO (R)) 400 (entry Try.prog 55 [.kn (.int .i32 z)]) =
    (bif decide (z < (97 : Int)) then bif decide (z < (48 : Int)) then R (some (V.kn (Value.bool (z != (45 : Int))))) else bif decide (z > (57 : Int)) then R (some (V.kn (Value.bool (z != (45 : Int))))) else R (some (V.kn (Value.bool false))) else bif decide (z > (122 : Int)) then bif decide (z < (48 : Int)) then R (some (V.kn (Value.bool (z != (45 : Int))))) else bif decide (z > (57 : Int)) then R (some (V.kn (Value.bool (z != (45 : Int))))) else R (some (V.kn (Value.bool false))) else R (some (V.kn (Value.bool false)))) := by kernel_rfl
theorem odd_ok (z : Int) (hp : odd_pre z) (good : Cfg → Prop) (hstep : ∀ c, arun Try.prog (conOf []) (0, []) good (RetO (Tells (odd_val z))) 400 (c) → good c) (hext : ∀ c c', CfgExt c c' → good c' → good c) (hle : ∀ c c', CfgLe 0 c c' → good c' → good c) : arun Try.prog (conOf []) (0, []) good (RetO (Tells (odd_val z))) 400 (entry Try.prog 55 [.kn (.int .i32 z)]) := by
  rw [odd_res]
  repeat' first | exact trivial | refine And.intro ?_ ?_ | refine cond_intro (fun h => ?_) (fun h => ?_)
  all_goals refine tell_bool ?_
  all_goals simp only [decide_eq_true_eq, decide_eq_false_iff_not] at *
  all_goals rw [Bool.eq_iff_iff]
  all_goals simp only [Bool.not_eq_true', okC_not, bne_iff_ne, ne_eq, Bool.false_eq_true, false_iff]
  all_goals omega
theorem odd_con : SpecOK Try.prog 55 (lift Godd) := by
  refine con_of_run3 (con := conOf []) (hs := (0, [])) 400 Try.func55 rfl (by kernel_rfl) rfl conNil ?_
  intro args0 p r hG hp
  unfold Godd at hG
  split at hG
  case h_2 => cases hG
  rename_i z
  cases hG
  exact ⟨[.kn (.int .i32 z)], ⟨VExt.refl _, trivial⟩, by simp [Try.ntmps55], fun good hstep hext hle => odd_ok _ hp good hstep hext hle⟩
def idxS_pre (s : ByteArray) (t : Bool) : Prop := t = true
noncomputable def idxS_val (s : ByteArray) (t : Bool) : V := .kn (.int .i64 (badAt s))
noncomputable def GidxS : PSpec
  | [.kn (.string s), .fn 55 [], .kn (.bool t)] => some (idxS_pre s t, idxS_val s t)
  | _ => none
theorem idxS_res (s : ByteArray) (t : Bool) (good : Cfg → Prop) (R : Option V → Prop) : arun Try.prog (conOf [(55, lift Godd)]) (0, [(75, 2, [1, 2, 10], [(0, 10, [])])]) good (RetO (R)) 400 (entry Try.prog 75 [.kn (.string s), .fn 55 [], .kn (.bool t)]) =
    (good { fr := { fn := (75 : Nat), nt := (21 : Nat), t := [((1 : Nat), V.fn (55 : Nat) []), ((2 : Nat), V.kn (Value.bool t)), ((10 : Nat), V.it (0 : Nat))], k := loopK Try.prog (75 : Nat) (2 : Nat) }, cs := [], h := [O.siter s (0 : Nat)] }) := by kernel_rfl
@[reducible] noncomputable def idxS_c2 (s : ByteArray) (t : Bool) (i : Nat) : Cfg := ⟨⟨75, 21, [(1, .fn 55 []), (2, .kn (.bool t)), (10, .it 0)], loopK Try.prog 75 2⟩, [], [.siter s i]⟩
theorem idxS_l2 (s : ByteArray) (t : Bool) (i : Nat) (good : Cfg → Prop) (R : Option V → Prop) : arun Try.prog (conOf [(55, lift Godd)]) (0, [(75, 2, [1, 2, 10], [(0, 10, [])])]) good (RetO (R)) 400 (idxS_c2 s t i) =
    (bif i.blt s.size then odd_pre (↑(Utf8.decode s i).fst : Int) ∧ bif (!okC (↑(Utf8.decode s i).fst : Int)) == t then R (some (V.kn (Value.int IntKind.i64 (↑i : Int)))) else good { fr := { fn := (75 : Nat), nt := (21 : Nat), t := [((1 : Nat), V.fn (55 : Nat) []), ((2 : Nat), V.kn (Value.bool t)), ((10 : Nat), V.it (0 : Nat))], k := loopK Try.prog (75 : Nat) (2 : Nat) }, cs := [], h := [O.siter s (i + (Utf8.decode s i).snd)] } else R (some (V.kn (Value.int IntKind.i64 (-1 : Int))))) := by kernel_rfl
theorem idxS_ok (s : ByteArray) (t : Bool) (hp : idxS_pre s t) (good : Cfg → Prop) (hstep : ∀ c, arun Try.prog (conOf [(55, lift Godd)]) (0, [(75, 2, [1, 2, 10], [(0, 10, [])])]) good (RetO (Tells (idxS_val s t))) 400 (c) → good c) (hext : ∀ c c', CfgExt c c' → good c' → good c) (hle : ∀ c c', CfgLe 0 c c' → good c' → good c) : arun Try.prog (conOf [(55, lift Godd)]) (0, [(75, 2, [1, 2, 10], [(0, 10, [])])]) good (RetO (Tells (idxS_val s t))) 400 (entry Try.prog 75 [.kn (.string s), .fn 55 [], .kn (.bool t)]) := by
  rw [idxS_res]
  unfold idxS_pre at hp
  subst hp
  refine loop_ind (S := Nat) (fun i => idxS_c2 s true i) (fun i => i ≤ s.size ∧ badFrom s (s.size - i) i = badAt s) (fun i => s.size - i) (fun i hv ih => ?_) 0 ⟨Nat.zero_le _, rfl⟩
  obtain ⟨v1, v2⟩ := hv
  apply hstep
  rw [idxS_l2]
  refine cond_intro (fun h1 => ?_) (fun h1 => ?_)
  · have hi : i < s.size := by simpa [Nat.blt_eq] using h1
    refine ⟨trivial, ?_⟩
    have hb := byte_get hi
    cases ho : okC (byteI s i) with
    | true =>
      have h2 := okC_iff.1 ho
      have hd := decode_ascii s i hi (by omega)
      rw [hd]
      refine cond_false' ?_ (ih (i + 1) ⟨hi, by rw [← bad_go hi ho]; exact v2⟩ (by omega))
      show ((!okC _) == true) = false
      rw [← hb, ho]; rfl
    | false =>
      have h2 := okC_not.1 ho
      have h3 : okC ((Utf8.decode s i).1 : Nat) = false := by
        by_cases hh : (s[i]'hi).toNat < 128
        · rw [decode_ascii s i hi hh, ← hb]; exact ho
        · have := (decode_high s i hi (by omega)).1
          rw [okC_not]; omega
      refine cond_true' ?_ (tell ?_)
      · rw [h3]; rfl
      · rw [idxS_val, ← v2, bad_end hi ho]
  · have hi : i = s.size := by
      have : ¬ i < s.size := fun hh => by rw [show i.blt s.size = true by simpa [Nat.blt_eq] using hh] at h1; cases h1
      omega
    refine tell ?_
    rw [idxS_val, ← v2, hi, Nat.sub_self]; rfl
theorem idxS_con : SpecOK Try.prog 75 (lift GidxS) := by
  refine con_of_run3 (con := conOf [(55, lift Godd)]) (hs := (0, [(75, 2, [1, 2, 10], [(0, 10, [])])])) 400 Try.func75 rfl (by kernel_rfl) rfl (conCons odd_con conNil) ?_
  intro args0 p r hG hp
  unfold GidxS at hG
  split at hG
  case h_2 => cases hG
  rename_i s t
  cases hG
  exact ⟨[.kn (.string s), .fn 55 [], .kn (.bool t)], ⟨VExt.refl _, VExt.refl _, VExt.refl _, trivial⟩, by simp [Try.ntmps75], fun good hstep hext hle => idxS_ok _ _ hp good hstep hext hle⟩
def nameP_pre (s : ByteArray) : Prop := True
noncomputable def nameP_val (s : ByteArray) : V := .kn (.bool (isName s))
noncomputable def GnameP : PSpec
  | [.kn (.string s)] => some (nameP_pre s, nameP_val s)
  | _ => none
theorem nameP_res (s : ByteArray) (good : Cfg → Prop) (R : Option V → Prop) : arun Try.prog (conOf [(75, lift GidxS)]) (0, []) good (RetO (R)) 400 (entry Try.prog 49 [.kn (.string s)]) =
    (bif !s.toList == [] then bif decide ((↑s.size : Int) ≤ (16 : Int)) then idxS_pre s true ∧ R (some (V.kn (Value.bool !decide (badAt s ≥ (0 : Int))))) else R (some (V.kn (Value.bool false))) else R (some (V.kn (Value.bool false)))) := by kernel_rfl
theorem nameP_ok (s : ByteArray) (hp : nameP_pre s) (good : Cfg → Prop) (hstep : ∀ c, arun Try.prog (conOf [(75, lift GidxS)]) (0, []) good (RetO (Tells (nameP_val s))) 400 (c) → good c) (hext : ∀ c c', CfgExt c c' → good c' → good c) (hle : ∀ c c', CfgLe 0 c c' → good c' → good c) : arun Try.prog (conOf [(75, lift GidxS)]) (0, []) good (RetO (Tells (nameP_val s))) 400 (entry Try.prog 49 [.kn (.string s)]) := by
  rw [nameP_res]
  have e0 : (s.toList == []) = decide (s.size = 0) := by
    rw [Bool.eq_iff_iff, decide_eq_true_eq, ByteArray.toList_eq]
    obtain ⟨⟨l⟩⟩ := s
    show (l == []) = true ↔ l.length = 0
    rw [beq_iff_eq]; exact List.length_eq_zero_iff.symm
  rw [e0]
  have hneg : badAt s = -1 ∨ 0 ≤ badAt s := by
    unfold badAt
    generalize s.size = k, 0 = i
    induction k generalizing i with
    | zero => exact .inl rfl
    | succ k ih =>
      unfold badFrom
      cases okC (byteI s i) with
      | true => exact ih (i + 1)
      | false => exact .inr (by simp)
  refine cond_intro (fun h1 => cond_intro (fun h2 => ⟨rfl, tell_bool ?_⟩) (fun h2 => tell_bool ?_)) (fun h1 => tell_bool ?_)
  all_goals unfold isName
  all_goals simp only [Bool.not_eq_true', Bool.not_eq_false', decide_eq_true_eq, decide_eq_false_iff_not] at *
  all_goals rw [Bool.eq_iff_iff]
  all_goals simp only [Bool.not_eq_true', decide_eq_true_eq, decide_eq_false_iff_not, Bool.false_eq_true, false_iff]
  all_goals omega
theorem nameP_con : SpecOK Try.prog 49 (lift GnameP) := by
  refine con_of_run3 (con := conOf [(75, lift GidxS)]) (hs := (0, [])) 400 Try.func49 rfl (by kernel_rfl) rfl (conCons idxS_con conNil) ?_
  intro args0 p r hG hp
  unfold GnameP at hG
  split at hG
  case h_2 => cases hG
  rename_i s
  cases hG
  exact ⟨[.kn (.string s)], ⟨VExt.refl _, trivial⟩, by simp [Try.ntmps49], fun good hstep hext hle => nameP_ok _ hp good hstep hext hle⟩
def rName_pre (s : ByteArray) : Prop := s.size ≤ maxLen
noncomputable def rName_val (s : ByteArray) : V := .kn (.bool (isName s))
noncomputable def GrName : PSpec
  | [.kn (.string s)] => some (rName_pre s, rName_val s)
  | _ => none
theorem rName_res (s : ByteArray) (good : Cfg → Prop) (R : Option V → Prop) : arun Try.prog (conOf []) (0, [(51, 2, [0, 3], [])]) good (RetO (R)) 400 (entry Try.prog 51 [.kn (.string s)]) =
    (good { fr := { fn := (51 : Nat), nt := (46 : Nat), t := [((0 : Nat), V.kn (Value.string s)), ((3 : Nat), V.kn (Value.int IntKind.i64 (0 : Int)))], k := loopK Try.prog (51 : Nat) (2 : Nat) }, cs := [], h := [] }) := by kernel_rfl
@[reducible] noncomputable def rName_c2 (s : ByteArray) (i : Int) : Cfg := ⟨⟨51, 46, [(0, .kn (.string s)), (3, .kn (.int .i64 i))], loopK Try.prog 51 2⟩, [], []⟩
theorem rName_l2 (s : ByteArray) (i : Int) (good : Cfg → Prop) (R : Option V → Prop) : arun Try.prog (conOf []) (0, [(51, 2, [0, 3], [])]) good (RetO (R)) 400 (rName_c2 s i) =
    (bif decide (i < (↑s.size : Int)) then ((0 : Int) ≤ i ∧ i < (↑s.size : Int)) ∧ bif decide ((↑(s.data.getD i.toNat (OfNat.ofNat (0 : Nat))).toNat : Int) < (97 : Int)) then ((0 : Int) ≤ i ∧ i < (↑s.size : Int)) ∧ bif decide ((↑(s.data.getD i.toNat (OfNat.ofNat (0 : Nat))).toNat : Int) < (48 : Int)) then ((0 : Int) ≤ i ∧ i < (↑s.size : Int)) ∧ bif (↑(s.data.getD i.toNat (OfNat.ofNat (0 : Nat))).toNat : Int) != (45 : Int) then R (some (V.kn (Value.bool false))) else good { fr := { fn := (51 : Nat), nt := (46 : Nat), t := [((0 : Nat), V.kn (Value.string s)), ((3 : Nat), V.kn (Value.int IntKind.i64 (IntKind.i64.wrap (i + (1 : Int)))))], k := loopK Try.prog (51 : Nat) (2 : Nat) }, cs := [], h := [] } else ((0 : Int) ≤ i ∧ i < (↑s.size : Int)) ∧ bif decide ((↑(s.data.getD i.toNat (OfNat.ofNat (0 : Nat))).toNat : Int) > (57 : Int)) then ((0 : Int) ≤ i ∧ i < (↑s.size : Int)) ∧ bif (↑(s.data.getD i.toNat (OfNat.ofNat (0 : Nat))).toNat : Int) != (45 : Int) then R (some (V.kn (Value.bool false))) else good { fr := { fn := (51 : Nat), nt := (46 : Nat), t := [((0 : Nat), V.kn (Value.string s)), ((3 : Nat), V.kn (Value.int IntKind.i64 (IntKind.i64.wrap (i + (1 : Int)))))], k := loopK Try.prog (51 : Nat) (2 : Nat) }, cs := [], h := [] } else good { fr := { fn := (51 : Nat), nt := (46 : Nat), t := [((0 : Nat), V.kn (Value.string s)), ((3 : Nat), V.kn (Value.int IntKind.i64 (IntKind.i64.wrap (i + (1 : Int)))))], k := loopK Try.prog (51 : Nat) (2 : Nat) }, cs := [], h := [] } else ((0 : Int) ≤ i ∧ i < (↑s.size : Int)) ∧ bif decide ((↑(s.data.getD i.toNat (OfNat.ofNat (0 : Nat))).toNat : Int) > (122 : Int)) then ((0 : Int) ≤ i ∧ i < (↑s.size : Int)) ∧ bif decide ((↑(s.data.getD i.toNat (OfNat.ofNat (0 : Nat))).toNat : Int) < (48 : Int)) then ((0 : Int) ≤ i ∧ i < (↑s.size : Int)) ∧ bif (↑(s.data.getD i.toNat (OfNat.ofNat (0 : Nat))).toNat : Int) != (45 : Int) then R (some (V.kn (Value.bool false))) else good { fr := { fn := (51 : Nat), nt := (46 : Nat), t := [((0 : Nat), V.kn (Value.string s)), ((3 : Nat), V.kn (Value.int IntKind.i64 (IntKind.i64.wrap (i + (1 : Int)))))], k := loopK Try.prog (51 : Nat) (2 : Nat) }, cs := [], h := [] } else ((0 : Int) ≤ i ∧ i < (↑s.size : Int)) ∧ bif decide ((↑(s.data.getD i.toNat (OfNat.ofNat (0 : Nat))).toNat : Int) > (57 : Int)) then ((0 : Int) ≤ i ∧ i < (↑s.size : Int)) ∧ bif (↑(s.data.getD i.toNat (OfNat.ofNat (0 : Nat))).toNat : Int) != (45 : Int) then R (some (V.kn (Value.bool false))) else good { fr := { fn := (51 : Nat), nt := (46 : Nat), t := [((0 : Nat), V.kn (Value.string s)), ((3 : Nat), V.kn (Value.int IntKind.i64 (IntKind.i64.wrap (i + (1 : Int)))))], k := loopK Try.prog (51 : Nat) (2 : Nat) }, cs := [], h := [] } else good { fr := { fn := (51 : Nat), nt := (46 : Nat), t := [((0 : Nat), V.kn (Value.string s)), ((3 : Nat), V.kn (Value.int IntKind.i64 (IntKind.i64.wrap (i + (1 : Int)))))], k := loopK Try.prog (51 : Nat) (2 : Nat) }, cs := [], h := [] } else good { fr := { fn := (51 : Nat), nt := (46 : Nat), t := [((0 : Nat), V.kn (Value.string s)), ((3 : Nat), V.kn (Value.int IntKind.i64 (IntKind.i64.wrap (i + (1 : Int)))))], k := loopK Try.prog (51 : Nat) (2 : Nat) }, cs := [], h := [] } else bif decide ((↑s.size : Int) ≥ (1 : Int)) then R (some (V.kn (Value.bool (decide ((↑s.size : Int) ≤ (16 : Int)))))) else R (some (V.kn (Value.bool false)))) := by kernel_rfl
theorem rName_ok (s : ByteArray) (hp : rName_pre s) (good : Cfg → Prop) (hstep : ∀ c, arun Try.prog (conOf []) (0, [(51, 2, [0, 3], [])]) good (RetO (Tells (rName_val s))) 400 (c) → good c) (hext : ∀ c c', CfgExt c c' → good c' → good c) (hle : ∀ c c', CfgLe 0 c c' → good c' → good c) : arun Try.prog (conOf []) (0, [(51, 2, [0, 3], [])]) good (RetO (Tells (rName_val s))) 400 (entry Try.prog 51 [.kn (.string s)]) := by
  rw [rName_res]
  have hm : s.size ≤ maxLen := hp
  have hmx : maxLen = 9223372036854775807 := rfl
  refine loop_ind (S := Nat) (fun i => rName_c2 s i) (fun i => i ≤ s.size ∧ badFrom s (s.size - i) i = badAt s) (fun i => s.size - i) (fun i hv ih => ?_) 0 ⟨Nat.zero_le _, rfl⟩
  obtain ⟨v1, v2⟩ := hv
  apply hstep
  rw [rName_l2]
  have e1 : (i : Int).toNat = i := by omega
  rw [e1]
  refine cond_intro (fun h1 => ?_) (fun h1 => ?_)
  · have hi : i < s.size := by simp only [decide_eq_true_eq] at h1; omega
    rw [wrap_succ hi hm]
    have hb : byteI s i = (((s.data.getD i (OfNat.ofNat 0)).toNat : Nat) : Int) := rfl
    generalize (((s.data.getD i (OfNat.ofNat 0)).toNat : Nat) : Int) = x at hb
    have go : okC x = true → good (rName_c2 s ((i + 1 : Nat) : Int)) := fun ho => ih (i + 1) ⟨hi, by rw [← bad_go hi (by rw [hb]; exact ho)]; exact v2⟩ (by omega)
    have no : okC x = false → Tells (rName_val s) (some (.kn (.bool false))) := fun ho => tell_bool (name_no (i := i) (by rw [← v2, bad_end hi (by rw [hb]; exact ho)])).symm
    have bnd : (0 : Int) ≤ i ∧ (i : Int) < s.size := ⟨by omega, by omega⟩
    repeat' first | exact bnd | refine And.intro bnd ?_ | refine cond_intro (fun h => ?_) (fun h => ?_)
    all_goals first | refine no (okC_not.2 ?_) | refine go (okC_iff.2 ?_)
    all_goals simp only [decide_eq_true_eq, decide_eq_false_iff_not, bne_iff_ne, ne_eq, bne_eq_false_iff_eq] at *
    all_goals omega
  · have hi : i = s.size := by simp only [decide_eq_false_iff_not] at h1; omega
    rw [hi, Nat.sub_self] at v2
    have hv : badAt s = -1 := v2.symm
    repeat' first | refine cond_intro (fun h => ?_) (fun h => ?_)
    all_goals refine tell_bool ?_
    all_goals unfold isName
    all_goals simp only [decide_eq_true_eq, decide_eq_false_iff_not] at *
    all_goals rw [hv, Bool.eq_iff_iff]
    all_goals simp
    all_goals omega
theorem rName_con : SpecOK Try.prog 51 (lift GrName) := by
  refine con_of_run3 (con := conOf []) (hs := (0, [(51, 2, [0, 3], [])])) 400 Try.func51 rfl (by kernel_rfl) rfl conNil ?_
  intro args0 p r hG hp
  unfold GrName at hG
  split at hG
  case h_2 => cases hG
  rename_i s
  cases hG
  exact ⟨[.kn (.string s)], ⟨VExt.refl _, trivial⟩, by simp [Try.ntmps51], fun good hstep hext hle => rName_ok _ hp good hstep hext hle⟩
def idxNo_pre  (xs : List ByteArray) : Prop := True
noncomputable def idxNo_val  (xs : List ByteArray) : V := .kn (.int .i64 (idxP (fun x => isName x = false) xs))
noncomputable def GidxNo : PSpec
  | [.list s_xs n_xs f_xs, .fn 48 []] => some (eStr.okl s_xs n_xs f_xs ∧ idxNo_pre (eStr.dl n_xs f_xs), idxNo_val (eStr.dl n_xs f_xs))
  | _ => none
theorem idxNo_res  (xs : List ByteArray) (good : Cfg → Prop) (R : Option V → Prop) : arun Try.prog (conOf [(49, lift GnameP)]) (0, [(50, 2, [0, 1, 7, 8], [])]) good (RetO (R)) 400 (entry Try.prog 50 [.list eStr.s xs.length (eStr.tl xs), .fn 48 []]) =
    (good { fr := { fn := (50 : Nat), nt := (19 : Nat), t := [((0 : Nat), V.list (1 : Nat) xs.length (eStr.tl xs)), ((1 : Nat), V.fn (48 : Nat) []), ((7 : Nat), V.kn (Value.int IntKind.i64 (↑xs.length : Int))), ((8 : Nat), V.kn (Value.int IntKind.i64 (0 : Int)))], k := loopK Try.prog (50 : Nat) (2 : Nat) }, cs := [], h := [] }) := by kernel_rfl
@[reducible] noncomputable def idxNo_c2 (xs : List ByteArray) (i : Int) : Cfg := ⟨⟨50, 19, [(0, .list eStr.s xs.length (eStr.tl xs)), (1, .fn 48 []), (7, .kn (.int .i64 xs.length)), (8, .kn (.int .i64 i))], loopK Try.prog 50 2⟩, [], []⟩
theorem idxNo_l2 (xs : List ByteArray) (i : Int) (good : Cfg → Prop) (R : Option V → Prop) : arun Try.prog (conOf [(49, lift GnameP)]) (0, [(50, 2, [0, 1, 7, 8], [])]) good (RetO (R)) 400 (idxNo_c2 xs i) =
    (bif decide (i < (↑xs.length : Int)) then ((0 : Int) ≤ i ∧ i < (↑xs.length : Int)) ∧ nameP_pre (xs.getD i.toNat eStr.dflt) ∧ bif !isName (xs.getD i.toNat eStr.dflt) then R (some (V.kn (Value.int IntKind.i64 i))) else good { fr := { fn := (50 : Nat), nt := (19 : Nat), t := [((0 : Nat), V.list (1 : Nat) xs.length (eStr.tl xs)), ((1 : Nat), V.fn (48 : Nat) []), ((7 : Nat), V.kn (Value.int IntKind.i64 (↑xs.length : Int))), ((8 : Nat), V.kn (Value.int IntKind.i64 (IntKind.i64.wrap (i + (1 : Int)))))], k := loopK Try.prog (50 : Nat) (2 : Nat) }, cs := [], h := [] } else R (some (V.kn (Value.int IntKind.i64 (-1 : Int))))) := by kernel_rfl
theorem idxNo_ok  (xs : List ByteArray) (len_xs : xs.length ≤ maxLen) (hp : idxNo_pre xs) (good : Cfg → Prop) (hstep : ∀ c, arun Try.prog (conOf [(49, lift GnameP)]) (0, [(50, 2, [0, 1, 7, 8], [])]) good (RetO (Tells (idxNo_val xs))) 400 (c) → good c) (hext : ∀ c c', CfgExt c c' → good c' → good c) (hle : ∀ c c', CfgLe 0 c c' → good c' → good c) : arun Try.prog (conOf [(49, lift GnameP)]) (0, [(50, 2, [0, 1, 7, 8], [])]) good (RetO (Tells (idxNo_val xs))) 400 (entry Try.prog 50 [.list eStr.s xs.length (eStr.tl xs), .fn 48 []]) := by
  rw [idxNo_res]
  refine foreach xs (fun i (_ : Unit) => ∀ j (hl : j < xs.length), j < i → ¬ isName xs[j] = false) (fun i _ => idxNo_c2 xs i) (fun i _ hi hv ih => ?_) (fun _ hv => ?_) () (fun j hl hj => by omega)
  · apply hstep
    rw [idxNo_l2]
    have e1 : (i : Int).toNat = i := by omega
    rw [e1, wrap_succ hi len_xs, getD_at _ hi]
    refine cond_true' (decide_eq_true (by omega)) ⟨⟨by omega, by omega⟩, trivial, cond_intro (fun h => ?_) (fun h => ih () (fun j hl hj => ?_))⟩
    · refine tell ?_
      rw [idxNo_val, idxP_hit (p := fun x => isName x = false) hi hv (by simpa using h)]
    · by_cases hji : j = i
      · subst hji; simpa using h
      · exact hv j hl (by omega)
  · apply hstep
    rw [idxNo_l2]
    refine cond_false' (decide_eq_false (by omega)) (tell ?_)
    rw [idxNo_val, idxP_miss fun j hl => hv j hl hl]
theorem idxNo_con : SpecOK Try.prog 50 (lift GidxNo) := by
  refine con_of_run3 (con := conOf [(49, lift GnameP)]) (hs := (0, [(50, 2, [0, 1, 7, 8], [])])) 400 Try.func50 rfl (by kernel_rfl) rfl (conCons nameP_con conNil) ?_
  intro args0 p r hG hp
  unfold GidxNo at hG
  split at hG
  case h_2 => cases hG
  rename_i s_xs n_xs f_xs
  cases hG
  obtain ⟨ok_xs, hp⟩ := hp
  exact ⟨[.list eStr.s (eStr.dl n_xs f_xs).length (eStr.tl (eStr.dl n_xs f_xs)), .fn 48 []], ⟨eStr.extl ok_xs, VExt.refl _, trivial⟩, by simp [Try.ntmps50], fun good hstep hext hle => idxNo_ok _ (by rw [eStr.dl_length]; exact ok_xs.2.1) hp good hstep hext hle⟩
def contNo_pre  (xs : List ByteArray) : Prop := True
noncomputable def contNo_val  (xs : List ByteArray) : V := .kn (.bool (bP (∃ x ∈ xs, isName x = false)))
noncomputable def GcontNo : PSpec
  | [.list s_xs n_xs f_xs, .fn 48 []] => some (eStr.okl s_xs n_xs f_xs ∧ contNo_pre (eStr.dl n_xs f_xs), contNo_val (eStr.dl n_xs f_xs))
  | _ => none
theorem contNo_res  (xs : List ByteArray) (good : Cfg → Prop) (R : Option V → Prop) : arun Try.prog (conOf [(50, lift GidxNo)]) (0, []) good (RetO (R)) 400 (entry Try.prog 47 [.list eStr.s xs.length (eStr.tl xs), .fn 48 []]) =
    ((eStr.okl (1 : Nat) xs.length (eStr.tl xs) ∧ idxNo_pre (eStr.dl xs.length (eStr.tl xs))) ∧ R (some (V.kn (Value.bool (decide (idxP (fun x => isName x = false) (eStr.dl xs.length (eStr.tl xs)) ≥ (0 : Int))))))) := by kernel_rfl
theorem contNo_ok  (xs : List ByteArray) (len_xs : xs.length ≤ maxLen) (hp : contNo_pre xs) (good : Cfg → Prop) (hstep : ∀ c, arun Try.prog (conOf [(50, lift GidxNo)]) (0, []) good (RetO (Tells (contNo_val xs))) 400 (c) → good c) (hext : ∀ c c', CfgExt c c' → good c' → good c) (hle : ∀ c c', CfgLe 0 c c' → good c' → good c) : arun Try.prog (conOf [(50, lift GidxNo)]) (0, []) good (RetO (Tells (contNo_val xs))) 400 (entry Try.prog 47 [.list eStr.s xs.length (eStr.tl xs), .fn 48 []]) := by
  rw [contNo_res]
  have ok : eStr.okl 1 xs.length (eStr.tl xs) := eStr.okl_tl len_xs
  simp only [eStr.dl_tl]
  refine ⟨⟨ok, trivial⟩, tell_iff ?_⟩
  rw [decide_eq_true_eq]
  show 0 ≤ idxP _ xs ↔ _
  rw [idxP_nonneg]
theorem contNo_con : SpecOK Try.prog 47 (lift GcontNo) := by
  refine con_of_run3 (con := conOf [(50, lift GidxNo)]) (hs := (0, [])) 400 Try.func47 rfl (by kernel_rfl) rfl (conCons idxNo_con conNil) ?_
  intro args0 p r hG hp
  unfold GcontNo at hG
  split at hG
  case h_2 => cases hG
  rename_i s_xs n_xs f_xs
  cases hG
  obtain ⟨ok_xs, hp⟩ := hp
  exact ⟨[.list eStr.s (eStr.dl n_xs f_xs).length (eStr.tl (eStr.dl n_xs f_xs)), .fn 48 []], ⟨eStr.extl ok_xs, VExt.refl _, trivial⟩, by simp [Try.ntmps47], fun good hstep hext hle => contNo_ok _ (by rw [eStr.dl_length]; exact ok_xs.2.1) hp good hstep hext hle⟩
def names_pre  (xs : List ByteArray) : Prop := True
noncomputable def names_val  (xs : List ByteArray) : V := .kn (.bool (bP (∀ x ∈ xs, isName x = true)))
noncomputable def Gnames : PSpec
  | [.list s_xs n_xs f_xs] => some (eStr.okl s_xs n_xs f_xs ∧ names_pre (eStr.dl n_xs f_xs), names_val (eStr.dl n_xs f_xs))
  | _ => none
theorem names_res  (xs : List ByteArray) (good : Cfg → Prop) (R : Option V → Prop) : arun Try.prog (conOf [(47, lift GcontNo)]) (0, []) good (RetO (R)) 400 (entry Try.prog 36 [.list eStr.s xs.length (eStr.tl xs)]) =
    ((eStr.okl (1 : Nat) xs.length (eStr.tl xs) ∧ contNo_pre (eStr.dl xs.length (eStr.tl xs))) ∧ R (some (V.kn (Value.bool !bP (∃ x, x ∈ eStr.dl xs.length (eStr.tl xs) ∧ isName x = false))))) := by kernel_rfl
theorem names_ok  (xs : List ByteArray) (len_xs : xs.length ≤ maxLen) (hp : names_pre xs) (good : Cfg → Prop) (hstep : ∀ c, arun Try.prog (conOf [(47, lift GcontNo)]) (0, []) good (RetO (Tells (names_val xs))) 400 (c) → good c) (hext : ∀ c c', CfgExt c c' → good c' → good c) (hle : ∀ c c', CfgLe 0 c c' → good c' → good c) : arun Try.prog (conOf [(47, lift GcontNo)]) (0, []) good (RetO (Tells (names_val xs))) 400 (entry Try.prog 36 [.list eStr.s xs.length (eStr.tl xs)]) := by
  rw [names_res]
  have ok : eStr.okl 1 xs.length (eStr.tl xs) := eStr.okl_tl len_xs
  simp only [eStr.dl_tl]
  refine ⟨⟨ok, trivial⟩, tell_iff ?_⟩
  rw [Bool.not_eq_true', bP_not]
  simp
theorem names_con : SpecOK Try.prog 36 (lift Gnames) := by
  refine con_of_run3 (con := conOf [(47, lift GcontNo)]) (hs := (0, [])) 400 Try.func36 rfl (by kernel_rfl) rfl (conCons contNo_con conNil) ?_
  intro args0 p r hG hp
  unfold Gnames at hG
  split at hG
  case h_2 => cases hG
  rename_i s_xs n_xs f_xs
  cases hG
  obtain ⟨ok_xs, hp⟩ := hp
  exact ⟨[.list eStr.s (eStr.dl n_xs f_xs).length (eStr.tl (eStr.dl n_xs f_xs))], ⟨eStr.extl ok_xs, trivial⟩, by simp [Try.ntmps36], fun good hstep hext hle => names_ok _ (by rw [eStr.dl_length]; exact ok_xs.2.1) hp good hstep hext hle⟩
def when_pre (d : Int) : Prop := True
noncomputable def when_val (d : Int) : V := .kn (.bool (decide (0 ≤ d ∧ d ≤ 1048576)))
noncomputable def Gwhen : PSpec
  | [.kn (.int .i64 d)] => some (when_pre d, when_val d)
  | _ => none
theorem when_res (d : Int) (good : Cfg → Prop) (R : Option V → Prop) : arun Try.prog (conOf []) (0, []) good (RetO (R)) 400 (entry Try.prog 37 [.kn (.int .i64 d)]) =
    (bif decide (d ≥ (0 : Int)) then R (some (V.kn (Value.bool (decide (d ≤ (1048576 : Int)))))) else R (some (V.kn (Value.bool false)))) := by kernel_rfl
theorem when_ok (d : Int) (hp : when_pre d) (good : Cfg → Prop) (hstep : ∀ c, arun Try.prog (conOf []) (0, []) good (RetO (Tells (when_val d))) 400 (c) → good c) (hext : ∀ c c', CfgExt c c' → good c' → good c) (hle : ∀ c c', CfgLe 0 c c' → good c' → good c) : arun Try.prog (conOf []) (0, []) good (RetO (Tells (when_val d))) 400 (entry Try.prog 37 [.kn (.int .i64 d)]) := by
  rw [when_res]
  repeat' first | exact trivial | refine And.intro ?_ ?_ | refine cond_intro (fun h => ?_) (fun h => ?_)
  all_goals refine tell_bool ?_
  all_goals simp only [decide_eq_true_eq, decide_eq_false_iff_not] at *
  all_goals rw [Bool.eq_iff_iff]
  all_goals simp
  all_goals omega
theorem when_con : SpecOK Try.prog 37 (lift Gwhen) := by
  refine con_of_run3 (con := conOf []) (hs := (0, [])) 400 Try.func37 rfl (by kernel_rfl) rfl conNil ?_
  intro args0 p r hG hp
  unfold Gwhen at hG
  split at hG
  case h_2 => cases hG
  rename_i d
  cases hG
  exact ⟨[.kn (.int .i64 d)], ⟨VExt.refl _, trivial⟩, by simp [Try.ntmps37], fun good hstep hext hle => when_ok _ hp good hstep hext hle⟩
end Go.Proofs.Ytgepkpajndlgeaa
