/- What is proved: contracts of functions of one seat, each by the executor; written by a program of the prover (gen.py) and by hand. Conditions: each contract names its own. -/
import Derived.Test.YtbedinfkepdobaaAw2
import Derived.Test.YtbedinfkepdobaaProg
import Derived.KernelRfl
import Derived.IntWalk
import Derived.Test.YtbedinfkepdobaaCons
import Derived.MapKept
namespace Go.Proofs.Ytbedinfkepdobaa
open Go Go.Aw Go.RowKit
set_option linter.unusedVariables false
set_option linter.unusedSimpArgs false
set_option maxRecDepth 10000
def totW (l : List Line) : Int := l.foldl (fun a x => IntKind.i64.wrap (a + IntKind.i64.wrap (x.count * x.price))) 0
noncomputable def totV (b : Bool) (n : Int) : V := .tup [.kn (.int .i64 (bif b then (bif decide (n > 1099511627776) then 0 else n) else 0)), .kn (.int .i64 (bif b then (bif decide (n > 1099511627776) then 3 else 0) else 1))]


theorem line_eq {x y : Line} (h : (x.good == y.good && (x.count == y.count && (x.price == y.price && true))) = true) : x = y := by
  simp only [Bool.and_eq_true, Go.MapKept.bytes_beq, beq_iff_eq] at h
  obtain ⟨h1, h2, h3, _⟩ := h
  cases x; cases y; simp_all
theorem line_refl (x : Line) : (x.good == x.good && (x.count == x.count && (x.price == x.price && true))) = true := by
  simp only [Bool.and_eq_true, Go.MapKept.bytes_beq, beq_iff_eq]
  simp

noncomputable def sameB (no se bu cu fr tw no2 se2 bu2 cu2 fr2 tw2 : ByteArray) (te te2 : Int) (ls lt : List Line) : Bool := no.toList == no2.toList && (se.toList == se2.toList && (bu.toList == bu2.toList && (cu.toList == cu2.toList && (fr.toList == fr2.toList && (tw.toList == tw2.toList && (te == te2 && bP (ls = lt)))))))
noncomputable def fewB (no se bu cu fr tw : ByteArray) (ls : List Line) : Bool := decide (IntKind.i64.wrap (IntKind.i64.wrap (IntKind.i64.wrap (IntKind.i64.wrap (IntKind.i64.wrap ((no.size : Int) + (se.size : Int)) + (bu.size : Int)) + (cu.size : Int)) + (fr.size : Int)) + (tw.size : Int)) ≤ 300) && (decide (ls.length ≤ 70) && bP (∀ x ∈ ls, x.good.size ≤ 60))

def oTotal_pre (no se bu cu fr tw : ByteArray) (te : Int) (ls : List Line) : Prop := no.size ≤ maxLen ∧ se.size ≤ maxLen ∧ bu.size ≤ maxLen ∧ cu.size ≤ maxLen ∧ fr.size ≤ maxLen ∧ tw.size ≤ maxLen ∧ ls.length ≤ 70 ∧ ∀ x ∈ ls, eLine_wf x
noncomputable def oTotal_val (no se bu cu fr tw : ByteArray) (te : Int) (ls : List Line) : V := (totV (mayB no se bu cu fr tw te ls) (totW ls))
noncomputable def GoTotal : PSpec
  | [.agg [.kn (.string no), .kn (.string se), .kn (.string bu), .kn (.string cu), .kn (.string fr), .kn (.string tw), .kn (.int .i64 te), .list s_ls n_ls f_ls]] => some (eLine.okl s_ls n_ls f_ls ∧ oTotal_pre no se bu cu fr tw te (eLine.dl n_ls f_ls), oTotal_val no se bu cu fr tw te (eLine.dl n_ls f_ls))
  | _ => none
theorem oTotal_res (no se bu cu fr tw : ByteArray) (te : Int) (ls : List Line) (good : Cfg → Prop) (R : Option V → Prop) : arun Try.prog (conOf [(13, lift GoMay)]) (0, [(11, 5, [4, 11, 12, 13], [])]) good (RetO (R)) 400 (entry Try.prog 11 [.agg [.kn (.string no), .kn (.string se), .kn (.string bu), .kn (.string cu), .kn (.string fr), .kn (.string tw), .kn (.int .i64 te), .list eLine.s ls.length (eLine.tl ls)]]) =
    ((eLine.okl (3 : Nat) ls.length (eLine.tl ls) ∧ oMay_pre no se bu cu fr tw te (eLine.dl ls.length (eLine.tl ls))) ∧ bif !mayB no se bu cu fr tw te (eLine.dl ls.length (eLine.tl ls)) then R (some (V.tup [V.kn (Value.int IntKind.i64 (0 : Int)), V.kn (Value.int IntKind.i64 (1 : Int))])) else good { fr := { fn := (11 : Nat), nt := (28 : Nat), t := [((4 : Nat), V.kn (Value.int IntKind.i64 (0 : Int))), ((11 : Nat), V.list (3 : Nat) ls.length (eLine.tl ls)), ((12 : Nat), V.kn (Value.int IntKind.i64 (↑ls.length : Int))), ((13 : Nat), V.kn (Value.int IntKind.i64 (0 : Int)))], k := loopK Try.prog (11 : Nat) (5 : Nat) }, cs := [], h := [] }) := by kernel_rfl
@[reducible] noncomputable def oTotal_c5 (no se bu cu fr tw : ByteArray) (te : Int) (ls : List Line) (a i : Int) : Cfg := ⟨⟨11, 28, [(4, .kn (.int .i64 a)), (11, .list eLine.s ls.length (eLine.tl ls)), (12, .kn (.int .i64 ls.length)), (13, .kn (.int .i64 i))], loopK Try.prog 11 5⟩, [], []⟩
theorem oTotal_l5 (no se bu cu fr tw : ByteArray) (te : Int) (ls : List Line) (a i : Int) (good : Cfg → Prop) (R : Option V → Prop) : arun Try.prog (conOf [(13, lift GoMay)]) (0, [(11, 5, [4, 11, 12, 13], [])]) good (RetO (R)) 400 (oTotal_c5 no se bu cu fr tw te ls a i) =
    (bif decide (i < (↑ls.length : Int)) then ((0 : Int) ≤ i ∧ i < (↑ls.length : Int)) ∧ good { fr := { fn := (11 : Nat), nt := (28 : Nat), t := [((4 : Nat), V.kn (Value.int IntKind.i64 (IntKind.i64.wrap (a + IntKind.i64.wrap ((ls.getD i.toNat eLine.dflt).count * (ls.getD i.toNat eLine.dflt).price))))), ((11 : Nat), V.list (3 : Nat) ls.length (eLine.tl ls)), ((12 : Nat), V.kn (Value.int IntKind.i64 (↑ls.length : Int))), ((13 : Nat), V.kn (Value.int IntKind.i64 (IntKind.i64.wrap (i + (1 : Int)))))], k := loopK Try.prog (11 : Nat) (5 : Nat) }, cs := [], h := [] } else bif decide (a > (1099511627776 : Int)) then R (some (V.tup [V.kn (Value.int IntKind.i64 (0 : Int)), V.kn (Value.int IntKind.i64 (3 : Int))])) else R (some (V.tup [V.kn (Value.int IntKind.i64 a), V.kn (Value.int IntKind.i64 (0 : Int))]))) := by kernel_rfl
theorem oTotal_ok (no se bu cu fr tw : ByteArray) (te : Int) (ls : List Line) (len_ls : ls.length ≤ maxLen) (hp : oTotal_pre no se bu cu fr tw te ls) (good : Cfg → Prop) (hstep : ∀ c, arun Try.prog (conOf [(13, lift GoMay)]) (0, [(11, 5, [4, 11, 12, 13], [])]) good (RetO (Tells (oTotal_val no se bu cu fr tw te ls))) 400 (c) → good c) (hext : ∀ c c', CfgExt c c' → good c' → good c) (hle : ∀ c c', CfgLe 0 c c' → good c' → good c) : arun Try.prog (conOf [(13, lift GoMay)]) (0, [(11, 5, [4, 11, 12, 13], [])]) good (RetO (Tells (oTotal_val no se bu cu fr tw te ls))) 400 (entry Try.prog 11 [.agg [.kn (.string no), .kn (.string se), .kn (.string bu), .kn (.string cu), .kn (.string fr), .kn (.string tw), .kn (.int .i64 te), .list eLine.s ls.length (eLine.tl ls)]]) := by
  rw [oTotal_res]
  have hmx : maxLen = 9223372036854775807 := rfl
  have ok := eLine.okl_tl len_ls
  simp only [eLine.dl_tl]
  refine ⟨⟨ok, hp⟩, cond_intro (fun h => tell ?_) (fun h => ?_)⟩
  · have hm : mayB no se bu cu fr tw te ls = false := by simpa using h
    rw [oTotal_val, hm]; rfl
  have hm : mayB no se bu cu fr tw te ls = true := by simpa using h
  refine foreach (S := Int) ls (fun i a => a = totW (ls.take i)) (fun i a => oTotal_c5 no se bu cu fr tw te ls a i) (fun i a hi hv ih => ?_) (fun a hv => ?_) 0 rfl
  · apply hstep
    rw [oTotal_l5]
    have e1 : (i : Int).toNat = i := by omega
    rw [e1, wrap_succ hi len_ls, getD_at _ hi]
    have hn := ih _ (show IntKind.i64.wrap (a + IntKind.i64.wrap (ls[i].count * ls[i].price)) = totW (ls.take (i + 1)) by rw [hv, totW, totW, take_at hi, List.foldl_append]; rfl)
    exact cond_true' (decide_eq_true (by omega)) ⟨⟨by omega, by omega⟩, hn⟩
  · apply hstep
    rw [oTotal_l5]
    rw [List.take_length] at hv
    subst hv
    have hval : oTotal_val no se bu cu fr tw te ls = totV true (totW ls) := by rw [oTotal_val, hm]
    rw [hval]
    refine cond_false' (decide_eq_false (by omega)) (cond_intro (fun g => tell ?_) (fun g => tell ?_))
    · unfold totV; rw [g]; rfl
    · unfold totV; rw [g]; rfl
theorem oTotal_con : SpecOK Try.prog 11 (lift GoTotal) := by
  refine con_of_run3 (con := conOf [(13, lift GoMay)]) (hs := (0, [(11, 5, [4, 11, 12, 13], [])])) 400 Try.func11 rfl (by kernel_rfl) rfl (conCons oMay_con conNil) ?_
  intro args0 p r hG hp
  unfold GoTotal at hG
  split at hG
  case h_2 => cases hG
  rename_i no se bu cu fr tw te s_ls n_ls f_ls
  cases hG
  obtain ⟨ok_ls, hp⟩ := hp
  exact ⟨[.agg [.kn (.string no), .kn (.string se), .kn (.string bu), .kn (.string cu), .kn (.string fr), .kn (.string tw), .kn (.int .i64 te), .list eLine.s (eLine.dl n_ls f_ls).length (eLine.tl (eLine.dl n_ls f_ls))]], ⟨VExt.agg ⟨VExt.refl _, VExt.refl _, VExt.refl _, VExt.refl _, VExt.refl _, VExt.refl _, VExt.refl _, eLine.extl ok_ls, trivial⟩, trivial⟩, by simp [Try.ntmps11], fun good hstep hext hle => oTotal_ok _ _ _ _ _ _ _ _ (by rw [eLine.dl_length]; exact ok_ls.2.1) hp good hstep hext hle⟩
def rTotal_pre (no se bu cu fr tw : ByteArray) (te : Int) (ls : List Line) : Prop := no.size ≤ maxLen ∧ se.size ≤ maxLen ∧ bu.size ≤ maxLen ∧ cu.size ≤ maxLen ∧ fr.size ≤ maxLen ∧ tw.size ≤ maxLen ∧ ls.length ≤ 70 ∧ ∀ x ∈ ls, eLine_wf x
noncomputable def rTotal_val (no se bu cu fr tw : ByteArray) (te : Int) (ls : List Line) : V := (totV (mayB no se bu cu fr tw te ls) (totW ls))
noncomputable def GrTotal : PSpec
  | [.agg [.kn (.string no), .kn (.string se), .kn (.string bu), .kn (.string cu), .kn (.string fr), .kn (.string tw), .kn (.int .i64 te), .list s_ls n_ls f_ls]] => some (eLine.okl s_ls n_ls f_ls ∧ rTotal_pre no se bu cu fr tw te (eLine.dl n_ls f_ls), rTotal_val no se bu cu fr tw te (eLine.dl n_ls f_ls))
  | _ => none
theorem rTotal_res (no se bu cu fr tw : ByteArray) (te : Int) (ls : List Line) (good : Cfg → Prop) (R : Option V → Prop) : arun Try.prog (conOf [(14, lift GrMay)]) (0, [(12, 5, [1, 4, 5], [(0, 1, [])])]) good (RetO (R)) 400 (entry Try.prog 12 [.agg [.kn (.string no), .kn (.string se), .kn (.string bu), .kn (.string cu), .kn (.string fr), .kn (.string tw), .kn (.int .i64 te), .list eLine.s ls.length (eLine.tl ls)]]) =
    ((eLine.okl (3 : Nat) ls.length (eLine.tl ls) ∧ rMay_pre no se bu cu fr tw te (eLine.dl ls.length (eLine.tl ls))) ∧ bif !mayB no se bu cu fr tw te (eLine.dl ls.length (eLine.tl ls)) then R (some (V.tup [V.kn (Value.int IntKind.i64 (0 : Int)), V.kn (Value.int IntKind.i64 (1 : Int))])) else good { fr := { fn := (12 : Nat), nt := (35 : Nat), t := [((1 : Nat), V.ptr (0 : Nat) (0 : Nat)), ((4 : Nat), V.kn (Value.int IntKind.i64 (0 : Int))), ((5 : Nat), V.kn (Value.int IntKind.i64 (0 : Int)))], k := loopK Try.prog (12 : Nat) (5 : Nat) }, cs := [], h := [O.cells [V.kn (Value.string no), V.kn (Value.string se), V.kn (Value.string bu), V.kn (Value.string cu), V.kn (Value.string fr), V.kn (Value.string tw), V.kn (Value.int IntKind.i64 te), V.list (3 : Nat) ls.length (eLine.tl ls)]] }) := by kernel_rfl
@[reducible] noncomputable def rTotal_c5 (no se bu cu fr tw : ByteArray) (te : Int) (ls : List Line) (a i : Int) : Cfg := ⟨⟨12, 35, [(1, .ptr 0 0), (4, .kn (.int .i64 a)), (5, .kn (.int .i64 i))], loopK Try.prog 12 5⟩, [], [.cells [.kn (.string no), .kn (.string se), .kn (.string bu), .kn (.string cu), .kn (.string fr), .kn (.string tw), .kn (.int .i64 te), .list eLine.s ls.length (eLine.tl ls)]]⟩
theorem rTotal_l5 (no se bu cu fr tw : ByteArray) (te : Int) (ls : List Line) (a i : Int) (good : Cfg → Prop) (R : Option V → Prop) : arun Try.prog (conOf [(14, lift GrMay)]) (0, [(12, 5, [1, 4, 5], [(0, 1, [])])]) good (RetO (R)) 400 (rTotal_c5 no se bu cu fr tw te ls a i) =
    (bif decide (i < (↑ls.length : Int)) then ((0 : Int) ≤ i ∧ i < (↑ls.length : Int)) ∧ ((0 : Int) ≤ i ∧ i < (↑ls.length : Int)) ∧ good { fr := { fn := (12 : Nat), nt := (35 : Nat), t := [((1 : Nat), V.ptr (0 : Nat) (0 : Nat)), ((4 : Nat), V.kn (Value.int IntKind.i64 (IntKind.i64.wrap (a + IntKind.i64.wrap ((ls.getD i.toNat eLine.dflt).count * (ls.getD i.toNat eLine.dflt).price))))), ((5 : Nat), V.kn (Value.int IntKind.i64 (IntKind.i64.wrap (i + (1 : Int)))))], k := loopK Try.prog (12 : Nat) (5 : Nat) }, cs := [], h := [O.cells [V.kn (Value.string no), V.kn (Value.string se), V.kn (Value.string bu), V.kn (Value.string cu), V.kn (Value.string fr), V.kn (Value.string tw), V.kn (Value.int IntKind.i64 te), V.list (3 : Nat) ls.length (eLine.tl ls)]] } else bif decide (a > (1099511627776 : Int)) then R (some (V.tup [V.kn (Value.int IntKind.i64 (0 : Int)), V.kn (Value.int IntKind.i64 (3 : Int))])) else R (some (V.tup [V.kn (Value.int IntKind.i64 a), V.kn (Value.int IntKind.i64 (0 : Int))]))) := by kernel_rfl
theorem rTotal_ok (no se bu cu fr tw : ByteArray) (te : Int) (ls : List Line) (len_ls : ls.length ≤ maxLen) (hp : rTotal_pre no se bu cu fr tw te ls) (good : Cfg → Prop) (hstep : ∀ c, arun Try.prog (conOf [(14, lift GrMay)]) (0, [(12, 5, [1, 4, 5], [(0, 1, [])])]) good (RetO (Tells (rTotal_val no se bu cu fr tw te ls))) 400 (c) → good c) (hext : ∀ c c', CfgExt c c' → good c' → good c) (hle : ∀ c c', CfgLe 0 c c' → good c' → good c) : arun Try.prog (conOf [(14, lift GrMay)]) (0, [(12, 5, [1, 4, 5], [(0, 1, [])])]) good (RetO (Tells (rTotal_val no se bu cu fr tw te ls))) 400 (entry Try.prog 12 [.agg [.kn (.string no), .kn (.string se), .kn (.string bu), .kn (.string cu), .kn (.string fr), .kn (.string tw), .kn (.int .i64 te), .list eLine.s ls.length (eLine.tl ls)]]) := by
  rw [rTotal_res]
  have hmx : maxLen = 9223372036854775807 := rfl
  have ok := eLine.okl_tl len_ls
  simp only [eLine.dl_tl]
  refine ⟨⟨ok, hp⟩, cond_intro (fun h => tell ?_) (fun h => ?_)⟩
  · have hm : mayB no se bu cu fr tw te ls = false := by simpa using h
    rw [rTotal_val, hm]; rfl
  have hm : mayB no se bu cu fr tw te ls = true := by simpa using h
  refine foreach (S := Int) ls (fun i a => a = totW (ls.take i)) (fun i a => rTotal_c5 no se bu cu fr tw te ls a i) (fun i a hi hv ih => ?_) (fun a hv => ?_) 0 rfl
  · apply hstep
    rw [rTotal_l5]
    have e1 : (i : Int).toNat = i := by omega
    rw [e1, wrap_succ hi len_ls, getD_at _ hi]
    have hn := ih _ (show IntKind.i64.wrap (a + IntKind.i64.wrap (ls[i].count * ls[i].price)) = totW (ls.take (i + 1)) by rw [hv, totW, totW, take_at hi, List.foldl_append]; rfl)
    exact cond_true' (decide_eq_true (by omega)) ⟨⟨by omega, by omega⟩, ⟨by omega, by omega⟩, hn⟩
  · apply hstep
    rw [rTotal_l5]
    rw [List.take_length] at hv
    subst hv
    have hval : rTotal_val no se bu cu fr tw te ls = totV true (totW ls) := by rw [rTotal_val, hm]
    rw [hval]
    refine cond_false' (decide_eq_false (by omega)) (cond_intro (fun g => tell ?_) (fun g => tell ?_))
    · unfold totV; rw [g]; rfl
    · unfold totV; rw [g]; rfl
theorem rTotal_con : SpecOK Try.prog 12 (lift GrTotal) := by
  refine con_of_run3 (con := conOf [(14, lift GrMay)]) (hs := (0, [(12, 5, [1, 4, 5], [(0, 1, [])])])) 400 Try.func12 rfl (by kernel_rfl) rfl (conCons rMay_con conNil) ?_
  intro args0 p r hG hp
  unfold GrTotal at hG
  split at hG
  case h_2 => cases hG
  rename_i no se bu cu fr tw te s_ls n_ls f_ls
  cases hG
  obtain ⟨ok_ls, hp⟩ := hp
  exact ⟨[.agg [.kn (.string no), .kn (.string se), .kn (.string bu), .kn (.string cu), .kn (.string fr), .kn (.string tw), .kn (.int .i64 te), .list eLine.s (eLine.dl n_ls f_ls).length (eLine.tl (eLine.dl n_ls f_ls))]], ⟨VExt.agg ⟨VExt.refl _, VExt.refl _, VExt.refl _, VExt.refl _, VExt.refl _, VExt.refl _, VExt.refl _, eLine.extl ok_ls, trivial⟩, trivial⟩, by simp [Try.ntmps12], fun good hstep hext hle => rTotal_ok _ _ _ _ _ _ _ _ (by rw [eLine.dl_length]; exact ok_ls.2.1) hp good hstep hext hle⟩
def lEq_pre  (ls : List Line) (lt : List Line) : Prop := True
noncomputable def lEq_val  (ls : List Line) (lt : List Line) : V := .kn (.bool (bP (ls = lt)))
noncomputable def GlEq : PSpec
  | [.list s_ls n_ls f_ls, .list s_lt n_lt f_lt] => some (eLine.okl s_ls n_ls f_ls ∧ eLine.okl s_lt n_lt f_lt ∧ lEq_pre (eLine.dl n_ls f_ls) (eLine.dl n_lt f_lt), lEq_val (eLine.dl n_ls f_ls) (eLine.dl n_lt f_lt))
  | _ => none
theorem lEq_res  (ls : List Line) (lt : List Line) (good : Cfg → Prop) (R : Option V → Prop) : arun Try.prog (conOf []) (0, [(33, 4, [0, 1, 12, 13], [])]) good (RetO (R)) 400 (entry Try.prog 33 [.list eLine.s ls.length (eLine.tl ls), .list eLine.s lt.length (eLine.tl lt)]) =
    (bif (↑ls.length : Int) != (↑lt.length : Int) then R (some (V.kn (Value.bool false))) else good { fr := { fn := (33 : Nat), nt := (26 : Nat), t := [((0 : Nat), V.list (3 : Nat) ls.length (eLine.tl ls)), ((1 : Nat), V.list (3 : Nat) lt.length (eLine.tl lt)), ((12 : Nat), V.kn (Value.int IntKind.i64 (↑ls.length : Int))), ((13 : Nat), V.kn (Value.int IntKind.i64 (0 : Int)))], k := loopK Try.prog (33 : Nat) (4 : Nat) }, cs := [], h := [] }) := by kernel_rfl
@[reducible] noncomputable def lEq_c4 (ls : List Line) (lt : List Line) (i : Int) : Cfg := ⟨⟨33, 26, [(0, .list eLine.s ls.length (eLine.tl ls)), (1, .list eLine.s lt.length (eLine.tl lt)), (12, .kn (.int .i64 ls.length)), (13, .kn (.int .i64 i))], loopK Try.prog 33 4⟩, [], []⟩
theorem lEq_l4 (ls : List Line) (lt : List Line) (i : Int) (good : Cfg → Prop) (R : Option V → Prop) : arun Try.prog (conOf []) (0, [(33, 4, [0, 1, 12, 13], [])]) good (RetO (R)) 400 (lEq_c4 ls lt i) =
    (bif decide (i < (↑ls.length : Int)) then ((0 : Int) ≤ i ∧ i < (↑ls.length : Int)) ∧ ((0 : Int) ≤ i ∧ i < (↑lt.length : Int)) ∧ bif !((ls.getD i.toNat eLine.dflt).good == (lt.getD i.toNat eLine.dflt).good && ((ls.getD i.toNat eLine.dflt).count == (lt.getD i.toNat eLine.dflt).count && ((ls.getD i.toNat eLine.dflt).price == (lt.getD i.toNat eLine.dflt).price && true))) then R (some (V.kn (Value.bool false))) else good { fr := { fn := (33 : Nat), nt := (26 : Nat), t := [((0 : Nat), V.list (3 : Nat) ls.length (eLine.tl ls)), ((1 : Nat), V.list (3 : Nat) lt.length (eLine.tl lt)), ((12 : Nat), V.kn (Value.int IntKind.i64 (↑ls.length : Int))), ((13 : Nat), V.kn (Value.int IntKind.i64 (IntKind.i64.wrap (i + (1 : Int)))))], k := loopK Try.prog (33 : Nat) (4 : Nat) }, cs := [], h := [] } else R (some (V.kn (Value.bool true)))) := by kernel_rfl
theorem lEq_ok  (ls : List Line) (lt : List Line) (len_ls : ls.length ≤ maxLen) (len_lt : lt.length ≤ maxLen) (hp : lEq_pre ls lt) (good : Cfg → Prop) (hstep : ∀ c, arun Try.prog (conOf []) (0, [(33, 4, [0, 1, 12, 13], [])]) good (RetO (Tells (lEq_val ls lt))) 400 (c) → good c) (hext : ∀ c c', CfgExt c c' → good c' → good c) (hle : ∀ c c', CfgLe 0 c c' → good c' → good c) : arun Try.prog (conOf []) (0, [(33, 4, [0, 1, 12, 13], [])]) good (RetO (Tells (lEq_val ls lt))) 400 (entry Try.prog 33 [.list eLine.s ls.length (eLine.tl ls), .list eLine.s lt.length (eLine.tl lt)]) := by
  rw [lEq_res]
  have hmx : maxLen = 9223372036854775807 := rfl
  refine cond_intro (fun h => ?_) (fun h => ?_)
  · refine tell_false fun e => ?_
    rw [e] at h
    simp at h
  · have hab : ls.length = lt.length := by simp at h; omega
    refine foreach ls (fun i (_ : Unit) => ∀ j (hj : j < ls.length), j < i → ls[j] = lt[j]'(by omega)) (fun i _ => lEq_c4 ls lt i) (fun i _ hi hv ih => ?_) (fun _ hv => ?_) () (fun j hl hj => by omega)
    · apply hstep
      rw [lEq_l4]
      have e1 : (i : Int).toNat = i := by omega
      rw [e1, wrap_succ hi len_ls, getD_at _ hi, getD_at _ (by omega)]
      refine cond_true' (decide_eq_true (by omega)) ⟨⟨by omega, by omega⟩, ⟨by omega, by omega⟩, cond_intro (fun h => ?_) (fun h => ih () (fun j hl hj => ?_))⟩
      · refine tell_false fun e => ?_
        subst e
        rw [line_refl] at h
        cases h
      · by_cases hji : j = i
        · subst hji; exact line_eq (by simpa using h)
        · exact hv j hl (by omega)
    · apply hstep
      rw [lEq_l4]
      exact cond_false' (decide_eq_false (by omega)) (tell_true (List.ext_getElem hab fun j h1 h2 => hv j h1 h1))
theorem lEq_con : SpecOK Try.prog 33 (lift GlEq) := by
  refine con_of_run3 (con := conOf []) (hs := (0, [(33, 4, [0, 1, 12, 13], [])])) 400 Try.func33 rfl (by kernel_rfl) rfl conNil ?_
  intro args0 p r hG hp
  unfold GlEq at hG
  split at hG
  case h_2 => cases hG
  rename_i s_ls n_ls f_ls s_lt n_lt f_lt
  cases hG
  obtain ⟨ok_ls, hp⟩ := hp
  obtain ⟨ok_lt, hp⟩ := hp
  exact ⟨[.list eLine.s (eLine.dl n_ls f_ls).length (eLine.tl (eLine.dl n_ls f_ls)), .list eLine.s (eLine.dl n_lt f_lt).length (eLine.tl (eLine.dl n_lt f_lt))], ⟨eLine.extl ok_ls, eLine.extl ok_lt, trivial⟩, by simp [Try.ntmps33], fun good hstep hext hle => lEq_ok _ _ (by rw [eLine.dl_length]; exact ok_ls.2.1) (by rw [eLine.dl_length]; exact ok_lt.2.1) hp good hstep hext hle⟩
def oSame_pre (no se bu cu fr tw no2 se2 bu2 cu2 fr2 tw2 : ByteArray) (te te2 : Int) (ls : List Line) (lt : List Line) : Prop := True
noncomputable def oSame_val (no se bu cu fr tw no2 se2 bu2 cu2 fr2 tw2 : ByteArray) (te te2 : Int) (ls : List Line) (lt : List Line) : V := .kn (.bool (sameB no se bu cu fr tw no2 se2 bu2 cu2 fr2 tw2 te te2 ls lt))
noncomputable def GoSame : PSpec
  | [.agg [.kn (.string no), .kn (.string se), .kn (.string bu), .kn (.string cu), .kn (.string fr), .kn (.string tw), .kn (.int .i64 te), .list s_ls n_ls f_ls], .agg [.kn (.string no2), .kn (.string se2), .kn (.string bu2), .kn (.string cu2), .kn (.string fr2), .kn (.string tw2), .kn (.int .i64 te2), .list s_lt n_lt f_lt]] => some (eLine.okl s_ls n_ls f_ls ∧ eLine.okl s_lt n_lt f_lt ∧ oSame_pre no se bu cu fr tw no2 se2 bu2 cu2 fr2 tw2 te te2 (eLine.dl n_ls f_ls) (eLine.dl n_lt f_lt), oSame_val no se bu cu fr tw no2 se2 bu2 cu2 fr2 tw2 te te2 (eLine.dl n_ls f_ls) (eLine.dl n_lt f_lt))
  | _ => none
theorem oSame_res (no se bu cu fr tw no2 se2 bu2 cu2 fr2 tw2 : ByteArray) (te te2 : Int) (ls : List Line) (lt : List Line) (good : Cfg → Prop) (R : Option V → Prop) : arun Try.prog (conOf [(33, lift GlEq)]) (0, []) good (RetO (R)) 400 (entry Try.prog 15 [.agg [.kn (.string no), .kn (.string se), .kn (.string bu), .kn (.string cu), .kn (.string fr), .kn (.string tw), .kn (.int .i64 te), .list eLine.s ls.length (eLine.tl ls)], .agg [.kn (.string no2), .kn (.string se2), .kn (.string bu2), .kn (.string cu2), .kn (.string fr2), .kn (.string tw2), .kn (.int .i64 te2), .list eLine.s lt.length (eLine.tl lt)]]) =
    (bif no.toList == no2.toList then bif se.toList == se2.toList then bif bu.toList == bu2.toList then bif cu.toList == cu2.toList then bif fr.toList == fr2.toList then bif tw.toList == tw2.toList then bif te == te2 then (eLine.okl (3 : Nat) ls.length (eLine.tl ls) ∧ eLine.okl (3 : Nat) lt.length (eLine.tl lt) ∧ lEq_pre (eLine.dl ls.length (eLine.tl ls)) (eLine.dl lt.length (eLine.tl lt))) ∧ R (some (V.kn (Value.bool (bP (eLine.dl ls.length (eLine.tl ls) = eLine.dl lt.length (eLine.tl lt)))))) else R (some (V.kn (Value.bool false))) else R (some (V.kn (Value.bool false))) else R (some (V.kn (Value.bool false))) else R (some (V.kn (Value.bool false))) else R (some (V.kn (Value.bool false))) else R (some (V.kn (Value.bool false))) else R (some (V.kn (Value.bool false)))) := by kernel_rfl
theorem oSame_ok (no se bu cu fr tw no2 se2 bu2 cu2 fr2 tw2 : ByteArray) (te te2 : Int) (ls : List Line) (lt : List Line) (len_ls : ls.length ≤ maxLen) (len_lt : lt.length ≤ maxLen) (hp : oSame_pre no se bu cu fr tw no2 se2 bu2 cu2 fr2 tw2 te te2 ls lt) (good : Cfg → Prop) (hstep : ∀ c, arun Try.prog (conOf [(33, lift GlEq)]) (0, []) good (RetO (Tells (oSame_val no se bu cu fr tw no2 se2 bu2 cu2 fr2 tw2 te te2 ls lt))) 400 (c) → good c) (hext : ∀ c c', CfgExt c c' → good c' → good c) (hle : ∀ c c', CfgLe 0 c c' → good c' → good c) : arun Try.prog (conOf [(33, lift GlEq)]) (0, []) good (RetO (Tells (oSame_val no se bu cu fr tw no2 se2 bu2 cu2 fr2 tw2 te te2 ls lt))) 400 (entry Try.prog 15 [.agg [.kn (.string no), .kn (.string se), .kn (.string bu), .kn (.string cu), .kn (.string fr), .kn (.string tw), .kn (.int .i64 te), .list eLine.s ls.length (eLine.tl ls)], .agg [.kn (.string no2), .kn (.string se2), .kn (.string bu2), .kn (.string cu2), .kn (.string fr2), .kn (.string tw2), .kn (.int .i64 te2), .list eLine.s lt.length (eLine.tl lt)]]) := by
  rw [oSame_res]
  have ok := eLine.okl_tl len_ls
  have ok2 := eLine.okl_tl len_lt
  simp only [eLine.dl_tl]
  repeat' first | exact ok | exact ok2 | exact trivial | refine And.intro ?_ ?_ | refine cond_intro (fun h => ?_) (fun h => ?_)
  all_goals refine tell_bool ?_
  all_goals unfold sameB
  all_goals simp only [*, Bool.true_and, Bool.false_and]
set_option maxHeartbeats 2000000 in
theorem oSame_con : SpecOK Try.prog 15 (lift GoSame) := by
  refine con_of_run3 (con := conOf [(33, lift GlEq)]) (hs := (0, [])) 400 Try.func15 rfl (by kernel_rfl) rfl (conCons lEq_con conNil) ?_
  intro args0 p r hG hp
  unfold GoSame at hG
  split at hG
  case h_2 => cases hG
  rename_i no se bu cu fr tw te s_ls n_ls f_ls no2 se2 bu2 cu2 fr2 tw2 te2 s_lt n_lt f_lt
  cases hG
  obtain ⟨ok_ls, hp⟩ := hp
  obtain ⟨ok_lt, hp⟩ := hp
  exact ⟨[.agg [.kn (.string no), .kn (.string se), .kn (.string bu), .kn (.string cu), .kn (.string fr), .kn (.string tw), .kn (.int .i64 te), .list eLine.s (eLine.dl n_ls f_ls).length (eLine.tl (eLine.dl n_ls f_ls))], .agg [.kn (.string no2), .kn (.string se2), .kn (.string bu2), .kn (.string cu2), .kn (.string fr2), .kn (.string tw2), .kn (.int .i64 te2), .list eLine.s (eLine.dl n_lt f_lt).length (eLine.tl (eLine.dl n_lt f_lt))]], ⟨VExt.agg ⟨VExt.refl _, VExt.refl _, VExt.refl _, VExt.refl _, VExt.refl _, VExt.refl _, VExt.refl _, eLine.extl ok_ls, trivial⟩, VExt.agg ⟨VExt.refl _, VExt.refl _, VExt.refl _, VExt.refl _, VExt.refl _, VExt.refl _, VExt.refl _, eLine.extl ok_lt, trivial⟩, trivial⟩, by simp [Try.ntmps15], fun good hstep hext hle => oSame_ok _ _ _ _ _ _ _ _ _ _ _ _ _ _ _ _ (by rw [eLine.dl_length]; exact ok_ls.2.1) (by rw [eLine.dl_length]; exact ok_lt.2.1) hp good hstep hext hle⟩
def rSame_pre (no se bu cu fr tw no2 se2 bu2 cu2 fr2 tw2 : ByteArray) (te te2 : Int) (ls : List Line) (lt : List Line) : Prop := True
noncomputable def rSame_val (no se bu cu fr tw no2 se2 bu2 cu2 fr2 tw2 : ByteArray) (te te2 : Int) (ls : List Line) (lt : List Line) : V := .kn (.bool (sameB no se bu cu fr tw no2 se2 bu2 cu2 fr2 tw2 te te2 ls lt))
noncomputable def GrSame : PSpec
  | [.agg [.kn (.string no), .kn (.string se), .kn (.string bu), .kn (.string cu), .kn (.string fr), .kn (.string tw), .kn (.int .i64 te), .list s_ls n_ls f_ls], .agg [.kn (.string no2), .kn (.string se2), .kn (.string bu2), .kn (.string cu2), .kn (.string fr2), .kn (.string tw2), .kn (.int .i64 te2), .list s_lt n_lt f_lt]] => some (eLine.okl s_ls n_ls f_ls ∧ eLine.okl s_lt n_lt f_lt ∧ rSame_pre no se bu cu fr tw no2 se2 bu2 cu2 fr2 tw2 te te2 (eLine.dl n_ls f_ls) (eLine.dl n_lt f_lt), rSame_val no se bu cu fr tw no2 se2 bu2 cu2 fr2 tw2 te te2 (eLine.dl n_ls f_ls) (eLine.dl n_lt f_lt))
  | _ => none
theorem rSame_res (no se bu cu fr tw no2 se2 bu2 cu2 fr2 tw2 : ByteArray) (te te2 : Int) (ls : List Line) (lt : List Line) (good : Cfg → Prop) (R : Option V → Prop) : arun Try.prog (conOf []) (0, [(16, 4, [2, 3, 5], [(0, 2, []), (0, 3, [])])]) good (RetO (R)) 400 (entry Try.prog 16 [.agg [.kn (.string no), .kn (.string se), .kn (.string bu), .kn (.string cu), .kn (.string fr), .kn (.string tw), .kn (.int .i64 te), .list eLine.s ls.length (eLine.tl ls)], .agg [.kn (.string no2), .kn (.string se2), .kn (.string bu2), .kn (.string cu2), .kn (.string fr2), .kn (.string tw2), .kn (.int .i64 te2), .list eLine.s lt.length (eLine.tl lt)]]) =
    (bif !no.toList == no2.toList then R (some (V.kn (Value.bool false))) else bif !se.toList == se2.toList then R (some (V.kn (Value.bool false))) else bif !bu.toList == bu2.toList then R (some (V.kn (Value.bool false))) else bif !cu.toList == cu2.toList then R (some (V.kn (Value.bool false))) else bif !fr.toList == fr2.toList then R (some (V.kn (Value.bool false))) else bif !tw.toList == tw2.toList then R (some (V.kn (Value.bool false))) else bif te != te2 then R (some (V.kn (Value.bool false))) else bif (↑ls.length : Int) != (↑lt.length : Int) then R (some (V.kn (Value.bool false))) else good { fr := { fn := (16 : Nat), nt := (80 : Nat), t := [((2 : Nat), V.ptr (0 : Nat) (0 : Nat)), ((3 : Nat), V.ptr (1 : Nat) (0 : Nat)), ((5 : Nat), V.kn (Value.int IntKind.i64 (0 : Int)))], k := loopK Try.prog (16 : Nat) (4 : Nat) }, cs := [], h := [O.cells [V.kn (Value.string no), V.kn (Value.string se), V.kn (Value.string bu), V.kn (Value.string cu), V.kn (Value.string fr), V.kn (Value.string tw), V.kn (Value.int IntKind.i64 te), V.list (3 : Nat) ls.length (eLine.tl ls)], O.cells [V.kn (Value.string no2), V.kn (Value.string se2), V.kn (Value.string bu2), V.kn (Value.string cu2), V.kn (Value.string fr2), V.kn (Value.string tw2), V.kn (Value.int IntKind.i64 te2), V.list (3 : Nat) lt.length (eLine.tl lt)]] }) := by kernel_rfl
@[reducible] noncomputable def rSame_c4 (no se bu cu fr tw no2 se2 bu2 cu2 fr2 tw2 : ByteArray) (te te2 : Int) (ls : List Line) (lt : List Line) (i : Int) : Cfg := ⟨⟨16, 80, [(2, .ptr 0 0), (3, .ptr 1 0), (5, .kn (.int .i64 i))], loopK Try.prog 16 4⟩, [], [.cells [.kn (.string no), .kn (.string se), .kn (.string bu), .kn (.string cu), .kn (.string fr), .kn (.string tw), .kn (.int .i64 te), .list eLine.s ls.length (eLine.tl ls)], .cells [.kn (.string no2), .kn (.string se2), .kn (.string bu2), .kn (.string cu2), .kn (.string fr2), .kn (.string tw2), .kn (.int .i64 te2), .list eLine.s lt.length (eLine.tl lt)]]⟩
theorem rSame_l4 (no se bu cu fr tw no2 se2 bu2 cu2 fr2 tw2 : ByteArray) (te te2 : Int) (ls : List Line) (lt : List Line) (i : Int) (good : Cfg → Prop) (R : Option V → Prop) : arun Try.prog (conOf []) (0, [(16, 4, [2, 3, 5], [(0, 2, []), (0, 3, [])])]) good (RetO (R)) 400 (rSame_c4 no se bu cu fr tw no2 se2 bu2 cu2 fr2 tw2 te te2 ls lt i) =
    (bif decide (i < (↑ls.length : Int)) then ((0 : Int) ≤ i ∧ i < (↑ls.length : Int)) ∧ ((0 : Int) ≤ i ∧ i < (↑lt.length : Int)) ∧ bif !((ls.getD i.toNat eLine.dflt).good == (lt.getD i.toNat eLine.dflt).good && ((ls.getD i.toNat eLine.dflt).count == (lt.getD i.toNat eLine.dflt).count && ((ls.getD i.toNat eLine.dflt).price == (lt.getD i.toNat eLine.dflt).price && true))) then R (some (V.kn (Value.bool false))) else good { fr := { fn := (16 : Nat), nt := (80 : Nat), t := [((2 : Nat), V.ptr (0 : Nat) (0 : Nat)), ((3 : Nat), V.ptr (1 : Nat) (0 : Nat)), ((5 : Nat), V.kn (Value.int IntKind.i64 (IntKind.i64.wrap (i + (1 : Int)))))], k := loopK Try.prog (16 : Nat) (4 : Nat) }, cs := [], h := [O.cells [V.kn (Value.string no), V.kn (Value.string se), V.kn (Value.string bu), V.kn (Value.string cu), V.kn (Value.string fr), V.kn (Value.string tw), V.kn (Value.int IntKind.i64 te), V.list (3 : Nat) ls.length (eLine.tl ls)], O.cells [V.kn (Value.string no2), V.kn (Value.string se2), V.kn (Value.string bu2), V.kn (Value.string cu2), V.kn (Value.string fr2), V.kn (Value.string tw2), V.kn (Value.int IntKind.i64 te2), V.list (3 : Nat) lt.length (eLine.tl lt)]] } else R (some (V.kn (Value.bool true)))) := by kernel_rfl
theorem rSame_ok (no se bu cu fr tw no2 se2 bu2 cu2 fr2 tw2 : ByteArray) (te te2 : Int) (ls : List Line) (lt : List Line) (len_ls : ls.length ≤ maxLen) (len_lt : lt.length ≤ maxLen) (hp : rSame_pre no se bu cu fr tw no2 se2 bu2 cu2 fr2 tw2 te te2 ls lt) (good : Cfg → Prop) (hstep : ∀ c, arun Try.prog (conOf []) (0, [(16, 4, [2, 3, 5], [(0, 2, []), (0, 3, [])])]) good (RetO (Tells (rSame_val no se bu cu fr tw no2 se2 bu2 cu2 fr2 tw2 te te2 ls lt))) 400 (c) → good c) (hext : ∀ c c', CfgExt c c' → good c' → good c) (hle : ∀ c c', CfgLe 0 c c' → good c' → good c) : arun Try.prog (conOf []) (0, [(16, 4, [2, 3, 5], [(0, 2, []), (0, 3, [])])]) good (RetO (Tells (rSame_val no se bu cu fr tw no2 se2 bu2 cu2 fr2 tw2 te te2 ls lt))) 400 (entry Try.prog 16 [.agg [.kn (.string no), .kn (.string se), .kn (.string bu), .kn (.string cu), .kn (.string fr), .kn (.string tw), .kn (.int .i64 te), .list eLine.s ls.length (eLine.tl ls)], .agg [.kn (.string no2), .kn (.string se2), .kn (.string bu2), .kn (.string cu2), .kn (.string fr2), .kn (.string tw2), .kn (.int .i64 te2), .list eLine.s lt.length (eLine.tl lt)]]) := by
  rw [rSame_res]
  have hmx : maxLen = 9223372036854775807 := rfl
  have loop : ls.length = lt.length → sameB no se bu cu fr tw no2 se2 bu2 cu2 fr2 tw2 te te2 ls lt = bP (ls = lt) → good (rSame_c4 no se bu cu fr tw no2 se2 bu2 cu2 fr2 tw2 te te2 ls lt 0) := fun hab hS => by
    have hval : rSame_val no se bu cu fr tw no2 se2 bu2 cu2 fr2 tw2 te te2 ls lt = .kn (.bool (bP (ls = lt))) := by rw [rSame_val, hS]
    refine foreach ls (fun i (_ : Unit) => ∀ j (hj : j < ls.length), j < i → ls[j] = lt[j]'(by omega)) (fun i _ => rSame_c4 no se bu cu fr tw no2 se2 bu2 cu2 fr2 tw2 te te2 ls lt i) (fun i _ hi hv ih => ?_) (fun _ hv => ?_) () (fun j hl hj => by omega)
    · apply hstep
      rw [rSame_l4, hval]
      have e1 : (i : Int).toNat = i := by omega
      rw [e1, wrap_succ hi len_ls, getD_at _ hi, getD_at _ (by omega)]
      refine cond_true' (decide_eq_true (by omega)) ⟨⟨by omega, by omega⟩, ⟨by omega, by omega⟩, cond_intro (fun h => ?_) (fun h => ih () (fun j hl hj => ?_))⟩
      · refine tell_false fun e => ?_
        subst e
        rw [line_refl] at h
        cases h
      · by_cases hji : j = i
        · subst hji; exact line_eq (by simpa using h)
        · exact hv j hl (by omega)
    · apply hstep
      rw [rSame_l4, hval]
      exact cond_false' (decide_eq_false (by omega)) (tell_true (List.ext_getElem hab fun j h1 h2 => hv j h1 h1))
  repeat' first | exact trivial | refine And.intro ?_ ?_ | refine cond_intro (fun h => ?_) (fun h => ?_) | refine loop ?_ ?_
  all_goals try refine tell_bool ?_
  all_goals first
    | (simp only [bne_iff_ne, ne_eq, bne_eq_false_iff_eq] at *; omega)
    | (unfold sameB; simp only [Bool.not_eq_true', Bool.not_eq_false', bne_iff_ne, ne_eq, bne_eq_false_iff_eq] at *; simp [*]; done)
    | (unfold sameB; simp_all; done)
    | (unfold sameB; rw [bP_false (fun e => by subst e; simp at *)]; simp; done)
set_option maxHeartbeats 2000000 in
theorem rSame_con : SpecOK Try.prog 16 (lift GrSame) := by
  refine con_of_run3 (con := conOf []) (hs := (0, [(16, 4, [2, 3, 5], [(0, 2, []), (0, 3, [])])])) 400 Try.func16 rfl (by kernel_rfl) rfl conNil ?_
  intro args0 p r hG hp
  unfold GrSame at hG
  split at hG
  case h_2 => cases hG
  rename_i no se bu cu fr tw te s_ls n_ls f_ls no2 se2 bu2 cu2 fr2 tw2 te2 s_lt n_lt f_lt
  cases hG
  obtain ⟨ok_ls, hp⟩ := hp
  obtain ⟨ok_lt, hp⟩ := hp
  exact ⟨[.agg [.kn (.string no), .kn (.string se), .kn (.string bu), .kn (.string cu), .kn (.string fr), .kn (.string tw), .kn (.int .i64 te), .list eLine.s (eLine.dl n_ls f_ls).length (eLine.tl (eLine.dl n_ls f_ls))], .agg [.kn (.string no2), .kn (.string se2), .kn (.string bu2), .kn (.string cu2), .kn (.string fr2), .kn (.string tw2), .kn (.int .i64 te2), .list eLine.s (eLine.dl n_lt f_lt).length (eLine.tl (eLine.dl n_lt f_lt))]], ⟨VExt.agg ⟨VExt.refl _, VExt.refl _, VExt.refl _, VExt.refl _, VExt.refl _, VExt.refl _, VExt.refl _, eLine.extl ok_ls, trivial⟩, VExt.agg ⟨VExt.refl _, VExt.refl _, VExt.refl _, VExt.refl _, VExt.refl _, VExt.refl _, VExt.refl _, eLine.extl ok_lt, trivial⟩, trivial⟩, by simp [Try.ntmps16], fun good hstep hext hle => rSame_ok _ _ _ _ _ _ _ _ _ _ _ _ _ _ _ _ (by rw [eLine.dl_length]; exact ok_ls.2.1) (by rw [eLine.dl_length]; exact ok_lt.2.1) hp good hstep hext hle⟩
def Few_pre (no se bu cu fr tw : ByteArray) (te : Int) (fx : Nat → List V) (ls : List Line) : Prop := True
noncomputable def Few_val (no se bu cu fr tw : ByteArray) (te : Int) (fx : Nat → List V) (ls : List Line) : V := .kn (.bool (fewB no se bu cu fr tw ls))
noncomputable def GFew : PSpec
  | [.agg [.kn (.string no), .kn (.string se), .kn (.string bu), .kn (.string cu), .kn (.string fr), .kn (.string tw), .kn (.int .i64 te), .list s_ls n_ls f_ls], .list 1 0 fx] => some (eLine.okl s_ls n_ls f_ls ∧ Few_pre no se bu cu fr tw te fx (eLine.dl n_ls f_ls), Few_val no se bu cu fr tw te fx (eLine.dl n_ls f_ls))
  | _ => none
theorem Few_res (no se bu cu fr tw : ByteArray) (te : Int) (fx : Nat → List V) (ls : List Line) (good : Cfg → Prop) (R : Option V → Prop) : arun Try.prog (conOf []) (0, [(10, 4, [1, 2, 5], [(0, 2, [])])]) good (RetO (R)) 400 (entry Try.prog 10 [.agg [.kn (.string no), .kn (.string se), .kn (.string bu), .kn (.string cu), .kn (.string fr), .kn (.string tw), .kn (.int .i64 te), .list eLine.s ls.length (eLine.tl ls)], .list 1 0 fx]) =
    (bif decide (IntKind.i64.wrap (IntKind.i64.wrap (IntKind.i64.wrap (IntKind.i64.wrap (IntKind.i64.wrap ((↑no.size : Int) + (↑se.size : Int)) + (↑bu.size : Int)) + (↑cu.size : Int)) + (↑fr.size : Int)) + (↑tw.size : Int)) > (300 : Int)) then R (some (V.kn (Value.bool false))) else bif decide ((↑ls.length : Int) > (70 : Int)) then R (some (V.kn (Value.bool false))) else good { fr := { fn := (10 : Nat), nt := (78 : Nat), t := [((1 : Nat), V.list (1 : Nat) (0 : Nat) fun i => fx i), ((2 : Nat), V.ptr (0 : Nat) (0 : Nat)), ((5 : Nat), V.kn (Value.int IntKind.i64 (0 : Int)))], k := loopK Try.prog (10 : Nat) (4 : Nat) }, cs := [], h := [O.cells [V.kn (Value.string no), V.kn (Value.string se), V.kn (Value.string bu), V.kn (Value.string cu), V.kn (Value.string fr), V.kn (Value.string tw), V.kn (Value.int IntKind.i64 te), V.list (3 : Nat) ls.length (eLine.tl ls)]] }) := by kernel_rfl
@[reducible] noncomputable def Few_c4 (no se bu cu fr tw : ByteArray) (te : Int) (fx : Nat → List V) (ls : List Line) (i : Int) : Cfg := ⟨⟨10, 78, [(1, .list 1 0 fx), (2, .ptr 0 0), (5, .kn (.int .i64 i))], loopK Try.prog 10 4⟩, [], [.cells [.kn (.string no), .kn (.string se), .kn (.string bu), .kn (.string cu), .kn (.string fr), .kn (.string tw), .kn (.int .i64 te), .list eLine.s ls.length (eLine.tl ls)]]⟩
theorem Few_l4 (no se bu cu fr tw : ByteArray) (te : Int) (fx : Nat → List V) (ls : List Line) (i : Int) (good : Cfg → Prop) (R : Option V → Prop) : arun Try.prog (conOf []) (0, [(10, 4, [1, 2, 5], [(0, 2, [])])]) good (RetO (R)) 400 (Few_c4 no se bu cu fr tw te fx ls i) =
    (bif decide (i < (↑ls.length : Int)) then ((0 : Int) ≤ i ∧ i < (↑ls.length : Int)) ∧ bif decide ((↑(ls.getD i.toNat eLine.dflt).good.size : Int) > (60 : Int)) then R (some (V.kn (Value.bool false))) else good { fr := { fn := (10 : Nat), nt := (78 : Nat), t := [((1 : Nat), V.list (1 : Nat) (0 : Nat) fun i => fx i), ((2 : Nat), V.ptr (0 : Nat) (0 : Nat)), ((5 : Nat), V.kn (Value.int IntKind.i64 (IntKind.i64.wrap (i + (1 : Int)))))], k := loopK Try.prog (10 : Nat) (4 : Nat) }, cs := [], h := [O.cells [V.kn (Value.string no), V.kn (Value.string se), V.kn (Value.string bu), V.kn (Value.string cu), V.kn (Value.string fr), V.kn (Value.string tw), V.kn (Value.int IntKind.i64 te), V.list (3 : Nat) ls.length (eLine.tl ls)]] } else R (some (V.kn (Value.bool true)))) := by kernel_rfl
theorem Few_ok (no se bu cu fr tw : ByteArray) (te : Int) (fx : Nat → List V) (ls : List Line) (len_ls : ls.length ≤ maxLen) (hp : Few_pre no se bu cu fr tw te fx ls) (good : Cfg → Prop) (hstep : ∀ c, arun Try.prog (conOf []) (0, [(10, 4, [1, 2, 5], [(0, 2, [])])]) good (RetO (Tells (Few_val no se bu cu fr tw te fx ls))) 400 (c) → good c) (hext : ∀ c c', CfgExt c c' → good c' → good c) (hle : ∀ c c', CfgLe 0 c c' → good c' → good c) : arun Try.prog (conOf []) (0, [(10, 4, [1, 2, 5], [(0, 2, [])])]) good (RetO (Tells (Few_val no se bu cu fr tw te fx ls))) 400 (entry Try.prog 10 [.agg [.kn (.string no), .kn (.string se), .kn (.string bu), .kn (.string cu), .kn (.string fr), .kn (.string tw), .kn (.int .i64 te), .list eLine.s ls.length (eLine.tl ls)], .list 1 0 fx]) := by
  rw [Few_res]
  have hmx : maxLen = 9223372036854775807 := rfl
  refine cond_intro (fun h => tell_bool ?_) (fun h => cond_intro (fun h2 => tell_bool ?_) (fun h2 => ?_))
  · unfold fewB; rw [decide_eq_false (by have := of_decide_eq_true h; omega)]; rfl
  · unfold fewB; rw [show decide (ls.length ≤ 70) = false from decide_eq_false (by have := of_decide_eq_true h2; omega)]; simp
  have hval : Few_val no se bu cu fr tw te fx ls = .kn (.bool (bP (∀ x ∈ ls, x.good.size ≤ 60))) := by
    rw [Few_val, fewB, decide_eq_true (by have := of_decide_eq_false h; omega), show decide (ls.length ≤ 70) = true from decide_eq_true (by have := of_decide_eq_false h2; omega)]; rfl
  refine foreach ls (fun i (_ : Unit) => ∀ j (hj : j < ls.length), j < i → ls[j].good.size ≤ 60) (fun i _ => Few_c4 no se bu cu fr tw te fx ls i) (fun i _ hi hv ih => ?_) (fun _ hv => ?_) () (fun j hl hj => by omega)
  · apply hstep
    rw [Few_l4, hval]
    have e1 : (i : Int).toNat = i := by omega
    rw [e1, wrap_succ hi len_ls, getD_at _ hi]
    refine cond_true' (decide_eq_true (by omega)) ⟨⟨by omega, by omega⟩, cond_intro (fun h => tell_false fun hh => ?_) (fun h => ih () (fun j hl hj => ?_))⟩
    · have := hh _ (List.getElem_mem hi); have := of_decide_eq_true h; omega
    · by_cases hji : j = i
      · subst hji; have := of_decide_eq_false h; omega
      · exact hv j hl (by omega)
  · apply hstep
    rw [Few_l4, hval]
    refine cond_false' (decide_eq_false (by omega)) (tell_true fun x hx => ?_)
    obtain ⟨j, hj, rfl⟩ := List.getElem_of_mem hx
    exact hv j hj hj
theorem Few_con : SpecOK Try.prog 10 (lift GFew) := by
  refine con_of_run3 (con := conOf []) (hs := (0, [(10, 4, [1, 2, 5], [(0, 2, [])])])) 400 Try.func10 rfl (by kernel_rfl) rfl conNil ?_
  intro args0 p r hG hp
  unfold GFew at hG
  split at hG
  case h_2 => cases hG
  rename_i no se bu cu fr tw te s_ls n_ls f_ls fx
  cases hG
  obtain ⟨ok_ls, hp⟩ := hp
  exact ⟨[.agg [.kn (.string no), .kn (.string se), .kn (.string bu), .kn (.string cu), .kn (.string fr), .kn (.string tw), .kn (.int .i64 te), .list eLine.s (eLine.dl n_ls f_ls).length (eLine.tl (eLine.dl n_ls f_ls))], .list 1 0 fx], ⟨VExt.agg ⟨VExt.refl _, VExt.refl _, VExt.refl _, VExt.refl _, VExt.refl _, VExt.refl _, VExt.refl _, eLine.extl ok_ls, trivial⟩, VExt.refl _, trivial⟩, by simp [Try.ntmps10], fun good hstep hext hle => Few_ok _ _ _ _ _ _ _ _ _ (by rw [eLine.dl_length]; exact ok_ls.2.1) hp good hstep hext hle⟩
end Go.Proofs.Ytbedinfkepdobaa
