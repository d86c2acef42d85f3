/- What is proved: contracts of functions of one seat, each by the executor; written by a program of the prover (gen.py) and by hand. Conditions: each contract names its own. -/
import Derived.Test.YtbedinfkepdobaaAw2
import Derived.Test.YtbedinfkepdobaaProg
import Derived.KernelRfl
import Derived.IntWalk
import Derived.Test.YtbedinfkepdobaaConh
import Derived.MapKept
namespace Go.Proofs.Ytbedinfkepdobaa
open Go Go.Aw Go.RowKit
set_option linter.unusedVariables false
set_option linter.unusedSimpArgs false
set_option maxRecDepth 10000
set_option maxHeartbeats 4000000

theorem maxG_le : ∀ (xs : List Int) (a : Int), a ≤ maxG xs a ∧ (∀ x ∈ xs, x ≤ maxG xs a) ∧ (maxG xs a = a ∨ ∃ x ∈ xs, maxG xs a = x)
  | [], a => by simp [maxG]
  | x :: r, a => by
    by_cases g : x > a
    · have e : maxG (x :: r) a = maxG r x := by show maxG r (if x > a then x else a) = _; rw [if_pos g]
      rw [e]
      obtain ⟨h1, h2, h3⟩ := maxG_le r x
      refine ⟨by omega, fun y hy => ?_, .inr ?_⟩
      · rcases List.mem_cons.1 hy with rfl | hy
        · exact h1
        · exact h2 y hy
      · rcases h3 with h3 | ⟨y, hy, h3⟩
        · exact ⟨x, by simp, h3⟩
        · exact ⟨y, by simp [hy], h3⟩
    · have e : maxG (x :: r) a = maxG r a := by show maxG r (if x > a then x else a) = _; rw [if_neg g]
      rw [e]
      obtain ⟨h1, h2, h3⟩ := maxG_le r a
      refine ⟨h1, fun y hy => ?_, ?_⟩
      · rcases List.mem_cons.1 hy with rfl | hy
        · omega
        · exact h2 y hy
      · rcases h3 with h3 | ⟨y, hy, h3⟩
        · exact .inl h3
        · exact .inr ⟨y, by simp [hy], h3⟩
theorem maxG_none {p : Part} (h0 : ∀ x ∈ p, 0 ≤ x) (hl : 0 < p.length) : nonePart p ↔ ¬ ∃ t, t < p.length ∧ 0 < p.getD t 0 := by
  unfold nonePart
  obtain ⟨h1, h2, h3⟩ := maxG_le p (p.getD 0 0)
  have hz : 0 ≤ p.getD 0 0 := by rw [getD_at _ hl]; exact h0 _ (List.getElem_mem hl)
  constructor
  · rintro e ⟨t, ht, hp⟩
    have := h2 _ (List.getElem_mem ht)
    rw [getD_at _ ht] at hp
    omega
  · intro hn
    rcases h3 with h3 | ⟨x, hx, h3⟩
    · have : ¬ 0 < p.getD 0 0 := fun h => hn ⟨0, hl, h⟩
      omega
    · obtain ⟨t, ht, rfl⟩ := List.getElem_of_mem hx
      have : ¬ 0 < p.getD t 0 := fun h => hn ⟨t, ht, h⟩
      rw [getD_at _ ht] at this
      have := h0 _ (List.getElem_mem ht)
      omega

def rWrong_pre (no se bu cu fr tw : ByteArray) (te : Int) (ls : List Line) (ds : List Int) (ps : List Part) : Prop := (no.size ≤ maxLen ∧ se.size ≤ maxLen ∧ bu.size ≤ maxLen ∧ cu.size ≤ maxLen ∧ fr.size ≤ maxLen ∧ tw.size ≤ maxLen ∧ ls.length ≤ 70 ∧ ∀ x ∈ ls, eLine_wf x) ∧ ds.length ≤ 70 ∧ ps.length ≤ 70 ∧ ∀ p ∈ ps, p.length ≤ 70
noncomputable def rWrong_val (no se bu cu fr tw : ByteArray) (te : Int) (ls : List Line) (ds : List Int) (ps : List Part) : V := .kn (.int .i64 (wrongI (mayB no se bu cu fr tw te ls) ls ds ps))
noncomputable def GrWrong : PSpec
  | [.agg [.kn (.string no), .kn (.string se), .kn (.string bu), .kn (.string cu), .kn (.string fr), .kn (.string tw), .kn (.int .i64 te), .list s_ls n_ls f_ls], .list s_ds n_ds f_ds, .list s_ps n_ps f_ps] => some (eLine.okl s_ls n_ls f_ls ∧ eInt.okl s_ds n_ds f_ds ∧ ePart.okl s_ps n_ps f_ps ∧ rWrong_pre no se bu cu fr tw te (eLine.dl n_ls f_ls) (eInt.dl n_ds f_ds) (ePart.dl n_ps f_ps), rWrong_val no se bu cu fr tw te (eLine.dl n_ls f_ls) (eInt.dl n_ds f_ds) (ePart.dl n_ps f_ps))
  | _ => none
theorem rWrong_res (no se bu cu fr tw : ByteArray) (te : Int) (ls : List Line) (ds : List Int) (ps : List Part) (good : Cfg → Prop) (R : Option V → Prop) : arun Try.prog (conOf [(14, lift GrMay)]) (0, [(50, 4, [1, 2, 3, 7], [(0, 3, [])]), (50, 9, [1, 2, 3, 7, 8], [(0, 3, [])]), (50, 14, [1, 2, 3, 9], [(0, 3, [])]), (50, 19, [2, 3, 10], [(0, 3, [])]), (50, 23, [2, 3, 10, 11, 12], [(0, 3, [])]), (50, 29, [2, 3, 13], [(0, 3, [])]), (50, 33, [2, 3, 13, 14, 15], [(0, 3, [])])]) good (RetO (R)) 4000 (entry Try.prog 50 [.agg [.kn (.string no), .kn (.string se), .kn (.string bu), .kn (.string cu), .kn (.string fr), .kn (.string tw), .kn (.int .i64 te), .list eLine.s ls.length (eLine.tl ls)], .list eInt.s ds.length (eInt.tl ds), .list ePart.s ps.length (ePart.tl ps)]) =
    ((eLine.okl (3 : Nat) ls.length (eLine.tl ls) ∧ rMay_pre no se bu cu fr tw te (eLine.dl ls.length (eLine.tl ls))) ∧ bif !mayB no se bu cu fr tw te (eLine.dl ls.length (eLine.tl ls)) then R (some (V.kn (Value.int IntKind.i64 (1 : Int)))) else bif (↑ps.length : Int) != (↑ds.length : Int) then R (some (V.kn (Value.int IntKind.i64 (1 : Int)))) else bif decide ((↑ps.length : Int) < (1 : Int)) then R (some (V.kn (Value.int IntKind.i64 (1 : Int)))) else bif decide ((↑ps.length : Int) > (64 : Int)) then R (some (V.kn (Value.int IntKind.i64 (1 : Int)))) else good { fr := { fn := (50 : Nat), nt := (165 : Nat), t := [((1 : Nat), V.list (1 : Nat) ds.length (eInt.tl ds)), ((2 : Nat), V.list (1 : Nat) ps.length (ePart.tl ps)), ((3 : Nat), V.ptr (0 : Nat) (0 : Nat)), ((7 : Nat), V.kn (Value.int IntKind.i64 (0 : Int)))], k := loopK Try.prog (50 : Nat) (4 : Nat) }, cs := [], h := [O.cells [V.kn (Value.string no), V.kn (Value.string se), V.kn (Value.string bu), V.kn (Value.string cu), V.kn (Value.string fr), V.kn (Value.string tw), V.kn (Value.int IntKind.i64 te), V.list (3 : Nat) ls.length (eLine.tl ls)]] }) := by kernel_rfl
@[reducible] noncomputable def rWrong_c4 (no se bu cu fr tw : ByteArray) (te : Int) (ls : List Line) (ds : List Int) (ps : List Part) (i : Int) : Cfg := ⟨⟨50, 165, [(1, .list eInt.s ds.length (eInt.tl ds)), (2, .list ePart.s ps.length (ePart.tl ps)), (3, .ptr 0 0), (7, .kn (.int .i64 i))], loopK Try.prog 50 4⟩, [], [.cells [.kn (.string no), .kn (.string se), .kn (.string bu), .kn (.string cu), .kn (.string fr), .kn (.string tw), .kn (.int .i64 te), .list eLine.s ls.length (eLine.tl ls)]]⟩
theorem rWrong_l4 (no se bu cu fr tw : ByteArray) (te : Int) (ls : List Line) (ds : List Int) (ps : List Part) (i : Int) (good : Cfg → Prop) (R : Option V → Prop) : arun Try.prog (conOf [(14, lift GrMay)]) (0, [(50, 4, [1, 2, 3, 7], [(0, 3, [])]), (50, 9, [1, 2, 3, 7, 8], [(0, 3, [])]), (50, 14, [1, 2, 3, 9], [(0, 3, [])]), (50, 19, [2, 3, 10], [(0, 3, [])]), (50, 23, [2, 3, 10, 11, 12], [(0, 3, [])]), (50, 29, [2, 3, 13], [(0, 3, [])]), (50, 33, [2, 3, 13, 14, 15], [(0, 3, [])])]) good (RetO (R)) 4000 (rWrong_c4 no se bu cu fr tw te ls ds ps i) =
    (bif decide (i < (↑ps.length : Int)) then ((0 : Int) ≤ i ∧ i < (↑ds.length : Int)) ∧ bif decide (ds.getD i.toNat (0 : Int) < (0 : Int)) then R (some (V.kn (Value.int IntKind.i64 (1 : Int)))) else ((0 : Int) ≤ i ∧ i < (↑ds.length : Int)) ∧ bif decide (ds.getD i.toNat (0 : Int) > (1048576 : Int)) then R (some (V.kn (Value.int IntKind.i64 (1 : Int)))) else ((0 : Int) ≤ i ∧ i < (↑ps.length : Int)) ∧ bif (↑(List.length (ps.getD i.toNat ePart.dflt)) : Int) != (↑ls.length : Int) then R (some (V.kn (Value.int IntKind.i64 (1 : Int)))) else good { fr := { fn := (50 : Nat), nt := (165 : Nat), t := [((1 : Nat), V.list (1 : Nat) ds.length (eInt.tl ds)), ((2 : Nat), V.list (1 : Nat) ps.length (ePart.tl ps)), ((3 : Nat), V.ptr (0 : Nat) (0 : Nat)), ((7 : Nat), V.kn (Value.int IntKind.i64 i)), ((8 : Nat), V.kn (Value.int IntKind.i64 (0 : Int)))], k := loopK Try.prog (50 : Nat) (9 : Nat) }, cs := [], h := [O.cells [V.kn (Value.string no), V.kn (Value.string se), V.kn (Value.string bu), V.kn (Value.string cu), V.kn (Value.string fr), V.kn (Value.string tw), V.kn (Value.int IntKind.i64 te), V.list (3 : Nat) ls.length (eLine.tl ls)]] } else good { fr := { fn := (50 : Nat), nt := (165 : Nat), t := [((1 : Nat), V.list (1 : Nat) ds.length (eInt.tl ds)), ((2 : Nat), V.list (1 : Nat) ps.length (ePart.tl ps)), ((3 : Nat), V.ptr (0 : Nat) (0 : Nat)), ((9 : Nat), V.kn (Value.int IntKind.i64 (1 : Int)))], k := loopK Try.prog (50 : Nat) (14 : Nat) }, cs := [], h := [O.cells [V.kn (Value.string no), V.kn (Value.string se), V.kn (Value.string bu), V.kn (Value.string cu), V.kn (Value.string fr), V.kn (Value.string tw), V.kn (Value.int IntKind.i64 te), V.list (3 : Nat) ls.length (eLine.tl ls)]] }) := by kernel_rfl
@[reducible] noncomputable def rWrong_c9 (no se bu cu fr tw : ByteArray) (te : Int) (ls : List Line) (ds : List Int) (ps : List Part) (i k : Int) : Cfg := ⟨⟨50, 165, [(1, .list eInt.s ds.length (eInt.tl ds)), (2, .list ePart.s ps.length (ePart.tl ps)), (3, .ptr 0 0), (7, .kn (.int .i64 i)), (8, .kn (.int .i64 k))], loopK Try.prog 50 9⟩, [], [.cells [.kn (.string no), .kn (.string se), .kn (.string bu), .kn (.string cu), .kn (.string fr), .kn (.string tw), .kn (.int .i64 te), .list eLine.s ls.length (eLine.tl ls)]]⟩
theorem rWrong_l9 (no se bu cu fr tw : ByteArray) (te : Int) (ls : List Line) (ds : List Int) (ps : List Part) (i k : Int) (good : Cfg → Prop) (R : Option V → Prop) : arun Try.prog (conOf [(14, lift GrMay)]) (0, [(50, 4, [1, 2, 3, 7], [(0, 3, [])]), (50, 9, [1, 2, 3, 7, 8], [(0, 3, [])]), (50, 14, [1, 2, 3, 9], [(0, 3, [])]), (50, 19, [2, 3, 10], [(0, 3, [])]), (50, 23, [2, 3, 10, 11, 12], [(0, 3, [])]), (50, 29, [2, 3, 13], [(0, 3, [])]), (50, 33, [2, 3, 13, 14, 15], [(0, 3, [])])]) good (RetO (R)) 4000 (rWrong_c9 no se bu cu fr tw te ls ds ps i k) =
    (((0 : Int) ≤ i ∧ i < (↑ps.length : Int)) ∧ bif decide (k < (↑(List.length (ps.getD i.toNat ePart.dflt)) : Int)) then ((0 : Int) ≤ i ∧ i < (↑ps.length : Int)) ∧ ((0 : Int) ≤ k ∧ k < (↑(List.length (ps.getD i.toNat ePart.dflt)) : Int)) ∧ bif decide (List.getD (ps.getD i.toNat ePart.dflt) k.toNat (0 : Int) < (0 : Int)) then R (some (V.kn (Value.int IntKind.i64 (1 : Int)))) else good { fr := { fn := (50 : Nat), nt := (165 : Nat), t := [((1 : Nat), V.list (1 : Nat) ds.length (eInt.tl ds)), ((2 : Nat), V.list (1 : Nat) ps.length (ePart.tl ps)), ((3 : Nat), V.ptr (0 : Nat) (0 : Nat)), ((7 : Nat), V.kn (Value.int IntKind.i64 i)), ((8 : Nat), V.kn (Value.int IntKind.i64 (IntKind.i64.wrap (k + (1 : Int)))))], k := loopK Try.prog (50 : Nat) (9 : Nat) }, cs := [], h := [O.cells [V.kn (Value.string no), V.kn (Value.string se), V.kn (Value.string bu), V.kn (Value.string cu), V.kn (Value.string fr), V.kn (Value.string tw), V.kn (Value.int IntKind.i64 te), V.list (3 : Nat) ls.length (eLine.tl ls)]] } else good { fr := { fn := (50 : Nat), nt := (165 : Nat), t := [((1 : Nat), V.list (1 : Nat) ds.length (eInt.tl ds)), ((2 : Nat), V.list (1 : Nat) ps.length (ePart.tl ps)), ((3 : Nat), V.ptr (0 : Nat) (0 : Nat)), ((7 : Nat), V.kn (Value.int IntKind.i64 (IntKind.i64.wrap (i + (1 : Int)))))], k := loopK Try.prog (50 : Nat) (4 : Nat) }, cs := [], h := [O.cells [V.kn (Value.string no), V.kn (Value.string se), V.kn (Value.string bu), V.kn (Value.string cu), V.kn (Value.string fr), V.kn (Value.string tw), V.kn (Value.int IntKind.i64 te), V.list (3 : Nat) ls.length (eLine.tl ls)]] }) := by kernel_rfl
@[reducible] noncomputable def rWrong_c14 (no se bu cu fr tw : ByteArray) (te : Int) (ls : List Line) (ds : List Int) (ps : List Part) (i : Int) : Cfg := ⟨⟨50, 165, [(1, .list eInt.s ds.length (eInt.tl ds)), (2, .list ePart.s ps.length (ePart.tl ps)), (3, .ptr 0 0), (9, .kn (.int .i64 i))], loopK Try.prog 50 14⟩, [], [.cells [.kn (.string no), .kn (.string se), .kn (.string bu), .kn (.string cu), .kn (.string fr), .kn (.string tw), .kn (.int .i64 te), .list eLine.s ls.length (eLine.tl ls)]]⟩
theorem rWrong_l14 (no se bu cu fr tw : ByteArray) (te : Int) (ls : List Line) (ds : List Int) (ps : List Part) (i : Int) (good : Cfg → Prop) (R : Option V → Prop) : arun Try.prog (conOf [(14, lift GrMay)]) (0, [(50, 4, [1, 2, 3, 7], [(0, 3, [])]), (50, 9, [1, 2, 3, 7, 8], [(0, 3, [])]), (50, 14, [1, 2, 3, 9], [(0, 3, [])]), (50, 19, [2, 3, 10], [(0, 3, [])]), (50, 23, [2, 3, 10, 11, 12], [(0, 3, [])]), (50, 29, [2, 3, 13], [(0, 3, [])]), (50, 33, [2, 3, 13, 14, 15], [(0, 3, [])])]) good (RetO (R)) 4000 (rWrong_c14 no se bu cu fr tw te ls ds ps i) =
    (bif decide (i < (↑ds.length : Int)) then ((0 : Int) ≤ i ∧ i < (↑ds.length : Int)) ∧ ((0 : Int) ≤ IntKind.i64.wrap (i - (1 : Int)) ∧ IntKind.i64.wrap (i - (1 : Int)) < (↑ds.length : Int)) ∧ bif decide (ds.getD i.toNat (0 : Int) < ds.getD (IntKind.i64.wrap (i - (1 : Int))).toNat (0 : Int)) then R (some (V.kn (Value.int IntKind.i64 (6 : Int)))) else good { fr := { fn := (50 : Nat), nt := (165 : Nat), t := [((1 : Nat), V.list (1 : Nat) ds.length (eInt.tl ds)), ((2 : Nat), V.list (1 : Nat) ps.length (ePart.tl ps)), ((3 : Nat), V.ptr (0 : Nat) (0 : Nat)), ((9 : Nat), V.kn (Value.int IntKind.i64 (IntKind.i64.wrap (i + (1 : Int)))))], k := loopK Try.prog (50 : Nat) (14 : Nat) }, cs := [], h := [O.cells [V.kn (Value.string no), V.kn (Value.string se), V.kn (Value.string bu), V.kn (Value.string cu), V.kn (Value.string fr), V.kn (Value.string tw), V.kn (Value.int IntKind.i64 te), V.list (3 : Nat) ls.length (eLine.tl ls)]] } else good { fr := { fn := (50 : Nat), nt := (165 : Nat), t := [((2 : Nat), V.list (1 : Nat) ps.length (ePart.tl ps)), ((3 : Nat), V.ptr (0 : Nat) (0 : Nat)), ((10 : Nat), V.kn (Value.int IntKind.i64 (0 : Int)))], k := loopK Try.prog (50 : Nat) (19 : Nat) }, cs := [], h := [O.cells [V.kn (Value.string no), V.kn (Value.string se), V.kn (Value.string bu), V.kn (Value.string cu), V.kn (Value.string fr), V.kn (Value.string tw), V.kn (Value.int IntKind.i64 te), V.list (3 : Nat) ls.length (eLine.tl ls)]] }) := by kernel_rfl
@[reducible] noncomputable def rWrong_c19 (no se bu cu fr tw : ByteArray) (te : Int) (ls : List Line) (ds : List Int) (ps : List Part) (i : Int) : Cfg := ⟨⟨50, 165, [(2, .list ePart.s ps.length (ePart.tl ps)), (3, .ptr 0 0), (10, .kn (.int .i64 i))], loopK Try.prog 50 19⟩, [], [.cells [.kn (.string no), .kn (.string se), .kn (.string bu), .kn (.string cu), .kn (.string fr), .kn (.string tw), .kn (.int .i64 te), .list eLine.s ls.length (eLine.tl ls)]]⟩
theorem rWrong_l19 (no se bu cu fr tw : ByteArray) (te : Int) (ls : List Line) (ds : List Int) (ps : List Part) (i : Int) (good : Cfg → Prop) (R : Option V → Prop) : arun Try.prog (conOf [(14, lift GrMay)]) (0, [(50, 4, [1, 2, 3, 7], [(0, 3, [])]), (50, 9, [1, 2, 3, 7, 8], [(0, 3, [])]), (50, 14, [1, 2, 3, 9], [(0, 3, [])]), (50, 19, [2, 3, 10], [(0, 3, [])]), (50, 23, [2, 3, 10, 11, 12], [(0, 3, [])]), (50, 29, [2, 3, 13], [(0, 3, [])]), (50, 33, [2, 3, 13, 14, 15], [(0, 3, [])])]) good (RetO (R)) 4000 (rWrong_c19 no se bu cu fr tw te ls ds ps i) =
    (bif decide (i < (↑ps.length : Int)) then good { fr := { fn := (50 : Nat), nt := (165 : Nat), t := [((2 : Nat), V.list (1 : Nat) ps.length (ePart.tl ps)), ((3 : Nat), V.ptr (0 : Nat) (0 : Nat)), ((10 : Nat), V.kn (Value.int IntKind.i64 i)), ((11 : Nat), V.kn (Value.bool false)), ((12 : Nat), V.kn (Value.int IntKind.i64 (0 : Int)))], k := loopK Try.prog (50 : Nat) (23 : Nat) }, cs := [], h := [O.cells [V.kn (Value.string no), V.kn (Value.string se), V.kn (Value.string bu), V.kn (Value.string cu), V.kn (Value.string fr), V.kn (Value.string tw), V.kn (Value.int IntKind.i64 te), V.list (3 : Nat) ls.length (eLine.tl ls)]] } else good { fr := { fn := (50 : Nat), nt := (165 : Nat), t := [((2 : Nat), V.list (1 : Nat) ps.length (ePart.tl ps)), ((3 : Nat), V.ptr (0 : Nat) (0 : Nat)), ((13 : Nat), V.kn (Value.int IntKind.i64 (0 : Int)))], k := loopK Try.prog (50 : Nat) (29 : Nat) }, cs := [], h := [O.cells [V.kn (Value.string no), V.kn (Value.string se), V.kn (Value.string bu), V.kn (Value.string cu), V.kn (Value.string fr), V.kn (Value.string tw), V.kn (Value.int IntKind.i64 te), V.list (3 : Nat) ls.length (eLine.tl ls)]] }) := by kernel_rfl
@[reducible] noncomputable def rWrong_c23 (no se bu cu fr tw : ByteArray) (te : Int) (ls : List Line) (ds : List Int) (ps : List Part) (i k : Int) (an : Bool) : Cfg := ⟨⟨50, 165, [(2, .list ePart.s ps.length (ePart.tl ps)), (3, .ptr 0 0), (10, .kn (.int .i64 i)), (11, .kn (.bool an)), (12, .kn (.int .i64 k))], loopK Try.prog 50 23⟩, [], [.cells [.kn (.string no), .kn (.string se), .kn (.string bu), .kn (.string cu), .kn (.string fr), .kn (.string tw), .kn (.int .i64 te), .list eLine.s ls.length (eLine.tl ls)]]⟩
theorem rWrong_l23 (no se bu cu fr tw : ByteArray) (te : Int) (ls : List Line) (ds : List Int) (ps : List Part) (i k : Int) (an : Bool) (good : Cfg → Prop) (R : Option V → Prop) : arun Try.prog (conOf [(14, lift GrMay)]) (0, [(50, 4, [1, 2, 3, 7], [(0, 3, [])]), (50, 9, [1, 2, 3, 7, 8], [(0, 3, [])]), (50, 14, [1, 2, 3, 9], [(0, 3, [])]), (50, 19, [2, 3, 10], [(0, 3, [])]), (50, 23, [2, 3, 10, 11, 12], [(0, 3, [])]), (50, 29, [2, 3, 13], [(0, 3, [])]), (50, 33, [2, 3, 13, 14, 15], [(0, 3, [])])]) good (RetO (R)) 4000 (rWrong_c23 no se bu cu fr tw te ls ds ps i k an) =
    (((0 : Int) ≤ i ∧ i < (↑ps.length : Int)) ∧ bif decide (k < (↑(List.length (ps.getD i.toNat ePart.dflt)) : Int)) then bif an then good { fr := { fn := (50 : Nat), nt := (165 : Nat), t := [((2 : Nat), V.list (1 : Nat) ps.length (ePart.tl ps)), ((3 : Nat), V.ptr (0 : Nat) (0 : Nat)), ((10 : Nat), V.kn (Value.int IntKind.i64 i)), ((11 : Nat), V.kn (Value.bool true)), ((12 : Nat), V.kn (Value.int IntKind.i64 (IntKind.i64.wrap (k + (1 : Int)))))], k := loopK Try.prog (50 : Nat) (23 : Nat) }, cs := [], h := [O.cells [V.kn (Value.string no), V.kn (Value.string se), V.kn (Value.string bu), V.kn (Value.string cu), V.kn (Value.string fr), V.kn (Value.string tw), V.kn (Value.int IntKind.i64 te), V.list (3 : Nat) ls.length (eLine.tl ls)]] } else ((0 : Int) ≤ i ∧ i < (↑ps.length : Int)) ∧ ((0 : Int) ≤ k ∧ k < (↑(List.length (ps.getD i.toNat ePart.dflt)) : Int)) ∧ good { fr := { fn := (50 : Nat), nt := (165 : Nat), t := [((2 : Nat), V.list (1 : Nat) ps.length (ePart.tl ps)), ((3 : Nat), V.ptr (0 : Nat) (0 : Nat)), ((10 : Nat), V.kn (Value.int IntKind.i64 i)), ((11 : Nat), V.kn (Value.bool (decide (List.getD (ps.getD i.toNat ePart.dflt) k.toNat (0 : Int) > (0 : Int))))), ((12 : Nat), V.kn (Value.int IntKind.i64 (IntKind.i64.wrap (k + (1 : Int)))))], k := loopK Try.prog (50 : Nat) (23 : Nat) }, cs := [], h := [O.cells [V.kn (Value.string no), V.kn (Value.string se), V.kn (Value.string bu), V.kn (Value.string cu), V.kn (Value.string fr), V.kn (Value.string tw), V.kn (Value.int IntKind.i64 te), V.list (3 : Nat) ls.length (eLine.tl ls)]] } else bif !an then R (some (V.kn (Value.int IntKind.i64 (4 : Int)))) else good { fr := { fn := (50 : Nat), nt := (165 : Nat), t := [((2 : Nat), V.list (1 : Nat) ps.length (ePart.tl ps)), ((3 : Nat), V.ptr (0 : Nat) (0 : Nat)), ((10 : Nat), V.kn (Value.int IntKind.i64 (IntKind.i64.wrap (i + (1 : Int)))))], k := loopK Try.prog (50 : Nat) (19 : Nat) }, cs := [], h := [O.cells [V.kn (Value.string no), V.kn (Value.string se), V.kn (Value.string bu), V.kn (Value.string cu), V.kn (Value.string fr), V.kn (Value.string tw), V.kn (Value.int IntKind.i64 te), V.list (3 : Nat) ls.length (eLine.tl ls)]] }) := by kernel_rfl
@[reducible] noncomputable def rWrong_c29 (no se bu cu fr tw : ByteArray) (te : Int) (ls : List Line) (ds : List Int) (ps : List Part) (k : Int) : Cfg := ⟨⟨50, 165, [(2, .list ePart.s ps.length (ePart.tl ps)), (3, .ptr 0 0), (13, .kn (.int .i64 k))], loopK Try.prog 50 29⟩, [], [.cells [.kn (.string no), .kn (.string se), .kn (.string bu), .kn (.string cu), .kn (.string fr), .kn (.string tw), .kn (.int .i64 te), .list eLine.s ls.length (eLine.tl ls)]]⟩
theorem rWrong_l29 (no se bu cu fr tw : ByteArray) (te : Int) (ls : List Line) (ds : List Int) (ps : List Part) (k : Int) (good : Cfg → Prop) (R : Option V → Prop) : arun Try.prog (conOf [(14, lift GrMay)]) (0, [(50, 4, [1, 2, 3, 7], [(0, 3, [])]), (50, 9, [1, 2, 3, 7, 8], [(0, 3, [])]), (50, 14, [1, 2, 3, 9], [(0, 3, [])]), (50, 19, [2, 3, 10], [(0, 3, [])]), (50, 23, [2, 3, 10, 11, 12], [(0, 3, [])]), (50, 29, [2, 3, 13], [(0, 3, [])]), (50, 33, [2, 3, 13, 14, 15], [(0, 3, [])])]) good (RetO (R)) 4000 (rWrong_c29 no se bu cu fr tw te ls ds ps k) =
    (bif decide (k < (↑ls.length : Int)) then ((0 : Int) ≤ k ∧ k < (↑ls.length : Int)) ∧ good { fr := { fn := (50 : Nat), nt := (165 : Nat), t := [((2 : Nat), V.list (1 : Nat) ps.length (ePart.tl ps)), ((3 : Nat), V.ptr (0 : Nat) (0 : Nat)), ((13 : Nat), V.kn (Value.int IntKind.i64 k)), ((14 : Nat), V.kn (Value.int IntKind.i64 (ls.getD k.toNat eLine.dflt).count)), ((15 : Nat), V.kn (Value.int IntKind.i64 (0 : Int)))], k := loopK Try.prog (50 : Nat) (33 : Nat) }, cs := [], h := [O.cells [V.kn (Value.string no), V.kn (Value.string se), V.kn (Value.string bu), V.kn (Value.string cu), V.kn (Value.string fr), V.kn (Value.string tw), V.kn (Value.int IntKind.i64 te), V.list (3 : Nat) ls.length (eLine.tl ls)]] } else R (some (V.kn (Value.int IntKind.i64 (0 : Int))))) := by kernel_rfl
@[reducible] noncomputable def rWrong_c33 (no se bu cu fr tw : ByteArray) (te : Int) (ls : List Line) (ds : List Int) (ps : List Part) (k left i : Int) : Cfg := ⟨⟨50, 165, [(2, .list ePart.s ps.length (ePart.tl ps)), (3, .ptr 0 0), (13, .kn (.int .i64 k)), (14, .kn (.int .i64 left)), (15, .kn (.int .i64 i))], loopK Try.prog 50 33⟩, [], [.cells [.kn (.string no), .kn (.string se), .kn (.string bu), .kn (.string cu), .kn (.string fr), .kn (.string tw), .kn (.int .i64 te), .list eLine.s ls.length (eLine.tl ls)]]⟩
theorem rWrong_l33 (no se bu cu fr tw : ByteArray) (te : Int) (ls : List Line) (ds : List Int) (ps : List Part) (k left i : Int) (good : Cfg → Prop) (R : Option V → Prop) : arun Try.prog (conOf [(14, lift GrMay)]) (0, [(50, 4, [1, 2, 3, 7], [(0, 3, [])]), (50, 9, [1, 2, 3, 7, 8], [(0, 3, [])]), (50, 14, [1, 2, 3, 9], [(0, 3, [])]), (50, 19, [2, 3, 10], [(0, 3, [])]), (50, 23, [2, 3, 10, 11, 12], [(0, 3, [])]), (50, 29, [2, 3, 13], [(0, 3, [])]), (50, 33, [2, 3, 13, 14, 15], [(0, 3, [])])]) good (RetO (R)) 4000 (rWrong_c33 no se bu cu fr tw te ls ds ps k left i) =
    (bif decide (i < (↑ps.length : Int)) then ((0 : Int) ≤ i ∧ i < (↑ps.length : Int)) ∧ ((0 : Int) ≤ k ∧ k < (↑(List.length (ps.getD i.toNat ePart.dflt)) : Int)) ∧ bif decide (List.getD (ps.getD i.toNat ePart.dflt) k.toNat (0 : Int) > left) then R (some (V.kn (Value.int IntKind.i64 (3 : Int)))) else ((0 : Int) ≤ i ∧ i < (↑ps.length : Int)) ∧ ((0 : Int) ≤ k ∧ k < (↑(List.length (ps.getD i.toNat ePart.dflt)) : Int)) ∧ good { fr := { fn := (50 : Nat), nt := (165 : Nat), t := [((2 : Nat), V.list (1 : Nat) ps.length (ePart.tl ps)), ((3 : Nat), V.ptr (0 : Nat) (0 : Nat)), ((13 : Nat), V.kn (Value.int IntKind.i64 k)), ((14 : Nat), V.kn (Value.int IntKind.i64 (IntKind.i64.wrap (left - List.getD (ps.getD i.toNat ePart.dflt) k.toNat (0 : Int))))), ((15 : Nat), V.kn (Value.int IntKind.i64 (IntKind.i64.wrap (i + (1 : Int)))))], k := loopK Try.prog (50 : Nat) (33 : Nat) }, cs := [], h := [O.cells [V.kn (Value.string no), V.kn (Value.string se), V.kn (Value.string bu), V.kn (Value.string cu), V.kn (Value.string fr), V.kn (Value.string tw), V.kn (Value.int IntKind.i64 te), V.list (3 : Nat) ls.length (eLine.tl ls)]] } else bif left != (0 : Int) then R (some (V.kn (Value.int IntKind.i64 (3 : Int)))) else good { fr := { fn := (50 : Nat), nt := (165 : Nat), t := [((2 : Nat), V.list (1 : Nat) ps.length (ePart.tl ps)), ((3 : Nat), V.ptr (0 : Nat) (0 : Nat)), ((13 : Nat), V.kn (Value.int IntKind.i64 (IntKind.i64.wrap (k + (1 : Int)))))], k := loopK Try.prog (50 : Nat) (29 : Nat) }, cs := [], h := [O.cells [V.kn (Value.string no), V.kn (Value.string se), V.kn (Value.string bu), V.kn (Value.string cu), V.kn (Value.string fr), V.kn (Value.string tw), V.kn (Value.int IntKind.i64 te), V.list (3 : Nat) ls.length (eLine.tl ls)]] }) := by kernel_rfl
theorem rWrong_ok (no se bu cu fr tw : ByteArray) (te : Int) (ls : List Line) (ds : List Int) (ps : List Part) (len_ls : ls.length ≤ maxLen) (len_ds : ds.length ≤ maxLen) (len_ps : ps.length ≤ maxLen) (hp : rWrong_pre no se bu cu fr tw te ls ds ps) (good : Cfg → Prop) (hstep : ∀ c, arun Try.prog (conOf [(14, lift GrMay)]) (0, [(50, 4, [1, 2, 3, 7], [(0, 3, [])]), (50, 9, [1, 2, 3, 7, 8], [(0, 3, [])]), (50, 14, [1, 2, 3, 9], [(0, 3, [])]), (50, 19, [2, 3, 10], [(0, 3, [])]), (50, 23, [2, 3, 10, 11, 12], [(0, 3, [])]), (50, 29, [2, 3, 13], [(0, 3, [])]), (50, 33, [2, 3, 13, 14, 15], [(0, 3, [])])]) good (RetO (Tells (rWrong_val no se bu cu fr tw te ls ds ps))) 4000 (c) → good c) (hext : ∀ c c', CfgExt c c' → good c' → good c) (hle : ∀ c c', CfgLe 0 c c' → good c' → good c) : arun Try.prog (conOf [(14, lift GrMay)]) (0, [(50, 4, [1, 2, 3, 7], [(0, 3, [])]), (50, 9, [1, 2, 3, 7, 8], [(0, 3, [])]), (50, 14, [1, 2, 3, 9], [(0, 3, [])]), (50, 19, [2, 3, 10], [(0, 3, [])]), (50, 23, [2, 3, 10, 11, 12], [(0, 3, [])]), (50, 29, [2, 3, 13], [(0, 3, [])]), (50, 33, [2, 3, 13, 14, 15], [(0, 3, [])])]) good (RetO (Tells (rWrong_val no se bu cu fr tw te ls ds ps))) 4000 (entry Try.prog 50 [.agg [.kn (.string no), .kn (.string se), .kn (.string bu), .kn (.string cu), .kn (.string fr), .kn (.string tw), .kn (.int .i64 te), .list eLine.s ls.length (eLine.tl ls)], .list eInt.s ds.length (eInt.tl ds), .list ePart.s ps.length (ePart.tl ps)]) := by
  rw [rWrong_res]
  obtain ⟨⟨p1, p2, p3, p4, p5, p6, hl, hw⟩, hd, hp2, hq⟩ := hp
  have hmx : maxLen = 9223372036854775807 := rfl
  have okL := eLine.okl_tl len_ls
  have op : rMay_pre no se bu cu fr tw te ls := ⟨p1, p2, p3, p4, p5, p6, hl, hw⟩
  simp only [eLine.dl_tl]
  have out : ∀ e : Int, wrongI (mayB no se bu cu fr tw te ls) ls ds ps = e → Tells (rWrong_val no se bu cu fr tw te ls ds ps) (some (.kn (.int .i64 e))) := fun e h => tell (by rw [rWrong_val, h])
  have stE : (!mayB no se bu cu fr tw te ls || !decide (ps.length = ds.length ∧ 1 ≤ ps.length ∧ ps.length ≤ 64)) = false → bP (∃ x ∈ ds, badDay x) = false → bP (∃ p ∈ ps, badPart ls.length p) = false → (!bP (risesP ds)) = false → bP (∃ p ∈ ps, nonePart p) = false → good (rWrong_c29 no se bu cu fr tw te ls ds ps 0) := fun a1 a2 a3 a4 a5 => by
    have hlen : ∀ p ∈ ps, p.length = ls.length := fun p hp => by
      by_cases e : p.length = ls.length
      · exact e
      · exact (bP_not.1 a3 ⟨p, hp, .inl e⟩).elim
    have no3 : ¬ wholeP ls ps → wrongI (mayB no se bu cu fr tw te ls) ls ds ps = 3 := fun h => by unfold wrongI; rw [a1, a2, a3, a4, a5, bP_false h]; rfl
    refine foreach ls (fun k (_ : Unit) => ∀ t, t < k → goW t (ls.getD t eLine.dflt).count ps = true) (fun k _ => rWrong_c29 no se bu cu fr tw te ls ds ps k) (fun k _ hk hv ih => ?_) (fun _ hv => ?_) () (fun t ht => by omega)
    · apply hstep
      rw [rWrong_l29]
      have e1 : (k : Int).toNat = k := by omega
      rw [e1]
      refine cond_true' (decide_eq_true (by omega)) ⟨⟨by omega, by omega⟩, ?_⟩
      show good (rWrong_c33 no se bu cu fr tw te ls ds ps k (ls.getD k eLine.dflt).count 0)
      refine foreach (S := Int) ps (fun j left => goW k left (ps.drop j) = goW k (ls.getD k eLine.dflt).count ps) (fun j left => rWrong_c33 no se bu cu fr tw te ls ds ps k left j) (fun j left hj hw ih2 => ?_) (fun left hw => ?_) _ (by rw [List.drop_zero])
      · apply hstep
        rw [rWrong_l33]
        have e2 : (j : Int).toNat = j := by omega
        rw [e1, e2, wrap_succ hj len_ps, getD_at _ hj]
        have hpl := hlen _ (List.getElem_mem hj)
        rw [List.drop_eq_getElem_cons hj] at hw
        refine cond_true' (decide_eq_true (by omega)) ⟨⟨by omega, by omega⟩, ⟨by omega, by omega⟩, cond_intro (fun g => out 3 (no3 fun hh => ?_)) (fun g => ⟨⟨by omega, by omega⟩, ⟨by omega, by omega⟩, ih2 _ ?_⟩)⟩
        · have := hh k hk
          rw [← hw, goW, g] at this
          cases this
        · rw [← hw, goW, g]; rfl
      · apply hstep
        rw [rWrong_l33]
        rw [List.drop_length] at hw
        refine cond_false' (decide_eq_false (by omega)) (cond_intro (fun g => out 3 (no3 fun hh => ?_)) (fun g => ?_))
        · have := hh k hk
          rw [← hw, goW] at this
          simp at this g
          exact g this
        · rw [wrap_succ hk len_ls]
          refine ih () (fun t ht => ?_)
          by_cases e : t = k
          · subst e
            rw [← hw, goW]
            simpa using g
          · exact hv t (by omega)
    · apply hstep
      rw [rWrong_l29]
      exact cond_false' (decide_eq_false (by omega)) (out 0 (by unfold wrongI; rw [a1, a2, a3, a4, a5, bP_true (show wholeP ls ps from fun i hi => hv i hi)]; rfl))
  have stD : (!mayB no se bu cu fr tw te ls || !decide (ps.length = ds.length ∧ 1 ≤ ps.length ∧ ps.length ≤ 64)) = false → bP (∃ x ∈ ds, badDay x) = false → bP (∃ p ∈ ps, badPart ls.length p) = false → (!bP (risesP ds)) = false → 0 < ls.length → good (rWrong_c19 no se bu cu fr tw te ls ds ps 0) := fun a1 a2 a3 a4 hl0 => by
    have hgood : ∀ p ∈ ps, p.length = ls.length ∧ ∀ x ∈ p, 0 ≤ x := fun p hp => by
      have := bP_not.1 a3
      refine ⟨?_, fun x hx => ?_⟩
      · by_cases e : p.length = ls.length
        · exact e
        · exact (this ⟨p, hp, .inl e⟩).elim
      · by_cases e : 0 ≤ x
        · exact e
        · exact (this ⟨p, hp, .inr ⟨x, hx, by omega⟩⟩).elim
    have no4 : (∃ p ∈ ps, nonePart p) → wrongI (mayB no se bu cu fr tw te ls) ls ds ps = 4 := fun h => by unfold wrongI; rw [a1, a2, a3, a4, bP_true h]; rfl
    refine foreach ps (fun i (_ : Unit) => ∀ j (hj : j < ps.length), j < i → ¬ nonePart ps[j]) (fun i _ => rWrong_c19 no se bu cu fr tw te ls ds ps i) (fun i _ hi hv ih => ?_) (fun _ hv => ?_) () (fun j hj hji => by omega)
    · apply hstep
      rw [rWrong_l19]
      refine cond_true' (decide_eq_true (by omega)) ?_
      show good (rWrong_c23 no se bu cu fr tw te ls ds ps i 0 false)
      have e1 : (i : Int).toNat = i := by omega
      obtain ⟨g1, g2⟩ := hgood _ (List.getElem_mem hi)
      have hg2 : ps.getD i ePart.dflt = ps[i] := getD_at _ hi
      refine foreach (S := Bool) ps[i] (fun k an => an = true ↔ ∃ t, t < k ∧ 0 < (ps[i]).getD t 0) (fun k an => rWrong_c23 no se bu cu fr tw te ls ds ps i k an) (fun k an hk hw ih2 => ?_) (fun an hw => ?_) false (by simp)
      · apply hstep
        rw [rWrong_l23, e1, hg2]
        have e2 : (k : Int).toNat = k := by omega
        have ew : IntKind.i64.wrap ((k : Int) + 1) = ((k + 1 : Nat) : Int) := by have := hq _ (List.getElem_mem hi); rw [wrap_in (by omega) (by omega)]; omega
        rw [e2, ew]
        refine ⟨⟨by omega, by omega⟩, cond_true' (decide_eq_true (by omega)) (cond_intro (fun g => ih2 _ ?_) (fun g => ⟨⟨by omega, by omega⟩, ⟨by omega, by omega⟩, ih2 _ ?_⟩))⟩
        · obtain ⟨t, h1, h2⟩ := hw.1 g
          exact ⟨fun _ => ⟨t, by omega, h2⟩, fun _ => rfl⟩
        · rw [decide_eq_true_eq]
          constructor
          · intro h; exact ⟨k, by omega, h⟩
          · rintro ⟨t, h1, h2⟩
            by_cases e : t = k
            · subst e; exact h2
            · have := hw.2 ⟨t, by omega, h2⟩
              rw [g] at this; cases this
      · apply hstep
        rw [rWrong_l23, e1, hg2, wrap_succ hi len_ps]
        refine ⟨⟨by omega, by omega⟩, cond_false' (decide_eq_false (by omega)) (cond_intro (fun g => out 4 (no4 ⟨_, List.getElem_mem hi, (maxG_none g2 (by omega)).2 fun hh => ?_⟩)) (fun g => ih () (fun j hj hji => ?_)))⟩
        · have := hw.2 hh
          rw [this] at g; cases g
        · by_cases e : j = i
          · subst e
            intro hn
            have : an = true := by simpa using g
            exact (maxG_none g2 (by omega)).1 hn (hw.1 this)
          · exact hv j hj (by omega)
    · apply hstep
      rw [rWrong_l19]
      refine cond_false' (decide_eq_false (by omega)) (stE a1 a2 a3 a4 (bP_false ?_))
      rintro ⟨p, hp, hn⟩
      obtain ⟨j, hj, rfl⟩ := List.getElem_of_mem hp
      exact hv j hj hj hn
  have stC : (!mayB no se bu cu fr tw te ls || !decide (ps.length = ds.length ∧ 1 ≤ ps.length ∧ ps.length ≤ 64)) = false → bP (∃ x ∈ ds, badDay x) = false → bP (∃ p ∈ ps, badPart ls.length p) = false → 0 < ls.length → 1 ≤ ds.length → good (rWrong_c14 no se bu cu fr tw te ls ds ps 1) := fun a1 a2 a3 hl0 hd1 => by
    refine loop_ind (S := Nat) (fun i => rWrong_c14 no se bu cu fr tw te ls ds ps i) (fun i => 1 ≤ i ∧ i ≤ ds.length ∧ ∀ t, t + 1 < i → ds.getD t 0 ≤ ds.getD (t + 1) 0) (fun i => ds.length - i) (fun i hv ih => ?_) 1 ⟨Nat.le_refl _, hd1, fun t ht => by omega⟩
    obtain ⟨h1, h2, hv⟩ := hv
    apply hstep
    rw [rWrong_l14]
    have e1 : (i : Int).toNat = i := by omega
    refine cond_intro (fun h => ?_) (fun h => ?_)
    · have hi : i < ds.length := by have := of_decide_eq_true h; omega
      have ew : IntKind.i64.wrap ((i : Int) - 1) = ((i - 1 : Nat) : Int) := by rw [wrap_in (by omega) (by omega)]; omega
      rw [e1, ew, Int.toNat_natCast, wrap_succ hi len_ds]
      refine ⟨⟨by omega, by omega⟩, ⟨by omega, by omega⟩, cond_intro (fun g => out 6 ?_) (fun g => ih (i + 1) ⟨by omega, by omega, fun t ht => ?_⟩ (by omega))⟩
      · have : ¬ risesP ds := fun hh => by
          have := hh (i - 1) (by omega)
          rw [show i - 1 + 1 = i by omega] at this
          have := of_decide_eq_true g; omega
        unfold wrongI; rw [a1, a2, a3, bP_false this]; rfl
      · by_cases e : t + 1 = i
        · have := of_decide_eq_false g
          rw [← e] at this
          rw [show t + 1 - 1 = t by omega] at this
          omega
        · exact hv t (by omega)
    · have hi : i = ds.length := by have := of_decide_eq_false h; omega
      subst hi
      exact stD a1 a2 a3 (by rw [bP_true (show risesP ds from fun t ht => hv t ht)]; rfl) hl0
  refine ⟨⟨okL, op⟩, cond_intro (fun h => out 1 (by unfold wrongI; rw [h]; rfl)) (fun hm => cond_intro (fun h => out 1 ?_) (fun h1 => cond_intro (fun h => out 1 ?_) (fun h2 => cond_intro (fun h => out 1 ?_) (fun h3 => ?_))))⟩
  · unfold wrongI; rw [hm, decide_eq_false (by simp at h; omega)]; rfl
  · unfold wrongI; rw [hm, decide_eq_false (by have := of_decide_eq_true h; omega)]; rfl
  · unfold wrongI; rw [hm, decide_eq_false (by have := of_decide_eq_true h; omega)]; rfl
  have hpd : ps.length = ds.length := by simp at h1; omega
  have h2 := of_decide_eq_false h2
  have h3 := of_decide_eq_false h3
  have a1 : (!mayB no se bu cu fr tw te ls || !decide (ps.length = ds.length ∧ 1 ≤ ps.length ∧ ps.length ≤ 64)) = false := by rw [hm, decide_eq_true (by omega)]; rfl
  have hlp : 0 < ls.length := by
    have : mayB no se bu cu fr tw te ls = true := by simpa using hm
    unfold mayB at this
    simp only [Bool.and_eq_true] at this
    have := (bP_iff.1 this.2.2.2.2.2.2.2.2.2).2.1
    omega
  have no1 : ((∃ x ∈ ds, badDay x) ∨ ∃ p ∈ ps, badPart ls.length p) → wrongI (mayB no se bu cu fr tw te ls) ls ds ps = 1 := fun h => by
    unfold wrongI
    rw [a1]
    cases hx : bP (∃ x ∈ ds, badDay x) with
    | true => rfl
    | false => rw [bP_true (h.resolve_left (bP_not.1 hx))]; rfl
  show good (rWrong_c4 no se bu cu fr tw te ls ds ps 0)
  refine foreach ps (fun i (_ : Unit) => ∀ j (hj : j < ps.length), j < i → ¬ badDay (ds[j]'(by omega)) ∧ ¬ badPart ls.length ps[j]) (fun i _ => rWrong_c4 no se bu cu fr tw te ls ds ps i) (fun i _ hi hv ih => ?_) (fun _ hv => ?_) () (fun j hj hji => by omega)
  · apply hstep
    rw [rWrong_l4]
    have e1 : (i : Int).toNat = i := by omega
    have hg2 : ps.getD i ePart.dflt = ps[i] := getD_at _ hi
    have hdi : i < ds.length := by omega
    rw [e1, hg2, getD_at _ hdi]
    refine cond_true' (decide_eq_true (by omega)) ⟨⟨by omega, by omega⟩, cond_intro (fun g => out 1 (no1 (.inl ⟨_, List.getElem_mem hdi, .inl (of_decide_eq_true g)⟩))) (fun b1 => ⟨⟨by omega, by omega⟩, cond_intro (fun g => out 1 (no1 (.inl ⟨_, List.getElem_mem hdi, .inr (of_decide_eq_true g)⟩))) (fun b2 => ⟨⟨by omega, by omega⟩, cond_intro (fun g => out 1 (no1 (.inr ⟨_, List.getElem_mem hi, .inl (by simp at g; omega)⟩))) (fun b3 => ?_)⟩)⟩)⟩
    show good (rWrong_c9 no se bu cu fr tw te ls ds ps i 0)
    refine foreach ps[i] (fun k (_ : Unit) => ∀ t (ht : t < (ps[i]).length), t < k → 0 ≤ (ps[i])[t]) (fun k _ => rWrong_c9 no se bu cu fr tw te ls ds ps i k) (fun k _ hk hw ih2 => ?_) (fun _ hw => ?_) () (fun t ht htk => by omega)
    · apply hstep
      rw [rWrong_l9, e1, hg2]
      have e2 : (k : Int).toNat = k := by omega
      have ew : IntKind.i64.wrap ((k : Int) + 1) = ((k + 1 : Nat) : Int) := by have := hq _ (List.getElem_mem hi); rw [wrap_in (by omega) (by omega)]; omega
      rw [e2, ew, getD_at _ hk]
      refine ⟨⟨by omega, by omega⟩, cond_true' (decide_eq_true (by omega)) ⟨⟨by omega, by omega⟩, ⟨by omega, by omega⟩, cond_intro (fun g => out 1 (no1 (.inr ⟨_, List.getElem_mem hi, .inr ⟨_, List.getElem_mem hk, of_decide_eq_true g⟩⟩))) (fun g => ih2 () (fun t ht htk => ?_))⟩⟩
      by_cases e : t = k
      · subst e; have := of_decide_eq_false g; omega
      · exact hw t ht (by omega)
    · apply hstep
      rw [rWrong_l9, e1, hg2, wrap_succ hi len_ps]
      refine ⟨⟨by omega, by omega⟩, cond_false' (decide_eq_false (by omega)) (ih () (fun j hj hji => ?_))⟩
      by_cases e : j = i
      · subst e
        have := of_decide_eq_false b1; have := of_decide_eq_false b2
        refine ⟨by unfold badDay; omega, ?_⟩
        rintro (h | ⟨x, hx, h⟩)
        · exact h (by simp at b3; omega)
        · obtain ⟨t, ht, rfl⟩ := List.getElem_of_mem hx
          have := hw t ht ht; omega
      · exact hv j hj (by omega)
  · apply hstep
    rw [rWrong_l4]
    refine cond_false' (decide_eq_false (by omega)) (stC a1 (bP_false ?_) (bP_false ?_) hlp (by omega))
    · rintro ⟨x, hx, h⟩
      obtain ⟨j, hj, rfl⟩ := List.getElem_of_mem hx
      exact (hv j (by omega) (by omega)).1 h
    · rintro ⟨p, hp, h⟩
      obtain ⟨j, hj, rfl⟩ := List.getElem_of_mem hp
      exact (hv j hj hj).2 h
theorem rWrong_con : SpecOK Try.prog 50 (lift GrWrong) := by
  refine con_of_run3 (con := conOf [(14, lift GrMay)]) (hs := (0, [(50, 4, [1, 2, 3, 7], [(0, 3, [])]), (50, 9, [1, 2, 3, 7, 8], [(0, 3, [])]), (50, 14, [1, 2, 3, 9], [(0, 3, [])]), (50, 19, [2, 3, 10], [(0, 3, [])]), (50, 23, [2, 3, 10, 11, 12], [(0, 3, [])]), (50, 29, [2, 3, 13], [(0, 3, [])]), (50, 33, [2, 3, 13, 14, 15], [(0, 3, [])])])) 4000 Try.func50 rfl (by kernel_rfl) rfl (conCons rMay_con conNil) ?_
  intro args0 p r hG hp
  unfold GrWrong at hG
  split at hG
  case h_2 => cases hG
  rename_i no se bu cu fr tw te s_ls n_ls f_ls s_ds n_ds f_ds s_ps n_ps f_ps
  cases hG
  obtain ⟨ok_ls, hp⟩ := hp
  obtain ⟨ok_ds, hp⟩ := hp
  obtain ⟨ok_ps, hp⟩ := hp
  exact ⟨[.agg [.kn (.string no), .kn (.string se), .kn (.string bu), .kn (.string cu), .kn (.string fr), .kn (.string tw), .kn (.int .i64 te), .list eLine.s (eLine.dl n_ls f_ls).length (eLine.tl (eLine.dl n_ls f_ls))], .list eInt.s (eInt.dl n_ds f_ds).length (eInt.tl (eInt.dl n_ds f_ds)), .list ePart.s (ePart.dl n_ps f_ps).length (ePart.tl (ePart.dl n_ps f_ps))], ⟨VExt.agg ⟨VExt.refl _, VExt.refl _, VExt.refl _, VExt.refl _, VExt.refl _, VExt.refl _, VExt.refl _, eLine.extl ok_ls, trivial⟩, eInt.extl ok_ds, ePart.extl ok_ps, trivial⟩, by simp [Try.ntmps50], fun good hstep hext hle => rWrong_ok _ _ _ _ _ _ _ _ _ _ (by rw [eLine.dl_length]; exact ok_ls.2.1) (by rw [eInt.dl_length]; exact ok_ds.2.1) (by rw [ePart.dl_length]; exact ok_ps.2.1) hp good hstep hext hle⟩
end Go.Proofs.Ytbedinfkepdobaa
