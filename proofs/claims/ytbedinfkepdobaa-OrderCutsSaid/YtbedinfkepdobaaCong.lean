/- What is proved: contracts of functions of one seat, each by the executor; written by a program of the prover (gen.py) and by hand. Conditions: each contract names its own. -/
import Derived.Test.YtbedinfkepdobaaAw2
import Derived.Test.YtbedinfkepdobaaProg
import Derived.KernelRfl
import Derived.IntWalk
import Derived.Test.YtbedinfkepdobaaConf
import Derived.MapKept
namespace Go.Proofs.Ytbedinfkepdobaa
open Go Go.Aw Go.RowKit
set_option linter.unusedVariables false
set_option linter.unusedSimpArgs false
set_option maxRecDepth 10000
def badPart (n : Nat) (p : Part) : Prop := p.length ≠ n ∨ ∃ x ∈ p, x < 0
def nonePart (p : Part) : Prop := maxG p (p.getD 0 0) = 0


theorem minG_neg : ∀ (xs : List Int) (a : Int), minG xs a < 0 ↔ a < 0 ∨ ∃ x ∈ xs, x < 0
  | [], a => by simp [minG]
  | x :: r, a => by
    have h := minG_neg r (if x < a then x else a)
    have e : minG (x :: r) a = minG r (if x < a then x else a) := rfl
    rw [e, h]
    constructor
    · rintro (h1 | ⟨y, hy, h1⟩)
      · by_cases g : x < a
        · rw [if_pos g] at h1; exact .inr ⟨x, by simp, h1⟩
        · rw [if_neg g] at h1; exact .inl h1
      · exact .inr ⟨y, by simp [hy], h1⟩
    · rintro (h1 | ⟨y, hy, h1⟩)
      · left; split <;> omega
      · rcases List.mem_cons.1 hy with rfl | hy
        · left; split <;> omega
        · exact .inr ⟨y, hy, h1⟩
theorem minG_bad {xs : List Int} (h : 0 < xs.length) : minG xs (xs.getD 0 0) < 0 ↔ ∃ x ∈ xs, x < 0 := by
  rw [minG_neg]
  constructor
  · rintro (h1 | h1)
    · exact ⟨xs[0], List.getElem_mem h, by rwa [getD_at _ h] at h1⟩
    · exact h1
  · exact .inr

def k1_pre (no se bu cu fr tw : ByteArray) (te : Int) (ls : List Line) (ps : List Part) (ds : List Int) : Prop := no.size ≤ maxLen ∧ se.size ≤ maxLen ∧ bu.size ≤ maxLen ∧ cu.size ≤ maxLen ∧ fr.size ≤ maxLen ∧ tw.size ≤ maxLen ∧ ls.length ≤ 70 ∧ ∀ x ∈ ls, eLine_wf x
noncomputable def k1_val (no se bu cu fr tw : ByteArray) (te : Int) (ls : List Line) (ps : List Part) (ds : List Int) : V := .kn (.bool (!mayB no se bu cu fr tw te ls || !decide (ps.length = ds.length ∧ 1 ≤ ps.length ∧ ps.length ≤ 64)))
noncomputable def k1_objs (no se bu cu fr tw : ByteArray) (te : Int) (ls : List Line) (ps : List Part) (ds : List Int) : List O := [.cells [.kn (.string no), .kn (.string se), .kn (.string bu), .kn (.string cu), .kn (.string fr), .kn (.string tw), .kn (.int .i64 te), .list eLine.s ls.length (eLine.tl ls)], .cells [.list ePart.s ps.length (ePart.tl ps)], .cells [.list eInt.s ds.length (eInt.tl ds)]]
noncomputable def Sk1 : SSpec
  | [.ptr 0 0, .ptr 1 0, .ptr 2 0], [.cells [.kn (.string no), .kn (.string se), .kn (.string bu), .kn (.string cu), .kn (.string fr), .kn (.string tw), .kn (.int .i64 te), .list s_ls n_ls f_ls], .cells [.list s_ps n_ps f_ps], .cells [.list s_ds n_ds f_ds]] => .ret (eLine.okl s_ls n_ls f_ls ∧ ePart.okl s_ps n_ps f_ps ∧ eInt.okl s_ds n_ds f_ds ∧ k1_pre no se bu cu fr tw te (eLine.dl n_ls f_ls) (ePart.dl n_ps f_ps) (eInt.dl n_ds f_ds)) (k1_val no se bu cu fr tw te (eLine.dl n_ls f_ls) (ePart.dl n_ps f_ps) (eInt.dl n_ds f_ds)) (k1_objs no se bu cu fr tw te (eLine.dl n_ls f_ls) (ePart.dl n_ps f_ps) (eInt.dl n_ds f_ds))
  | _, _ => .none
theorem k1_res (no se bu cu fr tw : ByteArray) (te : Int) (ls : List Line) (ps : List Part) (ds : List Int) (good : Cfg → Prop) (R : V → List O → Prop) : arun Try.prog (conOf [(13, lift GoMay)]) (3, []) good (RetS 3 [.ptr 0 0, .ptr 1 0, .ptr 2 0] [] (R)) 400 (entryO Try.prog 35 [.ptr 0 0, .ptr 1 0, .ptr 2 0] [.cells [.kn (.string no), .kn (.string se), .kn (.string bu), .kn (.string cu), .kn (.string fr), .kn (.string tw), .kn (.int .i64 te), .list eLine.s ls.length (eLine.tl ls)], .cells [.list ePart.s ps.length (ePart.tl ps)], .cells [.list eInt.s ds.length (eInt.tl ds)]]) =
    ((eLine.okl (3 : Nat) ls.length (eLine.tl ls) ∧ oMay_pre no se bu cu fr tw te (eLine.dl ls.length (eLine.tl ls))) ∧ bif !mayB no se bu cu fr tw te (eLine.dl ls.length (eLine.tl ls)) then R (V.kn (Value.bool true)) [O.cells [V.kn (Value.string no), V.kn (Value.string se), V.kn (Value.string bu), V.kn (Value.string cu), V.kn (Value.string fr), V.kn (Value.string tw), V.kn (Value.int IntKind.i64 te), V.list (3 : Nat) ls.length (eLine.tl ls)], O.cells [V.list (1 : Nat) ps.length (ePart.tl ps)], O.cells [V.list (1 : Nat) ds.length (eInt.tl ds)]] else bif (↑ps.length : Int) != (↑ds.length : Int) then R (V.kn (Value.bool true)) [O.cells [V.kn (Value.string no), V.kn (Value.string se), V.kn (Value.string bu), V.kn (Value.string cu), V.kn (Value.string fr), V.kn (Value.string tw), V.kn (Value.int IntKind.i64 te), V.list (3 : Nat) ls.length (eLine.tl ls)], O.cells [V.list (1 : Nat) ps.length (ePart.tl ps)], O.cells [V.list (1 : Nat) ds.length (eInt.tl ds)]] else bif decide ((↑ps.length : Int) < (1 : Int)) then R (V.kn (Value.bool true)) [O.cells [V.kn (Value.string no), V.kn (Value.string se), V.kn (Value.string bu), V.kn (Value.string cu), V.kn (Value.string fr), V.kn (Value.string tw), V.kn (Value.int IntKind.i64 te), V.list (3 : Nat) ls.length (eLine.tl ls)], O.cells [V.list (1 : Nat) ps.length (ePart.tl ps)], O.cells [V.list (1 : Nat) ds.length (eInt.tl ds)]] else R (V.kn (Value.bool (decide ((↑ps.length : Int) > (64 : Int))))) [O.cells [V.kn (Value.string no), V.kn (Value.string se), V.kn (Value.string bu), V.kn (Value.string cu), V.kn (Value.string fr), V.kn (Value.string tw), V.kn (Value.int IntKind.i64 te), V.list (3 : Nat) ls.length (eLine.tl ls)], O.cells [V.list (1 : Nat) ps.length (ePart.tl ps)], O.cells [V.list (1 : Nat) ds.length (eInt.tl ds)]]) := by kernel_rfl
theorem k1_ok (no se bu cu fr tw : ByteArray) (te : Int) (ls : List Line) (ps : List Part) (ds : List Int) (len_ls : ls.length ≤ maxLen) (len_ps : ps.length ≤ maxLen) (len_ds : ds.length ≤ maxLen) (hp : k1_pre no se bu cu fr tw te ls ps ds) (good : Cfg → Prop) (hstep : ∀ c, arun Try.prog (conOf [(13, lift GoMay)]) (3, []) good (RetS 3 [.ptr 0 0, .ptr 1 0, .ptr 2 0] [] (TellsO 3 (k1_val no se bu cu fr tw te ls ps ds) (k1_objs no se bu cu fr tw te ls ps ds))) 400 (c) → good c) (hext : ∀ c c', CfgExt c c' → good c' → good c) (hle : ∀ c c', CfgLe 3 c c' → good c' → good c) : arun Try.prog (conOf [(13, lift GoMay)]) (3, []) good (RetS 3 [.ptr 0 0, .ptr 1 0, .ptr 2 0] [] (TellsO 3 (k1_val no se bu cu fr tw te ls ps ds) (k1_objs no se bu cu fr tw te ls ps ds))) 400 (entryO Try.prog 35 [.ptr 0 0, .ptr 1 0, .ptr 2 0] [.cells [.kn (.string no), .kn (.string se), .kn (.string bu), .kn (.string cu), .kn (.string fr), .kn (.string tw), .kn (.int .i64 te), .list eLine.s ls.length (eLine.tl ls)], .cells [.list ePart.s ps.length (ePart.tl ps)], .cells [.list eInt.s ds.length (eInt.tl ds)]]) := by
  rw [k1_res]
  have ok := eLine.okl_tl len_ls
  simp only [eLine.dl_tl]
  refine ⟨⟨ok, hp⟩, cond_intro (fun h => tellO_bool ?_ (OExts.refl _)) (fun h => cond_intro (fun h2 => tellO_bool ?_ (OExts.refl _)) (fun h2 => cond_intro (fun h3 => tellO_bool ?_ (OExts.refl _)) (fun h3 => tellO_bool ?_ (OExts.refl _))))⟩
  · rw [h]; rfl
  · rw [h, decide_eq_false (by simp at h2; omega)]; rfl
  · rw [h, decide_eq_false (by have := of_decide_eq_true h3; omega)]; rfl
  · rw [h, Bool.false_or, Bool.eq_iff_iff]
    have h2 : ps.length = ds.length := by simp at h2; omega
    have := of_decide_eq_false h3
    simp only [decide_eq_true_eq, Bool.not_eq_true', decide_eq_false_iff_not]
    omega
theorem k1_con : SpecOK Try.prog 35 (liftS [(0, []), (1, []), (2, [])] Sk1) := by
  refine liftS_ok (con_of_runS (con := conOf [(13, lift GoMay)]) (hs := (3, [])) 400 [] Try.func35 rfl (by kernel_rfl) (conCons oMay_con conNil) ?_)
  intro args0 os0
  unfold Sk1
  split
  case h_2 => trivial
  rename_i no se bu cu fr tw te s_ls n_ls f_ls s_ps n_ps f_ps s_ds n_ds f_ds
  intro hp
  obtain ⟨ok_ls, hp⟩ := hp
  obtain ⟨ok_ps, hp⟩ := hp
  obtain ⟨ok_ds, hp⟩ := hp
  exact ⟨[.ptr 0 0, .ptr 1 0, .ptr 2 0], [.cells [.kn (.string no), .kn (.string se), .kn (.string bu), .kn (.string cu), .kn (.string fr), .kn (.string tw), .kn (.int .i64 te), .list eLine.s (eLine.dl n_ls f_ls).length (eLine.tl (eLine.dl n_ls f_ls))], .cells [.list ePart.s (ePart.dl n_ps f_ps).length (ePart.tl (ePart.dl n_ps f_ps))], .cells [.list eInt.s (eInt.dl n_ds f_ds).length (eInt.tl (eInt.dl n_ds f_ds))]], ⟨VExt.refl _, VExt.refl _, VExt.refl _, trivial⟩, by simp [Try.ntmps35], rfl, Re.exts (⟨OExt.cells ⟨VExt.refl _, VExt.refl _, VExt.refl _, VExt.refl _, VExt.refl _, VExt.refl _, VExt.refl _, eLine.extl ok_ls, trivial⟩, OExt.cells ⟨ePart.extl ok_ps, trivial⟩, OExt.cells ⟨eInt.extl ok_ds, trivial⟩, trivial⟩), fun good hstep hext hle => k1_ok _ _ _ _ _ _ _ _ _ _ (by rw [eLine.dl_length]; exact ok_ls.2.1) (by rw [ePart.dl_length]; exact ok_ps.2.1) (by rw [eInt.dl_length]; exact ok_ds.2.1) hp good hstep hext hle⟩
def k2_pre  (ds : List Int) : Prop := True
noncomputable def k2_val  (ds : List Int) : V := .kn (.bool (bP (∃ x ∈ ds, badDay x)))
noncomputable def k2_objs  (ds : List Int) : List O := [.cells [.list eInt.s ds.length (eInt.tl ds)]]
noncomputable def Sk2 : SSpec
  | [.ptr 0 0], [.cells [.list s_ds n_ds f_ds]] => .ret (eInt.okl s_ds n_ds f_ds ∧ k2_pre (eInt.dl n_ds f_ds)) (k2_val (eInt.dl n_ds f_ds)) (k2_objs (eInt.dl n_ds f_ds))
  | _, _ => .none
theorem k2_res  (ds : List Int) (good : Cfg → Prop) (R : V → List O → Prop) : arun Try.prog (conOf [(66, lift GidxD)]) (1, []) good (RetS 1 [.ptr 0 0] [] (R)) 400 (entryO Try.prog 36 [.ptr 0 0] [.cells [.list eInt.s ds.length (eInt.tl ds)]]) =
    ((eInt.okl (1 : Nat) ds.length (eInt.tl ds) ∧ idxD_pre (eInt.dl ds.length (eInt.tl ds))) ∧ R (V.kn (Value.bool (decide (idxP badDay (eInt.dl ds.length (eInt.tl ds)) ≥ (0 : Int))))) [O.cells [V.list (1 : Nat) ds.length (eInt.tl ds)]]) := by kernel_rfl
theorem k2_ok  (ds : List Int) (len_ds : ds.length ≤ maxLen) (hp : k2_pre ds) (good : Cfg → Prop) (hstep : ∀ c, arun Try.prog (conOf [(66, lift GidxD)]) (1, []) good (RetS 1 [.ptr 0 0] [] (TellsO 1 (k2_val ds) (k2_objs ds))) 400 (c) → good c) (hext : ∀ c c', CfgExt c c' → good c' → good c) (hle : ∀ c c', CfgLe 1 c c' → good c' → good c) : arun Try.prog (conOf [(66, lift GidxD)]) (1, []) good (RetS 1 [.ptr 0 0] [] (TellsO 1 (k2_val ds) (k2_objs ds))) 400 (entryO Try.prog 36 [.ptr 0 0] [.cells [.list eInt.s ds.length (eInt.tl ds)]]) := by
  rw [k2_res]
  have ok := eInt.okl_tl len_ds
  simp only [eInt.dl_tl]
  refine ⟨⟨ok, trivial⟩, tellO_bool ?_ (OExts.refl _)⟩
  rw [eq_comm]
  exact bP_eq (by rw [decide_eq_true_eq]; exact idxP_nonneg)
theorem k2_con : SpecOK Try.prog 36 (liftS [(0, [])] Sk2) := by
  refine liftS_ok (con_of_runS (con := conOf [(66, lift GidxD)]) (hs := (1, [])) 400 [] Try.func36 rfl (by kernel_rfl) (conCons idxD_con conNil) ?_)
  intro args0 os0
  unfold Sk2
  split
  case h_2 => trivial
  rename_i s_ds n_ds f_ds
  intro hp
  obtain ⟨ok_ds, hp⟩ := hp
  exact ⟨[.ptr 0 0], [.cells [.list eInt.s (eInt.dl n_ds f_ds).length (eInt.tl (eInt.dl n_ds f_ds))]], ⟨VExt.refl _, trivial⟩, by simp [Try.ntmps36], rfl, Re.exts (⟨OExt.cells ⟨eInt.extl ok_ds, trivial⟩, trivial⟩), fun good hstep hext hle => k2_ok _ (by rw [eInt.dl_length]; exact ok_ds.2.1) hp good hstep hext hle⟩
def idx3_pre (no se bu cu fr tw : ByteArray) (te : Int) (ls : List Line) (ps : List Part) : Prop := 0 < ls.length ∧ ∀ p ∈ ps, p.length ≤ maxLen
noncomputable def idx3_val (no se bu cu fr tw : ByteArray) (te : Int) (ls : List Line) (ps : List Part) : V := .kn (.int .i64 (idxP (badPart ls.length) ps))
noncomputable def idx3_objs (no se bu cu fr tw : ByteArray) (te : Int) (ls : List Line) (ps : List Part) : List O := [.cells [.kn (.string no), .kn (.string se), .kn (.string bu), .kn (.string cu), .kn (.string fr), .kn (.string tw), .kn (.int .i64 te), .list eLine.s ls.length (eLine.tl ls)]]
noncomputable def Sidx3 : SSpec
  | [.list s_ps n_ps f_ps, .fn 41 [.ptr 0 0]], [.cells [.kn (.string no), .kn (.string se), .kn (.string bu), .kn (.string cu), .kn (.string fr), .kn (.string tw), .kn (.int .i64 te), .list s_ls n_ls f_ls]] => .ret (eLine.okl s_ls n_ls f_ls ∧ ePart.okl s_ps n_ps f_ps ∧ idx3_pre no se bu cu fr tw te (eLine.dl n_ls f_ls) (ePart.dl n_ps f_ps)) (idx3_val no se bu cu fr tw te (eLine.dl n_ls f_ls) (ePart.dl n_ps f_ps)) (idx3_objs no se bu cu fr tw te (eLine.dl n_ls f_ls) (ePart.dl n_ps f_ps))
  | _, _ => .none
theorem idx3_res (no se bu cu fr tw : ByteArray) (te : Int) (ls : List Line) (ps : List Part) (good : Cfg → Prop) (R : V → List O → Prop) : arun Try.prog (conOf [(42, lift GxMin)]) (1, [(67, 2, [0, 1, 7, 8], [])]) good (RetS 1 [.list ePart.s ps.length (ePart.tl ps), .fn 41 [.ptr 0 0]] [] (R)) 400 (entryO Try.prog 67 [.list ePart.s ps.length (ePart.tl ps), .fn 41 [.ptr 0 0]] [.cells [.kn (.string no), .kn (.string se), .kn (.string bu), .kn (.string cu), .kn (.string fr), .kn (.string tw), .kn (.int .i64 te), .list eLine.s ls.length (eLine.tl ls)]]) =
    (good { fr := { fn := (67 : Nat), nt := (19 : Nat), t := [((0 : Nat), V.list (1 : Nat) ps.length (ePart.tl ps)), ((1 : Nat), V.fn (41 : Nat) [V.ptr (0 : Nat) (0 : Nat)]), ((7 : Nat), V.kn (Value.int IntKind.i64 (↑ps.length : Int))), ((8 : Nat), V.kn (Value.int IntKind.i64 (0 : Int)))], k := loopK Try.prog (67 : Nat) (2 : Nat) }, cs := [], h := [O.cells [V.kn (Value.string no), V.kn (Value.string se), V.kn (Value.string bu), V.kn (Value.string cu), V.kn (Value.string fr), V.kn (Value.string tw), V.kn (Value.int IntKind.i64 te), V.list (3 : Nat) ls.length (eLine.tl ls)]] }) := by kernel_rfl
@[reducible] noncomputable def idx3_c2 (no se bu cu fr tw : ByteArray) (te : Int) (ls : List Line) (ps : List Part) (i : Int) : Cfg := ⟨⟨67, 19, [(0, .list ePart.s ps.length (ePart.tl ps)), (1, .fn 41 [.ptr 0 0]), (7, .kn (.int .i64 ps.length)), (8, .kn (.int .i64 i))], loopK Try.prog 67 2⟩, [], [.cells [.kn (.string no), .kn (.string se), .kn (.string bu), .kn (.string cu), .kn (.string fr), .kn (.string tw), .kn (.int .i64 te), .list eLine.s ls.length (eLine.tl ls)]]⟩
theorem idx3_l2 (no se bu cu fr tw : ByteArray) (te : Int) (ls : List Line) (ps : List Part) (i : Int) (good : Cfg → Prop) (R : V → List O → Prop) : arun Try.prog (conOf [(42, lift GxMin)]) (1, [(67, 2, [0, 1, 7, 8], [])]) good (RetS 1 [.list ePart.s ps.length (ePart.tl ps), .fn 41 [.ptr 0 0]] [] (R)) 400 (idx3_c2 no se bu cu fr tw te ls ps i) =
    (bif decide (i < (↑ps.length : Int)) then ((0 : Int) ≤ i ∧ i < (↑ps.length : Int)) ∧ bif (↑(List.length (ps.getD i.toNat ePart.dflt)) : Int) != (↑ls.length : Int) then R (V.kn (Value.int IntKind.i64 i)) [O.cells [V.kn (Value.string no), V.kn (Value.string se), V.kn (Value.string bu), V.kn (Value.string cu), V.kn (Value.string fr), V.kn (Value.string tw), V.kn (Value.int IntKind.i64 te), V.list (3 : Nat) ls.length (eLine.tl ls)]] else (eInt.okl (1 : Nat) (List.length (ps.getD i.toNat ePart.dflt)) (eInt.tl (ps.getD i.toNat ePart.dflt)) ∧ xMin_pre (eInt.dl (List.length (ps.getD i.toNat ePart.dflt)) (eInt.tl (ps.getD i.toNat ePart.dflt)))) ∧ bif decide (minG (eInt.dl (List.length (ps.getD i.toNat ePart.dflt)) (eInt.tl (ps.getD i.toNat ePart.dflt))) ((eInt.dl (List.length (ps.getD i.toNat ePart.dflt)) (eInt.tl (ps.getD i.toNat ePart.dflt))).getD (0 : Nat) (0 : Int)) < (0 : Int)) then R (V.kn (Value.int IntKind.i64 i)) [O.cells [V.kn (Value.string no), V.kn (Value.string se), V.kn (Value.string bu), V.kn (Value.string cu), V.kn (Value.string fr), V.kn (Value.string tw), V.kn (Value.int IntKind.i64 te), V.list (3 : Nat) ls.length (eLine.tl ls)]] else good { fr := { fn := (67 : Nat), nt := (19 : Nat), t := [((0 : Nat), V.list (1 : Nat) ps.length (ePart.tl ps)), ((1 : Nat), V.fn (41 : Nat) [V.ptr (0 : Nat) (0 : Nat)]), ((7 : Nat), V.kn (Value.int IntKind.i64 (↑ps.length : Int))), ((8 : Nat), V.kn (Value.int IntKind.i64 (IntKind.i64.wrap (i + (1 : Int)))))], k := loopK Try.prog (67 : Nat) (2 : Nat) }, cs := [], h := [O.cells [V.kn (Value.string no), V.kn (Value.string se), V.kn (Value.string bu), V.kn (Value.string cu), V.kn (Value.string fr), V.kn (Value.string tw), V.kn (Value.int IntKind.i64 te), V.list (3 : Nat) ls.length (eLine.tl ls)]] } else R (V.kn (Value.int IntKind.i64 (-1 : Int))) [O.cells [V.kn (Value.string no), V.kn (Value.string se), V.kn (Value.string bu), V.kn (Value.string cu), V.kn (Value.string fr), V.kn (Value.string tw), V.kn (Value.int IntKind.i64 te), V.list (3 : Nat) ls.length (eLine.tl ls)]]) := by kernel_rfl
theorem idx3_ok (no se bu cu fr tw : ByteArray) (te : Int) (ls : List Line) (ps : List Part) (len_ls : ls.length ≤ maxLen) (len_ps : ps.length ≤ maxLen) (hp : idx3_pre no se bu cu fr tw te ls ps) (good : Cfg → Prop) (hstep : ∀ c, arun Try.prog (conOf [(42, lift GxMin)]) (1, [(67, 2, [0, 1, 7, 8], [])]) good (RetS 1 [.list ePart.s ps.length (ePart.tl ps), .fn 41 [.ptr 0 0]] [] (TellsO 1 (idx3_val no se bu cu fr tw te ls ps) (idx3_objs no se bu cu fr tw te ls ps))) 400 (c) → good c) (hext : ∀ c c', CfgExt c c' → good c' → good c) (hle : ∀ c c', CfgLe 1 c c' → good c' → good c) : arun Try.prog (conOf [(42, lift GxMin)]) (1, [(67, 2, [0, 1, 7, 8], [])]) good (RetS 1 [.list ePart.s ps.length (ePart.tl ps), .fn 41 [.ptr 0 0]] [] (TellsO 1 (idx3_val no se bu cu fr tw te ls ps) (idx3_objs no se bu cu fr tw te ls ps))) 400 (entryO Try.prog 67 [.list ePart.s ps.length (ePart.tl ps), .fn 41 [.ptr 0 0]] [.cells [.kn (.string no), .kn (.string se), .kn (.string bu), .kn (.string cu), .kn (.string fr), .kn (.string tw), .kn (.int .i64 te), .list eLine.s ls.length (eLine.tl ls)]]) := by
  rw [idx3_res]
  obtain ⟨hl, hq⟩ := hp
  have hmx : maxLen = 9223372036854775807 := rfl
  refine foreach ps (fun i (_ : Unit) => ∀ j (hj : j < ps.length), j < i → ¬ badPart ls.length ps[j]) (fun i _ => idx3_c2 no se bu cu fr tw te ls ps i) (fun i _ hi hv ih => ?_) (fun _ hv => ?_) () (fun j hl hj => by omega)
  · apply hstep
    rw [idx3_l2]
    have e1 : (i : Int).toNat = i := by omega
    rw [e1, wrap_succ hi len_ps, getD_at _ hi]
    have hpl := hq _ (List.getElem_mem hi)
    rw [eInt.dl_tl]
    have hit : badPart ls.length ps[i] → idx3_val no se bu cu fr tw te ls ps = .kn (.int .i64 (i : Int)) := fun h => by rw [idx3_val, idxP_hit hi (fun j hj hji => hv j hj hji) h]
    refine cond_true' (decide_eq_true (by omega)) ⟨⟨by omega, by omega⟩, cond_intro (fun h => tellO_eq (hit (.inl (by simp at h; omega))).symm (OExts.refl _)) (fun h => ?_)⟩
    have hlen : ps[i].length = ls.length := by simp at h; omega
    have hmin := minG_bad (xs := ps[i]) (by omega)
    refine ⟨⟨eInt.okl_tl hpl, by show 0 < ps[i].length; omega⟩, cond_intro (fun h2 => tellO_eq (hit (.inr (hmin.1 (of_decide_eq_true h2)))).symm (OExts.refl _)) (fun h2 => ih () (fun j hl hj => ?_))⟩
    by_cases hji : j = i
    · subst hji
      rintro (h3 | h3)
      · exact h3 hlen
      · exact of_decide_eq_false h2 (hmin.2 h3)
    · exact hv j hl (by omega)
  · apply hstep
    rw [idx3_l2]
    exact cond_false' (decide_eq_false (by omega)) (tellO_eq (by rw [idx3_val, idxP_miss (fun i hi => hv i hi hi)]) (OExts.refl _))
theorem idx3_con : SpecOK Try.prog 67 (liftS [(1, [0])] Sidx3) := by
  refine liftS_ok (con_of_runS (con := conOf [(42, lift GxMin)]) (hs := (1, [(67, 2, [0, 1, 7, 8], [])])) 400 [] Try.func67 rfl (by kernel_rfl) (conCons xMin_con conNil) ?_)
  intro args0 os0
  unfold Sidx3
  split
  case h_2 => trivial
  rename_i s_ps n_ps f_ps no se bu cu fr tw te s_ls n_ls f_ls
  intro hp
  obtain ⟨ok_ls, hp⟩ := hp
  obtain ⟨ok_ps, hp⟩ := hp
  exact ⟨[.list ePart.s (ePart.dl n_ps f_ps).length (ePart.tl (ePart.dl n_ps f_ps)), .fn 41 [.ptr 0 0]], [.cells [.kn (.string no), .kn (.string se), .kn (.string bu), .kn (.string cu), .kn (.string fr), .kn (.string tw), .kn (.int .i64 te), .list eLine.s (eLine.dl n_ls f_ls).length (eLine.tl (eLine.dl n_ls f_ls))]], ⟨ePart.extl ok_ps, VExt.refl _, trivial⟩, by simp [Try.ntmps67], rfl, Re.exts (⟨OExt.cells ⟨VExt.refl _, VExt.refl _, VExt.refl _, VExt.refl _, VExt.refl _, VExt.refl _, VExt.refl _, eLine.extl ok_ls, trivial⟩, trivial⟩), fun good hstep hext hle => idx3_ok _ _ _ _ _ _ _ _ _ (by rw [eLine.dl_length]; exact ok_ls.2.1) (by rw [ePart.dl_length]; exact ok_ps.2.1) hp good hstep hext hle⟩
def k3_pre (no se bu cu fr tw : ByteArray) (te : Int) (ls : List Line) (ps : List Part) : Prop := 0 < ls.length ∧ ∀ p ∈ ps, p.length ≤ maxLen
noncomputable def k3_val (no se bu cu fr tw : ByteArray) (te : Int) (ls : List Line) (ps : List Part) : V := .kn (.bool (bP (∃ p ∈ ps, badPart ls.length p)))
noncomputable def k3_objs (no se bu cu fr tw : ByteArray) (te : Int) (ls : List Line) (ps : List Part) : List O := [.cells [.list ePart.s ps.length (ePart.tl ps)], .cells [.kn (.string no), .kn (.string se), .kn (.string bu), .kn (.string cu), .kn (.string fr), .kn (.string tw), .kn (.int .i64 te), .list eLine.s ls.length (eLine.tl ls)]]
noncomputable def Sk3 : SSpec
  | [.ptr 0 0, .ptr 1 0], [.cells [.list s_ps n_ps f_ps], .cells [.kn (.string no), .kn (.string se), .kn (.string bu), .kn (.string cu), .kn (.string fr), .kn (.string tw), .kn (.int .i64 te), .list s_ls n_ls f_ls]] => .ret (eLine.okl s_ls n_ls f_ls ∧ ePart.okl s_ps n_ps f_ps ∧ k3_pre no se bu cu fr tw te (eLine.dl n_ls f_ls) (ePart.dl n_ps f_ps)) (k3_val no se bu cu fr tw te (eLine.dl n_ls f_ls) (ePart.dl n_ps f_ps)) (k3_objs no se bu cu fr tw te (eLine.dl n_ls f_ls) (ePart.dl n_ps f_ps))
  | _, _ => .none
theorem k3_res (no se bu cu fr tw : ByteArray) (te : Int) (ls : List Line) (ps : List Part) (good : Cfg → Prop) (R : V → List O → Prop) : arun Try.prog (conOf [(67, liftS [(1, [0])] Sidx3)]) (2, []) good (RetS 2 [.ptr 0 0, .ptr 1 0] [] (R)) 400 (entryO Try.prog 39 [.ptr 0 0, .ptr 1 0] [.cells [.list ePart.s ps.length (ePart.tl ps)], .cells [.kn (.string no), .kn (.string se), .kn (.string bu), .kn (.string cu), .kn (.string fr), .kn (.string tw), .kn (.int .i64 te), .list eLine.s ls.length (eLine.tl ls)]]) =
    ((eLine.okl (3 : Nat) ls.length (eLine.tl ls) ∧ ePart.okl (1 : Nat) ps.length (ePart.tl ps) ∧ idx3_pre no se bu cu fr tw te (eLine.dl ls.length (eLine.tl ls)) (ePart.dl ps.length (ePart.tl ps))) ∧ R (V.kn (Value.bool (decide (idxP (badPart (eLine.dl ls.length (eLine.tl ls)).length) (ePart.dl ps.length (ePart.tl ps)) ≥ (0 : Int))))) [O.cells [V.list (1 : Nat) ps.length (ePart.tl ps)], O.cells [V.kn (Value.string no), V.kn (Value.string se), V.kn (Value.string bu), V.kn (Value.string cu), V.kn (Value.string fr), V.kn (Value.string tw), V.kn (Value.int IntKind.i64 te), V.list (3 : Nat) (eLine.dl ls.length (eLine.tl ls)).length (eLine.tl (eLine.dl ls.length (eLine.tl ls)))]]) := by kernel_rfl
theorem k3_ok (no se bu cu fr tw : ByteArray) (te : Int) (ls : List Line) (ps : List Part) (len_ls : ls.length ≤ maxLen) (len_ps : ps.length ≤ maxLen) (hp : k3_pre no se bu cu fr tw te ls ps) (good : Cfg → Prop) (hstep : ∀ c, arun Try.prog (conOf [(67, liftS [(1, [0])] Sidx3)]) (2, []) good (RetS 2 [.ptr 0 0, .ptr 1 0] [] (TellsO 2 (k3_val no se bu cu fr tw te ls ps) (k3_objs no se bu cu fr tw te ls ps))) 400 (c) → good c) (hext : ∀ c c', CfgExt c c' → good c' → good c) (hle : ∀ c c', CfgLe 2 c c' → good c' → good c) : arun Try.prog (conOf [(67, liftS [(1, [0])] Sidx3)]) (2, []) good (RetS 2 [.ptr 0 0, .ptr 1 0] [] (TellsO 2 (k3_val no se bu cu fr tw te ls ps) (k3_objs no se bu cu fr tw te ls ps))) 400 (entryO Try.prog 39 [.ptr 0 0, .ptr 1 0] [.cells [.list ePart.s ps.length (ePart.tl ps)], .cells [.kn (.string no), .kn (.string se), .kn (.string bu), .kn (.string cu), .kn (.string fr), .kn (.string tw), .kn (.int .i64 te), .list eLine.s ls.length (eLine.tl ls)]]) := by
  rw [k3_res]
  have ok := eLine.okl_tl len_ls
  have ok2 := ePart.okl_tl len_ps
  simp only [eLine.dl_tl, ePart.dl_tl]
  refine ⟨⟨ok, ok2, hp⟩, tellO_bool ?_ (OExts.refl _)⟩
  rw [eq_comm]
  exact bP_eq (by rw [decide_eq_true_eq]; exact idxP_nonneg)
theorem k3_con : SpecOK Try.prog 39 (liftS [(0, []), (1, [])] Sk3) := by
  refine liftS_ok (con_of_runS (con := conOf [(67, liftS [(1, [0])] Sidx3)]) (hs := (2, [])) 400 [] Try.func39 rfl (by kernel_rfl) (conCons idx3_con conNil) ?_)
  intro args0 os0
  unfold Sk3
  split
  case h_2 => trivial
  rename_i s_ps n_ps f_ps no se bu cu fr tw te s_ls n_ls f_ls
  intro hp
  obtain ⟨ok_ls, hp⟩ := hp
  obtain ⟨ok_ps, hp⟩ := hp
  exact ⟨[.ptr 0 0, .ptr 1 0], [.cells [.list ePart.s (ePart.dl n_ps f_ps).length (ePart.tl (ePart.dl n_ps f_ps))], .cells [.kn (.string no), .kn (.string se), .kn (.string bu), .kn (.string cu), .kn (.string fr), .kn (.string tw), .kn (.int .i64 te), .list eLine.s (eLine.dl n_ls f_ls).length (eLine.tl (eLine.dl n_ls f_ls))]], ⟨VExt.refl _, VExt.refl _, trivial⟩, by simp [Try.ntmps39], rfl, Re.exts (⟨OExt.cells ⟨ePart.extl ok_ps, trivial⟩, OExt.cells ⟨VExt.refl _, VExt.refl _, VExt.refl _, VExt.refl _, VExt.refl _, VExt.refl _, VExt.refl _, eLine.extl ok_ls, trivial⟩, trivial⟩), fun good hstep hext hle => k3_ok _ _ _ _ _ _ _ _ _ (by rw [eLine.dl_length]; exact ok_ls.2.1) (by rw [ePart.dl_length]; exact ok_ps.2.1) hp good hstep hext hle⟩
def k4_pre  (ds : List Int) : Prop := True
noncomputable def k4_val  (ds : List Int) : V := .kn (.bool (!bP (risesP ds)))
noncomputable def k4_objs  (ds : List Int) : List O := [.cells [.list eInt.s ds.length (eInt.tl ds)]]
noncomputable def Sk4 : SSpec
  | [.ptr 0 0], [.cells [.list s_ds n_ds f_ds]] => .ret (eInt.okl s_ds n_ds f_ds ∧ k4_pre (eInt.dl n_ds f_ds)) (k4_val (eInt.dl n_ds f_ds)) (k4_objs (eInt.dl n_ds f_ds))
  | _, _ => .none
theorem k4_res  (ds : List Int) (good : Cfg → Prop) (R : V → List O → Prop) : arun Try.prog (conOf [(44, lift Gsorted)]) (1, []) good (RetS 1 [.ptr 0 0] [] (R)) 400 (entryO Try.prog 43 [.ptr 0 0] [.cells [.list eInt.s ds.length (eInt.tl ds)]]) =
    ((eInt.okl (1 : Nat) ds.length (eInt.tl ds) ∧ sorted_pre (eInt.dl ds.length (eInt.tl ds))) ∧ R (V.kn (Value.bool !bP (risesP (eInt.dl ds.length (eInt.tl ds))))) [O.cells [V.list (1 : Nat) ds.length (eInt.tl ds)]]) := by kernel_rfl
theorem k4_ok  (ds : List Int) (len_ds : ds.length ≤ maxLen) (hp : k4_pre ds) (good : Cfg → Prop) (hstep : ∀ c, arun Try.prog (conOf [(44, lift Gsorted)]) (1, []) good (RetS 1 [.ptr 0 0] [] (TellsO 1 (k4_val ds) (k4_objs ds))) 400 (c) → good c) (hext : ∀ c c', CfgExt c c' → good c' → good c) (hle : ∀ c c', CfgLe 1 c c' → good c' → good c) : arun Try.prog (conOf [(44, lift Gsorted)]) (1, []) good (RetS 1 [.ptr 0 0] [] (TellsO 1 (k4_val ds) (k4_objs ds))) 400 (entryO Try.prog 43 [.ptr 0 0] [.cells [.list eInt.s ds.length (eInt.tl ds)]]) := by
  rw [k4_res]
  have ok := eInt.okl_tl len_ds
  simp only [eInt.dl_tl]
  exact ⟨⟨ok, trivial⟩, tellO_bool rfl (OExts.refl _)⟩
theorem k4_con : SpecOK Try.prog 43 (liftS [(0, [])] Sk4) := by
  refine liftS_ok (con_of_runS (con := conOf [(44, lift Gsorted)]) (hs := (1, [])) 400 [] Try.func43 rfl (by kernel_rfl) (conCons sorted_con conNil) ?_)
  intro args0 os0
  unfold Sk4
  split
  case h_2 => trivial
  rename_i s_ds n_ds f_ds
  intro hp
  obtain ⟨ok_ds, hp⟩ := hp
  exact ⟨[.ptr 0 0], [.cells [.list eInt.s (eInt.dl n_ds f_ds).length (eInt.tl (eInt.dl n_ds f_ds))]], ⟨VExt.refl _, trivial⟩, by simp [Try.ntmps43], rfl, Re.exts (⟨OExt.cells ⟨eInt.extl ok_ds, trivial⟩, trivial⟩), fun good hstep hext hle => k4_ok _ (by rw [eInt.dl_length]; exact ok_ds.2.1) hp good hstep hext hle⟩
def idx5_pre  (ps : List Part) : Prop := ∀ p ∈ ps, 0 < p.length ∧ p.length ≤ maxLen
noncomputable def idx5_val  (ps : List Part) : V := .kn (.int .i64 (idxP nonePart ps))
noncomputable def Gidx5 : PSpec
  | [.list s_ps n_ps f_ps, .fn 46 []] => some (ePart.okl s_ps n_ps f_ps ∧ idx5_pre (ePart.dl n_ps f_ps), idx5_val (ePart.dl n_ps f_ps))
  | _ => none
theorem idx5_res  (ps : List Part) (good : Cfg → Prop) (R : Option V → Prop) : arun Try.prog (conOf [(47, lift GxMax)]) (0, [(67, 2, [0, 1, 7, 8], [])]) good (RetO (R)) 400 (entry Try.prog 67 [.list ePart.s ps.length (ePart.tl ps), .fn 46 []]) =
    (good { fr := { fn := (67 : Nat), nt := (19 : Nat), t := [((0 : Nat), V.list (1 : Nat) ps.length (ePart.tl ps)), ((1 : Nat), V.fn (46 : Nat) []), ((7 : Nat), V.kn (Value.int IntKind.i64 (↑ps.length : Int))), ((8 : Nat), V.kn (Value.int IntKind.i64 (0 : Int)))], k := loopK Try.prog (67 : Nat) (2 : Nat) }, cs := [], h := [] }) := by kernel_rfl
@[reducible] noncomputable def idx5_c2 (ps : List Part) (i : Int) : Cfg := ⟨⟨67, 19, [(0, .list ePart.s ps.length (ePart.tl ps)), (1, .fn 46 []), (7, .kn (.int .i64 ps.length)), (8, .kn (.int .i64 i))], loopK Try.prog 67 2⟩, [], []⟩
theorem idx5_l2 (ps : List Part) (i : Int) (good : Cfg → Prop) (R : Option V → Prop) : arun Try.prog (conOf [(47, lift GxMax)]) (0, [(67, 2, [0, 1, 7, 8], [])]) good (RetO (R)) 400 (idx5_c2 ps i) =
    (bif decide (i < (↑ps.length : Int)) then ((0 : Int) ≤ i ∧ i < (↑ps.length : Int)) ∧ (eInt.okl (1 : Nat) (List.length (ps.getD i.toNat ePart.dflt)) (eInt.tl (ps.getD i.toNat ePart.dflt)) ∧ xMax_pre (eInt.dl (List.length (ps.getD i.toNat ePart.dflt)) (eInt.tl (ps.getD i.toNat ePart.dflt)))) ∧ bif maxG (eInt.dl (List.length (ps.getD i.toNat ePart.dflt)) (eInt.tl (ps.getD i.toNat ePart.dflt))) ((eInt.dl (List.length (ps.getD i.toNat ePart.dflt)) (eInt.tl (ps.getD i.toNat ePart.dflt))).getD (0 : Nat) (0 : Int)) == (0 : Int) then R (some (V.kn (Value.int IntKind.i64 i))) else good { fr := { fn := (67 : Nat), nt := (19 : Nat), t := [((0 : Nat), V.list (1 : Nat) ps.length (ePart.tl ps)), ((1 : Nat), V.fn (46 : Nat) []), ((7 : Nat), V.kn (Value.int IntKind.i64 (↑ps.length : Int))), ((8 : Nat), V.kn (Value.int IntKind.i64 (IntKind.i64.wrap (i + (1 : Int)))))], k := loopK Try.prog (67 : Nat) (2 : Nat) }, cs := [], h := [] } else R (some (V.kn (Value.int IntKind.i64 (-1 : Int))))) := by kernel_rfl
theorem idx5_ok  (ps : List Part) (len_ps : ps.length ≤ maxLen) (hp : idx5_pre ps) (good : Cfg → Prop) (hstep : ∀ c, arun Try.prog (conOf [(47, lift GxMax)]) (0, [(67, 2, [0, 1, 7, 8], [])]) good (RetO (Tells (idx5_val ps))) 400 (c) → good c) (hext : ∀ c c', CfgExt c c' → good c' → good c) (hle : ∀ c c', CfgLe 0 c c' → good c' → good c) : arun Try.prog (conOf [(47, lift GxMax)]) (0, [(67, 2, [0, 1, 7, 8], [])]) good (RetO (Tells (idx5_val ps))) 400 (entry Try.prog 67 [.list ePart.s ps.length (ePart.tl ps), .fn 46 []]) := by
  rw [idx5_res]
  have hq : ∀ p ∈ ps, 0 < p.length ∧ p.length ≤ maxLen := hp
  have hmx : maxLen = 9223372036854775807 := rfl
  refine foreach ps (fun i (_ : Unit) => ∀ j (hj : j < ps.length), j < i → ¬ nonePart ps[j]) (fun i _ => idx5_c2 ps i) (fun i _ hi hv ih => ?_) (fun _ hv => ?_) () (fun j hl hj => by omega)
  · apply hstep
    rw [idx5_l2]
    have e1 : (i : Int).toNat = i := by omega
    rw [e1, wrap_succ hi len_ps, getD_at _ hi]
    have hpl := hq _ (List.getElem_mem hi)
    rw [eInt.dl_tl]
    refine cond_true' (decide_eq_true (by omega)) ⟨⟨by omega, by omega⟩, ⟨eInt.okl_tl hpl.2, hpl.1⟩, cond_intro (fun h => tell ?_) (fun h => ih () (fun j hl hj => ?_))⟩
    · rw [idx5_val, idxP_hit hi (fun j hj hji => hv j hj hji) (show nonePart ps[i] by unfold nonePart; simpa using h)]
    · by_cases hji : j = i
      · subst hji; unfold nonePart; simpa using h
      · exact hv j hl (by omega)
  · apply hstep
    rw [idx5_l2]
    exact cond_false' (decide_eq_false (by omega)) (tell (by rw [idx5_val, idxP_miss (fun i hi => hv i hi hi)]))
theorem idx5_con : SpecOK Try.prog 67 (lift Gidx5) := by
  refine con_of_run3 (con := conOf [(47, lift GxMax)]) (hs := (0, [(67, 2, [0, 1, 7, 8], [])])) 400 Try.func67 rfl (by kernel_rfl) rfl (conCons xMax_con conNil) ?_
  intro args0 p r hG hp
  unfold Gidx5 at hG
  split at hG
  case h_2 => cases hG
  rename_i s_ps n_ps f_ps
  cases hG
  obtain ⟨ok_ps, hp⟩ := hp
  exact ⟨[.list ePart.s (ePart.dl n_ps f_ps).length (ePart.tl (ePart.dl n_ps f_ps)), .fn 46 []], ⟨ePart.extl ok_ps, VExt.refl _, trivial⟩, by simp [Try.ntmps67], fun good hstep hext hle => idx5_ok _ (by rw [ePart.dl_length]; exact ok_ps.2.1) hp good hstep hext hle⟩
def k5_pre  (ps : List Part) : Prop := ∀ p ∈ ps, 0 < p.length ∧ p.length ≤ maxLen
noncomputable def k5_val  (ps : List Part) : V := .kn (.bool (bP (∃ p ∈ ps, nonePart p)))
noncomputable def k5_objs  (ps : List Part) : List O := [.cells [.list ePart.s ps.length (ePart.tl ps)]]
noncomputable def Sk5 : SSpec
  | [.ptr 0 0], [.cells [.list s_ps n_ps f_ps]] => .ret (ePart.okl s_ps n_ps f_ps ∧ k5_pre (ePart.dl n_ps f_ps)) (k5_val (ePart.dl n_ps f_ps)) (k5_objs (ePart.dl n_ps f_ps))
  | _, _ => .none
theorem k5_res  (ps : List Part) (good : Cfg → Prop) (R : V → List O → Prop) : arun Try.prog (conOf [(67, lift Gidx5)]) (1, []) good (RetS 1 [.ptr 0 0] [] (R)) 400 (entryO Try.prog 45 [.ptr 0 0] [.cells [.list ePart.s ps.length (ePart.tl ps)]]) =
    ((ePart.okl (1 : Nat) ps.length (ePart.tl ps) ∧ idx5_pre (ePart.dl ps.length (ePart.tl ps))) ∧ R (V.kn (Value.bool (decide (idxP nonePart (ePart.dl ps.length (ePart.tl ps)) ≥ (0 : Int))))) [O.cells [V.list (1 : Nat) ps.length (ePart.tl ps)]]) := by kernel_rfl
theorem k5_ok  (ps : List Part) (len_ps : ps.length ≤ maxLen) (hp : k5_pre ps) (good : Cfg → Prop) (hstep : ∀ c, arun Try.prog (conOf [(67, lift Gidx5)]) (1, []) good (RetS 1 [.ptr 0 0] [] (TellsO 1 (k5_val ps) (k5_objs ps))) 400 (c) → good c) (hext : ∀ c c', CfgExt c c' → good c' → good c) (hle : ∀ c c', CfgLe 1 c c' → good c' → good c) : arun Try.prog (conOf [(67, lift Gidx5)]) (1, []) good (RetS 1 [.ptr 0 0] [] (TellsO 1 (k5_val ps) (k5_objs ps))) 400 (entryO Try.prog 45 [.ptr 0 0] [.cells [.list ePart.s ps.length (ePart.tl ps)]]) := by
  rw [k5_res]
  have ok2 := ePart.okl_tl len_ps
  simp only [ePart.dl_tl]
  refine ⟨⟨ok2, hp⟩, tellO_bool ?_ (OExts.refl _)⟩
  rw [eq_comm]
  exact bP_eq (by rw [decide_eq_true_eq]; exact idxP_nonneg)
theorem k5_con : SpecOK Try.prog 45 (liftS [(0, [])] Sk5) := by
  refine liftS_ok (con_of_runS (con := conOf [(67, lift Gidx5)]) (hs := (1, [])) 400 [] Try.func45 rfl (by kernel_rfl) (conCons idx5_con conNil) ?_)
  intro args0 os0
  unfold Sk5
  split
  case h_2 => trivial
  rename_i s_ps n_ps f_ps
  intro hp
  obtain ⟨ok_ps, hp⟩ := hp
  exact ⟨[.ptr 0 0], [.cells [.list ePart.s (ePart.dl n_ps f_ps).length (ePart.tl (ePart.dl n_ps f_ps))]], ⟨VExt.refl _, trivial⟩, by simp [Try.ntmps45], rfl, Re.exts (⟨OExt.cells ⟨ePart.extl ok_ps, trivial⟩, trivial⟩), fun good hstep hext hle => k5_ok _ (by rw [ePart.dl_length]; exact ok_ps.2.1) hp good hstep hext hle⟩
def k6_pre (no se bu cu fr tw : ByteArray) (te : Int) (ls : List Line) (ps : List Part) : Prop := ls.length ≤ 70 ∧ ∀ p ∈ ps, p.length = ls.length
noncomputable def k6_val (no se bu cu fr tw : ByteArray) (te : Int) (ls : List Line) (ps : List Part) : V := .kn (.bool (!bP (wholeP ls ps)))
noncomputable def k6_objs (no se bu cu fr tw : ByteArray) (te : Int) (ls : List Line) (ps : List Part) : List O := [.cells [.kn (.string no), .kn (.string se), .kn (.string bu), .kn (.string cu), .kn (.string fr), .kn (.string tw), .kn (.int .i64 te), .list eLine.s ls.length (eLine.tl ls)], .cells [.list ePart.s ps.length (ePart.tl ps)]]
noncomputable def Sk6 : SSpec
  | [.ptr 0 0, .ptr 1 0], [.cells [.kn (.string no), .kn (.string se), .kn (.string bu), .kn (.string cu), .kn (.string fr), .kn (.string tw), .kn (.int .i64 te), .list s_ls n_ls f_ls], .cells [.list s_ps n_ps f_ps]] => .ret (eLine.okl s_ls n_ls f_ls ∧ ePart.okl s_ps n_ps f_ps ∧ k6_pre no se bu cu fr tw te (eLine.dl n_ls f_ls) (ePart.dl n_ps f_ps)) (k6_val no se bu cu fr tw te (eLine.dl n_ls f_ls) (ePart.dl n_ps f_ps)) (k6_objs no se bu cu fr tw te (eLine.dl n_ls f_ls) (ePart.dl n_ps f_ps))
  | _, _ => .none
theorem k6_res (no se bu cu fr tw : ByteArray) (te : Int) (ls : List Line) (ps : List Part) (good : Cfg → Prop) (R : V → List O → Prop) : arun Try.prog (conOf [(49, lift Gwhole)]) (2, []) good (RetS 2 [.ptr 0 0, .ptr 1 0] [] (R)) 400 (entryO Try.prog 48 [.ptr 0 0, .ptr 1 0] [.cells [.kn (.string no), .kn (.string se), .kn (.string bu), .kn (.string cu), .kn (.string fr), .kn (.string tw), .kn (.int .i64 te), .list eLine.s ls.length (eLine.tl ls)], .cells [.list ePart.s ps.length (ePart.tl ps)]]) =
    ((eLine.okl (3 : Nat) ls.length (eLine.tl ls) ∧ ePart.okl (1 : Nat) ps.length (ePart.tl ps) ∧ whole_pre no se bu cu fr tw te (eLine.dl ls.length (eLine.tl ls)) (ePart.dl ps.length (ePart.tl ps))) ∧ R (V.kn (Value.bool !bP (wholeP (eLine.dl ls.length (eLine.tl ls)) (ePart.dl ps.length (ePart.tl ps))))) [O.cells [V.kn (Value.string no), V.kn (Value.string se), V.kn (Value.string bu), V.kn (Value.string cu), V.kn (Value.string fr), V.kn (Value.string tw), V.kn (Value.int IntKind.i64 te), V.list (3 : Nat) ls.length (eLine.tl ls)], O.cells [V.list (1 : Nat) ps.length (ePart.tl ps)]]) := by kernel_rfl
theorem k6_ok (no se bu cu fr tw : ByteArray) (te : Int) (ls : List Line) (ps : List Part) (len_ls : ls.length ≤ maxLen) (len_ps : ps.length ≤ maxLen) (hp : k6_pre no se bu cu fr tw te ls ps) (good : Cfg → Prop) (hstep : ∀ c, arun Try.prog (conOf [(49, lift Gwhole)]) (2, []) good (RetS 2 [.ptr 0 0, .ptr 1 0] [] (TellsO 2 (k6_val no se bu cu fr tw te ls ps) (k6_objs no se bu cu fr tw te ls ps))) 400 (c) → good c) (hext : ∀ c c', CfgExt c c' → good c' → good c) (hle : ∀ c c', CfgLe 2 c c' → good c' → good c) : arun Try.prog (conOf [(49, lift Gwhole)]) (2, []) good (RetS 2 [.ptr 0 0, .ptr 1 0] [] (TellsO 2 (k6_val no se bu cu fr tw te ls ps) (k6_objs no se bu cu fr tw te ls ps))) 400 (entryO Try.prog 48 [.ptr 0 0, .ptr 1 0] [.cells [.kn (.string no), .kn (.string se), .kn (.string bu), .kn (.string cu), .kn (.string fr), .kn (.string tw), .kn (.int .i64 te), .list eLine.s ls.length (eLine.tl ls)], .cells [.list ePart.s ps.length (ePart.tl ps)]]) := by
  rw [k6_res]
  have ok := eLine.okl_tl len_ls
  have ok2 := ePart.okl_tl len_ps
  simp only [eLine.dl_tl, ePart.dl_tl]
  exact ⟨⟨ok, ok2, hp⟩, tellO_bool rfl (OExts.refl _)⟩
theorem k6_con : SpecOK Try.prog 48 (liftS [(0, []), (1, [])] Sk6) := by
  refine liftS_ok (con_of_runS (con := conOf [(49, lift Gwhole)]) (hs := (2, [])) 400 [] Try.func48 rfl (by kernel_rfl) (conCons whole_con conNil) ?_)
  intro args0 os0
  unfold Sk6
  split
  case h_2 => trivial
  rename_i no se bu cu fr tw te s_ls n_ls f_ls s_ps n_ps f_ps
  intro hp
  obtain ⟨ok_ls, hp⟩ := hp
  obtain ⟨ok_ps, hp⟩ := hp
  exact ⟨[.ptr 0 0, .ptr 1 0], [.cells [.kn (.string no), .kn (.string se), .kn (.string bu), .kn (.string cu), .kn (.string fr), .kn (.string tw), .kn (.int .i64 te), .list eLine.s (eLine.dl n_ls f_ls).length (eLine.tl (eLine.dl n_ls f_ls))], .cells [.list ePart.s (ePart.dl n_ps f_ps).length (ePart.tl (ePart.dl n_ps f_ps))]], ⟨VExt.refl _, VExt.refl _, trivial⟩, by simp [Try.ntmps48], rfl, Re.exts (⟨OExt.cells ⟨VExt.refl _, VExt.refl _, VExt.refl _, VExt.refl _, VExt.refl _, VExt.refl _, VExt.refl _, eLine.extl ok_ls, trivial⟩, OExt.cells ⟨ePart.extl ok_ps, trivial⟩, trivial⟩), fun good hstep hext hle => k6_ok _ _ _ _ _ _ _ _ _ (by rw [eLine.dl_length]; exact ok_ls.2.1) (by rw [ePart.dl_length]; exact ok_ps.2.1) hp good hstep hext hle⟩
end Go.Proofs.Ytbedinfkepdobaa
