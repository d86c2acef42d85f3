/- What is proved: contracts of functions of one seat, each by the executor; written by a program of the prover (gen.py) and by hand. Conditions: each contract names its own. -/
import Derived.Test.YtbedinfkepdobaaAw2
import Derived.Test.YtbedinfkepdobaaProg
import Derived.KernelRfl
import Derived.IntWalk
import Derived.Test.YtbedinfkepdobaaConi
import Derived.MapKept
namespace Go.Proofs.Ytbedinfkepdobaa
open Go Go.Aw Go.RowKit
set_option linter.unusedVariables false
set_option linter.unusedSimpArgs false
set_option maxRecDepth 10000
set_option maxHeartbeats 4000000

theorem wrong0 {b : Bool} {ls : List Line} {ds : List Int} {ps : List Part} (h : wrongI b ls ds ps = 0) : (ps.length = ds.length ∧ 1 ≤ ps.length ∧ ps.length ≤ 64) ∧ ∀ p ∈ ps, p.length = ls.length := by
  unfold wrongI at h
  cases a1 : (!b || !decide (ps.length = ds.length ∧ 1 ≤ ps.length ∧ ps.length ≤ 64)) with
  | true => rw [a1] at h; cases h
  | false =>
    rw [a1] at h
    cases a2 : bP (∃ x ∈ ds, badDay x) with
    | true => rw [a2] at h; cases h
    | false =>
      rw [a2] at h
      cases a3 : bP (∃ p ∈ ps, badPart ls.length p) with
      | true => rw [a3] at h; cases h
      | false =>
        refine ⟨?_, fun p hp => ?_⟩
        · simp only [Bool.or_eq_false_iff, Bool.not_eq_false', decide_eq_true_eq] at a1; exact a1.2
        · by_cases e : p.length = ls.length
          · exact e
          · exact (bP_not.1 a3 ⟨p, hp, .inl e⟩).elim
theorem lot_eq {x y : Lot} (h : (x.good == y.good && (x.count == y.count && true)) = true) : x = y := by
  simp only [Bool.and_eq_true, Go.MapKept.bytes_beq, beq_iff_eq] at h
  obtain ⟨h1, h2, _⟩ := h
  cases x; cases y; simp_all
theorem lot_refl (x : Lot) : (x.good == x.good && (x.count == x.count && true)) = true := by
  simp only [Bool.and_eq_true, Go.MapKept.bytes_beq, beq_iff_eq]
  simp

def rCut_pre (no se bu cu fr tw : ByteArray) (te : Int) (ls : List Line) (ds : List Int) (ps : List Part) : Prop := (no.size ≤ maxLen ∧ se.size ≤ maxLen ∧ bu.size ≤ maxLen ∧ cu.size ≤ maxLen ∧ fr.size ≤ maxLen ∧ tw.size ≤ maxLen ∧ ls.length ≤ 70 ∧ ∀ x ∈ ls, eLine_wf x) ∧ ds.length ≤ 70 ∧ ps.length ≤ 70 ∧ ∀ p ∈ ps, p.length ≤ 70
noncomputable def rCut_val (no se bu cu fr tw : ByteArray) (te : Int) (ls : List Line) (ds : List Int) (ps : List Part) : V := (cutV (wrongI (mayB no se bu cu fr tw te ls) ls ds ps) (cutL no ls ds ps ps.length))
noncomputable def GrCut : PSpec
  | [.agg [.kn (.string no), .kn (.string se), .kn (.string bu), .kn (.string cu), .kn (.string fr), .kn (.string tw), .kn (.int .i64 te), .list s_ls n_ls f_ls], .list s_ds n_ds f_ds, .list s_ps n_ps f_ps] => some (eLine.okl s_ls n_ls f_ls ∧ eInt.okl s_ds n_ds f_ds ∧ ePart.okl s_ps n_ps f_ps ∧ rCut_pre no se bu cu fr tw te (eLine.dl n_ls f_ls) (eInt.dl n_ds f_ds) (ePart.dl n_ps f_ps), rCut_val no se bu cu fr tw te (eLine.dl n_ls f_ls) (eInt.dl n_ds f_ds) (ePart.dl n_ps f_ps))
  | _ => none
theorem rCut_res (no se bu cu fr tw : ByteArray) (te : Int) (ls : List Line) (ds : List Int) (ps : List Part) (good : Cfg → Prop) (R : Option V → Prop) : arun Try.prog (conOf [(50, lift GrWrong)]) (0, [(18, 6, [1, 2, 3, 9, 10], [(0, 3, []), (0, 9, [])]), (18, 10, [1, 2, 3, 9, 10, 11, 12], [(0, 3, []), (0, 9, []), (0, 11, []), (0, 11, [3])])]) good (RetO (R)) 4000 (entry Try.prog 18 [.agg [.kn (.string no), .kn (.string se), .kn (.string bu), .kn (.string cu), .kn (.string fr), .kn (.string tw), .kn (.int .i64 te), .list eLine.s ls.length (eLine.tl ls)], .list eInt.s ds.length (eInt.tl ds), .list ePart.s ps.length (ePart.tl ps)]) =
    ((eLine.okl (3 : Nat) ls.length (eLine.tl ls) ∧ eInt.okl (1 : Nat) ds.length (eInt.tl ds) ∧ ePart.okl (1 : Nat) ps.length (ePart.tl ps) ∧ rWrong_pre no se bu cu fr tw te (eLine.dl ls.length (eLine.tl ls)) (eInt.dl ds.length (eInt.tl ds)) (ePart.dl ps.length (ePart.tl ps))) ∧ bif wrongI (mayB no se bu cu fr tw te (eLine.dl ls.length (eLine.tl ls))) (eLine.dl ls.length (eLine.tl ls)) (eInt.dl ds.length (eInt.tl ds)) (ePart.dl ps.length (ePart.tl ps)) != (0 : Int) then R (some (V.tup [V.list (1 : Nat) (0 : Nat) fun i => [], V.kn (Value.int IntKind.i64 (wrongI (mayB no se bu cu fr tw te (eLine.dl ls.length (eLine.tl ls))) (eLine.dl ls.length (eLine.tl ls)) (eInt.dl ds.length (eInt.tl ds)) (ePart.dl ps.length (ePart.tl ps))))])) else good { fr := { fn := (18 : Nat), nt := (77 : Nat), t := [((1 : Nat), V.list (1 : Nat) ds.length (eInt.tl ds)), ((2 : Nat), V.list (1 : Nat) ps.length (ePart.tl ps)), ((3 : Nat), V.ptr (0 : Nat) (0 : Nat)), ((9 : Nat), V.sl (1 : Nat)), ((10 : Nat), V.kn (Value.int IntKind.i64 (0 : Int)))], k := loopK Try.prog (18 : Nat) (6 : Nat) }, cs := [], h := [O.cells [V.kn (Value.string no), V.kn (Value.string se), V.kn (Value.string bu), V.kn (Value.string cu), V.kn (Value.string fr), V.kn (Value.string tw), V.kn (Value.int IntKind.i64 te), V.list (3 : Nat) ls.length (eLine.tl ls)], O.row (42 : Nat) (4 : Nat) (0 : Nat) (rowF [] (4 : Nat)) true] }) := by kernel_rfl
@[reducible] noncomputable def rCut_c6 (no se bu cu fr tw : ByteArray) (te : Int) (ls : List Line) (ds : List Int) (ps : List Part) (o : List Cgm) (i : Int) : Cfg := ⟨⟨18, 77, [(1, .list eInt.s ds.length (eInt.tl ds)), (2, .list ePart.s ps.length (ePart.tl ps)), (3, .ptr 0 0), (9, .sl 1), (10, .kn (.int .i64 i))], loopK Try.prog 18 6⟩, [], [.cells [.kn (.string no), .kn (.string se), .kn (.string bu), .kn (.string cu), .kn (.string fr), .kn (.string tw), .kn (.int .i64 te), .list eLine.s ls.length (eLine.tl ls)], .row 42 4 o.length (eCgm.tl o) true]⟩
theorem rCut_l6 (no se bu cu fr tw : ByteArray) (te : Int) (ls : List Line) (ds : List Int) (ps : List Part) (o : List Cgm) (i : Int) (good : Cfg → Prop) (R : Option V → Prop) : arun Try.prog (conOf [(50, lift GrWrong)]) (0, [(18, 6, [1, 2, 3, 9, 10], [(0, 3, []), (0, 9, [])]), (18, 10, [1, 2, 3, 9, 10, 11, 12], [(0, 3, []), (0, 9, []), (0, 11, []), (0, 11, [3])])]) good (RetO (R)) 4000 (rCut_c6 no se bu cu fr tw te ls ds ps o i) =
    (bif decide (i < (↑ps.length : Int)) then ((0 : Int) ≤ i ∧ i < (↑ds.length : Int)) ∧ good { fr := { fn := (18 : Nat), nt := (77 : Nat), t := [((1 : Nat), V.list (1 : Nat) ds.length (eInt.tl ds)), ((2 : Nat), V.list (1 : Nat) ps.length (ePart.tl ps)), ((3 : Nat), V.ptr (0 : Nat) (0 : Nat)), ((9 : Nat), V.sl (1 : Nat)), ((10 : Nat), V.kn (Value.int IntKind.i64 i)), ((11 : Nat), V.ptr (2 : Nat) (0 : Nat)), ((12 : Nat), V.kn (Value.int IntKind.i64 (0 : Int)))], k := loopK Try.prog (18 : Nat) (10 : Nat) }, cs := [], h := [O.cells [V.kn (Value.string no), V.kn (Value.string se), V.kn (Value.string bu), V.kn (Value.string cu), V.kn (Value.string fr), V.kn (Value.string tw), V.kn (Value.int IntKind.i64 te), V.list (3 : Nat) ls.length (eLine.tl ls)], O.row (42 : Nat) (4 : Nat) o.length (eCgm.tl o) true, O.cells [V.kn (Value.string no), V.kn (Value.int IntKind.i64 (IntKind.i64.wrap (i + (1 : Int)))), V.kn (Value.int IntKind.i64 (ds.getD i.toNat (0 : Int))), V.kn (Value.slice none (0 : Nat) (0 : Nat))]] } else R (some (V.tup [V.list (4 : Nat) o.length (eCgm.tl o), V.kn (Value.int IntKind.i64 (0 : Int))]))) := by kernel_rfl
@[reducible] noncomputable def rCut_c10 (no se bu cu fr tw : ByteArray) (te : Int) (ls : List Line) (ds : List Int) (ps : List Part) (o : List Cgm) (i j d : Int) (lo : List Lot) (k : Int) : Cfg := ⟨⟨18, 77, [(1, .list eInt.s ds.length (eInt.tl ds)), (2, .list ePart.s ps.length (ePart.tl ps)), (3, .ptr 0 0), (9, .sl 1), (10, .kn (.int .i64 i)), (11, .ptr 2 0), (12, .kn (.int .i64 k))], loopK Try.prog 18 10⟩, [], [.cells [.kn (.string no), .kn (.string se), .kn (.string bu), .kn (.string cu), .kn (.string fr), .kn (.string tw), .kn (.int .i64 te), .list eLine.s ls.length (eLine.tl ls)], .row 42 4 o.length (eCgm.tl o) true, .cells [.kn (.string no), .kn (.int .i64 (j + 1)), .kn (.int .i64 d), .sl 3], .row 50 2 lo.length (eLot.tl lo) true]⟩
theorem rCut_l10 (no se bu cu fr tw : ByteArray) (te : Int) (ls : List Line) (ds : List Int) (ps : List Part) (o : List Cgm) (i j d : Int) (lo : List Lot) (k : Int) (good : Cfg → Prop) (R : Option V → Prop) : arun Try.prog (conOf [(50, lift GrWrong)]) (0, [(18, 6, [1, 2, 3, 9, 10], [(0, 3, []), (0, 9, [])]), (18, 10, [1, 2, 3, 9, 10, 11, 12], [(0, 3, []), (0, 9, []), (0, 11, []), (0, 11, [3])])]) good (RetO (R)) 4000 (rCut_c10 no se bu cu fr tw te ls ds ps o i j d lo k) =
    (((0 : Int) ≤ i ∧ i < (↑ps.length : Int)) ∧ bif decide (k < (↑(List.length (ps.getD i.toNat ePart.dflt)) : Int)) then ((0 : Int) ≤ i ∧ i < (↑ps.length : Int)) ∧ ((0 : Int) ≤ k ∧ k < (↑(List.length (ps.getD i.toNat ePart.dflt)) : Int)) ∧ bif decide (List.getD (ps.getD i.toNat ePart.dflt) k.toNat (0 : Int) > (0 : Int)) then ((0 : Int) ≤ k ∧ k < (↑ls.length : Int)) ∧ ((0 : Int) ≤ i ∧ i < (↑ps.length : Int)) ∧ ((0 : Int) ≤ k ∧ k < (↑(List.length (ps.getD i.toNat ePart.dflt)) : Int)) ∧ (lo.length + (1 : Nat) ≤ (9223372036854775807 : Nat) ∧ (lo.length + (1 : Nat)) * (24 : Nat) ≤ (140737488355328 : Nat)) ∧ good { fr := { fn := (18 : Nat), nt := (77 : Nat), t := [((1 : Nat), V.list (1 : Nat) ds.length (eInt.tl ds)), ((2 : Nat), V.list (1 : Nat) ps.length (ePart.tl ps)), ((3 : Nat), V.ptr (0 : Nat) (0 : Nat)), ((9 : Nat), V.sl (1 : Nat)), ((10 : Nat), V.kn (Value.int IntKind.i64 i)), ((11 : Nat), V.ptr (2 : Nat) (0 : Nat)), ((12 : Nat), V.kn (Value.int IntKind.i64 (IntKind.i64.wrap (k + (1 : Int)))))], k := loopK Try.prog (18 : Nat) (10 : Nat) }, cs := [], h := [O.cells [V.kn (Value.string no), V.kn (Value.string se), V.kn (Value.string bu), V.kn (Value.string cu), V.kn (Value.string fr), V.kn (Value.string tw), V.kn (Value.int IntKind.i64 te), V.list (3 : Nat) ls.length (eLine.tl ls)], O.row (42 : Nat) (4 : Nat) o.length (eCgm.tl o) true, O.cells [V.kn (Value.string no), V.kn (Value.int IntKind.i64 (j + (1 : Int))), V.kn (Value.int IntKind.i64 d), V.sl (3 : Nat)], O.row (50 : Nat) (2 : Nat) (lo.length + (1 : Nat)) (catF lo.length (eLot.tl lo) (rowF [V.kn (Value.string (ls.getD k.toNat eLine.dflt).good), V.kn (Value.int IntKind.i64 (List.getD (ps.getD i.toNat ePart.dflt) k.toNat (0 : Int)))] (2 : Nat))) true] } else good { fr := { fn := (18 : Nat), nt := (77 : Nat), t := [((1 : Nat), V.list (1 : Nat) ds.length (eInt.tl ds)), ((2 : Nat), V.list (1 : Nat) ps.length (ePart.tl ps)), ((3 : Nat), V.ptr (0 : Nat) (0 : Nat)), ((9 : Nat), V.sl (1 : Nat)), ((10 : Nat), V.kn (Value.int IntKind.i64 i)), ((11 : Nat), V.ptr (2 : Nat) (0 : Nat)), ((12 : Nat), V.kn (Value.int IntKind.i64 (IntKind.i64.wrap (k + (1 : Int)))))], k := loopK Try.prog (18 : Nat) (10 : Nat) }, cs := [], h := [O.cells [V.kn (Value.string no), V.kn (Value.string se), V.kn (Value.string bu), V.kn (Value.string cu), V.kn (Value.string fr), V.kn (Value.string tw), V.kn (Value.int IntKind.i64 te), V.list (3 : Nat) ls.length (eLine.tl ls)], O.row (42 : Nat) (4 : Nat) o.length (eCgm.tl o) true, O.cells [V.kn (Value.string no), V.kn (Value.int IntKind.i64 (j + (1 : Int))), V.kn (Value.int IntKind.i64 d), V.sl (3 : Nat)], O.row (50 : Nat) (2 : Nat) lo.length (eLot.tl lo) true] } else (o.length + (1 : Nat) ≤ (9223372036854775807 : Nat) ∧ (o.length + (1 : Nat)) * (56 : Nat) ≤ (140737488355328 : Nat)) ∧ good { fr := { fn := (18 : Nat), nt := (77 : Nat), t := [((1 : Nat), V.list (1 : Nat) ds.length (eInt.tl ds)), ((2 : Nat), V.list (1 : Nat) ps.length (ePart.tl ps)), ((3 : Nat), V.ptr (0 : Nat) (0 : Nat)), ((9 : Nat), V.sl (1 : Nat)), ((10 : Nat), V.kn (Value.int IntKind.i64 (IntKind.i64.wrap (i + (1 : Int)))))], k := loopK Try.prog (18 : Nat) (6 : Nat) }, cs := [], h := [O.cells [V.kn (Value.string no), V.kn (Value.string se), V.kn (Value.string bu), V.kn (Value.string cu), V.kn (Value.string fr), V.kn (Value.string tw), V.kn (Value.int IntKind.i64 te), V.list (3 : Nat) ls.length (eLine.tl ls)], O.row (42 : Nat) (4 : Nat) (o.length + (1 : Nat)) (catF o.length (eCgm.tl o) (rowF [V.kn (Value.string no), V.kn (Value.int IntKind.i64 (j + (1 : Int))), V.kn (Value.int IntKind.i64 d), V.list (2 : Nat) lo.length (eLot.tl lo)] (4 : Nat))) true] }) := by kernel_rfl
theorem rCut_ok (no se bu cu fr tw : ByteArray) (te : Int) (ls : List Line) (ds : List Int) (ps : List Part) (len_ls : ls.length ≤ maxLen) (len_ds : ds.length ≤ maxLen) (len_ps : ps.length ≤ maxLen) (hp : rCut_pre no se bu cu fr tw te ls ds ps) (good : Cfg → Prop) (hstep : ∀ c, arun Try.prog (conOf [(50, lift GrWrong)]) (0, [(18, 6, [1, 2, 3, 9, 10], [(0, 3, []), (0, 9, [])]), (18, 10, [1, 2, 3, 9, 10, 11, 12], [(0, 3, []), (0, 9, []), (0, 11, []), (0, 11, [3])])]) good (RetO (Tells (rCut_val no se bu cu fr tw te ls ds ps))) 4000 (c) → good c) (hext : ∀ c c', CfgExt c c' → good c' → good c) (hle : ∀ c c', CfgLe 0 c c' → good c' → good c) : arun Try.prog (conOf [(50, lift GrWrong)]) (0, [(18, 6, [1, 2, 3, 9, 10], [(0, 3, []), (0, 9, [])]), (18, 10, [1, 2, 3, 9, 10, 11, 12], [(0, 3, []), (0, 9, []), (0, 11, []), (0, 11, [3])])]) good (RetO (Tells (rCut_val no se bu cu fr tw te ls ds ps))) 4000 (entry Try.prog 18 [.agg [.kn (.string no), .kn (.string se), .kn (.string bu), .kn (.string cu), .kn (.string fr), .kn (.string tw), .kn (.int .i64 te), .list eLine.s ls.length (eLine.tl ls)], .list eInt.s ds.length (eInt.tl ds), .list ePart.s ps.length (ePart.tl ps)]) := by
  rw [rCut_res]
  obtain ⟨⟨p1, p2, p3, p4, p5, p6, hl, hw⟩, hd, hp2, hq⟩ := hp
  have hmx : maxLen = 9223372036854775807 := rfl
  have okL := eLine.okl_tl len_ls
  have okD := eInt.okl_tl len_ds
  have okP := ePart.okl_tl len_ps
  have op : rWrong_pre no se bu cu fr tw te ls ds ps := ⟨⟨p1, p2, p3, p4, p5, p6, hl, hw⟩, hd, hp2, hq⟩
  simp only [eLine.dl_tl, eInt.dl_tl, ePart.dl_tl]
  refine ⟨⟨okL, okD, okP, op⟩, cond_intro (fun h => ?_) (fun h => ?_)⟩
  · rw [rCut_val]
    exact err_tells (by simpa using h)
  have h0 : wrongI (mayB no se bu cu fr tw te ls) ls ds ps = 0 := by simpa using h
  obtain ⟨⟨hpd, hp1, hp64⟩, hlen⟩ := wrong0 h0
  refine hext _ (rCut_c6 no se bu cu fr tw te ls ds ps [] 0) ⟨rfl, rfl, rfl, rfl, TExts.refl _, ⟨OExt.refl _, OExt.row rfl (fun i hi => by omega), trivial⟩⟩ ?_
  refine foreach ps (fun i (_ : Unit) => True) (fun i _ => rCut_c6 no se bu cu fr tw te ls ds ps (cutL no ls ds ps i.toNat) i) (fun i _ hi hv ih => ?_) (fun _ hv => ?_) () trivial
  · apply hstep
    rw [rCut_l6]
    have e1 : (i : Int).toNat = i := by omega
    have e2 : (((i + 1 : Nat) : Int)).toNat = i + 1 := by omega
    have ih := ih () trivial
    rw [e2, cut_snoc] at ih
    have ho := cut_len no ls ds ps i
    rw [e1]
    generalize cutL no ls ds ps i = o at *
    have hg : ps.getD i [] = ps[i] := getD_at _ hi
    have hg2 : ps.getD i ePart.dflt = ps[i] := getD_at _ hi
    have hpl := hlen _ (List.getElem_mem hi)
    rw [hg] at ih
    have ew : IntKind.i64.wrap ((i : Int) + 1) = (i : Int) + 1 := wrap_in (by omega) (by omega)
    rw [ew]
    refine cond_true' (decide_eq_true (by omega)) ⟨⟨by omega, by omega⟩, ?_⟩
    refine hle _ _ (nil_cell 2 3 3 50 2 (eLot.tl []) _ rfl rfl rfl) ?_
    show good (rCut_c10 no se bu cu fr tw te ls ds ps o i i (ds.getD i 0) [] 0)
    refine foreach ps[i] (fun k (_ : Unit) => True) (fun k _ => rCut_c10 no se bu cu fr tw te ls ds ps o i i (ds.getD i 0) (lotsF ls ps[i] k.toNat) k) (fun k _ hk hv2 ih2 => ?_) (fun _ hv2 => ?_) () trivial
    · apply hstep
      rw [rCut_l10, e1, hg2]
      have f1 : (k : Int).toNat = k := by omega
      have f2 : (((k + 1 : Nat) : Int)).toNat = k + 1 := by omega
      have ih2 := ih2 () trivial
      have hlo := lots_len ls ps[i] k
      rw [f2, lots_snoc] at ih2
      rw [f1]
      generalize lotsF ls ps[i] k = lo at *
      have ew2 : IntKind.i64.wrap ((k : Int) + 1) = ((k + 1 : Nat) : Int) := by rw [wrap_in (by omega) (by omega)]; omega
      rw [ew2]
      refine ⟨⟨by omega, by omega⟩, cond_true' (decide_eq_true (by omega)) ⟨⟨by omega, by omega⟩, ⟨by omega, by omega⟩, cond_intro (fun g => ?_) (fun g => ?_)⟩⟩
      · rw [if_pos (of_decide_eq_true g)] at ih2
        refine ⟨⟨by omega, by omega⟩, ⟨by omega, by omega⟩, ⟨by omega, by omega⟩, ⟨by omega, by omega⟩, ?_⟩
        exact hext _ (rCut_c10 no se bu cu fr tw te ls ds ps o i i (ds.getD i 0) (lo ++ [⟨(ls.getD k eLine.dflt).good, (ps[i]).getD k 0⟩]) ((k + 1 : Nat) : Int)) ⟨rfl, rfl, rfl, rfl, TExts.refl _, ⟨OExt.refl _, OExt.refl _, OExt.refl _, eLot.oext (eLot.is_app (eLot.is_tl _) (eLot.is_one _ rfl)), trivial⟩⟩ ih2
      · rw [if_neg (of_decide_eq_false g), List.append_nil] at ih2
        exact ih2
    · apply hstep
      rw [rCut_l10, e1, hg2, Int.toNat_natCast]
      refine ⟨⟨by omega, by omega⟩, cond_false' (decide_eq_false (by omega)) ⟨⟨by omega, by omega⟩, ?_⟩⟩
      rw [ew]
      exact hext _ (rCut_c6 no se bu cu fr tw te ls ds ps (o ++ [⟨no, (i : Int) + 1, ds.getD i 0, lotsF ls ps[i] (ps[i]).length⟩]) ((i + 1 : Nat) : Int)) ⟨rfl, rfl, rfl, rfl, TExts.refl _, ⟨OExt.refl _, eCgm.oext (eCgm.is_app (eCgm.is_tl _) (eCgm.is_one ⟨no, (i : Int) + 1, ds.getD i 0, lotsF ls ps[i] (ps[i]).length⟩ rfl)), trivial⟩⟩ ih
  · apply hstep
    rw [rCut_l6, Int.toNat_natCast]
    refine cond_false' (decide_eq_false (by omega)) (tell ?_)
    rw [rCut_val, h0]
    rfl
theorem rCut_con : SpecOK Try.prog 18 (lift GrCut) := by
  refine con_of_run3 (con := conOf [(50, lift GrWrong)]) (hs := (0, [(18, 6, [1, 2, 3, 9, 10], [(0, 3, []), (0, 9, [])]), (18, 10, [1, 2, 3, 9, 10, 11, 12], [(0, 3, []), (0, 9, []), (0, 11, []), (0, 11, [3])])])) 4000 Try.func18 rfl (by kernel_rfl) rfl (conCons rWrong_con conNil) ?_
  intro args0 p r hG hp
  unfold GrCut at hG
  split at hG
  case h_2 => cases hG
  rename_i no se bu cu fr tw te s_ls n_ls f_ls s_ds n_ds f_ds s_ps n_ps f_ps
  cases hG
  obtain ⟨ok_ls, hp⟩ := hp
  obtain ⟨ok_ds, hp⟩ := hp
  obtain ⟨ok_ps, hp⟩ := hp
  exact ⟨[.agg [.kn (.string no), .kn (.string se), .kn (.string bu), .kn (.string cu), .kn (.string fr), .kn (.string tw), .kn (.int .i64 te), .list eLine.s (eLine.dl n_ls f_ls).length (eLine.tl (eLine.dl n_ls f_ls))], .list eInt.s (eInt.dl n_ds f_ds).length (eInt.tl (eInt.dl n_ds f_ds)), .list ePart.s (ePart.dl n_ps f_ps).length (ePart.tl (ePart.dl n_ps f_ps))], ⟨VExt.agg ⟨VExt.refl _, VExt.refl _, VExt.refl _, VExt.refl _, VExt.refl _, VExt.refl _, VExt.refl _, eLine.extl ok_ls, trivial⟩, eInt.extl ok_ds, ePart.extl ok_ps, trivial⟩, by simp [Try.ntmps18], fun good hstep hext hle => rCut_ok _ _ _ _ _ _ _ _ _ _ (by rw [eLine.dl_length]; exact ok_ls.2.1) (by rw [eInt.dl_length]; exact ok_ds.2.1) (by rw [ePart.dl_length]; exact ok_ps.2.1) hp good hstep hext hle⟩
def sLots_pre  (la : List Lot) (lb : List Lot) : Prop := True
noncomputable def sLots_val  (la : List Lot) (lb : List Lot) : V := .kn (.bool (bP (la = lb)))
noncomputable def GsLots : PSpec
  | [.list s_la n_la f_la, .list s_lb n_lb f_lb] => some (eLot.okl s_la n_la f_la ∧ eLot.okl s_lb n_lb f_lb ∧ sLots_pre (eLot.dl n_la f_la) (eLot.dl n_lb f_lb), sLots_val (eLot.dl n_la f_la) (eLot.dl n_lb f_lb))
  | _ => none
theorem sLots_res  (la : List Lot) (lb : List Lot) (good : Cfg → Prop) (R : Option V → Prop) : arun Try.prog (conOf []) (0, [(23, 4, [0, 1, 5], [])]) good (RetO (R)) 400 (entry Try.prog 23 [.list eLot.s la.length (eLot.tl la), .list eLot.s lb.length (eLot.tl lb)]) =
    (bif (↑la.length : Int) != (↑lb.length : Int) then R (some (V.kn (Value.bool false))) else good { fr := { fn := (23 : Nat), nt := (26 : Nat), t := [((0 : Nat), V.list (2 : Nat) la.length (eLot.tl la)), ((1 : Nat), V.list (2 : Nat) lb.length (eLot.tl lb)), ((5 : Nat), V.kn (Value.int IntKind.i64 (0 : Int)))], k := loopK Try.prog (23 : Nat) (4 : Nat) }, cs := [], h := [] }) := by kernel_rfl
@[reducible] noncomputable def sLots_c4 (la : List Lot) (lb : List Lot) (i : Int) : Cfg := ⟨⟨23, 26, [(0, .list eLot.s la.length (eLot.tl la)), (1, .list eLot.s lb.length (eLot.tl lb)), (5, .kn (.int .i64 i))], loopK Try.prog 23 4⟩, [], []⟩
theorem sLots_l4 (la : List Lot) (lb : List Lot) (i : Int) (good : Cfg → Prop) (R : Option V → Prop) : arun Try.prog (conOf []) (0, [(23, 4, [0, 1, 5], [])]) good (RetO (R)) 400 (sLots_c4 la lb i) =
    (bif decide (i < (↑la.length : Int)) then ((0 : Int) ≤ i ∧ i < (↑la.length : Int)) ∧ ((0 : Int) ≤ i ∧ i < (↑lb.length : Int)) ∧ bif !((la.getD i.toNat eLot.dflt).good == (lb.getD i.toNat eLot.dflt).good && ((la.getD i.toNat eLot.dflt).count == (lb.getD i.toNat eLot.dflt).count && true)) then R (some (V.kn (Value.bool false))) else good { fr := { fn := (23 : Nat), nt := (26 : Nat), t := [((0 : Nat), V.list (2 : Nat) la.length (eLot.tl la)), ((1 : Nat), V.list (2 : Nat) lb.length (eLot.tl lb)), ((5 : Nat), V.kn (Value.int IntKind.i64 (IntKind.i64.wrap (i + (1 : Int)))))], k := loopK Try.prog (23 : Nat) (4 : Nat) }, cs := [], h := [] } else R (some (V.kn (Value.bool true)))) := by kernel_rfl
theorem sLots_ok  (la : List Lot) (lb : List Lot) (len_la : la.length ≤ maxLen) (len_lb : lb.length ≤ maxLen) (hp : sLots_pre la lb) (good : Cfg → Prop) (hstep : ∀ c, arun Try.prog (conOf []) (0, [(23, 4, [0, 1, 5], [])]) good (RetO (Tells (sLots_val la lb))) 400 (c) → good c) (hext : ∀ c c', CfgExt c c' → good c' → good c) (hle : ∀ c c', CfgLe 0 c c' → good c' → good c) : arun Try.prog (conOf []) (0, [(23, 4, [0, 1, 5], [])]) good (RetO (Tells (sLots_val la lb))) 400 (entry Try.prog 23 [.list eLot.s la.length (eLot.tl la), .list eLot.s lb.length (eLot.tl lb)]) := by
  rw [sLots_res]
  have hmx : maxLen = 9223372036854775807 := rfl
  refine cond_intro (fun h => ?_) (fun h => ?_)
  · refine tell_false fun e => ?_
    rw [e] at h
    simp at h
  · have hab : la.length = lb.length := by simp at h; omega
    refine foreach la (fun i (_ : Unit) => ∀ j (hj : j < la.length), j < i → la[j] = lb[j]'(by omega)) (fun i _ => sLots_c4 la lb i) (fun i _ hi hv ih => ?_) (fun _ hv => ?_) () (fun j hl hj => by omega)
    · apply hstep
      rw [sLots_l4]
      have e1 : (i : Int).toNat = i := by omega
      rw [e1, wrap_succ hi len_la, getD_at _ hi, getD_at _ (by omega)]
      refine cond_true' (decide_eq_true (by omega)) ⟨⟨by omega, by omega⟩, ⟨by omega, by omega⟩, cond_intro (fun h => ?_) (fun h => ih () (fun j hl hj => ?_))⟩
      · refine tell_false fun e => ?_
        subst e
        rw [lot_refl] at h
        cases h
      · by_cases hji : j = i
        · subst hji; exact lot_eq (by simpa using h)
        · exact hv j hl (by omega)
    · apply hstep
      rw [sLots_l4]
      exact cond_false' (decide_eq_false (by omega)) (tell_true (List.ext_getElem hab fun j h1 h2 => hv j h1 h1))
theorem sLots_con : SpecOK Try.prog 23 (lift GsLots) := by
  refine con_of_run3 (con := conOf []) (hs := (0, [(23, 4, [0, 1, 5], [])])) 400 Try.func23 rfl (by kernel_rfl) rfl conNil ?_
  intro args0 p r hG hp
  unfold GsLots at hG
  split at hG
  case h_2 => cases hG
  rename_i s_la n_la f_la s_lb n_lb f_lb
  cases hG
  obtain ⟨ok_la, hp⟩ := hp
  obtain ⟨ok_lb, hp⟩ := hp
  exact ⟨[.list eLot.s (eLot.dl n_la f_la).length (eLot.tl (eLot.dl n_la f_la)), .list eLot.s (eLot.dl n_lb f_lb).length (eLot.tl (eLot.dl n_lb f_lb))], ⟨eLot.extl ok_la, eLot.extl ok_lb, trivial⟩, by simp [Try.ntmps23], fun good hstep hext hle => sLots_ok _ _ (by rw [eLot.dl_length]; exact ok_la.2.1) (by rw [eLot.dl_length]; exact ok_lb.2.1) hp good hstep hext hle⟩
def Cuts_pre  (ca : List Cgm) (cb : List Cgm) : Prop := (∀ x ∈ ca, x.lots.length ≤ maxLen) ∧ ∀ x ∈ cb, x.lots.length ≤ maxLen
noncomputable def Cuts_val  (ca : List Cgm) (cb : List Cgm) : V := .kn (.bool (bP (ca = cb)))
noncomputable def GCuts : PSpec
  | [.list s_ca n_ca f_ca, .list s_cb n_cb f_cb] => some (eCgm.okl s_ca n_ca f_ca ∧ eCgm.okl s_cb n_cb f_cb ∧ Cuts_pre (eCgm.dl n_ca f_ca) (eCgm.dl n_cb f_cb), Cuts_val (eCgm.dl n_ca f_ca) (eCgm.dl n_cb f_cb))
  | _ => none
theorem Cuts_res  (ca : List Cgm) (cb : List Cgm) (good : Cfg → Prop) (R : Option V → Prop) : arun Try.prog (conOf [(23, lift GsLots)]) (0, [(19, 4, [0, 1, 5], [])]) good (RetO (R)) 400 (entry Try.prog 19 [.list eCgm.s ca.length (eCgm.tl ca), .list eCgm.s cb.length (eCgm.tl cb)]) =
    (bif (↑ca.length : Int) != (↑cb.length : Int) then R (some (V.kn (Value.bool false))) else good { fr := { fn := (19 : Nat), nt := (68 : Nat), t := [((0 : Nat), V.list (4 : Nat) ca.length (eCgm.tl ca)), ((1 : Nat), V.list (4 : Nat) cb.length (eCgm.tl cb)), ((5 : Nat), V.kn (Value.int IntKind.i64 (0 : Int)))], k := loopK Try.prog (19 : Nat) (4 : Nat) }, cs := [], h := [] }) := by kernel_rfl
@[reducible] noncomputable def Cuts_c4 (ca : List Cgm) (cb : List Cgm) (i : Int) : Cfg := ⟨⟨19, 68, [(0, .list eCgm.s ca.length (eCgm.tl ca)), (1, .list eCgm.s cb.length (eCgm.tl cb)), (5, .kn (.int .i64 i))], loopK Try.prog 19 4⟩, [], []⟩
theorem Cuts_l4 (ca : List Cgm) (cb : List Cgm) (i : Int) (good : Cfg → Prop) (R : Option V → Prop) : arun Try.prog (conOf [(23, lift GsLots)]) (0, [(19, 4, [0, 1, 5], [])]) good (RetO (R)) 400 (Cuts_c4 ca cb i) =
    (bif decide (i < (↑ca.length : Int)) then ((0 : Int) ≤ i ∧ i < (↑ca.length : Int)) ∧ ((0 : Int) ≤ i ∧ i < (↑cb.length : Int)) ∧ bif !(ca.getD i.toNat eCgm.dflt).order.toList == (cb.getD i.toNat eCgm.dflt).order.toList then R (some (V.kn (Value.bool false))) else ((0 : Int) ≤ i ∧ i < (↑ca.length : Int)) ∧ ((0 : Int) ≤ i ∧ i < (↑cb.length : Int)) ∧ bif (ca.getD i.toNat eCgm.dflt).num != (cb.getD i.toNat eCgm.dflt).num then R (some (V.kn (Value.bool false))) else ((0 : Int) ≤ i ∧ i < (↑ca.length : Int)) ∧ ((0 : Int) ≤ i ∧ i < (↑cb.length : Int)) ∧ bif (ca.getD i.toNat eCgm.dflt).latest != (cb.getD i.toNat eCgm.dflt).latest then R (some (V.kn (Value.bool false))) else ((0 : Int) ≤ i ∧ i < (↑ca.length : Int)) ∧ ((0 : Int) ≤ i ∧ i < (↑cb.length : Int)) ∧ (eLot.okl (2 : Nat) (ca.getD i.toNat eCgm.dflt).lots.length (eLot.tl (ca.getD i.toNat eCgm.dflt).lots) ∧ eLot.okl (2 : Nat) (cb.getD i.toNat eCgm.dflt).lots.length (eLot.tl (cb.getD i.toNat eCgm.dflt).lots) ∧ sLots_pre (eLot.dl (ca.getD i.toNat eCgm.dflt).lots.length (eLot.tl (ca.getD i.toNat eCgm.dflt).lots)) (eLot.dl (cb.getD i.toNat eCgm.dflt).lots.length (eLot.tl (cb.getD i.toNat eCgm.dflt).lots))) ∧ bif !bP (eLot.dl (ca.getD i.toNat eCgm.dflt).lots.length (eLot.tl (ca.getD i.toNat eCgm.dflt).lots) = eLot.dl (cb.getD i.toNat eCgm.dflt).lots.length (eLot.tl (cb.getD i.toNat eCgm.dflt).lots)) then R (some (V.kn (Value.bool false))) else good { fr := { fn := (19 : Nat), nt := (68 : Nat), t := [((0 : Nat), V.list (4 : Nat) ca.length (eCgm.tl ca)), ((1 : Nat), V.list (4 : Nat) cb.length (eCgm.tl cb)), ((5 : Nat), V.kn (Value.int IntKind.i64 (IntKind.i64.wrap (i + (1 : Int)))))], k := loopK Try.prog (19 : Nat) (4 : Nat) }, cs := [], h := [] } else R (some (V.kn (Value.bool true)))) := by kernel_rfl
theorem Cuts_ok  (ca : List Cgm) (cb : List Cgm) (len_ca : ca.length ≤ maxLen) (len_cb : cb.length ≤ maxLen) (hp : Cuts_pre ca cb) (good : Cfg → Prop) (hstep : ∀ c, arun Try.prog (conOf [(23, lift GsLots)]) (0, [(19, 4, [0, 1, 5], [])]) good (RetO (Tells (Cuts_val ca cb))) 400 (c) → good c) (hext : ∀ c c', CfgExt c c' → good c' → good c) (hle : ∀ c c', CfgLe 0 c c' → good c' → good c) : arun Try.prog (conOf [(23, lift GsLots)]) (0, [(19, 4, [0, 1, 5], [])]) good (RetO (Tells (Cuts_val ca cb))) 400 (entry Try.prog 19 [.list eCgm.s ca.length (eCgm.tl ca), .list eCgm.s cb.length (eCgm.tl cb)]) := by
  rw [Cuts_res]
  have hk : (∀ x ∈ ca, x.lots.length ≤ maxLen) ∧ ∀ x ∈ cb, x.lots.length ≤ maxLen := hp
  have hmx : maxLen = 9223372036854775807 := rfl
  refine cond_intro (fun h => ?_) (fun h => ?_)
  · refine tell_false fun e => ?_
    rw [e] at h
    simp at h
  · have hab : ca.length = cb.length := by simp at h; omega
    refine foreach ca (fun i (_ : Unit) => ∀ j (hj : j < ca.length), j < i → ca[j] = cb[j]'(by omega)) (fun i _ => Cuts_c4 ca cb i) (fun i _ hi hv ih => ?_) (fun _ hv => ?_) () (fun j hl hj => by omega)
    · apply hstep
      rw [Cuts_l4]
      have e1 : (i : Int).toNat = i := by omega
      rw [e1, wrap_succ hi len_ca, getD_at _ hi, getD_at _ (by omega)]
      have k1 := hk.1 _ (List.getElem_mem hi)
      have k2 := hk.2 _ (List.getElem_mem (show i < cb.length by omega))
      have no : ca[i] ≠ cb[i]'(by omega) → Tells (Cuts_val ca cb) (some (.kn (.bool false))) := fun h => tell_false fun e => h (by subst e; rfl)
      simp only [eLot.dl_tl]
      refine cond_true' (decide_eq_true (by omega)) ⟨⟨by omega, by omega⟩, ⟨by omega, by omega⟩, cond_intro (fun h => no fun e => by rw [e] at h; simp at h) (fun h1 => ⟨⟨by omega, by omega⟩, ⟨by omega, by omega⟩, cond_intro (fun h => no fun e => by rw [e] at h; simp at h) (fun h2 => ⟨⟨by omega, by omega⟩, ⟨by omega, by omega⟩, cond_intro (fun h => no fun e => by rw [e] at h; simp at h) (fun h3 => ⟨⟨by omega, by omega⟩, ⟨by omega, by omega⟩, ⟨eLot.okl_tl k1, eLot.okl_tl k2, trivial⟩, cond_intro (fun h => no fun e => by rw [e, bP_true rfl] at h; cases h) (fun h4 => ih () (fun j hl hj => ?_))⟩)⟩)⟩)⟩
      by_cases hji : j = i
      · subst hji
        have g1 : (ca[j]).order = (cb[j]'(by omega)).order := list_eq (by simpa using h1)
        have g2 : (ca[j]).num = (cb[j]'(by omega)).num := by simpa using h2
        have g3 : (ca[j]).latest = (cb[j]'(by omega)).latest := by simpa using h3
        have g4 : (ca[j]).lots = (cb[j]'(by omega)).lots := bP_iff.1 (by simpa using h4)
        generalize ca[j] = x at *
        generalize cb[j]'(by omega) = y at *
        cases x; cases y; simp_all
      · exact hv j hl (by omega)
    · apply hstep
      rw [Cuts_l4]
      exact cond_false' (decide_eq_false (by omega)) (tell_true (List.ext_getElem hab fun j h1 h2 => hv j h1 h1))
theorem Cuts_con : SpecOK Try.prog 19 (lift GCuts) := by
  refine con_of_run3 (con := conOf [(23, lift GsLots)]) (hs := (0, [(19, 4, [0, 1, 5], [])])) 400 Try.func19 rfl (by kernel_rfl) rfl (conCons sLots_con conNil) ?_
  intro args0 p r hG hp
  unfold GCuts at hG
  split at hG
  case h_2 => cases hG
  rename_i s_ca n_ca f_ca s_cb n_cb f_cb
  cases hG
  obtain ⟨ok_ca, hp⟩ := hp
  obtain ⟨ok_cb, hp⟩ := hp
  exact ⟨[.list eCgm.s (eCgm.dl n_ca f_ca).length (eCgm.tl (eCgm.dl n_ca f_ca)), .list eCgm.s (eCgm.dl n_cb f_cb).length (eCgm.tl (eCgm.dl n_cb f_cb))], ⟨eCgm.extl ok_ca, eCgm.extl ok_cb, trivial⟩, by simp [Try.ntmps19], fun good hstep hext hle => Cuts_ok _ _ (by rw [eCgm.dl_length]; exact ok_ca.2.1) (by rw [eCgm.dl_length]; exact ok_cb.2.1) hp good hstep hext hle⟩
end Go.Proofs.Ytbedinfkepdobaa
