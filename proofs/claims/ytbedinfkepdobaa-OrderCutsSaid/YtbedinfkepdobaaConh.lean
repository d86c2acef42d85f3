/- What is proved: contracts of functions of one seat, each by the executor; written by a program of the prover (gen.py) and by hand. Conditions: each contract names its own. -/
import Derived.Test.YtbedinfkepdobaaAw2
import Derived.Test.YtbedinfkepdobaaProg
import Derived.KernelRfl
import Derived.IntWalk
import Derived.Test.YtbedinfkepdobaaCong
import Derived.MapKept
namespace Go.Proofs.Ytbedinfkepdobaa
open Go Go.Aw Go.RowKit
set_option linter.unusedVariables false
set_option linter.unusedSimpArgs false
set_option maxRecDepth 10000
structure Cgm where
  order : ByteArray
  num : Int
  latest : Int
  lots : List Lot
def eCgm : Enc Cgm where
  s := 4
  toV d := [.kn (.string d.order), .kn (.int .i64 d.num), .kn (.int .i64 d.latest), .list eLot.s d.lots.length (eLot.tl d.lots)]
  ofV c := match c with | [x0, x1, x2, x3] => ⟨vStr x0, vInt x1, vInt x2, vList eLot x3⟩ | _ => ⟨ByteArray.empty, 0, 0, []⟩
  dflt := ⟨ByteArray.empty, 0, 0, []⟩
  inv d := by cases d; simp only [vList_V]; rfl
  len d := rfl
def eCgm_wf (d : Cgm) : Prop := d.order.size ≤ maxLen ∧ inI64 d.num ∧ inI64 d.latest ∧ d.lots.length ≤ maxLen ∧ ∀ x ∈ d.lots, eLot_wf x

def lotsF (ls : List Line) (p : Part) (i : Nat) : List Lot := (List.range i).flatMap fun (k : Nat) => if p.getD k 0 > 0 then [⟨(ls.getD k eLine.dflt).good, p.getD k 0⟩] else []
def cutL (no : ByteArray) (ls : List Line) (ds : List Int) (ps : List Part) (i : Nat) : List Cgm := (List.range i).map fun (j : Nat) => ⟨no, (j : Int) + 1, ds.getD j 0, lotsF ls (ps.getD j []) (ps.getD j []).length⟩
noncomputable def wrongI (b : Bool) (ls : List Line) (ds : List Int) (ps : List Part) : Int := bif (!b || !decide (ps.length = ds.length ∧ 1 ≤ ps.length ∧ ps.length ≤ 64)) then 1 else bif bP (∃ x ∈ ds, badDay x) then 1 else bif bP (∃ p ∈ ps, badPart ls.length p) then 1 else bif !bP (risesP ds) then 6 else bif bP (∃ p ∈ ps, nonePart p) then 4 else bif !bP (wholeP ls ps) then 3 else 0
noncomputable def cutV (e : Int) (l : List Cgm) : V := .tup [.list eCgm.s (bif e == 0 then l else []).length (eCgm.tl (bif e == 0 then l else [])), .kn (.int .i64 e)]

set_option maxHeartbeats 4000000

theorem vext_tup2 {a a' b : V} (h : VExt a a') : VExt (.tup [a, b]) (.tup [a', b]) := fun F σ x hr => by
  cases hr with
  | tup hl hh =>
    refine .tup hl fun i v hv => ?_
    match i, hv with
    | 0, hv => cases hv; exact h _ _ _ (hh 0 a rfl)
    | 1, hv => cases hv; exact hh 1 b rfl
theorem lots_snoc (ls : List Line) (p : Part) (i : Nat) : lotsF ls p (i + 1) = lotsF ls p i ++ (if p.getD i 0 > 0 then [⟨(ls.getD i eLine.dflt).good, p.getD i 0⟩] else []) := by
  unfold lotsF; rw [List.range_succ, List.flatMap_append]; simp
theorem lots_len (ls : List Line) (p : Part) : ∀ i, (lotsF ls p i).length ≤ i
  | 0 => by simp [lotsF]
  | i + 1 => by
    rw [lots_snoc, List.length_append]
    have := lots_len ls p i
    split <;> simp <;> omega
theorem cut_snoc (no : ByteArray) (ls : List Line) (ds : List Int) (ps : List Part) (i : Nat) : cutL no ls ds ps (i + 1) = cutL no ls ds ps i ++ [⟨no, (i : Int) + 1, ds.getD i 0, lotsF ls (ps.getD i []) (ps.getD i []).length⟩] := by
  unfold cutL; rw [List.range_succ, List.map_append]; rfl
theorem cut_len (no : ByteArray) (ls : List Line) (ds : List Int) (ps : List Part) (i : Nat) : (cutL no ls ds ps i).length = i := by simp [cutL]
theorem err_tells {e : Int} {l : List Cgm} {f : Nat → List V} (h : (e == 0) = false) : Tells (cutV e l) (some (.tup [.list 1 0 f, .kn (.int .i64 e)])) := by
  refine ⟨_, rfl, ?_⟩
  unfold cutV
  rw [h]
  exact vext_tup2 VExt.nilL

def oCut_pre (no se bu cu fr tw : ByteArray) (te : Int) (ls : List Line) (ds : List Int) (ps : List Part) : Prop := (no.size ≤ maxLen ∧ se.size ≤ maxLen ∧ bu.size ≤ maxLen ∧ cu.size ≤ maxLen ∧ fr.size ≤ maxLen ∧ tw.size ≤ maxLen ∧ ls.length ≤ 70 ∧ ∀ x ∈ ls, eLine_wf x) ∧ ds.length ≤ 70 ∧ ps.length ≤ 70 ∧ ∀ p ∈ ps, p.length ≤ 70
noncomputable def oCut_val (no se bu cu fr tw : ByteArray) (te : Int) (ls : List Line) (ds : List Int) (ps : List Part) : V := (cutV (wrongI (mayB no se bu cu fr tw te ls) ls ds ps) (cutL no ls ds ps ps.length))
noncomputable def GoCut : PSpec
  | [.agg [.kn (.string no), .kn (.string se), .kn (.string bu), .kn (.string cu), .kn (.string fr), .kn (.string tw), .kn (.int .i64 te), .list s_ls n_ls f_ls], .list s_ds n_ds f_ds, .list s_ps n_ps f_ps] => some (eLine.okl s_ls n_ls f_ls ∧ eInt.okl s_ds n_ds f_ds ∧ ePart.okl s_ps n_ps f_ps ∧ oCut_pre no se bu cu fr tw te (eLine.dl n_ls f_ls) (eInt.dl n_ds f_ds) (ePart.dl n_ps f_ps), oCut_val no se bu cu fr tw te (eLine.dl n_ls f_ls) (eInt.dl n_ds f_ds) (ePart.dl n_ps f_ps))
  | _ => none
theorem oCut_res (no se bu cu fr tw : ByteArray) (te : Int) (ls : List Line) (ds : List Int) (ps : List Part) (good : Cfg → Prop) (R : Option V → Prop) : arun Try.prog (conOf [(35, liftS [(0, []), (1, []), (2, [])] Sk1), (36, liftS [(0, [])] Sk2), (39, liftS [(0, []), (1, [])] Sk3), (43, liftS [(0, [])] Sk4), (45, liftS [(0, [])] Sk5), (48, liftS [(0, []), (1, [])] Sk6)]) (0, [(17, 6, [3, 4, 9, 32, 33, 34], [(0, 3, []), (0, 4, []), (0, 9, [])]), (17, 10, [3, 4, 9, 12, 32, 33, 34, 48, 49, 50], [(0, 3, []), (0, 4, []), (0, 9, []), (0, 12, []), (0, 12, [3])])]) good (RetO (R)) 4000 (entry Try.prog 17 [.agg [.kn (.string no), .kn (.string se), .kn (.string bu), .kn (.string cu), .kn (.string fr), .kn (.string tw), .kn (.int .i64 te), .list eLine.s ls.length (eLine.tl ls)], .list eInt.s ds.length (eInt.tl ds), .list ePart.s ps.length (ePart.tl ps)]) =
    (((0 : Int) ≤ (0 : Int) ∧ (0 : Int) < (6 : Int)) ∧ (0 : Nat) < (6 : Nat) ∧ (eLine.okl (3 : Nat) ls.length (eLine.tl ls) ∧ ePart.okl (1 : Nat) ps.length (ePart.tl ps) ∧ eInt.okl (1 : Nat) ds.length (eInt.tl ds) ∧ k1_pre no se bu cu fr tw te (eLine.dl ls.length (eLine.tl ls)) (ePart.dl ps.length (ePart.tl ps)) (eInt.dl ds.length (eInt.tl ds))) ∧ bif !mayB no se bu cu fr tw te (eLine.dl ls.length (eLine.tl ls)) || !decide ((ePart.dl ps.length (ePart.tl ps)).length = (eInt.dl ds.length (eInt.tl ds)).length ∧ (1 : Nat) ≤ (ePart.dl ps.length (ePart.tl ps)).length ∧ (ePart.dl ps.length (ePart.tl ps)).length ≤ (64 : Nat)) then R (some (V.tup [V.list (1 : Nat) (0 : Nat) fun i => [], V.kn (Value.int IntKind.i64 (1 : Int))])) else ((0 : Int) ≤ (1 : Int) ∧ (1 : Int) < (6 : Int)) ∧ (1 : Nat) < (6 : Nat) ∧ (eInt.okl (1 : Nat) (eInt.dl ds.length (eInt.tl ds)).length (eInt.tl (eInt.dl ds.length (eInt.tl ds))) ∧ k2_pre (eInt.dl (eInt.dl ds.length (eInt.tl ds)).length (eInt.tl (eInt.dl ds.length (eInt.tl ds))))) ∧ bif bP (∃ x, x ∈ eInt.dl (eInt.dl ds.length (eInt.tl ds)).length (eInt.tl (eInt.dl ds.length (eInt.tl ds))) ∧ badDay x) then R (some (V.tup [V.list (1 : Nat) (0 : Nat) fun i => [], V.kn (Value.int IntKind.i64 (1 : Int))])) else ((0 : Int) ≤ (2 : Int) ∧ (2 : Int) < (6 : Int)) ∧ (2 : Nat) < (6 : Nat) ∧ (eLine.okl (3 : Nat) (eLine.dl ls.length (eLine.tl ls)).length (eLine.tl (eLine.dl ls.length (eLine.tl ls))) ∧ ePart.okl (1 : Nat) (ePart.dl ps.length (ePart.tl ps)).length (ePart.tl (ePart.dl ps.length (ePart.tl ps))) ∧ k3_pre no se bu cu fr tw te (eLine.dl (eLine.dl ls.length (eLine.tl ls)).length (eLine.tl (eLine.dl ls.length (eLine.tl ls)))) (ePart.dl (ePart.dl ps.length (ePart.tl ps)).length (ePart.tl (ePart.dl ps.length (ePart.tl ps))))) ∧ bif bP (∃ p, p ∈ ePart.dl (ePart.dl ps.length (ePart.tl ps)).length (ePart.tl (ePart.dl ps.length (ePart.tl ps))) ∧ badPart (eLine.dl (eLine.dl ls.length (eLine.tl ls)).length (eLine.tl (eLine.dl ls.length (eLine.tl ls)))).length p) then R (some (V.tup [V.list (1 : Nat) (0 : Nat) fun i => [], V.kn (Value.int IntKind.i64 (1 : Int))])) else ((0 : Int) ≤ (3 : Int) ∧ (3 : Int) < (6 : Int)) ∧ (3 : Nat) < (6 : Nat) ∧ (eInt.okl (1 : Nat) (eInt.dl (eInt.dl ds.length (eInt.tl ds)).length (eInt.tl (eInt.dl ds.length (eInt.tl ds)))).length (eInt.tl (eInt.dl (eInt.dl ds.length (eInt.tl ds)).length (eInt.tl (eInt.dl ds.length (eInt.tl ds))))) ∧ k4_pre (eInt.dl (eInt.dl (eInt.dl ds.length (eInt.tl ds)).length (eInt.tl (eInt.dl ds.length (eInt.tl ds)))).length (eInt.tl (eInt.dl (eInt.dl ds.length (eInt.tl ds)).length (eInt.tl (eInt.dl ds.length (eInt.tl ds))))))) ∧ bif !bP (risesP (eInt.dl (eInt.dl (eInt.dl ds.length (eInt.tl ds)).length (eInt.tl (eInt.dl ds.length (eInt.tl ds)))).length (eInt.tl (eInt.dl (eInt.dl ds.length (eInt.tl ds)).length (eInt.tl (eInt.dl ds.length (eInt.tl ds))))))) then R (some (V.tup [V.list (1 : Nat) (0 : Nat) fun i => [], V.kn (Value.int IntKind.i64 (6 : Int))])) else ((0 : Int) ≤ (4 : Int) ∧ (4 : Int) < (6 : Int)) ∧ (4 : Nat) < (6 : Nat) ∧ (ePart.okl (1 : Nat) (ePart.dl (ePart.dl ps.length (ePart.tl ps)).length (ePart.tl (ePart.dl ps.length (ePart.tl ps)))).length (ePart.tl (ePart.dl (ePart.dl ps.length (ePart.tl ps)).length (ePart.tl (ePart.dl ps.length (ePart.tl ps))))) ∧ k5_pre (ePart.dl (ePart.dl (ePart.dl ps.length (ePart.tl ps)).length (ePart.tl (ePart.dl ps.length (ePart.tl ps)))).length (ePart.tl (ePart.dl (ePart.dl ps.length (ePart.tl ps)).length (ePart.tl (ePart.dl ps.length (ePart.tl ps))))))) ∧ bif bP (∃ p, p ∈ ePart.dl (ePart.dl (ePart.dl ps.length (ePart.tl ps)).length (ePart.tl (ePart.dl ps.length (ePart.tl ps)))).length (ePart.tl (ePart.dl (ePart.dl ps.length (ePart.tl ps)).length (ePart.tl (ePart.dl ps.length (ePart.tl ps))))) ∧ nonePart p) then R (some (V.tup [V.list (1 : Nat) (0 : Nat) fun i => [], V.kn (Value.int IntKind.i64 (4 : Int))])) else ((0 : Int) ≤ (5 : Int) ∧ (5 : Int) < (6 : Int)) ∧ (5 : Nat) < (6 : Nat) ∧ (eLine.okl (3 : Nat) (eLine.dl (eLine.dl ls.length (eLine.tl ls)).length (eLine.tl (eLine.dl ls.length (eLine.tl ls)))).length (eLine.tl (eLine.dl (eLine.dl ls.length (eLine.tl ls)).length (eLine.tl (eLine.dl ls.length (eLine.tl ls))))) ∧ ePart.okl (1 : Nat) (ePart.dl (ePart.dl (ePart.dl ps.length (ePart.tl ps)).length (ePart.tl (ePart.dl ps.length (ePart.tl ps)))).length (ePart.tl (ePart.dl (ePart.dl ps.length (ePart.tl ps)).length (ePart.tl (ePart.dl ps.length (ePart.tl ps)))))).length (ePart.tl (ePart.dl (ePart.dl (ePart.dl ps.length (ePart.tl ps)).length (ePart.tl (ePart.dl ps.length (ePart.tl ps)))).length (ePart.tl (ePart.dl (ePart.dl ps.length (ePart.tl ps)).length (ePart.tl (ePart.dl ps.length (ePart.tl ps))))))) ∧ k6_pre no se bu cu fr tw te (eLine.dl (eLine.dl (eLine.dl ls.length (eLine.tl ls)).length (eLine.tl (eLine.dl ls.length (eLine.tl ls)))).length (eLine.tl (eLine.dl (eLine.dl ls.length (eLine.tl ls)).length (eLine.tl (eLine.dl ls.length (eLine.tl ls)))))) (ePart.dl (ePart.dl (ePart.dl (ePart.dl ps.length (ePart.tl ps)).length (ePart.tl (ePart.dl ps.length (ePart.tl ps)))).length (ePart.tl (ePart.dl (ePart.dl ps.length (ePart.tl ps)).length (ePart.tl (ePart.dl ps.length (ePart.tl ps)))))).length (ePart.tl (ePart.dl (ePart.dl (ePart.dl ps.length (ePart.tl ps)).length (ePart.tl (ePart.dl ps.length (ePart.tl ps)))).length (ePart.tl (ePart.dl (ePart.dl ps.length (ePart.tl ps)).length (ePart.tl (ePart.dl ps.length (ePart.tl ps))))))))) ∧ bif !bP (wholeP (eLine.dl (eLine.dl (eLine.dl ls.length (eLine.tl ls)).length (eLine.tl (eLine.dl ls.length (eLine.tl ls)))).length (eLine.tl (eLine.dl (eLine.dl ls.length (eLine.tl ls)).length (eLine.tl (eLine.dl ls.length (eLine.tl ls)))))) (ePart.dl (ePart.dl (ePart.dl (ePart.dl ps.length (ePart.tl ps)).length (ePart.tl (ePart.dl ps.length (ePart.tl ps)))).length (ePart.tl (ePart.dl (ePart.dl ps.length (ePart.tl ps)).length (ePart.tl (ePart.dl ps.length (ePart.tl ps)))))).length (ePart.tl (ePart.dl (ePart.dl (ePart.dl ps.length (ePart.tl ps)).length (ePart.tl (ePart.dl ps.length (ePart.tl ps)))).length (ePart.tl (ePart.dl (ePart.dl ps.length (ePart.tl ps)).length (ePart.tl (ePart.dl ps.length (ePart.tl ps))))))))) then R (some (V.tup [V.list (1 : Nat) (0 : Nat) fun i => [], V.kn (Value.int IntKind.i64 (3 : Int))])) else good { fr := { fn := (17 : Nat), nt := (77 : Nat), t := [((3 : Nat), V.ptr (0 : Nat) (0 : Nat)), ((4 : Nat), V.ptr (1 : Nat) (0 : Nat)), ((9 : Nat), V.kn (Value.slice none (0 : Nat) (0 : Nat))), ((32 : Nat), V.list (1 : Nat) (ePart.dl (ePart.dl (ePart.dl (ePart.dl ps.length (ePart.tl ps)).length (ePart.tl (ePart.dl ps.length (ePart.tl ps)))).length (ePart.tl (ePart.dl (ePart.dl ps.length (ePart.tl ps)).length (ePart.tl (ePart.dl ps.length (ePart.tl ps)))))).length (ePart.tl (ePart.dl (ePart.dl (ePart.dl ps.length (ePart.tl ps)).length (ePart.tl (ePart.dl ps.length (ePart.tl ps)))).length (ePart.tl (ePart.dl (ePart.dl ps.length (ePart.tl ps)).length (ePart.tl (ePart.dl ps.length (ePart.tl ps)))))))).length (ePart.tl (ePart.dl (ePart.dl (ePart.dl (ePart.dl ps.length (ePart.tl ps)).length (ePart.tl (ePart.dl ps.length (ePart.tl ps)))).length (ePart.tl (ePart.dl (ePart.dl ps.length (ePart.tl ps)).length (ePart.tl (ePart.dl ps.length (ePart.tl ps)))))).length (ePart.tl (ePart.dl (ePart.dl (ePart.dl ps.length (ePart.tl ps)).length (ePart.tl (ePart.dl ps.length (ePart.tl ps)))).length (ePart.tl (ePart.dl (ePart.dl ps.length (ePart.tl ps)).length (ePart.tl (ePart.dl ps.length (ePart.tl ps)))))))))), ((33 : Nat), V.kn (Value.int IntKind.i64 (↑(ePart.dl (ePart.dl (ePart.dl (ePart.dl ps.length (ePart.tl ps)).length (ePart.tl (ePart.dl ps.length (ePart.tl ps)))).length (ePart.tl (ePart.dl (ePart.dl ps.length (ePart.tl ps)).length (ePart.tl (ePart.dl ps.length (ePart.tl ps)))))).length (ePart.tl (ePart.dl (ePart.dl (ePart.dl ps.length (ePart.tl ps)).length (ePart.tl (ePart.dl ps.length (ePart.tl ps)))).length (ePart.tl (ePart.dl (ePart.dl ps.length (ePart.tl ps)).length (ePart.tl (ePart.dl ps.length (ePart.tl ps)))))))).length : Int))), ((34 : Nat), V.kn (Value.int IntKind.i64 (0 : Int)))], k := loopK Try.prog (17 : Nat) (6 : Nat) }, cs := [], h := [O.cells [V.kn (Value.string no), V.kn (Value.string se), V.kn (Value.string bu), V.kn (Value.string cu), V.kn (Value.string fr), V.kn (Value.string tw), V.kn (Value.int IntKind.i64 te), V.list (3 : Nat) (eLine.dl (eLine.dl (eLine.dl ls.length (eLine.tl ls)).length (eLine.tl (eLine.dl ls.length (eLine.tl ls)))).length (eLine.tl (eLine.dl (eLine.dl ls.length (eLine.tl ls)).length (eLine.tl (eLine.dl ls.length (eLine.tl ls)))))).length (eLine.tl (eLine.dl (eLine.dl (eLine.dl ls.length (eLine.tl ls)).length (eLine.tl (eLine.dl ls.length (eLine.tl ls)))).length (eLine.tl (eLine.dl (eLine.dl ls.length (eLine.tl ls)).length (eLine.tl (eLine.dl ls.length (eLine.tl ls)))))))], O.cells [V.list (1 : Nat) (eInt.dl (eInt.dl (eInt.dl ds.length (eInt.tl ds)).length (eInt.tl (eInt.dl ds.length (eInt.tl ds)))).length (eInt.tl (eInt.dl (eInt.dl ds.length (eInt.tl ds)).length (eInt.tl (eInt.dl ds.length (eInt.tl ds)))))).length (eInt.tl (eInt.dl (eInt.dl (eInt.dl ds.length (eInt.tl ds)).length (eInt.tl (eInt.dl ds.length (eInt.tl ds)))).length (eInt.tl (eInt.dl (eInt.dl ds.length (eInt.tl ds)).length (eInt.tl (eInt.dl ds.length (eInt.tl ds)))))))]] }) := by kernel_rfl
@[reducible] noncomputable def oCut_c6 (no se bu cu fr tw : ByteArray) (te : Int) (ls : List Line) (ds : List Int) (ps : List Part) (o : List Cgm) (i : Int) : Cfg := ⟨⟨17, 77, [(3, .ptr 0 0), (4, .ptr 1 0), (9, .sl 2), (32, .list ePart.s ps.length (ePart.tl ps)), (33, .kn (.int .i64 ps.length)), (34, .kn (.int .i64 i))], loopK Try.prog 17 6⟩, [], [.cells [.kn (.string no), .kn (.string se), .kn (.string bu), .kn (.string cu), .kn (.string fr), .kn (.string tw), .kn (.int .i64 te), .list eLine.s ls.length (eLine.tl ls)], .cells [.list eInt.s ds.length (eInt.tl ds)], .row 42 4 o.length (eCgm.tl o) true]⟩
theorem oCut_l6 (no se bu cu fr tw : ByteArray) (te : Int) (ls : List Line) (ds : List Int) (ps : List Part) (o : List Cgm) (i : Int) (good : Cfg → Prop) (R : Option V → Prop) : arun Try.prog (conOf [(35, liftS [(0, []), (1, []), (2, [])] Sk1), (36, liftS [(0, [])] Sk2), (39, liftS [(0, []), (1, [])] Sk3), (43, liftS [(0, [])] Sk4), (45, liftS [(0, [])] Sk5), (48, liftS [(0, []), (1, [])] Sk6)]) (0, [(17, 6, [3, 4, 9, 32, 33, 34], [(0, 3, []), (0, 4, []), (0, 9, [])]), (17, 10, [3, 4, 9, 12, 32, 33, 34, 48, 49, 50], [(0, 3, []), (0, 4, []), (0, 9, []), (0, 12, []), (0, 12, [3])])]) good (RetO (R)) 4000 (oCut_c6 no se bu cu fr tw te ls ds ps o i) =
    (bif decide (i < (↑ps.length : Int)) then ((0 : Int) ≤ i ∧ i < (↑ps.length : Int)) ∧ ((0 : Int) ≤ i ∧ i < (↑ds.length : Int)) ∧ good { fr := { fn := (17 : Nat), nt := (77 : Nat), t := [((3 : Nat), V.ptr (0 : Nat) (0 : Nat)), ((4 : Nat), V.ptr (1 : Nat) (0 : Nat)), ((9 : Nat), V.sl (2 : Nat)), ((12 : Nat), V.ptr (3 : Nat) (0 : Nat)), ((32 : Nat), V.list (1 : Nat) ps.length (ePart.tl ps)), ((33 : Nat), V.kn (Value.int IntKind.i64 (↑ps.length : Int))), ((34 : Nat), V.kn (Value.int IntKind.i64 i)), ((48 : Nat), V.list (1 : Nat) (List.length (ps.getD i.toNat ePart.dflt)) (eInt.tl (ps.getD i.toNat ePart.dflt))), ((49 : Nat), V.kn (Value.int IntKind.i64 (↑(List.length (ps.getD i.toNat ePart.dflt)) : Int))), ((50 : Nat), V.kn (Value.int IntKind.i64 (0 : Int)))], k := loopK Try.prog (17 : Nat) (10 : Nat) }, cs := [], h := [O.cells [V.kn (Value.string no), V.kn (Value.string se), V.kn (Value.string bu), V.kn (Value.string cu), V.kn (Value.string fr), V.kn (Value.string tw), V.kn (Value.int IntKind.i64 te), V.list (3 : Nat) ls.length (eLine.tl ls)], O.cells [V.list (1 : Nat) ds.length (eInt.tl ds)], O.row (42 : Nat) (4 : Nat) o.length (eCgm.tl o) true, O.cells [V.kn (Value.string no), V.kn (Value.int IntKind.i64 (IntKind.i64.wrap (i + (1 : Int)))), V.kn (Value.int IntKind.i64 (ds.getD i.toNat (0 : Int))), V.kn (Value.slice none (0 : Nat) (0 : Nat))]] } else R (some (V.tup [V.list (4 : Nat) o.length (eCgm.tl o), V.kn (Value.int IntKind.i64 (0 : Int))]))) := by kernel_rfl
@[reducible] noncomputable def oCut_c10 (no se bu cu fr tw : ByteArray) (te : Int) (ls : List Line) (ds : List Int) (ps : List Part) (o : List Cgm) (i j d : Int) (q : Part) (lo : List Lot) (k : Int) : Cfg := ⟨⟨17, 77, [(3, .ptr 0 0), (4, .ptr 1 0), (9, .sl 2), (12, .ptr 3 0), (32, .list ePart.s ps.length (ePart.tl ps)), (33, .kn (.int .i64 ps.length)), (34, .kn (.int .i64 i)), (48, .list 1 q.length (eInt.tl q)), (49, .kn (.int .i64 q.length)), (50, .kn (.int .i64 k))], loopK Try.prog 17 10⟩, [], [.cells [.kn (.string no), .kn (.string se), .kn (.string bu), .kn (.string cu), .kn (.string fr), .kn (.string tw), .kn (.int .i64 te), .list eLine.s ls.length (eLine.tl ls)], .cells [.list eInt.s ds.length (eInt.tl ds)], .row 42 4 o.length (eCgm.tl o) true, .cells [.kn (.string no), .kn (.int .i64 (j + 1)), .kn (.int .i64 d), .sl 4], .row 50 2 lo.length (eLot.tl lo) true]⟩
theorem oCut_l10 (no se bu cu fr tw : ByteArray) (te : Int) (ls : List Line) (ds : List Int) (ps : List Part) (o : List Cgm) (i j d : Int) (q : Part) (lo : List Lot) (k : Int) (good : Cfg → Prop) (R : Option V → Prop) : arun Try.prog (conOf [(35, liftS [(0, []), (1, []), (2, [])] Sk1), (36, liftS [(0, [])] Sk2), (39, liftS [(0, []), (1, [])] Sk3), (43, liftS [(0, [])] Sk4), (45, liftS [(0, [])] Sk5), (48, liftS [(0, []), (1, [])] Sk6)]) (0, [(17, 6, [3, 4, 9, 32, 33, 34], [(0, 3, []), (0, 4, []), (0, 9, [])]), (17, 10, [3, 4, 9, 12, 32, 33, 34, 48, 49, 50], [(0, 3, []), (0, 4, []), (0, 9, []), (0, 12, []), (0, 12, [3])])]) good (RetO (R)) 4000 (oCut_c10 no se bu cu fr tw te ls ds ps o i j d q lo k) =
    (bif decide (k < (↑(List.length q) : Int)) then ((0 : Int) ≤ k ∧ k < (↑(List.length q) : Int)) ∧ bif decide (List.getD q k.toNat (0 : Int) > (0 : Int)) then ((0 : Int) ≤ k ∧ k < (↑ls.length : Int)) ∧ (lo.length + (1 : Nat) ≤ (9223372036854775807 : Nat) ∧ (lo.length + (1 : Nat)) * (24 : Nat) ≤ (140737488355328 : Nat)) ∧ good { fr := { fn := (17 : Nat), nt := (77 : Nat), t := [((3 : Nat), V.ptr (0 : Nat) (0 : Nat)), ((4 : Nat), V.ptr (1 : Nat) (0 : Nat)), ((9 : Nat), V.sl (2 : Nat)), ((12 : Nat), V.ptr (3 : Nat) (0 : Nat)), ((32 : Nat), V.list (1 : Nat) ps.length (ePart.tl ps)), ((33 : Nat), V.kn (Value.int IntKind.i64 (↑ps.length : Int))), ((34 : Nat), V.kn (Value.int IntKind.i64 i)), ((48 : Nat), V.list (1 : Nat) (List.length q) (eInt.tl q)), ((49 : Nat), V.kn (Value.int IntKind.i64 (↑(List.length q) : Int))), ((50 : Nat), V.kn (Value.int IntKind.i64 (IntKind.i64.wrap (k + (1 : Int)))))], k := loopK Try.prog (17 : Nat) (10 : Nat) }, cs := [], h := [O.cells [V.kn (Value.string no), V.kn (Value.string se), V.kn (Value.string bu), V.kn (Value.string cu), V.kn (Value.string fr), V.kn (Value.string tw), V.kn (Value.int IntKind.i64 te), V.list (3 : Nat) ls.length (eLine.tl ls)], O.cells [V.list (1 : Nat) ds.length (eInt.tl ds)], O.row (42 : Nat) (4 : Nat) o.length (eCgm.tl o) true, O.cells [V.kn (Value.string no), V.kn (Value.int IntKind.i64 (j + (1 : Int))), V.kn (Value.int IntKind.i64 d), V.sl (4 : Nat)], O.row (50 : Nat) (2 : Nat) (lo.length + (1 : Nat)) (catF lo.length (eLot.tl lo) (rowF [V.kn (Value.string (ls.getD k.toNat eLine.dflt).good), V.kn (Value.int IntKind.i64 (List.getD q k.toNat (0 : Int)))] (2 : Nat))) true] } else good { fr := { fn := (17 : Nat), nt := (77 : Nat), t := [((3 : Nat), V.ptr (0 : Nat) (0 : Nat)), ((4 : Nat), V.ptr (1 : Nat) (0 : Nat)), ((9 : Nat), V.sl (2 : Nat)), ((12 : Nat), V.ptr (3 : Nat) (0 : Nat)), ((32 : Nat), V.list (1 : Nat) ps.length (ePart.tl ps)), ((33 : Nat), V.kn (Value.int IntKind.i64 (↑ps.length : Int))), ((34 : Nat), V.kn (Value.int IntKind.i64 i)), ((48 : Nat), V.list (1 : Nat) (List.length q) (eInt.tl q)), ((49 : Nat), V.kn (Value.int IntKind.i64 (↑(List.length q) : Int))), ((50 : Nat), V.kn (Value.int IntKind.i64 (IntKind.i64.wrap (k + (1 : Int)))))], k := loopK Try.prog (17 : Nat) (10 : Nat) }, cs := [], h := [O.cells [V.kn (Value.string no), V.kn (Value.string se), V.kn (Value.string bu), V.kn (Value.string cu), V.kn (Value.string fr), V.kn (Value.string tw), V.kn (Value.int IntKind.i64 te), V.list (3 : Nat) ls.length (eLine.tl ls)], O.cells [V.list (1 : Nat) ds.length (eInt.tl ds)], O.row (42 : Nat) (4 : Nat) o.length (eCgm.tl o) true, O.cells [V.kn (Value.string no), V.kn (Value.int IntKind.i64 (j + (1 : Int))), V.kn (Value.int IntKind.i64 d), V.sl (4 : Nat)], O.row (50 : Nat) (2 : Nat) lo.length (eLot.tl lo) true] } else (o.length + (1 : Nat) ≤ (9223372036854775807 : Nat) ∧ (o.length + (1 : Nat)) * (56 : Nat) ≤ (140737488355328 : Nat)) ∧ good { fr := { fn := (17 : Nat), nt := (77 : Nat), t := [((3 : Nat), V.ptr (0 : Nat) (0 : Nat)), ((4 : Nat), V.ptr (1 : Nat) (0 : Nat)), ((9 : Nat), V.sl (2 : Nat)), ((32 : Nat), V.list (1 : Nat) ps.length (ePart.tl ps)), ((33 : Nat), V.kn (Value.int IntKind.i64 (↑ps.length : Int))), ((34 : Nat), V.kn (Value.int IntKind.i64 (IntKind.i64.wrap (i + (1 : Int)))))], k := loopK Try.prog (17 : Nat) (6 : Nat) }, cs := [], h := [O.cells [V.kn (Value.string no), V.kn (Value.string se), V.kn (Value.string bu), V.kn (Value.string cu), V.kn (Value.string fr), V.kn (Value.string tw), V.kn (Value.int IntKind.i64 te), V.list (3 : Nat) ls.length (eLine.tl ls)], O.cells [V.list (1 : Nat) ds.length (eInt.tl ds)], O.row (42 : Nat) (4 : Nat) (o.length + (1 : Nat)) (catF o.length (eCgm.tl o) (rowF [V.kn (Value.string no), V.kn (Value.int IntKind.i64 (j + (1 : Int))), V.kn (Value.int IntKind.i64 d), V.list (2 : Nat) lo.length (eLot.tl lo)] (4 : Nat))) true] }) := by kernel_rfl
theorem oCut_ok (no se bu cu fr tw : ByteArray) (te : Int) (ls : List Line) (ds : List Int) (ps : List Part) (len_ls : ls.length ≤ maxLen) (len_ds : ds.length ≤ maxLen) (len_ps : ps.length ≤ maxLen) (hp : oCut_pre no se bu cu fr tw te ls ds ps) (good : Cfg → Prop) (hstep : ∀ c, arun Try.prog (conOf [(35, liftS [(0, []), (1, []), (2, [])] Sk1), (36, liftS [(0, [])] Sk2), (39, liftS [(0, []), (1, [])] Sk3), (43, liftS [(0, [])] Sk4), (45, liftS [(0, [])] Sk5), (48, liftS [(0, []), (1, [])] Sk6)]) (0, [(17, 6, [3, 4, 9, 32, 33, 34], [(0, 3, []), (0, 4, []), (0, 9, [])]), (17, 10, [3, 4, 9, 12, 32, 33, 34, 48, 49, 50], [(0, 3, []), (0, 4, []), (0, 9, []), (0, 12, []), (0, 12, [3])])]) good (RetO (Tells (oCut_val no se bu cu fr tw te ls ds ps))) 4000 (c) → good c) (hext : ∀ c c', CfgExt c c' → good c' → good c) (hle : ∀ c c', CfgLe 0 c c' → good c' → good c) : arun Try.prog (conOf [(35, liftS [(0, []), (1, []), (2, [])] Sk1), (36, liftS [(0, [])] Sk2), (39, liftS [(0, []), (1, [])] Sk3), (43, liftS [(0, [])] Sk4), (45, liftS [(0, [])] Sk5), (48, liftS [(0, []), (1, [])] Sk6)]) (0, [(17, 6, [3, 4, 9, 32, 33, 34], [(0, 3, []), (0, 4, []), (0, 9, [])]), (17, 10, [3, 4, 9, 12, 32, 33, 34, 48, 49, 50], [(0, 3, []), (0, 4, []), (0, 9, []), (0, 12, []), (0, 12, [3])])]) good (RetO (Tells (oCut_val no se bu cu fr tw te ls ds ps))) 4000 (entry Try.prog 17 [.agg [.kn (.string no), .kn (.string se), .kn (.string bu), .kn (.string cu), .kn (.string fr), .kn (.string tw), .kn (.int .i64 te), .list eLine.s ls.length (eLine.tl ls)], .list eInt.s ds.length (eInt.tl ds), .list ePart.s ps.length (ePart.tl ps)]) := by
  rw [oCut_res]
  obtain ⟨⟨p1, p2, p3, p4, p5, p6, hl, hw⟩, hd, hp2, hq⟩ := hp
  have hmx : maxLen = 9223372036854775807 := rfl
  have okL := eLine.okl_tl len_ls
  have okD := eInt.okl_tl len_ds
  have okP := ePart.okl_tl len_ps
  have op : oMay_pre no se bu cu fr tw te ls := ⟨p1, p2, p3, p4, p5, p6, hl, hw⟩
  simp only [eLine.dl_tl, eInt.dl_tl, ePart.dl_tl]
  have err : ∀ (e : Int) (f : Nat → List V), wrongI (mayB no se bu cu fr tw te ls) ls ds ps = e → (e == 0) = false → Tells (oCut_val no se bu cu fr tw te ls ds ps) (some (.tup [.list 1 0 f, .kn (.int .i64 e)])) := fun e f h1 h2 => by
    rw [oCut_val, h1]; exact err_tells h2
  refine ⟨by omega, by omega, ⟨okL, okP, okD, op⟩, cond_intro (fun a1 => err 1 _ (by unfold wrongI; rw [a1]; rfl) rfl) (fun a1 => ?_)⟩
  have hm : mayB no se bu cu fr tw te ls = true ∧ (ps.length = ds.length ∧ 1 ≤ ps.length ∧ ps.length ≤ 64) := by
    simp only [Bool.or_eq_false_iff, Bool.not_eq_false', decide_eq_true_eq] at a1; exact a1
  have hlp : linesP ls := by
    have := hm.1
    unfold mayB at this
    simp only [Bool.and_eq_true] at this
    exact bP_iff.1 this.2.2.2.2.2.2.2.2.2
  refine ⟨by omega, by omega, ⟨okD, trivial⟩, cond_intro (fun a2 => err 1 _ (by unfold wrongI; rw [a1, a2]; rfl) rfl) (fun a2 => ?_)⟩
  have hq3 : k3_pre no se bu cu fr tw te ls ps := ⟨by have := hlp.2.1; omega, fun p hp => by have := hq p hp; omega⟩
  refine ⟨by omega, by omega, ⟨okL, okP, hq3⟩, cond_intro (fun a3 => err 1 _ (by unfold wrongI; rw [a1, a2, a3]; rfl) rfl) (fun a3 => ?_)⟩
  have hlen : ∀ p ∈ ps, p.length = ls.length := fun p hp => by
    by_cases e : p.length = ls.length
    · exact e
    · exact (bP_not.1 a3 ⟨p, hp, .inl e⟩).elim
  refine ⟨by omega, by omega, ⟨okD, trivial⟩, cond_intro (fun a4 => err 6 _ (by unfold wrongI; rw [a1, a2, a3, a4]; rfl) rfl) (fun a4 => ?_)⟩
  have hq5 : k5_pre ps := fun p hp => by have := hlen p hp; have := hlp.2.1; have := hq p hp; omega
  refine ⟨by omega, by omega, ⟨okP, hq5⟩, cond_intro (fun a5 => err 4 _ (by unfold wrongI; rw [a1, a2, a3, a4, a5]; rfl) rfl) (fun a5 => ?_)⟩
  refine ⟨by omega, by omega, ⟨okL, okP, ⟨hl, hlen⟩⟩, cond_intro (fun a6 => err 3 _ (by unfold wrongI; rw [a1, a2, a3, a4, a5, a6]; rfl) rfl) (fun a6 => ?_)⟩
  have h0 : wrongI (mayB no se bu cu fr tw te ls) ls ds ps = 0 := by unfold wrongI; rw [a1, a2, a3, a4, a5, a6]; rfl
  refine hle _ _ (nil_own 9 2 42 4 (eCgm.tl []) rfl rfl) ?_
  show good (oCut_c6 no se bu cu fr tw te ls ds ps [] 0)
  refine foreach ps (fun i (_ : Unit) => True) (fun i _ => oCut_c6 no se bu cu fr tw te ls ds ps (cutL no ls ds ps i.toNat) i) (fun i _ hi hv ih => ?_) (fun _ hv => ?_) () trivial
  · apply hstep
    rw [oCut_l6]
    have e1 : (i : Int).toNat = i := by omega
    have e2 : (((i + 1 : Nat) : Int)).toNat = i + 1 := by omega
    have ih := ih () trivial
    rw [e2, cut_snoc] at ih
    have ho := cut_len no ls ds ps i
    rw [e1]
    generalize cutL no ls ds ps i = o at *
    have hg : ps.getD i [] = ps[i] := getD_at _ hi
    have hg2 : ps.getD i ePart.dflt = ps[i] := getD_at _ hi
    have hpl := hlen _ (List.getElem_mem hi)
    rw [hg] at ih
    rw [hg2]
    generalize ps[i] = q at *
    have ew : IntKind.i64.wrap ((i : Int) + 1) = (i : Int) + 1 := wrap_in (by omega) (by omega)
    rw [ew]
    refine cond_true' (decide_eq_true (by omega)) ⟨⟨by omega, by omega⟩, ⟨by omega, by omega⟩, ?_⟩
    refine hle _ _ (nil_cell 3 3 4 50 2 (eLot.tl []) _ rfl rfl rfl) ?_
    show good (oCut_c10 no se bu cu fr tw te ls ds ps o i i (ds.getD i 0) q [] 0)
    refine foreach q (fun k (_ : Unit) => True) (fun k _ => oCut_c10 no se bu cu fr tw te ls ds ps o i i (ds.getD i 0) q (lotsF ls q k.toNat) k) (fun k _ hk hv2 ih2 => ?_) (fun _ hv2 => ?_) () trivial
    · apply hstep
      rw [oCut_l10]
      have f1 : (k : Int).toNat = k := by omega
      have f2 : (((k + 1 : Nat) : Int)).toNat = k + 1 := by omega
      have ih2 := ih2 () trivial
      have hlo := lots_len ls q k
      rw [f2, lots_snoc] at ih2
      rw [f1]
      generalize lotsF ls q k = lo at *
      have ew2 : IntKind.i64.wrap ((k : Int) + 1) = ((k + 1 : Nat) : Int) := by rw [wrap_in (by omega) (by omega)]; omega
      rw [ew2]
      refine cond_true' (decide_eq_true (by omega)) ⟨⟨by omega, by omega⟩, cond_intro (fun g => ?_) (fun g => ?_)⟩
      · rw [if_pos (of_decide_eq_true g)] at ih2
        refine ⟨⟨by omega, by omega⟩, ⟨by omega, by omega⟩, ?_⟩
        exact hext _ (oCut_c10 no se bu cu fr tw te ls ds ps o i i (ds.getD i 0) q (lo ++ [⟨(ls.getD k eLine.dflt).good, q.getD k 0⟩]) ((k + 1 : Nat) : Int)) ⟨rfl, rfl, rfl, rfl, TExts.refl _, ⟨OExt.refl _, OExt.refl _, OExt.refl _, OExt.refl _, eLot.oext (eLot.is_app (eLot.is_tl _) (eLot.is_one _ rfl)), trivial⟩⟩ ih2
      · rw [if_neg (of_decide_eq_false g), List.append_nil] at ih2
        exact ih2
    · apply hstep
      rw [oCut_l10, Int.toNat_natCast]
      refine cond_false' (decide_eq_false (by omega)) ⟨⟨by omega, by omega⟩, ?_⟩
      rw [ew]
      exact hext _ (oCut_c6 no se bu cu fr tw te ls ds ps (o ++ [⟨no, (i : Int) + 1, ds.getD i 0, lotsF ls q q.length⟩]) ((i + 1 : Nat) : Int)) ⟨rfl, rfl, rfl, rfl, TExts.refl _, ⟨OExt.refl _, OExt.refl _, eCgm.oext (eCgm.is_app (eCgm.is_tl _) (eCgm.is_one ⟨no, (i : Int) + 1, ds.getD i 0, lotsF ls q q.length⟩ rfl)), trivial⟩⟩ ih
  · apply hstep
    rw [oCut_l6, Int.toNat_natCast]
    refine cond_false' (decide_eq_false (by omega)) (tell ?_)
    rw [oCut_val, h0]
    rfl
theorem oCut_con : SpecOK Try.prog 17 (lift GoCut) := by
  refine con_of_run3 (con := conOf [(35, liftS [(0, []), (1, []), (2, [])] Sk1), (36, liftS [(0, [])] Sk2), (39, liftS [(0, []), (1, [])] Sk3), (43, liftS [(0, [])] Sk4), (45, liftS [(0, [])] Sk5), (48, liftS [(0, []), (1, [])] Sk6)]) (hs := (0, [(17, 6, [3, 4, 9, 32, 33, 34], [(0, 3, []), (0, 4, []), (0, 9, [])]), (17, 10, [3, 4, 9, 12, 32, 33, 34, 48, 49, 50], [(0, 3, []), (0, 4, []), (0, 9, []), (0, 12, []), (0, 12, [3])])])) 4000 Try.func17 rfl (by kernel_rfl) rfl (conCons k1_con (conCons k2_con (conCons k3_con (conCons k4_con (conCons k5_con (conCons k6_con conNil)))))) ?_
  intro args0 p r hG hp
  unfold GoCut at hG
  split at hG
  case h_2 => cases hG
  rename_i no se bu cu fr tw te s_ls n_ls f_ls s_ds n_ds f_ds s_ps n_ps f_ps
  cases hG
  obtain ⟨ok_ls, hp⟩ := hp
  obtain ⟨ok_ds, hp⟩ := hp
  obtain ⟨ok_ps, hp⟩ := hp
  exact ⟨[.agg [.kn (.string no), .kn (.string se), .kn (.string bu), .kn (.string cu), .kn (.string fr), .kn (.string tw), .kn (.int .i64 te), .list eLine.s (eLine.dl n_ls f_ls).length (eLine.tl (eLine.dl n_ls f_ls))], .list eInt.s (eInt.dl n_ds f_ds).length (eInt.tl (eInt.dl n_ds f_ds)), .list ePart.s (ePart.dl n_ps f_ps).length (ePart.tl (ePart.dl n_ps f_ps))], ⟨VExt.agg ⟨VExt.refl _, VExt.refl _, VExt.refl _, VExt.refl _, VExt.refl _, VExt.refl _, VExt.refl _, eLine.extl ok_ls, trivial⟩, eInt.extl ok_ds, ePart.extl ok_ps, trivial⟩, by simp [Try.ntmps17], fun good hstep hext hle => oCut_ok _ _ _ _ _ _ _ _ _ _ (by rw [eLine.dl_length]; exact ok_ls.2.1) (by rw [eInt.dl_length]; exact ok_ds.2.1) (by rw [ePart.dl_length]; exact ok_ps.2.1) hp good hstep hext hle⟩
end Go.Proofs.Ytbedinfkepdobaa
