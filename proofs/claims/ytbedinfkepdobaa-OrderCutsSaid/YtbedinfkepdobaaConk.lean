/- What is proved: contracts of functions of one seat, each by the executor; written by a program of the prover (gen.py) and by hand. Conditions: each contract names its own. -/
import Derived.Test.YtbedinfkepdobaaAw2
import Derived.Test.YtbedinfkepdobaaProg
import Derived.KernelRfl
import Derived.IntWalk
import Derived.Test.YtbedinfkepdobaaConj
import Derived.MapKept
namespace Go.Proofs.Ytbedinfkepdobaa
open Go Go.Aw Go.RowKit
set_option linter.unusedVariables false
set_option linter.unusedSimpArgs false
set_option maxRecDepth 10000
set_option maxHeartbeats 4000000

def ePart_wf (l : Part) : Prop := eRow_wf eInt_wf l
theorem ePart_vok {u : V} (h : VOK (.sl [.sl [.int .i64]]) u) : ∃ xs : List Part, xs.length ≤ maxLen ∧ VExt u (.list ePart.s xs.length (ePart.tl xs)) ∧ ∀ x ∈ xs, ePart_wf x := by
  refine ePart.vok h rfl fun c hl hh => ?_
  match c, hl with
  | [c0], _ =>
    have h0 := hh 0 _ c0 rfl rfl
    obtain ⟨y0, l0, e0, w0⟩ := eInt_vok h0
    exact ⟨y0, ⟨e0, trivial⟩, l0, w0⟩

def OrderCuts_pre (no se bu cu fr tw : ByteArray) (te : Int) (ls : List Line) (ds : List Int) (ps : List Part) : Prop := no.size ≤ maxLen ∧ se.size ≤ maxLen ∧ bu.size ≤ maxLen ∧ cu.size ≤ maxLen ∧ fr.size ≤ maxLen ∧ tw.size ≤ maxLen ∧ (∀ x ∈ ls, eLine_wf x)
noncomputable def OrderCuts_val (no se bu cu fr tw : ByteArray) (te : Int) (ls : List Line) (ds : List Int) (ps : List Part) : V := .kn (.bool true)
noncomputable def GOrderCuts : PSpec
  | [.agg [.kn (.string no), .kn (.string se), .kn (.string bu), .kn (.string cu), .kn (.string fr), .kn (.string tw), .kn (.int .i64 te), .list s_ls n_ls f_ls], .list s_ds n_ds f_ds, .list s_ps n_ps f_ps] => some (eLine.okl s_ls n_ls f_ls ∧ eInt.okl s_ds n_ds f_ds ∧ ePart.okl s_ps n_ps f_ps ∧ OrderCuts_pre no se bu cu fr tw te (eLine.dl n_ls f_ls) (eInt.dl n_ds f_ds) (ePart.dl n_ps f_ps), OrderCuts_val no se bu cu fr tw te (eLine.dl n_ls f_ls) (eInt.dl n_ds f_ds) (ePart.dl n_ps f_ps))
  | _ => none
theorem OrderCuts_res (no se bu cu fr tw : ByteArray) (te : Int) (ls : List Line) (ds : List Int) (ps : List Part) (good : Cfg → Prop) (R : Option V → Prop) : arun Try.prog (conOf [(9, lift Gawake), (10, lift GFew), (17, lift GoCut), (18, lift GrCut), (19, lift GCuts)]) (0, [(4, 6, [1, 2, 3, 7], [(0, 3, [])])]) good (RetO (R)) 3000 (entry Try.prog 4 [.agg [.kn (.string no), .kn (.string se), .kn (.string bu), .kn (.string cu), .kn (.string fr), .kn (.string tw), .kn (.int .i64 te), .list eLine.s ls.length (eLine.tl ls)], .list eInt.s ds.length (eInt.tl ds), .list ePart.s ps.length (ePart.tl ps)]) =
    (awake_pre ∧ (eLine.okl (3 : Nat) ls.length (eLine.tl ls) ∧ Few_pre no se bu cu fr tw te (fun x => []) (eLine.dl ls.length (eLine.tl ls))) ∧ bif !fewB no se bu cu fr tw (eLine.dl ls.length (eLine.tl ls)) then R (some (V.kn (Value.bool true))) else bif decide ((↑ds.length : Int) > (70 : Int)) then R (some (V.kn (Value.bool true))) else bif decide ((↑ps.length : Int) > (70 : Int)) then R (some (V.kn (Value.bool true))) else good { fr := { fn := (4 : Nat), nt := (61 : Nat), t := [((1 : Nat), V.list (1 : Nat) ds.length (eInt.tl ds)), ((2 : Nat), V.list (1 : Nat) ps.length (ePart.tl ps)), ((3 : Nat), V.ptr (0 : Nat) (0 : Nat)), ((7 : Nat), V.kn (Value.int IntKind.i64 (0 : Int)))], k := loopK Try.prog (4 : Nat) (6 : Nat) }, cs := [], h := [O.cells [V.kn (Value.string no), V.kn (Value.string se), V.kn (Value.string bu), V.kn (Value.string cu), V.kn (Value.string fr), V.kn (Value.string tw), V.kn (Value.int IntKind.i64 te), V.list (3 : Nat) ls.length (eLine.tl ls)]] }) := by kernel_rfl
@[reducible] noncomputable def OrderCuts_c6 (no se bu cu fr tw : ByteArray) (te : Int) (ls : List Line) (ds : List Int) (ps : List Part) (i : Int) : Cfg := ⟨⟨4, 61, [(1, .list eInt.s ds.length (eInt.tl ds)), (2, .list ePart.s ps.length (ePart.tl ps)), (3, .ptr 0 0), (7, .kn (.int .i64 i))], loopK Try.prog 4 6⟩, [], [.cells [.kn (.string no), .kn (.string se), .kn (.string bu), .kn (.string cu), .kn (.string fr), .kn (.string tw), .kn (.int .i64 te), .list eLine.s ls.length (eLine.tl ls)]]⟩
theorem OrderCuts_l6 (no se bu cu fr tw : ByteArray) (te : Int) (ls : List Line) (ds : List Int) (ps : List Part) (i : Int) (good : Cfg → Prop) (R : Option V → Prop) : arun Try.prog (conOf [(9, lift Gawake), (10, lift GFew), (17, lift GoCut), (18, lift GrCut), (19, lift GCuts)]) (0, [(4, 6, [1, 2, 3, 7], [(0, 3, [])])]) good (RetO (R)) 3000 (OrderCuts_c6 no se bu cu fr tw te ls ds ps i) =
    (bif decide (i < (↑ps.length : Int)) then ((0 : Int) ≤ i ∧ i < (↑ps.length : Int)) ∧ bif decide ((↑(List.length (ps.getD i.toNat ePart.dflt)) : Int) > (70 : Int)) then R (some (V.kn (Value.bool true))) else good { fr := { fn := (4 : Nat), nt := (61 : Nat), t := [((1 : Nat), V.list (1 : Nat) ds.length (eInt.tl ds)), ((2 : Nat), V.list (1 : Nat) ps.length (ePart.tl ps)), ((3 : Nat), V.ptr (0 : Nat) (0 : Nat)), ((7 : Nat), V.kn (Value.int IntKind.i64 (IntKind.i64.wrap (i + (1 : Int)))))], k := loopK Try.prog (4 : Nat) (6 : Nat) }, cs := [], h := [O.cells [V.kn (Value.string no), V.kn (Value.string se), V.kn (Value.string bu), V.kn (Value.string cu), V.kn (Value.string fr), V.kn (Value.string tw), V.kn (Value.int IntKind.i64 te), V.list (3 : Nat) ls.length (eLine.tl ls)]] } else (eLine.okl (3 : Nat) ls.length (eLine.tl ls) ∧ eInt.okl (1 : Nat) ds.length (eInt.tl ds) ∧ ePart.okl (1 : Nat) ps.length (ePart.tl ps) ∧ oCut_pre no se bu cu fr tw te (eLine.dl ls.length (eLine.tl ls)) (eInt.dl ds.length (eInt.tl ds)) (ePart.dl ps.length (ePart.tl ps))) ∧ (eLine.okl (3 : Nat) ls.length (eLine.tl ls) ∧ eInt.okl (1 : Nat) ds.length (eInt.tl ds) ∧ ePart.okl (1 : Nat) ps.length (ePart.tl ps) ∧ rCut_pre no se bu cu fr tw te (eLine.dl ls.length (eLine.tl ls)) (eInt.dl ds.length (eInt.tl ds)) (ePart.dl ps.length (ePart.tl ps))) ∧ (eCgm.okl (4 : Nat) (bif wrongI (mayB no se bu cu fr tw te (eLine.dl ls.length (eLine.tl ls))) (eLine.dl ls.length (eLine.tl ls)) (eInt.dl ds.length (eInt.tl ds)) (ePart.dl ps.length (ePart.tl ps)) == (0 : Int) then cutL no (eLine.dl ls.length (eLine.tl ls)) (eInt.dl ds.length (eInt.tl ds)) (ePart.dl ps.length (ePart.tl ps)) (ePart.dl ps.length (ePart.tl ps)).length else []).length (eCgm.tl (bif wrongI (mayB no se bu cu fr tw te (eLine.dl ls.length (eLine.tl ls))) (eLine.dl ls.length (eLine.tl ls)) (eInt.dl ds.length (eInt.tl ds)) (ePart.dl ps.length (ePart.tl ps)) == (0 : Int) then cutL no (eLine.dl ls.length (eLine.tl ls)) (eInt.dl ds.length (eInt.tl ds)) (ePart.dl ps.length (ePart.tl ps)) (ePart.dl ps.length (ePart.tl ps)).length else [])) ∧ eCgm.okl (4 : Nat) (bif wrongI (mayB no se bu cu fr tw te (eLine.dl ls.length (eLine.tl ls))) (eLine.dl ls.length (eLine.tl ls)) (eInt.dl ds.length (eInt.tl ds)) (ePart.dl ps.length (ePart.tl ps)) == (0 : Int) then cutL no (eLine.dl ls.length (eLine.tl ls)) (eInt.dl ds.length (eInt.tl ds)) (ePart.dl ps.length (ePart.tl ps)) (ePart.dl ps.length (ePart.tl ps)).length else []).length (eCgm.tl (bif wrongI (mayB no se bu cu fr tw te (eLine.dl ls.length (eLine.tl ls))) (eLine.dl ls.length (eLine.tl ls)) (eInt.dl ds.length (eInt.tl ds)) (ePart.dl ps.length (ePart.tl ps)) == (0 : Int) then cutL no (eLine.dl ls.length (eLine.tl ls)) (eInt.dl ds.length (eInt.tl ds)) (ePart.dl ps.length (ePart.tl ps)) (ePart.dl ps.length (ePart.tl ps)).length else [])) ∧ Cuts_pre (eCgm.dl (bif wrongI (mayB no se bu cu fr tw te (eLine.dl ls.length (eLine.tl ls))) (eLine.dl ls.length (eLine.tl ls)) (eInt.dl ds.length (eInt.tl ds)) (ePart.dl ps.length (ePart.tl ps)) == (0 : Int) then cutL no (eLine.dl ls.length (eLine.tl ls)) (eInt.dl ds.length (eInt.tl ds)) (ePart.dl ps.length (ePart.tl ps)) (ePart.dl ps.length (ePart.tl ps)).length else []).length (eCgm.tl (bif wrongI (mayB no se bu cu fr tw te (eLine.dl ls.length (eLine.tl ls))) (eLine.dl ls.length (eLine.tl ls)) (eInt.dl ds.length (eInt.tl ds)) (ePart.dl ps.length (ePart.tl ps)) == (0 : Int) then cutL no (eLine.dl ls.length (eLine.tl ls)) (eInt.dl ds.length (eInt.tl ds)) (ePart.dl ps.length (ePart.tl ps)) (ePart.dl ps.length (ePart.tl ps)).length else []))) (eCgm.dl (bif wrongI (mayB no se bu cu fr tw te (eLine.dl ls.length (eLine.tl ls))) (eLine.dl ls.length (eLine.tl ls)) (eInt.dl ds.length (eInt.tl ds)) (ePart.dl ps.length (ePart.tl ps)) == (0 : Int) then cutL no (eLine.dl ls.length (eLine.tl ls)) (eInt.dl ds.length (eInt.tl ds)) (ePart.dl ps.length (ePart.tl ps)) (ePart.dl ps.length (ePart.tl ps)).length else []).length (eCgm.tl (bif wrongI (mayB no se bu cu fr tw te (eLine.dl ls.length (eLine.tl ls))) (eLine.dl ls.length (eLine.tl ls)) (eInt.dl ds.length (eInt.tl ds)) (ePart.dl ps.length (ePart.tl ps)) == (0 : Int) then cutL no (eLine.dl ls.length (eLine.tl ls)) (eInt.dl ds.length (eInt.tl ds)) (ePart.dl ps.length (ePart.tl ps)) (ePart.dl ps.length (ePart.tl ps)).length else [])))) ∧ bif bP (eCgm.dl (bif wrongI (mayB no se bu cu fr tw te (eLine.dl ls.length (eLine.tl ls))) (eLine.dl ls.length (eLine.tl ls)) (eInt.dl ds.length (eInt.tl ds)) (ePart.dl ps.length (ePart.tl ps)) == (0 : Int) then cutL no (eLine.dl ls.length (eLine.tl ls)) (eInt.dl ds.length (eInt.tl ds)) (ePart.dl ps.length (ePart.tl ps)) (ePart.dl ps.length (ePart.tl ps)).length else []).length (eCgm.tl (bif wrongI (mayB no se bu cu fr tw te (eLine.dl ls.length (eLine.tl ls))) (eLine.dl ls.length (eLine.tl ls)) (eInt.dl ds.length (eInt.tl ds)) (ePart.dl ps.length (ePart.tl ps)) == (0 : Int) then cutL no (eLine.dl ls.length (eLine.tl ls)) (eInt.dl ds.length (eInt.tl ds)) (ePart.dl ps.length (ePart.tl ps)) (ePart.dl ps.length (ePart.tl ps)).length else [])) = eCgm.dl (bif wrongI (mayB no se bu cu fr tw te (eLine.dl ls.length (eLine.tl ls))) (eLine.dl ls.length (eLine.tl ls)) (eInt.dl ds.length (eInt.tl ds)) (ePart.dl ps.length (ePart.tl ps)) == (0 : Int) then cutL no (eLine.dl ls.length (eLine.tl ls)) (eInt.dl ds.length (eInt.tl ds)) (ePart.dl ps.length (ePart.tl ps)) (ePart.dl ps.length (ePart.tl ps)).length else []).length (eCgm.tl (bif wrongI (mayB no se bu cu fr tw te (eLine.dl ls.length (eLine.tl ls))) (eLine.dl ls.length (eLine.tl ls)) (eInt.dl ds.length (eInt.tl ds)) (ePart.dl ps.length (ePart.tl ps)) == (0 : Int) then cutL no (eLine.dl ls.length (eLine.tl ls)) (eInt.dl ds.length (eInt.tl ds)) (ePart.dl ps.length (ePart.tl ps)) (ePart.dl ps.length (ePart.tl ps)).length else []))) then R (some (V.kn (Value.bool (wrongI (mayB no se bu cu fr tw te (eLine.dl ls.length (eLine.tl ls))) (eLine.dl ls.length (eLine.tl ls)) (eInt.dl ds.length (eInt.tl ds)) (ePart.dl ps.length (ePart.tl ps)) == wrongI (mayB no se bu cu fr tw te (eLine.dl ls.length (eLine.tl ls))) (eLine.dl ls.length (eLine.tl ls)) (eInt.dl ds.length (eInt.tl ds)) (ePart.dl ps.length (ePart.tl ps)))))) else R (some (V.kn (Value.bool false)))) := by kernel_rfl
theorem OrderCuts_ok (no se bu cu fr tw : ByteArray) (te : Int) (ls : List Line) (ds : List Int) (ps : List Part) (len_ls : ls.length ≤ maxLen) (len_ds : ds.length ≤ maxLen) (len_ps : ps.length ≤ maxLen) (hp : OrderCuts_pre no se bu cu fr tw te ls ds ps) (good : Cfg → Prop) (hstep : ∀ c, arun Try.prog (conOf [(9, lift Gawake), (10, lift GFew), (17, lift GoCut), (18, lift GrCut), (19, lift GCuts)]) (0, [(4, 6, [1, 2, 3, 7], [(0, 3, [])])]) good (RetO (Tells (OrderCuts_val no se bu cu fr tw te ls ds ps))) 3000 (c) → good c) (hext : ∀ c c', CfgExt c c' → good c' → good c) (hle : ∀ c c', CfgLe 0 c c' → good c' → good c) : arun Try.prog (conOf [(9, lift Gawake), (10, lift GFew), (17, lift GoCut), (18, lift GrCut), (19, lift GCuts)]) (0, [(4, 6, [1, 2, 3, 7], [(0, 3, [])])]) good (RetO (Tells (OrderCuts_val no se bu cu fr tw te ls ds ps))) 3000 (entry Try.prog 4 [.agg [.kn (.string no), .kn (.string se), .kn (.string bu), .kn (.string cu), .kn (.string fr), .kn (.string tw), .kn (.int .i64 te), .list eLine.s ls.length (eLine.tl ls)], .list eInt.s ds.length (eInt.tl ds), .list ePart.s ps.length (ePart.tl ps)]) := by
  rw [OrderCuts_res]
  obtain ⟨p1, p2, p3, p4, p5, p6, hw⟩ := hp
  have hmx : maxLen = 9223372036854775807 := rfl
  have okL := eLine.okl_tl len_ls
  have okD := eInt.okl_tl len_ds
  have okP := ePart.okl_tl len_ps
  simp only [eLine.dl_tl]
  refine ⟨trivial, ⟨okL, trivial⟩, cond_intro (fun h => tell (by rw [OrderCuts_val])) (fun h => cond_intro (fun h2 => tell (by rw [OrderCuts_val])) (fun h2 => cond_intro (fun h3 => tell (by rw [OrderCuts_val])) (fun h3 => ?_)))⟩
  have hl := few_len h
  have hd : ds.length ≤ 70 := by have := of_decide_eq_false h2; omega
  have hp2 : ps.length ≤ 70 := by have := of_decide_eq_false h3; omega
  show good (OrderCuts_c6 no se bu cu fr tw te ls ds ps 0)
  refine foreach ps (fun i (_ : Unit) => ∀ j (hj : j < ps.length), j < i → (ps[j]).length ≤ 70) (fun i _ => OrderCuts_c6 no se bu cu fr tw te ls ds ps i) (fun i _ hi hv ih => ?_) (fun _ hv => ?_) () (fun j hj hji => by omega)
  · apply hstep
    rw [OrderCuts_l6]
    have e1 : (i : Int).toNat = i := by omega
    have hg2 : ps.getD i ePart.dflt = ps[i] := getD_at _ hi
    rw [e1, hg2, wrap_succ hi len_ps]
    refine cond_true' (decide_eq_true (by omega)) ⟨⟨by omega, by omega⟩, cond_intro (fun g => tell (by rw [OrderCuts_val])) (fun g => ih () (fun j hj hji => ?_))⟩
    by_cases e : j = i
    · subst e; have := of_decide_eq_false g; omega
    · exact hv j hj (by omega)
  · apply hstep
    rw [OrderCuts_l6]
    simp only [eLine.dl_tl, eInt.dl_tl, ePart.dl_tl, eCgm.dl_tl]
    have hq : ∀ p ∈ ps, p.length ≤ 70 := fun p hp => by
      obtain ⟨j, hj, rfl⟩ := List.getElem_of_mem hp
      exact hv j hj hj
    have op : oCut_pre no se bu cu fr tw te ls ds ps := ⟨⟨p1, p2, p3, p4, p5, p6, hl, hw⟩, hd, hp2, hq⟩
    have hL : (bif wrongI (mayB no se bu cu fr tw te ls) ls ds ps == 0 then cutL no ls ds ps ps.length else []).length ≤ 70 ∧ ∀ x ∈ (bif wrongI (mayB no se bu cu fr tw te ls) ls ds ps == 0 then cutL no ls ds ps ps.length else []), x.lots.length ≤ maxLen := by
      cases (wrongI (mayB no se bu cu fr tw te ls) ls ds ps == 0) with
      | false => exact ⟨by simp, fun x hx => by simp at hx⟩
      | true =>
        refine ⟨by simp only [cond_true]; rw [cut_len]; exact hp2, fun x hx => ?_⟩
        simp only [cond_true, cutL, List.mem_map, List.mem_range] at hx
        obtain ⟨j, hj, rfl⟩ := hx
        have h1 := lots_len ls (ps.getD j []) (ps.getD j []).length
        have h2 : (ps.getD j []).length ≤ 70 := by rw [getD_at _ hj]; exact hq _ (List.getElem_mem hj)
        show (lotsF _ _ _).length ≤ maxLen
        omega
    generalize (bif wrongI (mayB no se bu cu fr tw te ls) ls ds ps == 0 then cutL no ls ds ps ps.length else []) = L at *
    have okC := eCgm.okl_tl (xs := L) (by omega)
    refine cond_false' (decide_eq_false (by omega)) ⟨⟨okL, okD, okP, op⟩, ⟨okL, okD, okP, op⟩, ⟨okC, okC, ⟨hL.2, hL.2⟩⟩, cond_true' (bP_true (by first | exact trivial | rfl)) ?_⟩
    first
      | exact tell (by rw [OrderCuts_val]; simp)
      | exact cond_true' (beq_self_eq_true _) (tell (by rw [OrderCuts_val]))
theorem OrderCuts_walk (W : World) {u0 : List V} {v0 : Array Value} (o0 : u0.length = 8) (c0 : ∀ (i : Nat) (c : CS) (u : V), ([.str, .str, .str, .str, .str, .str, .int .i64, .sl [.str, .int .i64, .int .i64]] : List CS)[i]? = some c → u0[i]? = some u → VOK c u) (e0 : RV (whole W) sig0 (.agg u0) (.agg v0)) {u1 : V} {v1 : Value} (o1 : VOK (.sl [.int .i64]) u1) (e1 : RV (whole W) sig0 u1 v1) {u2 : V} {v2 : Value} (o2 : VOK (.sl [.sl [.int .i64]]) u2) (e2 : RV (whole W) sig0 u2 v2) : Calls Try.prog 4 #[.agg v0, v1, v2] W fun e w' => e = .returned (.bool true) ∧ Below W.heap.size W w' := by
  obtain ⟨u0_0, u0_1, u0_2, u0_3, u0_4, u0_5, u0_6, u0_7, rfl⟩ := len_8 o0
  have h0_0 := c0 0 _ u0_0 rfl rfl
  obtain ⟨n0_0, rfl, w0_0⟩ := vok_str h0_0
  have h0_1 := c0 1 _ u0_1 rfl rfl
  obtain ⟨n0_1, rfl, w0_1⟩ := vok_str h0_1
  have h0_2 := c0 2 _ u0_2 rfl rfl
  obtain ⟨n0_2, rfl, w0_2⟩ := vok_str h0_2
  have h0_3 := c0 3 _ u0_3 rfl rfl
  obtain ⟨n0_3, rfl, w0_3⟩ := vok_str h0_3
  have h0_4 := c0 4 _ u0_4 rfl rfl
  obtain ⟨n0_4, rfl, w0_4⟩ := vok_str h0_4
  have h0_5 := c0 5 _ u0_5 rfl rfl
  obtain ⟨n0_5, rfl, w0_5⟩ := vok_str h0_5
  have h0_6 := c0 6 _ u0_6 rfl rfl
  obtain ⟨n0_6, rfl, w0_6⟩ := vok_int h0_6
  have h0_7 := c0 7 _ u0_7 rfl rfl
  obtain ⟨x0_7, l0_7, e0_7, w0_7⟩ := eLine_vok h0_7
  obtain ⟨x1, l1, x1e, w1⟩ := eInt_vok o1
  obtain ⟨x2, l2, x2e, w2⟩ := ePart_vok o2
  exact law_calls3 (con := conOf [(9, lift Gawake), (10, lift GFew), (17, lift GoCut), (18, lift GrCut), (19, lift GCuts)]) (hs := (0, [(4, 6, [1, 2, 3, 7], [(0, 3, [])])])) 3000 Try.func4 rfl (by kernel_rfl) rfl (conCons awake_con (conCons Few_con (conCons oCut_con (conCons rCut_con (conCons Cuts_con conNil))))) (args := [_, _, _]) (args' := [.agg [.kn (.string n0_0), .kn (.string n0_1), .kn (.string n0_2), .kn (.string n0_3), .kn (.string n0_4), .kn (.string n0_5), .kn (.int .i64 n0_6), .list eLine.s x0_7.length (eLine.tl x0_7)], .list eInt.s x1.length (eInt.tl x1), .list ePart.s x2.length (ePart.tl x2)]) ⟨e0, e1, e2, trivial⟩ ⟨VExt.agg ⟨VExt.refl _, VExt.refl _, VExt.refl _, VExt.refl _, VExt.refl _, VExt.refl _, VExt.refl _, e0_7, trivial⟩, x1e, x2e, trivial⟩ (by simp [Try.ntmps4]) fun good hstep hext hle => OrderCuts_ok n0_0 n0_1 n0_2 n0_3 n0_4 n0_5 n0_6 x0_7 x1 x2 l0_7 l1 l2 (⟨w0_0, w0_1, w0_2, w0_3, w0_4, w0_5, w0_7⟩) good hstep hext hle

end Go.Proofs.Ytbedinfkepdobaa
