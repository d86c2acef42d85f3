/- What is proved: contracts of functions of one seat, each by the executor; written by a program of the prover (gen.py) and by hand. Conditions: each contract names its own. -/
import Derived.Test.YtbedinfkepdobaaAw2
import Derived.Test.YtbedinfkepdobaaProg
import Derived.KernelRfl
import Derived.IntWalk
import Derived.Test.YtbedinfkepdobaaCond
import Derived.MapKept
namespace Go.Proofs.Ytbedinfkepdobaa
open Go Go.Aw Go.RowKit
set_option linter.unusedVariables false
set_option linter.unusedSimpArgs false
set_option maxRecDepth 10000

theorem few_len {no se bu cu fr tw : ByteArray} {ls : List Line} (h : (!fewB no se bu cu fr tw ls) = false) : ls.length ≤ 70 := by
  have h : fewB no se bu cu fr tw ls = true := by simpa using h
  unfold fewB at h
  simp only [Bool.and_eq_true, decide_eq_true_eq] at h
  exact h.2.1
theorem same_refl (no se bu cu fr tw : ByteArray) (te : Int) (ls : List Line) : sameB no se bu cu fr tw no se bu cu fr tw te te ls ls = true := by
  unfold sameB
  rw [bP_true rfl]
  simp

def OrderTells_pre (no se bu cu fr tw : ByteArray) (te : Int) (no2 se2 bu2 cu2 fr2 tw2 : ByteArray) (te2 : Int) (ls : List Line) (lt : List Line) : Prop := no.size ≤ maxLen ∧ se.size ≤ maxLen ∧ bu.size ≤ maxLen ∧ cu.size ≤ maxLen ∧ fr.size ≤ maxLen ∧ tw.size ≤ maxLen ∧ (∀ x ∈ ls, eLine_wf x) ∧ no2.size ≤ maxLen ∧ se2.size ≤ maxLen ∧ bu2.size ≤ maxLen ∧ cu2.size ≤ maxLen ∧ fr2.size ≤ maxLen ∧ tw2.size ≤ maxLen ∧ (∀ x ∈ lt, eLine_wf x)
noncomputable def OrderTells_val (no se bu cu fr tw : ByteArray) (te : Int) (no2 se2 bu2 cu2 fr2 tw2 : ByteArray) (te2 : Int) (ls : List Line) (lt : List Line) : V := .kn (.bool true)
noncomputable def GOrderTells : PSpec
  | [.agg [.kn (.string no), .kn (.string se), .kn (.string bu), .kn (.string cu), .kn (.string fr), .kn (.string tw), .kn (.int .i64 te), .list s_ls n_ls f_ls], .agg [.kn (.string no2), .kn (.string se2), .kn (.string bu2), .kn (.string cu2), .kn (.string fr2), .kn (.string tw2), .kn (.int .i64 te2), .list s_lt n_lt f_lt]] => some (eLine.okl s_ls n_ls f_ls ∧ eLine.okl s_lt n_lt f_lt ∧ OrderTells_pre no se bu cu fr tw te no2 se2 bu2 cu2 fr2 tw2 te2 (eLine.dl n_ls f_ls) (eLine.dl n_lt f_lt), OrderTells_val no se bu cu fr tw te no2 se2 bu2 cu2 fr2 tw2 te2 (eLine.dl n_ls f_ls) (eLine.dl n_lt f_lt))
  | _ => none
theorem OrderTells_res (no se bu cu fr tw : ByteArray) (te : Int) (no2 se2 bu2 cu2 fr2 tw2 : ByteArray) (te2 : Int) (ls : List Line) (lt : List Line) (good : Cfg → Prop) (R : Option V → Prop) : arun Try.prog (conOf [(9, lift Gawake), (10, lift GFew), (11, lift GoTotal), (12, lift GrTotal), (13, lift GoMay), (14, lift GrMay), (15, lift GoSame), (16, lift GrSame)]) (0, []) good (RetO (R)) 3000 (entry Try.prog 3 [.agg [.kn (.string no), .kn (.string se), .kn (.string bu), .kn (.string cu), .kn (.string fr), .kn (.string tw), .kn (.int .i64 te), .list eLine.s ls.length (eLine.tl ls)], .agg [.kn (.string no2), .kn (.string se2), .kn (.string bu2), .kn (.string cu2), .kn (.string fr2), .kn (.string tw2), .kn (.int .i64 te2), .list eLine.s lt.length (eLine.tl lt)]]) =
    (awake_pre ∧ (eLine.okl (3 : Nat) ls.length (eLine.tl ls) ∧ Few_pre no se bu cu fr tw te (fun x => []) (eLine.dl ls.length (eLine.tl ls))) ∧ bif !fewB no se bu cu fr tw (eLine.dl ls.length (eLine.tl ls)) then R (some (V.kn (Value.bool true))) else (eLine.okl (3 : Nat) lt.length (eLine.tl lt) ∧ Few_pre no2 se2 bu2 cu2 fr2 tw2 te2 (fun x => []) (eLine.dl lt.length (eLine.tl lt))) ∧ bif !fewB no2 se2 bu2 cu2 fr2 tw2 (eLine.dl lt.length (eLine.tl lt)) then R (some (V.kn (Value.bool true))) else (eLine.okl (3 : Nat) ls.length (eLine.tl ls) ∧ oTotal_pre no se bu cu fr tw te (eLine.dl ls.length (eLine.tl ls))) ∧ (eLine.okl (3 : Nat) ls.length (eLine.tl ls) ∧ rTotal_pre no se bu cu fr tw te (eLine.dl ls.length (eLine.tl ls))) ∧ (eLine.okl (3 : Nat) ls.length (eLine.tl ls) ∧ oMay_pre no se bu cu fr tw te (eLine.dl ls.length (eLine.tl ls))) ∧ (eLine.okl (3 : Nat) ls.length (eLine.tl ls) ∧ rMay_pre no se bu cu fr tw te (eLine.dl ls.length (eLine.tl ls))) ∧ bif mayB no se bu cu fr tw te (eLine.dl ls.length (eLine.tl ls)) == mayB no se bu cu fr tw te (eLine.dl ls.length (eLine.tl ls)) then bif (bif mayB no se bu cu fr tw te (eLine.dl ls.length (eLine.tl ls)) then bif decide (totW (eLine.dl ls.length (eLine.tl ls)) > (1099511627776 : Int)) then (0 : Int) else totW (eLine.dl ls.length (eLine.tl ls)) else (0 : Int)) == bif mayB no se bu cu fr tw te (eLine.dl ls.length (eLine.tl ls)) then bif decide (totW (eLine.dl ls.length (eLine.tl ls)) > (1099511627776 : Int)) then (0 : Int) else totW (eLine.dl ls.length (eLine.tl ls)) else (0 : Int) then bif (bif mayB no se bu cu fr tw te (eLine.dl ls.length (eLine.tl ls)) then bif decide (totW (eLine.dl ls.length (eLine.tl ls)) > (1099511627776 : Int)) then (3 : Int) else (0 : Int) else (1 : Int)) == bif mayB no se bu cu fr tw te (eLine.dl ls.length (eLine.tl ls)) then bif decide (totW (eLine.dl ls.length (eLine.tl ls)) > (1099511627776 : Int)) then (3 : Int) else (0 : Int) else (1 : Int) then (eLine.okl (3 : Nat) ls.length (eLine.tl ls) ∧ eLine.okl (3 : Nat) lt.length (eLine.tl lt) ∧ oSame_pre no se bu cu fr tw no2 se2 bu2 cu2 fr2 tw2 te te2 (eLine.dl ls.length (eLine.tl ls)) (eLine.dl lt.length (eLine.tl lt))) ∧ (eLine.okl (3 : Nat) ls.length (eLine.tl ls) ∧ eLine.okl (3 : Nat) lt.length (eLine.tl lt) ∧ rSame_pre no se bu cu fr tw no2 se2 bu2 cu2 fr2 tw2 te te2 (eLine.dl ls.length (eLine.tl ls)) (eLine.dl lt.length (eLine.tl lt))) ∧ bif sameB no se bu cu fr tw no2 se2 bu2 cu2 fr2 tw2 te te2 (eLine.dl ls.length (eLine.tl ls)) (eLine.dl lt.length (eLine.tl lt)) == sameB no se bu cu fr tw no2 se2 bu2 cu2 fr2 tw2 te te2 (eLine.dl ls.length (eLine.tl ls)) (eLine.dl lt.length (eLine.tl lt)) then (eLine.okl (3 : Nat) ls.length (eLine.tl ls) ∧ eLine.okl (3 : Nat) ls.length (eLine.tl ls) ∧ oSame_pre no se bu cu fr tw no se bu cu fr tw te te (eLine.dl ls.length (eLine.tl ls)) (eLine.dl ls.length (eLine.tl ls))) ∧ R (some (V.kn (Value.bool (sameB no se bu cu fr tw no se bu cu fr tw te te (eLine.dl ls.length (eLine.tl ls)) (eLine.dl ls.length (eLine.tl ls)))))) else R (some (V.kn (Value.bool false))) else R (some (V.kn (Value.bool false))) else R (some (V.kn (Value.bool false))) else R (some (V.kn (Value.bool false)))) := by kernel_rfl
theorem OrderTells_ok (no se bu cu fr tw : ByteArray) (te : Int) (no2 se2 bu2 cu2 fr2 tw2 : ByteArray) (te2 : Int) (ls : List Line) (lt : List Line) (len_ls : ls.length ≤ maxLen) (len_lt : lt.length ≤ maxLen) (hp : OrderTells_pre no se bu cu fr tw te no2 se2 bu2 cu2 fr2 tw2 te2 ls lt) (good : Cfg → Prop) (hstep : ∀ c, arun Try.prog (conOf [(9, lift Gawake), (10, lift GFew), (11, lift GoTotal), (12, lift GrTotal), (13, lift GoMay), (14, lift GrMay), (15, lift GoSame), (16, lift GrSame)]) (0, []) good (RetO (Tells (OrderTells_val no se bu cu fr tw te no2 se2 bu2 cu2 fr2 tw2 te2 ls lt))) 3000 (c) → good c) (hext : ∀ c c', CfgExt c c' → good c' → good c) (hle : ∀ c c', CfgLe 0 c c' → good c' → good c) : arun Try.prog (conOf [(9, lift Gawake), (10, lift GFew), (11, lift GoTotal), (12, lift GrTotal), (13, lift GoMay), (14, lift GrMay), (15, lift GoSame), (16, lift GrSame)]) (0, []) good (RetO (Tells (OrderTells_val no se bu cu fr tw te no2 se2 bu2 cu2 fr2 tw2 te2 ls lt))) 3000 (entry Try.prog 3 [.agg [.kn (.string no), .kn (.string se), .kn (.string bu), .kn (.string cu), .kn (.string fr), .kn (.string tw), .kn (.int .i64 te), .list eLine.s ls.length (eLine.tl ls)], .agg [.kn (.string no2), .kn (.string se2), .kn (.string bu2), .kn (.string cu2), .kn (.string fr2), .kn (.string tw2), .kn (.int .i64 te2), .list eLine.s lt.length (eLine.tl lt)]]) := by
  rw [OrderTells_res]
  obtain ⟨p1, p2, p3, p4, p5, p6, hw, q1, q2, q3, q4, q5, q6, hw2⟩ := hp
  have ok1 := eLine.okl_tl len_ls
  have ok2 := eLine.okl_tl len_lt
  simp only [eLine.dl_tl]
  refine ⟨trivial, ⟨ok1, trivial⟩, cond_intro (fun h => tell (by rw [OrderTells_val])) (fun h => ⟨⟨ok2, trivial⟩, cond_intro (fun h2 => tell (by rw [OrderTells_val])) (fun h2 => ?_)⟩)⟩
  have op : oMay_pre no se bu cu fr tw te ls := ⟨p1, p2, p3, p4, p5, p6, few_len h, hw⟩
  exact ⟨⟨ok1, op⟩, ⟨ok1, op⟩, ⟨ok1, op⟩, ⟨ok1, op⟩, cond_true' (beq_self_eq_true _) (cond_true' (beq_self_eq_true _) (cond_true' (beq_self_eq_true _) ⟨⟨ok1, ok2, trivial⟩, ⟨ok1, ok2, trivial⟩, cond_true' (beq_self_eq_true _) ⟨⟨ok1, ok1, trivial⟩, tell_bool (same_refl no se bu cu fr tw te ls)⟩⟩))⟩
/-- data that comes in -/
theorem eLine_vok {u : V} (h : VOK (.sl [.str, .int .i64, .int .i64]) u) : ∃ xs : List Line, xs.length ≤ maxLen ∧ VExt u (.list eLine.s xs.length (eLine.tl xs)) ∧ ∀ x ∈ xs, eLine_wf x := by
  refine eLine.vok h rfl fun c hl hh => ?_
  match c, hl with
  | [c0, c1, c2], _ =>
    have h0 := hh 0 _ c0 rfl rfl
    have h1 := hh 1 _ c1 rfl rfl
    have h2 := hh 2 _ c2 rfl rfl
    obtain ⟨n0, rfl, w0⟩ := vok_str h0
    obtain ⟨n1, rfl, w1⟩ := vok_int h1
    obtain ⟨n2, rfl, w2⟩ := vok_int h2
    exact ⟨⟨n0, n1, n2⟩, ⟨VExt.refl _, VExt.refl _, VExt.refl _, trivial⟩, ⟨w0, wf_i64 w1, wf_i64 w2⟩⟩

theorem len_8 {u : List V} (h : u.length = 8) : ∃ y0 y1 y2 y3 y4 y5 y6 y7, u = [y0, y1, y2, y3, y4, y5, y6, y7] := by
  match u, h with
  | [y0, y1, y2, y3, y4, y5, y6, y7], _ => exact ⟨y0, y1, y2, y3, y4, y5, y6, y7, rfl⟩
theorem OrderTells_walk (W : World) {u0 : List V} {v0 : Array Value} (o0 : u0.length = 8) (c0 : ∀ (i : Nat) (c : CS) (u : V), ([.str, .str, .str, .str, .str, .str, .int .i64, .sl [.str, .int .i64, .int .i64]] : List CS)[i]? = some c → u0[i]? = some u → VOK c u) (e0 : RV (whole W) sig0 (.agg u0) (.agg v0)) {u1 : List V} {v1 : Array Value} (o1 : u1.length = 8) (c1 : ∀ (i : Nat) (c : CS) (u : V), ([.str, .str, .str, .str, .str, .str, .int .i64, .sl [.str, .int .i64, .int .i64]] : List CS)[i]? = some c → u1[i]? = some u → VOK c u) (e1 : RV (whole W) sig0 (.agg u1) (.agg v1)) : Calls Try.prog 3 #[.agg v0, .agg v1] W fun e w' => e = .returned (.bool true) ∧ Below W.heap.size W w' := by
  obtain ⟨u0_0, u0_1, u0_2, u0_3, u0_4, u0_5, u0_6, u0_7, rfl⟩ := len_8 o0
  have h0_0 := c0 0 _ u0_0 rfl rfl
  obtain ⟨n0_0, rfl, w0_0⟩ := vok_str h0_0
  have h0_1 := c0 1 _ u0_1 rfl rfl
  obtain ⟨n0_1, rfl, w0_1⟩ := vok_str h0_1
  have h0_2 := c0 2 _ u0_2 rfl rfl
  obtain ⟨n0_2, rfl, w0_2⟩ := vok_str h0_2
  have h0_3 := c0 3 _ u0_3 rfl rfl
  obtain ⟨n0_3, rfl, w0_3⟩ := vok_str h0_3
  have h0_4 := c0 4 _ u0_4 rfl rfl
  obtain ⟨n0_4, rfl, w0_4⟩ := vok_str h0_4
  have h0_5 := c0 5 _ u0_5 rfl rfl
  obtain ⟨n0_5, rfl, w0_5⟩ := vok_str h0_5
  have h0_6 := c0 6 _ u0_6 rfl rfl
  obtain ⟨n0_6, rfl, w0_6⟩ := vok_int h0_6
  have h0_7 := c0 7 _ u0_7 rfl rfl
  obtain ⟨x0_7, l0_7, e0_7, w0_7⟩ := eLine_vok h0_7
  obtain ⟨u1_0, u1_1, u1_2, u1_3, u1_4, u1_5, u1_6, u1_7, rfl⟩ := len_8 o1
  have h1_0 := c1 0 _ u1_0 rfl rfl
  obtain ⟨n1_0, rfl, w1_0⟩ := vok_str h1_0
  have h1_1 := c1 1 _ u1_1 rfl rfl
  obtain ⟨n1_1, rfl, w1_1⟩ := vok_str h1_1
  have h1_2 := c1 2 _ u1_2 rfl rfl
  obtain ⟨n1_2, rfl, w1_2⟩ := vok_str h1_2
  have h1_3 := c1 3 _ u1_3 rfl rfl
  obtain ⟨n1_3, rfl, w1_3⟩ := vok_str h1_3
  have h1_4 := c1 4 _ u1_4 rfl rfl
  obtain ⟨n1_4, rfl, w1_4⟩ := vok_str h1_4
  have h1_5 := c1 5 _ u1_5 rfl rfl
  obtain ⟨n1_5, rfl, w1_5⟩ := vok_str h1_5
  have h1_6 := c1 6 _ u1_6 rfl rfl
  obtain ⟨n1_6, rfl, w1_6⟩ := vok_int h1_6
  have h1_7 := c1 7 _ u1_7 rfl rfl
  obtain ⟨x1_7, l1_7, e1_7, w1_7⟩ := eLine_vok h1_7
  exact law_calls3 (con := conOf [(9, lift Gawake), (10, lift GFew), (11, lift GoTotal), (12, lift GrTotal), (13, lift GoMay), (14, lift GrMay), (15, lift GoSame), (16, lift GrSame)]) (hs := (0, [])) 3000 Try.func3 rfl (by kernel_rfl) rfl (conCons awake_con (conCons Few_con (conCons oTotal_con (conCons rTotal_con (conCons oMay_con (conCons rMay_con (conCons oSame_con (conCons rSame_con conNil)))))))) (args := [_, _]) (args' := [.agg [.kn (.string n0_0), .kn (.string n0_1), .kn (.string n0_2), .kn (.string n0_3), .kn (.string n0_4), .kn (.string n0_5), .kn (.int .i64 n0_6), .list eLine.s x0_7.length (eLine.tl x0_7)], .agg [.kn (.string n1_0), .kn (.string n1_1), .kn (.string n1_2), .kn (.string n1_3), .kn (.string n1_4), .kn (.string n1_5), .kn (.int .i64 n1_6), .list eLine.s x1_7.length (eLine.tl x1_7)]]) ⟨e0, e1, trivial⟩ ⟨VExt.agg ⟨VExt.refl _, VExt.refl _, VExt.refl _, VExt.refl _, VExt.refl _, VExt.refl _, VExt.refl _, e0_7, trivial⟩, VExt.agg ⟨VExt.refl _, VExt.refl _, VExt.refl _, VExt.refl _, VExt.refl _, VExt.refl _, VExt.refl _, e1_7, trivial⟩, trivial⟩ (by simp [Try.ntmps3]) fun good hstep hext hle => OrderTells_ok n0_0 n0_1 n0_2 n0_3 n0_4 n0_5 n0_6 n1_0 n1_1 n1_2 n1_3 n1_4 n1_5 n1_6 x0_7 x1_7 l0_7 l1_7 (⟨w0_0, w0_1, w0_2, w0_3, w0_4, w0_5, w0_7, w1_0, w1_1, w1_2, w1_3, w1_4, w1_5, w1_7⟩) good hstep hext hle

end Go.Proofs.Ytbedinfkepdobaa
