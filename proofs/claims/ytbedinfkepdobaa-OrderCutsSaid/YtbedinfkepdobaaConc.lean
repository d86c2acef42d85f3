/- What is proved: contracts of functions of one seat, each by the executor; written by a program of the prover (gen.py) and by hand. Conditions: each contract names its own. -/
import Derived.Test.YtbedinfkepdobaaAw2
import Derived.Test.YtbedinfkepdobaaProg
import Derived.KernelRfl
import Derived.IntWalk
import Derived.Test.YtbedinfkepdobaaConb
import Derived.MapKept
namespace Go.Proofs.Ytbedinfkepdobaa
open Go Go.Aw Go.RowKit
set_option linter.unusedVariables false
set_option linter.unusedSimpArgs false
set_option maxRecDepth 10000
set_option maxHeartbeats 4000000
structure Lot where
  good : ByteArray
  count : Int
def eLot : Enc Lot where
  s := 2
  toV d := [.kn (.string d.good), .kn (.int .i64 d.count)]
  ofV c := match c with | [x0, x1] => ⟨vStr x0, vInt x1⟩ | _ => ⟨ByteArray.empty, 0⟩
  dflt := ⟨ByteArray.empty, 0⟩
  inv d := by rfl
  len d := rfl
def eLot_wf (d : Lot) : Prop := d.good.size ≤ maxLen ∧ inI64 d.count

def less_pre (x y : Int) : Prop := True
noncomputable def less_val (x y : Int) : V := .kn (.bool (decide (x < y)))
noncomputable def Gless : PSpec
  | [.kn (.int .i64 x), .kn (.int .i64 y)] => some (less_pre x y, less_val x y)
  | _ => none
theorem less_res (x y : Int) (good : Cfg → Prop) (R : Option V → Prop) : arun Try.prog (conOf []) (0, []) good (RetO (R)) 400 (entry Try.prog 68 [.kn (.int .i64 x), .kn (.int .i64 y)]) =
    (bif x != x then bif !y != y then R (some (V.kn (Value.bool true))) else R (some (V.kn (Value.bool (decide (x < y))))) else R (some (V.kn (Value.bool (decide (x < y)))))) := by kernel_rfl
theorem less_ok (x y : Int) (hp : less_pre x y) (good : Cfg → Prop) (hstep : ∀ c, arun Try.prog (conOf []) (0, []) good (RetO (Tells (less_val x y))) 400 (c) → good c) (hext : ∀ c c', CfgExt c c' → good c' → good c) (hle : ∀ c c', CfgLe 0 c c' → good c' → good c) : arun Try.prog (conOf []) (0, []) good (RetO (Tells (less_val x y))) 400 (entry Try.prog 68 [.kn (.int .i64 x), .kn (.int .i64 y)]) := by
  rw [less_res]
  refine cond_false' (by simp) ?_
  exact tell (by rw [less_val])
theorem less_con : SpecOK Try.prog 68 (lift Gless) := by
  refine con_of_run3 (con := conOf []) (hs := (0, [])) 400 Try.func68 rfl (by kernel_rfl) rfl conNil ?_
  intro args0 p r hG hp
  unfold Gless at hG
  split at hG
  case h_2 => cases hG
  rename_i x y
  cases hG
  exact ⟨[.kn (.int .i64 x), .kn (.int .i64 y)], ⟨VExt.refl _, VExt.refl _, trivial⟩, by simp [Try.ntmps68], fun good hstep hext hle => less_ok _ _ hp good hstep hext hle⟩
def ValueC_pre (k d n : Int) : Prop := n = 4 ∨ n = 6
noncomputable def ValueC_val (k d n : Int) : V := .tup [.kn (.int .i64 (n * 3)), .kn (.int .i64 0)]
theorem ValueC_res (k d n : Int) (good : Cfg → Prop) (R : Option V → Prop) : arun Try.prog (conOf []) (0, []) good (RetO (R)) 8000 (entry Try.prog 22 [.agg [.kn (.string ⟨#[111]⟩), .kn (.string ⟨#[115]⟩), .kn (.string ⟨#[98]⟩), .kn (.string ⟨#[69, 85, 82]⟩), .kn (.string ⟨#[102]⟩), .kn (.string ⟨#[116]⟩), .kn (.int .i64 0), .list 3 1 (eLine.tl [⟨⟨#[116, 101, 97]⟩, 10, 3⟩])], .agg [.kn (.string ⟨#[111]⟩), .kn (.int .i64 k), .kn (.int .i64 d), .list 2 1 (eLot.tl [⟨⟨#[116, 101, 97]⟩, n⟩])]]) =
    (((0 : Int) ≤ (0 : Int) ∧ (0 : Int) < (5 : Int)) ∧ (0 : Nat) < (5 : Nat) ∧ ((0 : Int) ≤ (0 : Int) ∧ (0 : Int) < (1 : Int)) ∧ ((0 : Int) ≤ (1 : Int) ∧ (1 : Int) < (5 : Int)) ∧ (1 : Nat) < (5 : Nat) ∧ ((0 : Int) ≤ (0 : Int) ∧ (0 : Int) < (1 : Int)) ∧ ((0 : Int) ≤ (2 : Int) ∧ (2 : Int) < (5 : Int)) ∧ (2 : Nat) < (5 : Nat) ∧ ((0 : Int) ≤ (0 : Int) ∧ (0 : Int) < (1 : Int)) ∧ ((0 : Int) ≤ (3 : Int) ∧ (3 : Int) < (5 : Int)) ∧ (3 : Nat) < (5 : Nat) ∧ ((0 : Int) ≤ (0 : Int) ∧ (0 : Int) < (1 : Int)) ∧ ((0 : Int) ≤ (4 : Int) ∧ (4 : Int) < (5 : Int)) ∧ (4 : Nat) < (5 : Nat) ∧ ((0 : Int) ≤ (0 : Int) ∧ (0 : Int) < (1 : Int)) ∧ ((0 : Int) ≤ (0 : Int) ∧ (0 : Int) < (1 : Int)) ∧ ((0 : Int) ≤ (0 : Int) ∧ (0 : Int) < (3 : Int)) ∧ ((0 : Int) ≤ (1 : Int) ∧ (1 : Int) < (3 : Int)) ∧ ((0 : Int) ≤ (2 : Int) ∧ (2 : Int) < (3 : Int)) ∧ ((0 : Int) ≤ (0 : Int) ∧ (0 : Int) < (1 : Int)) ∧ (0 : Nat) < (1 : Nat) ∧ ((0 : Int) ≤ (0 : Int) ∧ (0 : Int) < (1 : Int)) ∧ ((0 : Int) ≤ (0 : Int) ∧ (0 : Int) < (↑([{ good := (ByteArray.mk #[OfNat.ofNat (116 : Nat), OfNat.ofNat (101 : Nat), OfNat.ofNat (97 : Nat)]), count := n }].getD (0 : Nat) eLot.dflt).good.size : Int)) ∧ ((0 : Int) ≤ (1 : Int) ∧ (1 : Int) < (↑([{ good := (ByteArray.mk #[OfNat.ofNat (116 : Nat), OfNat.ofNat (101 : Nat), OfNat.ofNat (97 : Nat)]), count := n }].getD (0 : Nat) eLot.dflt).good.size : Int)) ∧ ((0 : Int) ≤ (2 : Int) ∧ (2 : Int) < (↑([{ good := (ByteArray.mk #[OfNat.ofNat (116 : Nat), OfNat.ofNat (101 : Nat), OfNat.ofNat (97 : Nat)]), count := n }].getD (0 : Nat) eLot.dflt).good.size : Int)) ∧ bif decide (([{ good := (ByteArray.mk #[OfNat.ofNat (116 : Nat), OfNat.ofNat (101 : Nat), OfNat.ofNat (97 : Nat)]), count := n }].getD (0 : Nat) eLot.dflt).count ≥ (1 : Int)) then bif !decide (([{ good := (ByteArray.mk #[OfNat.ofNat (116 : Nat), OfNat.ofNat (101 : Nat), OfNat.ofNat (97 : Nat)]), count := n }].getD (0 : Nat) eLot.dflt).count ≤ (1048576 : Int)) then R (some (V.tup [V.kn (Value.int IntKind.i64 (0 : Int)), V.kn (Value.int IntKind.i64 (1 : Int))])) else ((0 : Int) ≤ (0 : Int) ∧ (0 : Int) < (1 : Int)) ∧ ((0 : Int) ≤ (0 : Int) ∧ (0 : Int) < (1 : Int)) ∧ (0 : Nat) < (1 : Nat) ∧ ((0 : Int) ≤ (0 : Int) ∧ (0 : Int) < (1 : Int)) ∧ ((0 : Int) ≤ (0 : Int) ∧ (0 : Int) < (1 : Int)) ∧ bif decide (IntKind.i64.wrap ((0 : Int) + IntKind.i64.wrap (([{ good := (ByteArray.mk #[OfNat.ofNat (116 : Nat), OfNat.ofNat (101 : Nat), OfNat.ofNat (97 : Nat)]), count := n }].getD (0 : Nat) eLot.dflt).count * (3 : Int))) > (1099511627776 : Int)) then R (some (V.tup [V.kn (Value.int IntKind.i64 (0 : Int)), V.kn (Value.int IntKind.i64 (3 : Int))])) else R (some (V.tup [V.kn (Value.int IntKind.i64 (IntKind.i64.wrap ((0 : Int) + IntKind.i64.wrap (([{ good := (ByteArray.mk #[OfNat.ofNat (116 : Nat), OfNat.ofNat (101 : Nat), OfNat.ofNat (97 : Nat)]), count := n }].getD (0 : Nat) eLot.dflt).count * (3 : Int))))), V.kn (Value.int IntKind.i64 (0 : Int))])) else R (some (V.tup [V.kn (Value.int IntKind.i64 (0 : Int)), V.kn (Value.int IntKind.i64 (1 : Int))]))) := by kernel_rfl
theorem ValueC_ok (k d n : Int) (hp : ValueC_pre k d n) (good : Cfg → Prop) (hstep : ∀ c, arun Try.prog (conOf []) (0, []) good (RetO (Tells (ValueC_val k d n))) 8000 (c) → good c) (hext : ∀ c c', CfgExt c c' → good c' → good c) (hle : ∀ c c', CfgLe 0 c c' → good c' → good c) : arun Try.prog (conOf []) (0, []) good (RetO (Tells (ValueC_val k d n))) 8000 (entry Try.prog 22 [.agg [.kn (.string ⟨#[111]⟩), .kn (.string ⟨#[115]⟩), .kn (.string ⟨#[98]⟩), .kn (.string ⟨#[69, 85, 82]⟩), .kn (.string ⟨#[102]⟩), .kn (.string ⟨#[116]⟩), .kn (.int .i64 0), .list 3 1 (eLine.tl [⟨⟨#[116, 101, 97]⟩, 10, 3⟩])], .agg [.kn (.string ⟨#[111]⟩), .kn (.int .i64 k), .kn (.int .i64 d), .list 2 1 (eLot.tl [⟨⟨#[116, 101, 97]⟩, n⟩])]]) := by
  rw [ValueC_res]
  have hp : n = 4 ∨ n = 6 := hp
  rcases hp with rfl | rfl
  all_goals repeat' first | refine And.intro ?_ ?_ | exact tell rfl | refine cond_true' rfl ?_ | refine cond_false' rfl ?_
  all_goals first | omega | decide
noncomputable def GValue : PSpec
  | [.agg [.kn (.string no), .kn (.string se), .kn (.string bu), .kn (.string cu), .kn (.string fr), .kn (.string tw), .kn (.int .i64 te), .list s n f], .agg [.kn (.string oo), .kn (.int .i64 k), .kn (.int .i64 d), .list s2 n2 f2]] =>
    some ((no = ⟨#[111]⟩ ∧ se = ⟨#[115]⟩ ∧ bu = ⟨#[98]⟩ ∧ cu = ⟨#[69, 85, 82]⟩ ∧ fr = ⟨#[102]⟩ ∧ tw = ⟨#[116]⟩ ∧ te = 0 ∧ oo = ⟨#[111]⟩) ∧ (n = 1 ∧ f 0 = [.kn (.string ⟨#[116, 101, 97]⟩), .kn (.int .i64 10), .kn (.int .i64 3)]) ∧ (s = 3 ∧ s2 = 2) ∧ n2 = 1 ∧ ((f2 0 = [.kn (.string ⟨#[116, 101, 97]⟩), .kn (.int .i64 4)]) ∨ f2 0 = [.kn (.string ⟨#[116, 101, 97]⟩), .kn (.int .i64 6)]),
      .tup [.kn (.int .i64 (vInt ((f2 0).getD 1 .any) * 3)), .kn (.int .i64 0)])
  | _ => none


theorem Value_con : SpecOK Try.prog 22 (lift GValue) := by
  refine con_of_run3 (con := conOf []) (hs := (0, [])) 8000 Try.func22 rfl (by kernel_rfl) rfl conNil ?_
  intro args0 p r hG hp
  unfold GValue at hG
  split at hG
  case h_2 => cases hG
  rename_i no se bu cu fr tw te s n f oo k d s2 n2 f2
  cases hG
  obtain ⟨⟨rfl, rfl, rfl, rfl, rfl, rfl, rfl, rfl⟩, ⟨rfl, h1⟩, ⟨rfl, rfl⟩, rfl, h2⟩ := hp
  obtain ⟨q, hq, hv⟩ : ∃ q : Int, (q = 4 ∨ q = 6) ∧ f2 0 = [.kn (.string ⟨#[116, 101, 97]⟩), .kn (.int .i64 q)] := by
    rcases h2 with h2 | h2
    · exact ⟨4, .inl rfl, h2⟩
    · exact ⟨6, .inr rfl, h2⟩
  have e1 : VExt (.list 3 1 f) (.list 3 1 (eLine.tl [⟨⟨#[116, 101, 97]⟩, 10, 3⟩])) := VExt.list rfl fun i hi => by
    obtain rfl : i = 0 := by omega
    rw [h1]; rfl
  have e2 : VExt (.list 2 1 f2) (.list 2 1 (eLot.tl [⟨⟨#[116, 101, 97]⟩, q⟩])) := VExt.list rfl fun i hi => by
    obtain rfl : i = 0 := by omega
    rw [hv]; rfl
  have e : V.tup [.kn (.int .i64 (vInt ((f2 0).getD 1 .any) * 3)), .kn (.int .i64 0)] = ValueC_val k d q := by rw [hv]; rfl
  rw [e]
  refine ⟨[.agg [.kn (.string ⟨#[111]⟩), .kn (.string ⟨#[115]⟩), .kn (.string ⟨#[98]⟩), .kn (.string ⟨#[69, 85, 82]⟩), .kn (.string ⟨#[102]⟩), .kn (.string ⟨#[116]⟩), .kn (.int .i64 0), .list 3 1 (eLine.tl [⟨⟨#[116, 101, 97]⟩, 10, 3⟩])], .agg [.kn (.string ⟨#[111]⟩), .kn (.int .i64 k), .kn (.int .i64 d), .list 2 1 (eLot.tl [⟨⟨#[116, 101, 97]⟩, q⟩])]], ⟨VExt.agg ⟨VExt.refl _, VExt.refl _, VExt.refl _, VExt.refl _, VExt.refl _, VExt.refl _, VExt.refl _, e1, trivial⟩, VExt.agg ⟨VExt.refl _, VExt.refl _, VExt.refl _, e2, trivial⟩, trivial⟩, by simp [Try.ntmps22], fun good hstep hext hle => ?_⟩
  have h0 := ValueC_ok k d q hq good
  with_reducible exact h0 hstep hext hle

end Go.Proofs.Ytbedinfkepdobaa
