/- What is proved: the statement OrderCutsSaid; its walk is an executor's run in the imported texts. No condition beside the statement's own. -/
import Derived.Test.YtbedinfkepdobaaRows
import Derived.Test.YtbedinfkepdobaaCons
import Derived.Test.YtbedinfkepdobaaConb
import Derived.Test.YtbedinfkepdobaaConc
import Derived.Test.YtbedinfkepdobaaCond
import Derived.Test.YtbedinfkepdobaaCone
import Derived.Test.YtbedinfkepdobaaConf
import Derived.Test.YtbedinfkepdobaaCong
import Derived.Test.YtbedinfkepdobaaConh
import Derived.Test.YtbedinfkepdobaaConi
import Derived.Test.YtbedinfkepdobaaConj
import Derived.Test.YtbedinfkepdobaaConk
import Derived.WalkKit
import Derived.ProofKit
import Derived.OpenShut
import Derived.ShutString
import Derived.ChangeOld
import Derived.Below
namespace Go.Proofs.Ytbedinfkepdobaa.orderCuts
open Go.ChangeShapes Go.WideShapes Go.ChangeAt Go.RowKit Go.Aw
open Go.ChangeMaps (open_string shut_string)
set_option linter.unusedVariables false

theorem own : ownKnob Try.prog.godebug = none := by kernel_rfl
theorem laidOut : laidOutB Try.prog = true := by kernel_rfl

set_option maxRecDepth 100000 in
theorem lifted (os : Os) (started : os.Started) (H : Type) (enc : TypeId × Value → H) :
    ReturnsInHanded {} Try.checked os 4 .any (Rows.orderCutsSpec.pre6 enc Try.prog Try.f4 Rows.orderCutsRow.domain false) (Rows.orderCutsSpec.post enc Try.prog Try.f4 false true false false) := by
  refine returnsInHanded_of_change (C := Try.checked) own started (by kernel_rfl) Try.func4
    (ChangeSpec.witness6 (enc := enc) (C := Try.checked) false ⟨#[], #[.agg #[.string ByteArray.empty, .string ByteArray.empty, .string ByteArray.empty, .string ByteArray.empty, .string ByteArray.empty, .string ByteArray.empty, .int .i64 0, .slice none 0 0], .slice none 0 0, .slice none 0 0], []⟩ 8 (by kernel_rfl) (by kernel_rfl) (by kernel_rfl) (by kernel_rfl)) ?_
  intro W base args ds gs before hval0 hW hcnd _
  have hval : ∀ (j : Nat) t v, Try.f4.params[j]? = some t → args[j]? = some v → Value.okWide Try.prog W .any base t v := hval0
  have hW' := hW
  obtain ⟨p, q, hA0, hV, rfl, hfz, hnd⟩ := hW
  have hA : DataW.TrodAll enc Try.prog W 0 (fun _ => true) true Try.f4.params.toList args.toList ds p := hA0
  rw [Try.params4] at hA hval
  obtain ⟨v0, vs0, d0, ds0, p0, q0, hargs, rfl, rfl, h0, r0⟩ := trodAll_cons hA
  obtain ⟨v1, vs1, d1, ds1, p1, q1, rfl, rfl, rfl, h1, r1⟩ := trodAll_cons r0
  obtain ⟨v2, vs2, d2, ds2, p2, q2, rfl, rfl, rfl, h2, r2⟩ := trodAll_cons r1
  obtain ⟨rfl, rfl, rfl⟩ := trodAll_nil r2
  obtain rfl : args = #[v0, v1, v2] := by cases args; simp_all
  obtain ⟨rfl, rfl⟩ := trodVars_none hV
  have k0 := h0
  have lt0 : ∀ x ∈ p0, x.block < W.heap.size := by obtain ⟨m, hm⟩ := k0; exact DataW.trod_lt m _ _ _ hm
  obtain ⟨cs0, rfl⟩ := agg_of_struct Try.underlying24 (hval 0 24 v0 rfl rfl)
  obtain ⟨u0, o0, c0, e0⟩ := arg_struct 9 h0 (show shapes Try.prog 9 24 = some [.str, .str, .str, .str, .str, .str, .int .i64, .sl [.str, .int .i64, .int .i64]] by kernel_rfl)
  have k1 := h1
  have lt1 : ∀ x ∈ p1, x.block < W.heap.size := by obtain ⟨m, hm⟩ := k1; exact DataW.trod_lt m _ _ _ hm
  obtain ⟨u1, o1, e1⟩ := arg_leaf 9 h1 (show shapes Try.prog 9 32 = some [.sl [.int .i64]] by kernel_rfl) (one_of_slice Try.underlying32 (hval 1 32 v1 rfl rfl))
  have k2 := h2
  have lt2 : ∀ x ∈ p2, x.block < W.heap.size := by obtain ⟨m, hm⟩ := k2; exact DataW.trod_lt m _ _ _ hm
  obtain ⟨u2, o2, e2⟩ := arg_leaf 9 h2 (show shapes Try.prog 9 33 = some [.sl [.sl [.int .i64]]] by kernel_rfl) (one_of_slice Try.underlying33 (hval 2 33 v2 rfl rfl))
  clear hA0 hval0
  refine (OrderCuts_walk W o0 c0 e0 o1 e1 o2 e2).mono fun e W' ⟨he, bel⟩ => ?_
  subst he
  exact ⟨_, rfl, _, _, _, [], _, [], hW', trodAll_mk1 (shut_bool Try.underlying4 _), (trodAll_cons_mk (Below.trod laidOut (by kernel_rfl) (of_decide_eq_true (by kernel_rfl)) k0 bel lt0) (trodAll_cons_mk (Below.trod laidOut (by kernel_rfl) (of_decide_eq_true (by kernel_rfl)) k1 bel lt1) (trodAll_cons_mk (Below.trod laidOut (by kernel_rfl) (of_decide_eq_true (by kernel_rfl)) k2 bel lt2) trodAll_mk0))), rfl, bel.frame _, fun h => by cases h⟩

theorem over : Rows.orderCutsRow.holds Try.pinned (OpenSpec.ofChange Rows.orderCutsSpec) :=
  OpenClaim.holds_of_wide 4 Try.f4 rfl rfl rfl rfl rfl rfl rfl ⟨rfl, rfl, rfl, rfl, rfl⟩ rfl rfl rfl rfl rfl (by kernel_rfl) Try.func4 (by kernel_rfl)
    (of_decide_eq_true (by kernel_rfl)) (by unfold Func.isWrapper; first | (rw [if_pos (by decide +kernel)]; kernel_rfl) | (rw [if_neg (by decide +kernel)]; exact ⟨rfl, rfl⟩))
    (fun os started H enc _ => lifted os started H enc)

theorem proved : Rows.OrderCutsSaid := over
#print axioms proved
end Go.Proofs.Ytbedinfkepdobaa.orderCuts
