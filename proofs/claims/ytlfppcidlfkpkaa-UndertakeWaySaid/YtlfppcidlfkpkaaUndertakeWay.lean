/- What is proved: the statement UndertakeWaySaid; its walk is an executor's run in the imported texts. No condition beside the statement's own. -/
import Derived.Test.YtlfppcidlfkpkaaRows
import Derived.Test.YtlfppcidlfkpkaaCons
import Derived.Test.YtlfppcidlfkpkaaConb
import Derived.Test.YtlfppcidlfkpkaaConc
import Derived.Test.YtlfppcidlfkpkaaConj
import Derived.Test.YtlfppcidlfkpkaaCond
import Derived.Test.YtlfppcidlfkpkaaCone
import Derived.Test.YtlfppcidlfkpkaaConf
import Derived.Test.YtlfppcidlfkpkaaConi
import Derived.WalkKit
import Derived.ProofKit
import Derived.OpenShut
import Derived.ShutString
import Derived.ChangeOld
import Derived.Below
namespace Go.Proofs.Ytlfppcidlfkpkaa.undertakeWay
open Go.ChangeShapes Go.WideShapes Go.ChangeAt Go.RowKit Go.Aw
open Go.ChangeMaps (open_string shut_string)
set_option linter.unusedVariables false

theorem own : ownKnob Try.prog.godebug = none := by kernel_rfl
theorem laidOut : laidOutB Try.prog = true := by kernel_rfl

set_option maxRecDepth 100000 in
theorem lifted (os : Os) (started : os.Started) (H : Type) (enc : TypeId × Value → H) :
    ReturnsInHanded {} Try.checked os 5 .any (Rows.undertakeWaySpec.pre6 enc Try.prog Try.f5 Rows.undertakeWayRow.domain false) (Rows.undertakeWaySpec.post enc Try.prog Try.f5 false true false false) := by
  refine returnsInHanded_of_change (C := Try.checked) own started (by kernel_rfl) Try.func5
    (ChangeSpec.witness6 (enc := enc) (C := Try.checked) false ⟨#[], #[.agg #[.string ByteArray.empty, .string ByteArray.empty, .string ByteArray.empty, .string ByteArray.empty, .int .i64 0, .int .i64 0, .int .i64 0, .int .i64 0, .bool false], .int .i64 0, .agg #[.int .i64 0, .int .i64 0, .int .i64 0, .int .i64 0, .int .i64 0, .int .i64 0], .bool false], []⟩ 8 (by kernel_rfl) (by kernel_rfl) (by kernel_rfl) (by kernel_rfl)) ?_
  intro W base args ds gs before hval0 hW hcnd _
  have hval : ∀ (j : Nat) t v, Try.f5.params[j]? = some t → args[j]? = some v → Value.okWide Try.prog W .any base t v := hval0
  have hW' := hW
  obtain ⟨p, q, hA0, hV, rfl, hfz, hnd⟩ := hW
  have hA : DataW.TrodAll enc Try.prog W 0 (fun _ => true) true Try.f5.params.toList args.toList ds p := hA0
  rw [Try.params5] at hA hval
  obtain ⟨v0, vs0, d0, ds0, p0, q0, hargs, rfl, rfl, h0, r0⟩ := trodAll_cons hA
  obtain ⟨v1, vs1, d1, ds1, p1, q1, rfl, rfl, rfl, h1, r1⟩ := trodAll_cons r0
  obtain ⟨v2, vs2, d2, ds2, p2, q2, rfl, rfl, rfl, h2, r2⟩ := trodAll_cons r1
  obtain ⟨v3, vs3, d3, ds3, p3, q3, rfl, rfl, rfl, h3, r3⟩ := trodAll_cons r2
  obtain ⟨rfl, rfl, rfl⟩ := trodAll_nil r3
  obtain rfl : args = #[v0, v1, v2, v3] := by cases args; simp_all
  obtain ⟨rfl, rfl⟩ := trodVars_none hV
  have k0 := h0
  have lt0 : ∀ x ∈ p0, x.block < W.heap.size := by obtain ⟨m, hm⟩ := k0; exact DataW.trod_lt m _ _ _ hm
  obtain ⟨cs0, rfl⟩ := agg_of_struct Try.underlying23 (hval 0 23 v0 rfl rfl)
  obtain ⟨u0, o0, c0, e0⟩ := arg_struct 9 h0 (show shapes Try.prog 9 23 = some [.str, .str, .str, .str, .int .i64, .int .i64, .int .i64, .int .i64, .bool] by kernel_rfl)
  have k1 := h1
  have lt1 : ∀ x ∈ p1, x.block < W.heap.size := by obtain ⟨m, hm⟩ := k1; exact DataW.trod_lt m _ _ _ hm
  obtain ⟨u1, o1, e1⟩ := arg_leaf 9 h1 (show shapes Try.prog 9 2 = some [.int .i64] by kernel_rfl) (one_of_int Try.underlying2 (hval 1 2 v1 rfl rfl))
  have k2 := h2
  have lt2 : ∀ x ∈ p2, x.block < W.heap.size := by obtain ⟨m, hm⟩ := k2; exact DataW.trod_lt m _ _ _ hm
  obtain ⟨cs2, rfl⟩ := agg_of_array Try.underlying48 (hval 2 48 v2 rfl rfl)
  obtain ⟨u2, o2, c2, e2⟩ := arg_array 9 Try.underlying48 (by kernel_rfl) (by kernel_rfl) h2 (show shapes Try.prog 9 3 = some [.int .i64] by kernel_rfl)
  have k3 := h3
  have lt3 : ∀ x ∈ p3, x.block < W.heap.size := by obtain ⟨m, hm⟩ := k3; exact DataW.trod_lt m _ _ _ hm
  obtain ⟨u3, o3, e3⟩ := arg_leaf 9 h3 (show shapes Try.prog 9 4 = some [.bool] by kernel_rfl) (one_of_bool Try.underlying4 (hval 3 4 v3 rfl rfl))
  clear hA0 hval0
  refine (UndertakeWay_walk W o0 c0 e0 o1 e1 o2 c2 e2 o3 e3).mono fun e W' ⟨he, bel⟩ => ?_
  subst he
  exact ⟨_, rfl, _, _, _, [], _, [], hW', trodAll_mk1 (shut_bool Try.underlying4 _), (trodAll_cons_mk (Below.trod laidOut (by kernel_rfl) (of_decide_eq_true (by kernel_rfl)) k0 bel lt0) (trodAll_cons_mk (Below.trod laidOut (by kernel_rfl) (of_decide_eq_true (by kernel_rfl)) k1 bel lt1) (trodAll_cons_mk (Below.trod laidOut (by kernel_rfl) (of_decide_eq_true (by kernel_rfl)) k2 bel lt2) (trodAll_cons_mk (Below.trod laidOut (by kernel_rfl) (of_decide_eq_true (by kernel_rfl)) k3 bel lt3) trodAll_mk0)))), rfl, bel.frame _, fun h => by cases h⟩

theorem over : Rows.undertakeWayRow.holds Try.pinned (OpenSpec.ofChange Rows.undertakeWaySpec) :=
  OpenClaim.holds_of_wide 5 Try.f5 rfl rfl rfl rfl rfl rfl rfl ⟨rfl, rfl, rfl, rfl, rfl⟩ rfl rfl rfl rfl rfl (by kernel_rfl) Try.func5 (by kernel_rfl)
    (of_decide_eq_true (by kernel_rfl)) (by unfold Func.isWrapper; first | (rw [if_pos (by decide +kernel)]; kernel_rfl) | (rw [if_neg (by decide +kernel)]; exact ⟨rfl, rfl⟩))
    (fun os started H enc _ => lifted os started H enc)

theorem proved : Rows.UndertakeWaySaid := over
#print axioms proved
end Go.Proofs.Ytlfppcidlfkpkaa.undertakeWay
