/- What is proved: contracts of functions of one seat, each by the executor; written by a program of the prover (gen.py) and by hand. Conditions: each contract names its own. -/
import Derived.Test.YtgepkpajndlgeaaAw2
import Derived.Test.YtgepkpajndlgeaaProg
import Derived.KernelRfl
import Derived.IntWalk
import Derived.Test.YtgepkpajndlgeaaConf
import Derived.MapKept
namespace Go.Proofs.Ytgepkpajndlgeaa
open Go Go.Aw Go.RowKit
set_option linter.unusedVariables false
set_option linter.unusedSimpArgs false
set_option maxRecDepth 10000
def asI (L : List Hand) (d : Int) : Option Nat := lastI d (eHand.tl L) L.length
def asR (L : List Hand) (d : Int) : V := .tup [.kn (.string (strOf (eHand.tl L) 2 (asI L d))), .kn (.string (strOf (eHand.tl L) 3 (asI L d))), .kn (.bool (asI L d).isSome)]


def hRow (x : Hand) : Bk.Row := (x.box, x.src, x.dst, x.place, x.day)
theorem keep_re {F : Value → List Hand} {b : ByteArray} {n : Nat} (hL : 0 < (F (.string b)).length) :
    Re 2 (V.forget [0, 1]) [.cells [.mp 1], .map .str false n [(.string b, some [.sl 2])] (fun x => hasG F x) (fun x => [.sl 0]) (fun x => [.row 41 5 (F x).length (eHand.tl (F x))]) [], .row 41 5 (F (.string b)).length (eHand.tl (F (.string b))) true] [.cells [.mp 1], .map .str false n [] (hasG F) getG (subG F) []] :=
  put_re hL rfl (fun _ _ _ => rfl) (fun k => rfl) (eHand.is_tl _) rfl

def AsN_pre (b : ByteArray) (d : Int) (n : Nat) (F : Value → List Hand) : Prop := hasG F (.string b) = false
noncomputable def AsN_val (b : ByteArray) (d : Int) (n : Nat) (F : Value → List Hand) : V := (asR (F (.string b)) d)
noncomputable def AsN_objs (b : ByteArray) (d : Int) (n : Nat) (F : Value → List Hand) : List O := [.cells [.mp 1], .map .str false n [] (hasG F) getG (subG F) []]
theorem AsN_res (b : ByteArray) (d : Int) (n : Nat) (F : Value → List Hand) (good : Cfg → Prop) (R : V → List O → Prop) : arun Try.prog (conOf []) (2, []) good (RetS 2 [.ptr 0 0, .kn (.string b), .kn (.int .i64 d)] [] (R)) 1500 (entryO Try.prog 13 [.ptr 0 0, .kn (.string b), .kn (.int .i64 d)] [.cells [.mp 1], .map .str false n [] (hasG F) getG (subG F) []]) =
    (bif hasG F (Value.string b) then TailOK Try.prog { fn := (13 : Nat), nt := (28 : Nat), t := [((17 : Nat), V.fn (43 : Nat) [V.ptr (7 : Nat) (0 : Nat)]), ((16 : Nat), V.sl (6 : Nat)), ((15 : Nat), V.kn (Value.string b)), ((14 : Nat), V.mp (1 : Nat)), ((13 : Nat), V.ptr (0 : Nat) (0 : Nat)), ((12 : Nat), V.ptr (0 : Nat) (0 : Nat)), ((11 : Nat), V.ptr (0 : Nat) (0 : Nat)), ((8 : Nat), V.ptr (5 : Nat) (0 : Nat)), ((7 : Nat), V.ptr (4 : Nat) (0 : Nat)), ((6 : Nat), V.ptr (3 : Nat) (0 : Nat)), ((5 : Nat), V.ptr (2 : Nat) (0 : Nat)), ((0 : Nat), V.ptr (0 : Nat) (0 : Nat)), ((1 : Nat), V.kn (Value.string b)), ((2 : Nat), V.kn (Value.int IntKind.i64 d))], k := tailK Try.prog (13 : Nat) } [O.cells [V.mp (1 : Nat)], O.map KK.str false n [(Value.string b, some [V.sl (6 : Nat)])] (fun x => hasG F x) (fun x => [V.sl (0 : Nat)]) (fun x => [SO.row (41 : Nat) (5 : Nat) (F x).length (eHand.tl (F x))]) [], O.cells [V.kn (Value.int IntKind.i64 d)], O.cells [V.kn (Value.string { data := #[] })], O.cells [V.kn (Value.string { data := #[] })], O.cells [V.kn (Value.bool false)], O.row (41 : Nat) (5 : Nat) (F (Value.string b)).length (eHand.tl (F (Value.string b))) true, O.cells [V.sl (6 : Nat)]] (V.tup [V.kn (Value.string (strOf (eHand.tl (F (Value.string b))) (2 : Nat) (lastI d (eHand.tl (F (Value.string b))) (F (Value.string b)).length))), V.kn (Value.string (strOf (eHand.tl (F (Value.string b))) (3 : Nat) (lastI d (eHand.tl (F (Value.string b))) (F (Value.string b)).length))), V.kn (Value.bool (lastI d (eHand.tl (F (Value.string b))) (F (Value.string b)).length).isSome)]) [((3 : Nat), O.dead), ((4 : Nat), O.dead), ((5 : Nat), O.dead)] ∧ R (V.tup [V.kn (Value.string (strOf (eHand.tl (F (Value.string b))) (2 : Nat) (lastI d (eHand.tl (F (Value.string b))) (F (Value.string b)).length))), V.kn (Value.string (strOf (eHand.tl (F (Value.string b))) (3 : Nat) (lastI d (eHand.tl (F (Value.string b))) (F (Value.string b)).length))), V.kn (Value.bool (lastI d (eHand.tl (F (Value.string b))) (F (Value.string b)).length).isSome)]) [O.cells [V.mp (1 : Nat)], O.map KK.str false n [(Value.string b, some [V.any])] (fun x => hasG F x) (fun x => [V.sl (0 : Nat)]) (fun x => [SO.row (41 : Nat) (5 : Nat) (F x).length (eHand.tl (F x))]) []] else TailOK Try.prog { fn := (13 : Nat), nt := (28 : Nat), t := [((17 : Nat), V.fn (43 : Nat) [V.ptr (6 : Nat) (0 : Nat)]), ((16 : Nat), V.kn (Value.slice none (0 : Nat) (0 : Nat))), ((15 : Nat), V.kn (Value.string b)), ((14 : Nat), V.mp (1 : Nat)), ((13 : Nat), V.ptr (0 : Nat) (0 : Nat)), ((12 : Nat), V.ptr (0 : Nat) (0 : Nat)), ((11 : Nat), V.ptr (0 : Nat) (0 : Nat)), ((8 : Nat), V.ptr (5 : Nat) (0 : Nat)), ((7 : Nat), V.ptr (4 : Nat) (0 : Nat)), ((6 : Nat), V.ptr (3 : Nat) (0 : Nat)), ((5 : Nat), V.ptr (2 : Nat) (0 : Nat)), ((0 : Nat), V.ptr (0 : Nat) (0 : Nat)), ((1 : Nat), V.kn (Value.string b)), ((2 : Nat), V.kn (Value.int IntKind.i64 d))], k := tailK Try.prog (13 : Nat) } [O.cells [V.mp (1 : Nat)], O.map KK.str false n [] (fun x => hasG F x) (fun x => [V.sl (0 : Nat)]) (fun x => [SO.row (41 : Nat) (5 : Nat) (F x).length (eHand.tl (F x))]) [], O.cells [V.kn (Value.int IntKind.i64 d)], O.cells [V.kn (Value.string { data := #[] })], O.cells [V.kn (Value.string { data := #[] })], O.cells [V.kn (Value.bool false)], O.cells [V.kn (Value.slice none (0 : Nat) (0 : Nat))]] (V.tup [V.kn (Value.string (strOf (fun x => []) (2 : Nat) (lastI d (fun x => []) (0 : Nat)))), V.kn (Value.string (strOf (fun x => []) (3 : Nat) (lastI d (fun x => []) (0 : Nat)))), V.kn (Value.bool (lastI d (fun x => []) (0 : Nat)).isSome)]) [((3 : Nat), O.dead), ((4 : Nat), O.dead), ((5 : Nat), O.dead)] ∧ R (V.tup [V.kn (Value.string (strOf (fun x => []) (2 : Nat) (lastI d (fun x => []) (0 : Nat)))), V.kn (Value.string (strOf (fun x => []) (3 : Nat) (lastI d (fun x => []) (0 : Nat)))), V.kn (Value.bool (lastI d (fun x => []) (0 : Nat)).isSome)]) [O.cells [V.mp (1 : Nat)], O.map KK.str false n [] (fun x => hasG F x) (fun x => [V.sl (0 : Nat)]) (fun x => [SO.row (41 : Nat) (5 : Nat) (F x).length (eHand.tl (F x))]) []]) := by kernel_rfl
theorem AsN_ok (b : ByteArray) (d : Int) (n : Nat) (F : Value → List Hand) (hp : AsN_pre b d n F) (good : Cfg → Prop) (hstep : ∀ c, arun Try.prog (conOf []) (2, []) good (RetS 2 [.ptr 0 0, .kn (.string b), .kn (.int .i64 d)] [] (TellsT 2 (AsN_val b d n F) (AsN_objs b d n F))) 1500 (c) → good c) (hext : ∀ c c', CfgExt c c' → good c' → good c) (hle : ∀ c c', CfgLe 2 c c' → good c' → good c) : arun Try.prog (conOf []) (2, []) good (RetS 2 [.ptr 0 0, .kn (.string b), .kn (.int .i64 d)] [] (TellsT 2 (AsN_val b d n F) (AsN_objs b d n F))) 1500 (entryO Try.prog 13 [.ptr 0 0, .kn (.string b), .kn (.int .i64 d)] [.cells [.mp 1], .map .str false n [] (hasG F) getG (subG F) []]) := by
  rw [AsN_res]
  have hh : hasG F (.string b) = false := hp
  have hnil : F (.string b) = [] := List.length_eq_zero_iff.1 (by have := of_decide_eq_false (show decide (0 < (F (.string b)).length) = false from hh); omega)
  refine cond_false' hh ⟨Bk.as_tail (fun _ => hRow eHand.dflt) rfl rfl rfl rfl rfl rfl rfl rfl rfl rfl rfl (by decide) (by decide) (.inl rfl) (fun i hi => by omega), tell_stay ?_⟩
  rw [AsN_val, hnil]; rfl
def AsY_pre (b : ByteArray) (d : Int) (n : Nat) (F : Value → List Hand) : Prop := hasG F (.string b) = true ∧ (F (.string b)).length ≤ 4000
noncomputable def AsY_val (b : ByteArray) (d : Int) (n : Nat) (F : Value → List Hand) : V := (asR (F (.string b)) d)
noncomputable def AsY_objs (b : ByteArray) (d : Int) (n : Nat) (F : Value → List Hand) : List O := [.cells [.mp 1], .map .str false n [] (hasG F) getG (subG F) []]
theorem AsY_res (b : ByteArray) (d : Int) (n : Nat) (F : Value → List Hand) (good : Cfg → Prop) (R : V → List O → Prop) : arun Try.prog (conOf []) (2, []) good (RetS 2 [.ptr 0 0, .kn (.string b), .kn (.int .i64 d)] [(3, [0, 0])] (R)) 1500 (entryO Try.prog 13 [.ptr 0 0, .kn (.string b), .kn (.int .i64 d)] [.cells [.mp 1], .map .str false n [] (hasG F) getG (subG F) []]) =
    (bif hasG F (Value.string b) then TailOK Try.prog { fn := (13 : Nat), nt := (28 : Nat), t := [((17 : Nat), V.fn (43 : Nat) [V.ptr (7 : Nat) (0 : Nat)]), ((16 : Nat), V.sl (6 : Nat)), ((15 : Nat), V.kn (Value.string b)), ((14 : Nat), V.mp (1 : Nat)), ((13 : Nat), V.ptr (0 : Nat) (0 : Nat)), ((12 : Nat), V.ptr (0 : Nat) (0 : Nat)), ((11 : Nat), V.ptr (0 : Nat) (0 : Nat)), ((8 : Nat), V.ptr (5 : Nat) (0 : Nat)), ((7 : Nat), V.ptr (4 : Nat) (0 : Nat)), ((6 : Nat), V.ptr (3 : Nat) (0 : Nat)), ((5 : Nat), V.ptr (2 : Nat) (0 : Nat)), ((0 : Nat), V.ptr (0 : Nat) (0 : Nat)), ((1 : Nat), V.kn (Value.string b)), ((2 : Nat), V.kn (Value.int IntKind.i64 d))], k := tailK Try.prog (13 : Nat) } [O.cells [V.mp (1 : Nat)], O.map KK.str false n [(Value.string b, some [V.sl (6 : Nat)])] (fun x => hasG F x) (fun x => [V.sl (0 : Nat)]) (fun x => [SO.row (41 : Nat) (5 : Nat) (F x).length (eHand.tl (F x))]) [], O.cells [V.kn (Value.int IntKind.i64 d)], O.cells [V.kn (Value.string { data := #[] })], O.cells [V.kn (Value.string { data := #[] })], O.cells [V.kn (Value.bool false)], O.row (41 : Nat) (5 : Nat) (F (Value.string b)).length (eHand.tl (F (Value.string b))) true, O.cells [V.sl (6 : Nat)]] (V.tup [V.kn (Value.string (strOf (eHand.tl (F (Value.string b))) (2 : Nat) (lastI d (eHand.tl (F (Value.string b))) (F (Value.string b)).length))), V.kn (Value.string (strOf (eHand.tl (F (Value.string b))) (3 : Nat) (lastI d (eHand.tl (F (Value.string b))) (F (Value.string b)).length))), V.kn (Value.bool (lastI d (eHand.tl (F (Value.string b))) (F (Value.string b)).length).isSome)]) [((3 : Nat), O.dead), ((4 : Nat), O.dead), ((5 : Nat), O.dead)] ∧ R (V.tup [V.kn (Value.string (strOf (eHand.tl (F (Value.string b))) (2 : Nat) (lastI d (eHand.tl (F (Value.string b))) (F (Value.string b)).length))), V.kn (Value.string (strOf (eHand.tl (F (Value.string b))) (3 : Nat) (lastI d (eHand.tl (F (Value.string b))) (F (Value.string b)).length))), V.kn (Value.bool (lastI d (eHand.tl (F (Value.string b))) (F (Value.string b)).length).isSome)]) [O.cells [V.mp (1 : Nat)], O.map KK.str false n [(Value.string b, some [V.sl (2 : Nat)])] (fun x => hasG F x) (fun x => [V.sl (0 : Nat)]) (fun x => [SO.row (41 : Nat) (5 : Nat) (F x).length (eHand.tl (F x))]) [], O.row (41 : Nat) (5 : Nat) (F (Value.string b)).length (eHand.tl (F (Value.string b))) true] else TailOK Try.prog { fn := (13 : Nat), nt := (28 : Nat), t := [((17 : Nat), V.fn (43 : Nat) [V.ptr (6 : Nat) (0 : Nat)]), ((16 : Nat), V.kn (Value.slice none (0 : Nat) (0 : Nat))), ((15 : Nat), V.kn (Value.string b)), ((14 : Nat), V.mp (1 : Nat)), ((13 : Nat), V.ptr (0 : Nat) (0 : Nat)), ((12 : Nat), V.ptr (0 : Nat) (0 : Nat)), ((11 : Nat), V.ptr (0 : Nat) (0 : Nat)), ((8 : Nat), V.ptr (5 : Nat) (0 : Nat)), ((7 : Nat), V.ptr (4 : Nat) (0 : Nat)), ((6 : Nat), V.ptr (3 : Nat) (0 : Nat)), ((5 : Nat), V.ptr (2 : Nat) (0 : Nat)), ((0 : Nat), V.ptr (0 : Nat) (0 : Nat)), ((1 : Nat), V.kn (Value.string b)), ((2 : Nat), V.kn (Value.int IntKind.i64 d))], k := tailK Try.prog (13 : Nat) } [O.cells [V.mp (1 : Nat)], O.map KK.str false n [] (fun x => hasG F x) (fun x => [V.sl (0 : Nat)]) (fun x => [SO.row (41 : Nat) (5 : Nat) (F x).length (eHand.tl (F x))]) [], O.cells [V.kn (Value.int IntKind.i64 d)], O.cells [V.kn (Value.string { data := #[] })], O.cells [V.kn (Value.string { data := #[] })], O.cells [V.kn (Value.bool false)], O.cells [V.kn (Value.slice none (0 : Nat) (0 : Nat))]] (V.tup [V.kn (Value.string (strOf (fun x => []) (2 : Nat) (lastI d (fun x => []) (0 : Nat)))), V.kn (Value.string (strOf (fun x => []) (3 : Nat) (lastI d (fun x => []) (0 : Nat)))), V.kn (Value.bool (lastI d (fun x => []) (0 : Nat)).isSome)]) [((3 : Nat), O.dead), ((4 : Nat), O.dead), ((5 : Nat), O.dead)] ∧ False) := by kernel_rfl
theorem AsY_ok (b : ByteArray) (d : Int) (n : Nat) (F : Value → List Hand) (hp : AsY_pre b d n F) (good : Cfg → Prop) (hstep : ∀ c, arun Try.prog (conOf []) (2, []) good (RetS 2 [.ptr 0 0, .kn (.string b), .kn (.int .i64 d)] [(3, [0, 0])] (TellsT 2 (AsY_val b d n F) (AsY_objs b d n F))) 1500 (c) → good c) (hext : ∀ c c', CfgExt c c' → good c' → good c) (hle : ∀ c c', CfgLe 2 c c' → good c' → good c) : arun Try.prog (conOf []) (2, []) good (RetS 2 [.ptr 0 0, .kn (.string b), .kn (.int .i64 d)] [(3, [0, 0])] (TellsT 2 (AsY_val b d n F) (AsY_objs b d n F))) 1500 (entryO Try.prog 13 [.ptr 0 0, .kn (.string b), .kn (.int .i64 d)] [.cells [.mp 1], .map .str false n [] (hasG F) getG (subG F) []]) := by
  rw [AsY_res]
  obtain ⟨hh, hl⟩ := hp
  have hL : 0 < (F (.string b)).length := of_decide_eq_true hh
  refine cond_true' hh ⟨Bk.as_tail (fun i => hRow ((F (.string b)).getD i eHand.dflt)) rfl rfl rfl rfl rfl rfl rfl rfl rfl rfl rfl (by decide) (by omega) (.inr rfl) (fun i hi => rfl), ⟨V.forget [0, 1], _, VExt.refl _, keep_re hL, rfl⟩⟩
def HistN_pre (b : ByteArray) (n : Nat) (F : Value → List Hand) : Prop := hasG F (.string b) = false
noncomputable def HistN_val (b : ByteArray) (n : Nat) (F : Value → List Hand) : V := .list eHand.s (F (.string b)).length (eHand.tl (F (.string b)))
noncomputable def HistN_objs (b : ByteArray) (n : Nat) (F : Value → List Hand) : List O := [.cells [.mp 1], .map .str false n [] (hasG F) getG (subG F) []]
theorem HistN_res (b : ByteArray) (n : Nat) (F : Value → List Hand) (good : Cfg → Prop) (R : V → List O → Prop) : arun Try.prog (conOf []) (2, []) good (RetS 2 [.ptr 0 0, .kn (.string b)] [] (R)) 1500 (entryO Try.prog 15 [.ptr 0 0, .kn (.string b)] [.cells [.mp 1], .map .str false n [] (hasG F) getG (subG F) []]) =
    (bif hasG F (Value.string b) then ∀ (b_1 : Bool), ((F (Value.string b)).length.beq (OfNat.ofNat (0 : Nat)) || match b_1, false with | true, true => true | false, false => true | x, x_1 => false) = true → bif b_1 then R (V.list (1 : Nat) (0 : Nat) fun i => []) [O.cells [V.mp (1 : Nat)], O.map KK.str false n [(Value.string b, some [V.any])] (fun x => hasG F x) (fun x => [V.sl (0 : Nat)]) (fun x => [SO.row (41 : Nat) (5 : Nat) (F x).length (eHand.tl (F x))]) []] else ((0 : Nat) + (F (Value.string b)).length ≤ (9223372036854775807 : Nat) ∧ ((0 : Nat) + (F (Value.string b)).length) * (72 : Nat) ≤ (140737488355328 : Nat)) ∧ R (V.list (5 : Nat) ((0 : Nat) + (F (Value.string b)).length) (catF (0 : Nat) (rowF [] (5 : Nat)) (eHand.tl (F (Value.string b))))) [O.cells [V.mp (1 : Nat)], O.map KK.str false n [(Value.string b, some [V.any])] (fun x => hasG F x) (fun x => [V.sl (0 : Nat)]) (fun x => [SO.row (41 : Nat) (5 : Nat) (F x).length (eHand.tl (F x))]) []] else R (V.list (1 : Nat) (0 : Nat) fun i => []) [O.cells [V.mp (1 : Nat)], O.map KK.str false n [] (fun x => hasG F x) (fun x => [V.sl (0 : Nat)]) (fun x => [SO.row (41 : Nat) (5 : Nat) (F x).length (eHand.tl (F x))]) []]) := by kernel_rfl
theorem HistN_ok (b : ByteArray) (n : Nat) (F : Value → List Hand) (hp : HistN_pre b n F) (good : Cfg → Prop) (hstep : ∀ c, arun Try.prog (conOf []) (2, []) good (RetS 2 [.ptr 0 0, .kn (.string b)] [] (TellsT 2 (HistN_val b n F) (HistN_objs b n F))) 1500 (c) → good c) (hext : ∀ c c', CfgExt c c' → good c' → good c) (hle : ∀ c c', CfgLe 2 c c' → good c' → good c) : arun Try.prog (conOf []) (2, []) good (RetS 2 [.ptr 0 0, .kn (.string b)] [] (TellsT 2 (HistN_val b n F) (HistN_objs b n F))) 1500 (entryO Try.prog 15 [.ptr 0 0, .kn (.string b)] [.cells [.mp 1], .map .str false n [] (hasG F) getG (subG F) []]) := by
  rw [HistN_res]
  have hh : hasG F (.string b) = false := hp
  have hnil : F (.string b) = [] := List.length_eq_zero_iff.1 (by have := of_decide_eq_false (show decide (0 < (F (.string b)).length) = false from hh); omega)
  refine cond_false' hh ⟨fun v => v, _, ?_, Re.refl _ _, rfl⟩
  rw [HistN_val, hnil]
  exact VExt.nilL
def HistY_pre (b : ByteArray) (n : Nat) (F : Value → List Hand) : Prop := hasG F (.string b) = true ∧ (F (.string b)).length ≤ 4000
noncomputable def HistY_val (b : ByteArray) (n : Nat) (F : Value → List Hand) : V := .list eHand.s (F (.string b)).length (eHand.tl (F (.string b)))
noncomputable def HistY_objs (b : ByteArray) (n : Nat) (F : Value → List Hand) : List O := [.cells [.mp 1], .map .str false n [] (hasG F) getG (subG F) []]
theorem HistY_res (b : ByteArray) (n : Nat) (F : Value → List Hand) (good : Cfg → Prop) (R : V → List O → Prop) : arun Try.prog (conOf []) (2, []) good (RetS 2 [.ptr 0 0, .kn (.string b)] [(1, [0, 0])] (R)) 1500 (entryO Try.prog 15 [.ptr 0 0, .kn (.string b)] [.cells [.mp 1], .map .str false n [] (hasG F) getG (subG F) []]) =
    (bif hasG F (Value.string b) then ∀ (b_1 : Bool), ((F (Value.string b)).length.beq (OfNat.ofNat (0 : Nat)) || match b_1, false with | true, true => true | false, false => true | x, x_1 => false) = true → bif b_1 then R (V.list (1 : Nat) (0 : Nat) fun i => []) [O.cells [V.mp (1 : Nat)], O.map KK.str false n [(Value.string b, some [V.sl (2 : Nat)])] (fun x => hasG F x) (fun x => [V.sl (0 : Nat)]) (fun x => [SO.row (41 : Nat) (5 : Nat) (F x).length (eHand.tl (F x))]) [], O.row (41 : Nat) (5 : Nat) (F (Value.string b)).length (eHand.tl (F (Value.string b))) true] else ((0 : Nat) + (F (Value.string b)).length ≤ (9223372036854775807 : Nat) ∧ ((0 : Nat) + (F (Value.string b)).length) * (72 : Nat) ≤ (140737488355328 : Nat)) ∧ R (V.list (5 : Nat) ((0 : Nat) + (F (Value.string b)).length) (catF (0 : Nat) (rowF [] (5 : Nat)) (eHand.tl (F (Value.string b))))) [O.cells [V.mp (1 : Nat)], O.map KK.str false n [(Value.string b, some [V.sl (2 : Nat)])] (fun x => hasG F x) (fun x => [V.sl (0 : Nat)]) (fun x => [SO.row (41 : Nat) (5 : Nat) (F x).length (eHand.tl (F x))]) [], O.row (41 : Nat) (5 : Nat) (F (Value.string b)).length (eHand.tl (F (Value.string b))) true] else False) := by kernel_rfl
theorem HistY_ok (b : ByteArray) (n : Nat) (F : Value → List Hand) (hp : HistY_pre b n F) (good : Cfg → Prop) (hstep : ∀ c, arun Try.prog (conOf []) (2, []) good (RetS 2 [.ptr 0 0, .kn (.string b)] [(1, [0, 0])] (TellsT 2 (HistY_val b n F) (HistY_objs b n F))) 1500 (c) → good c) (hext : ∀ c c', CfgExt c c' → good c' → good c) (hle : ∀ c c', CfgLe 2 c c' → good c' → good c) : arun Try.prog (conOf []) (2, []) good (RetS 2 [.ptr 0 0, .kn (.string b)] [(1, [0, 0])] (TellsT 2 (HistY_val b n F) (HistY_objs b n F))) 1500 (entryO Try.prog 15 [.ptr 0 0, .kn (.string b)] [.cells [.mp 1], .map .str false n [] (hasG F) getG (subG F) []]) := by
  rw [HistY_res]
  obtain ⟨hh, hl⟩ := hp
  have hL : 0 < (F (.string b)).length := of_decide_eq_true hh
  refine cond_true' hh (fun b1 hb => ?_)
  cases b1 with
  | true =>
    have : (F (.string b)).length.beq 0 = true := by simpa using hb
    have := Nat.eq_of_beq_eq_true this
    omega
  | false => exact ⟨⟨by omega, by omega⟩, V.forget [0, 1], .list 5 (F (.string b)).length (eHand.tl (F (.string b))), VExt.list (by omega) (fun i hi => rfl), keep_re hL, rfl⟩
def Same_pre  (a : List Hand) (b : List Hand) : Prop := True
noncomputable def Same_val  (a : List Hand) (b : List Hand) : V := .kn (.bool (bP (a = b)))
noncomputable def GSame : PSpec
  | [.list s_a n_a f_a, .list s_b n_b f_b] => some (eHand.okl s_a n_a f_a ∧ eHand.okl s_b n_b f_b ∧ Same_pre (eHand.dl n_a f_a) (eHand.dl n_b f_b), Same_val (eHand.dl n_a f_a) (eHand.dl n_b f_b))
  | _ => none
theorem Same_res  (a : List Hand) (b : List Hand) (good : Cfg → Prop) (R : Option V → Prop) : arun Try.prog (conOf []) (0, [(14, 4, [0, 1, 5], [])]) good (RetO (R)) 400 (entry Try.prog 14 [.list eHand.s a.length (eHand.tl a), .list eHand.s b.length (eHand.tl b)]) =
    (bif (↑a.length : Int) != (↑b.length : Int) then R (some (V.kn (Value.bool false))) else good { fr := { fn := (14 : Nat), nt := (26 : Nat), t := [((0 : Nat), V.list (5 : Nat) a.length (eHand.tl a)), ((1 : Nat), V.list (5 : Nat) b.length (eHand.tl b)), ((5 : Nat), V.kn (Value.int IntKind.i64 (0 : Int)))], k := loopK Try.prog (14 : Nat) (4 : Nat) }, cs := [], h := [] }) := by kernel_rfl
@[reducible] noncomputable def Same_c4 (a : List Hand) (b : List Hand) (i : Int) : Cfg := ⟨⟨14, 26, [(0, .list eHand.s a.length (eHand.tl a)), (1, .list eHand.s b.length (eHand.tl b)), (5, .kn (.int .i64 i))], loopK Try.prog 14 4⟩, [], []⟩
theorem Same_l4 (a : List Hand) (b : List Hand) (i : Int) (good : Cfg → Prop) (R : Option V → Prop) : arun Try.prog (conOf []) (0, [(14, 4, [0, 1, 5], [])]) good (RetO (R)) 400 (Same_c4 a b i) =
    (bif decide (i < (↑a.length : Int)) then ((0 : Int) ≤ i ∧ i < (↑a.length : Int)) ∧ ((0 : Int) ≤ i ∧ i < (↑b.length : Int)) ∧ bif !((a.getD i.toNat eHand.dflt).box == (b.getD i.toNat eHand.dflt).box && ((a.getD i.toNat eHand.dflt).src == (b.getD i.toNat eHand.dflt).src && ((a.getD i.toNat eHand.dflt).dst == (b.getD i.toNat eHand.dflt).dst && ((a.getD i.toNat eHand.dflt).place == (b.getD i.toNat eHand.dflt).place && ((a.getD i.toNat eHand.dflt).day == (b.getD i.toNat eHand.dflt).day && true))))) then R (some (V.kn (Value.bool false))) else good { fr := { fn := (14 : Nat), nt := (26 : Nat), t := [((0 : Nat), V.list (5 : Nat) a.length (eHand.tl a)), ((1 : Nat), V.list (5 : Nat) b.length (eHand.tl b)), ((5 : Nat), V.kn (Value.int IntKind.i64 (IntKind.i64.wrap (i + (1 : Int)))))], k := loopK Try.prog (14 : Nat) (4 : Nat) }, cs := [], h := [] } else R (some (V.kn (Value.bool true)))) := by kernel_rfl
theorem Same_ok  (a : List Hand) (b : List Hand) (len_a : a.length ≤ maxLen) (len_b : b.length ≤ maxLen) (hp : Same_pre a b) (good : Cfg → Prop) (hstep : ∀ c, arun Try.prog (conOf []) (0, [(14, 4, [0, 1, 5], [])]) good (RetO (Tells (Same_val a b))) 400 (c) → good c) (hext : ∀ c c', CfgExt c c' → good c' → good c) (hle : ∀ c c', CfgLe 0 c c' → good c' → good c) : arun Try.prog (conOf []) (0, [(14, 4, [0, 1, 5], [])]) good (RetO (Tells (Same_val a b))) 400 (entry Try.prog 14 [.list eHand.s a.length (eHand.tl a), .list eHand.s b.length (eHand.tl b)]) := by
  rw [Same_res]
  have hne : ∀ x y : Hand, (x.box == y.box && (x.src == y.src && (x.dst == y.dst && (x.place == y.place && (x.day == y.day && true))))) = true → x = y := fun x y h => by
    simp only [Bool.and_eq_true, Go.MapKept.bytes_beq, beq_iff_eq] at h
    obtain ⟨h1, h2, h3, h4, h5, _⟩ := h
    cases x; cases y; simp_all
  have heq : ∀ x : Hand, (x.box == x.box && (x.src == x.src && (x.dst == x.dst && (x.place == x.place && (x.day == x.day && true))))) = true := fun x => by
    simp only [Bool.and_eq_true, Go.MapKept.bytes_beq, beq_iff_eq]
    simp
  refine cond_intro (fun h => ?_) (fun h => ?_)
  · refine tell_false fun e => ?_
    rw [e] at h
    simp at h
  · have hab : a.length = b.length := by
      have : ((a.length : Int) != (b.length : Int)) = false := h
      simp at this; omega
    refine foreach a (fun i (_ : Unit) => ∀ j (hj : j < a.length), j < i → a[j] = b[j]'(by omega)) (fun i _ => Same_c4 a b i) (fun i _ hi hv ih => ?_) (fun _ hv => ?_) () (fun j hl hj => by omega)
    · apply hstep
      rw [Same_l4]
      have e1 : (i : Int).toNat = i := by omega
      rw [e1, wrap_succ hi len_a, getD_at _ hi, getD_at _ (by omega)]
      refine cond_true' (decide_eq_true (by omega)) ⟨⟨by omega, by omega⟩, ⟨by omega, by omega⟩, cond_intro (fun h => ?_) (fun h => ih () (fun j hl hj => ?_))⟩
      · refine tell_false fun e => ?_
        subst e
        rw [heq] at h
        cases h
      · by_cases hji : j = i
        · subst hji; exact hne _ _ (by simpa using h)
        · exact hv j hl (by omega)
    · apply hstep
      rw [Same_l4]
      exact cond_false' (decide_eq_false (by omega)) (tell_true (List.ext_getElem hab fun j h1 h2 => hv j h1 h1))
theorem Same_con : SpecOK Try.prog 14 (lift GSame) := by
  refine con_of_run3 (con := conOf []) (hs := (0, [(14, 4, [0, 1, 5], [])])) 400 Try.func14 rfl (by kernel_rfl) rfl conNil ?_
  intro args0 p r hG hp
  unfold GSame at hG
  split at hG
  case h_2 => cases hG
  rename_i s_a n_a f_a s_b n_b f_b
  cases hG
  obtain ⟨ok_a, hp⟩ := hp
  obtain ⟨ok_b, hp⟩ := hp
  exact ⟨[.list eHand.s (eHand.dl n_a f_a).length (eHand.tl (eHand.dl n_a f_a)), .list eHand.s (eHand.dl n_b f_b).length (eHand.tl (eHand.dl n_b f_b))], ⟨eHand.extl ok_a, eHand.extl ok_b, trivial⟩, by simp [Try.ntmps14], fun good hstep hext hle => Same_ok _ _ (by rw [eHand.dl_length]; exact ok_a.2.1) (by rw [eHand.dl_length]; exact ok_b.2.1) hp good hstep hext hle⟩

noncomputable def SAs : SSpec
  | [.ptr 0 0, .kn (.string b), .kn (.int .i64 d)], [.cells [.mp 1], .map .str false n [] has get sub []] => .ret (mapOK has get sub ∧ (decF sub (.string b)).length ≤ 4000) (AsY_val b d n (decF sub)) (AsY_objs b d n (decF sub))
  | _, _ => .none
theorem As_con : SpecOK Try.prog 13 (liftS [(0, []), (0, [0])] SAs) := by
  refine liftS_ok (con_of_runS2 (con := conOf []) (hs := (2, [])) 1500 Try.func13 rfl (by kernel_rfl) conNil ?_)
  intro args0 os0
  unfold SAs
  split
  case h_2 => trivial
  rename_i b d n has get sub
  rintro ⟨⟨h1, h2, h3⟩, hn⟩
  generalize decF sub = F at *
  subst h1 h2 h3
  by_cases h : hasG F (.string b) = true
  · exact ⟨[(3, [0, 0])], _, _, vxr _, by simp [Try.ntmps13], rfl, Re.exts (OExts.refl _), fun good hstep hext hle => AsY_ok b d n F ⟨h, hn⟩ good hstep hext hle⟩
  · exact ⟨[], _, _, vxr _, by simp [Try.ntmps13], rfl, Re.exts (OExts.refl _), fun good hstep hext hle => AsN_ok b d n F (show hasG F (.string b) = false by simpa using h) good hstep hext hle⟩
noncomputable def SHist : SSpec
  | [.ptr 0 0, .kn (.string b)], [.cells [.mp 1], .map .str false n [] has get sub []] => .ret (mapOK has get sub ∧ (decF sub (.string b)).length ≤ 4000) (HistY_val b n (decF sub)) (HistY_objs b n (decF sub))
  | _, _ => .none
theorem Hist_con : SpecOK Try.prog 15 (liftS [(0, []), (0, [0])] SHist) := by
  refine liftS_ok (con_of_runS2 (con := conOf []) (hs := (2, [])) 1500 Try.func15 rfl (by kernel_rfl) conNil ?_)
  intro args0 os0
  unfold SHist
  split
  case h_2 => trivial
  rename_i b n has get sub
  rintro ⟨⟨h1, h2, h3⟩, hn⟩
  generalize decF sub = F at *
  subst h1 h2 h3
  by_cases h : hasG F (.string b) = true
  · exact ⟨[(1, [0, 0])], _, _, vxr _, by simp [Try.ntmps15], rfl, Re.exts (OExts.refl _), fun good hstep hext hle => HistY_ok b n F ⟨h, hn⟩ good hstep hext hle⟩
  · exact ⟨[], _, _, vxr _, by simp [Try.ntmps15], rfl, Re.exts (OExts.refl _), fun good hstep hext hle => HistN_ok b n F (show hasG F (.string b) = false by simpa using h) good hstep hext hle⟩

end Go.Proofs.Ytgepkpajndlgeaa
