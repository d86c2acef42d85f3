/- What is proved: contracts of functions of one seat, each by the executor; written by a program of the prover (gen.py) and by hand. Conditions: each contract names its own. -/
import Derived.Test.YtgepkpajndlgeaaAw2
import Derived.Test.YtgepkpajndlgeaaProg
import Derived.KernelRfl
import Derived.IntWalk
import Derived.Test.YtgepkpajndlgeaaCone
import Derived.MapKept
namespace Go.Proofs.Ytgepkpajndlgeaa
open Go Go.Aw Go.RowKit
set_option linter.unusedVariables false
set_option linter.unusedSimpArgs false
set_option maxRecDepth 10000
def doneS (o : List Hand) (x : Hand) : List Hand := bif stepE o x == 0 then o ++ [x] else o
def doneL (l : List Hand) : List Hand := l.foldl doneS []
def nD (o : List Hand) : Nat := (o.filter fun x => x.src.toList == []).length


theorem doneS_len (o : List Hand) (x : Hand) : (doneS o x).length ≤ o.length + 1 := by unfold doneS; cases (stepE o x == 0) <;> simp
theorem done_snoc {l : List Hand} {i : Nat} (hi : i < l.length) : doneL (l.take (i + 1)) = doneS (doneL (l.take i)) l[i] := by
  unfold doneL; rw [take_at hi, List.foldl_append]; rfl
theorem done_len (l : List Hand) : ∀ i, i ≤ l.length → (doneL (l.take i)).length ≤ i
  | 0, _ => by simp [doneL]
  | i + 1, h => by
    rw [done_snoc (by omega)]
    have := doneS_len (doneL (l.take i)) (l[i]'(by omega))
    have := done_len l i (by omega)
    omega
theorem nD_len (o : List Hand) : nD o ≤ o.length := List.length_filter_le _ _
theorem nD_add (o : List Hand) (x : Hand) : nD (o ++ [x]) = nD o + (bif x.src.toList == [] then 1 else 0) := by
  unfold nD
  rw [List.filter_append, List.length_append]
  congr 1
  cases h : (x.src.toList == []) <;> simp [List.filter, h]
theorem src_nil {x : Hand} (hs : (x.src.toList == []) = true) : x.src = ByteArray.empty := by
  rw [ByteArray.toList_eq, beq_iff_eq] at hs
  generalize x.src = z at hs
  obtain ⟨⟨q⟩⟩ := z
  have : q = [] := hs
  rw [this]; rfl

def play_pre  (l : List Hand) : Prop := l.length ≤ 60 ∧ ∀ x ∈ l, eHand_wf x
noncomputable def play_val  (l : List Hand) : V := .tup [.ptr 0 0, .list eHand.s (doneL l).length (eHand.tl (doneL l))]
noncomputable def play_objs  (l : List Hand) : List O := [.cells [.mp 1], .map .str false (nD (doneL l)) [] (hasG (ownK (doneL l))) getG (subG (ownK (doneL l))) []]
noncomputable def Splay : SSpec
  | [.list s_l n_l f_l], [] => .ret (eHand.okl s_l n_l f_l ∧ play_pre (eHand.dl n_l f_l)) (play_val (eHand.dl n_l f_l)) (play_objs (eHand.dl n_l f_l))
  | _, _ => .none
theorem play_res  (l : List Hand) (good : Cfg → Prop) (R : V → List O → Prop) : arun Try.prog (conOf [(29, lift GBegins), (30, lift GHands), (21, liftS [(0, []), (0, [0])] SBegin), (22, liftS [(0, []), (0, [0])] SHand)]) (0, [(11, 6, [4, 5, 14, 15, 16], [(0, 4, []), (0, 4, [0]), (0, 5, [])])]) good (RetS 0 [.list eHand.s l.length (eHand.tl l)] [(0, []), (0, [0])] (R)) 1500 (entryO Try.prog 11 [.list eHand.s l.length (eHand.tl l)] []) =
    (good { fr := { fn := (11 : Nat), nt := (62 : Nat), t := [((4 : Nat), V.ptr (0 : Nat) (0 : Nat)), ((5 : Nat), V.kn (Value.slice none (0 : Nat) (0 : Nat))), ((14 : Nat), V.list (5 : Nat) l.length (eHand.tl l)), ((15 : Nat), V.kn (Value.int IntKind.i64 (↑l.length : Int))), ((16 : Nat), V.kn (Value.int IntKind.i64 (0 : Int)))], k := loopK Try.prog (11 : Nat) (6 : Nat) }, cs := [], h := [O.cells [V.mp (1 : Nat)], O.map KK.str false (0 : Nat) [] (fun i => false) (fun i => []) (fun i => []) []] }) := by kernel_rfl
@[reducible] noncomputable def play_c6 (l : List Hand) (o : List Hand) (n : Nat) (i : Int) : Cfg := ⟨⟨11, 62, [(4, .ptr 0 0), (5, .sl 2), (14, .list eHand.s l.length (eHand.tl l)), (15, .kn (.int .i64 l.length)), (16, .kn (.int .i64 i))], loopK Try.prog 11 6⟩, [], [.cells [.mp 1], .map .str false n [] (hasG (ownK o)) getG (subG (ownK o)) [], .row 41 5 o.length (eHand.tl o) true]⟩
theorem play_l6 (l : List Hand) (o : List Hand) (n : Nat) (i : Int) (good : Cfg → Prop) (R : V → List O → Prop) : arun Try.prog (conOf [(29, lift GBegins), (30, lift GHands), (21, liftS [(0, []), (0, [0])] SBegin), (22, liftS [(0, []), (0, [0])] SHand)]) (0, [(11, 6, [4, 5, 14, 15, 16], [(0, 4, []), (0, 4, [0]), (0, 5, [])])]) good (RetS 0 [.list eHand.s l.length (eHand.tl l)] [(0, []), (0, [0])] (R)) 1500 (play_c6 l o n i) =
    (bif decide (i < (↑l.length : Int)) then ((0 : Int) ≤ i ∧ i < (↑l.length : Int)) ∧ bif (l.getD i.toNat eHand.dflt).src.toList == [] then (eHand.okl (5 : Nat) o.length (eHand.tl o) ∧ Begins_pre (l.getD i.toNat eHand.dflt).box (l.getD i.toNat eHand.dflt).dst (l.getD i.toNat eHand.dflt).place (l.getD i.toNat eHand.dflt).day (eHand.dl o.length (eHand.tl o))) ∧ (mapOK (hasG (ownK o)) getG (subG (ownK o)) ∧ n ≤ (4000 : Nat)) ∧ bif bE (decF (subG (ownK o)) (Value.string (l.getD i.toNat eHand.dflt).box)) (l.getD i.toNat eHand.dflt).box (l.getD i.toNat eHand.dflt).dst (l.getD i.toNat eHand.dflt).place (l.getD i.toNat eHand.dflt).day != beginE (eHand.dl o.length (eHand.tl o)) (l.getD i.toNat eHand.dflt).box (l.getD i.toNat eHand.dflt).dst (l.getD i.toNat eHand.dflt).place (l.getD i.toNat eHand.dflt).day then False else bif beginE (eHand.dl o.length (eHand.tl o)) (l.getD i.toNat eHand.dflt).box (l.getD i.toNat eHand.dflt).dst (l.getD i.toNat eHand.dflt).place (l.getD i.toNat eHand.dflt).day == (0 : Int) then (o.length + (1 : Nat) ≤ (9223372036854775807 : Nat) ∧ (o.length + (1 : Nat)) * (72 : Nat) ≤ (140737488355328 : Nat)) ∧ good { fr := { fn := (11 : Nat), nt := (62 : Nat), t := [((4 : Nat), V.ptr (0 : Nat) (0 : Nat)), ((5 : Nat), V.sl (2 : Nat)), ((14 : Nat), V.list (5 : Nat) l.length (eHand.tl l)), ((15 : Nat), V.kn (Value.int IntKind.i64 (↑l.length : Int))), ((16 : Nat), V.kn (Value.int IntKind.i64 (IntKind.i64.wrap (i + (1 : Int)))))], k := loopK Try.prog (11 : Nat) (6 : Nat) }, cs := [], h := [O.cells [V.mp (1 : Nat)], O.map KK.str false (bif bE (decF (subG (ownK o)) (Value.string (l.getD i.toNat eHand.dflt).box)) (l.getD i.toNat eHand.dflt).box (l.getD i.toNat eHand.dflt).dst (l.getD i.toNat eHand.dflt).place (l.getD i.toNat eHand.dflt).day == (0 : Int) then n + (1 : Nat) else n) [] (fun x => hasG (bif bE (decF (subG (ownK o)) (Value.string (l.getD i.toNat eHand.dflt).box)) (l.getD i.toNat eHand.dflt).box (l.getD i.toNat eHand.dflt).dst (l.getD i.toNat eHand.dflt).place (l.getD i.toNat eHand.dflt).day == (0 : Int) then putF (Value.string (l.getD i.toNat eHand.dflt).box) [{ box := (l.getD i.toNat eHand.dflt).box, src := ByteArray.empty, dst := (l.getD i.toNat eHand.dflt).dst, place := (l.getD i.toNat eHand.dflt).place, day := (l.getD i.toNat eHand.dflt).day }] (decF (subG (ownK o))) else decF (subG (ownK o))) x) (fun x => [V.sl (0 : Nat)]) (fun x => [SO.row (41 : Nat) (5 : Nat) ((bif bE (decF (subG (ownK o)) (Value.string (l.getD i.toNat eHand.dflt).box)) (l.getD i.toNat eHand.dflt).box (l.getD i.toNat eHand.dflt).dst (l.getD i.toNat eHand.dflt).place (l.getD i.toNat eHand.dflt).day == (0 : Int) then putF (Value.string (l.getD i.toNat eHand.dflt).box) [{ box := (l.getD i.toNat eHand.dflt).box, src := ByteArray.empty, dst := (l.getD i.toNat eHand.dflt).dst, place := (l.getD i.toNat eHand.dflt).place, day := (l.getD i.toNat eHand.dflt).day }] (decF (subG (ownK o))) else decF (subG (ownK o))) x).length (eHand.tl ((bif bE (decF (subG (ownK o)) (Value.string (l.getD i.toNat eHand.dflt).box)) (l.getD i.toNat eHand.dflt).box (l.getD i.toNat eHand.dflt).dst (l.getD i.toNat eHand.dflt).place (l.getD i.toNat eHand.dflt).day == (0 : Int) then putF (Value.string (l.getD i.toNat eHand.dflt).box) [{ box := (l.getD i.toNat eHand.dflt).box, src := ByteArray.empty, dst := (l.getD i.toNat eHand.dflt).dst, place := (l.getD i.toNat eHand.dflt).place, day := (l.getD i.toNat eHand.dflt).day }] (decF (subG (ownK o))) else decF (subG (ownK o))) x))]) [], O.row (41 : Nat) (5 : Nat) (o.length + (1 : Nat)) (catF o.length (eHand.tl o) (rowF [V.kn (Value.string (l.getD i.toNat eHand.dflt).box), V.kn (Value.string (l.getD i.toNat eHand.dflt).src), V.kn (Value.string (l.getD i.toNat eHand.dflt).dst), V.kn (Value.string (l.getD i.toNat eHand.dflt).place), V.kn (Value.int IntKind.i64 (l.getD i.toNat eHand.dflt).day)] (5 : Nat))) true] } else good { fr := { fn := (11 : Nat), nt := (62 : Nat), t := [((4 : Nat), V.ptr (0 : Nat) (0 : Nat)), ((5 : Nat), V.sl (2 : Nat)), ((14 : Nat), V.list (5 : Nat) l.length (eHand.tl l)), ((15 : Nat), V.kn (Value.int IntKind.i64 (↑l.length : Int))), ((16 : Nat), V.kn (Value.int IntKind.i64 (IntKind.i64.wrap (i + (1 : Int)))))], k := loopK Try.prog (11 : Nat) (6 : Nat) }, cs := [], h := [O.cells [V.mp (1 : Nat)], O.map KK.str false (bif bE (decF (subG (ownK o)) (Value.string (l.getD i.toNat eHand.dflt).box)) (l.getD i.toNat eHand.dflt).box (l.getD i.toNat eHand.dflt).dst (l.getD i.toNat eHand.dflt).place (l.getD i.toNat eHand.dflt).day == (0 : Int) then n + (1 : Nat) else n) [] (fun x => hasG (bif bE (decF (subG (ownK o)) (Value.string (l.getD i.toNat eHand.dflt).box)) (l.getD i.toNat eHand.dflt).box (l.getD i.toNat eHand.dflt).dst (l.getD i.toNat eHand.dflt).place (l.getD i.toNat eHand.dflt).day == (0 : Int) then putF (Value.string (l.getD i.toNat eHand.dflt).box) [{ box := (l.getD i.toNat eHand.dflt).box, src := ByteArray.empty, dst := (l.getD i.toNat eHand.dflt).dst, place := (l.getD i.toNat eHand.dflt).place, day := (l.getD i.toNat eHand.dflt).day }] (decF (subG (ownK o))) else decF (subG (ownK o))) x) (fun x => [V.sl (0 : Nat)]) (fun x => [SO.row (41 : Nat) (5 : Nat) ((bif bE (decF (subG (ownK o)) (Value.string (l.getD i.toNat eHand.dflt).box)) (l.getD i.toNat eHand.dflt).box (l.getD i.toNat eHand.dflt).dst (l.getD i.toNat eHand.dflt).place (l.getD i.toNat eHand.dflt).day == (0 : Int) then putF (Value.string (l.getD i.toNat eHand.dflt).box) [{ box := (l.getD i.toNat eHand.dflt).box, src := ByteArray.empty, dst := (l.getD i.toNat eHand.dflt).dst, place := (l.getD i.toNat eHand.dflt).place, day := (l.getD i.toNat eHand.dflt).day }] (decF (subG (ownK o))) else decF (subG (ownK o))) x).length (eHand.tl ((bif bE (decF (subG (ownK o)) (Value.string (l.getD i.toNat eHand.dflt).box)) (l.getD i.toNat eHand.dflt).box (l.getD i.toNat eHand.dflt).dst (l.getD i.toNat eHand.dflt).place (l.getD i.toNat eHand.dflt).day == (0 : Int) then putF (Value.string (l.getD i.toNat eHand.dflt).box) [{ box := (l.getD i.toNat eHand.dflt).box, src := ByteArray.empty, dst := (l.getD i.toNat eHand.dflt).dst, place := (l.getD i.toNat eHand.dflt).place, day := (l.getD i.toNat eHand.dflt).day }] (decF (subG (ownK o))) else decF (subG (ownK o))) x))]) [], O.row (41 : Nat) (5 : Nat) o.length (eHand.tl o) true] } else (eHand.okl (5 : Nat) o.length (eHand.tl o) ∧ Hands_pre (l.getD i.toNat eHand.dflt).box (l.getD i.toNat eHand.dflt).src (l.getD i.toNat eHand.dflt).dst (l.getD i.toNat eHand.dflt).place (l.getD i.toNat eHand.dflt).day (eHand.dl o.length (eHand.tl o))) ∧ (mapOK (hasG (ownK o)) getG (subG (ownK o)) ∧ (decF (subG (ownK o)) (Value.string (l.getD i.toNat eHand.dflt).box)).length ≤ (4000 : Nat)) ∧ bif hE (decF (subG (ownK o)) (Value.string (l.getD i.toNat eHand.dflt).box)) { box := (l.getD i.toNat eHand.dflt).box, src := (l.getD i.toNat eHand.dflt).src, dst := (l.getD i.toNat eHand.dflt).dst, place := (l.getD i.toNat eHand.dflt).place, day := (l.getD i.toNat eHand.dflt).day } != handE (eHand.dl o.length (eHand.tl o)) { box := (l.getD i.toNat eHand.dflt).box, src := (l.getD i.toNat eHand.dflt).src, dst := (l.getD i.toNat eHand.dflt).dst, place := (l.getD i.toNat eHand.dflt).place, day := (l.getD i.toNat eHand.dflt).day } then False else bif handE (eHand.dl o.length (eHand.tl o)) { box := (l.getD i.toNat eHand.dflt).box, src := (l.getD i.toNat eHand.dflt).src, dst := (l.getD i.toNat eHand.dflt).dst, place := (l.getD i.toNat eHand.dflt).place, day := (l.getD i.toNat eHand.dflt).day } == (0 : Int) then (o.length + (1 : Nat) ≤ (9223372036854775807 : Nat) ∧ (o.length + (1 : Nat)) * (72 : Nat) ≤ (140737488355328 : Nat)) ∧ good { fr := { fn := (11 : Nat), nt := (62 : Nat), t := [((4 : Nat), V.ptr (0 : Nat) (0 : Nat)), ((5 : Nat), V.sl (2 : Nat)), ((14 : Nat), V.list (5 : Nat) l.length (eHand.tl l)), ((15 : Nat), V.kn (Value.int IntKind.i64 (↑l.length : Int))), ((16 : Nat), V.kn (Value.int IntKind.i64 (IntKind.i64.wrap (i + (1 : Int)))))], k := loopK Try.prog (11 : Nat) (6 : Nat) }, cs := [], h := [O.cells [V.mp (1 : Nat)], O.map KK.str false n [] (fun x => hasG (bif hE (decF (subG (ownK o)) (Value.string (l.getD i.toNat eHand.dflt).box)) { box := (l.getD i.toNat eHand.dflt).box, src := (l.getD i.toNat eHand.dflt).src, dst := (l.getD i.toNat eHand.dflt).dst, place := (l.getD i.toNat eHand.dflt).place, day := (l.getD i.toNat eHand.dflt).day } == (0 : Int) then putF (Value.string (l.getD i.toNat eHand.dflt).box) (decF (subG (ownK o)) (Value.string (l.getD i.toNat eHand.dflt).box) ++ [{ box := (l.getD i.toNat eHand.dflt).box, src := (l.getD i.toNat eHand.dflt).src, dst := (l.getD i.toNat eHand.dflt).dst, place := (l.getD i.toNat eHand.dflt).place, day := (l.getD i.toNat eHand.dflt).day }]) (decF (subG (ownK o))) else decF (subG (ownK o))) x) (fun x => [V.sl (0 : Nat)]) (fun x => [SO.row (41 : Nat) (5 : Nat) ((bif hE (decF (subG (ownK o)) (Value.string (l.getD i.toNat eHand.dflt).box)) { box := (l.getD i.toNat eHand.dflt).box, src := (l.getD i.toNat eHand.dflt).src, dst := (l.getD i.toNat eHand.dflt).dst, place := (l.getD i.toNat eHand.dflt).place, day := (l.getD i.toNat eHand.dflt).day } == (0 : Int) then putF (Value.string (l.getD i.toNat eHand.dflt).box) (decF (subG (ownK o)) (Value.string (l.getD i.toNat eHand.dflt).box) ++ [{ box := (l.getD i.toNat eHand.dflt).box, src := (l.getD i.toNat eHand.dflt).src, dst := (l.getD i.toNat eHand.dflt).dst, place := (l.getD i.toNat eHand.dflt).place, day := (l.getD i.toNat eHand.dflt).day }]) (decF (subG (ownK o))) else decF (subG (ownK o))) x).length (eHand.tl ((bif hE (decF (subG (ownK o)) (Value.string (l.getD i.toNat eHand.dflt).box)) { box := (l.getD i.toNat eHand.dflt).box, src := (l.getD i.toNat eHand.dflt).src, dst := (l.getD i.toNat eHand.dflt).dst, place := (l.getD i.toNat eHand.dflt).place, day := (l.getD i.toNat eHand.dflt).day } == (0 : Int) then putF (Value.string (l.getD i.toNat eHand.dflt).box) (decF (subG (ownK o)) (Value.string (l.getD i.toNat eHand.dflt).box) ++ [{ box := (l.getD i.toNat eHand.dflt).box, src := (l.getD i.toNat eHand.dflt).src, dst := (l.getD i.toNat eHand.dflt).dst, place := (l.getD i.toNat eHand.dflt).place, day := (l.getD i.toNat eHand.dflt).day }]) (decF (subG (ownK o))) else decF (subG (ownK o))) x))]) [], O.row (41 : Nat) (5 : Nat) (o.length + (1 : Nat)) (catF o.length (eHand.tl o) (rowF [V.kn (Value.string (l.getD i.toNat eHand.dflt).box), V.kn (Value.string (l.getD i.toNat eHand.dflt).src), V.kn (Value.string (l.getD i.toNat eHand.dflt).dst), V.kn (Value.string (l.getD i.toNat eHand.dflt).place), V.kn (Value.int IntKind.i64 (l.getD i.toNat eHand.dflt).day)] (5 : Nat))) true] } else good { fr := { fn := (11 : Nat), nt := (62 : Nat), t := [((4 : Nat), V.ptr (0 : Nat) (0 : Nat)), ((5 : Nat), V.sl (2 : Nat)), ((14 : Nat), V.list (5 : Nat) l.length (eHand.tl l)), ((15 : Nat), V.kn (Value.int IntKind.i64 (↑l.length : Int))), ((16 : Nat), V.kn (Value.int IntKind.i64 (IntKind.i64.wrap (i + (1 : Int)))))], k := loopK Try.prog (11 : Nat) (6 : Nat) }, cs := [], h := [O.cells [V.mp (1 : Nat)], O.map KK.str false n [] (fun x => hasG (bif hE (decF (subG (ownK o)) (Value.string (l.getD i.toNat eHand.dflt).box)) { box := (l.getD i.toNat eHand.dflt).box, src := (l.getD i.toNat eHand.dflt).src, dst := (l.getD i.toNat eHand.dflt).dst, place := (l.getD i.toNat eHand.dflt).place, day := (l.getD i.toNat eHand.dflt).day } == (0 : Int) then putF (Value.string (l.getD i.toNat eHand.dflt).box) (decF (subG (ownK o)) (Value.string (l.getD i.toNat eHand.dflt).box) ++ [{ box := (l.getD i.toNat eHand.dflt).box, src := (l.getD i.toNat eHand.dflt).src, dst := (l.getD i.toNat eHand.dflt).dst, place := (l.getD i.toNat eHand.dflt).place, day := (l.getD i.toNat eHand.dflt).day }]) (decF (subG (ownK o))) else decF (subG (ownK o))) x) (fun x => [V.sl (0 : Nat)]) (fun x => [SO.row (41 : Nat) (5 : Nat) ((bif hE (decF (subG (ownK o)) (Value.string (l.getD i.toNat eHand.dflt).box)) { box := (l.getD i.toNat eHand.dflt).box, src := (l.getD i.toNat eHand.dflt).src, dst := (l.getD i.toNat eHand.dflt).dst, place := (l.getD i.toNat eHand.dflt).place, day := (l.getD i.toNat eHand.dflt).day } == (0 : Int) then putF (Value.string (l.getD i.toNat eHand.dflt).box) (decF (subG (ownK o)) (Value.string (l.getD i.toNat eHand.dflt).box) ++ [{ box := (l.getD i.toNat eHand.dflt).box, src := (l.getD i.toNat eHand.dflt).src, dst := (l.getD i.toNat eHand.dflt).dst, place := (l.getD i.toNat eHand.dflt).place, day := (l.getD i.toNat eHand.dflt).day }]) (decF (subG (ownK o))) else decF (subG (ownK o))) x).length (eHand.tl ((bif hE (decF (subG (ownK o)) (Value.string (l.getD i.toNat eHand.dflt).box)) { box := (l.getD i.toNat eHand.dflt).box, src := (l.getD i.toNat eHand.dflt).src, dst := (l.getD i.toNat eHand.dflt).dst, place := (l.getD i.toNat eHand.dflt).place, day := (l.getD i.toNat eHand.dflt).day } == (0 : Int) then putF (Value.string (l.getD i.toNat eHand.dflt).box) (decF (subG (ownK o)) (Value.string (l.getD i.toNat eHand.dflt).box) ++ [{ box := (l.getD i.toNat eHand.dflt).box, src := (l.getD i.toNat eHand.dflt).src, dst := (l.getD i.toNat eHand.dflt).dst, place := (l.getD i.toNat eHand.dflt).place, day := (l.getD i.toNat eHand.dflt).day }]) (decF (subG (ownK o))) else decF (subG (ownK o))) x))]) [], O.row (41 : Nat) (5 : Nat) o.length (eHand.tl o) true] } else R (V.tup [V.ptr (0 : Nat) (0 : Nat), V.list (5 : Nat) o.length (eHand.tl o)]) [O.cells [V.mp (1 : Nat)], O.map KK.str false n [] (fun x => hasG (ownK o) x) (fun x => [V.sl (0 : Nat)]) (fun x => [SO.row (41 : Nat) (5 : Nat) (ownK o x).length (eHand.tl (ownK o x))]) []]) := by kernel_rfl
theorem play_ok  (l : List Hand) (len_l : l.length ≤ maxLen) (hp : play_pre l) (good : Cfg → Prop) (hstep : ∀ c, arun Try.prog (conOf [(29, lift GBegins), (30, lift GHands), (21, liftS [(0, []), (0, [0])] SBegin), (22, liftS [(0, []), (0, [0])] SHand)]) (0, [(11, 6, [4, 5, 14, 15, 16], [(0, 4, []), (0, 4, [0]), (0, 5, [])])]) good (RetS 0 [.list eHand.s l.length (eHand.tl l)] [(0, []), (0, [0])] (TellsO 0 (play_val l) (play_objs l))) 1500 (c) → good c) (hext : ∀ c c', CfgExt c c' → good c' → good c) (hle : ∀ c c', CfgLe 0 c c' → good c' → good c) : arun Try.prog (conOf [(29, lift GBegins), (30, lift GHands), (21, liftS [(0, []), (0, [0])] SBegin), (22, liftS [(0, []), (0, [0])] SHand)]) (0, [(11, 6, [4, 5, 14, 15, 16], [(0, 4, []), (0, 4, [0]), (0, 5, [])])]) good (RetS 0 [.list eHand.s l.length (eHand.tl l)] [(0, []), (0, [0])] (TellsO 0 (play_val l) (play_objs l))) 1500 (entryO Try.prog 11 [.list eHand.s l.length (eHand.tl l)] []) := by
  rw [play_res]
  obtain ⟨hl, hw⟩ := hp
  have hmx : maxLen = 9223372036854775807 := rfl
  have tell_map : ∀ {F : Value → List Hand} {o : List Hand} {n m : Nat} {f : Nat → List V} {t : Tm} {i : Int}, (∀ k, KK.str.ok k = true → F k = ownK o k) → eHand.is m f o → TExts t [(4, .ptr 0 0), (5, .sl 2), (14, .list eHand.s l.length (eHand.tl l)), (15, .kn (.int .i64 l.length)), (16, .kn (.int .i64 i))] →
      good (play_c6 l o n i) → good ⟨⟨11, 62, t, loopK Try.prog 11 6⟩, [], [.cells [.mp 1], .map .str false n [] (fun x => hasG F x) (fun x => [.sl 0]) (fun x => [.row 41 5 (F x).length (eHand.tl (F x))]) [], .row 41 5 m f true]⟩ := fun {F o n m f t i} hF hf ht h => by
    refine hle _ _ (map_same 1 (kd := .str) (ag := false) (n := n) (its := []) (has' := hasG (ownK o)) (get' := getG) (sub' := subG (ownK o)) rfl (fun k hk => ?_) (fun k hk hh => ⟨rfl, ?_⟩)) ?_
    · unfold hasG; rw [hF k hk]
    · unfold subG; rw [hF k hk]
    · exact hext _ (play_c6 l o n i) ⟨rfl, rfl, rfl, rfl, ht, ⟨OExt.refl _, OExt.refl _, eHand.oext hf, trivial⟩⟩ h
  refine hle _ _ (map_same 1 (kd := .str) (ag := false) (n := 0) (its := []) (has' := hasG (ownK [])) (get' := getG) (sub' := subG (ownK [])) rfl (fun k hk => rfl) (fun k hk hh => by cases hh)) ?_
  refine hle _ _ (nil_own 5 2 41 5 (eHand.tl []) rfl rfl) ?_
  show good (play_c6 l [] 0 0)
  refine foreach l (fun i (_ : Unit) => True) (fun i _ => play_c6 l (doneL (l.take i.toNat)) (nD (doneL (l.take i.toNat))) i) (fun i _ hi hv ih => ?_) (fun _ hv => ?_) () trivial
  · apply hstep
    rw [play_l6]
    have e1 : (i : Int).toNat = i := by omega
    have e2 : (((i + 1 : Nat) : Int)).toNat = i + 1 := by omega
    have ih := ih () trivial
    rw [e1, wrap_succ hi len_l, getD_at _ hi]
    rw [e2, done_snoc hi] at ih
    have hlen := done_len l i (by omega)
    generalize doneL (l.take i) = o at *
    have hnd := nD_len o
    obtain ⟨w1, w2, w3, w4, w5⟩ := hw _ (List.getElem_mem hi)
    generalize l[i] = x at *
    have bnd : (0 : Int) ≤ i ∧ (i : Int) < l.length := ⟨by omega, by omega⟩
    have b1 : o.length + 1 ≤ 9223372036854775807 ∧ (o.length + 1) * 72 ≤ 140737488355328 := ⟨by omega, by omega⟩
    have ok : eHand.okl 5 o.length (eHand.tl o) := eHand.okl_tl (by omega)
    have hol := ownL_len o x.box
    simp only [decF_sub, eHand.dl_tl]
    have skip : stepE o x ≠ 0 → good (play_c6 l o (nD o) ((i + 1 : Nat) : Int)) := fun h => by
      have hd : doneS o x = o := by unfold doneS; rw [show (stepE o x == 0) = false by simpa using h]; rfl
      rwa [hd] at ih
    have go : stepE o x = 0 → good (play_c6 l (o ++ [x]) (nD (o ++ [x])) ((i + 1 : Nat) : Int)) := fun h => by
      have hd : doneS o x = o ++ [x] := by unfold doneS; rw [show (stepE o x == 0) = true by simpa using h]; rfl
      rwa [hd] at ih
    refine cond_true' (decide_eq_true (by omega)) ⟨bnd, cond_intro (fun h1 => ?_) (fun h1 => ?_)⟩
    · have hst : stepE o x = beginE o x.box x.dst x.place x.day := by rw [stepE, h1]; rfl
      have hb : bE (ownK o (.string x.box)) x.box x.dst x.place x.day = stepE o x := hst.symm
      rw [hb, ← hst]
      refine ⟨⟨ok, by omega, w1, w3, w4⟩, ⟨mapOK_G _, by omega⟩, cond_false' (by simp) (cond_intro (fun h2 => ⟨b1, ?_⟩) (fun h2 => ?_))⟩
      · have h0 : stepE o x = 0 := by simpa using h2
        rw [h2]
        refine tell_map (o := o ++ [x]) (fun k hk => ?_) (eHand.is_app (eHand.is_tl _) (eHand.is_one x rfl)) (TExts.refl _) ?_
        · show putF (.string x.box) _ (ownK o) k = _
          cases hq : keq k (.string x.box) with
          | false => rw [putF_old _ _ hq, own_same hk hq]
          | true =>
            have := (keq_iff (kd := .str) (a := k) (b := .string x.box) hk rfl).1 hq
            subst this
            rw [putF_new _ _ _ hk, own_new]
            have hz := (bE_0 (hb.trans h0)).2.2
            have hnil : ownL o x.box = [] := List.length_eq_zero_iff.1 (by have := of_decide_eq_false hz; show (ownK o (.string x.box)).length = 0; omega)
            rw [hnil, ← src_nil h1]; rfl
        · have := go h0
          rw [nD_add, h1] at this
          exact this
      · have h0 : stepE o x ≠ 0 := by simpa using h2
        rw [h2]
        exact tell_map (o := o) (fun k hk => rfl) (eHand.is_tl _) (TExts.refl _) (skip h0)
    · have hst : stepE o x = handE o x := by rw [stepE, h1]; rfl
      have hb : hE (ownK o (.string x.box)) x = stepE o x := hst.symm
      have hx : (⟨x.box, x.src, x.dst, x.place, x.day⟩ : Hand) = x := rfl
      rw [hb, ← hst]
      refine ⟨⟨ok, by omega, w1, w2, w3, w4⟩, ⟨mapOK_G _, ?_⟩, cond_false' (by simp) (cond_intro (fun h2 => ⟨b1, ?_⟩) (fun h2 => ?_))⟩
      · show (ownL o x.box).length ≤ 4000
        omega
      · have h0 : stepE o x = 0 := by simpa using h2
        rw [h2]
        refine tell_map (o := o ++ [x]) (fun k hk => ?_) (eHand.is_app (eHand.is_tl _) (eHand.is_one x rfl)) (TExts.refl _) ?_
        · show putF (.string x.box) _ (ownK o) k = _
          cases hq : keq k (.string x.box) with
          | false => rw [putF_old _ _ hq, own_same hk hq]
          | true =>
            have := (keq_iff (kd := .str) (a := k) (b := .string x.box) hk rfl).1 hq
            subst this
            rw [putF_new _ _ _ hk, own_new]; rfl
        · have := go h0
          rw [nD_add, h1] at this
          exact this
      · have h0 : stepE o x ≠ 0 := by simpa using h2
        rw [h2]
        exact tell_map (o := o) (fun k hk => rfl) (eHand.is_tl _) (TExts.refl _) (skip h0)
  · apply hstep
    rw [play_l6, Int.toNat_natCast, List.take_length]
    exact cond_false' (decide_eq_false (by omega)) (tellO_eq rfl (OExts.refl _))
theorem play_con : SpecOK Try.prog 11 (liftS [] Splay) := by
  refine liftS_ok (con_of_runS (con := conOf [(29, lift GBegins), (30, lift GHands), (21, liftS [(0, []), (0, [0])] SBegin), (22, liftS [(0, []), (0, [0])] SHand)]) (hs := (0, [(11, 6, [4, 5, 14, 15, 16], [(0, 4, []), (0, 4, [0]), (0, 5, [])])])) 1500 [(0, []), (0, [0])] Try.func11 rfl (by kernel_rfl) (conCons Begins_con (conCons Hands_con (conCons Begin_con (conCons Hand_con conNil)))) ?_)
  intro args0 os0
  unfold Splay
  split
  case h_2 => trivial
  rename_i s_l n_l f_l
  intro hp
  obtain ⟨ok_l, hp⟩ := hp
  exact ⟨[.list eHand.s (eHand.dl n_l f_l).length (eHand.tl (eHand.dl n_l f_l))], [], ⟨eHand.extl ok_l, trivial⟩, by simp [Try.ntmps11], rfl, Re.exts (trivial), fun good hstep hext hle => play_ok _ (by rw [eHand.dl_length]; exact ok_l.2.1) hp good hstep hext hle⟩
end Go.Proofs.Ytgepkpajndlgeaa
