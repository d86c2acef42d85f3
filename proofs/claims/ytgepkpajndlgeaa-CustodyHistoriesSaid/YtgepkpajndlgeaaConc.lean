/- What is proved: contracts of functions of one seat, each by the executor; written by a program of the prover (gen.py) and by hand. Conditions: each contract names its own. -/
import Derived.Test.YtgepkpajndlgeaaAw2
import Derived.Test.YtgepkpajndlgeaaProg
import Derived.KernelRfl
import Derived.IntWalk
import Derived.Test.YtgepkpajndlgeaaConb
import Derived.MapKept
namespace Go.Proofs.Ytgepkpajndlgeaa
open Go Go.Aw Go.RowKit
set_option linter.unusedVariables false
set_option linter.unusedSimpArgs false
set_option maxRecDepth 10000
def ownK (o : List Hand) (x : Value) : List Hand := ownL o (vStr (.kn x))
def hasF (o : List Hand) (x : Value) : Bool := decide (0 < (ownK o x).length)
def subF (o : List Hand) (x : Value) : List SO := [.row 41 5 (ownK o x).length (eHand.tl (ownK o x))]


theorem beq_comm' (a b : ByteArray) : (a == b) = (b == a) := by
  rw [Bool.eq_iff_iff, Go.MapKept.bytes_beq, Go.MapKept.bytes_beq]; exact eq_comm
theorem ownL_add (o : List Hand) (x : Hand) (b : ByteArray) : ownL (o ++ [x]) b = ownL o b ++ (bif x.box == b then [x] else []) := by
  unfold ownL
  rw [List.filter_append]
  cases h : (x.box == b) <;> simp [List.filter, h]
theorem own_same {o : List Hand} {x : Hand} {k : Value} (hk : KK.str.ok k = true) (h : keq k (.string x.box) = false) : ownK (o ++ [x]) k = ownK o k := by
  cases k <;> first | cases hk | skip
  rename_i s
  show ownL (o ++ [x]) s = ownL o s
  have h2 : (s == x.box) = false := h
  rw [ownL_add, beq_comm', h2]; simp
theorem own_new (o : List Hand) (x : Hand) : ownK (o ++ [x]) (.string x.box) = ownL o x.box ++ [x] := by
  show ownL (o ++ [x]) x.box = _
  rw [ownL_add, show (x.box == x.box) = true from (Go.MapKept.bytes_beq _ _).2 rfl]; rfl
theorem has_add {o : List Hand} {x : Hand} {k : Value} (hk : KK.str.ok k = true) : hasF (o ++ [x]) k = (keq k (.string x.box) || hasF o k) := by
  cases hq : keq k (.string x.box) with
  | false => unfold hasF; rw [own_same hk hq]; rfl
  | true =>
    have := (keq_iff (kd := .str) (a := k) (b := .string x.box) hk rfl).1 hq
    subst this
    unfold hasF
    rw [own_new]
    exact decide_eq_true (by simp)
/-- A hand-over, taken into the map. -/
theorem fold_hand {good : Cfg → Prop} (hle : ∀ c c', CfgLe 0 c c' → good c' → good c) {fr : Fr} {o : List Hand} {x : Hand} {n : Nat} {ov : List (Value × Option (List V))} {m : Nat} {f : Nat → List V}
    (hov : ∀ k, findOv k ov = bif keq k (.string x.box) then some (some [.sl 2]) else none) (hf : eHand.is m f (ownL o x.box ++ [x]))
    (h : good ⟨fr.to (V.forget [0, 1]), [], [.cells [.mp 1], .map .str false n [] (hasF (o ++ [x])) (fun _ => [.sl 0]) (subF (o ++ [x])) []]⟩) :
    good ⟨fr, [], [.cells [.mp 1], .map .str false n ov (hasF o) (fun _ => [.sl 0]) (subF o) [], .row 41 5 m f true]⟩ := by
  refine hle _ _ ((fold_one (q := 0) (fr := fr) (cs := []) 1 (kd := .str) (ag := false) (n := n) (its := []) (k0 := .string x.box) (cs0 := [.sl 2]) (has' := hasF (o ++ [x])) (get' := fun _ => [.sl 0]) (sub' := subF (o ++ [x])) [2] rfl rfl hov (fun k hk => has_add hk) (fun k hk hq _ => ⟨rfl, by unfold subF; rw [own_same hk hq]⟩)
    ⟨rfl, rfl, fun j q so hj hs => ?_⟩ rfl (by decide)).trans (norm_le [0, 1] rfl (by intro j hj; omega))) h
  cases j with
  | succ j => simp at hj
  | zero =>
    simp at hj
    subst hj
    unfold subF at hs
    simp at hs
    subst hs
    rw [own_new]
    exact eHand.oext hf
theorem nm3 (a b d : ByteArray) : bP (∀ x, x ∈ [a, b, d] → isName x = true) = (isName a && (isName b && isName d)) := bP_eq (by simp [and_assoc])
theorem nm4 (a b d e : ByteArray) : bP (∀ x, x ∈ [a, b, d, e] → isName x = true) = (isName a && (isName b && (isName d && isName e))) := bP_eq (by simp [and_assoc])


theorem begin_1 {o : List Hand} {b w p : ByteArray} {d : Int} (h : (!(isName b && (isName w && isName p))) = true) : beginE o b w p d = 1 := by
  unfold beginE; cases h1 : isName b <;> cases h2 : isName w <;> cases h3 : isName p <;> simp_all
theorem begin_in {o : List Hand} {b w p : ByteArray} {d : Int} (h : (!(isName b && (isName w && isName p))) = false) : beginE o b w p d = bif !dayOK d then 3 else bif hasB o b then 5 else 0 := by
  unfold beginE; cases h1 : isName b <;> cases h2 : isName w <;> cases h3 : isName p <;> simp_all
theorem hand_1 {o : List Hand} {x : Hand} (h : (!(isName x.box && (isName x.src && (isName x.dst && isName x.place)))) = true) : handE o x = 1 := by
  unfold handE; cases h1 : isName x.box <;> cases h2 : isName x.src <;> cases h3 : isName x.dst <;> cases h4 : isName x.place <;> simp_all
theorem hand_in {o : List Hand} {x : Hand} (h : (!(isName x.box && (isName x.src && (isName x.dst && isName x.place)))) = false) : handE o x = bif x.src.toList == x.dst.toList then 1 else bif !dayOK x.day then 3 else
    bif !hasB o x.box then 4 else bif !((lastH (ownL o x.box)).dst.toList == x.src.toList) then 8 else bif decide (x.day < (lastH (ownL o x.box)).day) then 6 else 0 := by
  unfold handE; cases h1 : isName x.box <;> cases h2 : isName x.src <;> cases h3 : isName x.dst <;> cases h4 : isName x.place <;> simp_all
theorem ok3 (a b d : ByteArray) : eStr.okl 1 3 (rowF [.kn (.string a), .kn (.string b), .kn (.string d)] 1) := eStr.okl_is (xs := [a, b, d]) ⟨rfl, fun i hi => by
  match i, hi with
  | 0, _ => rfl
  | 1, _ => rfl
  | 2, _ => rfl⟩ (by decide)
theorem ok4 (a b d e : ByteArray) : eStr.okl 1 4 (rowF [.kn (.string a), .kn (.string b), .kn (.string d), .kn (.string e)] 1) := eStr.okl_is (xs := [a, b, d, e]) ⟨rfl, fun i hi => by
  match i, hi with
  | 0, _ => rfl
  | 1, _ => rfl
  | 2, _ => rfl
  | 3, _ => rfl⟩ (by decide)
theorem dl3 (a b d : ByteArray) : eStr.dl 3 (rowF [.kn (.string a), .kn (.string b), .kn (.string d)] (sz Try.prog 9)) = [a, b, d] := by kernel_rfl
theorem dl4 (a b d e : ByteArray) : eStr.dl 4 (rowF [.kn (.string a), .kn (.string b), .kn (.string d), .kn (.string e)] (sz Try.prog 9)) = [a, b, d, e] := by kernel_rfl

def cCheck_pre  (l : List Hand) : Prop := l.length ≤ 60
noncomputable def cCheck_val  (l : List Hand) : V := (chkV l)
noncomputable def GcCheck : PSpec
  | [.list s_l n_l f_l] => some (eHand.okl s_l n_l f_l ∧ cCheck_pre (eHand.dl n_l f_l), cCheck_val (eHand.dl n_l f_l))
  | _ => none
theorem cCheck_res  (l : List Hand) (good : Cfg → Prop) (R : Option V → Prop) : arun Try.prog (conOf [(36, lift Gnames), (37, lift Gwhen)]) (0, [(16, 3, [0, 4, 9, 10, 11], [(0, 4, []), (0, 4, [0]), (0, 4, [0, 0])])]) good (RetO (R)) 1500 (entry Try.prog 16 [.list eHand.s l.length (eHand.tl l)]) =
    (good { fr := { fn := (16 : Nat), nt := (26 : Nat), t := [((0 : Nat), V.list (5 : Nat) l.length (eHand.tl l)), ((4 : Nat), V.ptr (0 : Nat) (0 : Nat)), ((9 : Nat), V.list (5 : Nat) l.length (eHand.tl l)), ((10 : Nat), V.kn (Value.int IntKind.i64 (↑l.length : Int))), ((11 : Nat), V.kn (Value.int IntKind.i64 (0 : Int)))], k := loopK Try.prog (16 : Nat) (3 : Nat) }, cs := [], h := [O.cells [V.mp (1 : Nat)], O.map KK.str false (0 : Nat) [] (fun i => false) (fun i => []) (fun i => []) []] }) := by kernel_rfl
@[reducible] noncomputable def cCheck_c3 (l : List Hand) (o : List Hand) (n : Nat) (i : Int) : Cfg := ⟨⟨16, 26, [(0, .list eHand.s l.length (eHand.tl l)), (4, .ptr 0 0), (9, .list eHand.s l.length (eHand.tl l)), (10, .kn (.int .i64 l.length)), (11, .kn (.int .i64 i))], loopK Try.prog 16 3⟩, [], [.cells [.mp 1], .map .str false n [] (hasF o) (fun _ => [.sl 0]) (subF o) []]⟩
theorem cCheck_l3 (l : List Hand) (o : List Hand) (n : Nat) (i : Int) (good : Cfg → Prop) (R : Option V → Prop) : arun Try.prog (conOf [(36, lift Gnames), (37, lift Gwhen)]) (0, [(16, 3, [0, 4, 9, 10, 11], [(0, 4, []), (0, 4, [0]), (0, 4, [0, 0])])]) good (RetO (R)) 1500 (cCheck_c3 l o n i) =
    (bif decide (i < (↑l.length : Int)) then ((0 : Int) ≤ i ∧ i < (↑l.length : Int)) ∧ bif (l.getD i.toNat eHand.dflt).src.toList == [] then bif hasF o (Value.string (l.getD i.toNat eHand.dflt).box) then (eStr.okl (1 : Nat) (3 : Nat) (rowF [V.kn (Value.string (l.getD i.toNat eHand.dflt).box), V.kn (Value.string (l.getD i.toNat eHand.dflt).dst), V.kn (Value.string (l.getD i.toNat eHand.dflt).place)] (1 : Nat)) ∧ names_pre [eStr.ofV [V.kn (Value.string (l.getD i.toNat eHand.dflt).box)], eStr.ofV [V.kn (Value.string (l.getD i.toNat eHand.dflt).dst)], eStr.ofV [V.kn (Value.string (l.getD i.toNat eHand.dflt).place)]]) ∧ bif !bP (∀ (x : ByteArray), x ∈ eStr.dl (3 : Nat) (rowF ((fun x => V.kn (Value.string (l.getD i.toNat eHand.dflt).box) :: x) ((fun x => V.kn (Value.string (l.getD i.toNat eHand.dflt).dst) :: x) ((fun x => V.kn (Value.string (l.getD i.toNat eHand.dflt).place) :: x) []))) (sz Try.prog (9 : Nat))) → isName x = true) then R (some (V.tup [V.kn (Value.int IntKind.i64 i), V.kn (Value.int IntKind.i64 (1 : Int))])) else when_pre (l.getD i.toNat eHand.dflt).day ∧ bif !decide ((0 : Int) ≤ (l.getD i.toNat eHand.dflt).day ∧ (l.getD i.toNat eHand.dflt).day ≤ (1048576 : Int)) then R (some (V.tup [V.kn (Value.int IntKind.i64 i), V.kn (Value.int IntKind.i64 (3 : Int))])) else R (some (V.tup [V.kn (Value.int IntKind.i64 i), V.kn (Value.int IntKind.i64 (5 : Int))])) else (eStr.okl (1 : Nat) (3 : Nat) (rowF [V.kn (Value.string (l.getD i.toNat eHand.dflt).box), V.kn (Value.string (l.getD i.toNat eHand.dflt).dst), V.kn (Value.string (l.getD i.toNat eHand.dflt).place)] (1 : Nat)) ∧ names_pre [eStr.ofV [V.kn (Value.string (l.getD i.toNat eHand.dflt).box)], eStr.ofV [V.kn (Value.string (l.getD i.toNat eHand.dflt).dst)], eStr.ofV [V.kn (Value.string (l.getD i.toNat eHand.dflt).place)]]) ∧ bif !bP (∀ (x : ByteArray), x ∈ eStr.dl (3 : Nat) (rowF ((fun x => V.kn (Value.string (l.getD i.toNat eHand.dflt).box) :: x) ((fun x => V.kn (Value.string (l.getD i.toNat eHand.dflt).dst) :: x) ((fun x => V.kn (Value.string (l.getD i.toNat eHand.dflt).place) :: x) []))) (sz Try.prog (9 : Nat))) → isName x = true) then R (some (V.tup [V.kn (Value.int IntKind.i64 i), V.kn (Value.int IntKind.i64 (1 : Int))])) else when_pre (l.getD i.toNat eHand.dflt).day ∧ bif !decide ((0 : Int) ≤ (l.getD i.toNat eHand.dflt).day ∧ (l.getD i.toNat eHand.dflt).day ≤ (1048576 : Int)) then R (some (V.tup [V.kn (Value.int IntKind.i64 i), V.kn (Value.int IntKind.i64 (3 : Int))])) else bif decide ((↑n : Int) ≥ (4096 : Int)) then R (some (V.tup [V.kn (Value.int IntKind.i64 i), V.kn (Value.int IntKind.i64 (7 : Int))])) else good { fr := { fn := (16 : Nat), nt := (26 : Nat), t := [((0 : Nat), V.list (5 : Nat) l.length (eHand.tl l)), ((4 : Nat), V.ptr (0 : Nat) (0 : Nat)), ((9 : Nat), V.list (5 : Nat) l.length (eHand.tl l)), ((10 : Nat), V.kn (Value.int IntKind.i64 (↑l.length : Int))), ((11 : Nat), V.kn (Value.int IntKind.i64 (IntKind.i64.wrap (i + (1 : Int)))))], k := loopK Try.prog (16 : Nat) (3 : Nat) }, cs := [], h := [O.cells [V.mp (1 : Nat)], O.map KK.str false (bif hasF o (Value.string (l.getD i.toNat eHand.dflt).box) then n else n + (1 : Nat)) [(Value.string (l.getD i.toNat eHand.dflt).box, some [V.sl (2 : Nat)])] (fun x => hasF o x) (fun i => [V.sl (0 : Nat)]) (fun x => [SO.row (41 : Nat) (5 : Nat) (ownK o x).length (eHand.tl (ownK o x))]) [], O.row (41 : Nat) (5 : Nat) (1 : Nat) (rowF [V.kn (Value.string (l.getD i.toNat eHand.dflt).box), V.kn (Value.string { data := #[] }), V.kn (Value.string (l.getD i.toNat eHand.dflt).dst), V.kn (Value.string (l.getD i.toNat eHand.dflt).place), V.kn (Value.int IntKind.i64 (l.getD i.toNat eHand.dflt).day)] (5 : Nat)) true] } else bif hasF o (Value.string (l.getD i.toNat eHand.dflt).box) then (eStr.okl (1 : Nat) (4 : Nat) (rowF [V.kn (Value.string (l.getD i.toNat eHand.dflt).box), V.kn (Value.string (l.getD i.toNat eHand.dflt).src), V.kn (Value.string (l.getD i.toNat eHand.dflt).dst), V.kn (Value.string (l.getD i.toNat eHand.dflt).place)] (1 : Nat)) ∧ names_pre [eStr.ofV [V.kn (Value.string (l.getD i.toNat eHand.dflt).box)], eStr.ofV [V.kn (Value.string (l.getD i.toNat eHand.dflt).src)], eStr.ofV [V.kn (Value.string (l.getD i.toNat eHand.dflt).dst)], eStr.ofV [V.kn (Value.string (l.getD i.toNat eHand.dflt).place)]]) ∧ bif !bP (∀ (x : ByteArray), x ∈ eStr.dl (4 : Nat) (rowF ((fun x => V.kn (Value.string (l.getD i.toNat eHand.dflt).box) :: x) ((fun x => V.kn (Value.string (l.getD i.toNat eHand.dflt).src) :: x) ((fun x => V.kn (Value.string (l.getD i.toNat eHand.dflt).dst) :: x) ((fun x => V.kn (Value.string (l.getD i.toNat eHand.dflt).place) :: x) [])))) (sz Try.prog (9 : Nat))) → isName x = true) then R (some (V.tup [V.kn (Value.int IntKind.i64 i), V.kn (Value.int IntKind.i64 (1 : Int))])) else bif (l.getD i.toNat eHand.dflt).src.toList == (l.getD i.toNat eHand.dflt).dst.toList then R (some (V.tup [V.kn (Value.int IntKind.i64 i), V.kn (Value.int IntKind.i64 (1 : Int))])) else when_pre (l.getD i.toNat eHand.dflt).day ∧ bif !decide ((0 : Int) ≤ (l.getD i.toNat eHand.dflt).day ∧ (l.getD i.toNat eHand.dflt).day ≤ (1048576 : Int)) then R (some (V.tup [V.kn (Value.int IntKind.i64 i), V.kn (Value.int IntKind.i64 (3 : Int))])) else ((0 : Int) ≤ IntKind.i64.wrap ((↑(ownK o (Value.string (l.getD i.toNat eHand.dflt).box)).length : Int) - (1 : Int)) ∧ IntKind.i64.wrap ((↑(ownK o (Value.string (l.getD i.toNat eHand.dflt).box)).length : Int) - (1 : Int)) < (↑(ownK o (Value.string (l.getD i.toNat eHand.dflt).box)).length : Int)) ∧ (IntKind.i64.wrap ((↑(ownK o (Value.string (l.getD i.toNat eHand.dflt).box)).length : Int) - (1 : Int))).toNat < (ownK o (Value.string (l.getD i.toNat eHand.dflt).box)).length ∧ bif !((ownK o (Value.string (l.getD i.toNat eHand.dflt).box)).getD (IntKind.i64.wrap ((↑(ownK o (Value.string (l.getD i.toNat eHand.dflt).box)).length : Int) - (1 : Int))).toNat eHand.dflt).dst.toList == (l.getD i.toNat eHand.dflt).src.toList then R (some (V.tup [V.kn (Value.int IntKind.i64 i), V.kn (Value.int IntKind.i64 (8 : Int))])) else bif decide ((l.getD i.toNat eHand.dflt).day < ((ownK o (Value.string (l.getD i.toNat eHand.dflt).box)).getD (IntKind.i64.wrap ((↑(ownK o (Value.string (l.getD i.toNat eHand.dflt).box)).length : Int) - (1 : Int))).toNat eHand.dflt).day) then R (some (V.tup [V.kn (Value.int IntKind.i64 i), V.kn (Value.int IntKind.i64 (6 : Int))])) else bif decide ((↑(ownK o (Value.string (l.getD i.toNat eHand.dflt).box)).length : Int) ≥ (4096 : Int)) then R (some (V.tup [V.kn (Value.int IntKind.i64 i), V.kn (Value.int IntKind.i64 (7 : Int))])) else ((ownK o (Value.string (l.getD i.toNat eHand.dflt).box)).length + (1 : Nat) ≤ (9223372036854775807 : Nat) ∧ ((ownK o (Value.string (l.getD i.toNat eHand.dflt).box)).length + (1 : Nat)) * (72 : Nat) ≤ (140737488355328 : Nat)) ∧ good { fr := { fn := (16 : Nat), nt := (26 : Nat), t := [((0 : Nat), V.list (5 : Nat) l.length (eHand.tl l)), ((4 : Nat), V.ptr (0 : Nat) (0 : Nat)), ((9 : Nat), V.list (5 : Nat) l.length (eHand.tl l)), ((10 : Nat), V.kn (Value.int IntKind.i64 (↑l.length : Int))), ((11 : Nat), V.kn (Value.int IntKind.i64 (IntKind.i64.wrap (i + (1 : Int)))))], k := loopK Try.prog (16 : Nat) (3 : Nat) }, cs := [], h := [O.cells [V.mp (1 : Nat)], O.map KK.str false (bif bif (l.getD i.toNat eHand.dflt).box == (l.getD i.toNat eHand.dflt).box then (some [V.sl (101 : Nat)]).isSome else hasF o (Value.string (l.getD i.toNat eHand.dflt).box) then n else n + (1 : Nat)) [(Value.string (l.getD i.toNat eHand.dflt).box, some [V.sl (2 : Nat)]), (Value.string (l.getD i.toNat eHand.dflt).box, some [V.any])] (fun x => hasF o x) (fun i => [V.sl (0 : Nat)]) (fun x => [SO.row (41 : Nat) (5 : Nat) (ownK o x).length (eHand.tl (ownK o x))]) [], O.row (41 : Nat) (5 : Nat) ((ownK o (Value.string (l.getD i.toNat eHand.dflt).box)).length + (1 : Nat)) (catF (ownK o (Value.string (l.getD i.toNat eHand.dflt).box)).length (eHand.tl (ownK o (Value.string (l.getD i.toNat eHand.dflt).box))) (rowF [V.kn (Value.string (l.getD i.toNat eHand.dflt).box), V.kn (Value.string (l.getD i.toNat eHand.dflt).src), V.kn (Value.string (l.getD i.toNat eHand.dflt).dst), V.kn (Value.string (l.getD i.toNat eHand.dflt).place), V.kn (Value.int IntKind.i64 (l.getD i.toNat eHand.dflt).day)] (5 : Nat))) true] } else (eStr.okl (1 : Nat) (4 : Nat) (rowF [V.kn (Value.string (l.getD i.toNat eHand.dflt).box), V.kn (Value.string (l.getD i.toNat eHand.dflt).src), V.kn (Value.string (l.getD i.toNat eHand.dflt).dst), V.kn (Value.string (l.getD i.toNat eHand.dflt).place)] (1 : Nat)) ∧ names_pre [eStr.ofV [V.kn (Value.string (l.getD i.toNat eHand.dflt).box)], eStr.ofV [V.kn (Value.string (l.getD i.toNat eHand.dflt).src)], eStr.ofV [V.kn (Value.string (l.getD i.toNat eHand.dflt).dst)], eStr.ofV [V.kn (Value.string (l.getD i.toNat eHand.dflt).place)]]) ∧ bif !bP (∀ (x : ByteArray), x ∈ eStr.dl (4 : Nat) (rowF ((fun x => V.kn (Value.string (l.getD i.toNat eHand.dflt).box) :: x) ((fun x => V.kn (Value.string (l.getD i.toNat eHand.dflt).src) :: x) ((fun x => V.kn (Value.string (l.getD i.toNat eHand.dflt).dst) :: x) ((fun x => V.kn (Value.string (l.getD i.toNat eHand.dflt).place) :: x) [])))) (sz Try.prog (9 : Nat))) → isName x = true) then R (some (V.tup [V.kn (Value.int IntKind.i64 i), V.kn (Value.int IntKind.i64 (1 : Int))])) else bif (l.getD i.toNat eHand.dflt).src.toList == (l.getD i.toNat eHand.dflt).dst.toList then R (some (V.tup [V.kn (Value.int IntKind.i64 i), V.kn (Value.int IntKind.i64 (1 : Int))])) else when_pre (l.getD i.toNat eHand.dflt).day ∧ bif !decide ((0 : Int) ≤ (l.getD i.toNat eHand.dflt).day ∧ (l.getD i.toNat eHand.dflt).day ≤ (1048576 : Int)) then R (some (V.tup [V.kn (Value.int IntKind.i64 i), V.kn (Value.int IntKind.i64 (3 : Int))])) else R (some (V.tup [V.kn (Value.int IntKind.i64 i), V.kn (Value.int IntKind.i64 (4 : Int))])) else R (some (V.tup [V.kn (Value.int IntKind.i64 (↑l.length : Int)), V.kn (Value.int IntKind.i64 (0 : Int))]))) := by kernel_rfl
theorem cCheck_ok  (l : List Hand) (len_l : l.length ≤ maxLen) (hp : cCheck_pre l) (good : Cfg → Prop) (hstep : ∀ c, arun Try.prog (conOf [(36, lift Gnames), (37, lift Gwhen)]) (0, [(16, 3, [0, 4, 9, 10, 11], [(0, 4, []), (0, 4, [0]), (0, 4, [0, 0])])]) good (RetO (Tells (cCheck_val l))) 1500 (c) → good c) (hext : ∀ c c', CfgExt c c' → good c' → good c) (hle : ∀ c c', CfgLe 0 c c' → good c' → good c) : arun Try.prog (conOf [(36, lift Gnames), (37, lift Gwhen)]) (0, [(16, 3, [0, 4, 9, 10, 11], [(0, 4, []), (0, 4, [0]), (0, 4, [0, 0])])]) good (RetO (Tells (cCheck_val l))) 1500 (entry Try.prog 16 [.list eHand.s l.length (eHand.tl l)]) := by
  rw [cCheck_res]
  have hl : l.length ≤ 60 := hp
  have hmx : maxLen = 9223372036854775807 := rfl
  refine hle _ _ (map_same 1 (kd := .str) (ag := false) (n := 0) (its := []) (has' := hasF []) (get' := fun _ => [.sl 0]) (sub' := subF []) rfl (fun k hk => rfl) (fun k hk hh => by cases hh)) ?_
  refine foreach (S := Nat) l (fun i n => n ≤ i ∧ chk l (l.length + 1 - i) i = chk l (l.length + 1) 0) (fun i n => cCheck_c3 l (l.take i.toNat) n i) (fun i n hi hv ih => ?_) (fun n hv => ?_) 0 ⟨Nat.le_refl _, rfl⟩
  · obtain ⟨hn, hv⟩ := hv
    apply hstep
    rw [cCheck_l3]
    have e1 : (i : Int).toNat = i := by omega
    have e2 : (((i + 1 : Nat) : Int)).toNat = i + 1 := by omega
    have hlen : (l.take i).length = i := by rw [List.length_take]; omega
    have hol := ownL_len (l.take i) l[i].box
    have bnd : (0 : Int) ≤ i ∧ (i : Int) < l.length := ⟨by omega, by omega⟩
    have hk : l.length + 1 - i = (l.length + 1 - (i + 1)) + 1 := by omega
    rw [hk] at hv
    rw [e1, wrap_succ hi len_l, getD_at _ hi]
    simp only [dl3, dl4, nm3, nm4]
    have stop : ∀ e, stepE (l.take i) l[i] = e → (e != 0) = true → Tells (cCheck_val l) (some (.tup [.kn (.int .i64 (i : Int)), .kn (.int .i64 e)])) := fun e h1 h2 => tell (by
      rw [cCheck_val, chkV, ← hv, chk_stop hi (by rw [h1]; simpa using h2), h1])
    have go : ∀ m, m ≤ i + 1 → stepE (l.take i) l[i] = 0 → good (cCheck_c3 l (l.take i ++ [l[i]]) m ((i + 1 : Nat) : Int)) := fun m hm h1 => by
      have := ih m ⟨hm, by rw [← hv, chk_go hi h1]⟩
      rwa [e2, take_at hi] at this
    refine cond_true' (decide_eq_true (by omega)) ⟨bnd, cond_intro (fun hs => ?_) (fun hs => ?_)⟩
    · have hst : stepE (l.take i) l[i] = beginE (l.take i) l[i].box l[i].dst l[i].place l[i].day := by rw [stepE, hs]; rfl
      have ok := ok3 l[i].box l[i].dst l[i].place
      refine cond_intro (fun hh => ⟨⟨ok, trivial⟩, cond_intro (fun a1 => stop _ (by rw [hst, begin_1 a1]) rfl) (fun a1 => ⟨trivial, cond_intro (fun a2 => stop _ (by rw [hst, begin_in a1, show (!dayOK l[i].day) = true from a2]; rfl) rfl) (fun a2 => stop _ (by rw [hst, begin_in a1, show (!dayOK l[i].day) = false from a2, show hasB (l.take i) l[i].box = true from hh]; rfl) rfl)⟩)⟩)
        (fun hh => ⟨⟨ok, trivial⟩, cond_intro (fun a1 => stop _ (by rw [hst, begin_1 a1]) rfl) (fun a1 => ⟨trivial, cond_intro (fun a2 => stop _ (by rw [hst, begin_in a1, show (!dayOK l[i].day) = true from a2]; rfl) rfl) (fun a2 => cond_false' (decide_eq_false (by omega)) ?_)⟩)⟩)
      have h0 : stepE (l.take i) l[i] = 0 := by rw [hst, begin_in a1, show (!dayOK l[i].day) = false from a2, show hasB (l.take i) l[i].box = false from hh]; rfl
      have hnil : ownL (l.take i) l[i].box = [] := by
        have : hasB (l.take i) l[i].box = false := hh
        unfold hasB at this
        exact List.length_eq_zero_iff.1 (by have := of_decide_eq_false this; omega)
      have hsrc : l[i].src = ByteArray.empty := by
        rw [ByteArray.toList_eq, beq_iff_eq] at hs
        generalize l[i].src = z at hs
        obtain ⟨⟨q⟩⟩ := z
        have : q = [] := hs
        rw [this]; rfl
      have hrow : rowF [.kn (.string l[i].box), .kn (.string ByteArray.empty), .kn (.string l[i].dst), .kn (.string l[i].place), .kn (.int .i64 l[i].day)] 5 0 = eHand.toV l[i] := by
        show _ = [V.kn (.string l[i].box), .kn (.string l[i].src), .kn (.string l[i].dst), .kn (.string l[i].place), .kn (.int .i64 l[i].day)]
        rw [hsrc]; rfl
      refine fold_hand hle (fun k => rfl) (by rw [hnil]; exact eHand.is_one l[i] hrow) (go _ ?_ h0)
      · rw [show hasF (l.take i) (.string l[i].box) = false from hh]
        show n + 1 ≤ i + 1
        omega
    · have hst : stepE (l.take i) l[i] = handE (l.take i) l[i] := by rw [stepE, hs]; rfl
      have ok := ok4 l[i].box l[i].src l[i].dst l[i].place
      refine cond_intro (fun hh => ⟨⟨ok, trivial⟩, cond_intro (fun a1 => stop _ (by rw [hst, hand_1 a1]) rfl) (fun a1 => cond_intro (fun a2 => stop _ (by rw [hst, hand_in a1, a2]; rfl) rfl) (fun a2 => ⟨trivial, cond_intro (fun a3 => stop _ (by rw [hst, hand_in a1, a2, show (!dayOK l[i].day) = true from a3]; rfl) rfl) (fun a3 => ?_)⟩))⟩)
        (fun hh => ⟨⟨ok, trivial⟩, cond_intro (fun a1 => stop _ (by rw [hst, hand_1 a1]) rfl) (fun a1 => cond_intro (fun a2 => stop _ (by rw [hst, hand_in a1, a2]; rfl) rfl) (fun a2 => ⟨trivial, cond_intro (fun a3 => stop _ (by rw [hst, hand_in a1, a2, show (!dayOK l[i].day) = true from a3]; rfl) rfl) (fun a3 => stop _ (by rw [hst, hand_in a1, a2, show (!dayOK l[i].day) = false from a3, show hasB (l.take i) l[i].box = false from hh]; rfl) rfl)⟩))⟩)
      have hin : stepE (l.take i) l[i] = bif !((lastH (ownL (l.take i) l[i].box)).dst.toList == l[i].src.toList) then 8 else bif decide (l[i].day < (lastH (ownL (l.take i) l[i].box)).day) then 6 else 0 := by
        rw [hst, hand_in a1, a2, show (!dayOK l[i].day) = false from a3, show hasB (l.take i) l[i].box = true from hh]; rfl
      have hpos : 0 < (ownL (l.take i) l[i].box).length := of_decide_eq_true (show hasB (l.take i) l[i].box = true from hh)
      have ew : IntKind.i64.wrap (((ownK (l.take i) (.string l[i].box)).length : Int) - 1) = (((ownL (l.take i) l[i].box).length - 1 : Nat) : Int) := by
        show IntKind.i64.wrap (((ownL (l.take i) l[i].box).length : Int) - 1) = _
        rw [wrap_in (by omega) (by omega)]; omega
      rw [ew, Int.toNat_natCast]
      have hL : ownK (l.take i) (.string l[i].box) = ownL (l.take i) l[i].box := rfl
      rw [hL]
      refine ⟨⟨by omega, by omega⟩, by omega, cond_intro (fun g1 => stop _ (by rw [hin, show (!((lastH (ownL (l.take i) l[i].box)).dst.toList == l[i].src.toList)) = true from g1]; rfl) rfl) (fun g1 => cond_intro (fun g2 => stop _ (by rw [hin, show (!((lastH (ownL (l.take i) l[i].box)).dst.toList == l[i].src.toList)) = false from g1, show decide (l[i].day < (lastH (ownL (l.take i) l[i].box)).day) = true from g2]; rfl) rfl) (fun g2 => cond_false' (decide_eq_false (by omega)) ⟨⟨by omega, by omega⟩, ?_⟩))⟩
      have h0 : stepE (l.take i) l[i] = 0 := by rw [hin, show (!((lastH (ownL (l.take i) l[i].box)).dst.toList == l[i].src.toList)) = false from g1, show decide (l[i].day < (lastH (ownL (l.take i) l[i].box)).day) = false from g2]; rfl
      refine fold_hand hle (fun k => ?_) (eHand.is_app (eHand.is_tl _) (eHand.is_one l[i] rfl)) (go _ ?_ h0)
      · show (bif keq k _ then _ else bif keq k _ then _ else none) = _
        cases keq k (.string l[i].box) <;> rfl
      · rw [show (l[i].box == l[i].box) = true from (Go.MapKept.bytes_beq _ _).2 rfl]
        show n ≤ i + 1
        omega
  · obtain ⟨hn, hv⟩ := hv
    apply hstep
    rw [cCheck_l3]
    refine cond_false' (decide_eq_false (by omega)) (tell ?_)
    rw [cCheck_val, chkV, ← hv, show l.length + 1 - l.length = 0 + 1 by omega, chk_end (Nat.le_refl _)]
theorem cCheck_con : SpecOK Try.prog 16 (lift GcCheck) := by
  refine con_of_run3 (con := conOf [(36, lift Gnames), (37, lift Gwhen)]) (hs := (0, [(16, 3, [0, 4, 9, 10, 11], [(0, 4, []), (0, 4, [0]), (0, 4, [0, 0])])])) 1500 Try.func16 rfl (by kernel_rfl) rfl (conCons names_con (conCons when_con conNil)) ?_
  intro args0 p r hG hp
  unfold GcCheck at hG
  split at hG
  case h_2 => cases hG
  rename_i s_l n_l f_l
  cases hG
  obtain ⟨ok_l, hp⟩ := hp
  exact ⟨[.list eHand.s (eHand.dl n_l f_l).length (eHand.tl (eHand.dl n_l f_l))], ⟨eHand.extl ok_l, trivial⟩, by simp [Try.ntmps16], fun good hstep hext hle => cCheck_ok _ (by rw [eHand.dl_length]; exact ok_l.2.1) hp good hstep hext hle⟩
def sumW (x : Hand) : Int := IntKind.i64.wrap (IntKind.i64.wrap (IntKind.i64.wrap ((x.box.size : Int) + x.src.size) + x.dst.size) + x.place.size)
noncomputable def longB (l : List Hand) : Bool := bP ((∃ x ∈ l, sumW x > 200) ∨ 60 < l.length)

def long_pre  (l : List Hand) : Prop := True
noncomputable def long_val  (l : List Hand) : V := (.kn (.bool (longB l)))
noncomputable def Glong : PSpec
  | [.list s_l n_l f_l] => some (eHand.okl s_l n_l f_l ∧ long_pre (eHand.dl n_l f_l), long_val (eHand.dl n_l f_l))
  | _ => none
theorem long_res  (l : List Hand) (good : Cfg → Prop) (R : Option V → Prop) : arun Try.prog (conOf []) (0, [(9, 2, [0, 5, 6, 7], [])]) good (RetO (R)) 400 (entry Try.prog 9 [.list eHand.s l.length (eHand.tl l)]) =
    (good { fr := { fn := (9 : Nat), nt := (31 : Nat), t := [((0 : Nat), V.list (5 : Nat) l.length (eHand.tl l)), ((5 : Nat), V.list (5 : Nat) l.length (eHand.tl l)), ((6 : Nat), V.kn (Value.int IntKind.i64 (↑l.length : Int))), ((7 : Nat), V.kn (Value.int IntKind.i64 (0 : Int)))], k := loopK Try.prog (9 : Nat) (2 : Nat) }, cs := [], h := [] }) := by kernel_rfl
@[reducible] noncomputable def long_c2 (l : List Hand) (i : Int) : Cfg := ⟨⟨9, 31, [(0, .list eHand.s l.length (eHand.tl l)), (5, .list eHand.s l.length (eHand.tl l)), (6, .kn (.int .i64 l.length)), (7, .kn (.int .i64 i))], loopK Try.prog 9 2⟩, [], []⟩
theorem long_l2 (l : List Hand) (i : Int) (good : Cfg → Prop) (R : Option V → Prop) : arun Try.prog (conOf []) (0, [(9, 2, [0, 5, 6, 7], [])]) good (RetO (R)) 400 (long_c2 l i) =
    (bif decide (i < (↑l.length : Int)) then ((0 : Int) ≤ i ∧ i < (↑l.length : Int)) ∧ bif decide (IntKind.i64.wrap (IntKind.i64.wrap (IntKind.i64.wrap ((↑(l.getD i.toNat eHand.dflt).box.size : Int) + (↑(l.getD i.toNat eHand.dflt).src.size : Int)) + (↑(l.getD i.toNat eHand.dflt).dst.size : Int)) + (↑(l.getD i.toNat eHand.dflt).place.size : Int)) > (200 : Int)) then R (some (V.kn (Value.bool true))) else good { fr := { fn := (9 : Nat), nt := (31 : Nat), t := [((0 : Nat), V.list (5 : Nat) l.length (eHand.tl l)), ((5 : Nat), V.list (5 : Nat) l.length (eHand.tl l)), ((6 : Nat), V.kn (Value.int IntKind.i64 (↑l.length : Int))), ((7 : Nat), V.kn (Value.int IntKind.i64 (IntKind.i64.wrap (i + (1 : Int)))))], k := loopK Try.prog (9 : Nat) (2 : Nat) }, cs := [], h := [] } else R (some (V.kn (Value.bool (decide ((↑l.length : Int) > (60 : Int))))))) := by kernel_rfl
theorem long_ok  (l : List Hand) (len_l : l.length ≤ maxLen) (hp : long_pre l) (good : Cfg → Prop) (hstep : ∀ c, arun Try.prog (conOf []) (0, [(9, 2, [0, 5, 6, 7], [])]) good (RetO (Tells (long_val l))) 400 (c) → good c) (hext : ∀ c c', CfgExt c c' → good c' → good c) (hle : ∀ c c', CfgLe 0 c c' → good c' → good c) : arun Try.prog (conOf []) (0, [(9, 2, [0, 5, 6, 7], [])]) good (RetO (Tells (long_val l))) 400 (entry Try.prog 9 [.list eHand.s l.length (eHand.tl l)]) := by
  rw [long_res]
  refine foreach l (fun i (_ : Unit) => ∀ j (hj : j < l.length), j < i → ¬ sumW l[j] > 200) (fun i _ => long_c2 l i) (fun i _ hi hv ih => ?_) (fun _ hv => ?_) () (fun j hl hj => by omega)
  · apply hstep
    rw [long_l2]
    have e1 : (i : Int).toNat = i := by omega
    rw [e1, wrap_succ hi len_l, getD_at _ hi]
    refine cond_true' (decide_eq_true (by omega)) ⟨⟨by omega, by omega⟩, cond_intro (fun h => ?_) (fun h => ih () (fun j hl hj => ?_))⟩
    · exact tell_true (.inl ⟨l[i], List.getElem_mem hi, of_decide_eq_true h⟩)
    · by_cases hji : j = i
      · subst hji; exact of_decide_eq_false h
      · exact hv j hl (by omega)
  · apply hstep
    rw [long_l2]
    refine cond_false' (decide_eq_false (by omega)) (tell_iff ?_)
    rw [decide_eq_true_eq]
    constructor
    · intro h
      exact .inr (by omega)
    · rintro (⟨x, hx, h⟩ | h)
      · obtain ⟨j, hj, rfl⟩ := List.getElem_of_mem hx
        exact (hv j hj hj h).elim
      · omega
theorem long_con : SpecOK Try.prog 9 (lift Glong) := by
  refine con_of_run3 (con := conOf []) (hs := (0, [(9, 2, [0, 5, 6, 7], [])])) 400 Try.func9 rfl (by kernel_rfl) rfl conNil ?_
  intro args0 p r hG hp
  unfold Glong at hG
  split at hG
  case h_2 => cases hG
  rename_i s_l n_l f_l
  cases hG
  obtain ⟨ok_l, hp⟩ := hp
  exact ⟨[.list eHand.s (eHand.dl n_l f_l).length (eHand.tl (eHand.dl n_l f_l))], ⟨eHand.extl ok_l, trivial⟩, by simp [Try.ntmps9], fun good hstep hext hle => long_ok _ (by rw [eHand.dl_length]; exact ok_l.2.1) hp good hstep hext hle⟩
end Go.Proofs.Ytgepkpajndlgeaa
