/- What is proved: contracts of functions of one seat, each by the executor; written by a program of the prover (gen.py) and by hand. Conditions: each contract names its own. -/
import Derived.Test.YtgepkpajndlgeaaAw2
import Derived.Test.YtgepkpajndlgeaaProg
import Derived.KernelRfl
import Derived.IntWalk
import Derived.Test.YtgepkpajndlgeaaCond
import Derived.MapKept
namespace Go.Proofs.Ytgepkpajndlgeaa
open Go Go.Aw Go.RowKit
set_option linter.unusedVariables false
set_option linter.unusedSimpArgs false
set_option maxRecDepth 10000
def hasG (F : Value → List Hand) (x : Value) : Bool := decide (0 < (F x).length)
def getG (x : Value) : List V := [.sl 0]
def subG (F : Value → List Hand) (x : Value) : List SO := [.row 41 5 (F x).length (eHand.tl (F x))]
def decF (sub : Value → List SO) (x : Value) : List Hand := match sub x with
  | [.row _ _ n f] => eHand.dl n f
  | _ => []
def putF (k : Value) (L : List Hand) (F : Value → List Hand) (x : Value) : List Hand := bif keq x k then L else F x
def bE (L : List Hand) (b w p : ByteArray) (d : Int) : Int := bif !isName b then 1 else bif !isName w then 1 else bif !isName p then 1 else bif !dayOK d then 3 else bif decide (0 < L.length) then 5 else 0
def hE (L : List Hand) (x : Hand) : Int := bif !isName x.box then 1 else bif !isName x.src then 1 else bif !isName x.dst then 1 else bif !isName x.place then 1 else bif x.src.toList == x.dst.toList then 1 else bif !dayOK x.day then 3 else
  bif !decide (0 < L.length) then 4 else bif !((lastH L).dst.toList == x.src.toList) then 8 else bif decide (x.day < (lastH L).day) then 6 else 0


theorem bE_1 {L : List Hand} {b w p : ByteArray} {d : Int} (h : (!(isName b && (isName w && isName p))) = true) : bE L b w p d = 1 := by
  unfold bE; cases h1 : isName b <;> cases h2 : isName w <;> cases h3 : isName p <;> simp_all
theorem bE_in {L : List Hand} {b w p : ByteArray} {d : Int} (h : (!(isName b && (isName w && isName p))) = false) : bE L b w p d = bif !dayOK d then 3 else bif decide (0 < L.length) then 5 else 0 := by
  unfold bE; cases h1 : isName b <;> cases h2 : isName w <;> cases h3 : isName p <;> simp_all
theorem bE_0 {L : List Hand} {b w p : ByteArray} {d : Int} (h : bE L b w p d = 0) : (!(isName b && (isName w && isName p))) = false ∧ (!dayOK d) = false ∧ decide (0 < L.length) = false := by
  cases h1 : (!(isName b && (isName w && isName p))) with
  | true => rw [bE_1 h1] at h; cases h
  | false =>
    rw [bE_in h1] at h
    cases h2 : (!dayOK d) with
    | true => rw [h2] at h; cases h
    | false =>
      rw [h2] at h
      cases h3 : decide (0 < L.length) with
      | true => rw [h3] at h; cases h
      | false => exact ⟨rfl, rfl, rfl⟩
theorem hE_1 {L : List Hand} {x : Hand} (h : (!(isName x.box && (isName x.src && (isName x.dst && isName x.place)))) = true) : hE L x = 1 := by
  unfold hE; cases h1 : isName x.box <;> cases h2 : isName x.src <;> cases h3 : isName x.dst <;> cases h4 : isName x.place <;> simp_all
theorem hE_in {L : List Hand} {x : Hand} (h : (!(isName x.box && (isName x.src && (isName x.dst && isName x.place)))) = false) : hE L x = bif x.src.toList == x.dst.toList then 1 else bif !dayOK x.day then 3 else
    bif !decide (0 < L.length) then 4 else bif !((lastH L).dst.toList == x.src.toList) then 8 else bif decide (x.day < (lastH L).day) then 6 else 0 := by
  unfold hE; cases h1 : isName x.box <;> cases h2 : isName x.src <;> cases h3 : isName x.dst <;> cases h4 : isName x.place <;> simp_all
/-- A write, or nothing, taken into the map. -/
theorem put_re {F F' : Value → List Hand} {b : ByteArray} {L : List Hand} {n n' m : Nat} {ov : List (Value × Option (List V))} {f : Nat → List V} (hL : 0 < L.length) (h1 : F' (.string b) = L) (h2 : ∀ k, KK.str.ok k = true → keq k (.string b) = false → F' k = F k)
    (hov : ∀ k, findOv k ov = bif keq k (.string b) then some (some [.sl 2]) else none) (hf : eHand.is m f L) (hn : n = n') :
    Re 2 (V.forget [0, 1]) [.cells [.mp 1], .map .str false n ov (fun x => hasG F x) (fun x => [.sl 0]) (fun x => [.row 41 5 (F x).length (eHand.tl (F x))]) [], .row 41 5 m f true] [.cells [.mp 1], .map .str false n' [] (hasG F') getG (subG F') []] := by
  subst hn
  refine ((fold_re (q := 2) 1 (kd := .str) (ag := false) (n := n) (its := []) (k0 := .string b) (cs0 := [.sl 2]) (has' := hasG F') (get' := getG) (sub' := subG F') [2] rfl rfl hov (fun k hk => ?_) (fun k hk hq hh => ⟨rfl, ?_⟩)
    ⟨rfl, rfl, fun j q so hj hs => ?_⟩ rfl (by decide)).trans (Re.norm (m := [0, 1]) rfl (by intro j hj; match j, hj with | 0, _ => rfl | 1, _ => rfl)))
  · cases hq : keq k (.string b) with
    | false => unfold hasG; rw [h2 k hk hq]; rfl
    | true =>
      have := (keq_iff (kd := .str) (a := k) (b := .string b) hk rfl).1 hq
      subst this
      unfold hasG; rw [h1]
      exact decide_eq_true hL
  · unfold subG; rw [h2 k hk hq]
  · cases j with
    | succ j => simp at hj
    | zero =>
      simp at hj
      subst hj
      unfold subG at hs
      simp at hs
      subst hs
      rw [h1]
      exact eHand.oext hf
theorem tell_put {F F' : Value → List Hand} {b : ByteArray} {L : List Hand} {n n' m : Nat} {ov : List (Value × Option (List V))} {f : Nat → List V} {x y : Value} (hL : 0 < L.length) (h1 : F' (.string b) = L) (h2 : ∀ k, KK.str.ok k = true → keq k (.string b) = false → F' k = F k)
    (hov : ∀ k, findOv k ov = bif keq k (.string b) then some (some [.sl 2]) else none) (hf : eHand.is m f L) (hn : n = n') (e : x = y) :
    TellsT 2 (.kn y) [.cells [.mp 1], .map .str false n' [] (hasG F') getG (subG F') []] (.kn x) [.cells [.mp 1], .map .str false n ov (fun x => hasG F x) (fun x => [.sl 0]) (fun x => [.row 41 5 (F x).length (eHand.tl (F x))]) [], .row 41 5 m f true] :=
  tellT_kn (by rw [e]) (put_re hL h1 h2 hov hf hn) rfl
theorem putF_new (k : Value) (L : List Hand) (F : Value → List Hand) (hk : KK.str.ok k = true) : putF k L F k = L := by unfold putF; rw [keq_self hk]; rfl
theorem putF_old {k x : Value} (L : List Hand) (F : Value → List Hand) (h : keq x k = false) : putF k L F x = F x := by unfold putF; rw [h]; rfl
theorem tell_stay {r : V} {n : Nat} {F : Value → List Hand} {v : V} (e : v = r) : TellsT 2 r [.cells [.mp 1], .map .str false n [] (hasG F) getG (subG F) []] v [.cells [.mp 1], .map .str false n [] (fun x => hasG F x) (fun x => [.sl 0]) (fun x => [.row 41 5 (F x).length (eHand.tl (F x))]) []] :=
  ⟨fun v => v, v, VExt.refl _, Re.refl _ _, e⟩

def BeginN_pre (b w p : ByteArray) (d : Int) (n : Nat) (F : Value → List Hand) : Prop := hasG F (.string b) = false ∧ ((bE (F (.string b)) b w p d) == 0) = false ∧ n ≤ 4000
noncomputable def BeginN_val (b w p : ByteArray) (d : Int) (n : Nat) (F : Value → List Hand) : V := .kn (.int .i64 (bE (F (.string b)) b w p d))
noncomputable def BeginN_objs (b w p : ByteArray) (d : Int) (n : Nat) (F : Value → List Hand) : List O := [.cells [.mp 1], .map .str false (bif (bE (F (.string b)) b w p d) == 0 then n + 1 else n) [] (hasG (bif (bE (F (.string b)) b w p d) == 0 then putF (.string b) [⟨b, ByteArray.empty, w, p, d⟩] F else F)) getG (subG (bif (bE (F (.string b)) b w p d) == 0 then putF (.string b) [⟨b, ByteArray.empty, w, p, d⟩] F else F)) []]
theorem BeginN_res (b w p : ByteArray) (d : Int) (n : Nat) (F : Value → List Hand) (good : Cfg → Prop) (R : V → List O → Prop) : arun Try.prog (conOf [(36, lift Gnames), (37, lift Gwhen)]) (2, []) good (RetS 2 [.ptr 0 0, .kn (.string b), .kn (.string w), .kn (.string p), .kn (.int .i64 d)] [] (R)) 1500 (entryO Try.prog 21 [.ptr 0 0, .kn (.string b), .kn (.string w), .kn (.string p), .kn (.int .i64 d)] [.cells [.mp 1], .map .str false n [] (hasG F) getG (subG F) []]) =
    (bif hasG F (Value.string b) then (eStr.okl (1 : Nat) (3 : Nat) (rowF [V.kn (Value.string b), V.kn (Value.string w), V.kn (Value.string p)] (1 : Nat)) ∧ names_pre [eStr.ofV [V.kn (Value.string b)], eStr.ofV [V.kn (Value.string w)], eStr.ofV [V.kn (Value.string p)]]) ∧ bif !bP (∀ (x : ByteArray), x ∈ eStr.dl (3 : Nat) (rowF ((fun x => V.kn (Value.string b) :: x) ((fun x => V.kn (Value.string w) :: x) ((fun x => V.kn (Value.string p) :: x) []))) (sz Try.prog (9 : Nat))) → isName x = true) then R (V.kn (Value.int IntKind.i64 (1 : Int))) [O.cells [V.mp (1 : Nat)], O.map KK.str false n [(Value.string b, some [V.any])] (fun x => hasG F x) (fun x => [V.sl (0 : Nat)]) (fun x => [SO.row (41 : Nat) (5 : Nat) (F x).length (eHand.tl (F x))]) []] else when_pre d ∧ bif !decide ((0 : Int) ≤ d ∧ d ≤ (1048576 : Int)) then R (V.kn (Value.int IntKind.i64 (3 : Int))) [O.cells [V.mp (1 : Nat)], O.map KK.str false n [(Value.string b, some [V.any])] (fun x => hasG F x) (fun x => [V.sl (0 : Nat)]) (fun x => [SO.row (41 : Nat) (5 : Nat) (F x).length (eHand.tl (F x))]) []] else R (V.kn (Value.int IntKind.i64 (5 : Int))) [O.cells [V.mp (1 : Nat)], O.map KK.str false n [(Value.string b, some [V.any])] (fun x => hasG F x) (fun x => [V.sl (0 : Nat)]) (fun x => [SO.row (41 : Nat) (5 : Nat) (F x).length (eHand.tl (F x))]) []] else (eStr.okl (1 : Nat) (3 : Nat) (rowF [V.kn (Value.string b), V.kn (Value.string w), V.kn (Value.string p)] (1 : Nat)) ∧ names_pre [eStr.ofV [V.kn (Value.string b)], eStr.ofV [V.kn (Value.string w)], eStr.ofV [V.kn (Value.string p)]]) ∧ bif !bP (∀ (x : ByteArray), x ∈ eStr.dl (3 : Nat) (rowF ((fun x => V.kn (Value.string b) :: x) ((fun x => V.kn (Value.string w) :: x) ((fun x => V.kn (Value.string p) :: x) []))) (sz Try.prog (9 : Nat))) → isName x = true) then R (V.kn (Value.int IntKind.i64 (1 : Int))) [O.cells [V.mp (1 : Nat)], O.map KK.str false n [] (fun x => hasG F x) (fun x => [V.sl (0 : Nat)]) (fun x => [SO.row (41 : Nat) (5 : Nat) (F x).length (eHand.tl (F x))]) []] else when_pre d ∧ bif !decide ((0 : Int) ≤ d ∧ d ≤ (1048576 : Int)) then R (V.kn (Value.int IntKind.i64 (3 : Int))) [O.cells [V.mp (1 : Nat)], O.map KK.str false n [] (fun x => hasG F x) (fun x => [V.sl (0 : Nat)]) (fun x => [SO.row (41 : Nat) (5 : Nat) (F x).length (eHand.tl (F x))]) []] else bif decide ((↑n : Int) ≥ (4096 : Int)) then R (V.kn (Value.int IntKind.i64 (7 : Int))) [O.cells [V.mp (1 : Nat)], O.map KK.str false n [] (fun x => hasG F x) (fun x => [V.sl (0 : Nat)]) (fun x => [SO.row (41 : Nat) (5 : Nat) (F x).length (eHand.tl (F x))]) []] else R (V.kn (Value.int IntKind.i64 (0 : Int))) [O.cells [V.mp (1 : Nat)], O.map KK.str false (bif hasG F (Value.string b) then n else n + (1 : Nat)) [(Value.string b, some [V.any])] (fun x => hasG F x) (fun x => [V.sl (0 : Nat)]) (fun x => [SO.row (41 : Nat) (5 : Nat) (F x).length (eHand.tl (F x))]) []]) := by kernel_rfl
theorem BeginN_ok (b w p : ByteArray) (d : Int) (n : Nat) (F : Value → List Hand) (hp : BeginN_pre b w p d n F) (good : Cfg → Prop) (hstep : ∀ c, arun Try.prog (conOf [(36, lift Gnames), (37, lift Gwhen)]) (2, []) good (RetS 2 [.ptr 0 0, .kn (.string b), .kn (.string w), .kn (.string p), .kn (.int .i64 d)] [] (TellsT 2 (BeginN_val b w p d n F) (BeginN_objs b w p d n F))) 1500 (c) → good c) (hext : ∀ c c', CfgExt c c' → good c' → good c) (hle : ∀ c c', CfgLe 2 c c' → good c' → good c) : arun Try.prog (conOf [(36, lift Gnames), (37, lift Gwhen)]) (2, []) good (RetS 2 [.ptr 0 0, .kn (.string b), .kn (.string w), .kn (.string p), .kn (.int .i64 d)] [] (TellsT 2 (BeginN_val b w p d n F) (BeginN_objs b w p d n F))) 1500 (entryO Try.prog 21 [.ptr 0 0, .kn (.string b), .kn (.string w), .kn (.string p), .kn (.int .i64 d)] [.cells [.mp 1], .map .str false n [] (hasG F) getG (subG F) []]) := by
  rw [BeginN_res]
  obtain ⟨hh, h0, hn⟩ := hp
  simp only [dl3, nm3, BeginN_val, BeginN_objs, h0, cond_false]
  have ok := ok3 b w p
  have hd : decide (0 < (F (.string b)).length) = false := hh
  refine cond_false' hh ⟨⟨ok, trivial⟩, cond_intro (fun a1 => tell_stay (by rw [bE_1 a1])) (fun a1 => ⟨trivial, cond_intro (fun a2 => tell_stay (by rw [bE_in a1, show (!dayOK d) = true from a2]; rfl)) (fun a2 => ?_)⟩)⟩
  have : bE (F (.string b)) b w p d = 0 := by rw [bE_in a1, show (!dayOK d) = false from a2, hd]; rfl
  rw [this] at h0
  cases h0
def BeginY_pre (b w p : ByteArray) (d : Int) (n : Nat) (F : Value → List Hand) : Prop := (hasG F (.string b) = true ∨ (bE (F (.string b)) b w p d) = 0) ∧ n ≤ 4000
noncomputable def BeginY_val (b w p : ByteArray) (d : Int) (n : Nat) (F : Value → List Hand) : V := .kn (.int .i64 (bE (F (.string b)) b w p d))
noncomputable def BeginY_objs (b w p : ByteArray) (d : Int) (n : Nat) (F : Value → List Hand) : List O := [.cells [.mp 1], .map .str false (bif (bE (F (.string b)) b w p d) == 0 then n + 1 else n) [] (hasG (bif (bE (F (.string b)) b w p d) == 0 then putF (.string b) [⟨b, ByteArray.empty, w, p, d⟩] F else F)) getG (subG (bif (bE (F (.string b)) b w p d) == 0 then putF (.string b) [⟨b, ByteArray.empty, w, p, d⟩] F else F)) []]
theorem BeginY_res (b w p : ByteArray) (d : Int) (n : Nat) (F : Value → List Hand) (good : Cfg → Prop) (R : V → List O → Prop) : arun Try.prog (conOf [(36, lift Gnames), (37, lift Gwhen)]) (2, []) good (RetS 2 [.ptr 0 0, .kn (.string b), .kn (.string w), .kn (.string p), .kn (.int .i64 d)] [(1, [0, 0])] (R)) 1500 (entryO Try.prog 21 [.ptr 0 0, .kn (.string b), .kn (.string w), .kn (.string p), .kn (.int .i64 d)] [.cells [.mp 1], .map .str false n [] (hasG F) getG (subG F) []]) =
    (bif hasG F (Value.string b) then (eStr.okl (1 : Nat) (3 : Nat) (rowF [V.kn (Value.string b), V.kn (Value.string w), V.kn (Value.string p)] (1 : Nat)) ∧ names_pre [eStr.ofV [V.kn (Value.string b)], eStr.ofV [V.kn (Value.string w)], eStr.ofV [V.kn (Value.string p)]]) ∧ bif !bP (∀ (x : ByteArray), x ∈ eStr.dl (3 : Nat) (rowF ((fun x => V.kn (Value.string b) :: x) ((fun x => V.kn (Value.string w) :: x) ((fun x => V.kn (Value.string p) :: x) []))) (sz Try.prog (9 : Nat))) → isName x = true) then R (V.kn (Value.int IntKind.i64 (1 : Int))) [O.cells [V.mp (1 : Nat)], O.map KK.str false n [(Value.string b, some [V.sl (2 : Nat)])] (fun x => hasG F x) (fun x => [V.sl (0 : Nat)]) (fun x => [SO.row (41 : Nat) (5 : Nat) (F x).length (eHand.tl (F x))]) [], O.row (41 : Nat) (5 : Nat) (F (Value.string b)).length (eHand.tl (F (Value.string b))) true] else when_pre d ∧ bif !decide ((0 : Int) ≤ d ∧ d ≤ (1048576 : Int)) then R (V.kn (Value.int IntKind.i64 (3 : Int))) [O.cells [V.mp (1 : Nat)], O.map KK.str false n [(Value.string b, some [V.sl (2 : Nat)])] (fun x => hasG F x) (fun x => [V.sl (0 : Nat)]) (fun x => [SO.row (41 : Nat) (5 : Nat) (F x).length (eHand.tl (F x))]) [], O.row (41 : Nat) (5 : Nat) (F (Value.string b)).length (eHand.tl (F (Value.string b))) true] else R (V.kn (Value.int IntKind.i64 (5 : Int))) [O.cells [V.mp (1 : Nat)], O.map KK.str false n [(Value.string b, some [V.sl (2 : Nat)])] (fun x => hasG F x) (fun x => [V.sl (0 : Nat)]) (fun x => [SO.row (41 : Nat) (5 : Nat) (F x).length (eHand.tl (F x))]) [], O.row (41 : Nat) (5 : Nat) (F (Value.string b)).length (eHand.tl (F (Value.string b))) true] else (eStr.okl (1 : Nat) (3 : Nat) (rowF [V.kn (Value.string b), V.kn (Value.string w), V.kn (Value.string p)] (1 : Nat)) ∧ names_pre [eStr.ofV [V.kn (Value.string b)], eStr.ofV [V.kn (Value.string w)], eStr.ofV [V.kn (Value.string p)]]) ∧ bif !bP (∀ (x : ByteArray), x ∈ eStr.dl (3 : Nat) (rowF ((fun x => V.kn (Value.string b) :: x) ((fun x => V.kn (Value.string w) :: x) ((fun x => V.kn (Value.string p) :: x) []))) (sz Try.prog (9 : Nat))) → isName x = true) then False else when_pre d ∧ bif !decide ((0 : Int) ≤ d ∧ d ≤ (1048576 : Int)) then False else bif decide ((↑n : Int) ≥ (4096 : Int)) then False else R (V.kn (Value.int IntKind.i64 (0 : Int))) [O.cells [V.mp (1 : Nat)], O.map KK.str false (bif hasG F (Value.string b) then n else n + (1 : Nat)) [(Value.string b, some [V.sl (2 : Nat)])] (fun x => hasG F x) (fun x => [V.sl (0 : Nat)]) (fun x => [SO.row (41 : Nat) (5 : Nat) (F x).length (eHand.tl (F x))]) [], O.row (41 : Nat) (5 : Nat) (1 : Nat) (rowF [V.kn (Value.string b), V.kn (Value.string { data := #[] }), V.kn (Value.string w), V.kn (Value.string p), V.kn (Value.int IntKind.i64 d)] (5 : Nat)) true]) := by kernel_rfl
theorem BeginY_ok (b w p : ByteArray) (d : Int) (n : Nat) (F : Value → List Hand) (hp : BeginY_pre b w p d n F) (good : Cfg → Prop) (hstep : ∀ c, arun Try.prog (conOf [(36, lift Gnames), (37, lift Gwhen)]) (2, []) good (RetS 2 [.ptr 0 0, .kn (.string b), .kn (.string w), .kn (.string p), .kn (.int .i64 d)] [(1, [0, 0])] (TellsT 2 (BeginY_val b w p d n F) (BeginY_objs b w p d n F))) 1500 (c) → good c) (hext : ∀ c c', CfgExt c c' → good c' → good c) (hle : ∀ c c', CfgLe 2 c c' → good c' → good c) : arun Try.prog (conOf [(36, lift Gnames), (37, lift Gwhen)]) (2, []) good (RetS 2 [.ptr 0 0, .kn (.string b), .kn (.string w), .kn (.string p), .kn (.int .i64 d)] [(1, [0, 0])] (TellsT 2 (BeginY_val b w p d n F) (BeginY_objs b w p d n F))) 1500 (entryO Try.prog 21 [.ptr 0 0, .kn (.string b), .kn (.string w), .kn (.string p), .kn (.int .i64 d)] [.cells [.mp 1], .map .str false n [] (hasG F) getG (subG F) []]) := by
  rw [BeginY_res]
  obtain ⟨hp, hn⟩ := hp
  simp only [dl3, nm3]
  have ok := ok3 b w p
  refine cond_intro (fun hh => ?_) (fun hh => ?_)
  · have hL : 0 < (F (.string b)).length := of_decide_eq_true hh
    have leaf : ∀ e, bE (F (.string b)) b w p d = e → (e == 0) = false → TellsT 2 (BeginY_val b w p d n F) (BeginY_objs b w p d n F) (.kn (.int .i64 e)) [.cells [.mp 1], .map .str false n [(.string b, some [.sl 2])] (fun x => hasG F x) (fun x => [.sl 0]) (fun x => [.row 41 5 (F x).length (eHand.tl (F x))]) [], .row 41 5 (F (.string b)).length (eHand.tl (F (.string b))) true] := fun e h1 h2 => by
      subst h1
      simp only [BeginY_val, BeginY_objs, h2, cond_false]
      exact tell_put hL rfl (fun _ _ _ => rfl) (fun k => rfl) (eHand.is_tl _) rfl rfl
    exact ⟨⟨ok, trivial⟩, cond_intro (fun a1 => leaf 1 (bE_1 a1) rfl) (fun a1 => ⟨trivial, cond_intro (fun a2 => leaf 3 (by rw [bE_in a1, show (!dayOK d) = true from a2]; rfl) rfl) (fun a2 => leaf 5 (by rw [bE_in a1, show (!dayOK d) = false from a2, show decide (0 < (F (.string b)).length) = true from hh]; rfl) rfl)⟩)⟩
  · have h0 : bE (F (.string b)) b w p d = 0 := hp.resolve_left (by rw [hh]; simp)
    obtain ⟨a1, a2, a3⟩ := bE_0 h0
    have leaf : TellsT 2 (BeginY_val b w p d n F) (BeginY_objs b w p d n F) (.kn (.int .i64 0)) [.cells [.mp 1], .map .str false (bif hasG F (.string b) then n else n + 1) [(.string b, some [.sl 2])] (fun x => hasG F x) (fun x => [.sl 0]) (fun x => [.row 41 5 (F x).length (eHand.tl (F x))]) [], .row 41 5 1 (rowF [.kn (.string b), .kn (.string ByteArray.empty), .kn (.string w), .kn (.string p), .kn (.int .i64 d)] 5) true] := by
      simp only [BeginY_val, BeginY_objs, h0, show ((0 : Int) == 0) = true from rfl, cond_true]
      exact tell_put (L := [⟨b, ByteArray.empty, w, p, d⟩]) (by simp) (putF_new _ _ _ rfl) (fun k hk hq => putF_old _ _ hq) (fun k => rfl) (eHand.is_one _ rfl) (by rw [hh]; rfl) rfl
    exact ⟨⟨ok, trivial⟩, cond_false' a1 ⟨trivial, cond_false' a2 (cond_false' (decide_eq_false (by omega)) leaf)⟩⟩
def HandN_pre (hb hs hd hq : ByteArray) (hy : Int) (n : Nat) (F : Value → List Hand) : Prop := hasG F (.string hb) = false
noncomputable def HandN_val (hb hs hd hq : ByteArray) (hy : Int) (n : Nat) (F : Value → List Hand) : V := .kn (.int .i64 (hE (F (.string hb)) (⟨hb, hs, hd, hq, hy⟩ : Hand)))
noncomputable def HandN_objs (hb hs hd hq : ByteArray) (hy : Int) (n : Nat) (F : Value → List Hand) : List O := [.cells [.mp 1], .map .str false n [] (hasG (bif (hE (F (.string hb)) (⟨hb, hs, hd, hq, hy⟩ : Hand)) == 0 then putF (.string hb) (F (.string hb) ++ [(⟨hb, hs, hd, hq, hy⟩ : Hand)]) F else F)) getG (subG (bif (hE (F (.string hb)) (⟨hb, hs, hd, hq, hy⟩ : Hand)) == 0 then putF (.string hb) (F (.string hb) ++ [(⟨hb, hs, hd, hq, hy⟩ : Hand)]) F else F)) []]
theorem HandN_res (hb hs hd hq : ByteArray) (hy : Int) (n : Nat) (F : Value → List Hand) (good : Cfg → Prop) (R : V → List O → Prop) : arun Try.prog (conOf [(36, lift Gnames), (37, lift Gwhen)]) (2, []) good (RetS 2 [.ptr 0 0, .agg [.kn (.string hb), .kn (.string hs), .kn (.string hd), .kn (.string hq), .kn (.int .i64 hy)]] [] (R)) 1500 (entryO Try.prog 22 [.ptr 0 0, .agg [.kn (.string hb), .kn (.string hs), .kn (.string hd), .kn (.string hq), .kn (.int .i64 hy)]] [.cells [.mp 1], .map .str false n [] (hasG F) getG (subG F) []]) =
    (bif hasG F (Value.string hb) then (eStr.okl (1 : Nat) (4 : Nat) (rowF [V.kn (Value.string hb), V.kn (Value.string hs), V.kn (Value.string hd), V.kn (Value.string hq)] (1 : Nat)) ∧ names_pre [eStr.ofV [V.kn (Value.string hb)], eStr.ofV [V.kn (Value.string hs)], eStr.ofV [V.kn (Value.string hd)], eStr.ofV [V.kn (Value.string hq)]]) ∧ bif !bP (∀ (x : ByteArray), x ∈ eStr.dl (4 : Nat) (rowF ((fun x => V.kn (Value.string hb) :: x) ((fun x => V.kn (Value.string hs) :: x) ((fun x => V.kn (Value.string hd) :: x) ((fun x => V.kn (Value.string hq) :: x) [])))) (sz Try.prog (9 : Nat))) → isName x = true) then R (V.kn (Value.int IntKind.i64 (1 : Int))) [O.cells [V.mp (1 : Nat)], O.map KK.str false n [(Value.string hb, some [V.any])] (fun x => hasG F x) (fun x => [V.sl (0 : Nat)]) (fun x => [SO.row (41 : Nat) (5 : Nat) (F x).length (eHand.tl (F x))]) []] else bif hs.toList == hd.toList then R (V.kn (Value.int IntKind.i64 (1 : Int))) [O.cells [V.mp (1 : Nat)], O.map KK.str false n [(Value.string hb, some [V.any])] (fun x => hasG F x) (fun x => [V.sl (0 : Nat)]) (fun x => [SO.row (41 : Nat) (5 : Nat) (F x).length (eHand.tl (F x))]) []] else when_pre hy ∧ bif !decide ((0 : Int) ≤ hy ∧ hy ≤ (1048576 : Int)) then R (V.kn (Value.int IntKind.i64 (3 : Int))) [O.cells [V.mp (1 : Nat)], O.map KK.str false n [(Value.string hb, some [V.any])] (fun x => hasG F x) (fun x => [V.sl (0 : Nat)]) (fun x => [SO.row (41 : Nat) (5 : Nat) (F x).length (eHand.tl (F x))]) []] else ((0 : Int) ≤ IntKind.i64.wrap ((↑(F (Value.string hb)).length : Int) - (1 : Int)) ∧ IntKind.i64.wrap ((↑(F (Value.string hb)).length : Int) - (1 : Int)) < (↑(F (Value.string hb)).length : Int)) ∧ (IntKind.i64.wrap ((↑(F (Value.string hb)).length : Int) - (1 : Int))).toNat < (F (Value.string hb)).length ∧ bif !((F (Value.string hb)).getD (IntKind.i64.wrap ((↑(F (Value.string hb)).length : Int) - (1 : Int))).toNat eHand.dflt).dst.toList == hs.toList then R (V.kn (Value.int IntKind.i64 (8 : Int))) [O.cells [V.mp (1 : Nat)], O.map KK.str false n [(Value.string hb, some [V.any])] (fun x => hasG F x) (fun x => [V.sl (0 : Nat)]) (fun x => [SO.row (41 : Nat) (5 : Nat) (F x).length (eHand.tl (F x))]) []] else bif decide (hy < ((F (Value.string hb)).getD (IntKind.i64.wrap ((↑(F (Value.string hb)).length : Int) - (1 : Int))).toNat eHand.dflt).day) then R (V.kn (Value.int IntKind.i64 (6 : Int))) [O.cells [V.mp (1 : Nat)], O.map KK.str false n [(Value.string hb, some [V.any])] (fun x => hasG F x) (fun x => [V.sl (0 : Nat)]) (fun x => [SO.row (41 : Nat) (5 : Nat) (F x).length (eHand.tl (F x))]) []] else bif decide ((↑(F (Value.string hb)).length : Int) ≥ (4096 : Int)) then R (V.kn (Value.int IntKind.i64 (7 : Int))) [O.cells [V.mp (1 : Nat)], O.map KK.str false n [(Value.string hb, some [V.any])] (fun x => hasG F x) (fun x => [V.sl (0 : Nat)]) (fun x => [SO.row (41 : Nat) (5 : Nat) (F x).length (eHand.tl (F x))]) []] else ((F (Value.string hb)).length + (1 : Nat) ≤ (9223372036854775807 : Nat) ∧ ((F (Value.string hb)).length + (1 : Nat)) * (72 : Nat) ≤ (140737488355328 : Nat)) ∧ R (V.kn (Value.int IntKind.i64 (0 : Int))) [O.cells [V.mp (1 : Nat)], O.map KK.str false (bif bif hb == hb then (some [V.sl (99 : Nat)]).isSome else hasG F (Value.string hb) then n else n + (1 : Nat)) [(Value.string hb, some [V.any]), (Value.string hb, some [V.any])] (fun x => hasG F x) (fun x => [V.sl (0 : Nat)]) (fun x => [SO.row (41 : Nat) (5 : Nat) (F x).length (eHand.tl (F x))]) []] else (eStr.okl (1 : Nat) (4 : Nat) (rowF [V.kn (Value.string hb), V.kn (Value.string hs), V.kn (Value.string hd), V.kn (Value.string hq)] (1 : Nat)) ∧ names_pre [eStr.ofV [V.kn (Value.string hb)], eStr.ofV [V.kn (Value.string hs)], eStr.ofV [V.kn (Value.string hd)], eStr.ofV [V.kn (Value.string hq)]]) ∧ bif !bP (∀ (x : ByteArray), x ∈ eStr.dl (4 : Nat) (rowF ((fun x => V.kn (Value.string hb) :: x) ((fun x => V.kn (Value.string hs) :: x) ((fun x => V.kn (Value.string hd) :: x) ((fun x => V.kn (Value.string hq) :: x) [])))) (sz Try.prog (9 : Nat))) → isName x = true) then R (V.kn (Value.int IntKind.i64 (1 : Int))) [O.cells [V.mp (1 : Nat)], O.map KK.str false n [] (fun x => hasG F x) (fun x => [V.sl (0 : Nat)]) (fun x => [SO.row (41 : Nat) (5 : Nat) (F x).length (eHand.tl (F x))]) []] else bif hs.toList == hd.toList then R (V.kn (Value.int IntKind.i64 (1 : Int))) [O.cells [V.mp (1 : Nat)], O.map KK.str false n [] (fun x => hasG F x) (fun x => [V.sl (0 : Nat)]) (fun x => [SO.row (41 : Nat) (5 : Nat) (F x).length (eHand.tl (F x))]) []] else when_pre hy ∧ bif !decide ((0 : Int) ≤ hy ∧ hy ≤ (1048576 : Int)) then R (V.kn (Value.int IntKind.i64 (3 : Int))) [O.cells [V.mp (1 : Nat)], O.map KK.str false n [] (fun x => hasG F x) (fun x => [V.sl (0 : Nat)]) (fun x => [SO.row (41 : Nat) (5 : Nat) (F x).length (eHand.tl (F x))]) []] else R (V.kn (Value.int IntKind.i64 (4 : Int))) [O.cells [V.mp (1 : Nat)], O.map KK.str false n [] (fun x => hasG F x) (fun x => [V.sl (0 : Nat)]) (fun x => [SO.row (41 : Nat) (5 : Nat) (F x).length (eHand.tl (F x))]) []]) := by kernel_rfl
theorem HandN_ok (hb hs hd hq : ByteArray) (hy : Int) (n : Nat) (F : Value → List Hand) (hp : HandN_pre hb hs hd hq hy n F) (good : Cfg → Prop) (hstep : ∀ c, arun Try.prog (conOf [(36, lift Gnames), (37, lift Gwhen)]) (2, []) good (RetS 2 [.ptr 0 0, .agg [.kn (.string hb), .kn (.string hs), .kn (.string hd), .kn (.string hq), .kn (.int .i64 hy)]] [] (TellsT 2 (HandN_val hb hs hd hq hy n F) (HandN_objs hb hs hd hq hy n F))) 1500 (c) → good c) (hext : ∀ c c', CfgExt c c' → good c' → good c) (hle : ∀ c c', CfgLe 2 c c' → good c' → good c) : arun Try.prog (conOf [(36, lift Gnames), (37, lift Gwhen)]) (2, []) good (RetS 2 [.ptr 0 0, .agg [.kn (.string hb), .kn (.string hs), .kn (.string hd), .kn (.string hq), .kn (.int .i64 hy)]] [] (TellsT 2 (HandN_val hb hs hd hq hy n F) (HandN_objs hb hs hd hq hy n F))) 1500 (entryO Try.prog 22 [.ptr 0 0, .agg [.kn (.string hb), .kn (.string hs), .kn (.string hd), .kn (.string hq), .kn (.int .i64 hy)]] [.cells [.mp 1], .map .str false n [] (hasG F) getG (subG F) []]) := by
  rw [HandN_res]
  have hh : hasG F (.string hb) = false := hp
  have hz : decide (0 < (F (.string hb)).length) = false := hh
  have ok := ok4 hb hs hd hq
  simp only [dl4, nm4]
  have key : ∀ e, hE (F (.string hb)) ⟨hb, hs, hd, hq, hy⟩ = e → (e == 0) = false → TellsT 2 (HandN_val hb hs hd hq hy n F) (HandN_objs hb hs hd hq hy n F) (.kn (.int .i64 e)) [.cells [.mp 1], .map .str false n [] (fun x => hasG F x) (fun x => [.sl 0]) (fun x => [.row 41 5 (F x).length (eHand.tl (F x))]) []] := fun e h1 h2 => by
    subst h1
    simp only [HandN_val, HandN_objs, h2, cond_false]
    exact tell_stay rfl
  refine cond_false' hh ⟨⟨ok, trivial⟩, cond_intro (fun a1 => key 1 (hE_1 a1) rfl) (fun a1 => cond_intro (fun a2 => key 1 (by rw [hE_in a1, show (hs.toList == hd.toList) = true from a2]; rfl) rfl) (fun a2 => ⟨trivial, cond_intro (fun a3 => key 3 (by rw [hE_in a1, show (hs.toList == hd.toList) = false from a2, show (!dayOK hy) = true from a3]; rfl) rfl) (fun a3 => key 4 (by rw [hE_in a1, show (hs.toList == hd.toList) = false from a2, show (!dayOK hy) = false from a3, hz]; rfl) rfl)⟩))⟩
def HandY_pre (hb hs hd hq : ByteArray) (hy : Int) (n : Nat) (F : Value → List Hand) : Prop := hasG F (.string hb) = true ∧ (F (.string hb)).length ≤ 4000
noncomputable def HandY_val (hb hs hd hq : ByteArray) (hy : Int) (n : Nat) (F : Value → List Hand) : V := .kn (.int .i64 (hE (F (.string hb)) (⟨hb, hs, hd, hq, hy⟩ : Hand)))
noncomputable def HandY_objs (hb hs hd hq : ByteArray) (hy : Int) (n : Nat) (F : Value → List Hand) : List O := [.cells [.mp 1], .map .str false n [] (hasG (bif (hE (F (.string hb)) (⟨hb, hs, hd, hq, hy⟩ : Hand)) == 0 then putF (.string hb) (F (.string hb) ++ [(⟨hb, hs, hd, hq, hy⟩ : Hand)]) F else F)) getG (subG (bif (hE (F (.string hb)) (⟨hb, hs, hd, hq, hy⟩ : Hand)) == 0 then putF (.string hb) (F (.string hb) ++ [(⟨hb, hs, hd, hq, hy⟩ : Hand)]) F else F)) []]
theorem HandY_res (hb hs hd hq : ByteArray) (hy : Int) (n : Nat) (F : Value → List Hand) (good : Cfg → Prop) (R : V → List O → Prop) : arun Try.prog (conOf [(36, lift Gnames), (37, lift Gwhen)]) (2, []) good (RetS 2 [.ptr 0 0, .agg [.kn (.string hb), .kn (.string hs), .kn (.string hd), .kn (.string hq), .kn (.int .i64 hy)]] [(1, [0, 0])] (R)) 1500 (entryO Try.prog 22 [.ptr 0 0, .agg [.kn (.string hb), .kn (.string hs), .kn (.string hd), .kn (.string hq), .kn (.int .i64 hy)]] [.cells [.mp 1], .map .str false n [] (hasG F) getG (subG F) []]) =
    (bif hasG F (Value.string hb) then (eStr.okl (1 : Nat) (4 : Nat) (rowF [V.kn (Value.string hb), V.kn (Value.string hs), V.kn (Value.string hd), V.kn (Value.string hq)] (1 : Nat)) ∧ names_pre [eStr.ofV [V.kn (Value.string hb)], eStr.ofV [V.kn (Value.string hs)], eStr.ofV [V.kn (Value.string hd)], eStr.ofV [V.kn (Value.string hq)]]) ∧ bif !bP (∀ (x : ByteArray), x ∈ eStr.dl (4 : Nat) (rowF ((fun x => V.kn (Value.string hb) :: x) ((fun x => V.kn (Value.string hs) :: x) ((fun x => V.kn (Value.string hd) :: x) ((fun x => V.kn (Value.string hq) :: x) [])))) (sz Try.prog (9 : Nat))) → isName x = true) then R (V.kn (Value.int IntKind.i64 (1 : Int))) [O.cells [V.mp (1 : Nat)], O.map KK.str false n [(Value.string hb, some [V.sl (2 : Nat)])] (fun x => hasG F x) (fun x => [V.sl (0 : Nat)]) (fun x => [SO.row (41 : Nat) (5 : Nat) (F x).length (eHand.tl (F x))]) [], O.row (41 : Nat) (5 : Nat) (F (Value.string hb)).length (eHand.tl (F (Value.string hb))) true] else bif hs.toList == hd.toList then R (V.kn (Value.int IntKind.i64 (1 : Int))) [O.cells [V.mp (1 : Nat)], O.map KK.str false n [(Value.string hb, some [V.sl (2 : Nat)])] (fun x => hasG F x) (fun x => [V.sl (0 : Nat)]) (fun x => [SO.row (41 : Nat) (5 : Nat) (F x).length (eHand.tl (F x))]) [], O.row (41 : Nat) (5 : Nat) (F (Value.string hb)).length (eHand.tl (F (Value.string hb))) true] else when_pre hy ∧ bif !decide ((0 : Int) ≤ hy ∧ hy ≤ (1048576 : Int)) then R (V.kn (Value.int IntKind.i64 (3 : Int))) [O.cells [V.mp (1 : Nat)], O.map KK.str false n [(Value.string hb, some [V.sl (2 : Nat)])] (fun x => hasG F x) (fun x => [V.sl (0 : Nat)]) (fun x => [SO.row (41 : Nat) (5 : Nat) (F x).length (eHand.tl (F x))]) [], O.row (41 : Nat) (5 : Nat) (F (Value.string hb)).length (eHand.tl (F (Value.string hb))) true] else ((0 : Int) ≤ IntKind.i64.wrap ((↑(F (Value.string hb)).length : Int) - (1 : Int)) ∧ IntKind.i64.wrap ((↑(F (Value.string hb)).length : Int) - (1 : Int)) < (↑(F (Value.string hb)).length : Int)) ∧ (IntKind.i64.wrap ((↑(F (Value.string hb)).length : Int) - (1 : Int))).toNat < (F (Value.string hb)).length ∧ bif !((F (Value.string hb)).getD (IntKind.i64.wrap ((↑(F (Value.string hb)).length : Int) - (1 : Int))).toNat eHand.dflt).dst.toList == hs.toList then R (V.kn (Value.int IntKind.i64 (8 : Int))) [O.cells [V.mp (1 : Nat)], O.map KK.str false n [(Value.string hb, some [V.sl (2 : Nat)])] (fun x => hasG F x) (fun x => [V.sl (0 : Nat)]) (fun x => [SO.row (41 : Nat) (5 : Nat) (F x).length (eHand.tl (F x))]) [], O.row (41 : Nat) (5 : Nat) (F (Value.string hb)).length (eHand.tl (F (Value.string hb))) true] else bif decide (hy < ((F (Value.string hb)).getD (IntKind.i64.wrap ((↑(F (Value.string hb)).length : Int) - (1 : Int))).toNat eHand.dflt).day) then R (V.kn (Value.int IntKind.i64 (6 : Int))) [O.cells [V.mp (1 : Nat)], O.map KK.str false n [(Value.string hb, some [V.sl (2 : Nat)])] (fun x => hasG F x) (fun x => [V.sl (0 : Nat)]) (fun x => [SO.row (41 : Nat) (5 : Nat) (F x).length (eHand.tl (F x))]) [], O.row (41 : Nat) (5 : Nat) (F (Value.string hb)).length (eHand.tl (F (Value.string hb))) true] else bif decide ((↑(F (Value.string hb)).length : Int) ≥ (4096 : Int)) then R (V.kn (Value.int IntKind.i64 (7 : Int))) [O.cells [V.mp (1 : Nat)], O.map KK.str false n [(Value.string hb, some [V.sl (2 : Nat)])] (fun x => hasG F x) (fun x => [V.sl (0 : Nat)]) (fun x => [SO.row (41 : Nat) (5 : Nat) (F x).length (eHand.tl (F x))]) [], O.row (41 : Nat) (5 : Nat) (F (Value.string hb)).length (eHand.tl (F (Value.string hb))) true] else ((F (Value.string hb)).length + (1 : Nat) ≤ (9223372036854775807 : Nat) ∧ ((F (Value.string hb)).length + (1 : Nat)) * (72 : Nat) ≤ (140737488355328 : Nat)) ∧ R (V.kn (Value.int IntKind.i64 (0 : Int))) [O.cells [V.mp (1 : Nat)], O.map KK.str false (bif bif hb == hb then (some [V.sl (99 : Nat)]).isSome else hasG F (Value.string hb) then n else n + (1 : Nat)) [(Value.string hb, some [V.sl (2 : Nat)]), (Value.string hb, some [V.any])] (fun x => hasG F x) (fun x => [V.sl (0 : Nat)]) (fun x => [SO.row (41 : Nat) (5 : Nat) (F x).length (eHand.tl (F x))]) [], O.row (41 : Nat) (5 : Nat) ((F (Value.string hb)).length + (1 : Nat)) (catF (F (Value.string hb)).length (eHand.tl (F (Value.string hb))) (rowF [V.kn (Value.string hb), V.kn (Value.string hs), V.kn (Value.string hd), V.kn (Value.string hq), V.kn (Value.int IntKind.i64 hy)] (5 : Nat))) true] else (eStr.okl (1 : Nat) (4 : Nat) (rowF [V.kn (Value.string hb), V.kn (Value.string hs), V.kn (Value.string hd), V.kn (Value.string hq)] (1 : Nat)) ∧ names_pre [eStr.ofV [V.kn (Value.string hb)], eStr.ofV [V.kn (Value.string hs)], eStr.ofV [V.kn (Value.string hd)], eStr.ofV [V.kn (Value.string hq)]]) ∧ bif !bP (∀ (x : ByteArray), x ∈ eStr.dl (4 : Nat) (rowF ((fun x => V.kn (Value.string hb) :: x) ((fun x => V.kn (Value.string hs) :: x) ((fun x => V.kn (Value.string hd) :: x) ((fun x => V.kn (Value.string hq) :: x) [])))) (sz Try.prog (9 : Nat))) → isName x = true) then False else bif hs.toList == hd.toList then False else when_pre hy ∧ bif !decide ((0 : Int) ≤ hy ∧ hy ≤ (1048576 : Int)) then False else False) := by kernel_rfl
theorem HandY_ok (hb hs hd hq : ByteArray) (hy : Int) (n : Nat) (F : Value → List Hand) (hp : HandY_pre hb hs hd hq hy n F) (good : Cfg → Prop) (hstep : ∀ c, arun Try.prog (conOf [(36, lift Gnames), (37, lift Gwhen)]) (2, []) good (RetS 2 [.ptr 0 0, .agg [.kn (.string hb), .kn (.string hs), .kn (.string hd), .kn (.string hq), .kn (.int .i64 hy)]] [(1, [0, 0])] (TellsT 2 (HandY_val hb hs hd hq hy n F) (HandY_objs hb hs hd hq hy n F))) 1500 (c) → good c) (hext : ∀ c c', CfgExt c c' → good c' → good c) (hle : ∀ c c', CfgLe 2 c c' → good c' → good c) : arun Try.prog (conOf [(36, lift Gnames), (37, lift Gwhen)]) (2, []) good (RetS 2 [.ptr 0 0, .agg [.kn (.string hb), .kn (.string hs), .kn (.string hd), .kn (.string hq), .kn (.int .i64 hy)]] [(1, [0, 0])] (TellsT 2 (HandY_val hb hs hd hq hy n F) (HandY_objs hb hs hd hq hy n F))) 1500 (entryO Try.prog 22 [.ptr 0 0, .agg [.kn (.string hb), .kn (.string hs), .kn (.string hd), .kn (.string hq), .kn (.int .i64 hy)]] [.cells [.mp 1], .map .str false n [] (hasG F) getG (subG F) []]) := by
  rw [HandY_res]
  obtain ⟨hh, hl⟩ := hp
  have hmx : maxLen = 9223372036854775807 := rfl
  have hL : 0 < (F (.string hb)).length := of_decide_eq_true hh
  have ok := ok4 hb hs hd hq
  simp only [dl4, nm4]
  have leaf : ∀ e, hE (F (.string hb)) ⟨hb, hs, hd, hq, hy⟩ = e → (e == 0) = false → TellsT 2 (HandY_val hb hs hd hq hy n F) (HandY_objs hb hs hd hq hy n F) (.kn (.int .i64 e)) [.cells [.mp 1], .map .str false n [(.string hb, some [.sl 2])] (fun x => hasG F x) (fun x => [.sl 0]) (fun x => [.row 41 5 (F x).length (eHand.tl (F x))]) [], .row 41 5 (F (.string hb)).length (eHand.tl (F (.string hb))) true] := fun e h1 h2 => by
    subst h1
    simp only [HandY_val, HandY_objs, h2, cond_false]
    exact tell_put hL rfl (fun _ _ _ => rfl) (fun k => rfl) (eHand.is_tl _) rfl rfl
  have ew : IntKind.i64.wrap (((F (.string hb)).length : Int) - 1) = (((F (.string hb)).length - 1 : Nat) : Int) := by
    rw [wrap_in (by omega) (by omega)]; omega
  rw [ew, Int.toNat_natCast]
  have hbb : (hb == hb) = true := (Go.MapKept.bytes_beq _ _).2 rfl
  refine cond_true' hh ⟨⟨ok, trivial⟩, cond_intro (fun a1 => leaf 1 (hE_1 a1) rfl) (fun a1 => cond_intro (fun a2 => leaf 1 (by rw [hE_in a1, show (hs.toList == hd.toList) = true from a2]; rfl) rfl) (fun a2 => ⟨trivial, cond_intro (fun a3 => leaf 3 (by rw [hE_in a1, show (hs.toList == hd.toList) = false from a2, show (!dayOK hy) = true from a3]; rfl) rfl) (fun a3 => ?_)⟩))⟩
  have hin : hE (F (.string hb)) ⟨hb, hs, hd, hq, hy⟩ = bif !((lastH (F (.string hb))).dst.toList == hs.toList) then 8 else bif decide (hy < (lastH (F (.string hb))).day) then 6 else 0 := by
    rw [hE_in a1, show (hs.toList == hd.toList) = false from a2, show (!dayOK hy) = false from a3, show (decide (0 < (F (.string hb)).length)) = true from hh]; rfl
  refine ⟨⟨by omega, by omega⟩, by omega, cond_intro (fun g1 => leaf 8 (by rw [hin, show (!((lastH (F (.string hb))).dst.toList == hs.toList)) = true from g1]; rfl) rfl) (fun g1 => cond_intro (fun g2 => leaf 6 (by rw [hin, show (!((lastH (F (.string hb))).dst.toList == hs.toList)) = false from g1, show decide (hy < (lastH (F (.string hb))).day) = true from g2]; rfl) rfl) (fun g2 => cond_false' (decide_eq_false (by omega)) ⟨⟨by omega, by omega⟩, ?_⟩))⟩
  have h0 : hE (F (.string hb)) ⟨hb, hs, hd, hq, hy⟩ = 0 := by rw [hin, show (!((lastH (F (.string hb))).dst.toList == hs.toList)) = false from g1, show decide (hy < (lastH (F (.string hb))).day) = false from g2]; rfl
  rw [hbb]
  simp only [HandY_val, HandY_objs, h0, show ((0 : Int) == 0) = true from rfl, cond_true]
  refine tell_put (b := hb) (L := F (.string hb) ++ [⟨hb, hs, hd, hq, hy⟩]) (by simp) (putF_new _ _ _ rfl) (fun k hk hq => putF_old _ _ hq) (fun k => ?_) (eHand.is_app (eHand.is_tl _) (eHand.is_one _ rfl)) rfl rfl
  show (bif keq k _ then _ else bif keq k _ then _ else none) = _
  cases keq k (.string hb) <;> rfl

theorem vxr : ∀ l : List V, VExts l l
  | [] => trivial
  | v :: r => ⟨VExt.refl v, vxr r⟩
theorem decF_sub (F : Value → List Hand) : decF (subG F) = F := by
  funext x
  show eHand.dl _ _ = _
  exact eHand.dl_tl _
def mapOK (has : Value → Bool) (get : Value → List V) (sub : Value → List SO) : Prop := has = hasG (decF sub) ∧ get = getG ∧ sub = subG (decF sub)
theorem mapOK_G (F : Value → List Hand) : mapOK (hasG F) getG (subG F) := by unfold mapOK; rw [decF_sub]; exact ⟨rfl, rfl, rfl⟩
noncomputable def SBegin : SSpec
  | [.ptr 0 0, .kn (.string b), .kn (.string w), .kn (.string p), .kn (.int .i64 d)], [.cells [.mp 1], .map .str false n [] has get sub []] => .ret (mapOK has get sub ∧ n ≤ 4000) (BeginY_val b w p d n (decF sub)) (BeginY_objs b w p d n (decF sub))
  | _, _ => .none
theorem Begin_con : SpecOK Try.prog 21 (liftS [(0, []), (0, [0])] SBegin) := by
  refine liftS_ok (con_of_runS2 (con := conOf [(36, lift Gnames), (37, lift Gwhen)]) (hs := (2, [])) 1500 Try.func21 rfl (by kernel_rfl) (conCons names_con (conCons when_con conNil)) ?_)
  intro args0 os0
  unfold SBegin
  split
  case h_2 => trivial
  rename_i b w p d n has get sub
  rintro ⟨⟨h1, h2, h3⟩, hn⟩
  generalize decF sub = F at *
  subst h1 h2 h3
  by_cases h : hasG F (.string b) = true ∨ bE (F (.string b)) b w p d = 0
  · exact ⟨[(1, [0, 0])], _, _, vxr _, by simp [Try.ntmps21], rfl, Re.exts (OExts.refl _), fun good hstep hext hle => BeginY_ok b w p d n F ⟨h, hn⟩ good hstep hext hle⟩
  · have h0 : hasG F (.string b) = false := by cases hq : hasG F (.string b) with
      | true => exact (h (.inl hq)).elim
      | false => rfl
    exact ⟨[], _, _, vxr _, by simp [Try.ntmps21], rfl, Re.exts (OExts.refl _), fun good hstep hext hle => BeginN_ok b w p d n F ⟨h0, by simpa using fun e => h (.inr e), hn⟩ good hstep hext hle⟩
noncomputable def SHand : SSpec
  | [.ptr 0 0, .agg [.kn (.string hb), .kn (.string hs), .kn (.string hd), .kn (.string hq), .kn (.int .i64 hy)]], [.cells [.mp 1], .map .str false n [] has get sub []] => .ret (mapOK has get sub ∧ (decF sub (.string hb)).length ≤ 4000) (HandY_val hb hs hd hq hy n (decF sub)) (HandY_objs hb hs hd hq hy n (decF sub))
  | _, _ => .none
theorem Hand_con : SpecOK Try.prog 22 (liftS [(0, []), (0, [0])] SHand) := by
  refine liftS_ok (con_of_runS2 (con := conOf [(36, lift Gnames), (37, lift Gwhen)]) (hs := (2, [])) 1500 Try.func22 rfl (by kernel_rfl) (conCons names_con (conCons when_con conNil)) ?_)
  intro args0 os0
  unfold SHand
  split
  case h_2 => trivial
  rename_i hb hs hd hq hy n has get sub
  rintro ⟨⟨h1, h2, h3⟩, hn⟩
  generalize decF sub = F at *
  subst h1 h2 h3
  by_cases h : hasG F (.string hb) = true
  · exact ⟨[(1, [0, 0])], _, _, vxr _, by simp [Try.ntmps22], rfl, Re.exts (OExts.refl _), fun good hstep hext hle => HandY_ok hb hs hd hq hy n F ⟨h, hn⟩ good hstep hext hle⟩
  · exact ⟨[], _, _, vxr _, by simp [Try.ntmps22], rfl, Re.exts (OExts.refl _), fun good hstep hext hle => HandN_ok hb hs hd hq hy n F (show hasG F (.string hb) = false by simpa using h) good hstep hext hle⟩

end Go.Proofs.Ytgepkpajndlgeaa
