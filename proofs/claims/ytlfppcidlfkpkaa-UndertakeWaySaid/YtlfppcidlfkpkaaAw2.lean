/- What is proved: an executor over abstract configurations of the model, sound against the calls of any program; no condition. -/
import Derived.Test.YtlfppcidlfkpkaaAw1
import Derived.Scope
import Derived.ProofKit
import Derived.IntWalk
import Derived.RangeFuncLeaves
import Derived.RangeFuncBox
/-
  The executor is sound: what it shows of a configuration holds of each machine that the configuration describes.
-/
namespace Go.Aw
open Go Go.RowKit
set_option linter.unusedVariables false
set_option linter.unusedSimpArgs false

section
variable {P : Program}

theorem resV_run {base : Blk} {σ : Sig} {F : Fz} {c : Cfg} {w : World} {b : Frame} {a : Act} (g : Gm base σ F c.h w) (hf : Fr0 F σ c.fr b a) {r : ResultVar} {v : V} (hr : resV P c r = some v) :
    ∃ x, (match r with | .tmp t => pure (a.tmps.getD t undef) | .cell p t => do loadVar t (← asAddr (a.tmps.getD p undef)) : Sem Value).run P w = .ok x w ∧ RV F σ v x := by
  cases r with
  | tmp t =>
    simp only [resV, Option.some.injEq] at hr
    subst hr
    exact ⟨_, rfl, hf.tmps t⟩
  | cell p t =>
    simp only [resV] at hr
    have hp := hf.tmps p
    generalize hx : look c.fr.t p = q at hp hr
    generalize hy : a.tmps.getD p undef = y at hp
    cases q with
    | ptr l off =>
      cases hp with
      | ptr hs =>
        dsimp only at hr
        cases hO : getO c.h l with
        | cells cs =>
          simp only [hO] at hr
          obtain ⟨x, hx, hrv⟩ := ldAt_run (P := P) (w := w) hr (At.cells g hO hs)
          exact ⟨x, by simp only [Nat.zero_add] at hx; dsimp only; rw [hy]; simp [asAddr, hx], hrv⟩
        | _ => simp [hO] at hr
    | _ => simp at hr

theorem resAll_run {base : Blk} {σ : Sig} {F : Fz} {c : Cfg} {w : World} {b : Frame} {a : Act} (g : Gm base σ F c.h w) (hf : Fr0 F σ c.fr b a) {fn : Func} {v : V} (hr : resAll P c fn.results.toList = some v) :
    ∃ x, (results fn a.tmps).run P w = .ok x w ∧ RV F σ v x := by
  have key : ∀ (rs : List ResultVar) (vs : List V), allSome (rs.map (resV P c)) = some vs → ∃ xs : List Value, (rs.mapM fun r => (match r with | .tmp t => pure (a.tmps.getD t undef) | .cell p t => do loadVar t (← asAddr (a.tmps.getD p undef)) : Sem Value)).run P w = .ok xs w ∧ vs.length = xs.length ∧ ∀ (i : Nat) (v : V), vs[i]? = some v → RV F σ v (xs.getD i undef) := by
    intro rs
    induction rs with
    | nil => intro vs e; simp [allSome] at e; subst e; exact ⟨[], by simp, rfl, by simp⟩
    | cons r rs ih =>
      intro vs e
      cases hv : resV P c r with
      | none => simp [hv, allSome] at e
      | some v =>
        simp only [List.map_cons, hv, allSome, Option.map_eq_some_iff] at e
        obtain ⟨us, hu, rfl⟩ := e
        obtain ⟨xs, h1, h2, h3⟩ := ih us hu
        obtain ⟨x, h4, h5⟩ := resV_run g hf hv
        refine ⟨x :: xs, ?_, by simp [h2], fun i v hv => ?_⟩
        · simp only [List.mapM_cons, Sem.run_bind, h4, h1, Result.andThen_ok, Sem.run_pure]
        · cases i with
          | zero => simp at hv; subst hv; simpa using h5
          | succ i => simpa using h3 i v (by simpa using hv)
  unfold resAll at hr
  simp only [Option.map_eq_some_iff] at hr
  obtain ⟨vs, hvs, hv⟩ := hr
  obtain ⟨xs, h1, h2, h3⟩ := key _ vs hvs
  have hrun : (results fn a.tmps).run P w = .ok (if h : xs.toArray.size = 1 then xs.toArray[0] else .tuple xs.toArray) w := by
    unfold results
    rw [Sem.run_bind, Array.mapM_eq_mapM_toList, Sem.run_map]
    erw [h1]
    rfl
  rw [hrun]
  refine ⟨_, rfl, ?_⟩
  match vs, h2, h3, hv with
  | [u], h2, h3, hv =>
    subst hv
    have hl : xs.toArray.size = 1 := by simpa using h2.symm
    rw [dif_pos hl]
    have := h3 0 u rfl
    have hl' : 0 < xs.length := by rw [← h2]; simp
    simpa [List.getD, hl'] using this
  | [], h2, h3, hv =>
    subst hv
    have hl : ¬ xs.toArray.size = 1 := by simp [← h2]
    rw [dif_neg hl]
    exact .tup (by simpa using h2) fun i v e => by simp at e
  | u :: u2 :: us, h2, h3, hv =>
    subst hv
    have hl : ¬ xs.toArray.size = 1 := by simp [← h2]
    rw [dif_neg hl]
    refine .tup (by simpa using h2) fun i v e => ?_
    have := h3 i v e
    simpa [Array.getD_eq_getD_getElem?, List.getD] using this

theorem look_keep {F : Fz} {σ : Sig} {m : List Nat} {t : Tm} {a : Act} (ht : ∀ d, RV F σ (look t d) (a.tmps.getD d undef)) : ∀ (ks : List Nat) (d : Nat),
    RV F (cut m σ) (look (ks.map fun d => (d, V.forget m (look t d))) d) (a.tmps.getD d undef)
  | [], d => .any
  | k :: ks, d => by
    show RV F (cut m σ) (bif Nat.beq k d then V.forget m (look t k) else look (ks.map fun d => (d, V.forget m (look t d))) d) _
    cases hb : Nat.beq k d with
    | true => have := Nat.eq_of_beq_eq_true hb; subst this; exact forget_rv (ht k)
    | false => exact look_keep ht ks d

theorem look_forget (m : List Nat) : ∀ (t : Tm) (d : Nat), look (t.map fun (d, v) => (d, V.forget m v)) d = V.forget m (look t d)
  | [], d => rfl
  | (k, v) :: r, d => by
    show (bif Nat.beq k d then V.forget m v else look (r.map fun (d, v) => (d, V.forget m v)) d) = V.forget m (bif Nat.beq k d then v else look r d)
    cases Nat.beq k d
    · exact look_forget m r d
    · rfl

theorem FrsR.forget {F : Fz} {σ : Sig} (m : List Nat) : ∀ {fs : List Fr} {cs : List Frame}, FrsR F σ fs cs → FrsR F (cut m σ) (fs.map fun f => ⟨f.fn, f.nt, f.t.map fun (d, v) => (d, V.forget m v), f.k⟩) cs
  | [], [], _ => trivial
  | f :: fs, c :: cs, ⟨⟨b, a, e, h⟩, r⟩ => ⟨⟨b, a, e, h.fn, h.kind, h.defers, h.size, fun d => by rw [look_forget]; exact forget_rv (h.tmps d)⟩, r.forget m⟩
  | [], _ :: _, h => h.elim
  | _ :: _, [], h => h.elim

theorem botFn_map (g : Fr → Fr) (hg : ∀ f, (g f).fn = f.fn) : ∀ (fs : List Fr) (fr fr' : Fr), fr'.fn = fr.fn → botFn fr' (fs.map g) = botFn fr fs
  | [], fr, fr', e => e
  | f :: fs, fr, fr', e => botFn_map g hg fs f (g f) (hg f)

variable {base : Blk} {w0 : World} {F0 : Fz} {pin : Pin} {f0 : FuncId} {ret : V → List O → Prop}

theorem norm_good {ks m : List Nat} {c : Cfg} (hm : nodupB m = true) (hq : ∀ j, j < pin.1 → m[j]? = some j) (h : Good P base w0 F0 pin f0 ret (norm ks m c)) : Good P base w0 F0 pin f0 ret c := by
  unfold norm at h
  intro hb σ F w b a fs cs0 g hF hw hf hfs hpn
  refine h ?_ (cut m σ) F w b a fs cs0 (g.forget hm) hF hw ⟨hf.fn, hf.kind, hf.defers, hf.size, look_keep hf.tmps ks⟩ (hfs.forget m) (fun j hj y e => by simp [cut, hq j hj, hpn j hj y e])
  rw [← hb]
  exact botFn_map (fun f => ⟨f.fn, f.nt, f.t.map fun (d, v) => (d, V.forget m v), f.k⟩) (fun _ => rfl) c.cs c.fr ⟨c.fr.fn, c.fr.nt, ks.map fun d => (d, V.forget m (look c.fr.t d)), c.fr.k⟩ rfl

/-- One move of the machine, nothing else. -/
theorem good_move {c : Cfg} {k : List Item} (h : Good P base w0 F0 pin f0 ret (c.at k)) (hs : ∀ (b : Frame) (a : Act) (cs : List Frame) (w : World), Go.step P (lone (b.at a c.fr.k) cs w) = .next (lone (b.at a k) cs w)) : Good P base w0 F0 pin f0 ret c := by
  intro hb σ F w b a fs cs0 g hF hw hf hfs hpn
  have hb' : botFn (c.at k).fr (c.at k).cs = f0 := by rw [← hb]; exact (by cases c.cs <;> rfl : botFn (c.at k).fr c.cs = botFn c.fr c.cs)
  obtain ⟨x, w', frl, h1, h2, h3⟩ := h hb' σ F w b a fs cs0 g hF hw ⟨hf.fn, hf.kind, hf.defers, hf.size, hf.tmps⟩ hfs hpn
  exact ⟨x, w', frl, h1, .head (hs b a _ w) h2, h3⟩

theorem point_good {hs : Hints} (hq : hs.1 = pin.1) {good ih : Cfg → Prop} (hgood : ∀ c, good c → Good P base w0 F0 pin f0 ret c) (hih : ∀ c, ih c → Good P base w0 F0 pin f0 ret c) {c : Cfg} {key : Option Nat} (h : stepLoop hs good ih key c) : Good P base w0 F0 pin f0 ret c := by
  unfold stepLoop at h
  split at h
  · exact hih _ h
  · rename_i ks m _
    cases hn : nodupB (keepAll hs.1 c m) with
    | false => rw [hn] at h; exact h.elim
    | true => rw [hn] at h; exact norm_good hn (fun j hj => by unfold keepAll; rw [List.getElem?_append_left (by simpa using (by omega : j < hs.1)), List.getElem?_range (by omega)]) (hgood _ h)

theorem loop_good {hs : Hints} (hq : hs.1 = pin.1) {good ih : Cfg → Prop} (hgood : ∀ c, good c → Good P base w0 F0 pin f0 ret c) (hih : ∀ c, ih c → Good P base w0 F0 pin f0 ret c) {c : Cfg} {b : Code} {k : List Item} (hk : c.fr.k = .code (.loop b) :: k ∨ c.fr.k = .inLoop b :: k) (h : stepLoop hs good ih (firstReg b) (c.at (.code b :: .inLoop b :: k))) : Good P base w0 F0 pin f0 ret c := by
  have h' := point_good hq hgood hih h
  refine good_move h' fun bb a cs w => ?_
  rcases hk with hk | hk <;> rw [hk]
  · exact step_loop
  · exact step_inLoop

theorem ret_good {ih : Cfg → Prop} (hih : ∀ c, ih c → Good P base w0 F0 pin f0 ret c) {c : Cfg} (h : stepRet P ret ih c) (hk : c.fr.k = [] ∨ ∃ k, c.fr.k = .code .ret :: k) : Good P base w0 F0 pin f0 ret c := by
  intro hb σ F w b a fs cs0 g hF hw hf hfs hpn
  unfold stepRet at h
  cases hfn : P.funcs[c.fr.fn]? with
  | none => simp [hfn] at h
  | some fn =>
    simp only [hfn] at h
    cases hr : resAll P c fn.results.toList with
    | none => simp [hr] at h
    | some v =>
      simp only [hr] at h
      obtain ⟨x, hx, hrv⟩ := resAll_run (P := P) g hf hr
      obtain ⟨fr1, hst, hlv, hfr1⟩ : ∃ fr1 : Frame, (∀ cs, Go.step P (lone (b.at a c.fr.k) cs w) = .next (lone fr1 cs w)) ∧ fr1.leaving P w (.returned x) ∧ fr1.fn = b.fn := by
        rcases hk with hk | ⟨k, hk⟩
        · exact ⟨{ b.at a [] with mode := .returning }, fun cs => by rw [hk]; exact step_end, ⟨rfl, hf.defers, hf.kind, fn, by show P.funcs[b.fn]? = _; rw [hf.fn]; exact hfn, hx⟩, rfl⟩
        · exact ⟨{ b.at a (.code .ret :: k) with mode := .returning }, fun cs => by rw [hk]; exact step_ret, ⟨rfl, hf.defers, hf.kind, fn, by show P.funcs[b.fn]? = _; rw [hf.fn]; exact hfn, hx⟩, rfl⟩
      cases hcs : c.cs with
      | nil =>
        simp only [hcs] at h
        rw [hcs] at hfs hb
        cases fs with
        | nil => exact ⟨x, w, fr1, ⟨v, c.h, σ, F, h, g, hrv, hF, hw, hpn⟩, .one (hst _), by rw [hfr1, hf.fn]; exact hb, hlv⟩
        | cons _ _ => exact hfs.elim
      | cons fr cs =>
        simp only [hcs] at h
        rw [hcs] at hfs hb
        cases fs with
        | nil => exact hfs.elim
        | cons c1 fs =>
          obtain ⟨⟨b1, a1, rfl, hf1⟩, hfs'⟩ := hfs
          split at h
          · rename_i ops i rest k hk1
            cases ho : ops[i]? with
            | none => simp [ho] at h
            | some o =>
              simp only [ho] at h
              cases hp : putD fr.t fr.nt o.dst v with
              | none => simp [hp] at h
              | some t =>
                simp only [hp] at h
                have hput := put_ok hp hf1.size hf1.tmps hrv
                have hg2 := hih _ h (by rw [← hb]; cases cs <;> rfl) σ F w b1 (a1.put o.dst x) fs cs0 g hF hw
                  ⟨hf1.fn, hf1.kind, by rw [put_defers]; exact hf1.defers, hput.1, hput.2⟩ hfs' hpn
                obtain ⟨x', w', frl, h1, h2, h3⟩ := hg2
                refine ⟨x', w', frl, h1, .head (hst _) (.head (step_leave_returned hlv) ?_), h3⟩
                rw [hk1, Frame.finish_at, ho]
                exact h2
          · exact h.elim

theorem args2_look {F : Fz} {σ : Sig} : ∀ (vs : List V) (xs : List Value) (j : Nat) (_ : vs.length = xs.length) (_ : ∀ (i : Nat) (v : V), vs[i]? = some v → RV F σ v (xs.getD i undef)) (d : Nat),
    look (args2 j vs) d = .any ∨ ∃ i v, d = j + i ∧ vs[i]? = some v ∧ look (args2 j vs) d = v
  | [], xs, j, _, _, d => .inl rfl
  | v :: vs, xs, j, hl, hr, d => by
    show look ((j, v) :: args2 (j + 1) vs) d = .any ∨ _
    cases hb : Nat.beq j d with
    | true =>
      have := Nat.eq_of_beq_eq_true hb
      subst this
      exact .inr ⟨0, v, rfl, rfl, by show (bif Nat.beq j j then v else _) = v; rw [hb]; rfl⟩
    | false =>
      have e : look ((j, v) :: args2 (j + 1) vs) d = look (args2 (j + 1) vs) d := by show (bif Nat.beq j d then v else _) = _; rw [hb]; rfl
      cases xs with
      | nil => simp at hl
      | cons x xs =>
        rcases args2_look vs xs (j + 1) (by simpa using hl) (fun i u hu => by simpa using hr (i + 1) u (by simpa using hu)) d with h | ⟨i, u, h1, h2, h3⟩
        · exact .inl (by rw [e]; exact h)
        · exact .inr ⟨i + 1, u, by omega, by simpa using h2, by show look ((j, v) :: args2 (j + 1) vs) d = u; rw [e]; exact h3⟩

theorem enter_fr {F : Fz} {σ : Sig} {f : FuncId} {fn : Func} {c : Code} {args : List V} {xs : Array Value} (hf : P.funcs[f]? = some fn) (hb : fn.body = some c) (hrv : RVs F σ args xs) (hle : args.length ≤ fn.ntmps) :
    ∃ b a, Frame.enter P f xs .normal = b.at a [.code c] ∧ Fr0 F σ ⟨f, fn.ntmps, args2 0 args, [.code c]⟩ b a := by
  refine ⟨{ (default : Frame) with fn := f, kind := .normal }, { tmps := xs ++ Array.replicate (fn.ntmps - xs.size) undef, defers := [] }, by simp [Frame.enter, Frame.at, hf, hb], rfl, rfl, rfl, ?_, fun d => ?_⟩
  · have := hrv.1
    simp; omega
  · rcases args2_look args xs.toList 0 (by simpa using hrv.1) (fun i v hv => by
      have := hrv.2 i v hv
      have hi : i < xs.size := by rw [← hrv.1]; exact (List.getElem?_eq_some_iff.1 hv).1
      simpa [Array.getD_eq_getD_getElem?, List.getD, hi] using this) d with h | ⟨i, v, h1, h2, h3⟩
    · show RV F σ (look (args2 0 args) d) _
      rw [h]; exact .any
    · show RV F σ (look (args2 0 args) d) _
      rw [h3]
      have hr := hrv.2 i v h2
      have hi : i < xs.size := by rw [← hrv.1]; exact (List.getElem?_eq_some_iff.1 h2).1
      have : d = i := by omega
      subst this
      have e : (xs ++ Array.replicate (fn.ntmps - xs.size) undef).getD d undef = xs.getD d undef := by
        simp only [Array.getD_eq_getD_getElem?]
        rw [Array.getElem?_append_left hi]
      show RV F σ v ((xs ++ Array.replicate (fn.ntmps - xs.size) undef).getD d undef)
      rw [e]; exact hr

theorem op_good {con : FuncId → Option Spec} {ih : Cfg → Prop} (hcon : ∀ f s, con f = some s → SpecOK P f s) (hb0 : Und base w0.heap.size) (hih : ∀ c, ih c → Good P base w0 F0 pin f0 ret c) {c : Cfg} {ops : Array Oper} {i : Nat} {rest : List Nat} {k : List Item} {o : Oper}
    (ho : ops[i]? = some o) (hk : c.fr.k = .inRegion ops (i :: rest) :: k) (h : stepOp P con ih c o (.inRegion ops rest :: k))
    (hb : botFn c.fr c.cs = f0) {σ : Sig} {F : Fz} {w : World} {b : Frame} {a : Act} {fs cs0 : List Frame} (g : Gm base σ F c.h w) (hF : FExt base F0 F) (hw : Kp base w0 w) (hf : Fr0 F σ c.fr b a) (hfs : FrsR F σ c.cs fs) (hpn : Pn pin σ)
    (hwant : Region.wanted o (yielded ops a.tmps) = true) :
    ∃ x w' frl, Post base w0 F0 pin ret x w' ∧ Steps P (lone (b.at a c.fr.k) (fs ++ cs0) w) (lone frl cs0 w') ∧ frl.fn = f0 ∧ frl.leaving P w' (.returned x) := by
  have hbase : Und base w.heap.size := hb0.mono hw.size
  have hhole : ∀ i, i < 16 → getO c.h (c.h.length + i) = .hole := fun i _ => getO_ge (by omega)
  have hS := op_sound (a := a) (con := con) (ρ := ev c.fr.t) g hbase hhole hcon (ev_rel hf.tmps) o
  have fin : ∀ {v : V} {u : List (Nat × O)} {t : Tm}, putD c.fr.t c.fr.nt o.dst v = some t → Fin P o a w (Aft base σ F w v (ups u c.h)) → ih ⟨⟨c.fr.fn, c.fr.nt, t, .inRegion ops rest :: k⟩, c.cs, ups u c.h⟩ →
      ∃ x w' frl, Post base w0 F0 pin ret x w' ∧ Steps P (lone (b.at a c.fr.k) (fs ++ cs0) w) (lone frl cs0 w') ∧ frl.fn = f0 ∧ frl.leaving P w' (.returned x) := by
    intro v u t hp hfin hi
    obtain ⟨x, w', ⟨σ', F', g', hrv, hS', hF', hB'⟩, hsteps⟩ := fin_steps (rest := rest) ho hwant hfin b k (fs ++ cs0)
    have hput := put_ok hp hf.size (fun d => (hf.tmps d).mono hF'.1 hS') hrv
    obtain ⟨x', w'', frl, h1, h2, h3⟩ := hih _ hi (by rw [← hb]; cases c.cs <;> rfl) σ' F' w' b (a.put o.dst x) fs cs0 g' (hF.trans hF') (hw.trans hB')
      ⟨hf.fn, hf.kind, by rw [put_defers]; exact hf.defers, hput.1, hput.2⟩ (hfs.mono hF'.1 hS') (hpn.mono hS')
    exact ⟨x', w'', frl, h1, by rw [hk]; exact hsteps.trans h2, h3⟩
  unfold stepOp at h
  generalize opDo P con c.h.length (ev c.fr.t) (getO c.h) o = d at h hS
  induction d with
  | val v u =>
    replace h : (match putD c.fr.t c.fr.nt o.dst v with | some t => ih ⟨⟨c.fr.fn, c.fr.nt, t, .inRegion ops rest :: k⟩, c.cs, ups u c.h⟩ | none => False) := h
    cases hp : putD c.fr.t c.fr.nt o.dst v with
    | none => rw [hp] at h; exact h.elim
    | some t => rw [hp] at h; exact fin hp hS h
  | req p v u =>
    replace h : p ∧ (match putD c.fr.t c.fr.nt o.dst v with | some t => ih ⟨⟨c.fr.fn, c.fr.nt, t, .inRegion ops rest :: k⟩, c.cs, ups u c.h⟩ | none => False) := h
    cases hp : putD c.fr.t c.fr.nt o.dst v with
    | none => rw [hp] at h; exact h.2.elim
    | some t => rw [hp] at h; exact fin hp (hS h.1) h.2
  | bad => exact h.elim
  | fork bb d e ihd ihe =>
    cases bb with
    | true => exact ihd h hS
    | false => exact ihe h hS
  | eachS p d e ihd ihe =>
    rcases hS with ⟨s, hs, hS⟩ | ⟨hs, hS⟩
    · exact ihd s (h.1 s hs) hS
    · exact ihe (h.2 hs) hS
  | eachI p d e ihd ihe =>
    rcases hS with ⟨s, hs, hS⟩ | ⟨hs, hS⟩
    · exact ihd s (h.1 s hs) hS
    · exact ihe (h.2 hs) hS
  | eachB p d ihd =>
    obtain ⟨s, hs, hS⟩ := hS
    exact ihd s (h s hs) hS
  | enter f args =>
    replace h : (match P.funcs[f]? with
      | some fn => match fn.body with
        | some b => bif Nat.ble args.length fn.ntmps && !(fn.name == "runtime.NumGoroutine") then ih ⟨⟨f, fn.ntmps, args2 0 args, [.code b]⟩, c.fr :: c.cs, c.h⟩ else False
        | none => False
      | none => False) := h
    cases hfn : P.funcs[f]? with
    | none => simp [hfn] at h
    | some fn =>
      simp only [hfn] at h
      cases hbody : fn.body with
      | none => simp [hbody] at h
      | some code =>
        simp only [hbody] at h
        cases hcond : (Nat.ble args.length fn.ntmps && !(fn.name == "runtime.NumGoroutine")) with
        | false => simp [hcond] at h
        | true =>
          rw [hcond] at h
          simp only [cond_true] at h
          simp only [Bool.and_eq_true, Bool.not_eq_true'] at hcond
          obtain ⟨xs, hrun, hrv⟩ := hS ⟨fn, code, hfn, hbody, hcond.2⟩
          obtain ⟨b', a', he, hf'⟩ := enter_fr (P := P) hfn hbody hrv (Nat.le_of_ble_eq_true hcond.1)
          have hg := stepG_op (P := P) (b := b) (k := k) (cs := fs ++ cs0) (w := w) (rest := rest) ho hwant
          have henter : Go.step P (lone (b.at a c.fr.k) (fs ++ cs0) w) = .next (lone (b'.at a' [.code code]) (b.at a c.fr.k :: (fs ++ cs0)) w) := by
            rw [← he, hk]
            exact step_lone_go (by rw [hg]; simp [stepG.apply, hrun, Frame.at])
          obtain ⟨x', w'', frl, h1, h2, h3⟩ := hih _ h (by rw [← hb]; cases c.cs <;> rfl) σ F w b' a' (b.at a c.fr.k :: fs) cs0 g hF hw hf' ⟨⟨b, a, rfl, hf⟩, hfs⟩ hpn
          exact ⟨x', w'', frl, h1, .head henter h2, h3⟩

theorem skip_good {ih : Cfg → Prop} (hih : ∀ c, ih c → Good P base w0 F0 pin f0 ret c) {c : Cfg} {ops : Array Oper} {i : Nat} {rest : List Nat} {k : List Item} {o : Oper}
    (ho : ops[i]? = some o) (hk : c.fr.k = .inRegion ops (i :: rest) :: k) (h : stepSkip ih c o (.inRegion ops rest :: k))
    (hb : botFn c.fr c.cs = f0) {σ : Sig} {F : Fz} {w : World} {b : Frame} {a : Act} {fs cs0 : List Frame} (g : Gm base σ F c.h w) (hF : FExt base F0 F) (hw : Kp base w0 w) (hf : Fr0 F σ c.fr b a) (hfs : FrsR F σ c.cs fs) (hpn : Pn pin σ)
    (hwant : Region.wanted o (yielded ops a.tmps) = false) :
    ∃ x w' frl, Post base w0 F0 pin ret x w' ∧ Steps P (lone (b.at a c.fr.k) (fs ++ cs0) w) (lone frl cs0 w') ∧ frl.fn = f0 ∧ frl.leaving P w' (.returned x) := by
  unfold stepSkip at h
  cases hp : putD c.fr.t c.fr.nt o.dst (.kn undef) with
  | none => simp [hp] at h
  | some t =>
    simp only [hp] at h
    have hput := put_ok (x := undef) hp hf.size hf.tmps .kn
    obtain ⟨x', w'', frl, h1, h2, h3⟩ := hih _ h (by rw [← hb]; cases c.cs <;> rfl) σ F w b (a.put o.dst undef) fs cs0 g hF hw
      ⟨hf.fn, hf.kind, by rw [put_defers]; exact hf.defers, hput.1, hput.2⟩ hfs hpn
    refine ⟨x', w'', frl, h1, .head ?_ h2, h3⟩
    rw [hk]
    have := step_op_skip (P := P) (b := b) (a := a) (k := k) (cs := fs ++ cs0) (w := w) (ops := ops) (i := i) (rest := rest) (by simp [ho, hwant])
    rw [ho] at this
    exact this

theorem setT_fr {F : Fz} {σ : Sig} {c : Cfg} {b : Frame} {a : Act} {d : Nat} {v : V} (hf : Fr0 F σ c.fr b a) (hv : RV F σ v (a.tmps.getD d undef)) : Fr0 F σ (setT c d v).fr b a := by
  refine ⟨hf.fn, hf.kind, hf.defers, hf.size, fun d' => ?_⟩
  show RV F σ (bif Nat.beq d d' then v else look c.fr.t d') _
  cases hb : Nat.beq d d' with
  | true => have := Nat.eq_of_beq_eq_true hb; subst this; exact hv
  | false => exact hf.tmps d'

theorem guard_good {con : FuncId → Option Spec} {ih : Cfg → Prop} (hcon : ∀ f s, con f = some s → SpecOK P f s) (hb0 : Und base w0.heap.size) (hih : ∀ c, ih c → Good P base w0 F0 pin f0 ret c) {c : Cfg} {ops : Array Oper} {i : Nat} {rest : List Nat} {k : List Item} {o : Oper}
    (ho : ops[i]? = some o) (hk : c.fr.k = .inRegion ops (i :: rest) :: k) (h : stepGuard P con ih c ops o (.inRegion ops rest :: k)) : Good P base w0 F0 pin f0 ret c := by
  intro hb σ F w b a fs cs0 g hF hw hf hfs hpn
  unfold stepGuard at h
  cases hgd : o.guard with
  | none =>
    simp only [hgd] at h
    exact op_good hcon hb0 hih ho hk h hb g hF hw hf hfs hpn (by simp [Region.wanted, hgd])
  | some jw =>
    obtain ⟨j, want⟩ := jw
    simp only [hgd] at h
    cases hd : (ops[j]?).bind (·.dst) with
    | none => simp [hd] at h
    | some d =>
      simp only [hd] at h
      split at h
      · rename_i t hl
        have hrv := hf.tmps d
        rw [hl] at hrv
        generalize hx : a.tmps.getD d undef = x at hrv
        cases hrv
        have hy : yielded ops a.tmps j = some t := by
          have : a.tmps[d]? = some (.bool t) := by
            rw [Array.getD_eq_getD_getElem?] at hx
            cases hq : a.tmps[d]? with
            | none => simp [hq, undef] at hx
            | some q => simpa [hq] using hx
          simp [yielded, hd, this]
        have hwant : Region.wanted o (yielded ops a.tmps) = (t == want) := by simp [Region.wanted, hgd, hy]
        have hset : ∀ {u : Bool}, u = t → Fr0 F σ (setT c d (.kn (.bool u))).fr b a := fun e => setT_fr hf (by rw [hx, e]; exact .kn)
        have hb' : ∀ {u : Bool}, botFn (setT c d (.kn (.bool u))).fr (setT c d (.kn (.bool u))).cs = f0 := by intro u; rw [← hb]; simp only [setT]; cases c.cs <;> rfl
        cases t with
        | true =>
          cases want with
          | true => exact op_good (c := setT c d (.kn (.bool true))) hcon hb0 hih ho hk h hb' g hF hw (hset rfl) hfs hpn (by rw [hwant]; rfl)
          | false => exact skip_good (c := setT c d (.kn (.bool true))) hih ho hk h hb' g hF hw (hset rfl) hfs hpn (by rw [hwant]; rfl)
        | false =>
          cases want with
          | true => exact skip_good (c := setT c d (.kn (.bool false))) hih ho hk h hb' g hF hw (hset rfl) hfs hpn (by rw [hwant]; rfl)
          | false => exact op_good (c := setT c d (.kn (.bool false))) hcon hb0 hih ho hk h hb' g hF hw (hset rfl) hfs hpn (by rw [hwant]; rfl)
      · rename_i t hl
        have hrv := hf.tmps d
        rw [hl] at hrv
        generalize hx : a.tmps.getD d undef = x at hrv
        cases hrv
        have hy : yielded ops a.tmps j = none := by
          rw [Array.getD_eq_getD_getElem?] at hx
          cases hq : a.tmps[d]? with
          | none => simp [yielded, hd, hq]
          | some q => simp only [hq, Option.getD_some] at hx; subst hx; simp [yielded, hd, hq]
        exact skip_good hih ho hk h hb g hF hw hf hfs hpn (by simp [Region.wanted, hgd, hy])
      · exact h.elim

theorem tail_good {ih : Cfg → Prop} (hb0 : Und base w0.heap.size) (hih : ∀ c, ih c → Good P base w0 F0 pin f0 ret c) {c : Cfg} {v : V} {u : List (Nat × O)} (ht : TailOK P c.fr c.h v u) (h : stepRetV ret ih c.cs v (ups u c.h)) : Good P base w0 F0 pin f0 ret c := by
  intro hb σ F w b a fs cs0 g hF hw hf hfs hpn
  obtain ⟨x, w1, fr1, ⟨σ1, F1, g1, hrv, hS, hF1, hk1⟩, hst, hfr1, hlv⟩ := ht.run base σ F w b a g (hb0.mono hw.size) hf (fs ++ cs0)
  unfold stepRetV at h
  cases hcs : c.cs with
  | nil =>
    simp only [hcs] at h
    rw [hcs] at hfs hb
    cases fs with
    | nil => exact ⟨x, w1, fr1, ⟨v, _, σ1, F1, h, g1, hrv, hF.trans hF1, hw.trans hk1, hpn.mono hS⟩, hst, by rw [hfr1]; exact hb, hlv⟩
    | cons _ _ => exact hfs.elim
  | cons fr cs =>
    simp only [hcs] at h
    rw [hcs] at hfs hb
    cases fs with
    | nil => exact hfs.elim
    | cons c1 fs =>
      obtain ⟨⟨b1, a1, rfl, hf1⟩, hfs'⟩ := hfs
      split at h
      · rename_i ops i rest k hk1'
        cases ho : ops[i]? with
        | none => simp [ho] at h
        | some o =>
          simp only [ho] at h
          cases hp : putD fr.t fr.nt o.dst v with
          | none => simp [hp] at h
          | some t =>
            simp only [hp] at h
            have hput := put_ok hp hf1.size (fun d => (hf1.tmps d).mono hF1.1 hS) hrv
            have hg2 := hih _ h (by rw [← hb]; cases cs <;> rfl) σ1 F1 w1 b1 (a1.put o.dst x) fs cs0 g1 (hF.trans hF1) (hw.trans hk1)
              ⟨hf1.fn, hf1.kind, by rw [put_defers]; exact hf1.defers, hput.1, hput.2⟩ (hfs'.mono hF1.1 hS) (hpn.mono hS)
            obtain ⟨x', w', frl, h1, h2, h3⟩ := hg2
            refine ⟨x', w', frl, h1, hst.trans (.head (step_leave_returned hlv) ?_), h3⟩
            rw [hk1', Frame.finish_at, ho]
            exact h2
      · exact h.elim

theorem step_good {con : FuncId → Option Spec} {hs : Hints} (hq : hs.1 = pin.1) {good ih : Cfg → Prop} (hcon : ∀ f s, con f = some s → SpecOK P f s) (hb0 : Und base w0.heap.size) (hgood : ∀ c, good c → Good P base w0 F0 pin f0 ret c) (hih : ∀ c, ih c → Good P base w0 F0 pin f0 ret c)
    {c : Cfg} (h : astep P con hs good ret ih c) : Good P base w0 F0 pin f0 ret c := by
  unfold astep at h
  split at h
  · rename_i hk; exact ret_good hih h (.inl hk)
  · rename_i k hk; exact good_move (hih _ h) fun b a cs w => by rw [hk]; exact step_skip
  · rename_i x y k hk; exact good_move (hih _ h) fun b a cs w => by rw [hk]; exact step_seq
  · rename_i x y z k hk
    split at h
    · rename_i t ht
      intro hb σ F w b a fs cs0 g hF hw hf hfs hpn
      have hx : a.eval x = .bool t := by
        have := ev_rel hf.tmps x
        rw [ht] at this
        generalize a.eval x = q at this
        cases this
        rfl
      have hbot : ∀ k', botFn (c.at k').fr (c.at k').cs = f0 := fun k' => by rw [← hb]; show botFn _ c.cs = _; cases c.cs <;> rfl
      cases t with
      | true =>
        obtain ⟨x', w', frl, h1, h2, h3⟩ := hih _ h (hbot _) σ F w b a fs cs0 g hF hw ⟨hf.fn, hf.kind, hf.defers, hf.size, hf.tmps⟩ hfs hpn
        exact ⟨x', w', frl, h1, .head (by rw [hk]; exact step_cond hx) h2, h3⟩
      | false =>
        obtain ⟨x', w', frl, h1, h2, h3⟩ := hih _ h (hbot _) σ F w b a fs cs0 g hF hw ⟨hf.fn, hf.kind, hf.defers, hf.size, hf.tmps⟩ hfs hpn
        exact ⟨x', w', frl, h1, .head (by rw [hk]; exact step_cond hx) h2, h3⟩
    · exact h.elim
  · rename_i id x k hk; exact good_move (hih _ h) fun b a cs w => by rw [hk]; exact step_block
  · rename_i x k hk; exact loop_good hq hgood hih (.inl hk) h
  · rename_i x k hk; exact loop_good hq hgood hih (.inr hk) h
  · rename_i id k hk
    split at h
    · rename_i k' hk'; exact good_move (hih _ h) fun b a cs w => by rw [hk]; exact step_exit hk'
    · exact h.elim
  · rename_i k hk; exact ret_good hih h (.inr ⟨k, hk⟩)
  · rename_i x k hk; exact good_move (hih _ h) fun b a cs w => by rw [hk]; exact step_scope
  · rename_i x k hk; exact good_move (hih _ h) fun b a cs w => by rw [hk]; exact step_inScope
  · rename_i x k hk; exact good_move (hih _ h) fun b a cs w => by rw [hk]; exact step_label
  · rename_i l k hk
    split at h
    · rename_i k' hk'; exact good_move (point_good hq hgood hih h) fun b a cs w => by rw [hk]; exact step_goto hk'
    · exact h.elim
  · rename_i id ops draw k hk
    cases draw with
    | true =>
      simp only [cond_true] at h
      cases hdk : drawOK ops with
      | false => rw [hdk] at h; exact h.elim
      | true => rw [hdk] at h; exact draw_good hcon hb0 hih hk hdk h
    | false => exact good_move (hih _ h) fun b a cs w => by rw [hk]; exact step_region
  · rename_i id k hk; exact good_move (hih _ h) fun b a cs w => by rw [hk]; exact step_inBlock
  · rename_i ops k hk; exact good_move (hih _ h) fun b a cs w => by rw [hk]; exact step_region_end
  · rename_i ops i rest k hk
    split at h
    · rename_i o ho; exact guard_good hcon hb0 hih ho hk h
    · exact h.elim
  · split at h
    · exact tail_good hb0 hih h.1 h.2
    · exact h.elim
  · exact h.elim

/-- THE EXECUTOR IS SOUND. -/
theorem run_good {con : FuncId → Option Spec} {hs : Hints} (hq : hs.1 = pin.1) (hcon : ∀ f s, con f = some s → SpecOK P f s) (hb0 : Und base w0.heap.size) (n : Nat) : ∀ {c : Cfg},
    arun P con hs (Good P base w0 F0 pin f0 ret) ret n c → Good P base w0 F0 pin f0 ret c := by
  induction n with
  | zero => intro c h; exact h.elim
  | succ n ih => intro c h; exact step_good hq hcon hb0 (fun _ h => h) (fun _ h => ih h) h

/-- A function's call, by its entry. -/
theorem calls_of_good {f : FuncId} {args : List V} {xs : Array Value} {σ : Sig} {F : Fz} {h : List O} {w : World} (hbod : Bod P f) (g : Gm base σ F h w) (hb0 : Und base w.heap.size) (hrv : RVs F σ args xs) {fn : Func} {c : Code} (hfn : P.funcs[f]? = some fn) (hc : fn.body = some c) (hle : args.length ≤ fn.ntmps)
    (hgood : Good P base w F (pin.1, σ) f ret ⟨⟨f, fn.ntmps, args2 0 args, [.code c]⟩, [], h⟩) : Calls P f xs w fun e w' => ∃ x, e = .returned x ∧ Post base w F (pin.1, σ) ret x w' := by
  intro cs
  obtain ⟨b, a, he, hf⟩ := enter_fr (P := P) hfn hc hrv hle
  obtain ⟨x, w', frl, h1, h2, h3, h4⟩ := hgood rfl σ F w b a [] cs g (FExt.refl _ _) (Kp.refl _ _) hf trivial (fun _ _ _ e => e)
  exact ⟨.returned x, w', frl, ⟨x, rfl, h1⟩, by rw [he]; exact h2, h3, h4⟩
end
end Go.Aw

/-
  Contracts: a function's call, by what the executor shows of its body.
-/
namespace Go.Aw
open Go Go.RowKit
set_option linter.unusedVariables false
set_option linter.unusedSimpArgs false

def Holds (F : Fz) (w : World) : Prop := ∀ b o, F b = some o → w.heap[b]? = some o

/-- A contract on values alone, kept. -/
def Con (P : Program) (f : FuncId) (G : PSpec) : Prop := Bod P f ∧
  ∀ (as : List V) (p : Prop) (r : V), G as = some (p, r) → p → ∀ (F : Fz) (w : World) (xs : Array Value), Holds F w → RVs F sig0 as xs →
    Calls P f xs w fun e w' => ∃ x, e = .returned x ∧ ∃ F', FExt (ltB w.heap.size) F F' ∧ Holds F' w' ∧ RV F' sig0 r x ∧ Kp (ltB w.heap.size) w w'

open Classical in
/-- All that the run made, let be. -/
noncomputable def frz (F : Fz) (σ : Sig) (h : List O) (w : World) : Fz := fun b =>
  match F b with
  | some o => some o
  | none => if ∃ l, ob (getO h l) (σ l) = some b then w.heap[b]? else none

section
variable {P : Program} {base : Blk} {σ : Sig} {F : Fz} {h : List O} {w : World}

theorem frz_le (F : Fz) (σ : Sig) (h : List O) (w : World) : Fle F (frz F σ h w) := by
  intro b o e; simp [frz, e]

theorem frz_holds (g : Gm base σ F h w) : Holds (frz F σ h w) w := by
  intro b o e
  unfold frz at e
  cases hf : F b with
  | some o' => simp [hf] at e; subst e; exact g.fz b o' hf
  | none =>
    simp only [hf] at e
    split at e
    · exact e
    · cases e

theorem frz_ext (g : Gm base σ F h w) : FExt base F (frz F σ h w) := by
  refine ⟨frz_le _ _ _ _, fun b hb hb' => ?_⟩
  unfold frz at hb'
  simp only [hb] at hb'
  split at hb'
  · rename_i hl
    obtain ⟨l, hl⟩ := hl
    exact (g.own l b hl).1
  · exact (hb' rfl).elim

theorem frz_rd (g : Gm base σ F h w) (ls : List Nat) : Rd (frz F σ h w) σ (getO h) ls := by
  refine Rd.fzs g (frz_le _ _ _ _) fun l _ e s n f x hO hs => row_list' (frz_le _ _ _ _) g hO hs fun b hb => ?_
  have hnone := (g.own l b hb).2.2
  unfold frz
  simp only [hnone]
  rw [if_pos ⟨l, hb⟩]

theorem toPure_rv (g : Gm base σ F h w) {v r : V} {x : Value} (hp : toPure (getO h) v = some r) (hv : RV F σ v x) : RV (frz F σ h w) sig0 r x :=
  toPure_rv' (frz_le _ _ _ _) (frz_rd g _) hp hv

theorem scalar0_rv {F F' : Fz} {σ σ' : Sig} {v : V} {x : Value} (hs : v.scalar0 = true) (h : RV F σ v x) : RV F' σ' v x := by
  cases h <;> simp [V.scalar0] at hs
  exact .kn
theorem scalar1_rv {F F' : Fz} {σ σ' : Sig} {v : V} {x : Value} (hs : v.scalar1 = true) (h : RV F σ v x) : RV F' σ' v x := by
  cases v with
  | agg cs => cases h with | agg hl hh => exact .agg hl fun i u hu => scalar0_rv (List.all_eq_true.1 hs _ (List.mem_of_getElem? hu)) (hh i u hu)
  | _ => refine scalar0_rv ?_ h; exact hs
theorem scalar_rv {F F' : Fz} {σ σ' : Sig} {v : V} {x : Value} (hs : v.scalar = true) (h : RV F σ v x) : RV F' σ' v x := by
  cases v with
  | tup cs => cases h with | tup hl hh => exact .tup hl fun i u hu => scalar1_rv (List.all_eq_true.1 hs _ (List.mem_of_getElem? hu)) (hh i u hu)
  | _ => refine scalar1_rv ?_ h; exact hs

/-- What is pure reads the same whatever the run made. -/
theorem pure1_rv {F : Fz} {σ σ' : Sig} {v : V} {x : Value} (hp : v.pure1 = true) (h : RV F σ v x) : RV F σ' v x := by
  cases v with
  | agg cs => cases h with | agg hl hh => exact .agg hl fun i u hu => RV.pure0 (List.all_eq_true.1 hp _ (List.mem_of_getElem? hu)) (hh i u hu)
  | tup vs =>
    cases h with
    | @tup _ _ xs hl hh =>
      refine .tup hl fun i u hu => ?_
      have h2 := List.all_eq_true.1 hp _ (List.mem_of_getElem? hu)
      have h3 := hh i u hu
      generalize xs.getD i undef = y at h3 ⊢
      cases u with
      | agg cs => cases h3 with | agg hl' hh' => exact .agg hl' fun i u hu => RV.pure0 (List.all_eq_true.1 h2 _ (List.mem_of_getElem? hu)) (hh' i u hu)
      | _ => refine RV.pure0 ?_ h3; exact h2
  | _ => refine RV.pure0 ?_ h; exact hp

theorem pure0_ids {v : V} (h : v.pure0 = true) : v.ids0 = [] ∧ v.ids1 = [] := by
  cases v with
  | fn f cap => cases cap <;> simp_all [V.pure0, V.ids0, V.ids1]
  | _ => simp_all [V.pure0, V.ids0, V.ids1]
theorem pure2_ids {v : V} (h : (match v with | .agg cs => cs.all V.pure0 | v => v.pure0) = true) : v.ids2 = [] := by
  cases v with
  | agg cs =>
    simp only [V.ids2, List.flatMap_eq_nil_iff]
    intro c hc
    exact (pure0_ids (List.all_eq_true.1 h c hc)).2
  | _ => exact (pure0_ids h).2
theorem pure1_ids {v : V} (h : v.pure1 = true) : v.ids = [] := by
  cases v with
  | tup vs =>
    simp only [V.ids, List.flatMap_eq_nil_iff]
    intro c hc
    exact pure2_ids (List.all_eq_true.1 h c hc)
  | agg cs => exact pure2_ids (v := .agg cs) h
  | fn f cap => exact (pure0_ids (v := .fn f cap) h).2
  | kn x => rfl
  | list => rfl
  | rp => rfl
  | _ => cases h

/-- A contract on values serves a caller. -/
theorem lift_ok {f : FuncId} {G : PSpec} (hc : Con P f G) : SpecOK P f (lift G) := by
  refine ⟨hc.1, lift_local G, fun base σ F h w args xs nid g hbase _ hrv => ?_⟩
  unfold lift
  cases has : allSome (args.map (toPure (getO h))) with
  | none => trivial
  | some as =>
    dsimp only
    cases hG : G as with
    | none => trivial
    | some pr =>
      obtain ⟨p', r'⟩ := pr
      intro hp
      obtain ⟨h1, h2⟩ := allSome_get has
      have hbel : ∀ {w' : World}, Kp (ltB w.heap.size) w w' → Gm base σ F h w' := fun hb => g.still hb.size hb.block
      cases hsc : r'.scalar with
      | true =>
        have hargs : RVs (frz F σ h w) sig0 as xs := ⟨by rw [← h1]; exact hrv.1, fun i v hv => by
          obtain ⟨c, hc', hcr⟩ := h2 i v hv
          exact toPure_rv g hcr (hrv.2 i c hc')⟩
        refine (hc.2 as p' r' hG hp (frz F σ h w) w xs (frz_holds g) hargs).mono ?_
        rintro e w' ⟨x, rfl, F', hF', hH', hr, hb⟩
        exact ⟨x, rfl, σ, F, hbel hb, scalar_rv hsc hr, Sle.refl _, FExt.refl _ _, hb.under hbase⟩
      | false =>
        have key : ∀ {F1 : Fz} {h1' : List O}, FExt base F F1 → Gm base σ F1 h1' w → RVs F1 sig0 as xs → Calls P f xs w fun e w' => ∃ x, e = .returned x ∧ Aft base σ F w r' h1' x w' := by
          intro F1 h1' hF1 g1 hargs2
          refine (hc.2 as p' r' hG hp F1 w xs g1.fz hargs2).mono ?_
          rintro e w' ⟨x, rfl, F', hF', hH', hr, hb⟩
          refine ⟨x, rfl, σ, F', ?_, hr.mono (Fle.refl _) (fun l y e => by simp [sig0] at e), Sle.refl _, hF1.trans ⟨hF'.1, fun b h1 h2 h3 => hF'.2 b h1 h2 (hbase b h3)⟩, hb.under hbase⟩
          obtain ⟨τ, g1⟩ := g1
          have g' : GmT τ base σ F1 h1' w' := g1.still hb.size hb.block
          refine ⟨τ, fun l => (g'.obj l).congr hF'.1 (Sle.refl _) fun _ _ => rfl, fun l => (g'.mp l).congr hF'.1 (Sle.refl _) fun _ _ => rfl, fun l b e => ?_, g'.sep, hH'⟩
          have := g1.own l b e
          refine ⟨this.1, Nat.lt_of_lt_of_le this.2.1 hb.size, ?_⟩
          cases hq : F' b with
          | none => rfl
          | some o => exact (hF'.2 b this.2.2 (by rw [hq]; simp) this.2.1).elim
        cases hall : args.all V.pure1 with
        | true =>
          exact key (FExt.refl _ _) g ⟨by rw [← h1]; exact hrv.1, fun i v hv => by
            obtain ⟨c, hc', hcr⟩ := h2 i v hv
            have hp1 := List.all_eq_true.1 hall _ (List.mem_of_getElem? hc')
            exact toPure_rv' (Fle.refl _) (by rw [pure1_ids hp1]; exact ⟨fun l hl => by simp at hl, fun l hl => by simp at hl⟩) hcr (hrv.2 i c hc')⟩
        | false =>
          obtain ⟨F1, hF1, g1, hR, _⟩ := g.freeze (args.flatMap V.ids)
          exact key hF1 g1 ⟨by rw [← h1]; exact hrv.1, fun i v hv => by
            obtain ⟨c, hc', hcr⟩ := h2 i v hv
            exact toPure_rv' hF1.1 (hR.sub fun l hl => List.mem_flatMap.2 ⟨c, List.mem_of_getElem? hc', hl⟩) hcr (hrv.2 i c hc')⟩

theorem conOf_ok : ∀ {l : List (FuncId × Spec)}, (∀ f s, (f, s) ∈ l → SpecOK P f s) → ∀ f s, conOf l f = some s → SpecOK P f s
  | [], _, f, s, e => by simp [conOf] at e
  | (g, t) :: r, h, f, s, e => by
    simp only [conOf] at e
    cases hb : Nat.beq g f with
    | true =>
      rw [hb] at e
      simp only [cond_true, Option.some.injEq] at e
      subst e
      rw [← Nat.eq_of_beq_eq_true hb]
      exact h g t (by simp)
    | false =>
      rw [hb] at e
      exact conOf_ok (fun f s hm => h f s (by simp [hm])) f s e

theorem conNil : ∀ f s, conOf [] f = some s → SpecOK P f s := fun f s e => by simp [conOf] at e
theorem conCons {l : List (FuncId × Spec)} {g : FuncId} {t : Spec} (h : SpecOK P g t) (hl : ∀ f s, conOf l f = some s → SpecOK P f s) : ∀ f s, conOf ((g, t) :: l) f = some s → SpecOK P f s := by
  intro f s e
  simp only [conOf] at e
  cases hb : Nat.beq g f with
  | true =>
    rw [hb] at e
    simp only [cond_true, Option.some.injEq] at e
    subst e
    rw [← Nat.eq_of_beq_eq_true hb]
    exact h
  | false => rw [hb] at e; exact hl f s e
end
end Go.Aw

/-
  The arguments of a statement, read as data, are values that the executor knows.
-/
namespace Go.Aw
open Go Go.RowKit
set_option linter.unusedVariables false
set_option linter.unusedSimpArgs false

/-- The shape of a cell. -/
inductive CS where
  | int (k : IntKind)
  | bool
  | str
  | sl (e : List CS)

def whole (w : World) : Fz := fun b => w.heap[b]?

/-- A value of a shape. -/
inductive VOK : CS → V → Prop
  | int {k : IntKind} {n : Int} (h : (Lit.int k n).wf = true) : VOK (.int k) (.kn (.int k n))
  | bool {b : Bool} : VOK .bool (.kn (.bool b))
  | str {s : ByteArray} (h : s.size ≤ maxLen) : VOK .str (.kn (.string s))
  | sl {e : List CS} {n : Nat} {f : Nat → List V} (hn : n ≤ maxLen) (hl : ∀ i, i < n → (f i).length = e.length) (h : ∀ (i j : Nat) (c : CS) (v : V), i < n → e[j]? = some c → (f i)[j]? = some v → VOK c v) : VOK (.sl e) (.list e.length n f)

def shapeFs (P : Program) (sh : TypeId → Option (List CS)) : List Field → List CS → Option (List CS)
  | [], acc => some acc
  | f :: r, acc => match sh f.type with
    | some s => bif Nat.beq f.offset acc.length && Nat.beq s.length (P.cellsOf f.type) then shapeFs P sh r (acc ++ s) else none
    | none => none

def shapes (P : Program) : Nat → TypeId → Option (List CS)
  | 0, _ => none
  | k + 1, t => match P.underlying t with
    | some .bool => some [.bool]
    | some (.int i) => some [.int i]
    | some .string => some [.str]
    | some (.slice e) => match shapes P k e with
      | some ss => bif Nat.beq ss.length (P.cellsOf e) && Nat.blt 0 ss.length then some [.sl ss] else none
      | none => none
    | some (.struct fs) => match shapeFs P (shapes P k) fs.toList [] with
      | some ss => bif Nat.beq ss.length (P.cellsOf t) then some ss else none
      | none => none
    | _ => none

def Kn (w : World) (ss : List CS) (vs : List V) (cs : List Value) : Prop :=
  vs.length = ss.length ∧ cs.length = ss.length ∧ (∀ (i : Nat) (c : CS) (v : V), ss[i]? = some c → vs[i]? = some v → VOK c v) ∧
    ∀ (i : Nat) (v : V), vs[i]? = some v → ∃ x, cs[i]? = some x ∧ RV (whole w) sig0 v x ∧ x.oneCell' = true

theorem Kn.one {w : World} {c : CS} {v : V} {x : Value} (h1 : VOK c v) (h2 : RV (whole w) sig0 v x) (h3 : x.oneCell' = true) : Kn w [c] [v] [x] := by
  refine ⟨rfl, rfl, fun i c' v' hc hv => ?_, fun i v' hv => ?_⟩
  · cases i with
    | zero => simp at hc hv; subst hc hv; exact h1
    | succ i => simp at hc
  · cases i with
    | zero => simp at hv; subst hv; exact ⟨x, rfl, h2, h3⟩
    | succ i => simp at hv

theorem Kn.append {w : World} {s1 s2 : List CS} {v1 v2 : List V} {c1 c2 : List Value} (h : Kn w s1 v1 c1) (k : Kn w s2 v2 c2) : Kn w (s1 ++ s2) (v1 ++ v2) (c1 ++ c2) := by
  obtain ⟨h1, h2, h3, h4⟩ := h
  obtain ⟨k1, k2, k3, k4⟩ := k
  refine ⟨by simp [h1, k1], by simp [h2, k2], fun i c v hc hv => ?_, fun i v hv => ?_⟩
  · by_cases hi : i < s1.length
    · rw [List.getElem?_append_left hi] at hc
      rw [List.getElem?_append_left (by omega)] at hv
      exact h3 i c v hc hv
    · rw [List.getElem?_append_right (by omega)] at hc
      rw [List.getElem?_append_right (by omega), h1] at hv
      exact k3 _ c v hc hv
  · by_cases hi : i < s1.length
    · rw [List.getElem?_append_left (by omega)] at hv
      obtain ⟨x, hx, r⟩ := h4 i v hv
      exact ⟨x, by rw [List.getElem?_append_left (by omega)]; exact hx, r⟩
    · rw [List.getElem?_append_right (by omega), h1] at hv
      obtain ⟨x, hx, r⟩ := k4 _ v hv
      exact ⟨x, by rw [List.getElem?_append_right (by omega), h2]; exact hx, r⟩

theorem mapM_get {α β : Type} {f : α → Option β} : ∀ {l : List α} {r : List β}, l.mapM f = some r → l.length = r.length ∧ ∀ (i : Nat) (a : α), l[i]? = some a → ∃ b, r[i]? = some b ∧ f a = some b
  | [], r, h => by simp at h; subst h; simp
  | a :: l, r, h => by
    simp only [List.mapM_cons, Option.bind_eq_bind, Option.bind_eq_some_iff, Option.pure_def, Option.some.injEq] at h
    obtain ⟨b, hb, bs, hbs, rfl⟩ := h
    obtain ⟨h1, h2⟩ := mapM_get hbs
    refine ⟨by simp [h1], fun i x hx => ?_⟩
    cases i with
    | zero => simp at hx; subst hx; exact ⟨b, rfl, hb⟩
    | succ i => simpa using h2 i x (by simpa using hx)

theorem cells_whole {w : World} {a : Addr} {n : Nat} {cs : List Value} {base : Nat} (h : w.cells? base a n = some cs) : cs.length = n ∧ ∀ j x, cs[j]? = some x → w.cell? (a.add j) = some x := by
  unfold World.cells? at h
  split at h
  · obtain ⟨h1, h2⟩ := mapM_get h
    refine ⟨by simpa using h1.symm, fun j x hx => ?_⟩
    have hj : j < n := by have := (List.getElem?_eq_some_iff.1 hx).1; simp at h1; omega
    obtain ⟨y, hy, hc⟩ := h2 j j (by simp [hj])
    rw [hx] at hy
    cases hy
    exact hc
  · cases h

theorem cellF_whole {w : World} {b o : Nat} {x : Value} (h : w.cell? ⟨b, o, none⟩ = some x) : cellF (whole w) b o = some x := by
  unfold World.cell? at h
  unfold cellF whole
  split at h
  · rename_i hh; simp only at hh; simpa [hh] using h
  · cases h

theorem fields_kn {P : Program} {w : World} {sh : TypeId → Option (List CS)} {cs : List Value} (go : TypeId → List Value → Prop) (hgo : ∀ t cs ss, go t cs → sh t = some ss → ∃ vs, Kn w ss vs cs) : ∀ (fs : List Field) (acc ss : List CS) (vs : List V),
    (∀ f ∈ fs, go f.type ((cs.drop f.offset).take (P.cellsOf f.type))) → shapeFs P sh fs acc = some ss → Kn w acc vs (cs.take acc.length) → ss.length ≤ cs.length → ∃ vs, Kn w ss vs (cs.take ss.length)
  | [], acc, ss, vs, _, hs, hk, _ => by simp [shapeFs] at hs; subst hs; exact ⟨vs, hk⟩
  | f :: r, acc, ss, vs, hg, hs, hk, hle => by
    simp only [shapeFs] at hs
    cases hsf : sh f.type with
    | none => simp [hsf] at hs
    | some s =>
      simp only [hsf] at hs
      cases hb : (Nat.beq f.offset acc.length && Nat.beq s.length (P.cellsOf f.type)) with
      | false => simp [hb] at hs
      | true =>
        rw [hb] at hs
        simp only [cond_true] at hs
        simp only [Bool.and_eq_true] at hb
        have e1 := Nat.eq_of_beq_eq_true hb.1
        have e2 := Nat.eq_of_beq_eq_true hb.2
        obtain ⟨vf, hvf⟩ := hgo _ _ _ (hg f (by simp)) hsf
        have hk2 := hk.append hvf
        have e3 : cs.take acc.length ++ (cs.drop f.offset).take (P.cellsOf f.type) = cs.take (acc ++ s).length := by
          rw [e1, ← e2, List.length_append, List.take_add]
        rw [e3] at hk2
        exact fields_kn go hgo r (acc ++ s) ss _ (fun g hg' => hg g (by simp [hg'])) hs hk2 hle

theorem trod_kn {H : Type} {enc : TypeId × Value → H} {P : Program} {w : World} {base : Nat} {spare : Nat → Bool} {held : Bool} : ∀ (fuel : Nat) (k : Nat) (t : TypeId) (cs : List Value) (x : DataW H × List MemPlace) (ss : List CS),
    DataW.trod enc P w base spare held fuel t cs = some x → shapes P k t = some ss → ∃ vs, Kn w ss vs cs := by
  intro fuel
  induction fuel with
  | zero => intro k t cs x ss h; simp [DataW.trod] at h
  | succ fuel ih =>
    intro k t cs x ss h hs
    cases k with
    | zero => simp [shapes] at hs
    | succ k =>
      simp only [shapes] at hs
      have nil : ∀ {se : List CS}, Kn w [.sl se] [.list se.length 0 fun _ => []] [.slice none 0 0] := Kn.one (.sl (Nat.zero_le _) (fun i hi => by omega) fun i j c v hi => by omega) (.list0 rfl) rfl
      cases hu : P.underlying t with
      | none => simp [hu] at hs
      | some d =>
        cases d with
        | bool =>
          simp only [hu, Option.some.injEq] at hs
          subst hs
          unfold DataW.trod at h
          simp only [hu] at h
          split at h <;> first | (cases h; done) | skip
          all_goals first
            | exact ⟨[_], Kn.one .bool .kn rfl⟩
            | (rename_i hh; simp at hh)
            | (rename_i hh _; simp at hh)
            | simp_all
        | int i =>
          simp only [hu, Option.some.injEq] at hs
          subst hs
          unfold DataW.trod at h
          simp only [hu] at h
          match cs, h with
          | [.int k' n], h =>
            simp only at h
            split at h
            · rename_i hk
              obtain ⟨rfl, hw⟩ := hk
              exact ⟨[_], Kn.one (.int hw) .kn rfl⟩
            · cases h
        | string =>
          simp only [hu, Option.some.injEq] at hs
          subst hs
          unfold DataW.trod at h
          simp only [hu] at h
          match cs, h with
          | [.string s], h =>
            simp only at h
            split at h
            · rename_i hk; exact ⟨[_], Kn.one (.str hk) .kn rfl⟩
            · cases h
        | slice e =>
          simp only [hu] at hs
          cases hse : shapes P k e with
          | none => simp [hse] at hs
          | some se =>
            simp only [hse] at hs
            cases hb : (Nat.beq se.length (P.cellsOf e) && Nat.blt 0 se.length) with
            | false => simp [hb] at hs
            | true =>
              rw [hb] at hs
              simp only [cond_true, Option.some.injEq] at hs
              subst hs
              simp only [Bool.and_eq_true, Nat.blt_eq] at hb
              have hsz : se.length = P.cellsOf e := Nat.eq_of_beq_eq_true hb.1
              unfold DataW.trod at h
              simp only [hu] at h
              match cs, h with
              | [.slice none 0 0], h => exact ⟨_, nil⟩
              | [.slice (some a) len cap], h =>
                simp only at h
                split at h
                · rename_i hc
                  simp only [Option.bind_eq_some_iff] at h
                  obtain ⟨elems, hel, _⟩ := h
                  obtain ⟨hl1, hl2⟩ := mapM_get hel
                  by_cases hlen : len = 0
                  · subst hlen
                    exact ⟨[.list se.length 0 fun _ => []], Kn.one (.sl (Nat.zero_le _) (fun i hi => by omega) fun i j c v hi => by omega) (.list0 rfl) rfl⟩
                  · have hall : ∀ i : Nat, ∃ p : List Value × List V, i < len → w.cells? base (a.add (i * P.cellsOf e)) (P.cellsOf e) = some p.1 ∧ Kn w se p.2 p.1 := by
                      intro i
                      by_cases hi : i < len
                      · obtain ⟨y, _, hy⟩ := hl2 i i (by simp [hi])
                        simp only [Option.bind_eq_some_iff] at hy
                        obtain ⟨ci, hci, hti⟩ := hy
                        obtain ⟨vi, hvi⟩ := ih k e ci y se hti hse
                        exact ⟨(ci, vi), fun _ => ⟨hci, hvi⟩⟩
                      · exact ⟨([], []), fun hh => (hi hh).elim⟩
                    obtain ⟨p, hp⟩ := Classical.axiomOfChoice hall
                    have hcell : ∀ i j, i < len → j < se.length → w.cell? ((a.add (i * se.length)).add j) = some ((p i).1.getD j undef) := by
                      intro i j hi hj
                      obtain ⟨h1, h2⟩ := hp i hi
                      obtain ⟨h3, h4⟩ := cells_whole h1
                      have hlt : j < (p i).1.length := by rw [h3, ← hsz]; exact hj
                      have := h4 j (p i).1[j] (by simp [hlt])
                      rw [hsz, this]
                      simp [List.getD, hlt]
                    have hsp : a.spot = none := by
                      have := hcell 0 0 (by omega) hb.2
                      simp only [Nat.zero_mul, Addr.add, if_true] at this
                      unfold World.cell? at this
                      split at this
                      · split at this
                        · cases this
                        · rename_i hh; simpa using hh
                      · cases this
                    obtain ⟨b, o, sp⟩ := a
                    simp only at hsp
                    subst hsp
                    refine ⟨[.list se.length len fun i => (p i).2], Kn.one (.sl (by omega) (fun i hi => (hp i hi).2.1) fun i j c v hi hc' hv => (hp i hi).2.2.2.1 j c v hc' hv) (.list (fun i j => (p i).1.getD j undef) hc.2.1 (fun i hi => (hp i hi).2.1) (fun i j hi hj => ?_) (fun i j hi hj => ?_) fun i j u hi hu' => ?_) rfl⟩
                    · have := hcell i j hi hj
                      rw [add_none, add_none] at this
                      exact cellF_whole this
                    · have hk := (hp i hi).2
                      have hlt : j < (p i).2.length := by rw [hk.1]; exact hj
                      obtain ⟨y, hy, _, h1⟩ := hk.2.2.2 j (p i).2[j] (by simp [hlt])
                      simpa [List.getD, hy] using h1
                    · obtain ⟨y, hy, h2, _⟩ := (hp i hi).2.2.2.2 j u hu'
                      simpa [List.getD, hy] using h2
                · cases h
        | struct fs =>
          simp only [hu] at hs
          cases hsf : shapeFs P (shapes P k) fs.toList [] with
          | none => simp [hsf] at hs
          | some ss' =>
            simp only [hsf] at hs
            cases hb : Nat.beq ss'.length (P.cellsOf t) with
            | false => simp [hb] at hs
            | true =>
              rw [hb] at hs
              simp only [cond_true, Option.some.injEq] at hs
              subst hs
              have hsz := Nat.eq_of_beq_eq_true hb
              unfold DataW.trod at h
              simp only [hu] at h
              split at h
              · rename_i hlen
                simp only [Option.map_eq_some_iff] at h
                obtain ⟨xs, hxs, _⟩ := h
                obtain ⟨_, hx2⟩ := mapM_get hxs
                obtain ⟨vs, hvs⟩ := fields_kn (P := P) (w := w) (sh := shapes P k) (cs := cs) (fun t cs => ∃ x, DataW.trod enc P w base spare held fuel t cs = some x) (fun t cs ss hg hs => hg.elim fun x hx => ih k t cs x ss hx hs) fs.toList [] ss' [] (fun f hf => by
                  obtain ⟨i, hi, rfl⟩ := List.getElem_of_mem hf
                  obtain ⟨b, _, hb⟩ := hx2 i fs.toList[i] (by simp)
                  exact ⟨b, hb⟩) hsf ⟨rfl, rfl, fun i c v hc => by simp at hc, fun i v hv => by simp at hv⟩ (by omega)
                rw [List.take_of_length_le (by omega)] at hvs
                exact ⟨vs, hvs⟩
              · cases h
        | _ => simp [hu] at hs

section
variable {H : Type} {enc : TypeId × Value → H} {P : Program} {w : World} {base : Nat} {spare : Nat → Bool} {held : Bool} {t : TypeId} {v : Value} {d : DataW H} {ps : List MemPlace}

theorem arg_leaf (k : Nat) {c : CS} (h : DataW.Trod enc P w base spare held t v d ps) (hs : shapes P k t = some [c]) (h1 : v.oneCell' = true) : ∃ u, VOK c u ∧ RV (whole w) sig0 u v := by
  obtain ⟨fuel, hf⟩ := h
  obtain ⟨vs, hl, _, hv, hr⟩ := trod_kn fuel k t _ _ _ hf hs
  match vs, hl with
  | [u], _ =>
    have hc : v.cells = #[v] := by cases v <;> simp_all [Value.cells, Value.oneCell']
    obtain ⟨x, hx, hrx, _⟩ := hr 0 u rfl
    rw [hc] at hx
    simp at hx
    subst hx
    exact ⟨u, hv 0 c u rfl rfl, hrx⟩

theorem arg_struct (k : Nat) {ss : List CS} {cs : Array Value} (h : DataW.Trod enc P w base spare held t (.agg cs) d ps) (hs : shapes P k t = some ss) :
    ∃ us : List V, us.length = ss.length ∧ (∀ (i : Nat) (c : CS) (u : V), ss[i]? = some c → us[i]? = some u → VOK c u) ∧ RV (whole w) sig0 (.agg us) (.agg cs) := by
  obtain ⟨fuel, hf⟩ := h
  obtain ⟨vs, hl, hl2, hv, hr⟩ := trod_kn fuel k t _ _ _ hf hs
  refine ⟨vs, hl, hv, .agg (by simp [Value.cells] at hl2; omega) fun i u hu => ?_⟩
  obtain ⟨x, hx, hrx, _⟩ := hr i u hu
  have : cs.getD i undef = x := by
    have : cs[i]? = some x := by simpa [Value.cells] using hx
    simp [Array.getD_eq_getD_getElem?, this]
  rw [this]
  exact hrx

theorem one_of_int {k : IntKind} (hu : P.underlying t = some (.int k)) {r : Reach} (h : Value.okWide P w r base t v) : v.oneCell' = true := by
  obtain ⟨n, rfl⟩ := WideShapes.okWide_int hu h; rfl
theorem one_of_slice {e : TypeId} (hu : P.underlying t = some (.slice e)) {r : Reach} (h : Value.okWide P w r base t v) : v.oneCell' = true := by
  obtain ⟨a, l, c, rfl⟩ := WideShapes.okWide_slice hu h; rfl
theorem one_of_bool (hu : P.underlying t = some .bool) {r : Reach} (h : Value.okWide P w r base t v) : v.oneCell' = true := by
  unfold Value.okWide at h
  simp only [hu] at h
  cases v <;> simp_all [Value.oneCell', Cell.okWide, Cell.ok]
theorem one_of_string (hu : P.underlying t = some .string) {r : Reach} (h : Value.okWide P w r base t v) : v.oneCell' = true := by
  unfold Value.okWide at h
  simp only [hu] at h
  cases v <;> simp_all [Value.oneCell', Cell.okWide, Cell.ok]
theorem agg_of_struct {fs : Array Field} (hu : P.underlying t = some (.struct fs)) {r : Reach} (h : Value.okWide P w r base t v) : ∃ cs, v = .agg cs := by
  unfold Value.okWide at h
  simp only [hu] at h
  obtain ⟨cs, h, _⟩ := h
  exact ⟨cs, h⟩
end

theorem RVs.nil (F : Fz) (σ : Sig) : RVs F σ [] #[] := ⟨rfl, fun i v h => by simp at h⟩
theorem RVs.mk {F : Fz} {σ : Sig} : ∀ {vs : List V} {xs : List Value}, vs.length = xs.length → (∀ (i : Nat) (v : V) (x : Value), vs[i]? = some v → xs[i]? = some x → RV F σ v x) → RVs F σ vs xs.toArray := by
  intro vs xs hl h
  refine ⟨by simpa using hl, fun i v hv => ?_⟩
  have hi : i < xs.length := by rw [← hl]; exact (List.getElem?_eq_some_iff.1 hv).1
  have := h i v xs[i] hv (by simp [hi])
  simpa [Array.getD_eq_getD_getElem?, hi] using this
def RVl (F : Fz) : List V → List Value → Prop
  | [], [] => True
  | v :: vs, x :: xs => RV F sig0 v x ∧ RVl F vs xs
  | _, _ => False
theorem RVl.rvs {F : Fz} : ∀ {vs : List V} {xs : List Value}, RVl F vs xs → vs.length = xs.length ∧ ∀ (i : Nat) (v : V) (x : Value), vs[i]? = some v → xs[i]? = some x → RV F sig0 v x
  | [], [], _ => ⟨rfl, fun i v x h => by simp at h⟩
  | v :: vs, x :: xs, ⟨h, r⟩ => by
    obtain ⟨h1, h2⟩ := RVl.rvs r
    refine ⟨by simp [h1], fun i u y hu hy => ?_⟩
    cases i with
    | zero => simp at hu hy; subst hu hy; exact h
    | succ i => exact h2 i u y (by simpa using hu) (by simpa using hy)
  | [], _ :: _, h => h.elim
  | _ :: _, [], h => h.elim

/-- A slice's reading may be told by another function. -/
theorem list_ext {F : Fz} {σ : Sig} {s n : Nat} {f g : Nat → List V} {x : Value} (h : RV F σ (.list s n f) x) (he : ∀ i, i < n → f i = g i) : RV F σ (.list s n g) x := by
  cases h with
  | list0 hn => exact .list0 hn
  | list gg a b c d e => exact .list gg a (fun i hi => by rw [← he i hi]; exact b i hi) c d fun i j v hi hv => e i j v hi (by rw [he i hi]; exact hv)

/-- Elements that are all of a make: a list of what they are made of. -/
theorem exists_list {α : Type} (toV : α → List V) (dflt : α) {n : Nat} {f : Nat → List V} (h : ∀ i, i < n → ∃ a, f i = toV a) : ∃ xs : List α, xs.length = n ∧ ∀ i, i < n → f i = toV (xs.getD i dflt) := by
  have h2 : ∀ i : Nat, ∃ a, i < n → f i = toV a := fun i => by
    by_cases hi : i < n
    · obtain ⟨a, ha⟩ := h i hi; exact ⟨a, fun _ => ha⟩
    · exact ⟨dflt, fun hh => (hi hh).elim⟩
  obtain ⟨g, hg⟩ := Classical.axiomOfChoice h2
  refine ⟨(List.range n).map g, by simp, fun i hi => ?_⟩
  rw [hg i hi]
  simp [List.getD, hi]
end Go.Aw

/-
  Lists of structs, as the executor knows them and as plain lists.
-/
namespace Go.Aw
open Go Go.RowKit
set_option linter.unusedVariables false
set_option linter.unusedSimpArgs false

/-- A plain type, and its cells. -/
structure Enc (α : Type) where
  s : Nat
  toV : α → List V
  ofV : List V → α
  dflt : α
  inv : ∀ a, ofV (toV a) = a
  len : ∀ a, (toV a).length = s

variable {α : Type}

def Enc.ok (E : Enc α) (c : List V) : Prop := E.toV (E.ofV c) = c
def Enc.dl (E : Enc α) (n : Nat) (f : Nat → List V) : List α := (List.range n).map fun i => E.ofV (f i)
/-- The elements that a slice reads as, all of them of the type. -/
def Enc.oks (E : Enc α) (n : Nat) (f : Nat → List V) : Prop := n ≤ maxLen ∧ ∀ i, i < n → E.ok (f i)
def Enc.at (E : Enc α) (xs : List α) (i : Nat) : List V := E.toV (xs.getD i E.dflt)

theorem Enc.ok_toV (E : Enc α) (a : α) : E.ok (E.toV a) := by unfold Enc.ok; rw [E.inv]
theorem Enc.dl_length (E : Enc α) (n : Nat) (f : Nat → List V) : (E.dl n f).length = n := by simp [Enc.dl]
theorem Enc.dl_get (E : Enc α) {n : Nat} {f : Nat → List V} {i : Nat} (hi : i < n) : (E.dl n f).getD i E.dflt = E.ofV (f i) := by simp [Enc.dl, List.getD, hi]
theorem Enc.dl_at (E : Enc α) {n : Nat} {f : Nat → List V} (h : E.oks n f) {i : Nat} (hi : i < n) : E.at (E.dl n f) i = f i := by
  unfold Enc.at; rw [E.dl_get hi]; exact h.2 i hi
theorem Enc.dl_ext (E : Enc α) {n : Nat} {f : Nat → List V} {xs : List α} (hn : n = xs.length) (h : ∀ i, i < n → f i = E.at xs i) : E.dl n f = xs := by
  subst hn
  apply List.ext_getElem?
  intro i
  by_cases hi : i < xs.length
  · simp only [Enc.dl, List.getElem?_map, List.getElem?_range hi, Option.map_some, h i hi, Enc.at, E.inv]
    simp [List.getD, hi]
  · simp [Enc.dl, List.getElem?_eq_none (Nat.le_of_not_lt hi)]
    omega
theorem Enc.dl_id (E : Enc α) (xs : List α) : E.dl xs.length (fun i => E.toV (xs.getD i E.dflt)) = xs := E.dl_ext rfl fun _ _ => rfl
theorem Enc.oks_at (E : Enc α) {n : Nat} {f : Nat → List V} {xs : List α} (hn : n = xs.length) (hm : n ≤ maxLen) (h : ∀ i, i < n → f i = E.at xs i) : E.oks n f :=
  ⟨hm, fun i hi => by rw [h i hi]; exact E.ok_toV _⟩

/-- What appends make. -/
theorem Enc.at_append (E : Enc α) (xs ys : List α) (g : Nat → List V) {n m : Nat} (hn : n = xs.length) (hm : m = ys.length) (hg : ∀ i, i < m → g i = E.at ys i) (f : Nat → List V) (hf : ∀ i, i < n → f i = E.at xs i) :
    ∀ i, i < n + m → (bif Nat.blt i n then f i else g (i - n)) = E.at (xs ++ ys) i := by
  subst hn hm
  intro i hi
  unfold Enc.at
  cases hb : Nat.blt i xs.length with
  | true =>
    have : i < xs.length := by simpa [Nat.blt_eq] using hb
    simp only [cond_true]
    rw [hf i this]
    simp [Enc.at, List.getD, List.getElem?_append_left this]
  | false =>
    have : ¬ i < xs.length := fun hh => by have h3 : Nat.blt i xs.length = true := (by simpa [Nat.blt_eq] using hh); rw [h3] at hb; cases hb
    simp only [cond_false]
    rw [hg _ (by omega)]
    simp [Enc.at, List.getD, List.getElem?_append_right (Nat.le_of_not_lt this)]

theorem Enc.at_one (E : Enc α) (a : α) (hs : 0 < E.s) : ∀ i, i < 1 → rowF (E.toV a) E.s i = E.at [a] i := by
  intro i hi
  have : i = 0 := by omega
  subst this
  simp [rowF, Enc.at, List.getD]
  rw [List.take_of_length_le (by rw [E.len]; exact Nat.le_refl _)]

/-- A list, as a slice reads. -/
def Enc.tl (E : Enc α) (xs : List α) (i : Nat) : List V := E.toV (xs.getD i E.dflt)
/-- A slice's reading is a list's. -/
def Enc.is (E : Enc α) (n : Nat) (f : Nat → List V) (xs : List α) : Prop := n = xs.length ∧ ∀ i, i < n → f i = E.tl xs i
theorem Enc.is_tl (E : Enc α) (xs : List α) : E.is xs.length (E.tl xs) xs := ⟨rfl, fun _ _ => rfl⟩
theorem Enc.is_nil (E : Enc α) (f : Nat → List V) : E.is 0 f [] := ⟨rfl, fun i hi => by omega⟩
theorem Enc.is_one (E : Enc α) {f : Nat → List V} (a : α) (h : f 0 = E.toV a) : E.is 1 f [a] := ⟨rfl, fun i hi => by
  have : i = 0 := by omega
  subst this
  exact h⟩
theorem Enc.is_app (E : Enc α) {n m : Nat} {f g : Nat → List V} {xs ys : List α} (h : E.is n f xs) (k : E.is m g ys) : E.is (n + m) (catF n f g) (xs ++ ys) :=
  ⟨by rw [h.1, k.1]; simp, E.at_append xs ys g h.1 k.1 k.2 f h.2⟩
theorem Enc.is_app0 (E : Enc α) {m : Nat} {f g : Nat → List V} {ys : List α} (k : E.is m g ys) : E.is (0 + m) (catF 0 f g) ys := by
  have := E.is_app (E.is_nil f) k
  rwa [List.nil_append] at this
theorem Enc.is_upd (E : Enc α) {n : Nat} {f : Nat → List V} {xs : List α} (h : E.is n f xs) {i : Nat} {cs : List V} (a : α) (hc : cs = E.toV a) : E.is n (updF i cs f) (xs.set i a) := by
  refine ⟨by rw [h.1]; simp, fun j hj => ?_⟩
  unfold updF Enc.tl
  cases hb : Nat.beq j i with
  | true =>
    have := Nat.eq_of_beq_eq_true hb
    subst this
    simp [List.getD, hc, ← h.1, hj]
  | false =>
    have hne : i ≠ j := fun e => by subst e; simp at hb
    show f j = _
    rw [h.2 j hj]
    simp [Enc.tl, List.getD, List.getElem?_set_ne hne]
theorem Enc.is_part (E : Enc α) {n : Nat} {f : Nat → List V} {xs : List α} (h : E.is n f xs) (l m : Nat) (hm : l + m ≤ n) : E.is m (partF l f) ((xs.drop l).take m) := by
  refine ⟨by rw [List.length_take, List.length_drop, ← h.1]; omega, fun i hi => ?_⟩
  show f (l + i) = E.tl _ i
  rw [h.2 (l + i) (by omega)]
  unfold Enc.tl
  congr 1
  simp only [List.getD, List.getElem?_take, List.getElem?_drop, hi, if_true]
theorem Enc.is_dl (E : Enc α) {n : Nat} {f : Nat → List V} {xs : List α} (h : E.is n f xs) : E.dl n f = xs := E.dl_ext h.1 h.2
theorem Enc.is_oks (E : Enc α) {n : Nat} {f : Nat → List V} {xs : List α} (h : E.is n f xs) (hm : n ≤ maxLen) : E.oks n f := E.oks_at h.1 hm h.2
theorem Enc.oks_is (E : Enc α) {n : Nat} {f : Nat → List V} (h : E.oks n f) : E.is n f (E.dl n f) := ⟨(E.dl_length n f).symm, fun i hi => (E.dl_at h hi).symm⟩
theorem Enc.oks_tl (E : Enc α) {xs : List α} (h : xs.length ≤ maxLen) : E.oks xs.length (E.tl xs) := E.is_oks (E.is_tl xs) h
theorem Enc.dl_tl (E : Enc α) (xs : List α) : E.dl xs.length (E.tl xs) = xs := E.is_dl (E.is_tl xs)
theorem Enc.tl_get (E : Enc α) {xs : List α} {i : Nat} (h : i < xs.length) : E.tl xs i = E.toV xs[i] := by simp [Enc.tl, List.getD, h]

def vInt : V → Int
  | .kn (.int _ n) => n
  | _ => 0
def vBool : V → Bool
  | .kn (.bool b) => b
  | _ => false
def vStr : V → ByteArray
  | .kn (.string s) => s
  | _ => ByteArray.empty
def vList (E : Enc α) : V → List α
  | .list _ n f => E.dl n f
  | _ => []
theorem vList_V (E : Enc α) (xs : List α) : vList E (.list E.s xs.length (E.tl xs)) = xs := E.dl_tl xs
/-- Ints, texts, and rows of them. -/
def eInt : Enc Int := { s := 1, toV := fun n => [.kn (.int .i64 n)], ofV := fun c => match c with | [v] => vInt v | _ => 0, dflt := 0, inv := fun _ => rfl, len := fun _ => rfl }
def eStr : Enc ByteArray := { s := 1, toV := fun n => [.kn (.string n)], ofV := fun c => match c with | [v] => vStr v | _ => ByteArray.empty, dflt := ByteArray.empty, inv := fun _ => rfl, len := fun _ => rfl }
def eBool : Enc Bool := { s := 1, toV := fun n => [.kn (.bool n)], ofV := fun c => match c with | [v] => vBool v | _ => false, dflt := false, inv := fun _ => rfl, len := fun _ => rfl }
def eRow {α : Type} (E : Enc α) : Enc (List α) := { s := 1, toV := fun l => [.list E.s l.length (E.tl l)], ofV := fun c => match c with | [v] => vList E v | _ => [], dflt := [], inv := fun l => vList_V E l, len := fun _ => rfl }

/-- A value told otherwise. -/
def VExt (v v' : V) : Prop := ∀ (F : Fz) (σ : Sig) (x : Value), RV F σ v x → RV F σ v' x
theorem VExt.refl (v : V) : VExt v v := fun _ _ _ h => h
theorem VExt.nil {s : Nat} {f : Nat → List V} : VExt (.kn (.slice none 0 0)) (.list s 0 f) := fun F σ x h => by cases h; exact .list0 rfl
theorem VExt.nilL {s s' : Nat} {f g : Nat → List V} : VExt (.list s 0 f) (.list s' 0 g) := fun F σ x h => by cases h <;> exact .list0 rfl
theorem VExt.list {s n n' : Nat} {f g : Nat → List V} (hn : n = n') (h : ∀ i, i < n → f i = g i) : VExt (.list s n f) (.list s n' g) := by
  subst hn
  exact fun F σ x hx => list_ext hx h
theorem Enc.ext (E : Enc α) {n : Nat} {f : Nat → List V} (h : E.oks n f) : VExt (.list E.s n f) (.list E.s (E.dl n f).length (E.tl (E.dl n f))) :=
  VExt.list (E.dl_length n f).symm fun i hi => (E.dl_at h hi).symm
theorem Enc.ext_is (E : Enc α) {n : Nat} {f : Nat → List V} {xs : List α} (h : E.is n f xs) : VExt (.list E.s n f) (.list E.s xs.length (E.tl xs)) := VExt.list h.1 h.2
/-- A slice that comes in: of the type's size, or of no element. -/
def Enc.okl (E : Enc α) (s n : Nat) (f : Nat → List V) : Prop := (n = 0 ∨ s = E.s) ∧ E.oks n f
theorem Enc.okl_is (E : Enc α) {n : Nat} {f : Nat → List V} {xs : List α} (h : E.is n f xs) (hm : n ≤ maxLen) : E.okl E.s n f := ⟨.inr rfl, E.is_oks h hm⟩
theorem Enc.okl_tl (E : Enc α) {xs : List α} (h : xs.length ≤ maxLen) : E.okl E.s xs.length (E.tl xs) := ⟨.inr rfl, E.oks_tl h⟩
theorem Enc.okl_zero (E : Enc α) (s : Nat) (f : Nat → List V) : E.okl s 0 f := ⟨.inl rfl, Nat.zero_le _, fun i hi => by omega⟩
theorem Enc.dl_zero (E : Enc α) (f : Nat → List V) : E.dl 0 f = [] := rfl
theorem Enc.extl (E : Enc α) {s n : Nat} {f : Nat → List V} (h : E.okl s n f) : VExt (.list s n f) (.list E.s (E.dl n f).length (E.tl (E.dl n f))) := by
  rcases h.1 with h0 | h0
  · subst h0
    intro F σ x hx
    cases hx with
    | list0 hn => exact .list0 (by simp [Enc.dl])
    | list => exact .list0 (by simp [Enc.dl])
  · subst h0
    exact E.ext h.2
def VExts : List V → List V → Prop
  | [], [] => True
  | v :: vs, u :: us => VExt v u ∧ VExts vs us
  | _, _ => False
theorem VExts.refl : ∀ (l : List V), VExts l l
  | [] => trivial
  | v :: r => ⟨VExt.refl v, VExts.refl r⟩
theorem VExts.get : ∀ {as bs : List V}, VExts as bs → as.length = bs.length ∧ ∀ (i : Nat) (b : V), bs[i]? = some b → ∃ a, as[i]? = some a ∧ VExt a b
  | [], [], _ => ⟨rfl, fun i b h => by simp at h⟩
  | v :: vs, u :: us, ⟨h, r⟩ => by
    obtain ⟨h1, h2⟩ := VExts.get r
    refine ⟨by simp [h1], fun i b hb => ?_⟩
    cases i with
    | zero => simp at hb; subst hb; exact ⟨v, rfl, h⟩
    | succ i => simpa using h2 i b (by simpa using hb)
  | [], _ :: _, h => h.elim
  | _ :: _, [], h => h.elim
theorem VExt.agg {cs ds : List V} (h : VExts cs ds) : VExt (.agg cs) (.agg ds) := by
  intro F σ x hx
  obtain ⟨h1, h2⟩ := h.get
  cases hx with
  | agg hl hh =>
    refine .agg (by omega) fun i v hv => ?_
    obtain ⟨a, ha, hab⟩ := h2 i v hv
    exact hab _ _ _ (hh i a ha)
/-- A slice whose elements are told otherwise. -/
theorem VExt.list2 {s n : Nat} {f g : Nat → List V} (h : ∀ i, i < n → VExts (f i) (g i)) : VExt (.list s n f) (.list s n g) := by
  intro F σ x hx
  cases hx with
  | list0 hn => exact .list0 hn
  | list gg a b c d e =>
    refine .list gg a (fun i hi => by rw [← (h i hi).get.1]; exact b i hi) c d fun i j v hi hv => ?_
    obtain ⟨u, hu, hx⟩ := (h i hi).get.2 j v hv
    exact hx _ _ _ (e i j u hi hu)
/-- What comes in, as data, is a list. -/
theorem Enc.vok (E : Enc α) {ss : List CS} {u : V} {wf : α → Prop} (h : VOK (.sl ss) u) (hs : ss.length = E.s)
    (hc : ∀ c : List V, c.length = ss.length → (∀ (j : Nat) (cs : CS) (v : V), ss[j]? = some cs → c[j]? = some v → VOK cs v) → ∃ a, VExts c (E.toV a) ∧ wf a) :
    ∃ xs : List α, xs.length ≤ maxLen ∧ VExt u (.list E.s xs.length (E.tl xs)) ∧ ∀ x ∈ xs, wf x := by
  cases h with
  | @sl _ n f hn hl hh =>
    have h2 : ∀ i : Nat, ∃ a, i < n → VExts (f i) (E.toV a) ∧ wf a := fun i => by
      by_cases hi : i < n
      · obtain ⟨a, ha⟩ := hc (f i) (hl i hi) (fun j cs v h1 h2 => hh i j cs v hi h1 h2); exact ⟨a, fun _ => ha⟩
      · exact ⟨E.dflt, fun h => (hi h).elim⟩
    obtain ⟨g, hg⟩ := Classical.axiomOfChoice h2
    refine ⟨(List.range n).map g, by simpa using hn, ?_, fun x hx => ?_⟩
    · have e : ((List.range n).map g).length = n := by simp
      rw [e, hs]
      refine VExt.list2 fun i hi => ?_
      have : E.tl ((List.range n).map g) i = E.toV (g i) := by simp [Enc.tl, List.getD, hi]
      rw [this]
      exact (hg i hi).1
    · obtain ⟨i, hi, rfl⟩ := List.mem_map.1 hx
      exact (hg i (by simpa using hi)).2
def inI64 (n : Int) : Prop := -9223372036854775808 ≤ n ∧ n ≤ 9223372036854775807
def inI32 (n : Int) : Prop := -2147483648 ≤ n ∧ n ≤ 2147483647
def inU8 (n : Int) : Prop := 0 ≤ n ∧ n ≤ 255
theorem wf_i64 {n : Int} (h : (Lit.int .i64 n).wf = true) : inI64 n := by
  simp [Lit.wf, IntKind.min, IntKind.max, IntKind.signed, IntKind.bits] at h; unfold inI64; omega
theorem vok_int {k : IntKind} {u : V} (h : VOK (.int k) u) : ∃ n, u = .kn (.int k n) ∧ (Lit.int k n).wf = true := by cases h with | int h => exact ⟨_, rfl, h⟩
theorem vok_bool {u : V} (h : VOK .bool u) : ∃ b, u = .kn (.bool b) := by cases h; exact ⟨_, rfl⟩
theorem vok_str {u : V} (h : VOK .str u) : ∃ s, u = .kn (.string s) ∧ s.size ≤ maxLen := by cases h with | str h => exact ⟨_, rfl, h⟩
def eInt_wf (n : Int) : Prop := inI64 n
def eStr_wf (n : ByteArray) : Prop := n.size ≤ maxLen
def eBool_wf (n : Bool) : Prop := True
theorem eInt_vok {u : V} (h : VOK (.sl [.int .i64]) u) : ∃ xs : List Int, xs.length ≤ maxLen ∧ VExt u (.list eInt.s xs.length (eInt.tl xs)) ∧ ∀ x ∈ xs, eInt_wf x := by
  refine eInt.vok h rfl fun c hl hh => ?_
  match c, hl with
  | [c0], _ =>
    obtain ⟨n, rfl, w⟩ := vok_int (hh 0 _ c0 rfl rfl)
    exact ⟨n, ⟨VExt.refl _, trivial⟩, wf_i64 w⟩
theorem eStr_vok {u : V} (h : VOK (.sl [.str]) u) : ∃ xs : List ByteArray, xs.length ≤ maxLen ∧ VExt u (.list eStr.s xs.length (eStr.tl xs)) ∧ ∀ x ∈ xs, eStr_wf x := by
  refine eStr.vok h rfl fun c hl hh => ?_
  match c, hl with
  | [c0], _ =>
    obtain ⟨n, rfl, w⟩ := vok_str (hh 0 _ c0 rfl rfl)
    exact ⟨n, ⟨VExt.refl _, trivial⟩, w⟩
theorem eBool_vok {u : V} (h : VOK (.sl [.bool]) u) : ∃ xs : List Bool, xs.length ≤ maxLen ∧ VExt u (.list eBool.s xs.length (eBool.tl xs)) ∧ ∀ x ∈ xs, eBool_wf x := by
  refine eBool.vok h rfl fun c hl hh => ?_
  match c, hl with
  | [c0], _ =>
    obtain ⟨n, rfl⟩ := vok_bool (hh 0 _ c0 rfl rfl)
    exact ⟨n, ⟨VExt.refl _, trivial⟩, trivial⟩
def eRow_wf {α : Type} (wf : α → Prop) (l : List α) : Prop := l.length ≤ maxLen ∧ ∀ x ∈ l, wf x
theorem VExts.rvs {F : Fz} {σ : Sig} {as bs : List V} {xs : Array Value} (h : VExts as bs) (hr : RVs F σ as xs) : RVs F σ bs xs := by
  obtain ⟨h1, h2⟩ := h.get
  exact ⟨by rw [← h1]; exact hr.1, fun i v hv => by
    obtain ⟨a, ha, hab⟩ := h2 i v hv
    exact hab _ _ _ (hr.2 i a ha)⟩

/-- What is handed back reads as r. -/
def Tells (r : V) (o : Option V) : Prop := ∃ v, o = some v ∧ VExt v r
theorem tell {v r : V} (h : v = r) : Tells r (some v) := ⟨v, rfl, by subst h; exact VExt.refl _⟩
theorem tell_ext {v r : V} (h : VExt v r) : Tells r (some v) := ⟨v, rfl, h⟩

/-- Objects, slots, and a whole configuration, told otherwise. -/
structure OExt (o o' : O) : Prop where
  rel : ∀ (F : Fz) (σ : Sig) (w : World) (x : Option Value), OR F σ w o x → OR F σ w o' x
  own : ∀ (F : Fz) (σ : Sig) (w : World) (x : Option Value), OR F σ w o x → ∀ b, ob o' x = some b → ob o x = some b
  mp : ∀ (F : Fz) (σ : Sig) (t : Tau) (w : World) (x : Option Value), MR F σ t w o x → ∃ t', MR F σ t' w o' x ∧ ∀ b, mb σ t' o' b → mb σ t o b
theorem OExt.refl (o : O) : OExt o o := ⟨fun _ _ _ _ h => h, fun _ _ _ _ _ _ h => h, fun _ _ t _ _ h => ⟨t, h, fun _ h => h⟩⟩
theorem OExt.trans {a b c : O} (h : OExt a b) (k : OExt b c) : OExt a c :=
  ⟨fun F σ w x r => k.rel F σ w x (h.rel F σ w x r), fun F σ w x r q e => h.own F σ w x r q (k.own F σ w x (h.rel F σ w x r) q e), fun F σ t w x m => by
    obtain ⟨t1, m1, e1⟩ := h.mp F σ t w x m
    obtain ⟨t2, m2, e2⟩ := k.mp F σ t1 w x m1
    exact ⟨t2, m2, fun q hq => e1 q (e2 q hq)⟩⟩
theorem OExt.simple {o o' : O} (h : o'.simple = true) (rel : ∀ (F : Fz) (σ : Sig) (w : World) (x : Option Value), OR F σ w o x → OR F σ w o' x) (own : ∀ x b, ob o' x = some b → ob o x = some b) : OExt o o' :=
  ⟨rel, fun _ _ _ x _ b e => own x b e, fun _ _ t _ _ _ => ⟨t, MR_simple h, fun b hb => (mb_simple h hb).elim⟩⟩
theorem OExt.row {e : TypeId} {s n n' : Nat} {f g : Nat → List V} {p : Bool} (hn : n = n') (h : ∀ i, i < n → f i = g i) : OExt (.row e s n f p) (.row e s n' g p) := by
  subst hn
  refine OExt.simple rfl (fun F σ w x hx => ?_) fun x b => ?_
  · obtain ⟨v, xs, h1, h2, h3, h4, h5⟩ := hx
    exact ⟨v, xs, h1, h2, fun i hi => by rw [← h i hi]; exact h3 i hi, fun i j u hi hu => h4 i j u hi (by rw [h i hi]; exact hu), h5⟩
  · cases x <;> exact id
theorem OExt.cells {cs ds : List V} (h : VExts cs ds) : OExt (.cells cs) (.cells ds) := by
  obtain ⟨h1, h2⟩ := h.get
  refine OExt.simple rfl (fun F σ w x hx => ?_) fun x b => ?_
  · obtain ⟨b, arr, e, hx1, hx2, hx3, hx4⟩ := hx
    refine ⟨b, arr, e, hx1, hx2, by omega, fun j v hv => ?_⟩
    obtain ⟨u, hu, hx⟩ := h2 j v hv
    exact hx _ _ _ (hx4 j u hu)
  · cases x with
    | none => exact id
    | some v =>
      cases v with
      | pointer a => cases a <;> exact id
      | _ => exact id
theorem Gm.retell {base : Blk} {σ : Sig} {F : Fz} {h h' : List O} {w : World} (g : Gm base σ F h w) (e : ∀ l, OExt (getO h l) (getO h' l)) : Gm base σ F h' w := by
  obtain ⟨τ, g⟩ := g
  have hm : ∀ l, ∃ t, MR F σ t w (getO h' l) (σ l) ∧ ∀ b, mb σ t (getO h' l) b → mb σ (τ l) (getO h l) b := fun l => (e l).mp F σ (τ l) w (σ l) (g.mp l)
  obtain ⟨τ', hτ⟩ := Classical.axiomOfChoice hm
  have hab : ∀ l b, ab σ (τ' l) (getO h' l) (σ l) b → ab σ (τ l) (getO h l) (σ l) b := fun l b hb => by
    rcases hb with hb | hb
    · exact .inl ((e l).own F σ w (σ l) (g.obj l) b hb)
    · exact .inr ((hτ l).2 b hb)
  exact ⟨τ', fun l => (e l).rel F σ w (σ l) (g.obj l), fun l => (hτ l).1, fun l b hb => g.own l b (hab l b hb), fun l l' b h1 h2 => g.sep l l' b (hab l b h1) (hab l' b h2), g.fz⟩
theorem Enc.oext (E : Enc α) {e : TypeId} {n : Nat} {f : Nat → List V} {xs : List α} {p : Bool} (h : E.is n f xs) : OExt (.row e E.s n f p) (.row e E.s xs.length (E.tl xs) p) := OExt.row h.1 h.2
def OExts : List O → List O → Prop
  | [], [] => True
  | o :: r, o' :: r' => OExt o o' ∧ OExts r r'
  | _, _ => False
theorem OExts.get : ∀ {h h' : List O}, OExts h h' → ∀ l, OExt (getO h l) (getO h' l)
  | [], [], _, l => OExt.refl _
  | o :: r, o' :: r', ⟨h1, h2⟩, l => by
    cases l with
    | zero => exact h1
    | succ l => exact h2.get l
  | [], _ :: _, h, _ => h.elim
  | _ :: _, [], h, _ => h.elim
def TExts : Tm → Tm → Prop
  | [], [] => True
  | (d, v) :: r, (d', v') :: r' => (d = d' ∧ VExt v v') ∧ TExts r r'
  | _, _ => False
theorem TExts.refl : ∀ (t : Tm), TExts t t
  | [] => trivial
  | (d, v) :: r => ⟨⟨rfl, VExt.refl v⟩, TExts.refl r⟩
theorem TExts.look : ∀ {t t' : Tm}, TExts t t' → ∀ d, VExt (look t d) (look t' d)
  | [], [], _, d => VExt.refl _
  | (k, v) :: r, (k', v') :: r', ⟨⟨h0, h1⟩, h2⟩, d => by
    subst h0
    show VExt (bif Nat.beq k d then v else Aw.look r d) (bif Nat.beq k d then v' else Aw.look r' d)
    cases Nat.beq k d
    · exact h2.look d
    · exact h1
  | [], _ :: _, h, _ => h.elim
  | _ :: _, [], h, _ => h.elim
structure CfgExt (c c' : Cfg) : Prop where
  fn : c.fr.fn = c'.fr.fn
  nt : c.fr.nt = c'.fr.nt
  k : c.fr.k = c'.fr.k
  cs : c.cs = c'.cs
  t : TExts c.fr.t c'.fr.t
  h : OExts c.h c'.h
theorem good_ext {P : Program} {base : Blk} {w0 : World} {F0 : Fz} {pin : Pin} {f0 : FuncId} {ret : V → List O → Prop} {c c' : Cfg} (e : CfgExt c c') (hg : Good P base w0 F0 pin f0 ret c') : Good P base w0 F0 pin f0 ret c := by
  intro hb σ F w b a fs cs0 g hF hw hf hfs hpn
  have g' : Gm base σ F c'.h w := g.retell e.h.get
  have hbot : botFn c'.fr c'.cs = f0 := by
    rw [← hb, ← e.cs]
    cases c.cs with
    | nil => exact e.fn.symm
    | cons _ _ => rfl
  have := hg hbot σ F w b a fs cs0 g' hF hw ⟨by rw [← e.fn]; exact hf.fn, hf.kind, hf.defers, by rw [← e.nt]; exact hf.size, fun d => e.t.look d _ _ _ (hf.tmps d)⟩ (by rw [← e.cs]; exact hfs) hpn
  rw [← e.k] at this
  exact this

theorem tell_bool {b s : Bool} (e : b = s) : Tells (.kn (.bool s)) (some (.kn (.bool b))) := tell (by subst e; rfl)
theorem cond_intro {b : Bool} {p q : Prop} (h1 : b = true → p) (h2 : b = false → q) : cond b p q := by cases b; exact h2 rfl; exact h1 rfl
theorem cond_true' {b : Bool} {p q : Prop} (hb : b = true) (h1 : p) : cond b p q := by subst hb; exact h1
theorem cond_false' {b : Bool} {p q : Prop} (hb : b = false) (h1 : q) : cond b p q := by subst hb; exact h1
theorem getD_at {xs : List α} {i : Nat} (d : α) (h : i < xs.length) : xs.getD i d = xs[i] := by simp [List.getD, h]
theorem getD_int {xs : List α} {i : Nat} (d : α) (h : i < xs.length) : xs.getD (i : Int).toNat d = xs[i] := by simp [List.getD, h]
theorem wrap_in {n : Int} (h1 : -9223372036854775808 ≤ n) (h2 : n ≤ 9223372036854775807) : IntKind.i64.wrap n = n := IntWalk.i64_in n ⟨h1, h2⟩
theorem wrap_succ {i n : Nat} (h : i < n) (hn : n ≤ maxLen) : IntKind.i64.wrap ((i : Int) + 1) = ((i + 1 : Nat) : Int) := by
  have : maxLen = 9223372036854775807 := rfl
  rw [wrap_in (by omega) (by omega)]; rfl

/-- A statement, as a bool. -/
noncomputable def bP (p : Prop) : Bool := @decide p (Classical.propDecidable p)
theorem bP_true {p : Prop} (h : p) : bP p = true := @decide_eq_true p (Classical.propDecidable p) h
theorem bP_false {p : Prop} (h : ¬ p) : bP p = false := @decide_eq_false p (Classical.propDecidable p) h
theorem bP_iff {p : Prop} : bP p = true ↔ p := ⟨@of_decide_eq_true p (Classical.propDecidable p), bP_true⟩
theorem bP_not {p : Prop} : bP p = false ↔ ¬ p := ⟨@of_decide_eq_false p (Classical.propDecidable p), bP_false⟩
theorem bP_eq {p : Prop} {b : Bool} (h : b = true ↔ p) : bP p = b := by
  cases b with
  | true => exact bP_true (h.1 rfl)
  | false => exact bP_false fun hp => by have := h.2 hp; cases this
theorem tell_true {p : Prop} (h : p) : Tells (.kn (.bool (bP p))) (some (.kn (.bool true))) := tell_bool (bP_true h).symm
theorem tell_false {p : Prop} (h : ¬ p) : Tells (.kn (.bool (bP p))) (some (.kn (.bool false))) := tell_bool (bP_false h).symm
theorem tell_iff {p : Prop} {b : Bool} (h : b = true ↔ p) : Tells (.kn (.bool (bP p))) (some (.kn (.bool b))) := tell_bool (bP_eq h).symm

/-- A loop that goes over a list. -/
theorem foreach {S : Type} {good : Cfg → Prop} (xs : List α) (inv : Nat → S → Prop) (c : Int → S → Cfg)
    (hs : ∀ (i : Nat) (s : S) (hi : i < xs.length), inv i s → (∀ s', inv (i + 1) s' → good (c ((i + 1 : Nat) : Int) s')) → good (c (i : Int) s))
    (he : ∀ s, inv xs.length s → good (c (xs.length : Int) s)) (s : S) (h : inv 0 s) : good (c 0 s) := by
  have : ∀ (m i : Nat) (s : S), i + m = xs.length → inv i s → good (c (i : Int) s) := by
    intro m
    induction m with
    | zero => intro i s hi hv; rw [Nat.add_zero] at hi; subst hi; exact he s hv
    | succ m ih => intro i s hi hv; exact hs i s (by omega) hv fun s' hv' => ih (i + 1) s' (by omega) hv'
  exact this xs.length 0 s (by omega) h

/-- A loop, by a measure that falls. -/
theorem loop_ind {S : Type} {good : Cfg → Prop} (c : S → Cfg) (inv : S → Prop) (μ : S → Nat) (hs : ∀ s, inv s → (∀ s', inv s' → μ s' < μ s → good (c s')) → good (c s)) (s : S) (h : inv s) : good (c s) := by
  have : ∀ (m : Nat) (s : S), μ s < m → inv s → good (c s) := by
    intro m
    induction m with
    | zero => intro s hm; omega
    | succ m ih => intro s hm hv; exact hs s hv fun s' hv' hl => ih s' (by omega) hv'
  exact this (μ s + 1) s (by omega) h
theorem take_at {xs : List α} {i : Nat} (h : i < xs.length) : xs.take (i + 1) = xs.take i ++ [xs[i]] := by rw [List.take_add_one, List.getElem?_eq_getElem h]; rfl

end Go.Aw

/-
  Contracts over objects.
-/
namespace Go.Aw
open Go Go.RowKit
set_option linter.unusedVariables false
set_option linter.unusedSimpArgs false

/-! ### they hang on what the arguments reach -/

theorem named_ids {v : V} {l : Nat} (h : v.named = some l) : l ∈ v.ids0 := by cases v <;> simp_all [V.named, V.ids0]

theorem ids0_in {v : V} {l : Nat} (h : l ∈ v.ids0) : l ∈ v.ids := by
  cases v <;> simp_all [V.ids0, V.ids, V.ids2, V.ids1]

theorem thin_ids {v : V} (h : v.thin = true) : v.ids = v.ids1 := by cases v <;> first | rfl | cases h
theorem flat_ids0 {v : V} (h : v.flat = true) : v.thin = true ∧ v.ids = v.ids0 := by cases v <;> first | exact ⟨rfl, rfl⟩ | cases h

/-- What a way steps to. -/
def nxt (D : Nat → O) (v : V) (i : Nat) : Option V := match v with
  | .fn _ cap => match cap[i]? with
    | some v => bif v.flat then some v else none
    | none => none
  | .agg cs => match cs[i]? with
    | some v => bif v.thin then some v else none
    | none => none
  | .ptr l _ => match D l with
    | .cells cs => match cs[i]? with
      | some v => bif v.thin then some v else none
      | none => none
    | _ => none
  | .it q => match D q with
    | .iter l => some (.mp l)
    | _ => none
  | .mp l => match D l with
    | .map _ _ _ ov _ _ _ _ => match ov[i]? with
      | some (_, some (v :: _)) => bif v.thin then some v else none
      | _ => none
    | _ => none
  | _ => none
theorem wayTo_nxt (D : Nat → O) (v : V) (i : Nat) (p : List Nat) : wayTo D v (i :: p) = (nxt D v i).bind fun u => wayTo D u p := by
  cases v with
  | fn f cap =>
    simp only [wayTo, nxt]
    cases cap[i]? with
    | none => rfl
    | some u => dsimp only; cases u.flat <;> rfl
  | agg cs =>
    simp only [wayTo, nxt]
    cases cs[i]? with
    | none => rfl
    | some u => dsimp only; cases u.thin <;> rfl
  | ptr l off =>
    simp only [wayTo, nxt]
    cases D l with
    | cells cs =>
      dsimp only
      cases cs[i]? with
      | none => rfl
      | some u => dsimp only; cases u.thin <;> rfl
    | _ => rfl
  | it q =>
    simp only [wayTo, nxt]
    cases D q <;> rfl
  | mp l =>
    simp only [wayTo, nxt]
    cases D l with
    | map kd ag n ov has get sub its =>
      dsimp only
      cases ov[i]? with
      | none => rfl
      | some x =>
        obtain ⟨k, c⟩ := x
        cases c with
        | none => rfl
        | some cs =>
          cases cs with
          | nil => rfl
          | cons u r => dsimp only; cases u.thin <;> rfl
    | _ => rfl
  | _ => rfl
theorem rch_deep {D : Nat → O} : ∀ (n : Nat) {ls : List Nat}, ∀ l ∈ rch D n ls, l ∈ rch D (n + 1) ls
  | 0, ls, l, h => List.mem_append_left _ h
  | n + 1, ls, l, h => by
    rcases List.mem_append.1 h with h | h
    · exact List.mem_append_left _ h
    · exact List.mem_append_right _ (rch_deep n l h)
theorem rch_deeps {D : Nat → O} {ls : List Nat} {l n : Nat} : ∀ {m : Nat}, n ≤ m → l ∈ rch D n ls → l ∈ rch D m ls := by
  intro m h k
  induction h with
  | refl => exact k
  | step _ ih => exact rch_deep _ l ih
theorem nxt_sub {D : Nat → O} {v u : V} {i : Nat} (h : nxt D v i = some u) : (∀ l ∈ u.ids, l ∈ v.ids) ∨ ∃ l, l ∈ v.ids ∧ ∀ q ∈ u.ids, q ∈ (D l).ids := by
  cases v with
  | fn f cap =>
    simp only [nxt] at h
    cases hc : cap[i]? with
    | none => simp [hc] at h
    | some w =>
      simp only [hc] at h
      cases hf : w.flat with
      | false => simp [hf] at h
      | true =>
        simp only [hf, cond_true, Option.some.injEq] at h
        subst h
        left
        intro l hl
        rw [(flat_ids0 hf).2] at hl
        exact List.mem_flatMap.2 ⟨w, List.mem_of_getElem? hc, hl⟩
  | agg cs =>
    simp only [nxt] at h
    cases hc : cs[i]? with
    | none => simp [hc] at h
    | some w =>
      simp only [hc] at h
      cases hf : w.thin with
      | false => simp [hf] at h
      | true =>
        simp only [hf, cond_true, Option.some.injEq] at h
        subst h
        left
        intro l hl
        rw [thin_ids hf] at hl
        exact List.mem_flatMap.2 ⟨w, List.mem_of_getElem? hc, hl⟩
  | ptr l off =>
    right
    refine ⟨l, by simp [V.ids, V.ids2, V.ids1, V.ids0], ?_⟩
    simp only [nxt] at h
    cases hD : D l with
    | cells cs =>
      simp only [hD] at h
      cases hc : cs[i]? with
      | none => simp [hc] at h
      | some w =>
        simp only [hc] at h
        cases hf : w.thin with
        | false => simp [hf] at h
        | true =>
          simp only [hf, cond_true, Option.some.injEq] at h
          subst h
          intro q hq
          refine List.mem_flatMap.2 ⟨w, List.mem_of_getElem? hc, ?_⟩
          rw [thin_ids hf] at hq
          cases w <;> first | exact hq | cases hf
    | _ => simp [hD] at h
  | it q =>
    right
    refine ⟨q, by simp [V.ids, V.ids2, V.ids1, V.ids0], ?_⟩
    simp only [nxt] at h
    cases hD : D q with
    | iter l => simp only [hD, Option.some.injEq] at h; subst h; exact fun _ h => h
    | _ => simp [hD] at h
  | mp l =>
    right
    refine ⟨l, by simp [V.ids, V.ids2, V.ids1, V.ids0], ?_⟩
    simp only [nxt] at h
    cases hD : D l with
    | map kd ag n ov has get sub its =>
      simp only [hD] at h
      cases hc : ov[i]? with
      | none => simp [hc] at h
      | some x =>
        obtain ⟨k, c⟩ := x
        cases c with
        | none => simp [hc] at h
        | some cs =>
          cases cs with
          | nil => simp [hc] at h
          | cons w r =>
            simp only [hc] at h
            cases hf : w.thin with
            | false => simp [hf] at h
            | true =>
              simp only [hf, cond_true, Option.some.injEq] at h
              subst h
              intro q hq
              rw [thin_ids hf] at hq
              exact List.mem_flatMap.2 ⟨_, List.mem_of_getElem? hc, List.mem_flatMap.2 ⟨w, by simp, hq⟩⟩
    | _ => simp [hD] at h
  | _ => simp [nxt] at h
theorem nxt_rch {D : Nat → O} {v u : V} {i n : Nat} (h : nxt D v i = some u) : ∀ l ∈ rch D n u.ids, l ∈ rch D (n + 1) v.ids := by
  intro q hq
  rcases nxt_sub h with h | ⟨l, h1, h2⟩
  · exact rch_deep _ q (rch_mono n h q hq)
  · exact rch_step h1 (rch_mono n h2 q hq)
theorem nxt_congr {D D' : Nat → O} {v : V} {i : Nat} (h : ∀ l ∈ v.ids, D l = D' l) : nxt D v i = nxt D' v i := by
  cases v with
  | ptr l off => simp only [nxt, h l (by simp [V.ids, V.ids2, V.ids1, V.ids0])]
  | it l => simp only [nxt, h l (by simp [V.ids, V.ids2, V.ids1, V.ids0])]
  | mp l => simp only [nxt, h l (by simp [V.ids, V.ids2, V.ids1, V.ids0])]
  | _ => rfl
theorem wayTo_rch {D : Nat → O} : ∀ (p : List Nat) {v : V} {l : Nat}, wayTo D v p = some l → l ∈ rch D p.length v.ids
  | [], v, l, h => by cases v <;> simp_all [wayTo, V.named, V.ids, V.ids2, V.ids1, V.ids0, rch]
  | i :: p, v, l, h => by
    rw [wayTo_nxt] at h
    cases hu : nxt D v i with
    | none => simp [hu] at h
    | some u => rw [hu] at h; exact nxt_rch hu l (wayTo_rch p h)
theorem wayTo_congr {D D' : Nat → O} : ∀ (p : List Nat) {v : V}, (∀ l ∈ rch D p.length v.ids, D l = D' l) → wayTo D v p = wayTo D' v p
  | [], v, h => by cases v <;> rfl
  | i :: p, v, h => by
    rw [wayTo_nxt, wayTo_nxt, ← nxt_congr fun l hl => h l (mem_rch _ hl)]
    cases hu : nxt D v i with
    | none => rfl
    | some u => exact wayTo_congr p fun l hl => h l (nxt_rch hu l hl)
theorem argIds_congr {D D' : Nat → O} {args : List V} (h : ∀ l ∈ rch D 4 (args.flatMap V.ids), D l = D' l) : ∀ {ways : List (Nat × List Nat)}, (∀ x ∈ ways, x.2.length ≤ 3) → argIds D args ways = argIds D' args ways
  | [], _ => rfl
  | (i, p) :: r, hw => by
    simp only [argIds]
    cases hv : args[i]? with
    | none => rfl
    | some v =>
      dsimp only
      have hp : p.length ≤ 4 := Nat.le_succ_of_le (hw (i, p) (by simp))
      rw [← wayTo_congr p fun l hl => h l (rch_mono 4 (fun q hq => List.mem_flatMap.2 ⟨v, List.mem_of_getElem? hv, hq⟩) l (rch_deeps hp hl)), argIds_congr h fun x hx => hw x (by simp [hx])]
theorem argIds_rch {D : Nat → O} {args : List V} : ∀ {ways : List (Nat × List Nat)} {m : List Nat}, (∀ x ∈ ways, x.2.length ≤ 3) → argIds D args ways = some m → ∀ l ∈ m, l ∈ rch D 3 (args.flatMap V.ids)
  | [], m, _, h => by simp [argIds] at h; subst h; simp
  | (i, p) :: r, m, hw, h => by
    simp only [argIds] at h
    cases hv : args[i]? with
    | none => simp [hv] at h
    | some v =>
      simp only [hv] at h
      cases hl : wayTo D v p with
      | none => simp [hl] at h
      | some l =>
        simp only [hl, Option.map_eq_some_iff] at h
        obtain ⟨m', h1, rfl⟩ := h
        intro q hq
        rcases List.mem_cons.1 hq with rfl | hq
        · exact rch_mono 3 (fun q hq => List.mem_flatMap.2 ⟨v, List.mem_of_getElem? hv, hq⟩) q (rch_deeps (hw (i, p) (by simp)) (wayTo_rch p hl))
        · exact argIds_rch (fun x hx => hw x (by simp [hx])) h1 q hq

theorem pv0_congr {D D' : Nat → O} {m : List Nat} {v : V} (h : ∀ l ∈ v.ids0, D l = D' l) : pv0 D m v = pv0 D' m v := by
  cases v with
  | sl l => simp only [pv0, h l (by simp [V.ids0])]
  | kn x =>
    cases x with
    | slice a n c => cases a <;> cases n <;> cases c <;> rfl
    | _ => rfl
  | _ => rfl
theorem pv1_congr {D D' : Nat → O} {m : List Nat} {v : V} (h : ∀ l ∈ v.ids1, D l = D' l) : pv1 D m v = pv1 D' m v := by
  cases v with
  | fn f cap =>
    simp only [pv1, V.fn.injEq, true_and]
    exact List.map_congr_left fun u hu => pv0_congr fun l hl => h l (List.mem_flatMap.2 ⟨u, hu, hl⟩)
  | sl l => exact pv0_congr (v := .sl l) h
  | kn x => exact pv0_congr (v := .kn x) h
  | _ => rfl
theorem pv2_congr {D D' : Nat → O} {m : List Nat} {v : V} (h : ∀ l ∈ v.ids2, D l = D' l) : pv2 D m v = pv2 D' m v := by
  cases v with
  | agg cs =>
    simp only [pv2, V.agg.injEq]
    exact List.map_congr_left fun u hu => pv1_congr fun l hl => h l (List.mem_flatMap.2 ⟨u, hu, hl⟩)
  | sl l => exact pv1_congr (v := .sl l) h
  | kn x => exact pv1_congr (v := .kn x) h
  | fn f cap => exact pv1_congr (v := .fn f cap) h
  | _ => rfl
theorem ids2_sub {v : V} {l : Nat} (h : l ∈ v.ids2) : l ∈ v.ids ∨ ∃ cs, v = .tup cs := by cases v <;> first | exact .inl h | exact .inr ⟨_, rfl⟩
theorem pv2_congr' {D D' : Nat → O} {m : List Nat} {v : V} (h : ∀ l ∈ v.ids, D l = D' l) : pv2 D m v = pv2 D' m v := by
  cases v with
  | tup cs => rfl
  | agg cs => exact pv2_congr (v := .agg cs) h
  | sl l => exact pv2_congr (v := .sl l) h
  | kn x => exact pv2_congr (v := .kn x) h
  | fn f cap => exact pv2_congr (v := .fn f cap) h
  | _ => rfl
theorem ids1_sub2 {v : V} {l : Nat} (h : l ∈ v.ids1) : l ∈ v.ids2 := by cases v <;> first | exact h | (simp [V.ids1, V.ids0] at h)
theorem pvO_congr {D D' : Nat → O} {m : List Nat} {o : O} (h : ∀ l ∈ o.ids, D l = D' l) : pvO D m o = pvO D' m o := by
  cases o with
  | cells cs =>
    simp only [pvO, O.cells.injEq]
    exact List.map_congr_left fun u hu => pv1_congr fun l hl => h l (List.mem_flatMap.2 ⟨u, hu, ids1_sub2 hl⟩)
  | _ => rfl

theorem liftS_local (ways : List (Nat × List Nat)) (G : SSpec) : Local (liftS ways G) := by
  intro args D D' nid h
  unfold liftS
  cases hw : ways.all (fun w => Nat.ble w.2.length 3) with
  | false =>
    have e : ∀ (x : Option (List Nat)) (a b : List Nat → Bool) (d : List Nat → Do), (match x with | some m => bif a m && b m && false then d m else .bad | none => .bad) = Do.bad := fun x a b d => by
      cases x <;> simp
    simp
    cases argIds D args ways <;> cases argIds D' args ways <;> rfl
  | true =>
    have hways : ∀ x ∈ ways, x.2.length ≤ 3 := fun x hx => by have := List.all_eq_true.1 hw x hx; exact Nat.le_of_ble_eq_true this
    rw [← argIds_congr h hways]
    cases hm : argIds D args ways with
    | none => rfl
    | some m =>
      have hin := argIds_rch hways hm
      have hD : ∀ l ∈ m, D l = D' l := fun l hl => h l (rch_deep 3 l (hin l hl))
      have hDD : ∀ l ∈ m, ∀ q ∈ (D l).ids, D q = D' q := fun l hl q hq => h q (by
        have : ∀ (n : Nat) (ls : List Nat), l ∈ rch D n ls → q ∈ rch D (n + 1) ls := by
          intro n
          induction n with
          | zero => exact fun ls hl => List.mem_append_right _ (List.mem_flatMap.2 ⟨l, hl, hq⟩)
          | succ n ih =>
            intro ls hl
            rcases List.mem_append.1 hl with hl | hl
            · exact List.mem_append_right _ (mem_rch (n + 1) (List.mem_flatMap.2 ⟨l, hl, hq⟩))
            · exact List.mem_append_right _ (ih _ hl)
        exact this 3 _ (hin l hl))
      have hA : ∀ v ∈ args, ∀ l ∈ v.ids, D l = D' l := fun v hv l hl => h l (mem_rch 4 (List.mem_flatMap.2 ⟨v, hv, hl⟩))
      dsimp only
      have e1 : letBe D m args = letBe D' m args := by
        unfold letBe
        have : (m.flatMap fun l => (D l).ids) = m.flatMap fun l => (D' l).ids := by
          simp only [List.flatMap_def]
          congr 1
          exact List.map_congr_left fun l hl => by rw [hD l hl]
        rw [this]
      have e2 : frzL D (letBe D m args) = frzL D' (letBe D' m args) := by
        rw [← e1]
        refine frzL_congr fun l hl => ?_
        rcases List.mem_append.1 (List.mem_filter.1 hl).1 with hl | hl
        · obtain ⟨v, hv, hl⟩ := List.mem_flatMap.1 hl; exact hA v hv l hl
        · obtain ⟨q, hq, hl⟩ := List.mem_flatMap.1 hl; exact hDD q hq l hl
      have e3 : (args.map fun v => (pv2 D m v).forget m) = args.map fun v => (pv2 D' m v).forget m := List.map_congr_left fun v hv => by rw [pv2_congr' (hA v hv)]
      have e4 : (m.map fun l => (pvO D m (D l)).forget m) = m.map fun l => (pvO D' m (D' l)).forget m := List.map_congr_left fun l hl => by rw [← hD l hl, pvO_congr (hDD l hl)]
      rw [e2, e3, e4]

/-! ### they serve a caller -/

section
variable {P : Program} {base : Blk} {σ : Sig} {F : Fz} {h : List O} {w : World}

/-- What a contract over objects tells, kept. -/
def OutOK (P : Program) (base : Blk) (σ : Sig) (F : Fz) (q : Nat) (w : World) (f : FuncId) (xs : Array Value) : Out → Prop
  | .ret p v h => p → Calls P f xs w fun e w' => ∃ x, e = .returned x ∧ ∃ σ' F', Pn (q, σ) σ' ∧ Gm base σ' F' h w' ∧ RV F' σ' v x ∧ FExt base F F' ∧ Kp base w w'
  | .fork b x y => bif b then OutOK P base σ F q w f xs x else OutOK P base σ F q w f xs y
  | .none => True
def SCon (P : Program) (f : FuncId) (G : SSpec) : Prop := Bod P f ∧
  ∀ (base : Blk) (σ : Sig) (F : Fz) (w : World) (as : List V) (os : List O) (xs : Array Value), Gm base σ F os w → Und base w.heap.size → RVs F σ as xs → OutOK P base σ F os.length w f xs (G as os)

theorem letBe_not {D : Nat → O} {m : List Nat} {args : List V} {l : Nat} (h : l ∈ letBe D m args) : l ∉ m := fun hm => by
  have := (List.mem_filter.1 h).2
  simp only [Bool.not_eq_true', List.any_eq_false] at this
  exact this l hm (Nat.beq_refl l)
theorem any_beq {m : List Nat} {l : Nat} : (m.any fun y => Nat.beq y l) = true ↔ l ∈ m := by
  rw [List.any_eq_true]
  exact ⟨fun ⟨y, hy, e⟩ => by rw [← Nat.eq_of_beq_eq_true e]; exact hy, fun h => ⟨l, h, Nat.beq_refl l⟩⟩
theorem frzL_mem {D : Nat → O} : ∀ {ls : List Nat} {p : Nat × O}, p ∈ frzL D ls → p.1 ∈ ls
  | [], p, h => by simp [frzL] at h
  | l :: r, p, h => by
    unfold frzL at h
    cases hf : fz1 D l with
    | none => rw [hf] at h; exact List.mem_cons_of_mem _ (frzL_mem h)
    | some x =>
      rw [hf] at h
      rcases List.mem_cons.1 h with rfl | h
      · unfold fz1 at hf
        split at hf
        · cases hf; simp
        · cases hf
      · exact List.mem_cons_of_mem _ (frzL_mem h)
theorem ups_other : ∀ {u : List (Nat × O)} {h : List O} {l : Nat}, (∀ p ∈ u, p.1 ≠ l) → getO (ups u h) l = getO h l
  | [], h, l, _ => rfl
  | (i, o) :: r, h, l, hu => by
    show getO (ups r (putO h i o)) l = _
    rw [ups_other fun p hp => hu p (by simp [hp]), getO_putO, if_neg fun e => hu (i, o) (by simp) e.symm]

theorem pv0_rv {F1 : Fz} {D : Nat → O} {m : List Nat} (hF : Fle F F1) {v : V} {x : Value} (hR : ∀ l ∈ v.ids0, l ∉ m → Rd F1 σ D [l]) (h : RV F σ v x) : RV F1 σ (pv0 D m v) x := by
  have keep : RV F1 σ v x := h.mono hF (Sle.refl _)
  cases v with
  | sl l =>
    simp only [pv0]
    cases hb : m.any fun y => Nat.beq y l with
    | true => exact keep
    | false =>
      have hl : l ∉ m := fun hm => by rw [any_beq.2 hm] at hb; cases hb
      have hr := hR l (by simp [V.ids0]) hl
      cases h with
      | sl hs =>
        simp only [cond_false]
        split
        · rename_i e s n f hD; exact (hr.1 l (by simp) _ _ _ _ _ hD hs).mono (Fle.refl _) fun l y e => by simp [sig0] at e
        · rename_i s n f hD; exact (hr.2 l (by simp) _ _ _ _ hD hs).mono (Fle.refl _) fun l y e => by simp [sig0] at e
        · exact .sl hs
  | kn y =>
    cases y with
    | slice a n c =>
      cases a with
      | some a => exact keep
      | none =>
        cases n with
        | succ n => exact keep
        | zero => cases c with
          | succ c => exact keep
          | zero => cases h; exact .list0 rfl
    | _ => exact keep
  | _ => exact keep
theorem pv1_rv {F1 : Fz} {D : Nat → O} {m : List Nat} (hF : Fle F F1) {v : V} {x : Value} (hR : ∀ l ∈ v.ids1, l ∉ m → Rd F1 σ D [l]) (h : RV F σ v x) : RV F1 σ (pv1 D m v) x := by
  cases v with
  | fn f cap =>
    cases h with
    | fn hl hh =>
      refine .fn (by simpa using hl) fun i u hu => ?_
      simp only [List.getElem?_map, Option.map_eq_some_iff] at hu
      obtain ⟨u', hu', rfl⟩ := hu
      exact pv0_rv hF (fun l hl => hR l (List.mem_flatMap.2 ⟨u', List.mem_of_getElem? hu', hl⟩)) (hh i u' hu')
  | sl l => exact pv0_rv (v := .sl l) hF hR h
  | kn y => exact pv0_rv (v := .kn y) hF hR h
  | _ => exact h.mono hF (Sle.refl _)
theorem pv2_rv {F1 : Fz} {D : Nat → O} {m : List Nat} (hF : Fle F F1) {v : V} {x : Value} (hR : ∀ l ∈ v.ids, l ∉ m → Rd F1 σ D [l]) (h : RV F σ v x) : RV F1 σ (pv2 D m v) x := by
  cases v with
  | agg cs =>
    cases h with
    | agg hl hh =>
      refine .agg (by simpa using hl) fun i u hu => ?_
      simp only [List.getElem?_map, Option.map_eq_some_iff] at hu
      obtain ⟨u', hu', rfl⟩ := hu
      exact pv1_rv hF (fun l hl => hR l (List.mem_flatMap.2 ⟨u', List.mem_of_getElem? hu', hl⟩)) (hh i u' hu')
  | fn f cap => exact pv1_rv (v := .fn f cap) hF hR h
  | sl l => exact pv1_rv (v := .sl l) hF hR h
  | kn y => exact pv1_rv (v := .kn y) hF hR h
  | _ => exact h.mono hF (Sle.refl _)
theorem pvO_or {F1 : Fz} {D : Nat → O} {m : List Nat} (hF : Fle F F1) {o : O} {x : Option Value} (hR : ∀ l ∈ o.ids, l ∉ m → Rd F1 σ D [l]) (h : OR F σ w o x) : OR F1 σ w (pvO D m o) x := by
  cases o with
  | cells cs =>
    obtain ⟨b, arr, e, h1, h2, h3, h4⟩ := h
    refine ⟨b, arr, e, h1, h2, by simpa [pvO] using h3, fun j v hv => ?_⟩
    simp only [List.getElem?_map, Option.map_eq_some_iff] at hv
    obtain ⟨u, hu, rfl⟩ := hv
    exact pv1_rv hF (fun l hl => hR l (List.mem_flatMap.2 ⟨u, List.mem_of_getElem? hu, ids1_sub2 hl⟩)) (h4 j u hu)
  | _ => exact h.congr hF (Sle.refl _) fun _ _ => rfl
theorem ob_pvO {D : Nat → O} {m : List Nat} (o : O) (x : Option Value) : ob (pvO D m o) x = ob o x := by
  cases o with
  | cells cs =>
    cases x with
    | none => rfl
    | some v =>
      cases v with
      | pointer a => cases a <;> rfl
      | _ => rfl
  | _ => rfl
theorem mb_pvO {D : Nat → O} {m : List Nat} {t : Tau} (o : O) (b : Nat) : mb σ t (pvO D m o) b → mb σ t o b := by cases o <;> exact id
theorem MR_pvO {D : Nat → O} {m : List Nat} {t : Tau} {o : O} {x : Option Value} (h : MR F σ t w o x) : MR F σ t w (pvO D m o) x := by cases o <;> first | exact h | trivial

/-! the numbers of the call, and back -/
theorem backF_lt {m : List Nat} {nid j l : Nat} (h : m[j]? = some l) : backF m nid j = some l := by simp [backF, h]
theorem backF_ge {m : List Nat} {nid j : Nat} (h : m.length ≤ j) (h2 : j < m.length + 16) : backF m nid j = some (nid + (j - m.length)) := by
  have : m[j]? = none := List.getElem?_eq_none h
  simp only [backF, this]
  rw [show Nat.blt (j - m.length) 16 = true from by rw [Nat.blt_eq]; omega]
  rfl
theorem backF_cases {m : List Nat} {nid j k : Nat} (h : backF m nid j = some k) : m[j]? = some k ∨ (m.length ≤ j ∧ j < m.length + 16 ∧ k = nid + (j - m.length)) := by
  unfold backF at h
  cases hm : m[j]? with
  | some l => rw [hm] at h; exact .inl h
  | none =>
    rw [hm] at h
    have h1 : m.length ≤ j := List.getElem?_eq_none_iff.1 hm
    cases hb : Nat.blt (j - m.length) 16 with
    | false => simp [hb] at h
    | true =>
      simp only [hb, cond_true, Option.some.injEq] at h
      rw [Nat.blt_eq] at hb
      exact .inr ⟨h1, by omega, h.symm⟩
theorem idx_none {l : Nat} : ∀ {m : List Nat} {k : Nat}, idx l m k = none → l ∉ m
  | [], k, _ => by simp
  | x :: r, k, h => by
    simp only [idx] at h
    cases hb : Nat.beq x l with
    | true => simp [hb] at h
    | false =>
      rw [hb] at h
      intro hm
      rcases List.mem_cons.1 hm with e | hm
      · subst e; simp at hb
      · exact idx_none h hm
theorem idx_some {m : List Nat} (hn : nodupB m = true) {j l : Nat} (h : m[j]? = some l) : idx l m 0 = some j := by
  cases hi : idx l m 0 with
  | none => exact (idx_none hi (List.mem_of_getElem? h)).elim
  | some i => rw [nodupB_spec hn i j l (idx_get hi) h]

/-- Where an object of the caller's lies in the call. -/
def fwd (m : List Nat) (nid l : Nat) : Option Nat := match idx l m 0 with
  | some j => some j
  | none => if nid ≤ l ∧ l < nid + 16 then some (m.length + (l - nid)) else none
theorem fwd_back {m : List Nat} {nid : Nat} (hn : nodupB m = true) (hm : ∀ l ∈ m, l < nid ∨ nid + 16 ≤ l) {j l : Nat} : fwd m nid l = some j ↔ backF m nid j = some l := by
  constructor
  · intro h
    unfold fwd at h
    cases hi : idx l m 0 with
    | some i => rw [hi] at h; cases h; exact backF_lt (idx_get hi)
    | none =>
      rw [hi] at h
      dsimp only at h
      split at h
      · rename_i hh
        cases h
        rw [backF_ge (by omega) (by omega)]
        congr 1; omega
      · cases h
  · intro h
    rcases backF_cases h with h | ⟨h1, h2, rfl⟩
    · simp only [fwd, idx_some hn h]
    · have : idx (nid + (j - m.length)) m 0 = none := by
        cases hi : idx (nid + (j - m.length)) m 0 with
        | none => rfl
        | some i => have := hm _ (List.mem_of_getElem? (idx_get hi)); omega
      simp only [fwd, this]
      rw [if_pos (by omega)]
      congr 1; omega
theorem getO_outU {m : List Nat} {nid : Nat} (hn : nodupB m = true) (hm : ∀ l ∈ m, l < nid ∨ nid + 16 ≤ l) : ∀ (os : List O) (j0 : Nat) (h : List O) (l : Nat), j0 + os.length ≤ m.length + 16 →
    getO (ups (outU m nid j0 os) h) l = match fwd m nid l with
      | some j => if j0 ≤ j ∧ j < j0 + os.length then (getO os (j - j0)).ren (backF m nid) else getO h l
      | none => getO h l
  | [], j0, h, l, _ => by
    show getO h l = _
    cases fwd m nid l with
    | none => rfl
    | some j => simp only; rw [if_neg (by simp)]
  | o :: r, j0, h, l, hle => by
    have hb : ∃ k, backF m nid j0 = some k := by
      by_cases hj : j0 < m.length
      · exact ⟨_, backF_lt (List.getElem?_eq_getElem hj)⟩
      · exact ⟨_, backF_ge (by omega) (by simp at hle; omega)⟩
    obtain ⟨k, hk⟩ := hb
    show getO (ups (outU m nid (j0 + 1) r) (putO h ((backF m nid j0).getD 0) (o.ren (backF m nid)))) l = _
    rw [getO_outU hn hm r (j0 + 1) _ l (by simp at hle; omega), getO_putO, hk, Option.getD_some]
    cases hf : fwd m nid l with
    | none =>
      dsimp only
      rw [if_neg]
      intro e
      subst e
      rw [(fwd_back hn hm).2 hk] at hf; cases hf
    | some j =>
      dsimp only
      by_cases hj : j = j0
      · subst hj
        have : l = k := by have := (fwd_back hn hm).1 hf; rw [hk] at this; cases this; rfl
        rw [if_neg (by omega), if_pos this, if_pos (by simp)]
        simp [getO]
      · have : l ≠ k := fun e => by
          subst e
          have := (fwd_back hn hm).2 hk
          rw [hf] at this; cases this; exact hj rfl
        rw [if_neg this]
        by_cases h1 : j0 + 1 ≤ j ∧ j < j0 + 1 + r.length
        · rw [if_pos h1, if_pos (by simp; omega)]
          rw [show j - j0 = (j - (j0 + 1)) + 1 by omega]
          rfl
        · rw [if_neg h1, if_neg (by simp; omega)]
/-- The call's end, in the caller's numbers. -/
theorem merge {τ : Nat → Tau} {σ' : Sig} {F' : Fz} {os' : List O} {w' : World} {m : List Nat} {nid : Nat} (g : GmT τ base σ F h w) (hn : nodupB m = true) (hm : ∀ l ∈ m, l < nid ∨ nid + 16 ≤ l) (hh : ∀ i, i < 16 → getO h (nid + i) = .hole)
    (hl1 : m.length ≤ os'.length) (hl2 : os'.length ≤ m.length + 16) {base1 : Blk} (hb1 : ∀ b, base1 b ↔ base b ∨ ∃ l, l ∉ m ∧ ab σ (τ l) (getO h l) (σ l) b)
    (hpn : Pn (m.length, cut m σ) σ') (g' : Gm base1 σ' F' os' w') (hF : FExt base1 F F') (hk : Kp base1 w w') {v : V} {x : Value} (hv : RV F' σ' v x) :
    ∃ σ2, Gm base σ2 F' (ups (outU m nid 0 os') h) w' ∧ RV F' σ2 (v.ren (backF m nid)) x ∧ Sle σ σ2 ∧ FExt base F F' ∧ Kp base w w' := by
  obtain ⟨τ', g'⟩ := g'
  have hsub : ∀ b, base b → base1 b := fun b hb => (hb1 b).2 (.inl hb)
  let σ2 : Sig := fun l => match fwd m nid l with
    | some j => σ' j
    | none => σ l
  let τ2 : Nat → Tau := fun l => match fwd m nid l with
    | some j => τ' j
    | none => τ l
  have fb := @fwd_back m nid hn hm
  have hrn : Rn (backF m nid) σ' σ2 := fun j l hj => by show (match fwd m nid l with | some j => σ' j | none => σ l) = _; rw [fb.2 hj]
  have hinj : Inj (backF m nid) := fun j j' l h1 h2 => by
    have e1 := fb.2 h1
    rw [fb.2 h2] at e1; cases e1; rfl
  have hsle : Sle σ σ2 := by
    intro l y hy
    show (match fwd m nid l with | some j => σ' j | none => σ l) = some y
    cases hf : fwd m nid l with
    | none => exact hy
    | some j =>
      dsimp only
      rcases backF_cases (fb.1 hf) with hj | ⟨h1, h2, h3⟩
      · have hlt : j < m.length := (List.getElem?_eq_some_iff.1 hj).1
        exact hpn j hlt y (by simp [cut, hj, hy])
      · have := g.obj l
        rw [h3, hh _ (by omega)] at this
        rw [h3] at hy
        have this2 : σ (nid + (j - m.length)) = none := this
        rw [this2] at hy; cases hy
  have hget : ∀ l, getO (ups (outU m nid 0 os') h) l = match fwd m nid l with
      | some j => (getO os' j).ren (backF m nid)
      | none => getO h l := fun l => by
    rw [getO_outU hn hm os' 0 h l (by omega)]
    cases hf : fwd m nid l with
    | none => rfl
    | some j =>
      dsimp only
      by_cases hj : 0 ≤ j ∧ j < 0 + os'.length
      · rw [if_pos hj]; rfl
      · rw [if_neg hj, getO_ge (h := os') (by omega)]
        rcases backF_cases (fb.1 hf) with hj' | ⟨h1, h2, h3⟩
        · have : j < m.length := (List.getElem?_eq_some_iff.1 hj').1
          omega
        · rw [h3, hh _ (by omega)]; rfl
  have in1 : ∀ {l j b}, fwd m nid l = some j → ab σ2 (τ2 l) (getO (ups (outU m nid 0 os') h) l) (σ2 l) b → ab σ' (τ' j) (getO os' j) (σ' j) b := fun {l j b} hf e => by
    rw [hget l] at e
    simp only [σ2, τ2, hf] at e
    exact ab_ren hrn e
  have out1 : ∀ {l b}, fwd m nid l = none → ab σ2 (τ2 l) (getO (ups (outU m nid 0 os') h) l) (σ2 l) b → ab σ (τ l) (getO h l) (σ l) b := fun {l b} hf e => by
    rw [hget l] at e
    have e2 : σ2 l = σ l := by simp only [σ2, hf]
    simp only [τ2, hf] at e
    rw [e2] at e
    exact ab_le (g.mp l) hsle e
  have notm : ∀ {l}, fwd m nid l = none → l ∉ m := fun {l} hf hl => by
    obtain ⟨j, hj⟩ := List.getElem?_of_mem hl
    simp only [fwd, idx_some hn hj] at hf
    cases hf
  have prot : ∀ {l b}, fwd m nid l = none → ab σ (τ l) (getO h l) (σ l) b → base1 b := fun hf e => (hb1 _).2 (.inr ⟨_, notm hf, e⟩)
  refine ⟨σ2, ⟨τ2, fun l => ?_, fun l => ?_, fun l b e => ?_, fun l l' b e e' => ?_, g'.fz⟩, hv.ren hrn, hsle, ⟨hF.1, fun b h1 h2 h3 => hF.2 b h1 h2 (hsub b h3)⟩, hk.mono hsub⟩
  · rw [hget l]
    cases hf : fwd m nid l with
    | some j =>
      have e2 : σ2 l = σ' j := by simp only [σ2, hf]
      rw [e2]; exact (g'.obj j).ren hrn
    | none =>
      have e2 : σ2 l = σ l := by simp only [σ2, hf]
      rw [e2]; exact (g.obj l).congr hF.1 hsle fun b e => hk.block b (prot hf (.inl e))
  · rw [hget l]
    cases hf : fwd m nid l with
    | some j =>
      have e2 : σ2 l = σ' j := by simp only [σ2, hf]
      have e3 : τ2 l = τ' j := by simp only [τ2, hf]
      rw [e2, e3]; exact (g'.mp j).ren hrn hinj
    | none =>
      have e2 : σ2 l = σ l := by simp only [σ2, hf]
      have e3 : τ2 l = τ l := by simp only [τ2, hf]
      rw [e2, e3]; exact (g.mp l).congr hF.1 hsle fun b e => hk.block b (prot hf e)
  · cases hf : fwd m nid l with
    | some j =>
      have := g'.own j b (in1 hf e)
      exact ⟨fun hb => this.1 (hsub b hb), this.2⟩
    | none =>
      have e1 := out1 hf e
      have := g.own l b e1
      refine ⟨this.1, Nat.lt_of_lt_of_le this.2.1 hk.size, ?_⟩
      cases hq : F' b with
      | none => rfl
      | some o => exact (hF.2 b this.2.2 (by rw [hq]; simp) (prot hf e1)).elim
  · cases hf : fwd m nid l with
    | some j =>
      cases hf' : fwd m nid l' with
      | some j' =>
        have := g'.sep j j' b (in1 hf e) (in1 hf' e')
        subst this
        have h1 := fb.1 hf
        rw [fb.1 hf'] at h1; cases h1; rfl
      | none => exact ((g'.own j b (in1 hf e)).1 (prot hf' (out1 hf' e'))).elim
    | none =>
      cases hf' : fwd m nid l' with
      | some j' => exact ((g'.own j' b (in1 hf' e')).1 (prot hf (out1 hf e))).elim
      | none => exact g.sep l l' b (out1 hf e) (out1 hf' e')

/-- A contract over objects serves a caller. -/
theorem liftS_ok {f : FuncId} {ways : List (Nat × List Nat)} {G : SSpec} (hc : SCon P f G) : SpecOK P f (liftS ways G) := by
  refine ⟨hc.1, liftS_local ways G, fun base σ F h w args xs nid g hbase hole hrv => ?_⟩
  unfold liftS
  cases hmm : argIds (getO h) args ways with
  | none => trivial
  | some m =>
    dsimp only
    cases hb : (nodupB m && m.all (fun l => Nat.blt l nid || Nat.ble (nid + 16) l) && ways.all (fun w => Nat.ble w.2.length 3)) with
    | false => trivial
    | true =>
      simp only [Bool.and_eq_true] at hb
      have hn := hb.1.1
      have hm : ∀ l ∈ m, l < nid ∨ nid + 16 ≤ l := fun l hl => by
        have := List.all_eq_true.1 hb.1.2 l hl
        simpa [Nat.blt_eq] using this
      simp only [cond_true]
      obtain ⟨F1, hF1, ⟨τ, g1⟩, hR, hk1⟩ := g.freeze (letBe (getO h) m args)
      have hRd : ∀ l, l ∈ args.flatMap V.ids ++ (m.flatMap fun l => (getO h l).ids) → l ∉ m → Rd F1 σ (getO h) [l] := fun l hl hlm => hR.sub fun q hq => by
        simp only [List.mem_singleton] at hq
        subst hq
        refine List.mem_filter.2 ⟨hl, ?_⟩
        cases hb : m.any fun y => Nat.beq y q with
        | false => rfl
        | true => exact (hlm (any_beq.1 hb)).elim
      have hsame : ∀ l ∈ m, getO (ups (frzL (getO h) (letBe (getO h) m args)) h) l = getO h l := fun l hl => ups_other fun p hp e => letBe_not (frzL_mem hp) (by rw [e]; exact hl)
      let base1 : Blk := fun b => base b ∨ ∃ l, l ∉ m ∧ ab σ (τ l) (getO (ups (frzL (getO h) (letBe (getO h) m args)) h) l) (σ l) b
      have hund : Und base1 w.heap.size := fun b hb => by
        rcases hb with hb | ⟨l, _, hl⟩
        · exact hbase b hb
        · exact (g1.own l b hl).2.1
      -- the objects, as the call knows them
      have hrn := rn_idx m σ
      have hget : ∀ j, getO (m.map fun l => (pvO (getO h) m (getO h l)).forget m) j = match m[j]? with | some l => (pvO (getO h) m (getO h l)).forget m | none => .hole := fun j => getO_map _ m j
      have gc : Gm base1 (cut m σ) F1 (m.map fun l => (pvO (getO h) m (getO h l)).forget m) w := by
        have hab : ∀ {j b}, ab (cut m σ) ((m[j]?).elim (fun _ _ => none) τ) (getO (m.map fun l => (pvO (getO h) m (getO h l)).forget m) j) (cut m σ j) b →
            ∃ l, m[j]? = some l ∧ ab σ (τ l) (getO (ups (frzL (getO h) (letBe (getO h) m args)) h) l) (σ l) b := fun {j b} e => by
          cases hl : m[j]? with
          | none => rw [hget, hl] at e; rcases e with e | e <;> cases e
          | some l =>
            refine ⟨l, rfl, ?_⟩
            rw [hget, hl] at e
            have e2 : cut m σ j = σ l := by simp [cut, hl]
            rw [e2] at e
            have := ab_ren hrn e
            rw [hsame l (List.mem_of_getElem? hl)]
            rcases this with h1 | h1
            · exact .inl (by rwa [ob_pvO] at h1)
            · exact .inr (mb_pvO _ b h1)
        refine ⟨fun j => (m[j]?).elim (fun _ _ => none) τ, fun j => ?_, fun j => ?_, fun j b e => ?_, fun j j' b e e' => ?_, g1.fz⟩
        · rw [hget]
          cases hl : m[j]? with
          | none => simp [OR, cut, hl]
          | some l =>
            have e2 : cut m σ j = σ l := by simp [cut, hl]
            rw [e2]
            refine OR.ren (pvO_or hF1.1 (fun q hq hqm => hRd q (List.mem_append_right _ (List.mem_flatMap.2 ⟨l, List.mem_of_getElem? hl, hq⟩)) hqm) (g.obj l)) hrn
        · rw [hget]
          cases hl : m[j]? with
          | none => trivial
          | some l =>
            have e2 : cut m σ j = σ l := by simp [cut, hl]
            rw [e2]
            have := g1.mp l
            rw [hsame l (List.mem_of_getElem? hl)] at this
            exact (MR_pvO this).ren hrn (inj_idx m)
        · obtain ⟨l, hl, e⟩ := hab e
          have := g1.own l b e
          refine ⟨fun hb => ?_, this.2⟩
          rcases hb with hb | ⟨l', hl', e'⟩
          · exact this.1 hb
          · have := g1.sep l l' b e e'
            subst this
            exact hl' (List.mem_of_getElem? hl)
        · obtain ⟨l, hl, e⟩ := hab e
          obtain ⟨l', hl', e'⟩ := hab e'
          have := g1.sep l l' b e e'
          subst this
          exact nodupB_spec hn j j' l hl hl'
      have hargs : RVs F1 (cut m σ) (args.map fun v => (pv2 (getO h) m v).forget m) xs := by
        refine ⟨by simpa using hrv.1, fun i v hv => ?_⟩
        simp only [List.getElem?_map, Option.map_eq_some_iff] at hv
        obtain ⟨u, hu, rfl⟩ := hv
        exact forget_rv (pv2_rv hF1.1 (fun l hl hlm => hRd l (List.mem_append_left _ (List.mem_flatMap.2 ⟨u, List.mem_of_getElem? hu, hl⟩)) hlm) (hrv.2 i u hu))
      have hout := hc.2 base1 (cut m σ) F1 w _ _ xs gc hund hargs
      rw [List.length_map] at hout
      generalize G (args.map fun v => (pv2 (getO h) m v).forget m) (m.map fun l => (pvO (getO h) m (getO h l)).forget m) = out at hout
      clear hget gc hargs
      induction out with
      | ret p v os' =>
        show SndC P base σ F h w f xs (bif Nat.ble m.length os'.length && Nat.ble os'.length (m.length + 16) then .req p (v.ren (backF m nid)) (frzL (getO h) (letBe (getO h) m args) ++ outU m nid 0 os') else .bad)
        cases hl : (Nat.ble m.length os'.length && Nat.ble os'.length (m.length + 16)) with
        | false => trivial
        | true =>
          simp only [Bool.and_eq_true] at hl
          have hl1 := Nat.le_of_ble_eq_true hl.1
          have hl2 := Nat.le_of_ble_eq_true hl.2
          intro hp
          refine (hout hp).mono ?_
          rintro e w' ⟨x, rfl, σ', F', hpn, g', hv, hF', hk⟩
          have hole1 : ∀ i, i < 16 → getO (ups (frzL (getO h) (letBe (getO h) m args)) h) (nid + i) = .hole := fun i hi => by
            rcases hk1 (nid + i) with h1 | ⟨e, s, n, f, h1, _⟩
            · rw [h1]; exact hole i hi
            · rw [hole i hi] at h1; cases h1
          obtain ⟨σ2, k1, k2, k3, k4, k5⟩ := merge g1 hn hm hole1 hl1 hl2 (base1 := base1) (fun b => Iff.rfl) hpn g' hF' hk hv
          refine ⟨x, rfl, σ2, F', ?_, k2, k3, hF1.trans k4, k5⟩
          rw [ups_append]
          exact k1
      | fork b x y ih1 ih2 =>
        show SndC P base σ F h w f xs (.fork b (outDo m nid _ x) (outDo m nid _ y))
        cases b with
        | true => exact ih1 hout
        | false => exact ih2 hout
      | none => trivial
end
end Go.Aw

/-
  A whole told otherwise: other numbers, lets-be, a map's changes taken into what it was.
-/
namespace Go.Aw
open Go Go.RowKit
set_option linter.unusedVariables false
set_option linter.unusedSimpArgs false

/-- From one telling to another: the first so many objects keep their handles. -/
def Re (q : Nat) (T : V → V) (h h' : List O) : Prop := ∀ (base : Blk) (σ : Sig) (F : Fz) (w : World), Gm base σ F h w → ∃ σ' F', FExt base F F' ∧ Gm base σ' F' h' w ∧ (∀ v x, RV F σ v x → RV F' σ' (T v) x) ∧ ∀ j, j < q → ∀ y, σ j = some y → σ' j = some y

def CfgLe (q : Nat) (c c' : Cfg) : Prop := ∀ (P : Program) (base : Blk) (w0 : World) (F0 : Fz) (σ0 : Sig) (f0 : FuncId) (ret : V → List O → Prop), Good P base w0 F0 (q, σ0) f0 ret c' → Good P base w0 F0 (q, σ0) f0 ret c
theorem CfgLe.refl (q : Nat) (c : Cfg) : CfgLe q c c := fun _ _ _ _ _ _ _ h => h
theorem CfgLe.trans {q : Nat} {a b c : Cfg} (h : CfgLe q a b) (k : CfgLe q b c) : CfgLe q a c := fun P base w0 F0 σ0 f0 ret g => h P base w0 F0 σ0 f0 ret (k P base w0 F0 σ0 f0 ret g)
theorem CfgExt.le {q : Nat} {c c' : Cfg} (e : CfgExt c c') : CfgLe q c c' := fun _ _ _ _ _ _ _ h => good_ext e h

def Fr.to (T : V → V) (f : Fr) : Fr := ⟨f.fn, f.nt, f.t.map fun (d, v) => (d, T v), f.k⟩
theorem look_to (T : V → V) (hT : T .any = .any) : ∀ (t : Tm) (d : Nat), look (t.map fun (d, v) => (d, T v)) d = T (look t d)
  | [], d => hT.symm
  | (k, v) :: r, d => by
    show (bif Nat.beq k d then T v else look (r.map fun (d, v) => (d, T v)) d) = T (bif Nat.beq k d then v else look r d)
    cases Nat.beq k d
    · exact look_to T hT r d
    · rfl
theorem Fr0.to {F F' : Fz} {σ σ' : Sig} {T : V → V} (hT : T .any = .any) (hv : ∀ v x, RV F σ v x → RV F' σ' (T v) x) {fr : Fr} {b : Frame} {a : Act} (h : Fr0 F σ fr b a) : Fr0 F' σ' (fr.to T) b a :=
  ⟨h.fn, h.kind, h.defers, h.size, fun d => by rw [Fr.to, look_to T hT]; exact hv _ _ (h.tmps d)⟩
theorem FrsR.to {F F' : Fz} {σ σ' : Sig} {T : V → V} (hT : T .any = .any) (hv : ∀ v x, RV F σ v x → RV F' σ' (T v) x) : ∀ {fs : List Fr} {cs : List Frame}, FrsR F σ fs cs → FrsR F' σ' (fs.map (Fr.to T)) cs
  | [], [], _ => trivial
  | f :: fs, c :: cs, ⟨⟨b, a, e, h⟩, r⟩ => ⟨⟨b, a, e, h.to hT hv⟩, r.to hT hv⟩
  | [], _ :: _, h => h.elim
  | _ :: _, [], h => h.elim
theorem Re.le {q : Nat} {T : V → V} {h h' : List O} (hT : T .any = .any) (r : Re q T h h') {fr : Fr} {cs : List Fr} : CfgLe q ⟨fr, cs, h⟩ ⟨fr.to T, cs.map (Fr.to T), h'⟩ := by
  intro P base w0 F0 σ0 f0 ret hg hb σ F w b a fs cs0 g hF hw hf hfs hpn
  obtain ⟨σ', F', hF', g', hv, hq⟩ := r base σ F w g
  refine hg ?_ σ' F' w b a fs cs0 g' (hF.trans hF') hw (hf.to hT hv) (hfs.to hT hv) fun j hj y e => hq j hj y (hpn j hj y e)
  rw [← hb]
  exact botFn_map (Fr.to T) (fun _ => rfl) cs fr (fr.to T) rfl
theorem Fr.to_id (f : Fr) : f.to (fun v => v) = f := by simp [Fr.to]
/-- Objects told otherwise, the values as they are. -/
theorem Re.le_id {q : Nat} {h h' : List O} (r : Re q (fun v => v) h h') {fr : Fr} {cs : List Fr} : CfgLe q ⟨fr, cs, h⟩ ⟨fr, cs, h'⟩ := by
  have := r.le rfl (fr := fr) (cs := cs)
  rwa [Fr.to_id, show cs.map (Fr.to fun v => v) = cs from (List.map_congr_left fun f _ => f.to_id).trans (List.map_id cs)] at this
theorem Re.refl (q : Nat) (h : List O) : Re q (fun v => v) h h := fun base σ F w g => ⟨σ, F, FExt.refl _ _, g, fun _ _ r => r, fun _ _ _ e => e⟩
theorem Re.trans {q : Nat} {T T' : V → V} {a b c : List O} (h : Re q T a b) (k : Re q T' b c) : Re q (fun v => T' (T v)) a c := fun base σ F w g => by
  obtain ⟨σ1, F1, h1, h2, h3, h4⟩ := h base σ F w g
  obtain ⟨σ2, F2, k1, k2, k3, k4⟩ := k base σ1 F1 w h2
  exact ⟨σ2, F2, h1.trans k1, k2, fun v x r => k3 _ _ (h3 v x r), fun j hj y e => k4 j hj y (h4 j hj y e)⟩
theorem Re.idTrans {q : Nat} {a b c : List O} (h : Re q (fun v => v) a b) (k : Re q (fun v => v) b c) : Re q (fun v => v) a c := h.trans k
theorem Re.of {q : Nat} {h h' : List O} (r : ∀ (base : Blk) (σ : Sig) (F : Fz) (w : World), Gm base σ F h w → Gm base σ F h' w) : Re q (fun v => v) h h' := fun base σ F w g => ⟨σ, F, FExt.refl _ _, r base σ F w g, fun _ _ r => r, fun _ _ _ e => e⟩
theorem Re.exts {q : Nat} {h h' : List O} (e : OExts h h') : Re q (fun v => v) h h' := Re.of fun _ _ _ _ g => g.retell e.get
theorem Re.norm {q : Nat} {h : List O} {m : List Nat} (hm : nodupB m = true) (hq : ∀ j, j < q → m[j]? = some j) : Re q (V.forget m) h (normH h m) := fun base σ F w g =>
  ⟨cut m σ, F, FExt.refl _ _, g.forget hm, fun _ _ r => forget_rv r, fun j hj y e => by simp [cut, hq j hj, e]⟩

/-! ### a nil slice, told as a row of its own without elements -/
def setTm (d : Nat) (v : V) (t : Tm) : Tm := t.map fun (d', u) => (d', bif Nat.beq d' d then v else u)
theorem look_setTm (d : Nat) (v : V) : ∀ (t : Tm) (d' : Nat), look (setTm d v t) d' = look t d' ∨ (d' = d ∧ look (setTm d v t) d' = v)
  | [], d' => .inl rfl
  | (k, u) :: r, d' => by
    show (bif Nat.beq k d' then (bif Nat.beq k d then v else u) else look (setTm d v r) d') = (bif Nat.beq k d' then u else look r d') ∨ (d' = d ∧ (bif Nat.beq k d' then (bif Nat.beq k d then v else u) else look (setTm d v r) d') = v)
    cases hb : Nat.beq k d' with
    | false => exact look_setTm d v r d'
    | true =>
      have := Nat.eq_of_beq_eq_true hb
      subst this
      cases hb2 : Nat.beq k d with
      | false => exact .inl rfl
      | true => exact .inr ⟨Nat.eq_of_beq_eq_true hb2, rfl⟩
theorem Gm.nilRow {base : Blk} {σ : Sig} {F : Fz} {h : List O} {w : World} (g : Gm base σ F h w) {n : Nat} (hn : getO h n = .hole) (e : TypeId) (s : Nat) (f : Nat → List V) (p : Bool) :
    Gm base (sput σ n (.slice none 0 0)) F (putO h n (.row e s 0 f p)) w ∧ Sle σ (sput σ n (.slice none 0 0)) := by
  have hs : σ n = none := by obtain ⟨τ, g⟩ := g; have := g.obj n; rw [hn] at this; exact this
  refine ⟨?_, sput_le hs⟩
  obtain ⟨τ, g⟩ := g
  refine ⟨_, g.more (t := fun _ _ => none) hn (Nat.le_refl _) (fun b _ => rfl) ?_ (MR_simple rfl) fun b e => ?_⟩
  · exact ⟨.slice none 0 0, [], rfl, World.ownsRow_nil w 0 e s, fun i hi => by omega, fun i j u hi => by omega, fun u hu => by simp at hu⟩
  · rcases e with e | e
    · cases e
    · exact e.elim
theorem nil_own {q : Nat} {fn : FuncId} {nt : Nat} {t : Tm} {k : List Item} {cs : List Fr} {h : List O} (d n : Nat) (e : TypeId) (s : Nat) (f : Nat → List V) (hd : look t d = .kn (.slice none 0 0)) (hn : getO h n = .hole) :
    CfgLe q ⟨⟨fn, nt, t, k⟩, cs, h⟩ ⟨⟨fn, nt, setTm d (.sl n) t, k⟩, cs, putO h n (.row e s 0 f true)⟩ := by
  intro P base w0 F0 σ0 f0 ret hg hb σ F w b a fs cs0 g hF hw hf hfs hpn
  obtain ⟨g', hS⟩ := g.nilRow hn e s f true
  refine hg ?_ _ F w b a fs cs0 g' hF hw ⟨hf.fn, hf.kind, hf.defers, hf.size, fun d' => ?_⟩ (hfs.mono (Fle.refl _) hS) (hpn.mono hS)
  · rw [← hb]; cases cs <;> rfl
  · show RV F _ (look (setTm d (.sl n) t) d') _
    rcases look_setTm d (.sl n) t d' with h1 | ⟨h1, h2⟩
    · rw [h1]; exact (hf.tmps d').mono (Fle.refl _) hS
    · subst h1
      rw [h2]
      have := hf.tmps d'
      simp only [hd] at this
      generalize a.tmps.getD d' undef = x at this
      cases this
      exact .sl (by simp [sput])

/-- An own row, let be: read as a list from here on. -/
theorem sl_list {q : Nat} {fn : FuncId} {nt : Nat} {t : Tm} {k : List Item} {cs : List Fr} {h : List O} (d l : Nat) {e : TypeId} {s n : Nat} {f : Nat → List V} (hd : look t d = .sl l) (hO : getO h l = .row e s n f true) :
    CfgLe q ⟨⟨fn, nt, t, k⟩, cs, h⟩ ⟨⟨fn, nt, setTm d (.list s n f) t, k⟩, cs, putO h l (.fz s n f)⟩ := by
  intro P base w0 F0 σ0 f0 ret hg hb σ F w b a fs cs0 g hF hw hf hfs hpn
  obtain ⟨F1, hF1, g', hr⟩ := g.freeze1 hO
  refine hg ?_ σ F1 w b a fs cs0 g' (hF.trans hF1) hw ⟨hf.fn, hf.kind, hf.defers, hf.size, fun d' => ?_⟩ (hfs.mono hF1.1 (Sle.refl _)) hpn
  · rw [← hb]; cases cs <;> rfl
  · show RV F1 _ (look (setTm d (.list s n f) t) d') _
    rcases look_setTm d (.list s n f) t d' with h1 | ⟨h1, h2⟩
    · rw [h1]; exact (hf.tmps d').mono hF1.1 (Sle.refl _)
    · subst h1
      rw [h2]
      have := hf.tmps d'
      simp only [hd] at this
      generalize a.tmps.getD d' undef = x at this
      cases this with
      | sl hs => exact (hr x hs).mono (Fle.refl _) fun l y e => by simp [sig0] at e
/-- Objects that are forgotten, and new numbers. -/
theorem norm_le {q : Nat} {fr : Fr} {cs : List Fr} {h : List O} (m : List Nat) (hm : nodupB m = true) (hq : ∀ j, j < q → m[j]? = some j) : CfgLe q ⟨fr, cs, h⟩ ⟨fr.to (V.forget m), cs.map (Fr.to (V.forget m)), normH h m⟩ :=
  (Re.norm hm hq).le rfl

/-! ### a map's changes, taken in -/

section
variable {base : Blk} {σ : Sig} {F : Fz} {h : List O} {w : World}

theorem so_ren {F : Fz} {σ σ' : Sig} {w : World} {so : SO} {x : Option Value} (hs : ∀ l y, σ l = some y → σ' l = some y) (h : OR F σ w so.o x) : OR F σ' w so.o x := by
  cases so with
  | cells cs => exact h.congr (Fle.refl _) hs fun _ _ => rfl
  | row e s n f => exact h.congr (Fle.refl _) hs fun _ _ => rfl

/-- The numbers of what hangs on a key that was written are Q's. -/
theorem Gm.fold (g : Gm base σ F h w) {h' : List O} {l : Nat} {kd : KK} {ag : Bool} {n n' : Nat} {ov : List (Value × Option (List V))} {has has' : Value → Bool} {get get' : Value → List V} {sub sub' : Value → List SO}
    {its : List (Nat × (Value → Bool) × Option Value)} (Q : Value → List Nat) (hO : getO h l = .map kd ag n ov has get sub its) (hO' : getO h' l = .map kd ag n' [] has' get' sub' its) (hn : n = n')
    (H1 : ∀ k, kd.ok k = true → has' k = presB ov has k)
    (H2 : ∀ k, kd.ok k = true → findOv k ov = none → has k = true → get' k = get k ∧ sub' k = sub k)
    (H3 : ∀ (k : Value) (cs : List V), kd.ok k = true → findOv k ov = some (some cs) → nodupB (Q k) = true ∧ l ∉ Q k ∧ get' k = cs.map (V.ren1 fun q => idx q (Q k) 0) ∧ (sub' k).length = (Q k).length ∧
      ∀ (j q : Nat) (so : SO), (Q k)[j]? = some q → (sub' k)[j]? = some so → OExt ((getO h q).ren fun q => idx q (Q k) 0) so.o)
    (H4 : ∀ k k' cs cs' q, kd.ok k = true → kd.ok k' = true → findOv k ov = some (some cs) → findOv k' ov = some (some cs') → q ∈ Q k → q ∈ Q k' → k = k')
    (H5 : ∀ i, i ≠ l → ((∃ k cs, kd.ok k = true ∧ findOv k ov = some (some cs) ∧ i ∈ Q k) → getO h' i = .dead) ∧ ((¬ ∃ k cs, kd.ok k = true ∧ findOv k ov = some (some cs) ∧ i ∈ Q k) → getO h' i = getO h i)) :
    Gm base σ F h' w := by
  obtain ⟨τ, g⟩ := g
  subst hn
  let Wr : Value → Prop := fun k => kd.ok k = true ∧ ∃ cs, findOv k ov = some (some cs)
  let Hg : Nat → Prop := fun i => ∃ k cs, kd.ok k = true ∧ findOv k ov = some (some cs) ∧ i ∈ Q k
  have hgl : ¬ Hg l := fun ⟨k, cs, h1, h2, h3⟩ => (H3 k cs h1 h2).2.1 h3
  open Classical in
  let t' : Tau := fun k => if Wr k then cut (Q k) σ else τ l k
  have tw : ∀ {k}, Wr k → t' k = cut (Q k) σ := fun hk => if_pos hk
  have tb : ∀ {k}, ¬ Wr k → t' k = τ l k := fun hk => if_neg hk
  have hm := g.mp l
  rw [hO] at hm
  obtain ⟨b, es, clk, hx, hheap, m⟩ := hm
  -- a key that is there: written, or of the base
  have key : ∀ {k}, Bk kd [] has' k → (Wr k) ∨ (¬ Wr k ∧ Bk kd ov has k) := fun {k} hk => by
    have hp : presB ov has k = true := by rw [← H1 k hk.1]; exact hk.2.2
    rw [presB_find] at hp
    cases hf : findOv k ov with
    | none => rw [hf] at hp; exact .inr ⟨fun ⟨_, cs, e⟩ => (by rw [hf] at e; cases e), hk.1, hf, hp⟩
    | some c =>
      cases c with
      | some cs => exact .inl ⟨hk.1, cs, hf⟩
      | none => rw [hf] at hp; cases hp
  have subB : ∀ {k}, ¬ Wr k → Bk kd ov has k → get' k = get k ∧ sub' k = sub k := fun _ hk => H2 _ hk.1 hk.2.1 hk.2.2
  -- what hangs on a written key
  have subW : ∀ {k j so}, Wr k → (sub' k)[j]? = some so → ∃ q, (Q k)[j]? = some q ∧ q ≠ l ∧ Hg q ∧ t' k j = σ q ∧ OExt ((getO h q).ren fun q => idx q (Q k) 0) so.o := fun {k j so} hk hs => by
    obtain ⟨hk1, cs, hf⟩ := hk
    obtain ⟨a1, a2, a3, a4, a5⟩ := H3 k cs hk1 hf
    have hj : j < (Q k).length := by rw [← a4]; exact (List.getElem?_eq_some_iff.1 hs).1
    have hq := List.getElem?_eq_getElem hj
    refine ⟨(Q k)[j], hq, fun e => a2 (by rw [← e]; exact List.getElem_mem hj), ⟨k, cs, hk1, hf, List.getElem_mem hj⟩, ?_, a5 j _ so hq hs⟩
    rw [tw ⟨hk1, cs, hf⟩]
    simp [cut, hq]
  have obW : ∀ {k j so b}, Wr k → (sub' k)[j]? = some so → ob so.o (t' k j) = some b → ∃ q, (Q k)[j]? = some q ∧ q ≠ l ∧ Hg q ∧ ob (getO h q) (σ q) = some b := fun {k j so b} hk hs e => by
    obtain ⟨q, h1, h2, h3, h4, h5⟩ := subW hk hs
    rw [h4] at e
    refine ⟨q, h1, h2, h3, ?_⟩
    have := h5.own F (cut (Q k) σ) w (σ q) ((g.obj q).ren (rn_idx (Q k) σ)) b e
    rwa [ob_ren] at this
  have bDead : ∀ {i b}, ¬ ab σ (τ i) .dead (σ i) b := fun {i b} e => by rcases e with e | e <;> cases e
  -- the blocks of the map, as it is told now
  have mbOld : ∀ {b}, mbM σ t' kd [] has' sub' its b → (∃ q, q ≠ l ∧ Hg q ∧ ob (getO h q) (σ q) = some b) ∨ mb σ (τ l) (getO h l) b := fun {b} e => by
    rw [hO]
    rcases e with ⟨k, j, so, hk, hs, ho⟩ | ⟨q, x, h1, h2⟩
    · rcases key hk with hw | ⟨hw, hb⟩
      · obtain ⟨q, h1, h2, h3, h4⟩ := obW hw hs ho
        exact .inl ⟨q, h2, h3, h4⟩
      · rw [(subB hw hb).2] at hs
        rw [tb hw] at ho
        exact .inr (.inl ⟨k, j, so, hb, hs, ho⟩)
    · exact .inr (.inr ⟨q, x, h1, h2⟩)
  have abOld : ∀ {b}, ab σ t' (.map kd ag n [] has' get' sub' its) (σ l) b → ∃ i, (i = l ∨ Hg i) ∧ ab σ (τ i) (getO h i) (σ i) b := fun {b} e => by
    rcases e with e | e
    · refine ⟨l, .inl rfl, .inl ?_⟩
      rw [hO]; cases hxx : σ l with
      | none => rw [hxx] at e; cases e
      | some v => rw [hxx] at e; cases v <;> first | exact e | cases e
    · rcases mbOld e with ⟨q, h1, h2, h3⟩ | h1
      · exact ⟨q, .inr h2, .inl h3⟩
      · exact ⟨l, .inl rfl, .inr h1⟩
  have mNew : MapR F σ t' w b es clk kd ag n [] has' get' sub' its := by
    refine { size := m.size, keys := m.keys, dist := m.dist, bornD := m.bornD, bornL := m.bornL, mem := fun k hk => ?_, val := fun e he => ?_, subs := fun k hk j so hs => ?_, tone := fun k j y e => ?_,
             ssep := fun k k' j j' so so' b h1 h2 h3 h4 h5 h6 => ?_, itsR := m.itsR, itsD := m.itsD, itsB := m.itsB, itsS := fun k j so q x bi h1 h2 h3 h4 h5 => ?_, main := fun e => ?_ }
    · show has' k = true ↔ _
      rw [H1 k hk]; exact m.mem k hk
    · have hv := m.val e he
      have hok := m.keys e he
      have hpres := (m.mem e.key hok).2 ⟨e, he, rfl⟩
      show VR F (t' e.key) ag (get' e.key) e.val
      unfold VA at hv
      cases hf : findOv e.key ov with
      | none =>
        rw [hf] at hv
        rw [presB_find, hf] at hpres
        have hnw : ¬ Wr e.key := fun ⟨_, cs, e⟩ => by rw [hf] at e; cases e
        rw [tb hnw, (H2 e.key hok hf hpres).1]
        exact hv
      | some c =>
        rw [hf] at hv
        cases c with
        | none => exact hv.elim
        | some cs =>
          rw [tw ⟨hok, cs, hf⟩, (H3 e.key cs hok hf).2.2.1]
          exact VR.ren hv (rn_idx _ _)
    · rcases key hk with hw | ⟨hw, hb⟩
      · obtain ⟨q, h1, h2, h3, h4, h5⟩ := subW hw hs
        rw [h4, tw hw]
        exact h5.rel F _ w _ ((g.obj q).ren (rn_idx (Q k) σ))
      · rw [(subB hw hb).2] at hs
        rw [tb hw]
        exact m.subs k hb j so hs
    · by_cases hw : Wr k
      · rw [tw hw] at e
        simp only [cut, Option.bind_eq_some_iff] at e
        obtain ⟨q, _, hq⟩ := e
        exact (g.obj q).one y hq
      · rw [tb hw] at e
        exact m.tone k j y e
    · rcases key h1 with hw | ⟨hw, hb⟩ <;> rcases key h2 with hw' | ⟨hw', hb'⟩
      · obtain ⟨q, e1, e2, e3, e4⟩ := obW hw h3 h5
        obtain ⟨q', e1', e2', e3', e4'⟩ := obW hw' h4 h6
        have := g.sep q q' b (.inl e4) (.inl e4')
        subst this
        obtain ⟨o1, cs, f1⟩ := hw
        obtain ⟨o2, cs', f2⟩ := hw'
        have := H4 k k' cs cs' q o1 o2 f1 f2 (List.mem_of_getElem? e1) (List.mem_of_getElem? e1')
        subst this
        exact ⟨rfl, nodupB_spec (H3 k cs o1 f1).1 j j' q e1 e1'⟩
      · obtain ⟨q, e1, e2, e3, e4⟩ := obW hw h3 h5
        rw [(subB hw' hb').2] at h4
        rw [tb hw'] at h6
        exact (e2 (g.sep q l b (.inl e4) (.inr (by rw [hO]; exact .inl ⟨k', j', so', hb', h4, h6⟩)))).elim
      · obtain ⟨q, e1, e2, e3, e4⟩ := obW hw' h4 h6
        rw [(subB hw hb).2] at h3
        rw [tb hw] at h5
        exact (e2 (g.sep q l b (.inl e4) (.inr (by rw [hO]; exact .inl ⟨k, j, so, hb, h3, h5⟩)))).elim
      · rw [(subB hw hb).2] at h3
        rw [(subB hw' hb').2] at h4
        rw [tb hw] at h5
        rw [tb hw'] at h6
        exact m.ssep k k' j j' so so' b hb hb' h3 h4 h5 h6
    · rcases key h1 with hw | ⟨hw, hb⟩
      · obtain ⟨q', e1, e2, e3, e4⟩ := obW hw h2 h3
        exact e2 (g.sep q' l bi (.inl e4) (.inr (by rw [hO]; exact .inr ⟨q, x, h4, h5⟩)))
      · rw [(subB hw hb).2] at h2
        rw [tb hw] at h3
        exact m.itsS k j so q x bi hb h2 h3 h4 h5
    · rcases mbOld e with ⟨q, h1, h2, h3⟩ | h1
      · exact h1 (g.sep q l b (.inl h3) (.inl (by rw [hO, hx]; rfl)))
      · rw [hO] at h1
        exact m.main h1
  refine ⟨fun i => if i = l then t' else τ i, fun i => ?_, fun i => ?_, fun i b' e => ?_, fun i i' b' e e' => ?_, g.fz⟩
  · by_cases hi : i = l
    · subst hi
      rw [hO']
      have := g.obj i
      rw [hO] at this
      exact this
    · by_cases hh : Hg i
      · rw [(H5 i hi).1 hh]; exact (g.obj i).one
      · rw [(H5 i hi).2 hh]; exact g.obj i
  · by_cases hi : i = l
    · subst hi
      rw [hO', if_pos rfl]
      exact ⟨b, es, clk, hx, hheap, mNew⟩
    · rw [if_neg hi]
      by_cases hh : Hg i
      · rw [(H5 i hi).1 hh]; trivial
      · rw [(H5 i hi).2 hh]; exact g.mp i
  · by_cases hi : i = l
    · subst hi
      rw [hO', if_pos rfl] at e
      obtain ⟨i', _, e'⟩ := abOld e
      exact g.own i' b' e'
    · rw [if_neg hi] at e
      by_cases hh : Hg i
      · rw [(H5 i hi).1 hh] at e; exact (bDead e).elim
      · rw [(H5 i hi).2 hh] at e; exact g.own i b' e
  · have other : ∀ {i}, i ≠ l → ab σ (if i = l then t' else τ i) (getO h' i) (σ i) b' → ¬ Hg i ∧ ab σ (τ i) (getO h i) (σ i) b' := fun {i} hi e => by
      rw [if_neg hi] at e
      by_cases hh : Hg i
      · rw [(H5 i hi).1 hh] at e; exact (bDead e).elim
      · rw [(H5 i hi).2 hh] at e; exact ⟨hh, e⟩
    have mine : ab σ (if l = l then t' else τ l) (getO h' l) (σ l) b' → ∃ i, (i = l ∨ Hg i) ∧ ab σ (τ i) (getO h i) (σ i) b' := fun e => by
      rw [hO', if_pos rfl] at e; exact abOld e
    by_cases hi : i = l
    · by_cases hi' : i' = l
      · rw [hi, hi']
      · subst hi
        obtain ⟨q, hq, eq⟩ := mine e
        obtain ⟨n1, e1⟩ := other hi' e'
        have := g.sep q i' b' eq e1
        subst this
        rcases hq with hq | hq
        · exact (hi' hq).elim
        · exact (n1 hq).elim
    · by_cases hi' : i' = l
      · subst hi'
        obtain ⟨q, hq, eq⟩ := mine e'
        obtain ⟨n1, e1⟩ := other hi e
        have := g.sep q i b' eq e1
        subst this
        rcases hq with hq | hq
        · exact (hi hq).elim
        · exact (n1 hq).elim
      · exact g.sep i i' b' (other hi e).2 (other hi' e').2

theorem getO_dead : ∀ (qs : List Nat) (h : List O) (i : Nat), getO (ups (qs.map fun j => (j, .dead)) h) i = if i ∈ qs then .dead else getO h i
  | [], h, i => by simp [ups]
  | q :: r, h, i => by
    show getO (ups (r.map fun j => (j, .dead)) (putO h q .dead)) i = _
    rw [getO_dead r, getO_putO]
    by_cases h1 : i ∈ r
    · simp [h1]
    · by_cases h2 : i = q
      · subst h2; simp
      · simp [h1, h2]
/-- One key's change, taken in. -/
theorem fold_re {q : Nat} {h : List O} (l : Nat) {kd : KK} {ag : Bool} {n : Nat} {ov : List (Value × Option (List V))} {has has' : Value → Bool} {get get' : Value → List V} {sub sub' : Value → List SO}
    {its : List (Nat × (Value → Bool) × Option Value)} {k0 : Value} {cs0 : List V} (qs : List Nat) (hO : getO h l = .map kd ag n ov has get sub its) (hk0 : kd.ok k0 = true)
    (hov : ∀ k, findOv k ov = bif keq k k0 then some (some cs0) else none)
    (H1 : ∀ k, kd.ok k = true → has' k = (keq k k0 || has k))
    (H2 : ∀ k, kd.ok k = true → keq k k0 = false → has k = true → get' k = get k ∧ sub' k = sub k)
    (H3 : get' k0 = cs0.map (V.ren1 fun q => idx q qs 0) ∧ (sub' k0).length = qs.length ∧ ∀ (j q : Nat) (so : SO), qs[j]? = some q → (sub' k0)[j]? = some so → OExt ((getO h q).ren fun q => idx q qs 0) so.o)
    (hn : nodupB qs = true) (hl : l ∉ qs) :
    Re q (fun v => v) h (ups (qs.map fun j => (j, .dead)) (putO h l (.map kd ag n [] has' get' sub' its))) := by
  refine (Re.of fun base σ F w g => g.fold (l := l) (fun _ => qs) hO (by rw [getO_dead, if_neg hl, getO_putO, if_pos rfl]) rfl (fun k hk => ?_) (fun k hk hf hh => ?_) (fun k c hk hf => ?_) (fun k k' c c' i hk hk' hf hf' _ _ => ?_) (fun i hi => ⟨?_, ?_⟩))
  · rw [H1 k hk, presB_find, hov k]
    cases keq k k0 <;> rfl
  · rw [hov k] at hf
    cases hq : keq k k0 with
    | true => rw [hq] at hf; cases hf
    | false => exact H2 k hk hq hh
  · rw [hov k] at hf
    cases hq : keq k k0 with
    | false => rw [hq] at hf; cases hf
    | true =>
      rw [hq] at hf
      cases hf
      have := (keq_iff hk hk0).1 hq
      subst this
      exact ⟨hn, hl, H3.1, H3.2.1, H3.2.2⟩
  · rw [hov k] at hf
    rw [hov k'] at hf'
    cases hq : keq k k0 with
    | false => rw [hq] at hf; cases hf
    | true =>
      cases hq' : keq k' k0 with
      | false => rw [hq'] at hf'; cases hf'
      | true => rw [(keq_iff hk hk0).1 hq, (keq_iff hk' hk0).1 hq']
  · rintro ⟨k, c, _, _, hm⟩
    rw [getO_dead, if_pos hm]
  · intro hno
    have : i ∉ qs := fun hm => hno ⟨k0, cs0, hk0, by rw [hov, keq_self hk0]; rfl, hm⟩
    rw [getO_dead, if_neg this, getO_putO, if_neg hi]
theorem fold_one {q : Nat} {fr : Fr} {cs : List Fr} {h : List O} (l : Nat) {kd : KK} {ag : Bool} {n : Nat} {ov : List (Value × Option (List V))} {has has' : Value → Bool} {get get' : Value → List V} {sub sub' : Value → List SO}
    {its : List (Nat × (Value → Bool) × Option Value)} {k0 : Value} {cs0 : List V} (qs : List Nat) (hO : getO h l = .map kd ag n ov has get sub its) (hk0 : kd.ok k0 = true)
    (hov : ∀ k, findOv k ov = bif keq k k0 then some (some cs0) else none)
    (H1 : ∀ k, kd.ok k = true → has' k = (keq k k0 || has k))
    (H2 : ∀ k, kd.ok k = true → keq k k0 = false → has k = true → get' k = get k ∧ sub' k = sub k)
    (H3 : get' k0 = cs0.map (V.ren1 fun q => idx q qs 0) ∧ (sub' k0).length = qs.length ∧ ∀ (j q : Nat) (so : SO), qs[j]? = some q → (sub' k0)[j]? = some so → OExt ((getO h q).ren fun q => idx q qs 0) so.o)
    (hn : nodupB qs = true) (hl : l ∉ qs) :
    CfgLe q ⟨fr, cs, h⟩ ⟨fr, cs, ups (qs.map fun j => (j, .dead)) (putO h l (.map kd ag n [] has' get' sub' its))⟩ :=
  Re.le_id (fold_re l qs hO hk0 hov H1 H2 H3 hn hl)
/-- A map that nothing was written to, its base told otherwise. -/
theorem map_same {q : Nat} {fr : Fr} {cs : List Fr} {h : List O} (l : Nat) {kd : KK} {ag : Bool} {n : Nat} {has has' : Value → Bool} {get get' : Value → List V} {sub sub' : Value → List SO}
    {its : List (Nat × (Value → Bool) × Option Value)} (hO : getO h l = .map kd ag n [] has get sub its) (H1 : ∀ k, kd.ok k = true → has' k = has k)
    (H2 : ∀ k, kd.ok k = true → has k = true → get' k = get k ∧ sub' k = sub k) : CfgLe q ⟨fr, cs, h⟩ ⟨fr, cs, putO h l (.map kd ag n [] has' get' sub' its)⟩ :=
  Re.le_id (Re.of fun base σ F w g => g.fold (l := l) (fun _ => []) hO (by rw [getO_putO, if_pos rfl]) rfl (fun k hk => H1 k hk) (fun k hk _ hh => H2 k hk hh) (fun k c hk hf => by cases hf) (fun k k' c c' i hk hk' hf => by cases hf)
    fun i hi => ⟨fun ⟨k, c, hk, hf, _⟩ => (by cases hf), fun _ => by rw [getO_putO, if_neg hi]⟩)
end
end Go.Aw

/-
  Contracts by the executor.
-/
namespace Go.Aw
open Go Go.RowKit
set_option linter.unusedVariables false
set_option linter.unusedSimpArgs false

section
variable {P : Program} {f : FuncId} {fn : Func} {c : Code} {con : FuncId → Option Spec} {hs : Hints}

/-- A contract on values, at arguments that are told otherwise. -/
theorem con_of_run3 {G : PSpec} (n : Nat) (hfn : P.funcs[f]? = some fn) (hc : fn.body = some c) (hname : (fn.name == "runtime.NumGoroutine") = false) (hq : hs.1 = 0)
    (hcon : ∀ f s, con f = some s → SpecOK P f s)
    (hrun : ∀ as p r, G as = some (p, r) → p → ∃ as', VExts as as' ∧ as'.length ≤ fn.ntmps ∧ ∀ (good : Cfg → Prop), (∀ c, arun P con hs good (RetO (Tells r)) n c → good c) → (∀ c c', CfgExt c c' → good c' → good c) → (∀ c c', CfgLe 0 c c' → good c' → good c) → arun P con hs good (RetO (Tells r)) n (entry P f as')) : SpecOK P f (lift G) := by
  refine lift_ok ⟨⟨fn, c, hfn, hc, hname⟩, fun as p r hG hp F w xs hH hrv => ?_⟩
  obtain ⟨as', hext, hle, hr⟩ := hrun as p r hG hp
  have g0 : Gm (ltB w.heap.size) sig0 F [] w := Gm.empty _ hH
  have hgood := run_good (F0 := F) (f0 := f) (pin := (0, sig0)) (ret := RetO (Tells r)) hq hcon (und_lt w.heap.size) n (hr _ (fun c h => run_good hq hcon (und_lt _) n h) (fun c c' e h => good_ext e h) fun c c' e h => e P _ w F sig0 f _ h)
  have he : entry P f as' = ⟨⟨f, fn.ntmps, args2 0 as', [.code c]⟩, [], []⟩ := by simp [entry, hfn, hc]
  rw [he] at hgood
  refine (calls_of_good (pin := (0, sig0)) ⟨fn, c, hfn, hc, hname⟩ g0 (und_lt _) (hext.rvs hrv) hfn hc hle hgood).mono ?_
  rintro e w' ⟨x, rfl, v, h', σ', F', hret, g', hv, hF, hb, _⟩
  have hx := frz_ext g'
  obtain ⟨r', hr', hre⟩ := hret
  exact ⟨x, rfl, frz F' σ' h' w', hF.trans hx, frz_holds g', hre _ _ _ (toPure_rv g' hr' hv), hb⟩

/-- A law's call. -/
theorem law_calls3 (n : Nat) (hfn : P.funcs[f]? = some fn) (hc : fn.body = some c) (hname : (fn.name == "runtime.NumGoroutine") = false) (hq : hs.1 = 0)
    (hcon : ∀ f s, con f = some s → SpecOK P f s) {args args' : List V} {xs : List Value} {w : World} (hrv : RVl (whole w) args xs) (hext : VExts args args') (hle : args.length ≤ fn.ntmps)
    (hrun : ∀ (good : Cfg → Prop), (∀ c, arun P con hs good (RetO (Tells (.kn (.bool true)))) n c → good c) → (∀ c c', CfgExt c c' → good c' → good c) → (∀ c c', CfgLe 0 c c' → good c' → good c) → arun P con hs good (RetO (Tells (.kn (.bool true)))) n (entry P f args')) :
    Calls P f xs.toArray w fun e w' => e = .returned (.bool true) ∧ Below w.heap.size w w' := by
  have g0 : Gm (ltB w.heap.size) sig0 (whole w) [] w := Gm.empty _ fun b o e => e
  have hrvs : RVs (whole w) sig0 args' xs.toArray := hext.rvs (RVs.mk hrv.rvs.1 hrv.rvs.2)
  have hgood := run_good (F0 := whole w) (f0 := f) (pin := (0, sig0)) (ret := RetO (Tells (.kn (.bool true)))) hq hcon (und_lt w.heap.size) n (hrun _ (fun c h => run_good hq hcon (und_lt _) n h) (fun c c' e h => good_ext e h) fun c c' e h => e P _ w _ sig0 f _ h)
  have he : entry P f args' = ⟨⟨f, fn.ntmps, args2 0 args', [.code c]⟩, [], []⟩ := by simp [entry, hfn, hc]
  rw [he] at hgood
  refine (calls_of_good (pin := (0, sig0)) ⟨fn, c, hfn, hc, hname⟩ g0 (und_lt _) hrvs hfn hc (by rw [← hext.get.1]; exact hle) hgood).mono ?_
  rintro e w' ⟨x, rfl, v, h', σ', F', hret, g', hv, hF, hb, _⟩
  refine ⟨?_, hb.below⟩
  obtain ⟨r', hr', hre⟩ := hret
  have := hre _ _ _ (toPure_rv g' hr' hv)
  cases this
  rfl
end

/-! ### over objects -/

section
variable {P : Program} {base : Blk} {σ : Sig} {F : Fz} {h : List O} {w : World}

theorem pv3_rv {F1 : Fz} {D : Nat → O} {m : List Nat} (hF : Fle F F1) {v : V} {x : Value} (hR : ∀ l ∈ v.ids, l ∉ m → Rd F1 σ D [l]) (h : RV F σ v x) : RV F1 σ (pv3 D m v) x := by
  cases v with
  | tup vs =>
    cases h with
    | tup hl hh =>
      refine .tup (by simpa using hl) fun i u hu => ?_
      simp only [List.getElem?_map, Option.map_eq_some_iff] at hu
      obtain ⟨u', hu', rfl⟩ := hu
      rcases (show (∀ l ∈ u'.ids, l ∈ u'.ids2) ∨ ∃ vs, u' = .tup vs by cases u' <;> first | exact .inl fun _ h => h | exact .inr ⟨_, rfl⟩) with h1 | ⟨vs, rfl⟩
      · exact pv2_rv hF (fun l hl hlm => hR l (List.mem_flatMap.2 ⟨u', List.mem_of_getElem? hu', h1 l hl⟩) hlm) (hh i u' hu')
      · exact (hh i _ hu').mono hF (Sle.refl _)
  | agg cs => exact pv2_rv (v := .agg cs) hF hR h
  | fn f cap => exact pv2_rv (v := .fn f cap) hF hR h
  | sl l => exact pv2_rv (v := .sl l) hF hR h
  | kn y => exact pv2_rv (v := .kn y) hF hR h
  | _ => exact h.mono hF (Sle.refl _)

theorem pv1r_rv {F1 : Fz} {D : Nat → O} {m : List Nat} (hF : Fle F F1) {v : V} {x : Value} (hR : ∀ l ∈ v.ids1, l ∉ m → Rd F1 σ D [l]) (h : RV F σ v x) : RV F1 σ (pv1r D m v) x := by
  unfold pv1r
  split
  · exact h.mono hF (Sle.refl _)
  · exact pv1_rv hF hR h
theorem pvOr_or {F1 : Fz} {D : Nat → O} {m : List Nat} (hF : Fle F F1) {o : O} {x : Option Value} (hR : ∀ l ∈ o.ids, l ∉ m → Rd F1 σ D [l]) (h : OR F σ w o x) : OR F1 σ w (pvOr D m o) x := by
  cases o with
  | cells cs =>
    obtain ⟨b, arr, e, h1, h2, h3, h4⟩ := h
    refine ⟨b, arr, e, h1, h2, by simpa [pvOr] using h3, fun j v hv => ?_⟩
    simp only [List.getElem?_map, Option.map_eq_some_iff] at hv
    obtain ⟨u, hu, rfl⟩ := hv
    exact pv1r_rv hF (fun l hl => hR l (List.mem_flatMap.2 ⟨u, List.mem_of_getElem? hu, ids1_sub2 hl⟩)) (h4 j u hu)
  | _ => exact h.congr hF (Sle.refl _) fun _ _ => rfl
theorem ob_pvOr {D : Nat → O} {m : List Nat} (o : O) (x : Option Value) : ob (pvOr D m o) x = ob o x := by
  cases o with
  | cells cs =>
    cases x with
    | none => rfl
    | some v =>
      cases v with
      | pointer a => cases a <;> rfl
      | _ => rfl
  | _ => rfl
theorem mb_pvOr {D : Nat → O} {m : List Nat} {t : Tau} (o : O) (b : Nat) : mb σ t (pvOr D m o) b → mb σ t o b := by cases o <;> exact id
theorem MR_pvOr {D : Nat → O} {m : List Nat} {t : Tau} {o : O} {x : Option Value} (h : MR F σ t w o x) : MR F σ t w (pvOr D m o) x := by cases o <;> first | exact h | trivial
/-- The named objects, and a value, as a contract tells them. -/
theorem Gm.canon (g : Gm base σ F h w) {m : List Nat} (hn : nodupB m = true) (u : V) : ∃ F1, FExt base F F1 ∧ Gm base (cut m σ) F1 (m.map fun l => (pvOr (getO h) m (getO h l)).forget m) w ∧
    ∀ x, RV F σ u x → RV F1 (cut m σ) ((pv3 (getO h) m u).forget m) x := by
  obtain ⟨F1, hF1, ⟨τ, g1⟩, hR, hk1⟩ := g.freeze (letBe (getO h) m [u])
  have hRd : ∀ l, l ∈ [u].flatMap V.ids ++ (m.flatMap fun l => (getO h l).ids) → l ∉ m → Rd F1 σ (getO h) [l] := fun l hl hlm => hR.sub fun q hq => by
    simp only [List.mem_singleton] at hq
    subst hq
    refine List.mem_filter.2 ⟨hl, ?_⟩
    cases hb : m.any fun y => Nat.beq y q with
    | false => rfl
    | true => exact (hlm (any_beq.1 hb)).elim
  have hsame : ∀ l ∈ m, getO (ups (frzL (getO h) (letBe (getO h) m [u])) h) l = getO h l := fun l hl => ups_other fun p hp e => letBe_not (frzL_mem hp) (by rw [e]; exact hl)
  have hrn := rn_idx m σ
  have hget : ∀ j, getO (m.map fun l => (pvOr (getO h) m (getO h l)).forget m) j = match m[j]? with | some l => (pvOr (getO h) m (getO h l)).forget m | none => .hole := fun j => getO_map _ m j
  have hab : ∀ {j b}, ab (cut m σ) ((m[j]?).elim (fun _ _ => none) τ) (getO (m.map fun l => (pvOr (getO h) m (getO h l)).forget m) j) (cut m σ j) b →
      ∃ l, m[j]? = some l ∧ ab σ (τ l) (getO (ups (frzL (getO h) (letBe (getO h) m [u])) h) l) (σ l) b := fun {j b} e => by
    cases hl : m[j]? with
    | none => rw [hget, hl] at e; rcases e with e | e <;> cases e
    | some l =>
      refine ⟨l, rfl, ?_⟩
      rw [hget, hl] at e
      have e2 : cut m σ j = σ l := by simp [cut, hl]
      rw [e2] at e
      have := ab_ren hrn e
      rw [hsame l (List.mem_of_getElem? hl)]
      rcases this with h1 | h1
      · exact .inl (by rwa [ob_pvOr] at h1)
      · exact .inr (mb_pvOr _ b h1)
  refine ⟨F1, hF1, ⟨fun j => (m[j]?).elim (fun _ _ => none) τ, fun j => ?_, fun j => ?_, fun j b e => ?_, fun j j' b e e' => ?_, g1.fz⟩, fun x hx => ?_⟩
  · rw [hget]
    cases hl : m[j]? with
    | none => simp [OR, cut, hl]
    | some l =>
      have e2 : cut m σ j = σ l := by simp [cut, hl]
      rw [e2]
      exact OR.ren (pvOr_or hF1.1 (fun q hq hqm => hRd q (List.mem_append_right _ (List.mem_flatMap.2 ⟨l, List.mem_of_getElem? hl, hq⟩)) hqm) (g.obj l)) hrn
  · rw [hget]
    cases hl : m[j]? with
    | none => trivial
    | some l =>
      have e2 : cut m σ j = σ l := by simp [cut, hl]
      rw [e2]
      have := g1.mp l
      rw [hsame l (List.mem_of_getElem? hl)] at this
      exact (MR_pvOr this).ren hrn (inj_idx m)
  · obtain ⟨l, hl, e⟩ := hab e
    exact g1.own l b e
  · obtain ⟨l, hl, e⟩ := hab e
    obtain ⟨l', hl', e'⟩ := hab e'
    have := g1.sep l l' b e e'
    subst this
    exact nodupB_spec hn j j' l hl hl'
  · exact forget_rv (pv3_rv hF1.1 (fun l hl hlm => hRd l (List.mem_append_left _ (by simpa using hl)) hlm) hx)

/-- The leaves of what a contract tells. -/
def Leaf : Out → (Prop → V → List O → Prop) → Prop
  | .ret p v h, K => K p v h
  | .fork b x y, K => bif b then Leaf x K else Leaf y K
  | .none, _ => True

/-- What is handed back tells r, and the objects tell hs. -/
def TellsO (q : Nat) (r : V) (hs : List O) (v : V) (h : List O) : Prop := VExt v r ∧ Re q (fun v => v) h hs

theorem tellO {q : Nat} {r v : V} {h hs : List O} (hv : VExt v r) (ho : OExts h hs) : TellsO q r hs v h := ⟨hv, Re.exts ho⟩
theorem tellO_bool {q : Nat} {b s : Bool} {h hs : List O} (e : b = s) (ho : OExts h hs) : TellsO q (.kn (.bool s)) hs (.kn (.bool b)) h := tellO (by subst e; exact VExt.refl _) ho
theorem tellO_eq {q : Nat} {r v : V} {h hs : List O} (e : v = r) (ho : OExts h hs) : TellsO q r hs v h := tellO (by subst e; exact VExt.refl _) ho
theorem OExts.refl : ∀ (h : List O), OExts h h
  | [] => trivial
  | o :: r => ⟨OExt.refl o, OExts.refl r⟩
theorem range_get (q : Nat) (ms : List Nat) : ∀ j, j < q → (List.range q ++ ms)[j]? = some j := fun j hj => by
  rw [List.getElem?_append_left (by simpa using hj)]; simp [hj]

/-- A contract over objects, by the executor. -/
theorem con_of_runS {f : FuncId} {fn : Func} {c : Code} {con : FuncId → Option Spec} {hs : Hints} {G : SSpec} (n : Nat) (rets : List (Nat × List Nat)) (hfn : P.funcs[f]? = some fn) (hc : fn.body = some c) (hname : (fn.name == "runtime.NumGoroutine") = false)
    (hcon : ∀ f s, con f = some s → SpecOK P f s)
    (hrun : ∀ as os, Leaf (G as os) fun p r hr => p → ∃ as' os', VExts as as' ∧ as'.length ≤ fn.ntmps ∧ hs.1 = os.length ∧ Re hs.1 (fun v => v) os os' ∧
      ∀ (good : Cfg → Prop), (∀ c, arun P con hs good (RetS hs.1 as' rets (TellsO hs.1 r hr)) n c → good c) → (∀ c c', CfgExt c c' → good c' → good c) → (∀ c c', CfgLe hs.1 c c' → good c' → good c) →
        arun P con hs good (RetS hs.1 as' rets (TellsO hs.1 r hr)) n (entryO P f as' os')) : SCon P f G := by
  refine ⟨⟨fn, c, hfn, hc, hname⟩, fun base σ F w as os xs g hbase hrv => ?_⟩
  have hr := hrun as os
  generalize G as os = out at hr
  induction out with
  | none => trivial
  | fork b x y ih1 ih2 =>
    cases b with
    | true => exact ih1 hr
    | false => exact ih2 hr
  | ret p r hr' =>
    intro hp
    obtain ⟨as', os', hext, hle, hq, hre, hr⟩ := hr hp
    obtain ⟨σ1, F1, hF1, g1, hv1, hk1⟩ := hre base σ F w g
    have hrv1 : RVs F1 σ1 as' xs := hext.rvs ⟨hrv.1, fun i v hv => hv1 v _ (hrv.2 i v hv)⟩
    have hgood := run_good (P := P) (base := base) (w0 := w) (F0 := F1) (f0 := f) (pin := (hs.1, σ1)) (ret := RetS hs.1 as' rets (TellsO hs.1 r hr')) rfl hcon hbase n
      (hr _ (fun c h => run_good rfl hcon hbase n h) (fun c c' e h => good_ext e h) fun c c' e h => e P base w F1 σ1 f _ h)
    have he : entryO P f as' os' = ⟨⟨f, fn.ntmps, args2 0 as', [.code c]⟩, [], os'⟩ := by simp [entryO, entry, hfn, hc]
    rw [he] at hgood
    refine (calls_of_good (pin := (hs.1, σ1)) ⟨fn, c, hfn, hc, hname⟩ g1 hbase hrv1 hfn hc hle hgood).mono ?_
    rintro e w' ⟨x, rfl, v, h', σ', F', hret, g', hv, hF, hb, hpn⟩
    refine ⟨x, rfl, ?_⟩
    unfold RetS at hret
    cases hms : argIds (getO h') (v.parts ++ as') rets with
    | none => rw [hms] at hret; exact hret.elim
    | some ms =>
      rw [hms] at hret
      dsimp only at hret
      cases hn : nodupB (List.range hs.1 ++ ms) with
      | false => rw [hn] at hret; exact hret.elim
      | true =>
        rw [hn] at hret
        simp only [cond_true] at hret
        obtain ⟨F2, hF2, g2, hc2⟩ := g'.canon hn v
        obtain ⟨hvx, hro⟩ := hret
        obtain ⟨σ3, F3, hF3, g3, hv3, hk3⟩ := hro base _ F2 w' g2
        refine ⟨σ3, F3, fun j hj y e => ?_, g3, hv3 _ _ (hvx _ _ _ (hc2 x hv)), ((hF1.trans hF).trans hF2).trans hF3, hb⟩
        have hj' : j < hs.1 := by rw [hq]; exact hj
        refine hk3 j hj' y ?_
        rw [show cut (List.range hs.1 ++ ms) σ' j = σ' j by simp only [cut, range_get hs.1 ms j hj', Option.bind_some]]
        exact hpn j hj' y (hk1 j hj' y e)
end
end Go.Aw

/-
  The rest of a function, from a range over a function on, by the kit's law.
-/
namespace Go.Aw
open Go Go.RowKit
set_option linter.unusedVariables false
set_option linter.unusedSimpArgs false

section
variable {P : Program} {base : Blk} {σ : Sig} {F : Fz} {h : List O} {w : World}

/-- What has changed in some blocks alone. -/
structure Chg (bs : List Nat) (w w' : World) : Prop where
  os : w'.os = w.os
  tape : w'.tape = w.tape
  output : w'.output = w.output
  size : w.heap.size ≤ w'.heap.size
  block : ∀ b, b < w.heap.size → b ∉ bs → w'.heap[b]? = w.heap[b]?

theorem Chg.of_below {bs : List Nat} {w w' : World} (h : Below w.heap.size w w') : Chg bs w w' := ⟨h.os, h.tape, h.output, h.size, fun b hb _ => h.block b hb⟩
theorem Chg.trans_below {bs : List Nat} {w w1 w' : World} (h : Chg bs w w1) (k : Below w.heap.size w1 w') : Chg bs w w' :=
  ⟨k.os.trans h.os, k.tape.trans h.tape, k.output.trans h.output, Nat.le_trans h.size k.size, fun b hb hn => (k.block b hb).trans (h.block b hb hn)⟩

theorem Chg.set {bs : List Nat} {w w1 : World} (h : Chg bs w w1) {b : Nat} (hb : b ∈ bs) (v : Value) : Chg bs w (w1.setCell ⟨b, 0, none⟩ v) := by
  have hg := grownBy_setCell' w1 b v
  exact ⟨hg.os.trans h.os, hg.tape.trans h.tape, hg.output.trans h.output, Nat.le_trans h.size hg.size, fun k hk hn => (hg.block k (Nat.lt_of_lt_of_le hk h.size) fun e => hn (by cases e; exact hb)).trans (h.block k hk hn)⟩

theorem set_far {W : World} {b c : Nat} {v : Value} (h : b ≠ c) : (W.setCell ⟨b, 0, none⟩ v).cell? ⟨c, 0, none⟩ = W.cell? ⟨c, 0, none⟩ := World.cell?_setCell_other _ _ _ _ (by simpa using h)
theorem set_near {W : World} {b : Nat} {u v : Value} (h : W.cell? ⟨b, 0, none⟩ = some u) : (W.setCell ⟨b, 0, none⟩ v).cell? ⟨b, 0, none⟩ = some v := World.cell?_setCell_same' _ _ _ (by rw [h]; rfl)
theorem set_heap {W : World} {b D : Nat} {v : Value} {o : Obj} (h : b ≠ D) (hK : W.heap[D]? = some o) : (W.setCell ⟨b, 0, none⟩ v).heap[D]? = some o :=
  ((grownBy_setCell' W b v).block D (Array.getElem?_eq_some_iff.1 hK).1 fun e => h (by cases e; rfl)).trans hK

/-- Cells that are given up. -/
theorem Gm.kill (g : Gm base σ F h w) {w' : World} (qs : List Nat) (hz : w.heap.size ≤ w'.heap.size)
    (hb : ∀ b, b < w.heap.size → (∀ l ∈ qs, ob (getO h l) (σ l) ≠ some b) → w'.heap[b]? = w.heap[b]?) (hq : ∀ l ∈ qs, ∃ cs, getO h l = .cells cs) : Gm base σ F (ups (qs.map fun j => (j, .dead)) h) w' := by
  have hone := g.one
  obtain ⟨τ, g⟩ := g
  have bDead : ∀ {i b}, ¬ ab σ (τ i) .dead (σ i) b := fun {i b} e => by rcases e with e | e <;> cases e
  have hab : ∀ {i b}, ab σ (τ i) (getO (ups (qs.map fun j => (j, .dead)) h) i) (σ i) b → i ∉ qs ∧ ab σ (τ i) (getO h i) (σ i) b := fun {i b} e => by
    rw [getO_dead] at e
    split at e
    · exact (bDead e).elim
    · rename_i hi; exact ⟨hi, e⟩
  have hk : ∀ {i b}, i ∉ qs → ab σ (τ i) (getO h i) (σ i) b → w'.heap[b]? = w.heap[b]? := fun {i b} hi e =>
    hb b (g.own i b e).2.1 fun l hl e' => hi (by rw [g.sep i l b e (.inl e')]; exact hl)
  refine ⟨τ, fun i => ?_, fun i => ?_, fun i b e => ?_, fun i i' b e e' => g.sep i i' b (hab e).2 (hab e').2, fun b o e => ?_⟩
  · rw [getO_dead]
    split
    · exact fun y hy => hone i y hy
    · rename_i hi; exact (g.obj i).congr (Fle.refl _) (Sle.refl _) fun b e => hk hi (.inl e)
  · rw [getO_dead]
    split
    · trivial
    · rename_i hi; exact (g.mp i).congr (Fle.refl _) (Sle.refl _) fun b e => hk hi e
  · have := g.own i b (hab e).2
    exact ⟨this.1, Nat.lt_of_lt_of_le this.2.1 hz, this.2.2⟩
  · have h1 := g.fz b o e
    rw [hb b (Array.getElem?_eq_some_iff.1 h1).1 fun l hl e' => by have := (g.own l b (.inl e')).2.2; rw [e] at this; cases this]
    exact h1

/-- A frame that stands at a code, with what follows it in a block, and then leaves. -/
theorem tail_of_wp {n : Nat} {fn : Func} {f : FuncId} {c r : Code} {id : Nat} {a : Act} {w : World} {R : Ending → World → Prop} (hf : P.funcs[f]? = some fn)
    (h : c.wpIn Fence.wide n P (fun e a w => match e with
      | .normal => r.wpIn Fence.wide n P (bodyPostM Fence.wide n P fn R) a w
      | .ret => LeavesInM Fence.wide n P fn a.tmps R a.defers .returning w
      | _ => False) a w) (hR : ∀ e w, R e w → ∃ x, e = .returned x) (b : Frame) (hb : b.fn = f) (hk : b.kind = .normal) (cs : List Frame) :
    ∃ x w' frl, R (.returned x) w' ∧ Steps P (lone (b.at a [.code c, .inBlock id, .code r]) cs w) (lone frl cs w') ∧ frl.fn = f ∧ frl.leaving P w' (.returned x) := by
  let b' : Frame := { b with roundOf := none }
  have hb' : ∀ a k, b'.atR a k = b.at a k := fun a k => by simp [b', Frame.atR, Frame.at]
  have hfin : ∀ {e : Ending} {w2 : World} {fr : Frame} {m : Machine}, Steps P (lone (b.at a [.code c, .inBlock id, .code r]) cs w) m → R e w2 → ComesIn (Machine.fenced P Fence.wide) P m (lone fr cs w2) e → fr.fn = f → fr.leaving P w2 e →
      ∃ x w' frl, R (.returned x) w' ∧ Steps P (lone (b.at a [.code c, .inBlock id, .code r]) cs w) (lone frl cs w') ∧ frl.fn = f ∧ frl.leaving P w' (.returned x) := by
    intro e w2 fr m h1 hr h2 h3 h4
    obtain ⟨x, rfl⟩ := hR e w2 hr
    exact ⟨x, w2, fr, hr, h1.trans (stepsIn_wide.1 h2), h3, h4⟩
  obtain ⟨e, a1, w1, hq, harr⟩ := h b' [.inBlock id, .code r] cs rfl trivial (room_wide _)
  cases e with
  | normal =>
    have h1 : Steps P (lone (b.at a [.code c, .inBlock id, .code r]) cs w) (lone (b.at a1 [.inBlock id, .code r]) cs w1) := by
      have := stepsIn_wide.1 harr; rwa [hb', hb'] at this
    have h2 : Steps P (lone (b.at a1 [.inBlock id, .code r]) cs w1) (lone (b.at a1 [.code r]) cs w1) := .one step_inBlock
    obtain ⟨e, a2, w2, hq2, harr2⟩ := hq b' [] cs rfl trivial (room_wide _)
    rw [hb'] at harr2
    cases e with
    | normal =>
      obtain ⟨e', w'', fr', hR', hs, hfn, hl⟩ := leaves_stepsInM a2.defers .returning w2 { b'.atR a2 [] with mode := .returning } cs rfl rfl rfl (by rw [← hb] at hf; exact hf) hk trivial (room_wide _) hq2
      exact hfin (((h1.trans h2).trans (stepsIn_wide.1 harr2)).trans (.one (stepR_end rfl))) hR' hs (by rw [hfn]; exact hb) hl
    | ret =>
      obtain ⟨todo, hs₀⟩ := harr2.1 rfl
      obtain ⟨e', w'', fr', hR', hs, hfn, hl⟩ := leaves_stepsInM a2.defers .returning w2 { b'.atR a2 todo with mode := .returning } cs rfl rfl rfl (by rw [← hb] at hf; exact hf) hk trivial (room_wide _) hq2
      exact hfin ((h1.trans h2).trans (stepsIn_wide.1 hs₀)) hR' hs (by rw [hfn]; exact hb) hl
    | panic chain =>
      obtain ⟨todo, hs₀⟩ := harr2
      obtain ⟨e', w'', fr', hR', hs, hfn, hl⟩ := leaves_stepsInM a2.defers (.panicking chain) w2 { b'.atR a2 todo with mode := .panicking chain } cs rfl rfl rfl (by rw [← hb] at hf; exact hf) hk trivial (room_wide _) hq2
      exact hfin ((h1.trans h2).trans (stepsIn_wide.1 hs₀)) hR' hs (by rw [hfn]; exact hb) hl
    | exit id => exact hq2.elim
    | goto l => exact hq2.elim
    | outgrown => obtain ⟨x, hx⟩ := hR _ _ hq2; cases hx
  | ret =>
    obtain ⟨todo, hs₀⟩ := harr.1 rfl
    rw [hb'] at hs₀
    obtain ⟨e', w'', fr', hR', hs, hfn, hl⟩ := leaves_stepsInM a1.defers .returning w1 { b'.atR a1 todo with mode := .returning } cs rfl rfl rfl (by rw [← hb] at hf; exact hf) hk trivial (room_wide _) hq
    exact hfin (stepsIn_wide.1 hs₀) hR' hs (by rw [hfn]; exact hb) hl
  | panic chain => exact hq.elim
  | exit id => exact hq.elim
  | goto l => exact hq.elim
  | outgrown => exact hq.elim
theorem tail_done {n : Nat} {fn : Func} {f : FuncId} {c r : Code} {id : Nat} {a : Act} {w : World} (R : Ending → World → Prop) {Q : Value → World → Prop} (hf : P.funcs[f]? = some fn)
    (b : Frame) (hb : b.fn = f) (hk : b.kind = .normal) (cs : List Frame) (hR : ∀ e w, R e w → ∃ x, e = .returned x ∧ Q x w)
    (h : c.wpIn Fence.wide n P (fun e a w => match e with
      | .normal => r.wpIn Fence.wide n P (bodyPostM Fence.wide n P fn R) a w
      | .ret => LeavesInM Fence.wide n P fn a.tmps R a.defers .returning w
      | _ => False) a w) :
    ∃ x w' frl, Q x w' ∧ Steps P (lone (b.at a [.code c, .inBlock id, .code r]) cs w) (lone frl cs w') ∧ frl.fn = f ∧ frl.leaving P w' (.returned x) := by
  obtain ⟨x, w', frl, h1, h2⟩ := tail_of_wp (id := id) hf h (fun e w hr => (hR e w hr).imp fun _ h => h.1) b hb hk cs
  obtain ⟨x', e, hq⟩ := hR _ _ h1
  cases e
  exact ⟨x, w', frl, hq, h2⟩
/-- A nil slice in a cell, told as a row of its own without elements. -/
theorem nil_cell_re {q : Nat} {h : List O} (l j n : Nat) (e : TypeId) (s : Nat) (f : Nat → List V) (cs0 : List V) (hl : getO h l = .cells cs0) (hj : cs0[j]? = some (.kn (.slice none 0 0))) (hn : getO h n = .hole) :
    Re q (fun v => v) h (putO (putO h n (.row e s 0 f true)) l (.cells (cs0.set j (.sl n)))) := fun base σ F w g => by
  obtain ⟨g', hS⟩ := g.nilRow hn e s f true
  have hne : l ≠ n := fun e' => by rw [e', hn] at hl; cases hl
  have hl' : getO (putO h n (.row e s 0 f true)) l = .cells cs0 := by rw [getO_putO, if_neg hne]; exact hl
  refine ⟨_, F, FExt.refl _ _, g'.upd (l := l) (o := .cells (cs0.set j (.sl n))) (.inl ?_) (Nat.le_refl _) (fun b _ _ => rfl) ?_, fun v x hr => hr.mono (Fle.refl _) hS, fun j' hj' y hy => hS _ _ hy⟩
  · rw [hl']
    generalize sput σ n (.slice none 0 0) l = y
    rcases y with _ | v
    · rfl
    · cases v <;> first | rfl | (rename_i a; cases a <;> rfl)
  · have ho := g'.obj l
    rw [hl'] at ho
    obtain ⟨b, arr, e', hx, hb, hsz, hr⟩ := ho
    refine ⟨b, arr, e', hx, hb, by simpa using hsz, fun i v hi => ?_⟩
    rw [List.getElem?_set] at hi
    split at hi
    · rename_i hij
      subst hij
      split at hi
      · cases hi
        have h1 := hr j _ hj
        generalize arr.getD j undef = x at h1
        cases h1
        exact .sl (by simp [sput])
      · cases hi
    · exact hr i v hi
theorem nil_cell {q : Nat} {fr : Fr} {cs : List Fr} {h : List O} (l j n : Nat) (e : TypeId) (s : Nat) (f : Nat → List V) (cs0 : List V) (hl : getO h l = .cells cs0) (hj : cs0[j]? = some (.kn (.slice none 0 0))) (hn : getO h n = .hole) :
    CfgLe q ⟨fr, cs, h⟩ ⟨fr, cs, putO (putO h n (.row e s 0 f true)) l (.cells (cs0.set j (.sl n)))⟩ := Re.le_id (nil_cell_re l j n e s f cs0 hl hj hn)

/-- An own row that a cell holds, let be: the cell holds a list from here on. -/
theorem cell_fz {q : Nat} {h : List O} (l p j : Nat) {e : TypeId} {s n : Nat} {f : Nat → List V} {cs0 : List V} (hl : getO h l = .row e s n f true) (hp : getO h p = .cells cs0) (hj : cs0[j]? = some (.sl l)) :
    Re q (fun v => v) h (putO (putO h l (.fz s n f)) p (.cells (cs0.set j (.list s n f)))) := fun base σ F w g => by
  obtain ⟨F1, hF1, g', hr⟩ := g.freeze1 hl
  have hne : p ≠ l := fun e' => by rw [e', hl] at hp; cases hp
  have hp' : getO (putO h l (.fz s n f)) p = .cells cs0 := by rw [getO_putO, if_neg hne]; exact hp
  refine ⟨σ, F1, hF1, g'.upd (l := p) (o := .cells (cs0.set j (.list s n f))) (.inl ?_) (Nat.le_refl _) (fun b _ _ => rfl) ?_, fun v x hr => hr.mono hF1.1 (Sle.refl _), fun j' hj' y hy => hy⟩
  · rw [hp']
    generalize σ p = y
    rcases y with _ | v
    · rfl
    · cases v <;> first | rfl | (rename_i a; cases a <;> rfl)
  · have ho := g'.obj p
    rw [hp'] at ho
    obtain ⟨b, arr, e', hx, hb, hsz, hrr⟩ := ho
    refine ⟨b, arr, e', hx, hb, by simpa using hsz, fun i v hi => ?_⟩
    rw [List.getElem?_set] at hi
    split at hi
    · rename_i hij
      subst hij
      split at hi
      · cases hi
        have h1 := hrr j _ hj
        generalize arr.getD j undef = x at h1
        cases h1 with
        | sl hs => exact (hr x hs).mono (Fle.refl _) fun l y e => by simp [sig0] at e
      · cases hi
    · exact hrr i v hi

/-- What is handed back tells r, and the objects tell hs, by a retelling. -/
def TellsT (q : Nat) (r : V) (hs : List O) (v : V) (h : List O) : Prop := ∃ (T : V → V) (v' : V), VExt v v' ∧ Re q T h hs ∧ T v' = r
theorem tellT_kn {q : Nat} {T : V → V} {x y : Value} {h hs : List O} (e : x = y) (hr : Re q T h hs) (hT : T (.kn x) = .kn x) : TellsT q (.kn y) hs (.kn x) h := ⟨T, .kn x, VExt.refl _, hr, by rw [hT, e]⟩

/-- A row that a cell holds, told by a new number; the old one isn't told any more. -/
theorem move_cell {q : Nat} {h h' : List O} (l p j m : Nat) {e : TypeId} {s n : Nat} {f : Nat → List V} {cs0 : List V} (hl : getO h l = .row e s n f true) (hp : getO h p = .cells cs0) (hj : cs0[j]? = some (.sl l)) (hm : getO h m = .hole)
    (hlm : l ≠ m) (hpm : p ≠ m) (h'e : h' = putO (putO (putO h l .dead) m (.row e s n f true)) p (.cells (cs0.set j (.sl m))) := by rfl) : Re q (fun v => v) h h' := fun base σ F w g => by
  subst h'e
  have hpl : p ≠ l := fun e' => by rw [e', hl] at hp; cases hp
  have ho := g.obj l
  rw [hl] at ho
  obtain ⟨v, xs, hv, _⟩ := id ho
  have hone := g.one
  have hσm : σ m = none := by have := g.obj m; rw [hm] at this; exact this
  have hS : Sle σ (sput σ m v) := sput_le hσm
  have g2 : Gm base (sput σ m v) F (putO (putO h l .dead) m (.row e s n f true)) w := by
    obtain ⟨τ, g⟩ := g
    obtain ⟨g1, hab⟩ := g.updM (l := l) (o := .dead) (t' := fun _ _ => none) (Nat.le_refl _) (fun b _ _ => rfl) (fun y hy => hone l y hy) (MR_simple rfl) (fun b e => by rcases e with e | e <;> cases e)
    have hm1 : getO (putO h l .dead) m = .hole := by rw [getO_putO, if_neg (Ne.symm hlm)]; exact hm
    refine ⟨_, g1.more (t := fun _ _ => none) hm1 (Nat.le_refl _) (fun b _ => rfl) ?_ (MR_simple rfl) fun b hb => ?_⟩
    · rw [hv] at ho
      exact ho.congr (Fle.refl _) hS fun _ _ => rfl
    · have hb' : ob (getO h l) (σ l) = some b := by
        rw [hl, hv]
        exact ab_simple rfl hb
      obtain ⟨o1, o2, o3⟩ := g.own l b (.inl hb')
      refine ⟨o1, o2, o3, fun i hi => ?_⟩
      have hil := g.sep i l b (hab i b hi) (.inl hb')
      subst hil
      rw [getO_putO, if_pos rfl] at hi
      simp only [tput, if_true] at hi
      rcases hi with e | e <;> cases e
  have hp2 : getO (putO (putO h l .dead) m (.row e s n f true)) p = .cells cs0 := by rw [getO_putO, if_neg hpm, getO_putO, if_neg hpl]; exact hp
  refine ⟨sput σ m v, F, FExt.refl _ _, g2.upd (l := p) (o := .cells (cs0.set j (.sl m))) (.inl ?_) (Nat.le_refl _) (fun b _ _ => rfl) ?_, fun v x hr => hr.mono (Fle.refl _) hS, fun j' hj' y hy => hS _ _ hy⟩
  · rw [hp2]
    generalize sput σ m v p = y
    rcases y with _ | v
    · rfl
    · cases v <;> first | rfl | (rename_i a; cases a <;> rfl)
  · have ho := g2.obj p
    rw [hp2] at ho
    obtain ⟨b, arr, e', hx, hb, hsz, hr⟩ := ho
    refine ⟨b, arr, e', hx, hb, by simpa using hsz, fun i u hi => ?_⟩
    rw [List.getElem?_set] at hi
    split at hi
    · rename_i hij
      subst hij
      split at hi
      · cases hi
        have ho' := g.obj p
        rw [hp] at ho'
        obtain ⟨b', arr', e'', hx', hb', hsz', hr'⟩ := ho'
        have hxx : sput σ m v p = σ p := by simp [sput, hpm]
        rw [hxx, hx'] at hx
        cases hx
        rw [hb'] at hb
        cases hb
        have h1 := hr' j _ hj
        generalize arr.getD j undef = x at h1
        cases h1 with
        | sl hs => rw [hv] at hs; cases hs; exact .sl (by simp [sput])
      · cases hi
    · exact hr i u hi
theorem Leaf.imp {K K' : Prop → V → List O → Prop} (h : ∀ p r o, K p r o → K' p r o) : ∀ o, Leaf o K → Leaf o K'
  | .none, _ => trivial
  | .ret p r o, k => h p r o k
  | .fork true x y, k => Leaf.imp h x k
  | .fork false x y, k => Leaf.imp h y k
/-- A contract over objects, by the executor; what it makes may hang on what comes in. -/
theorem con_of_runS3 {f : FuncId} {fn : Func} {c : Code} {con : FuncId → Option Spec} {hs : Hints} {G : SSpec} (hfn : P.funcs[f]? = some fn) (hc : fn.body = some c) (hname : (fn.name == "runtime.NumGoroutine") = false)
    (hcon : ∀ f s, con f = some s → SpecOK P f s)
    (hrun : ∀ as os, Leaf (G as os) fun p r hr => p → ∃ (n : Nat) (rets : List (Nat × List Nat)) (as' : List V) (os' : List O), VExts as as' ∧ as'.length ≤ fn.ntmps ∧ hs.1 = os.length ∧ Re hs.1 (fun v => v) os os' ∧
      ∀ (good : Cfg → Prop), (∀ c, arun P con hs good (RetS hs.1 as' rets (TellsT hs.1 r hr)) n c → good c) → (∀ c c', CfgExt c c' → good c' → good c) → (∀ c c', CfgLe hs.1 c c' → good c' → good c) →
        arun P con hs good (RetS hs.1 as' rets (TellsT hs.1 r hr)) n (entryO P f as' os')) : SCon P f G := by
  refine ⟨⟨fn, c, hfn, hc, hname⟩, fun base σ F w as os xs g hbase hrv => ?_⟩
  have hr := hrun as os
  generalize G as os = out at hr
  induction out with
  | none => trivial
  | fork b x y ih1 ih2 =>
    cases b with
    | true => exact ih1 hr
    | false => exact ih2 hr
  | ret p r hr' =>
    intro hp
    obtain ⟨n, rets, as', os', hext, hle, hq, hre, hr⟩ := hr hp
    obtain ⟨σ1, F1, hF1, g1, hv1, hk1⟩ := hre base σ F w g
    have hrv1 : RVs F1 σ1 as' xs := hext.rvs ⟨hrv.1, fun i v hv => hv1 v _ (hrv.2 i v hv)⟩
    have hgood := run_good (P := P) (base := base) (w0 := w) (F0 := F1) (f0 := f) (pin := (hs.1, σ1)) (ret := RetS hs.1 as' rets (TellsT hs.1 r hr')) rfl hcon hbase n
      (hr _ (fun c h => run_good rfl hcon hbase n h) (fun c c' e h => good_ext e h) fun c c' e h => e P base w F1 σ1 f _ h)
    have he : entryO P f as' os' = ⟨⟨f, fn.ntmps, args2 0 as', [.code c]⟩, [], os'⟩ := by simp [entryO, entry, hfn, hc]
    rw [he] at hgood
    refine (calls_of_good (pin := (hs.1, σ1)) ⟨fn, c, hfn, hc, hname⟩ g1 hbase hrv1 hfn hc hle hgood).mono ?_
    rintro e w' ⟨x, rfl, v, h', σ', F', hret, g', hv, hF, hb, hpn⟩
    refine ⟨x, rfl, ?_⟩
    unfold RetS at hret
    cases hms : argIds (getO h') (v.parts ++ as') rets with
    | none => rw [hms] at hret; exact hret.elim
    | some ms =>
      rw [hms] at hret
      dsimp only at hret
      cases hn : nodupB (List.range hs.1 ++ ms) with
      | false => rw [hn] at hret; exact hret.elim
      | true =>
        rw [hn] at hret
        simp only [cond_true] at hret
        obtain ⟨F2, hF2, g2, hc2⟩ := g'.canon hn v
        obtain ⟨T, v', hvx, hro, hTr⟩ := hret
        obtain ⟨σ3, F3, hF3, g3, hv3, hk3⟩ := hro base _ F2 w' g2
        refine ⟨σ3, F3, fun j hj y e => ?_, g3, by rw [← hTr]; exact hv3 _ _ (hvx _ _ _ (hc2 x hv)), ((hF1.trans hF).trans hF2).trans hF3, hb⟩
        have hj' : j < hs.1 := by rw [hq]; exact hj
        refine hk3 j hj' y ?_
        rw [show cut (List.range hs.1 ++ ms) σ' j = σ' j by simp only [cut, range_get hs.1 ms j hj', Option.bind_some]]
        exact hpn j hj' y (hk1 j hj' y e)
theorem con_of_runS2 {f : FuncId} {fn : Func} {c : Code} {con : FuncId → Option Spec} {hs : Hints} {G : SSpec} (n : Nat) (hfn : P.funcs[f]? = some fn) (hc : fn.body = some c) (hname : (fn.name == "runtime.NumGoroutine") = false)
    (hcon : ∀ f s, con f = some s → SpecOK P f s)
    (hrun : ∀ as os, Leaf (G as os) fun p r hr => p → ∃ (rets : List (Nat × List Nat)) (as' : List V) (os' : List O), VExts as as' ∧ as'.length ≤ fn.ntmps ∧ hs.1 = os.length ∧ Re hs.1 (fun v => v) os os' ∧
      ∀ (good : Cfg → Prop), (∀ c, arun P con hs good (RetS hs.1 as' rets (TellsT hs.1 r hr)) n c → good c) → (∀ c c', CfgExt c c' → good c' → good c) → (∀ c c', CfgLe hs.1 c c' → good c' → good c) →
        arun P con hs good (RetS hs.1 as' rets (TellsT hs.1 r hr)) n (entryO P f as' os')) : SCon P f G :=
  con_of_runS3 hfn hc hname hcon fun as os => Leaf.imp (fun _ _ _ h hp => ⟨n, h hp⟩) _ (hrun as os)

/-- One row is handed back, or the nil slice. -/
def RetN (as : List V) (ways : List (Nat × List Nat)) (R : V → List O → Prop) (v : V) (h : List O) : Prop :=
  match v with
  | .kn (.slice none 0 0) => R v []
  | v => RetS 0 as ways R v h
theorem retN {as : List V} {ways : List (Nat × List Nat)} {R : V → List O → Prop} {v : V} {h : List O} (r : RetN as ways R v h) : (v = .kn (.slice none 0 0) ∧ R v []) ∨ RetS 0 as ways R v h := by
  unfold RetN at r
  split at r
  · exact .inl ⟨rfl, r⟩
  · exact .inr r
/-- A contract on values that hands back a row of its own, or the nil slice. -/
theorem con_of_runN {f : FuncId} {fn : Func} {c : Code} {con : FuncId → Option Spec} {hs : Hints} {G : SSpec} (n : Nat) (hfn : P.funcs[f]? = some fn) (hc : fn.body = some c) (hname : (fn.name == "runtime.NumGoroutine") = false)
    (hcon : ∀ f s, con f = some s → SpecOK P f s)
    (hrun : ∀ as os, Leaf (G as os) fun p r hr => p → hs.1 = 0 ∧ ∃ (rets : List (Nat × List Nat)) (as' : List V) (os' : List O), VExts as as' ∧ as'.length ≤ fn.ntmps ∧ hs.1 = os.length ∧ Re hs.1 (fun v => v) os os' ∧
      ∀ (good : Cfg → Prop), (∀ c, arun P con hs good (RetN as' rets (TellsT hs.1 r hr)) n c → good c) → (∀ c c', CfgExt c c' → good c' → good c) → (∀ c c', CfgLe hs.1 c c' → good c' → good c) →
        arun P con hs good (RetN as' rets (TellsT hs.1 r hr)) n (entryO P f as' os')) : SCon P f G := by
  refine ⟨⟨fn, c, hfn, hc, hname⟩, fun base σ F w as os xs g hbase hrv => ?_⟩
  have hr := hrun as os
  generalize G as os = out at hr
  induction out with
  | none => trivial
  | fork b x y ih1 ih2 =>
    cases b with
    | true => exact ih1 hr
    | false => exact ih2 hr
  | ret p r hr' =>
    intro hp
    obtain ⟨hq0, rets, as', os', hext, hle, hq, hre, hr⟩ := hr hp
    obtain ⟨σ1, F1, hF1, g1, hv1, hk1⟩ := hre base σ F w g
    have hrv1 : RVs F1 σ1 as' xs := hext.rvs ⟨hrv.1, fun i v hv => hv1 v _ (hrv.2 i v hv)⟩
    have hgood := run_good (P := P) (base := base) (w0 := w) (F0 := F1) (f0 := f) (pin := (hs.1, σ1)) (ret := RetN as' rets (TellsT hs.1 r hr')) rfl hcon hbase n
      (hr _ (fun c h => run_good rfl hcon hbase n h) (fun c c' e h => good_ext e h) fun c c' e h => e P base w F1 σ1 f _ h)
    have he : entryO P f as' os' = ⟨⟨f, fn.ntmps, args2 0 as', [.code c]⟩, [], os'⟩ := by simp [entryO, entry, hfn, hc]
    rw [he] at hgood
    refine (calls_of_good (pin := (hs.1, σ1)) ⟨fn, c, hfn, hc, hname⟩ g1 hbase hrv1 hfn hc hle hgood).mono ?_
    rintro e w' ⟨x, rfl, v, h', σ', F', hret, g', hv, hF, hb, hpn⟩
    refine ⟨x, rfl, ?_⟩
    rcases retN hret with ⟨rfl, hret⟩ | hret
    · obtain ⟨T, v', hvx, hro, hTr⟩ := hret
      have g2 := g'.forget (m := []) rfl
      obtain ⟨σ3, F3, hF3, g3, hv3, hk3⟩ := hro base _ _ w' g2
      refine ⟨σ3, F3, fun j hj y e => ?_, g3, by rw [← hTr]; exact hv3 _ x (hvx F' (cut [] σ') x (by cases hv; exact .kn)), ((hF1.trans hF)).trans hF3, hb⟩
      · rw [← hq, hq0] at hj; omega
    have hret : RetS hs.1 as' rets (TellsT hs.1 r hr') v h' := by rw [show RetS hs.1 = RetS 0 from by rw [hq0]]; exact hret
    unfold RetS at hret
    cases hms : argIds (getO h') (v.parts ++ as') rets with
    | none => rw [hms] at hret; exact hret.elim
    | some ms =>
      rw [hms] at hret
      dsimp only at hret
      cases hn : nodupB (List.range hs.1 ++ ms) with
      | false => rw [hn] at hret; exact hret.elim
      | true =>
        rw [hn] at hret
        simp only [cond_true] at hret
        obtain ⟨F2, hF2, g2, hc2⟩ := g'.canon hn v
        obtain ⟨T, v', hvx, hro, hTr⟩ := hret
        obtain ⟨σ3, F3, hF3, g3, hv3, hk3⟩ := hro base _ F2 w' g2
        refine ⟨σ3, F3, fun j hj y e => ?_, g3, by rw [← hTr]; exact hv3 _ _ (hvx _ _ _ (hc2 x hv)), ((hF1.trans hF).trans hF2).trans hF3, hb⟩
        have hj' : j < hs.1 := by rw [hq]; exact hj
        refine hk3 j hj' y ?_
        rw [show cut (List.range hs.1 ++ ms) σ' j = σ' j by simp only [cut, range_get hs.1 ms j hj', Option.bind_some]]
        exact hpn j hj' y (hk1 j hj' y e)
/-- The nil slice, told as a row of its own without elements. -/
theorem tellN_nil {e : TypeId} {s n : Nat} {f : Nat → List V} (hn : n = 0) : TellsT 0 (.sl 0) [.row e s n f true] (.kn (.slice none 0 0)) [] := by
  subst hn
  refine ⟨fun v => match v with | .kn (.slice none 0 0) => .sl 0 | v => v, _, VExt.refl _, fun base σ F w g => ?_, rfl⟩
  obtain ⟨g', hS⟩ := g.nilRow (n := 0) rfl e s f true
  refine ⟨_, F, FExt.refl _ _, g', fun v x hr => ?_, fun j hj => by omega⟩
  dsimp only
  split
  · cases hr; exact .sl (by simp [sput])
  · exact hr.mono (Fle.refl _) hS
theorem tellN_row {e : TypeId} {s n m : Nat} {f g : Nat → List V} {p : Bool} (h : OExt (.row e s n f p) (.row e s m g p)) : TellsT 0 (.sl 0) [.row e s m g p] (.sl 0) [.row e s n f p] := ⟨fun v => v, _, VExt.refl _, Re.exts ⟨h, trivial⟩, rfl⟩
end
end Go.Aw

