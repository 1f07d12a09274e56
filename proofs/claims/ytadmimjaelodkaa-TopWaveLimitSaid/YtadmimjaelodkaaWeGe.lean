/- Contracts on data. No condition. -/
import Derived.Test.YtadmimjaelodkaaWeGd
/- What the data say of a function's body is the function's contract. No condition. -/
namespace Go.DI
open Go.RowKit

inductive DRes where
  | tmp (t : Nat)
  | cell (a : Nat) (agg : Bool) (n : Nat)
  deriving Inhabited

structure DFn where
  nargs : Nat
  ntmps : Nat
  res : List DRes
  body : DCode
  deriving Inhabited

def DRes.get (st : St) : DRes → Option IV
  | .tmp t => match view st.res (st.env t) with | .imm v => some v | _ => none
  | .cell a agg n => match st.env a, resVw st.res (st.env a) with
    | .ref _ off, some (.box cells) =>
      if agg then (if off + n ≤ cells.length then match allImm ((cells.drop off).take n) with | some vs => some (.agg vs) | none => none else none)
      else match cells[off]? with | some (.imm v) => some v | _ => none
    | _, _ => none

def getAll (st : St) : List DRes → Option (List IV)
  | [] => some []
  | r :: rs => match r.get st with
    | some v => match getAll st rs with | some vs => some (v :: vs) | none => none
    | none => none

def retV : List IV → IV
  | [v] => v
  | vs => .tup vs

def DFn.out (d : DFn) (st : St) : Option IV := (getAll st d.res).map retV

def DFn.init (ds : List IV) : St := { env := fun x => match ds[x]? with | some v => .imm v | none => .undef, res := fun _ => none }

def DFn.post (d : DFn) (r : IV) : Ex → St → Prop
  | .exit _, _ => False
  | _, st => d.out st = some r

def chkRes (P : Program) : ResultVar → DRes → Bool
  | .tmp t, .tmp t' => t == t'
  | .cell a t, .cell a' agg n => a == a' && aggIs P t agg && szIs P t n
  | _, _ => false

def chkRess (P : Program) : List ResultVar → List DRes → Bool
  | [], [] => true
  | x :: xs, y :: ys => chkRes P x y && chkRess P xs ys
  | _, _ => false

def chkFn (P : Program) (fn : Func) (d : DFn) : Bool :=
  (match fn.body with | some c => chkCode P fn.ntmps [] d.body c | none => false) && chkRess P fn.results.toList d.res && decide (fn.ntmps = d.ntmps) && decide (d.nargs ≤ d.ntmps) && !(fn.name == "runtime.NumGoroutine")

section
variable {P : Program} {B : Base}

def resRun (tmps : Array Value) : ResultVar → Sem Value
  | .tmp t => pure (tmps.getD t undef)
  | .cell a t => do loadVar t (← asAddr (tmps.getD a undef))

theorem res_sound {st : St} {tmps : Array Value} {w : World} {S rho tau} (h : Core B st tmps w S rho tau) {x : ResultVar} {y : DRes} (hc : chkRes P x y = true) {v : IV} (hv : y.get st = some v) :
    ∃ u, (resRun tmps x).run P w = .ok u w ∧ Rd w S v u := by
  cases x with
  | tmp t =>
    cases y with
    | cell a agg n => simp [chkRes] at hc
    | tmp t' =>
      simp [chkRes] at hc; subst hc
      simp only [DRes.get] at hv
      split at hv
      · rename_i d hd
        cases hv
        have := h.vw (defers := []) (x := .tmp t) (y := .t t) (by simp [opdOk])
        simp only [St.ev] at this
        rw [hd] at this
        exact ⟨_, rfl, this.imm_inv⟩
      · cases hv
  | cell a t =>
    cases y with
    | tmp t' => simp [chkRes] at hc
    | cell a' agg n =>
      simp only [chkRes, Bool.and_eq_true, beq_iff_eq] at hc
      obtain ⟨⟨rfl, hag⟩, hsz⟩ := hc
      simp only [DRes.get] at hv
      split at hv
      · rename_i id off vc he hb
        have r := h.env a
        rw [he] at r
        simp only [he, resVw] at hb
        split at hb
        · rename_i cells hcells
          cases hb
          obtain ⟨arr, e, g1, g2, g3, g4, g5⟩ := h.res id _ hcells
          generalize hq : tmps.getD a undef = q at r
          cases r with
          | ref _ _ =>
            cases agg
            · simp only [Bool.false_eq_true, if_false] at hv
              split at hv
              · rename_i d hd
                cases hv
                rw [viewAll_get] at hd
                cases hco : cells[off]? with
                | none => rw [hco] at hd; simp at hd
                | some c =>
                  rw [hco] at hd; simp at hd
                  have hlt : off < arr.size := by have := (List.getElem?_eq_some_iff.1 hco).1; omega
                  refine ⟨arr[off], ?_, ?_⟩
                  · have hce : w.cell? ⟨rho id, off, none⟩ = some arr[off] := by
                      rw [cell_of_row w (rho id) off arr e (0, 0) g1]; simp [hlt]
                    simp [resRun, hq, asAddr, loadVar, run_isAgg' hag, hce]
                  · have := view_sound h.res (g3 off c arr[off] hco (by simp [hlt]))
                    rw [hd] at this
                    exact this.imm_inv
              · cases hv
            · simp only [if_true] at hv
              split at hv
              · rename_i hle
                rw [viewAll_length] at hle
                split at hv
                · rename_i vs hvs
                  cases hv
                  have hlen : ((arr.toList.drop off).take n).length = n := by simp; omega
                  refine ⟨.agg ((arr.toList.drop off).take n).toArray, ?_, ?_⟩
                  · have hld := load_cells (P := P) g1 g2 hle
                    simp [resRun, hq, asAddr, loadVar, run_isAgg' hag, run_sizeOf' hsz, hld]
                  · have hg := allImm_get hvs
                    refine .agg vs _ ?_ ?_ ?_
                    · rw [hlen, hg.1]; simp [viewAll_length]; omega
                    · intro i x u hx hu
                      have hx' := hg.2 i x hx
                      rw [getElem?_slice] at hx' hu
                      split at hx'
                      · rename_i hi
                        rw [if_pos hi] at hu
                        rw [viewAll_get] at hx'
                        cases hco : cells[off + i]? with
                        | none => rw [hco] at hx'; simp at hx'
                        | some c =>
                          rw [hco] at hx'; simp at hx'
                          have := view_sound h.res (g3 _ c u hco (by simpa using hu))
                          rw [hx'] at this
                          exact this.imm_inv
                      · cases hx'
                    · intro i u hu
                      rw [getElem?_slice] at hu
                      split at hu
                      · exact g4 _ u (by simpa using hu)
                      · cases hu
                · cases hv
              · cases hv
        · rename_i hno; exact (hno _ hb).elim
      · cases hv

theorem ress_sound {st : St} {tmps : Array Value} {w : World} {S rho tau} (h : Core B st tmps w S rho tau) : ∀ {xs : List ResultVar} {ys : List DRes}, chkRess P xs ys = true → ∀ {vs : List IV}, getAll st ys = some vs →
    ∃ us : List Value, (xs.mapM (resRun tmps)).run P w = .ok us w ∧ us.length = vs.length ∧ ∀ (i : Nat) (x : IV) (u : Value), vs[i]? = some x → us[i]? = some u → Rd w S x u
  | [], [], _, vs, hv => by
    simp [getAll] at hv; subst hv
    exact ⟨[], rfl, rfl, by simp⟩
  | [], _ :: _, hc, _, _ => by simp [chkRess] at hc
  | _ :: _, [], hc, _, _ => by simp [chkRess] at hc
  | x :: xs, y :: ys, hc, vs, hv => by
    simp only [chkRess, Bool.and_eq_true] at hc
    simp only [getAll] at hv
    split at hv
    · rename_i v1 h1
      split at hv
      · rename_i vs' h2
        cases hv
        obtain ⟨u, hu, hr⟩ := res_sound h hc.1 h1
        obtain ⟨us, hus, hl, hrs⟩ := ress_sound h hc.2 h2
        refine ⟨u :: us, ?_, by simp [hl], ?_⟩
        · simp only [List.mapM_cons, Sem.run_bind, hu, Result.andThen_ok, hus, Sem.run_pure]
        · intro i x u' hx hu'
          cases i with
          | zero => simp at hx hu'; subst hx; subst hu'; exact hr
          | succ i => simp at hx hu'; exact hrs i x u' hx hu'
      · cases hv
    · cases hv

def plainB (w0 : World) (S0 : Nat → Nat → Prop) : Base where
  O := fun k => k < w0.heap.size
  inv := fun g S w => g = none ∧ Below w0.heap.size w0 w ∧ (∀ b o, S0 b o → S b o) ∧ ∀ b o, S b o → S0 b o ∨ w0.heap.size ≤ b
  lt := fun h k hk => Nat.lt_of_lt_of_le hk h.2.1.size
  move := fun h m => ⟨h.1, ⟨m.os.trans h.2.1.os, m.tape.trans h.2.1.tape, m.output.trans h.2.1.output, Nat.le_trans h.2.1.size m.size, fun k hk => (m.block k hk).trans (h.2.1.block k hk)⟩,
    fun b o k => m.ext.sub b o (h.2.2.1 b o k), fun b o k => (m.snew b o k).elim (h.2.2.2 b o) fun hn => .inr (Nat.le_of_not_lt hn)⟩
  lose := fun h => ⟨rfl, h.2⟩
  pins := fun _ => none
  round := none
  record := fun h _ => by cases h

theorem leaves_of {A : Fam} {B : Base} {n : Nat} {fn : Func} {tmps : Array Value} {R : Ending → World → Prop} {st : St} {S : Nat → Nat → Prop} {rho : Nat → Nat} {tau : Nat → Value} : ∀ (Ds : List Nat) {w : World}, Ds.Nodup → (∀ D ∈ Ds, ¬ B.O D) → Core (B.mark Ds) st tmps w S rho tau →
    (∀ w', Core (B.mark []) st tmps w' S rho tau → ∃ v, (results fn tmps).run P w' = .ok v w' ∧ R (.returned v) w') → LeavesInM A.fence n P fn tmps R (Ds.map markOf) .returning w
  | [], w, _, _, hC, hR => hR w hC
  | D :: Ds, w, hn, ho, hC, hR => by
    obtain ⟨hD, hC'⟩ := hC.unmark (List.nodup_cons.1 hn).1 (ho D (by simp))
    exact ⟨by simp, .inl ⟨D, _, rfl, run_takeDeferred hD, leaves_of Ds (List.nodup_cons.1 hn).2 (fun D' h => ho D' (by simp [h])) hC' hR⟩⟩

theorem contract_of {f : FuncId} {fn : Func} {d : DFn} (hf : P.funcs[f]? = some fn) (hc : chkFn P fn d = true) {ds : List IV} (hds : ds.length = d.nargs) {r : IV}
    (h : wpD P d.body (d.post r) (DFn.init ds)) : Contract P f ds r := by
  unfold chkFn at hc
  simp only [Bool.and_eq_true, decide_eq_true_eq, Bool.not_eq_true'] at hc
  obtain ⟨⟨⟨⟨hb, hres⟩, hN⟩, hle⟩, hname⟩ := hc
  cases hbody : fn.body with
  | none => rw [hbody] at hb; simp at hb
  | some c =>
    rw [hbody] at hb
    have hb : chkCode P fn.ntmps [] d.body c = true := hb
    refine ⟨⟨fn, c, hf, hbody, hname⟩, fun w S vs hst hl hrd => (callsIn_wide (n := 0)).1 (callsIn_of_wp_marks (F := (Fam.one (plainB w S)).fence) (n := 0) hf hbody trivial ?_)⟩
    have hg : Good (Fam.one (plainB w S)) fn.ntmps (DFn.init ds) { tmps := vs.toArray ++ Array.replicate (fn.ntmps - vs.toArray.size) undef, defers := [] } w := by
      refine ⟨by simp; omega, (), [], S, fun _ => 0, fun _ => .slice none 0 0, ⟨rfl, by simp, by simp⟩, ?_⟩
      exact {
        inv := ⟨⟨by simp [ghost, DFn.init], Below.refl _ w, fun _ _ k => k, fun _ _ k => .inl k⟩, by simp⟩
        stab := hst
        pin := fun id b hp => by cases hp
        env := fun x => by
          simp only [DFn.init]
          cases hx : ds[x]? with
          | none => exact .undef _
          | some v =>
            have hlt : x < vs.length := by have := (List.getElem?_eq_some_iff.1 hx).1; omega
            have : (vs.toArray ++ Array.replicate (fn.ntmps - vs.toArray.size) undef).getD x undef = vs[x] := by
              simp [Array.getD_eq_getD_getElem?, Array.getElem?_append, hlt]
            rw [this]
            exact .imm _ _ (hrd x v _ hx (by simp [hlt]))
        envC := fun x id hn => by
          simp only [DFn.init] at hn
          split at hn <;> simp [DV.names] at hn
        res := fun id r hr => by simp [DFn.init] at hr
        resC := fun id cells hr => by simp [DFn.init] at hr
        base := fun id r hr => by simp [DFn.init] at hr
        dis := fun i j r1 r2 h1 => by simp [DFn.init] at h1
        tauS := fun _ => ⟨none, 0, 0, rfl⟩ }
    have fin : ∀ st' a' w', d.out st' = some r → Good (Fam.one (plainB w S)) fn.ntmps st' a' w' → LeavesInM (Fam.one (plainB w S)).fence 0 P fn a'.tmps (fun e w' => ∃ v S', e = .returned v ∧ Below w.heap.size w w' ∧ (∀ b o, S b o → S' b o) ∧
      (∀ b o, S' b o → S b o ∨ w.heap.size ≤ b) ∧ (∀ b o, S' b o → b < w'.heap.size) ∧ Rd w' S' r v) a'.defers .returning w' := by
      intro st' a' w' hout hg'
      obtain ⟨h1, _, Ds, S', rho, tau, ⟨h2, h3, h4⟩, hC⟩ := hg'
      simp only [DFn.out, Option.map_eq_some_iff] at hout
      obtain ⟨rs, hrs, rfl⟩ := hout
      rw [h2]
      refine leaves_of Ds h3 h4 hC fun w' hC => ?_
      obtain ⟨us, hus, hul, hur⟩ := ress_sound hC hres hrs
      have hrun : (results fn a'.tmps).run P w' = .ok (if h : us.toArray.size = 1 then us.toArray[0] else .tuple us.toArray) w' := by
        unfold results
        have e : ∀ g : ResultVar → Sem Value, (∀ x, g x = resRun a'.tmps x) → fn.results.mapM g = (Functor.map List.toArray (fn.results.toList.mapM (resRun a'.tmps))) := by
          intro g hg
          rw [Array.mapM_eq_mapM_toList, funext hg]
        rw [e _ (by intro x; cases x <;> rfl)]
        have e2 : (Functor.map List.toArray (fn.results.toList.mapM (resRun a'.tmps))) = (do let x ← fn.results.toList.mapM (resRun a'.tmps); pure x.toArray : Sem (Array Value)) := rfl
        rw [e2]
        simp only [Sem.run_bind, Sem.run_pure, hus, Result.andThen_ok]
      refine ⟨_, hrun, _, S', rfl, hC.inv.1.2.1, hC.inv.1.2.2.1, hC.inv.1.2.2.2, hC.stab, ?_⟩
      match rs, us, hul, hur with
      | [x], [u], _, hur => simpa [retV] using hur 0 x u rfl rfl
      | [], [], _, hur => exact .tup [] [] rfl (by simp)
      | x :: y :: rs, us, hul, hur =>
        have : ¬ us.toArray.size = 1 := by simp at hul ⊢; omega
        rw [dif_neg this]
        exact .tup _ us hul hur
    refine code_sound d.body c hb (Fam.one (plainB w S)) 0 _ _ w _ _ (fun n l inf x rest i S w us hinv => by cases hinv.1) (fun id b hp => by cases hp) hg h fun e st' a' w' hk hg' => ?_
    cases e with
    | normal => exact fin st' a' w' hk hg'
    | exit id => exact hk.elim
    | ret => exact fin st' a' w' hk hg'

def DRes.getD (st : St) : DRes → Option DV
  | .tmp t => some (st.env t)
  | .cell a agg n => match st.env a, resVw st.res (st.env a) with
    | .ref _ off, some (.box cells) => if agg then (if off + n ≤ cells.length then some (mkAgg ((cells.drop off).take n)) else none) else cells[off]?
    | _, _ => none

def DFn.outD (d : DFn) (st : St) : Option DV := match d.res with
  | [r] => r.getD st
  | _ => (d.out st).map .imm

def DFn.postB (d : DFn) (outs : List Nat) (Phi : DV → (Nat → Option Res) → Prop) : Ex → St → Prop
  | .exit _, _ => False
  | _, st => ∃ r, d.outD st = some r ∧ r.ok outs = true ∧ Phi r (keepRes outs st.res)

theorem resD_sound {st : St} {tmps : Array Value} {w : World} {S rho tau} (h : Core B st tmps w S rho tau) {x : ResultVar} {y : DRes} (hc : chkRes P x y = true) {v : DV} (hv : y.getD st = some v) :
    ∃ u, (resRun tmps x).run P w = .ok u w ∧ Rl w S rho tau v u ∧ Nm st.res v := by
  cases x with
  | tmp t =>
    cases y with
    | cell a agg n => simp [chkRes] at hc
    | tmp t' =>
      simp [chkRes] at hc; subst hc
      simp only [DRes.getD, Option.some.injEq] at hv
      subst hv
      exact ⟨_, rfl, h.env t, fun id hn => h.envC t id hn⟩
  | cell a t =>
    cases y with
    | tmp t' => simp [chkRes] at hc
    | cell a' agg n =>
      simp only [chkRes, Bool.and_eq_true, beq_iff_eq] at hc
      obtain ⟨⟨rfl, hag⟩, hsz⟩ := hc
      simp only [DRes.getD] at hv
      split at hv
      · rename_i id off vc he hb
        have r := h.env a
        rw [he] at r
        simp only [he, resVw] at hb
        split at hb
        · rename_i cells hcells
          cases hb
          obtain ⟨arr, e, g1, g2, g3, g4, g5⟩ := h.res id _ hcells
          generalize hq : tmps.getD a undef = q at r
          cases r with
          | ref _ _ =>
            cases agg
            · simp only [Bool.false_eq_true, if_false] at hv
              rw [viewAll_get] at hv
              cases hco : cells[off]? with
              | none => rw [hco] at hv; simp at hv
              | some c =>
                rw [hco] at hv; simp at hv; subst hv
                have hlt : off < arr.size := by have := (List.getElem?_eq_some_iff.1 hco).1; omega
                refine ⟨arr[off], ?_, view_sound h.res (g3 off c arr[off] hco (by simp [hlt])), fun i hn => h.resC id cells hcells c (List.mem_of_getElem? hco) i (names_view hn)⟩
                have hce : w.cell? ⟨rho id, off, none⟩ = some arr[off] := by
                  rw [cell_of_row w (rho id) off arr e (0, 0) g1]; simp [hlt]
                simp [resRun, hq, asAddr, loadVar, run_isAgg' hag, hce]
            · simp only [if_true] at hv
              split at hv
              · rename_i hle
                rw [viewAll_length] at hle
                simp only [Option.some.injEq] at hv
                subst hv
                have hlen : ((arr.toList.drop off).take n).length = n := by simp; omega
                have hld := load_cells (P := P) g1 g2 hle
                refine ⟨.agg ((arr.toList.drop off).take n).toArray, ?_, ?_, ?_⟩
                · simp [resRun, hq, asAddr, loadVar, run_isAgg' hag, run_sizeOf' hsz, hld]
                · refine mkAgg_rl ?_ ?_ ?_
                  · rw [hlen]; simp [viewAll_length]; omega
                  · intro i x u hx hu
                    rw [getElem?_slice] at hx hu
                    split at hx
                    · rename_i hi
                      rw [if_pos hi] at hu
                      rw [viewAll_get] at hx
                      cases hco : cells[off + i]? with
                      | none => rw [hco] at hx; simp at hx
                      | some c =>
                        rw [hco] at hx; simp at hx; subst hx
                        exact view_sound h.res (g3 _ c u hco (by simpa using hu))
                    · cases hx
                  · intro i u hu
                    rw [getElem?_slice] at hu
                    split at hu
                    · exact g4 _ u (by simpa using hu)
                    · cases hu
                · intro i hn
                  unfold mkAgg at hn
                  split at hn
                  · simp [DV.names] at hn
                  · obtain ⟨c, hc, hn⟩ := namesAll_of (by simpa [DV.names] using hn)
                    obtain ⟨k, hk⟩ := List.getElem?_of_mem (List.mem_of_mem_drop (List.mem_of_mem_take hc))
                    rw [viewAll_get] at hk
                    cases hco : cells[k]? with
                    | none => rw [hco] at hk; simp at hk
                    | some c0 =>
                      rw [hco] at hk; simp at hk; subst hk
                      exact h.resC id cells hcells c0 (List.mem_of_getElem? hco) i (names_view hn)
              · cases hv
        · rename_i hno; exact (hno _ hb).elim
      · cases hv

def chkFnB (P : Program) (fn : Func) (d : DFn) (pn outs : List Nat) : Bool :=
  (match fn.body with | some c => chkCode P fn.ntmps pn d.body c | none => false) && chkRess P fn.results.toList d.res && decide (fn.ntmps = d.ntmps) && decide (d.nargs ≤ d.ntmps) && !(fn.name == "runtime.NumGoroutine") && pn.all outs.contains

def envD (ds : List DV) : Nat → DV := fun x => match ds[x]? with | some v => v | none => .undef

theorem bc_of {f : FuncId} {fn : Func} {d : DFn} {pn outs : List Nat} (hf : P.funcs[f]? = some fn) (hc : chkFnB P fn d pn outs = true) {ds : List DV} (hds : ds.length = d.nargs) {R : Nat → Option Res} (hR : ∀ id, (R id).isSome = true → id ∈ pn) {Phi : DV → (Nat → Option Res) → Prop}
    (h : wpD P d.body (d.postB outs Phi) ⟨envD ds, R⟩) : BC P f ds R Phi := by
  unfold chkFnB at hc
  simp only [Bool.and_eq_true, decide_eq_true_eq, Bool.not_eq_true'] at hc
  obtain ⟨⟨⟨⟨⟨hb, hres⟩, hN⟩, hle⟩, hname⟩, hpo⟩ := hc
  have hpo : ∀ id ∈ pn, id ∈ outs := fun id hid => by simpa using List.all_eq_true.1 hpo id hid
  cases hbody : fn.body with
  | none => rw [hbody] at hb; simp at hb
  | some c =>
    rw [hbody] at hb
    have hb : chkCode P fn.ntmps pn d.body c = true := hb
    refine ⟨⟨fn, c, hf, hbody, hname⟩, fun A i w S rho tau vs hY hround hC hl hrl hnm => ?_⟩
    let pins : Nat → Option (Nat × Value) := fun id => match R id with | some r => if r.isTok then none else some (rho id, tau id) | none => none
    have hpins : ∀ id b, pins id = some b → ∃ r, R id = some r ∧ (rho id = b.1 ∧ tau id = b.2) ∧ r.isTok = false := by
      intro id b hp
      simp only [pins] at hp
      split at hp
      · rename_i r hr
        split at hp
        · cases hp
        · rename_i ht; cases hp; exact ⟨r, hr, ⟨rfl, rfl⟩, by simpa using ht⟩
      · cases hp
    have hpinsR : ∀ id r, R id = some r → r.isTok = false → pins id = some (rho id, tau id) := by
      intro id r hr ht
      simp [pins, hr, ht]
    let A1 := A.frame (fun _ => False) w S none (fun _ h => by cases h) pins
    refine (callsIn_wide (n := 0)).1 (callsIn_of_wp_marks (F := A1.fence) (n := 0) hf hbody trivial ?_)
    have hg : Good A1 fn.ntmps ⟨envD ds, R⟩ { tmps := vs.toArray ++ Array.replicate (fn.ntmps - vs.toArray.size) undef, defers := [] } w := by
      refine ⟨by simp; omega, i, [], S, rho, tau, ⟨rfl, by simp, by simp⟩, ?_⟩
      have h1 : Core ((A1.base i).mark []) (St.bare R) #[] w S rho tau := hC.over (Ext.refl _ _) hC.stab (Nat.le_refl _) (fun id r hr ho => ⟨rfl, fun _ h => h, fun h => by
          rcases h with (h | h) | h
          · exact (hC.base id r hr ho).1 h
          · exact h
          · cases h⟩) ⟨⟨hC.inv, { lt := fun _ h => h.elim, dis := fun _ h => h.elim, size := Nat.le_refl _, same := fun _ h => h.elim, ext := Ext.refl _ _, snew := fun _ _ h _ => h }⟩, by simp⟩ hpins
      refine h1.slots (fun x => ?_) (fun x => ?_)
      · simp only [envD]
        cases hx : ds[x]? with
        | none => exact .undef _
        | some v =>
          have hlt : x < vs.length := by have := (List.getElem?_eq_some_iff.1 hx).1; omega
          have : (vs.toArray ++ Array.replicate (fn.ntmps - vs.toArray.size) undef).getD x undef = vs[x] := by
            simp [Array.getD_eq_getD_getElem?, Array.getElem?_append, hlt]
          rw [this]
          exact hrl x v _ hx (by simp [hlt])
      · simp only [envD]
        cases hx : ds[x]? with
        | none => exact Nm.undef _
        | some v => exact hnm v (List.mem_of_getElem? hx)
    have fin : ∀ st' a' w', (∃ r, d.outD st' = some r ∧ r.ok outs = true ∧ Phi r (keepRes outs st'.res)) → Good A1 fn.ntmps st' a' w' → LeavesInM A1.fence 0 P fn a'.tmps (fun e w' => ∃ v r j S' R' rho' tau', e = .returned v ∧ Rl w' S' rho' tau' r v ∧ Nm R' r ∧ Phi r R' ∧ Core (A.base j) (St.bare R') #[] w' S' rho' tau' ∧
        ∀ id x, R id = some x → x.isTok = false → (rho' id = rho id ∧ tau' id = tau id) ∧ ∃ x', R' id = some x' ∧ x'.isTok = false) a'.defers .returning w' := by
      rintro st' a' w' ⟨r, hout, hok, hphi⟩ hg'
      obtain ⟨h1, j, Ds, S', rho', tau', ⟨h2, h3, h4⟩, hC'⟩ := hg'
      rw [h2]
      refine leaves_of Ds h3 h4 hC' fun w' hC' => ?_
      have hval : ∃ v, (results fn a'.tmps).run P w' = .ok v w' ∧ Rl w' S' rho' tau' r v ∧ Nm st'.res r := by
        have e : ∀ g : ResultVar → Sem Value, (∀ x, g x = resRun a'.tmps x) → fn.results.mapM g = (Functor.map List.toArray (fn.results.toList.mapM (resRun a'.tmps))) := by
          intro g hg
          rw [Array.mapM_eq_mapM_toList, funext hg]
        have e2 : (Functor.map List.toArray (fn.results.toList.mapM (resRun a'.tmps))) = (do let x ← fn.results.toList.mapM (resRun a'.tmps); pure x.toArray : Sem (Array Value)) := rfl
        have hrun : ∀ us, (fn.results.toList.mapM (resRun a'.tmps)).run P w' = .ok us w' → (results fn a'.tmps).run P w' = .ok (if h : us.toArray.size = 1 then us.toArray[0] else .tuple us.toArray) w' := by
          intro us hus
          unfold results
          rw [e _ (by intro x; cases x <;> rfl), e2]
          simp only [Sem.run_bind, Sem.run_pure, hus, Result.andThen_ok]
        unfold DFn.outD at hout
        split at hout
        · rename_i y hy
          rw [hy] at hres
          match hfr : fn.results.toList, hres with
          | [x], hres =>
            simp only [chkRess, Bool.and_eq_true] at hres
            obtain ⟨u, hu, hr, hn⟩ := resD_sound hC' hres.1 hout
            have := hrun [u] (by rw [hfr]; simp only [List.mapM_cons, List.mapM_nil, Sem.run_bind, hu, Result.andThen_ok, Sem.run_pure])
            exact ⟨u, by simpa using this, hr, hn⟩
          | [], hres => simp [chkRess] at hres
          | _ :: _ :: _, hres => simp [chkRess] at hres
        · simp only [DFn.out, Option.map_map, Option.map_eq_some_iff] at hout
          obtain ⟨rs, hrs, rfl⟩ := hout
          obtain ⟨us, hus, hul, hur⟩ := ress_sound hC' hres hrs
          refine ⟨_, hrun us hus, ?_, Nm.imm _ _⟩
          simp only [Function.comp]
          refine .imm _ _ ?_
          match rs, us, hul, hur with
          | [x], [u], _, hur => simpa [retV] using hur 0 x u rfl rfl
          | [], [], _, hur => exact .tup [] [] rfl (by simp)
          | x :: y :: rs, us, hul, hur =>
            have : ¬ us.toArray.size = 1 := by simp at hul ⊢; omega
            rw [dif_neg this]
            exact .tup _ us hul hur
      obtain ⟨v, hv1, hv2, hv3⟩ := hval
      have hkeep : ∀ id ∈ pn, id ∈ outs := hpo
      have hk : Core ((A1.base j).mark []) (st'.keep [] outs) a'.tmps w' S' rho' tau' := hC'.keep [] outs fun id b hp => by
        obtain ⟨r0, hr0, _⟩ := hpins id b hp
        exact hpo id (hR id (by rw [hr0]; rfl))
      have hs : Core ((A1.base j).mark []) (St.bare (keepRes outs st'.res)) #[] w' S' rho' tau' := hk.slots (fun _ => .undef _) (fun _ => Nm.undef _)
      have hper : ∀ id x, R id = some x → x.isTok = false → (rho' id = rho id ∧ tau' id = tau id) ∧ ∃ x', keepRes outs st'.res id = some x' ∧ x'.isTok = false := by
        intro id x hx ht
        obtain ⟨r', g1, g2, g3⟩ := hs.pin id _ (hpinsR id x hx ht)
        exact ⟨g2, r', g1, g3⟩
      refine ⟨v, hv1, v, r, j, S', keepRes outs st'.res, rho', tau', rfl, hv2, ?_, hphi, ?_, hper⟩
      · intro id hn
        have h5 := hv3 id hn
        have h6 := keep_names hok hn
        unfold keepRes
        rw [if_pos (by simpa using h6)]
        simpa using h5
      · refine hs.over (Ext.refl _ _) hs.stab (Nat.le_refl _) (fun id r hr ho => ⟨rfl, fun _ h => h, fun h => (hs.base id r hr ho).1 (.inl (.inl h))⟩) hs.inv.1.1 (fun id b hp => ?_)
        obtain ⟨x, h5, h6, h7⟩ := hC.pin id b (by rw [A.hpins i, ← A.hpins j]; exact hp)
        obtain ⟨g1, x', g2, g3⟩ := hper id x h5 h7
        exact ⟨x', g2, ⟨g1.1.trans h6.1, g1.2.trans h6.2⟩, g3⟩
    refine code_sound d.body c hb A1 0 _ _ w _ _ (Fam.frame_yields hY) (fun id b hp => ?_) hg h fun e st' a' w' hk hg' => ?_
    · obtain ⟨r0, hr0, _⟩ := hpins id b hp
      exact hR id (by rw [hr0]; rfl)
    · cases e with
      | normal => exact fin st' a' w' hk hg'
      | exit id => exact hk.elim
      | ret => exact fin st' a' w' hk hg'

end
end Go.DI

/- How what the data say is worked out: states as lists, one equation for each kind of operation. No condition. -/
namespace Go.DI
open Go.RowKit

def look : List (Nat × DV) → Nat → DV
  | [], _ => .undef
  | (k, v) :: E, n => if n = k then v else look E n
def lookR : List (Nat × Res) → Nat → Option Res
  | [], _ => none
  | (k, r) :: R, n => if n = k then some r else lookR R n
def mkS (E : List (Nat × DV)) (R : List (Nat × Res)) : St := ⟨look E, lookR R⟩

inductive KF where
  | seq (b : DCode)
  | block (id : Nat)
  | again (a : DCode)
  | settle (ids : List Nat)

def resume (P : Program) : List KF → (Ex → St → Prop) → Ex → St → Prop
  | [], Q, e, s => Q e s
  | .seq b :: k, Q, e, s => match e with | .normal => wpD P b (resume P k Q) s | e => resume P k Q e s
  | .block id :: k, Q, e, s => match e with | .exit i => if i = id then resume P k Q .normal s else resume P k Q (.exit i) s | e => resume P k Q e s
  | .again a :: k, Q, e, s => match e with | .normal => wpD P (.loop a) (resume P k Q) s | e => resume P k Q e s
  | .settle ids :: k, Q, e, s => resume P k Q e (s.settle ids)

def run (P : Program) (c : DCode) (k : List KF) (Q : Ex → St → Prop) (st : St) : Prop := wpD P c (resume P k Q) st
def runR (P : Program) (ops : List DO) (k : List KF) (Q : Ex → St → Prop) (st : St) : Prop := wpR P ops st (resume P k Q .normal)

def doP (P : Program) (dst : Option Nat) (kind : Kind) (xs : List Opd) (st : St) (K : St → Prop) : Prop := wpDO P ⟨dst, kind, xs, none, []⟩ st K
def putP (dst : Option Nat) (st : St) (K : St → Prop) (v : DV) (nr : Option Res) : Prop := (nr.isSome = true → ∃ d, dst = some d ∧ st.res d = none) ∧ K (st.put dst v nr)

section
variable {P : Program} {k : List KF} {Q : Ex → St → Prop} {E : List (Nat × DV)} {R : List (Nat × Res)} {K : St → Prop} {d : Nat}

theorem run_start {c : DCode} {st : St} (h : run P c [] Q st) : wpD P c Q st := h

theorem run_skip : run P .skip k Q (mkS E R) = resume P k Q .normal (mkS E R) := rfl
theorem run_region {ops : List DO} {dr : Bool} : run P (.region ops dr) k Q (mkS E R) = runR P ops k Q (mkS E R) := rfl
theorem run_seq {a b : DCode} : run P (.seq a b) k Q (mkS E R) = run P a (.seq b :: k) Q (mkS E R) := by
  unfold run
  simp only [wpD]
  congr 1
theorem run_block {id : Nat} {a : DCode} : run P (.block id a) k Q (mkS E R) = run P a (.block id :: k) Q (mkS E R) := by
  unfold run
  simp only [wpD]
  congr 1
theorem run_exit {id : Nat} : run P (.exit id) k Q (mkS E R) = resume P k Q (.exit id) (mkS E R) := rfl
theorem run_ret : run P .ret k Q (mkS E R) = resume P k Q .ret (mkS E R) := rfl
theorem run_keep {live ids : List Nat} {a : DCode} : run P (.keep live ids a) k Q (mkS E R) = run P a k Q ((mkS E R).keep live ids) := rfl
theorem run_freeze {ids : List Nat} {a : DCode} : run P (.freeze ids a) k Q (mkS E R) = run P a k Q ((mkS E R).frz ids) := rfl

def condP (P : Program) (v : DV) (a b : DCode) (k : List KF) (Q : Ex → St → Prop) (E : List (Nat × DV)) (R : List (Nat × Res)) : Prop :=
  match v with
  | .imm (.bool t) => if t = true then run P a k Q (mkS E R) else run P b k Q (mkS E R)
  | _ => False
theorem condP_bool {t : Bool} {a b : DCode} : condP P (.imm (.bool t)) a b k Q E R = if t = true then run P a k Q (mkS E R) else run P b k Q (mkS E R) := rfl
theorem run_cond {c : Opd} {a b : DCode} : run P (.cond c a b) k Q (mkS E R) = condP P (view (lookR R) ((mkS E R).ev c)) a b k Q E R := by
  unfold run condP
  simp only [wpD]
  show (match view (lookR R) ((mkS E R).ev c) with | .imm (.bool t) => _ | _ => False) = _
  split
  · rename_i t _
    cases t <;> simp [run]
  · rfl

theorem res_nil {e : Ex} {s : St} : resume P [] Q e s = Q e s := rfl
theorem res_seq {b : DCode} : resume P (.seq b :: k) Q .normal (mkS E R) = run P b k Q (mkS E R) := rfl
theorem res_seq_exit {b : DCode} {i : Nat} {s : St} : resume P (.seq b :: k) Q (.exit i) s = resume P k Q (.exit i) s := rfl
theorem res_seq_ret {b : DCode} {s : St} : resume P (.seq b :: k) Q .ret s = resume P k Q .ret s := rfl
theorem res_block {id : Nat} {s : St} : resume P (.block id :: k) Q .normal s = resume P k Q .normal s := rfl
theorem res_block_exit {id i : Nat} {s : St} : resume P (.block id :: k) Q (.exit i) s = if i = id then resume P k Q .normal s else resume P k Q (.exit i) s := rfl
theorem res_block_ret {id : Nat} {s : St} : resume P (.block id :: k) Q .ret s = resume P k Q .ret s := rfl

theorem res_again {a : DCode} {s : St} : resume P (.again a :: k) Q .normal s = run P (.loop a) k Q s := rfl
theorem res_again_exit {a : DCode} {i : Nat} {s : St} : resume P (.again a :: k) Q (.exit i) s = resume P k Q (.exit i) s := rfl
theorem res_again_ret {a : DCode} {s : St} : resume P (.again a :: k) Q .ret s = resume P k Q .ret s := rfl

theorem wpR_mono : ∀ {ops : List DO} {st : St} {K K' : St → Prop}, (∀ s, K s → K' s) → wpR P ops st K → wpR P ops st K'
  | [], _, _, _, hK, h => hK _ h
  | _ :: _, _, _, _, hK, h => wpG_mono (fun _ hs => wpR_mono hK hs) h

theorem wpD_mono : ∀ {c : DCode} {st : St} {K K' : Ex → St → Prop}, (∀ e s, K e s → K' e s) → wpD P c K st → wpD P c K' st
  | .skip, _, _, _, hK, h => hK _ _ h
  | .region _ _, _, _, _, hK, h => wpR_mono (fun s hs => hK .normal s hs) h
  | .seq a b, _, _, _, hK, h => wpD_mono (c := a) (fun e s hs => by cases e; exact wpD_mono (c := b) hK hs; exact hK _ _ hs; exact hK _ _ hs) h
  | .cond c a b, _, _, _, hK, h => by
    simp only [wpD] at h ⊢
    split at h
    · exact ⟨fun e => wpD_mono (c := a) hK (h.1 e), fun e => wpD_mono (c := b) hK (h.2 e)⟩
    · exact h.elim
  | .block id a, _, _, _, hK, h => wpD_mono (c := a) (fun e s hs => by
      cases e with
      | normal => exact hK _ _ hs
      | exit i =>
        dsimp only at hs ⊢
        split at hs
        · rename_i hi; rw [if_pos hi]; exact hK _ _ hs
        · rename_i hi; rw [if_neg hi]; exact hK _ _ hs
      | ret => exact hK _ _ hs) h
  | .loop a, _, _, _, hK, h => fun X hX => h X fun s hs => hX s (wpD_mono (c := a) (fun e s hs => by cases e; exact hs; exact hK _ _ hs; exact hK _ _ hs) hs)
  | .exit _, _, _, _, hK, h => hK _ _ h
  | .ret, _, _, _, hK, h => hK _ _ h
  | .keep _ _ a, _, _, _, hK, h => wpD_mono (c := a) hK h
  | .freeze _ a, _, _, _, hK, h => wpD_mono (c := a) hK h
  | .ren _ _ a, _, _, _, hK, h => ⟨h.1, h.2.1, h.2.2.1, wpD_mono (c := a) hK h.2.2.2⟩
  | .dead, _, _, _, _, h => h.elim
  | .settle _ a, _, _, _, hK, h => wpD_mono (c := a) (fun _ _ hs => hK _ _ hs) h
  | .mktok _ _ _ _ a, _, _, _, hK, h => ⟨h.1, h.2.1, wpD_mono (c := a) hK h.2.2⟩
  | .rangeF _ _ _ _ _ _ a b, _, _, _, hK, h => by
    obtain ⟨gf, first, caps, h1, h2, h3, h4, xs, inf, I, h5, h6, h7, h8, h9⟩ := h
    refine ⟨gf, first, caps, h1, h2, h3, h4, xs, inf, I, h5, h6, h7, fun n x R hx hi => ?_, fun R hf hi => hK _ _ (h9 R hf hi)⟩
    refine wpD_mono (c := a) (fun e s hs => ⟨hs.1, wpD_mono (c := b) (fun e' s' hs' => ?_) hs.2⟩) (h8 n x R hx hi)
    cases e' with
    | normal => exact hs'
    | exit i => exact hK _ _ hs'
    | ret => exact hK _ _ hs'

theorem run_loop {a : DCode} {st : St} (h : run P a (.again a :: k) Q st) : run P (.loop a) k Q st := by
  unfold run at h ⊢
  simp only [wpD] at h ⊢
  intro X hX
  refine hX st ?_
  refine wpD_mono ?_ h
  intro e s hs
  cases e with
  | normal => exact hs X hX
  | exit i => exact hs
  | ret => exact hs

theorem loop_keep {live ids : List Nat} {a c : DCode} {α : Type} (hc : c = .keep live ids a) (mu : α → Nat) (Inv : α → Prop) (F : α → List (Nat × DV)) (G : α → List (Nat × Res)) (x0 : α) (h0 : Inv x0)
    (hs : (mkS E R).keep live ids = mkS (F x0) (G x0))
    (step : ∀ x, Inv x → (∀ y E R, mu y < mu x → Inv y → (mkS E R).keep live ids = mkS (F y) (G y) → run P (.loop c) k Q (mkS E R)) → run P a (.again c :: k) Q (mkS (F x) (G x))) :
    run P (.loop c) k Q (mkS E R) := by
  subst hc
  have key : ∀ (m : Nat) (x : α), mu x = m → Inv x → ∀ E R, (mkS E R).keep live ids = mkS (F x) (G x) → run P (.loop (.keep live ids a)) k Q (mkS E R) := by
    intro m
    induction m using Nat.strongRecOn with
    | _ m ih =>
      intro x hx hi E R hk
      refine run_loop ?_
      rw [run_keep, hk]
      exact step x hi fun y E' R' hlt hy hk' => ih (mu y) (by omega) y rfl hy E' R' hk'
  exact key (mu x0) x0 rfl h0 E R hs

theorem run_keep' {live ids : List Nat} {a : DCode} {st : St} : run P (.keep live ids a) k Q st = run P a k Q (st.keep live ids) := rfl

theorem runR_nil : runR P [] k Q (mkS E R) = resume P k Q .normal (mkS E R) := rfl
theorem runR_cons {dst : Option Nat} {kind : Kind} {xs : List Opd} {af : List Nat} {r : List DO} : runR P (⟨dst, kind, xs, none, af⟩ :: r) k Q (mkS E R) = doP P dst kind xs (mkS E R) (runR P r k Q) := rfl

def gdP (P : Program) (v : DV) (g : Nat) (want : Bool) (dst : Option Nat) (kind : Kind) (xs : List Opd) (r : List DO) (k : List KF) (Q : Ex → St → Prop) (E : List (Nat × DV)) (R : List (Nat × Res)) : Prop :=
  match v with
  | .imm (.bool b) => if b = want then doP P dst kind xs (mkS ((g, .imm (.bool want)) :: E) R) (runR P r k Q) else runR P r k Q ((mkS ((g, .imm (.bool !want)) :: E) R).put dst (.imm (.tup [])) none)
  | .imm (.tup []) => runR P r k Q ((mkS E R).put dst (.imm (.tup [])) none)
  | _ => False

theorem mkS_again {E : List (Nat × DV)} {g : Nat} {v : DV} (h : look E g = v) : mkS ((g, v) :: E) R = mkS E R := by
  unfold mkS
  congr 1
  funext n
  simp only [look]
  split
  · rename_i e; rw [e, h]
  · rfl

theorem runR_guard {dst : Option Nat} {kind : Kind} {xs : List Opd} {g : Nat} {want : Bool} {af : List Nat} {r : List DO} :
    runR P (⟨dst, kind, xs, some (g, want), af⟩ :: r) k Q (mkS E R) = gdP P (look E g) g want dst kind xs r k Q E R := by
  show (match gval (look E g) with | some b => _ | none => False) = _
  unfold gdP
  split
  · rename_i ob hob
    unfold gval at hob
    split at hob
    · rename_i b hb
      cases hob
      simp only [hb]
      by_cases hbw : b = want
      · subst hbw
        rw [if_pos rfl, mkS_again hb]
        simp only [ne_eq, not_true, false_implies, and_true, forall_const]
        rfl
      · rw [if_neg hbw]
        have : b = !want := by cases b <;> cases want <;> simp at hbw ⊢
        rw [mkS_again (by rw [hb, this])]
        simp only [Option.some.injEq, hbw, false_implies, ne_eq, not_false_eq_true, true_and, forall_const]
        rfl
    · rename_i hb
      cases hob
      simp only [hb]
      simp only [reduceCtorEq, false_implies, ne_eq, not_false_eq_true, true_and, forall_const]
      rfl
    · cases hob
  · rename_i hob
    unfold gval at hob
    split at hob
    · cases hob
    · cases hob
    · rename_i h1 h2
      split
      · rename_i b hb; exact absurd hb (h1 b)
      · rename_i hb; exact absurd hb h2
      · rfl
theorem gdP_bool {b want : Bool} {g : Nat} {dst : Option Nat} {kind : Kind} {xs : List Opd} {r : List DO} : gdP P (.imm (.bool b)) g want dst kind xs r k Q E R =
    if b = want then doP P dst kind xs (mkS ((g, .imm (.bool want)) :: E) R) (runR P r k Q) else runR P r k Q ((mkS ((g, .imm (.bool !want)) :: E) R).put dst (.imm (.tup [])) none) := rfl
theorem gdP_skip {want : Bool} {g : Nat} {dst : Option Nat} {kind : Kind} {xs : List Opd} {r : List DO} : gdP P (.imm (.tup [])) g want dst kind xs r k Q E R =
    runR P r k Q ((mkS E R).put dst (.imm (.tup [])) none) := rfl

theorem put_none {v : DV} : (mkS E R).put (some d) v none = mkS ((d, v) :: E) R := rfl
theorem put_some {v : DV} {r : Res} : (mkS E R).put (some d) v (some r) = mkS ((d, v) :: E) ((d, r) :: R) := rfl
theorem put_no {v : DV} {nr : Option Res} : (mkS E R).put none v nr = mkS E R := rfl
theorem ev_t {n : Nat} : (mkS E R).ev (.t n) = look E n := rfl
theorem ev_c {v : IV} : (mkS E R).ev (.c v) = .imm v := rfl
theorem ev_z {n : Nat} : (mkS E R).ev (.z n) = .cap0 n [] := rfl
theorem ev_f {n : FuncId} : (mkS E R).ev (.f n) = .imm (.func n [] []) := rfl
theorem arg_mk {x : Opd} : (mkS E R).arg x = ⟨(mkS E R).ev x, view (lookR R) ((mkS E R).ev x), resOf (lookR R) ((mkS E R).ev x), resVw (lookR R) ((mkS E R).ev x)⟩ := rfl
theorem putP_none {v : DV} : putP (some d) (mkS E R) K v none = K (mkS ((d, v) :: E) R) := by simp [putP, put_none]
theorem putP_some {v : DV} {r : Res} : putP (some d) (mkS E R) K v (some r) = (lookR R d = none ∧ K (mkS ((d, v) :: E) ((d, r) :: R))) := by
  simp only [putP, put_some, Option.isSome_some, Option.some.injEq, forall_const, exists_eq_left']
  rfl

def keepR (R : List (Nat × Res)) (ids0 : List Nat) : List Nat → List (Nat × Res)
  | [] => []
  | i :: r => keepR1 i ids0 (lookR R i) (keepR R ids0 r)
where keepR1 (i : Nat) (ids0 : List Nat) : Option Res → List (Nat × Res) → List (Nat × Res)
  | some x, l => (i, x.keep ids0) :: l
  | none, l => l

theorem look_keepR {ids0 : List Nat} : ∀ (ids : List Nat) (i : Nat), lookR (keepR R ids0 ids) i = if ids.contains i then (lookR R i).map (Res.keep ids0) else none
  | [], i => rfl
  | j :: ids, i => by
    simp only [keepR]
    cases hj : lookR R j with
    | none =>
      simp only [keepR.keepR1, look_keepR ids i, List.contains_cons]
      by_cases hij : i = j
      · subst hij; simp [hj]
      · simp [hij]
    | some x =>
      simp only [keepR.keepR1, lookR, look_keepR ids i, List.contains_cons]
      by_cases hij : i = j
      · subst hij; simp [hj]
      · simp [hij]

theorem look_map {f : Nat → DV} : ∀ (live : List Nat) (x : Nat), look (live.map fun y => (y, f y)) x = if live.contains x then f x else .undef
  | [], x => rfl
  | y :: l, x => by
    simp only [List.map_cons, look, look_map l x, List.contains_cons]
    by_cases hxy : x = y
    · subst hxy; simp
    · simp [hxy]

theorem keep_mk {live ids : List Nat} : (mkS E R).keep live ids = mkS (live.map fun y => (y, (look E y).keep ids)) (keepR R ids ids) := by
  unfold mkS St.keep
  congr 1
  · funext x; rw [look_map]
  · funext i; rw [look_keepR]
theorem keepR_nil {ids0 : List Nat} : keepR R ids0 [] = [] := rfl
theorem keepR_cons {ids0 r : List Nat} {i : Nat} : keepR R ids0 (i :: r) = keepR.keepR1 i ids0 (lookR R i) (keepR R ids0 r) := rfl
theorem keepR1_some {ids0 : List Nat} {i : Nat} {x : Res} {l : List (Nat × Res)} : keepR.keepR1 i ids0 (some x) l = (i, x.keep ids0) :: l := rfl
theorem keepR1_none {ids0 : List Nat} {i : Nat} {l : List (Nat × Res)} : keepR.keepR1 i ids0 none l = l := rfl

def frzR (ids : List Nat) : List (Nat × Res) → List (Nat × Res)
  | [] => []
  | (i, r) :: l => (i, if ids.contains i then r.frz else r) :: frzR ids l
theorem look_frzR {ids : List Nat} : ∀ (R : List (Nat × Res)) (i : Nat), lookR (frzR ids R) i = if ids.contains i then (lookR R i).map Res.frz else lookR R i
  | [], i => by simp [frzR, lookR]
  | (j, r) :: l, i => by
    simp only [frzR, lookR, look_frzR l i]
    by_cases hij : i = j
    · subst hij
      simp only [if_true]
      split <;> rfl
    · simp only [if_neg hij]
theorem frz_mk {ids : List Nat} : (mkS E R).frz ids = mkS E (frzR ids R) := by
  unfold mkS St.frz
  congr 1
  funext i
  rw [look_frzR]
theorem frzR_nil {ids : List Nat} : frzR ids [] = [] := rfl
theorem frzR_cons {ids : List Nat} {i : Nat} {r : Res} : frzR ids ((i, r) :: R) = (i, if ids.contains i then r.frz else r) :: frzR ids R := rfl

theorem look_cons {n j : Nat} {v : DV} : look ((j, v) :: E) n = if n = j then v else look E n := rfl
theorem look_nil {n : Nat} : look [] n = .undef := rfl
theorem lookR_cons {n j : Nat} {v : Res} : lookR ((j, v) :: R) n = if n = j then some v else lookR R n := rfl
theorem lookR_nil {n : Nat} : lookR [] n = none := rfl

theorem view_imm {res : Nat → Option Res} {v : IV} : view res (.imm v) = .imm v := rfl
theorem view_undef {res : Nat → Option Res} : view res .undef = .undef := rfl
def viewRef (i o : Nat) : Option Res → DV
  | some (.fza es) => .imm (.ptr (.agg (es.drop o)))
  | _ => .ref i o
theorem view_ref {res : Nat → Option Res} {i o : Nat} : view res (.ref i o) = viewRef i o (res i) := rfl
theorem viewRef_fza {i o : Nat} {es : List IV} : viewRef i o (some (.fza es)) = .imm (.ptr (.agg (es.drop o))) := rfl
theorem viewRef_box {i o : Nat} {cs : List DV} : viewRef i o (some (.box cs)) = .ref i o := rfl
theorem viewRef_arr {i o : Nat} {es : List IV} : viewRef i o (some (.arr es)) = .ref i o := rfl
theorem viewRef_tok {i o sz : Nat} {es : List IV} : viewRef i o (some (.tok sz es)) = .ref i o := rfl
theorem viewRef_none {i o : Nat} : viewRef i o none = .ref i o := rfl
theorem view_pim {res : Nat → Option Res} {v : IV} : view res (.pim v) = .imm (.ptr v) := rfl
theorem view_nils {res : Nat → Option Res} {sz : Nat} : view res (.nils sz) = .imm (.slc sz []) := rfl
theorem view_cap0 {res : Nat → Option Res} {sz : Nat} {es : List IV} : view res (.cap0 sz es) = .imm (.slc sz es) := rfl
theorem view_agg {res : Nat → Option Res} {cs : List DV} : view res (.agg cs) = mkAgg (viewAll res cs) := rfl
def viewOwn : Option Res → DV | some (.tok sz es) => .imm (.slc sz es) | _ => .undef
theorem view_own {res : Nat → Option Res} {t : Nat} : view res (.own t) = viewOwn (res t) := rfl
theorem viewOwn_tok {sz : Nat} {es : List IV} : viewOwn (some (.tok sz es)) = .imm (.slc sz es) := rfl
def viewVec (id off n : Nat) : Option Res → DV
  | some (.fza es) => if off + n ≤ es.length then .imm (.slc 1 ((es.drop off).take n)) else .undef
  | _ => .vec id off n
theorem view_vec {res : Nat → Option Res} {id off n : Nat} : view res (.vec id off n) = viewVec id off n (res id) := rfl
theorem viewVec_fza {id off n : Nat} {es : List IV} : viewVec id off n (some (.fza es)) = if off + n ≤ es.length then .imm (.slc 1 ((es.drop off).take n)) else .undef := rfl
theorem viewVec_arr {id off n : Nat} {es : List IV} : viewVec id off n (some (.arr es)) = .vec id off n := rfl
def viewFn (f : FuncId) (a b : List DV) : Option (List IV) → Option (List IV) → DV
  | some x, some y => .imm (.func f x y)
  | _, _ => .fn f a b
theorem view_fn {res : Nat → Option Res} {f : FuncId} {a b : List DV} : view res (.fn f a b) = viewFn f a b (allImm (viewAll res a)) (allImm (viewAll res b)) := rfl
theorem viewFn_some {f : FuncId} {a b : List DV} {x y : List IV} : viewFn f a b (some x) (some y) = .imm (.func f x y) := rfl
theorem viewAll_nil {res : Nat → Option Res} : viewAll res [] = [] := rfl
theorem viewAll_cons {res : Nat → Option Res} {x : DV} {r : List DV} : viewAll res (x :: r) = view res x :: viewAll res r := rfl
theorem viewAll_imms {res : Nat → Option Res} (vs : List IV) : viewAll res (vs.map .imm) = vs.map .imm := by
  induction vs with
  | nil => rfl
  | cons v vs ih => simp only [List.map_cons, viewAll, view, ih]
theorem allImm_nil : allImm [] = some [] := rfl
def consO (v : IV) : Option (List IV) → Option (List IV) | some vs => some (v :: vs) | none => none
theorem allImm_cons {v : IV} {r : List DV} : allImm (.imm v :: r) = consO v (allImm r) := by
  simp only [allImm, consO]
  split <;> simp_all
theorem consO_some {v : IV} {vs : List IV} : consO v (some vs) = some (v :: vs) := rfl
theorem consO_none {v : IV} : consO v none = none := rfl
theorem allImm_imms (vs : List IV) : allImm (vs.map .imm) = some vs := by
  induction vs with
  | nil => rfl
  | cons v vs ih => simp only [List.map_cons, allImm, ih]
theorem allImm_ref {i o : Nat} {r : List DV} : allImm (.ref i o :: r) = none := rfl
theorem allImm_vec {i o n : Nat} {r : List DV} : allImm (.vec i o n :: r) = none := rfl
theorem allImm_own {t : Nat} {r : List DV} : allImm (.own t :: r) = none := rfl
theorem allImm_nils {sz : Nat} {r : List DV} : allImm (.nils sz :: r) = none := rfl
theorem allImm_cap0 {sz : Nat} {es : List IV} {r : List DV} : allImm (.cap0 sz es :: r) = none := rfl
theorem allImm_pim {v : IV} {r : List DV} : allImm (.pim v :: r) = none := rfl
theorem allImm_undef {r : List DV} : allImm (.undef :: r) = none := rfl
theorem allImm_fn {f : FuncId} {a b : List DV} {r : List DV} : allImm (.fn f a b :: r) = none := rfl
theorem allImm_agg {a : List DV} {r : List DV} : allImm (.agg a :: r) = none := rfl
def mkAggO (cells : List DV) : Option (List IV) → DV | some vs => .imm (.agg vs) | none => .agg cells
theorem mkAgg_mk {cells : List DV} : mkAgg cells = mkAggO cells (allImm cells) := rfl
theorem mkAggO_some {cells : List DV} {vs : List IV} : mkAggO cells (some vs) = .imm (.agg vs) := rfl
theorem mkAggO_none {cells : List DV} : mkAggO cells none = .agg cells := rfl
theorem resOf_ref {res : Nat → Option Res} {i o : Nat} : resOf res (.ref i o) = res i := rfl
def resVwO (res : Nat → Option Res) : Option Res → Option Res | some (.box cells) => some (.box (viewAll res cells)) | r => r
theorem resVw_ref {res : Nat → Option Res} {i o : Nat} : resVw res (.ref i o) = resVwO res (res i) := rfl
theorem resVwO_box {res : Nat → Option Res} {cells : List DV} : resVwO res (some (.box cells)) = some (.box (viewAll res cells)) := rfl
theorem resVwO_arr {res : Nat → Option Res} {es : List IV} : resVwO res (some (.arr es)) = some (.arr es) := rfl
theorem resVwO_fza {res : Nat → Option Res} {es : List IV} : resVwO res (some (.fza es)) = some (.fza es) := rfl

theorem cellsOf_agg {cs : List IV} : cellsOf (.imm (.agg cs)) = some (cs.map .imm) := rfl
theorem cellsOf_dagg {cs : List DV} : cellsOf (.agg cs) = some cs := rfl
theorem cellsOf_int {kd : IntKind} {n : Int} : cellsOf (.imm (.int kd n)) = some [.imm (.int kd n)] := rfl
theorem cellsOf_bool {b : Bool} : cellsOf (.imm (.bool b)) = some [.imm (.bool b)] := rfl
theorem cellsOf_slc {sz : Nat} {es : List IV} : cellsOf (.imm (.slc sz es)) = some [.imm (.slc sz es)] := rfl
theorem cellsOf_str {s : ByteArray} : cellsOf (.imm (.str s)) = some [.imm (.str s)] := rfl
theorem cellsOf_func {f : FuncId} {a b : List IV} : cellsOf (.imm (.func f a b)) = some [.imm (.func f a b)] := rfl
theorem cellsOf_nilf : cellsOf (.imm .nilf) = some [.imm .nilf] := rfl
theorem cellsOf_flt {kd : FloatKind} {n : Nat} : cellsOf (.imm (.flt kd n)) = some [.imm (.flt kd n)] := rfl
theorem cellsOf_ref {i o : Nat} : cellsOf (.ref i o) = some [.ref i o] := rfl
theorem cellsOf_vec {i o n : Nat} : cellsOf (.vec i o n) = some [.vec i o n] := rfl
theorem cellsOf_own {t : Nat} : cellsOf (.own t) = some [.own t] := rfl
theorem cellsOf_nils {sz : Nat} : cellsOf (.nils sz) = some [.nils sz] := rfl
theorem cellsOf_cap0 {sz : Nat} {es : List IV} : cellsOf (.cap0 sz es) = some [.cap0 sz es] := rfl
theorem cellsOf_fn {f : FuncId} {a b : List DV} : cellsOf (.fn f a b) = some [.fn f a b] := rfl

def tak {α : Type} : Nat → List α → List α
  | 0, _ => []
  | _ + 1, [] => []
  | n + 1, x :: l => x :: tak n l
def drp {α : Type} : Nat → List α → List α
  | 0, l => l
  | _ + 1, [] => []
  | n + 1, _ :: l => drp n l
theorem tak_eq {α : Type} : ∀ (n : Nat) (l : List α), l.take n = tak n l
  | 0, _ => rfl
  | _ + 1, [] => rfl
  | n + 1, x :: l => by simp only [List.take_succ_cons, tak, tak_eq n l]
theorem drp_eq {α : Type} : ∀ (n : Nat) (l : List α), l.drop n = drp n l
  | 0, _ => rfl
  | _ + 1, [] => rfl
  | n + 1, x :: l => by simp only [List.drop_succ_cons, drp, drp_eq n l]

theorem doP_quiet {kind : Kind} {dst : Option Nat} {xs : List Opd} (h : kind.writes = false) : doP P dst kind xs (mkS E R) K = sem P (dst.getD 0) kind (xs.map (mkS E R).arg) (putP dst (mkS E R) K) := by
  unfold doP wpDO
  simp only [h, Bool.false_eq_true, if_false]
  rfl

def DCode.straight : DCode → Bool
  | .skip | .region .. => true
  | .seq a b => a.straight && b.straight
  | .keep _ _ a | .freeze _ a => a.straight
  | _ => false

theorem wpD_straight : ∀ {c : DCode} {st : St} {K : Ex → St → Prop}, c.straight = true → wpD P c K st → wpD P c (fun e s => e = .normal ∧ K .normal s) st
  | .skip, _, _, _, h => ⟨rfl, h⟩
  | .region _ _, _, _, _, h => wpR_mono (fun s hs => ⟨rfl, hs⟩) h
  | .seq a b, _, _, hs, h => by
    have hs := Bool.and_eq_true_iff.1 hs
    refine wpD_mono (c := a) (fun e s h => ?_) (wpD_straight (c := a) hs.1 h)
    obtain ⟨rfl, h⟩ := h
    exact wpD_straight (c := b) hs.2 h
  | .keep _ _ a, _, _, hs, h => wpD_straight (c := a) hs h
  | .freeze _ a, _, _, hs, h => wpD_straight (c := a) hs h
  | .cond .., _, _, hs, _ => (by cases hs)
  | .block .., _, _, hs, _ => (by cases hs)
  | .loop _, _, _, hs, _ => (by cases hs)
  | .exit _, _, _, hs, _ => (by cases hs)
  | .ret, _, _, hs, _ => (by cases hs)
  | .ren .., _, _, hs, _ => (by cases hs)
  | .rangeF .., _, _, hs, _ => (by cases hs)
  | .settle .., _, _, hs, _ => (by cases hs)
  | .dead, _, _, hs, _ => (by cases hs)
  | .mktok .., _, _, hs, _ => (by cases hs)

def keepE (live ids : List Nat) (E : List (Nat × DV)) : List (Nat × DV) := live.map fun y => (y, (look E y).keep ids)
def setL (E : List (Nat × DV)) : List Nat → List IV → List (Nat × DV)
  | p :: ps, v :: vs => setL ((p, .imm v) :: E) ps vs
  | _, _ => E

theorem envL_look {live ids : List Nat} : envL live ids (look E) = look (keepE live ids E) := by
  funext x
  unfold keepE
  rw [look_map]
  rfl

theorem setPs_look : ∀ (ps : List Nat) (vs : List IV) (E : List (Nat × DV)), setPs (look E) ps vs = look (setL E ps vs)
  | [], _, E => rfl
  | p :: ps, [], E => rfl
  | p :: ps, v :: vs, E => by
    have := setPs_look ps vs ((p, .imm v) :: E)
    unfold setPs setL
    rw [← this]
    rfl

theorem keepRes_look {kids : List Nat} : keepRes kids (lookR R) = lookR (keepR R kids kids) := by
  funext i
  rw [look_keepR]; rfl

theorem withRes_look {R1 : List (Nat × Res)} : withRes (lookR R1) (lookR R) = lookR (R1 ++ R) := by
  funext i
  unfold withRes
  induction R1 with
  | nil => rfl
  | cons q R1 ih =>
    obtain ⟨j, r⟩ := q
    simp only [lookR, List.cons_append]
    by_cases e : i = j
    · simp [e]
    · simp only [if_neg e]; exact ih

def roundQ (P : Program) (k : List KF) (Q : Ex → St → Prop) (kids : List Nat) (E1 : List (Nat × DV)) (J : (Nat → Option Res) → Prop) : Ex → St → Prop
  | .normal, s => J (keepRes kids s.res)
  | e, s => resume P k Q e ⟨look E1, keepRes kids s.res⟩

theorem roundQ_normal {kids : List Nat} {E1 : List (Nat × DV)} {J : (Nat → Option Res) → Prop} : roundQ P k Q kids E1 J .normal (mkS E R) = J (lookR (keepR R kids kids)) := by
  show J (keepRes kids (lookR R)) = _
  rw [keepRes_look]
theorem roundQ_exit {kids : List Nat} {E1 : List (Nat × DV)} {J : (Nat → Option Res) → Prop} {i : Nat} : roundQ P k Q kids E1 J (.exit i) (mkS E R) = resume P k Q (.exit i) (mkS E1 (keepR R kids kids)) := by
  show resume P k Q (.exit i) ⟨look E1, keepRes kids (lookR R)⟩ = _
  rw [keepRes_look]; rfl
theorem roundQ_ret {kids : List Nat} {E1 : List (Nat × DV)} {J : (Nat → Option Res) → Prop} : roundQ P k Q kids E1 J .ret (mkS E R) = resume P k Q .ret (mkS E1 (keepR R kids kids)) := by
  show resume P k Q .ret ⟨look E1, keepRes kids (lookR R)⟩ = _
  rw [keepRes_look]; rfl

theorem range_keep {g : Opd} {ps live ids its kids : List Nat} {ad bd : DCode} {gf : FuncId} {first caps : List DV} (xs : List (List IV)) (inf : Bool) (hcal : callee (view (lookR R) ((mkS E R).ev g)) = some (gf, first, caps)) (hlend : lendOk its (lookR R) (first ++ caps) = true)
    (hids : (ids.all fun id => !its.contains id && (match lookR R id with | some r => !r.isTok | none => false)) = true) (hits : its.contains 0 = false)
    (hbc : ∀ l, BC P gf (first ++ .yld l :: caps) (withSeq (restr its (lookR R)) l (inf, some xs)) fun _ R' => seqOver l inf R') (hxs : ∀ x ∈ xs, x.length = ps.length) (hst : ad.straight = true)
    {α : Type} (Inv : Nat → α → Prop) (G : α → List (Nat × Res)) (a0 : α) (h0 : Inv 0 a0) (hs : keepRes kids (lookR R) = lookR (G a0))
    (step : ∀ n x y, xs[n]? = some x → Inv n y → run P ad [.seq bd] (roundQ P k Q kids (keepE live ids E) (fun R' => ∃ y', Inv (n + 1) y' ∧ R' = lookR (G y') ∧ (inf = true → n + 1 < xs.length))) (mkS (setL (keepE live ids E) ps x) (G y)))
    (done : ∀ y, inf = false → Inv xs.length y → resume P k Q .normal (mkS (keepE live ids E) (G y))) : run P (.rangeF g ps live ids its kids ad bd) k Q (mkS E R) := by
  unfold run
  simp only [wpD]
  refine ⟨gf, first, caps, hcal, hlend, hids, hits, xs, inf, fun n R' => ∃ y, Inv n y ∧ R' = lookR (G y), hbc, hxs, ⟨a0, h0, hs⟩, ?_, ?_⟩
  · rintro n x R' hx ⟨y, hy, rfl⟩
    have h := step n x y hx hy
    unfold run at h
    have e1 : (mkS (setL (keepE live ids E) ps x) (G y)) = ⟨setPs (envL live ids (mkS E R).env) ps x, lookR (G y)⟩ := by
      show (⟨_, _⟩ : St) = ⟨setPs (envL live ids (look E)) ps x, lookR (G y)⟩
      rw [envL_look, setPs_look]
    rw [e1] at h
    refine wpD_mono (fun e s hs => ?_) (wpD_straight hst h)
    refine ⟨hs.1, ?_⟩
    refine wpD_mono (fun e' s' hs' => ?_) hs.2
    cases e' with
    | normal =>
      obtain ⟨y', g1, g2, g3⟩ := hs'
      exact ⟨⟨y', g1, g2⟩, g3⟩
    | exit i =>
      have : resume P k Q (.exit i) ⟨look (keepE live ids E), keepRes kids s'.res⟩ := hs'
      rw [← envL_look] at this; exact this
    | ret =>
      have : resume P k Q .ret ⟨look (keepE live ids E), keepRes kids s'.res⟩ := hs'
      rw [← envL_look] at this; exact this
  · rintro R' hf ⟨y, hy, rfl⟩
    have := done y hf hy
    unfold mkS at this
    rw [← envL_look] at this; exact this

theorem do_yield {f : Opd} {ys : List Opd} {l : Nat} {inf : Bool} {x : List IV} {rest : List (List IV)} (hf : view (lookR R) ((mkS E R).ev f) = .yld l) (h0 : lookR R 0 = some (.seq l (inf, some (x :: rest)))) (hy : (ys.map fun y => view (lookR R) ((mkS E R).ev y)) = x.map .imm)
    (ht : (inf = true → rest ≠ []) → K (mkS ((d, .imm (.bool true)) :: E) ((0, .seq l (inf, some rest)) :: R))) (hn : K (mkS ((d, .imm (.bool false)) :: E) ((0, .seq l (inf, none)) :: R))) : doP P (some d) .yield (f :: ys) (mkS E R) K := by
  unfold doP wpDO
  rw [if_pos (show Kind.writes .yield = true from rfl)]
  show (match view (lookR R) ((mkS E R).ev f), lookR R 0 with
    | .yld l, some (.seq l' (inf, some (x :: rest))) => l' = l ∧ (ys.map fun y => view (lookR R) ((mkS E R).ev y)) = x.map .imm ∧
        ((inf = true → rest ≠ []) → K (((mkS E R).setRes 0 (.seq l (inf, some rest))).put (some d) (.imm (.bool true)) none)) ∧ K (((mkS E R).setRes 0 (.seq l (inf, none))).put (some d) (.imm (.bool false)) none)
    | _, _ => False)
  rw [hf, h0]
  exact ⟨rfl, hy, ht, hn⟩

theorem do_callb {ids : List Nat} {dst : Option Nat} {f : Opd} {ys : List Opd} {g : FuncId} {first cap : List DV} {Phi : DV → (Nat → Option Res) → Prop} (hf : callee (view (lookR R) ((mkS E R).ev f)) = some (g, first, cap))
    (hbc : BC P g (first ++ (ys.map fun y => bview (lookR R) ((mkS E R).ev y)) ++ cap) (restr ids (lookR R)) Phi) (hl : lendOk ids (lookR R) (first ++ (ys.map fun y => bview (lookR R) ((mkS E R).ev y)) ++ cap) = true)
    (h0 : (ids.contains 0 || (ghost (lookR R)).isNone) = true) (hk : ∀ r R', Phi r R' → ClosedR R' → Nm R' r → (∀ id, (R' id).isSome = true → ids.contains id = true ∨ lookR R id = none) ∧ K (St.put ⟨look E, withRes R' (lookR R)⟩ dst r none)) :
    doP P dst (.callb ids) (f :: ys) (mkS E R) K := by
  unfold doP wpDO
  rw [if_pos (show Kind.writes (.callb ids) = true from rfl)]
  show (match callee (view (lookR R) ((mkS E R).ev f)) with
    | some (g, first, cap) => ∃ Phi, BC P g (first ++ (ys.map fun y => bview (lookR R) ((mkS E R).ev y)) ++ cap) (restr ids (lookR R)) Phi ∧ lendOk ids (lookR R) (first ++ (ys.map fun y => bview (lookR R) ((mkS E R).ev y)) ++ cap) = true ∧ (ids.contains 0 || (ghost (lookR R)).isNone) = true ∧
        ∀ r R', Phi r R' → ClosedR R' → Nm R' r → (∀ id, (R' id).isSome = true → ids.contains id = true ∨ lookR R id = none) ∧ K (St.put ⟨look E, withRes R' (lookR R)⟩ dst r none)
    | none => False)
  rw [hf]
  exact ⟨Phi, hbc, hl, h0, hk⟩

def sealE (ids : List Nat) (R : List (Nat × Res)) (E : List (Nat × DV)) : List (Nat × DV) := E.map fun q => (q.1, q.2.seal ids (lookR R))
def sealR (ids : List Nat) (R0 : List (Nat × Res)) : List (Nat × Res) → List (Nat × Res)
  | [] => []
  | (i, r) :: R => if sealed ids (lookR R0) i then sealR ids R0 R else (i, r.seal ids (lookR R0)) :: sealR ids R0 R

theorem look_sealE {ids : List Nat} {R : List (Nat × Res)} : ∀ (E : List (Nat × DV)) (x : Nat), look (sealE ids R E) x = (look E x).seal ids (lookR R)
  | [], x => rfl
  | (j, v) :: E, x => by
    simp only [sealE, List.map_cons, look]
    split
    · rfl
    · exact look_sealE E x
theorem look_sealR {ids : List Nat} {R0 : List (Nat × Res)} (i : Nat) : ∀ (R : List (Nat × Res)), lookR (sealR ids R0 R) i = if sealed ids (lookR R0) i then none else (lookR R i).map (Res.seal ids (lookR R0))
  | [] => by simp [sealR, lookR]
  | (j, r) :: R => by
    simp only [sealR]
    have ih := look_sealR (ids := ids) (R0 := R0) i R
    by_cases hij : i = j
    · subst hij
      by_cases hs : sealed ids (lookR R0) i = true
      · rw [if_pos hs, ih, if_pos hs, if_pos hs]
      · rw [if_neg hs, if_neg hs]; simp [lookR]
    · by_cases hs : sealed ids (lookR R0) j = true
      · rw [if_pos hs, ih]; simp [lookR, hij]
      · rw [if_neg hs]
        simp only [lookR, if_neg hij]
        exact ih

theorem run_dead {st : St} : run P .dead k Q st = False := rfl
theorem run_settle {ids : List Nat} {a : DCode} {st : St} : run P (.settle ids a) k Q st = run P a (.settle ids :: k) Q st := rfl
theorem res_settle {ids : List Nat} {e : Ex} : resume P (.settle ids :: k) Q e (mkS E R) = resume P k Q e (mkS (sealE ids (frzR ids R) E) (sealR ids (frzR ids R) (frzR ids R))) := by
  show resume P k Q e ((mkS E R).settle ids) = _
  congr 1
  unfold St.settle
  rw [frz_mk]
  unfold mkS St.seal
  congr 1
  · funext x; rw [look_sealE]
  · funext i; rw [look_sealR]

def mktokP (P : Program) (b off t sz : Nat) (c : DCode) (k : List KF) (Q : Ex → St → Prop) (E : List (Nat × DV)) (R : List (Nat × Res)) : Option Res → Prop
  | some (.box cells) => tokAt cells off sz = true ∧ lookR R t = none ∧ run P c k Q (mkS E ((t, .tok sz (tokEs cells off)) :: (b, .box (cells.set off (.own t))) :: R))
  | _ => False
theorem mktokP_box {b off t sz : Nat} {c : DCode} {cells : List DV} : mktokP P b off t sz c k Q E R (some (.box cells)) = (tokAt cells off sz = true ∧ lookR R t = none ∧ run P c k Q (mkS E ((t, .tok sz (tokEs cells off)) :: (b, .box (cells.set off (.own t))) :: R))) := rfl
theorem run_mktok {b off t sz : Nat} {c : DCode} : run P (.mktok b off t sz c) k Q (mkS E R) = mktokP P b off t sz c k Q E R (lookR R b) := by
  unfold run mktokP
  simp only [wpD]
  show ((match lookR R b with | some (.box cells) => tokAt cells off sz = true | _ => False) ∧ lookR R t = none ∧ _) = _
  split
  · rename_i cells hb
    have e : (mkS E R).mktok b off t sz = mkS E ((t, .tok sz (tokEs cells off)) :: (b, .box (cells.set off (.own t))) :: R) := by
      unfold mkS St.mktok
      congr 1
      funext i
      simp only [lookR, hb]
      rfl
    rw [e]
    rfl
  · simp

def renE (a b : Nat) (E : List (Nat × DV)) : List (Nat × DV) := E.map fun q => (q.1, q.2.ren a b)
def renR (a b : Nat) (R : List (Nat × Res)) : List (Nat × Res) := R.map fun q => (if q.1 = a then b else q.1, q.2.ren a b)

theorem look_renE {a b : Nat} : ∀ (E : List (Nat × DV)) (x : Nat), look (renE a b E) x = (look E x).ren a b
  | [], x => rfl
  | (j, v) :: E, x => by
    simp only [renE, List.map_cons, look]
    split
    · rfl
    · exact look_renE E x
theorem look_renR {a b : Nat} : ∀ (R : List (Nat × Res)), lookR R b = none → ∀ i, lookR (renR a b R) i = if i = a then (if i = b then (lookR R a).map (Res.ren a b) else none) else if i = b then (lookR R a).map (Res.ren a b) else (lookR R i).map (Res.ren a b)
  | [], _, i => by simp [renR, lookR]
  | (j, r) :: R, hb, i => by
    have hjb : b ≠ j := by
      intro e
      simp [lookR, e] at hb
    have hb' : lookR R b = none := by simpa [lookR, hjb] using hb
    have ih := look_renR (a := a) R hb' i
    simp only [renR, List.map_cons, lookR] at ih ⊢
    by_cases hja : j = a
    · subst hja
      simp only [if_true]
      by_cases hib : i = b
      · subst hib; simp
      · rw [if_neg hib]
        rw [ih]
        simp only [if_neg hib]
        split <;> simp_all
    · rw [if_neg hja]
      by_cases hij : i = j
      · subst hij
        simp only [if_true, if_neg hja]
        rw [if_neg (Ne.symm hjb)]
        rfl
      · rw [if_neg hij, ih]
        rw [if_neg (Ne.symm hja)]
        simp [hij]

theorem run_ren {a b : Nat} {c : DCode} (hb : lookR R b = none) (ha0 : a ≠ 0) (hb0 : b ≠ 0) (hab : a ≠ b) (h : run P c k Q (mkS (renE a b E) (renR a b R))) : run P (.ren a b c) k Q (mkS E R) := by
  unfold run at h ⊢
  simp only [wpD]
  refine ⟨hb, ha0, hb0, ?_⟩
  have e : (mkS E R).ren a b = mkS (renE a b E) (renR a b R) := by
    unfold mkS St.ren
    congr 1
    · funext x; rw [look_renE]
    · funext i
      rw [look_renR R hb i]
      by_cases hi : i = a
      · subst hi; simp [hab]
      · simp [hi]
  rw [e]; exact h

end
end Go.DI

/- One equation for each kind of operation. No condition. -/
namespace Go.DI
open Go.RowKit

section
variable {P : Program} {E : List (Nat × DV)} {R : List (Nat × Res)} {K : St → Prop} {dst : Option Nat} {xs : List Opd}

theorem doP_mov : doP P dst .mov xs (mkS E R) K = semMov (putP dst (mkS E R) K) (xs.map (mkS E R).arg) := doP_quiet rfl
theorem doP_movv : doP P dst .movv xs (mkS E R) K = semMovv (putP dst (mkS E R) K) (xs.map (mkS E R).arg) := doP_quiet rfl
theorem doP_pick : doP P dst .pick xs (mkS E R) K = semPick (putP dst (mkS E R) K) (xs.map (mkS E R).arg) := doP_quiet rfl
theorem doP_ntok {sz : Nat} : doP P dst (.ntok sz) xs (mkS E R) K = semNtok (putP dst (mkS E R) K) (dst.getD 0) sz (xs.map (mkS E R).arg) := doP_quiet rfl
theorem doP_alloc {z : List DV} : doP P dst (.alloc z) xs (mkS E R) K = semAlloc (putP dst (mkS E R) K) (dst.getD 0) z (xs.map (mkS E R).arg) := doP_quiet rfl
theorem doP_box : doP P dst .box xs (mkS E R) K = semBox (putP dst (mkS E R) K) (dst.getD 0) (xs.map (mkS E R).arg) := doP_quiet rfl
theorem doP_build {z : List DV} {ps : List (Nat × Nat)} : doP P dst (.build z ps) xs (mkS E R) K = semBuild (putP dst (mkS E R) K) z ps (xs.map (mkS E R).arg) := doP_quiet rfl
theorem doP_bsl {sz : Nat} : doP P dst (.bsl sz) xs (mkS E R) K = semBsl (putP dst (mkS E R) K) sz (xs.map (mkS E R).arg) := doP_quiet rfl
theorem doP_buildr {z : List DV} {ps : List (Nat × Nat)} : doP P dst (.buildr z ps) xs (mkS E R) K = semBuildr (putP dst (mkS E R) K) z ps (xs.map (mkS E R).arg) := doP_quiet rfl
theorem doP_px {p : PX} : doP P dst (.px p) xs (mkS E R) K = semPx (putP dst (mkS E R) K) p (xs.map (mkS E R).arg) := doP_quiet rfl
theorem doP_aslice {n : Nat} : doP P dst (.aslice n) xs (mkS E R) K = semAslice (putP dst (mkS E R) K) n (xs.map (mkS E R).arg) := doP_quiet rfl
theorem doP_appq {sz bytes : Nat} : doP P dst (.appq sz bytes) xs (mkS E R) K = semAppq (putP dst (mkS E R) K) sz bytes (xs.map (mkS E R).arg) := doP_quiet rfl
theorem doP_load {agg : Bool} {n : Nat} : doP P dst (.load agg n) xs (mkS E R) K = semLoad (putP dst (mkS E R) K) agg n (xs.map (mkS E R).arg) := doP_quiet rfl
theorem doP_loadf {agg : Bool} {n : Nat} {ids : List Nat} : doP P dst (.loadf agg n ids) xs (mkS E R) K = (addrIn ids (xs.map (mkS E R).arg) = true ∧ semLoad (putP dst (mkS E R) K) agg n (xs.map (mkS E R).arg)) := doP_quiet rfl
theorem doP_nilck : doP P dst .nilck xs (mkS E R) K = semNilck (putP dst (mkS E R) K) (xs.map (mkS E R).arg) := doP_quiet rfl
theorem doP_bin {op : BinOp} : doP P dst (.bin op) xs (mkS E R) K = semBin (putP dst (mkS E R) K) op (xs.map (mkS E R).arg) := doP_quiet rfl
theorem doP_beq {neg : Bool} : doP P dst (.beq neg) xs (mkS E R) K = semBeq (putP dst (mkS E R) K) neg (xs.map (mkS E R).arg) := doP_quiet rfl
theorem doP_eqs {ks : List Bool} {neg : Bool} : doP P dst (.eqs ks neg) xs (mkS E R) K = semEqs (putP dst (mkS E R) K) ks neg (xs.map (mkS E R).arg) := doP_quiet rfl
theorem doP_un {op : UnOp} : doP P dst (.un op) xs (mkS E R) K = semUn (putP dst (mkS E R) K) op (xs.map (mkS E R).arg) := doP_quiet rfl
theorem doP_conv {kd : IntKind} : doP P dst (.conv kd) xs (mkS E R) K = semConv (putP dst (mkS E R) K) kd (xs.map (mkS E R).arg) := doP_quiet rfl
theorem doP_mkfn {f : FuncId} {nf : Nat} : doP P dst (.mkfn f nf) xs (mkS E R) K = semMkfn (putP dst (mkS E R) K) f nf (xs.map (mkS E R).arg) := doP_quiet rfl
theorem doP_slice {sz : Nat} {lo hi : Bool} : doP P dst (.slice sz lo hi) xs (mkS E R) K = semSlice (putP dst (mkS E R) K) sz lo hi (xs.map (mkS E R).arg) := doP_quiet rfl
theorem doP_sslice {lo hi : Bool} : doP P dst (.sslice lo hi) xs (mkS E R) K = semSslice (putP dst (mkS E R) K) lo hi (xs.map (mkS E R).arg) := doP_quiet rfl
theorem doP_slice3 {sz : Nat} : doP P dst (.slice3 sz) xs (mkS E R) K = semSlice3 (putP dst (mkS E R) K) sz (xs.map (mkS E R).arg) := doP_quiet rfl
theorem doP_faddrp {off : Nat} {agg : Bool} {n : Nat} : doP P dst (.faddrp off agg n) xs (mkS E R) K = (addrIn [] (xs.map (mkS E R).arg) = true ∧ semFaddr (putP dst (mkS E R) K) off agg n (xs.map (mkS E R).arg)) := doP_quiet rfl
theorem doP_faddr {off : Nat} {agg : Bool} {n : Nat} : doP P dst (.faddr off agg n) xs (mkS E R) K = semFaddr (putP dst (mkS E R) K) off agg n (xs.map (mkS E R).arg) := doP_quiet rfl
theorem doP_field {off : Nat} {agg : Bool} {n : Nat} : doP P dst (.field off agg n) xs (mkS E R) K = semField (putP dst (mkS E R) K) off agg n (xs.map (mkS E R).arg) := doP_quiet rfl
theorem doP_iaddr {sz : Nat} : doP P dst (.iaddr sz) xs (mkS E R) K = semIaddr (putP dst (mkS E R) K) sz (xs.map (mkS E R).arg) := doP_quiet rfl
theorem doP_iarr {len sz : Nat} {agg : Bool} : doP P dst (.iarr len sz agg) xs (mkS E R) K = semIarr (putP dst (mkS E R) K) len sz agg (xs.map (mkS E R).arg) := doP_quiet rfl
theorem doP_index {len sz : Nat} {agg : Bool} : doP P dst (.index len sz agg) xs (mkS E R) K = semIndex (putP dst (mkS E R) K) len sz agg (xs.map (mkS E R).arg) := doP_quiet rfl
theorem doP_sidx : doP P dst .sidx xs (mkS E R) K = semSidx (putP dst (mkS E R) K) (xs.map (mkS E R).arg) := doP_quiet rfl
theorem doP_ext {i : Nat} : doP P dst (.ext i) xs (mkS E R) K = semExt (putP dst (mkS E R) K) i (xs.map (mkS E R).arg) := doP_quiet rfl
theorem doP_call : doP P dst .call xs (mkS E R) K = semCall (putP dst (mkS E R) K) P (xs.map (mkS E R).arg) := doP_quiet rfl
theorem doP_len : doP P dst .len xs (mkS E R) K = semLen (putP dst (mkS E R) K) (xs.map (mkS E R).arg) := doP_quiet rfl
theorem doP_slen : doP P dst .slen xs (mkS E R) K = semSlen (putP dst (mkS E R) K) (xs.map (mkS E R).arg) := doP_quiet rfl
theorem doP_alen {n : Nat} : doP P dst (.alen n) xs (mkS E R) K = semAlen (putP dst (mkS E R) K) n (xs.map (mkS E R).arg) := doP_quiet rfl
theorem doP_mm {mx : Bool} : doP P dst (.mm mx) xs (mkS E R) K = semMm (putP dst (mkS E R) K) mx (xs.map (mkS E R).arg) := doP_quiet rfl
theorem doP_mksl {z : IV} {bytes : Nat} : doP P dst (.mksl z bytes) xs (mkS E R) K = semMksl (putP dst (mkS E R) K) (dst.getD 0) z bytes (xs.map (mkS E R).arg) := doP_quiet rfl
end

section
variable {K : DV → Option Res → Prop} {r r1 r2 r3 v v1 v2 v3 : DV} {s s1 s2 s3 t t1 t2 t3 : Option Res}

theorem mov_ : semMov K [⟨r, v, s, t⟩] = K r none := rfl
theorem movv_ : semMovv K [⟨r, v, s, t⟩] = K v none := rfl
theorem pick_ {b : Bool} : semPick K [⟨r, .imm (.bool b), s, t⟩, ⟨r1, v1, s1, t1⟩, ⟨r2, v2, s2, t2⟩] = if b = true then K r1 none else K r2 none := by cases b <;> rfl
theorem ntok_ {d sz z : Nat} : semNtok K d sz [⟨.imm (.slc z []), v, s, t⟩] = K (.own d) (some (.tok sz [])) := rfl
theorem alloc_ {d : Nat} {z : List DV} : semAlloc K d z [] = K (.ref d 0) (some (.box z)) := rfl
def boxP (K : DV → Option Res → Prop) (d : Nat) : Option (List DV) → Prop | some cs => K (.ref d 0) (some (.box cs)) | none => False
theorem box_ {d : Nat} : semBox K d [⟨r, v, s, t⟩] = boxP K d (cellsOf r) := by unfold semBox boxP; rfl
theorem boxP_ {d : Nat} {cs : List DV} : boxP K d (some cs) = K (.ref d 0) (some (.box cs)) := rfl
def buildP (K : DV → Option Res → Prop) : Option (List DV) → Prop | some cells => K (mkAgg cells) none | none => False
theorem build_ {z : List DV} {ps : List (Nat × Nat)} {as : List Arg} : semBuild K z ps as = buildP K (fillD z ps as) := by unfold semBuild buildP; rfl
theorem buildP_ {cells : List DV} : buildP K (some cells) = K (mkAgg cells) none := rfl
def fillA (cells : List DV) (off n : Nat) (ps : List (Nat × Nat)) (as : List Arg) : Option (List DV) → Option (List DV)
  | some cs => if cs.length = n ∧ off + n ≤ cells.length then fillD (setCells cells off cs) ps as else none
  | none => none
theorem fillD_nil {cells : List DV} : fillD cells [] [] = some cells := rfl
theorem fillD_cons {cells : List DV} {off n : Nat} {ps : List (Nat × Nat)} {as : List Arg} : fillD cells ((off, n) :: ps) (⟨r, v, s, t⟩ :: as) = fillA cells off n ps as (cellsOf v) := by simp only [fillD, fillA]; cases cellsOf v <;> rfl
theorem fillA_ {cells cs : List DV} {off n : Nat} {ps : List (Nat × Nat)} {as : List Arg} : fillA cells off n ps as (some cs) = if cs.length = n ∧ off + n ≤ cells.length then fillD (setCells cells off cs) ps as else none := rfl
theorem setCells_ {cells cs : List DV} {off : Nat} : setCells cells off cs = tak off cells ++ (cs ++ drp (off + cs.length) cells) := by unfold setCells; rw [tak_eq, drp_eq]
theorem buildr_ {z : List DV} {ps : List (Nat × Nat)} {as : List Arg} : semBuildr K z ps as = buildP K (fillD z ps (as.map Arg.up)) := by unfold semBuildr semBuild buildP; rfl
theorem up_mk : Arg.up ⟨r, v, s, t⟩ = ⟨r, r, s, t⟩ := rfl
theorem aslice_ {n : Nat} {cs : List IV} : semAslice K n [⟨r, .imm (.ptr (.agg cs)), s, t⟩] = (cs.length = n ∧ (cs.all fun v => !v.isAgg && !v.isTup) = true ∧ K (.imm (.slc 1 cs)) none) := rfl
theorem appq_ {sz bytes z z' : Nat} {es ys : List IV} : semAppq K sz bytes [⟨.cap0 z' es, v, s, t⟩, ⟨r1, .imm (.slc z ys), s1, t1⟩] = (z = sz ∧ z' = sz ∧ (es.length + ys.length) * bytes ≤ 140737488355328 ∧ es.length + ys.length ≤ 9223372036854775807 ∧ K (.imm (.slc sz (es ++ ys))) none) := rfl
theorem px_ {p : PX} {as : List Arg} : semPx K p as = optP K p (allImm (as.map (·.vw))) := rfl
theorem optP_ {p : PX} {vs : List IV} : optP K p (some vs) = optK K (pxI p vs) := rfl
theorem optK_some {d : IV} : optK K (some d) = K (.imm d) none := rfl
theorem pxI_re {kf : FloatKind} {a b : Nat} : pxI .re [.cpx kf a b] = some (.flt kf a) := rfl
theorem pxI_im {kf : FloatKind} {a b : Nat} : pxI .im [.cpx kf a b] = some (.flt kf b) := rfl
theorem pxI_cplx {kf : FloatKind} {a b : Nat} : pxI .cplx [.flt kf a, .flt kf b] = some (.cpx kf a b) := by simp [pxI]
theorem pxI_i2f {kf : FloatKind} {q : IntKind} {n : Int} : pxI (.i2f kf) [.int q n] = some (.flt kf (kf.nearest n)) := rfl
def bslP (K : DV → Option Res → Prop) (sz : Nat) : Option (List IV) → Prop | some es => (es.all fun e => e.cells.length == sz && !e.isTup) = true ∧ K (.cap0 sz es) none | none => False
theorem bsl_ {sz : Nat} {as : List Arg} : semBsl K sz as = bslP K sz (allImm (as.map (·.vw))) := by unfold semBsl bslP; rfl
theorem bslP_ {sz : Nat} {es : List IV} : bslP K sz (some es) = ((es.all fun e => e.cells.length == sz && !e.isTup) = true ∧ K (.cap0 sz es) none) := rfl
theorem load_box_agg {id off n : Nat} {cells : List DV} : semLoad K true n [⟨.ref id off, v, s, some (.box cells)⟩] = (off + n ≤ cells.length ∧ K (mkAgg (tak n (drp off cells))) none) := by rw [← tak_eq, ← drp_eq]; rfl
def loadC (K : DV → Option Res → Prop) : Option DV → Prop | some c => K c none | none => False
theorem load_box {id off n : Nat} {cells cs : List DV} : semLoad K false n [⟨.ref id off, v, some (.box cs), some (.box cells)⟩] = loadC K cs[off]? := by unfold semLoad loadC; rfl
theorem loadC_ {c : DV} : loadC K (some c) = K c none := rfl
theorem load_arr {agg : Bool} {id off n : Nat} {es : List IV} : semLoad K agg n [⟨.ref id off, v, s, some (.arr es)⟩] = (agg = false ∧ off < es.length ∧ K (.imm (es.getD off .nilp)) none) := rfl
theorem load_fza {id off n : Nat} {es : List IV} : semLoad K false n [⟨.ref id off, v, s, some (.fza es)⟩] = (off < es.length ∧ K (.imm (es.getD off .nilp)) none) := rfl
theorem load_fza_agg {id off n : Nat} {es : List IV} : semLoad K true n [⟨.ref id off, v, s, some (.fza es)⟩] = (off + n ≤ es.length ∧ K (.imm (.agg (tak n (drp off es)))) none) := by rw [← tak_eq, ← drp_eq]; rfl
theorem load_pim_agg {n : Nat} {cs : List IV} : semLoad K true n [⟨.pim (.agg cs), v, s, t⟩] = (n ≤ cs.length ∧ K (.imm (.agg (tak n cs))) none) := by rw [← tak_eq]; rfl
theorem load_pim {n : Nat} {x : IV} : semLoad K false n [⟨.pim x, v, s, t⟩] = loadI K x := rfl
theorem load_ptr_agg {n : Nat} {cs : List IV} : semLoad K true n [⟨.imm (.ptr (.agg cs)), v, s, t⟩] = (n ≤ cs.length ∧ K (.imm (.agg (tak n cs))) none) := by rw [← tak_eq]; rfl
theorem load_ptr {n : Nat} {x : IV} : semLoad K false n [⟨.imm (.ptr x), v, s, t⟩] = loadI K x := rfl
theorem loadI_int {kd : IntKind} {a : Int} : loadI K (.int kd a) = K (.imm (.int kd a)) none := rfl
theorem loadI_bool {a : Bool} : loadI K (.bool a) = K (.imm (.bool a)) none := rfl
theorem loadI_str {a : ByteArray} : loadI K (.str a) = K (.imm (.str a)) none := rfl
theorem loadI_slc {sz : Nat} {a : List IV} : loadI K (.slc sz a) = K (.imm (.slc sz a)) none := rfl
theorem loadI_func {f : FuncId} {a b : List IV} : loadI K (.func f a b) = K (.imm (.func f a b)) none := rfl
theorem loadI_ptr {a : IV} : loadI K (.ptr a) = K (.imm (.ptr a)) none := rfl
theorem loadI_flt {kd : FloatKind} {a : Nat} : loadI K (.flt kd a) = K (.imm (.flt kd a)) none := rfl
theorem loadI_nilp : loadI K .nilp = K (.imm .nilp) none := rfl
theorem loadI_nilf : loadI K .nilf = K (.imm .nilf) none := rfl
theorem loadI_nili : loadI K .nili = K (.imm .nili) none := rfl
def loadJ (K : DV → Option Res → Prop) : Option IV → Prop | some c => c.isAgg = false ∧ c.isTup = false ∧ K (.imm c) none | none => False
theorem loadI_agg {cs : List IV} : loadI K (.agg cs) = loadJ K cs[0]? := by unfold loadI loadJ; rfl
theorem loadJ_ {c : IV} : loadJ K (some c) = (c.isAgg = false ∧ c.isTup = false ∧ K (.imm c) none) := rfl
theorem addrIn_ref {ids : List Nat} {id off : Nat} : addrIn ids [⟨.ref id off, v, s, t⟩] = ids.contains id := rfl
theorem addrIn_ptr {ids : List Nat} {x : IV} : addrIn ids [⟨.imm (.ptr x), v, s, t⟩] = true := rfl
theorem addrIn_pim {ids : List Nat} {x : IV} : addrIn ids [⟨.pim x, v, s, t⟩] = true := rfl
theorem nilck_ref {i o : Nat} : semNilck K [⟨.ref i o, v, s, t⟩] = K (.ref i o) none := rfl
theorem nilck_pim {x : IV} : semNilck K [⟨.pim x, v, s, t⟩] = K (.pim x) none := rfl
theorem nilck_ptr {x : IV} : semNilck K [⟨.imm (.ptr x), v, s, t⟩] = K (.pim x) none := rfl
theorem nilck_func {f : FuncId} {a b : List IV} : semNilck K [⟨.imm (.func f a b), v, s, t⟩] = K (.imm (.func f a b)) none := rfl
theorem nilck_fn {f : FuncId} {a b : List DV} : semNilck K [⟨.fn f a b, v, s, t⟩] = K (.fn f a b) none := rfl

section
variable {kd kd' : IntKind} {a b : Int}
theorem bin_add : semBin K .add [⟨r1, .imm (.int kd a), s1, t1⟩, ⟨r2, .imm (.int kd b), s2, t2⟩] = K (.imm (.int kd (kd.wrap (a + b)))) none := by simp [semBin, binI]
theorem bin_sub : semBin K .sub [⟨r1, .imm (.int kd a), s1, t1⟩, ⟨r2, .imm (.int kd b), s2, t2⟩] = K (.imm (.int kd (kd.wrap (a - b)))) none := by simp [semBin, binI]
theorem bin_mul : semBin K .mul [⟨r1, .imm (.int kd a), s1, t1⟩, ⟨r2, .imm (.int kd b), s2, t2⟩] = K (.imm (.int kd (kd.wrap (a * b)))) none := by simp [semBin, binI]
theorem bin_quo : semBin K .quo [⟨r1, .imm (.int kd a), s1, t1⟩, ⟨r2, .imm (.int kd b), s2, t2⟩] = (b ≠ 0 ∧ K (.imm (.int kd (kd.wrap (a.tdiv b)))) none) := by simp [semBin, binI]
theorem bin_rem : semBin K .rem [⟨r1, .imm (.int kd a), s1, t1⟩, ⟨r2, .imm (.int kd b), s2, t2⟩] = (b ≠ 0 ∧ K (.imm (.int kd (a.tmod b))) none) := by simp [semBin, binI]
theorem bin_eql : semBin K .eql [⟨r1, .imm (.int kd a), s1, t1⟩, ⟨r2, .imm (.int kd b), s2, t2⟩] = K (.imm (.bool (decide (a = b)))) none := by simp [semBin, binI, cmpI]; rfl
theorem bin_neq : semBin K .neq [⟨r1, .imm (.int kd a), s1, t1⟩, ⟨r2, .imm (.int kd b), s2, t2⟩] = K (.imm (.bool (!decide (a = b)))) none := by simp [semBin, binI, cmpI]; rfl
theorem bin_lss : semBin K .lss [⟨r1, .imm (.int kd a), s1, t1⟩, ⟨r2, .imm (.int kd b), s2, t2⟩] = K (.imm (.bool (decide (a < b)))) none := by simp [semBin, binI, cmpI]
theorem bin_leq : semBin K .leq [⟨r1, .imm (.int kd a), s1, t1⟩, ⟨r2, .imm (.int kd b), s2, t2⟩] = K (.imm (.bool (decide (a ≤ b)))) none := by simp [semBin, binI, cmpI]
theorem bin_gtr : semBin K .gtr [⟨r1, .imm (.int kd a), s1, t1⟩, ⟨r2, .imm (.int kd b), s2, t2⟩] = K (.imm (.bool (decide (b < a)))) none := by simp [semBin, binI, cmpI]
theorem bin_geq : semBin K .geq [⟨r1, .imm (.int kd a), s1, t1⟩, ⟨r2, .imm (.int kd b), s2, t2⟩] = K (.imm (.bool (decide (b ≤ a)))) none := by simp [semBin, binI, cmpI]
theorem un_neg : semUn K .neg [⟨r, .imm (.int kd a), s, t⟩] = K (.imm (.int kd (kd.wrap (0 - a)))) none := rfl
theorem conv_ {k0 : IntKind} : semConv K kd [⟨r, .imm (.int k0 a), s, t⟩] = K (.imm (.int kd (kd.wrap a))) none := rfl
end
theorem bin_str_eql {a b : ByteArray} : semBin K .eql [⟨r1, .imm (.str a), s1, t1⟩, ⟨r2, .imm (.str b), s2, t2⟩] = K (.imm (.bool (a == b))) none := rfl
theorem bin_str_neq {a b : ByteArray} : semBin K .neq [⟨r1, .imm (.str a), s1, t1⟩, ⟨r2, .imm (.str b), s2, t2⟩] = K (.imm (.bool (!(a == b)))) none := rfl
theorem bin_str_add {a b : ByteArray} : semBin K .add [⟨r1, .imm (.str a), s1, t1⟩, ⟨r2, .imm (.str b), s2, t2⟩] = (a.size + b.size ≤ maxLen ∧ K (.imm (.str (a ++ b))) none) := rfl
theorem un_not {b : Bool} : semUn K .not [⟨r, .imm (.bool b), s, t⟩] = K (.imm (.bool (!b))) none := rfl
theorem beq_f {a b : Bool} : semBeq K false [⟨r1, .imm (.bool a), s1, t1⟩, ⟨r2, .imm (.bool b), s2, t2⟩] = K (.imm (.bool (a == b))) none := rfl
theorem beq_t {a b : Bool} : semBeq K true [⟨r1, .imm (.bool a), s1, t1⟩, ⟨r2, .imm (.bool b), s2, t2⟩] = K (.imm (.bool (!(a == b)))) none := rfl
def eqsP (K : DV → Option Res → Prop) (neg : Bool) : Option Bool → Prop | some q => K (.imm (.bool (if neg then !q else q))) none | none => False
theorem eqs_ {ks : List Bool} {neg : Bool} {a b : List IV} : semEqs K ks neg [⟨r1, .imm (.agg a), s1, t1⟩, ⟨r2, .imm (.agg b), s2, t2⟩] = eqsP K neg (eqCells ks a b) := by unfold semEqs eqsP; rfl
theorem eqsP_f {q : Bool} : eqsP K false (some q) = K (.imm (.bool q)) none := rfl
theorem eqsP_t {q : Bool} : eqsP K true (some q) = K (.imm (.bool !q)) none := rfl
def andO (b : Bool) : Option Bool → Option Bool | some q => some (b && q) | none => none
theorem eqCells_nil : eqCells [] [] [] = some true := rfl
theorem eqCells_int {ks : List Bool} {kd : IntKind} {a b : Int} {l l' : List IV} : eqCells (false :: ks) (.int kd a :: l) (.int kd b :: l') = andO (decide (a = b)) (eqCells ks l l') := by
  simp only [eqCells, if_true]; cases eqCells ks l l' <;> rfl
theorem eqCells_bool {ks : List Bool} {a b : Bool} {l l' : List IV} : eqCells (true :: ks) (.bool a :: l) (.bool b :: l') = andO (a == b) (eqCells ks l l') := by
  simp only [eqCells]; cases eqCells ks l l' <;> rfl
theorem andO_ {b q : Bool} : andO b (some q) = some (b && q) := rfl
def mkfnP (K : DV → Option Res → Prop) (f : FuncId) (nf : Nat) (as : List DV) : Option (List IV) → Prop
  | some vs => K (.imm (.func f (tak nf vs) (drp nf vs))) none
  | none => K (.fn f (tak nf as) (drp nf as)) none
theorem mkfn_ {f : FuncId} {nf : Nat} {as : List Arg} : semMkfn K f nf as = (nf ≤ as.length ∧ mkfnP K f nf (as.map (·.raw)) (allImm (as.map (·.vw)))) := by
  unfold semMkfn mkfnP
  cases allImm (as.map (·.vw)) <;> simp only [tak_eq, drp_eq]
theorem mkfnP_some {f : FuncId} {nf : Nat} {as : List DV} {vs : List IV} : mkfnP K f nf as (some vs) = K (.imm (.func f (tak nf vs) (drp nf vs))) none := rfl
theorem mkfnP_none {f : FuncId} {nf : Nat} {as : List DV} : mkfnP K f nf as none = K (.fn f (tak nf as) (drp nf as)) none := rfl
def sliceP (K : DV → Option Res → Prop) (sz z : Nat) (es : List IV) : Option (Int × Int) → Prop
  | some (l, h) => z = sz ∧ 0 ≤ l ∧ l ≤ h ∧ h ≤ es.length ∧ K (.imm (.slc sz ((es.take h.toNat).drop l.toNat))) none
  | none => False
theorem slice_ {sz z : Nat} {lo hi : Bool} {es : List IV} {bs : List Arg} : semSlice K sz lo hi (⟨r, .imm (.slc z es), s, t⟩ :: bs) = sliceP K sz z es (bounds lo hi es.length bs) := by unfold semSlice sliceP; rfl
theorem sliceP_ {sz z : Nat} {es : List IV} {l h : Int} : sliceP K sz z es (some (l, h)) = (z = sz ∧ 0 ≤ l ∧ l ≤ h ∧ h ≤ es.length ∧ K (.imm (.slc sz ((es.take h.toNat).drop l.toNat))) none) := rfl
def sliceV (K : DV → Option Res → Prop) (sz id off n : Nat) : Option (Int × Int) → Prop
  | some (l, h) => sz = 1 ∧ 0 ≤ l ∧ l ≤ h ∧ h ≤ n ∧ K (.vec id (off + l.toNat) (h.toNat - l.toNat)) none
  | none => False
theorem slice_vec {sz id off n : Nat} {lo hi : Bool} {bs : List Arg} : semSlice K sz lo hi (⟨r, .vec id off n, s, t⟩ :: bs) = sliceV K sz id off n (bounds lo hi n bs) := by unfold semSlice sliceV; rfl
theorem sliceV_ {sz id off n : Nat} {l h : Int} : sliceV K sz id off n (some (l, h)) = (sz = 1 ∧ 0 ≤ l ∧ l ≤ h ∧ h ≤ n ∧ K (.vec id (off + l.toNat) (h.toNat - l.toNat)) none) := rfl
theorem bounds_no {n : Nat} : bounds false false n [] = some (0, (n : Int)) := rfl
theorem bounds_lo {n : Nat} {kd : IntKind} {i : Int} : bounds true false n [⟨r, .imm (.int kd i), s, t⟩] = some (i, (n : Int)) := rfl
theorem bounds_hi {n : Nat} {kd : IntKind} {i : Int} : bounds false true n [⟨r, .imm (.int kd i), s, t⟩] = some (0, i) := rfl
theorem bounds_both {n : Nat} {kd kd' : IntKind} {i j : Int} : bounds true true n [⟨r1, .imm (.int kd i), s1, t1⟩, ⟨r2, .imm (.int kd' j), s2, t2⟩] = some (i, j) := rfl
def ssliceP (K : DV → Option Res → Prop) (x : ByteArray) : Option (Int × Int) → Prop
  | some (l, h) => 0 ≤ l ∧ l ≤ h ∧ h ≤ x.size ∧ K (.imm (.str (x.extract l.toNat h.toNat))) none
  | none => False
theorem sslice_ {lo hi : Bool} {x : ByteArray} {bs : List Arg} : semSslice K lo hi (⟨r, .imm (.str x), s, t⟩ :: bs) = ssliceP K x (bounds lo hi x.size bs) := by unfold semSslice ssliceP; rfl
theorem ssliceP_ {x : ByteArray} {l h : Int} : ssliceP K x (some (l, h)) = (0 ≤ l ∧ l ≤ h ∧ h ≤ x.size ∧ K (.imm (.str (x.extract l.toNat h.toNat))) none) := rfl
theorem slice3_ {sz z : Nat} {es : List IV} {k1 k2 k3 : IntKind} {l h m : Int} {r4 : DV} {s4 t4 : Option Res} : semSlice3 K sz [⟨r1, .imm (.slc z es), s1, t1⟩, ⟨r2, .imm (.int k1 l), s2, t2⟩, ⟨r3, .imm (.int k2 h), s3, t3⟩, ⟨r4, .imm (.int k3 m), s4, t4⟩] =
    (z = sz ∧ 0 ≤ l ∧ l ≤ h ∧ h = m ∧ m ≤ es.length ∧ K (.cap0 sz ((es.take h.toNat).drop l.toNat)) none) := rfl
theorem faddr_ref {i o off n : Nat} {agg : Bool} : semFaddr K off agg n [⟨.ref i o, v, s, t⟩] = K (.ref i (o + off)) none := rfl
def pimP (K : DV → Option Res → Prop) (cs : List IV) (off n : Nat) (agg : Bool) : Option IV → Prop
  | some v => (agg = true → off + n ≤ cs.length) ∧ v.isTup = false ∧ (agg = false → v.isAgg = false) ∧ K (.pim v) none
  | none => False
theorem faddr_pim {cs : List IV} {off n : Nat} {agg : Bool} : semFaddr K off agg n [⟨.pim (.agg cs), v, s, t⟩] = pimP K cs off n agg (partIV cs off n agg) := by unfold semFaddr semPim pimP; rfl
theorem faddr_ptr {cs : List IV} {off n : Nat} {agg : Bool} : semFaddr K off agg n [⟨.imm (.ptr (.agg cs)), v, s, t⟩] = pimP K cs off n agg (partIV cs off n agg) := by unfold semFaddr semPim pimP; rfl
theorem pimP_ {cs : List IV} {off n : Nat} {agg : Bool} {x : IV} : pimP K cs off n agg (some x) = ((agg = true → off + n ≤ cs.length) ∧ x.isTup = false ∧ (agg = false → x.isAgg = false) ∧ K (.pim x) none) := rfl
theorem partIV_t {cs : List IV} {off n : Nat} : partIV cs off n true = some (.agg (tak n (drp off cs))) := by unfold partIV; rw [tak_eq, drp_eq]; rfl
theorem partIV_f {cs : List IV} {off n : Nat} : partIV cs off n false = cs[off]? := rfl
theorem partDV_t {cs : List DV} {off n : Nat} : partDV cs off n true = some (mkAgg (tak n (drp off cs))) := by unfold partDV; rw [tak_eq, drp_eq]; rfl
theorem partDV_f {cs : List DV} {off n : Nat} : partDV cs off n false = cs[off]? := rfl
def fieldP (K : DV → Option Res → Prop) (len off n : Nat) (agg : Bool) : Option IV → Prop
  | some v => (agg = true → off + n ≤ len) ∧ K (.imm v) none
  | none => False
theorem field_imm {cs : List IV} {off n : Nat} {agg : Bool} : semField K off agg n [⟨r, .imm (.agg cs), s, t⟩] = fieldP K cs.length off n agg (partIV cs off n agg) := by unfold semField fieldP; rfl
theorem fieldP_ {len off n : Nat} {agg : Bool} {x : IV} : fieldP K len off n agg (some x) = ((agg = true → off + n ≤ len) ∧ K (.imm x) none) := rfl
def fieldD (K : DV → Option Res → Prop) (len off n : Nat) (agg : Bool) : Option DV → Prop
  | some v => (agg = true → off + n ≤ len) ∧ K v none
  | none => False
theorem field_agg {cs : List DV} {off n : Nat} {agg : Bool} : semField K off agg n [⟨r, .agg cs, s, t⟩] = fieldD K cs.length off n agg (partDV cs off n agg) := by unfold semField fieldD; rfl
theorem fieldD_ {len off n : Nat} {agg : Bool} {x : DV} : fieldD K len off n agg (some x) = ((agg = true → off + n ≤ len) ∧ K x none) := rfl
theorem iaddr_ {sz z : Nat} {es : List IV} {kd : IntKind} {i : Int} : semIaddr K sz [⟨r1, .imm (.slc z es), s1, t1⟩, ⟨r2, .imm (.int kd i), s2, t2⟩] = (z = sz ∧ 0 ≤ i ∧ i < es.length ∧ K (.pim (es.getD i.toNat .nilp)) none) := rfl
theorem iaddr_vec {sz id off n : Nat} {kd : IntKind} {i : Int} : semIaddr K sz [⟨r1, .vec id off n, s1, t1⟩, ⟨r2, .imm (.int kd i), s2, t2⟩] = (sz = 1 ∧ 0 ≤ i ∧ i < n ∧ K (.ref id (off + i.toNat)) none) := rfl
theorem iarr_ref {len sz id o : Nat} {agg : Bool} {kd : IntKind} {i : Int} : semIarr K len sz agg [⟨.ref id o, v1, s1, t1⟩, ⟨r2, .imm (.int kd i), s2, t2⟩] = (0 ≤ i ∧ i < len ∧ K (.ref id (o + i.toNat * sz)) none) := rfl
theorem iarr_pim {len sz : Nat} {cs : List IV} {agg : Bool} {kd : IntKind} {i : Int} : semIarr K len sz agg [⟨.pim (.agg cs), v1, s1, t1⟩, ⟨r2, .imm (.int kd i), s2, t2⟩] = (0 ≤ i ∧ i < len ∧ pimP K cs (i.toNat * sz) sz agg (partIV cs (i.toNat * sz) sz agg)) := by
  unfold semIarr semPim pimP; rfl
theorem iarr_ptr {len sz : Nat} {cs : List IV} {agg : Bool} {kd : IntKind} {i : Int} : semIarr K len sz agg [⟨.imm (.ptr (.agg cs)), v1, s1, t1⟩, ⟨r2, .imm (.int kd i), s2, t2⟩] = (0 ≤ i ∧ i < len ∧ pimP K cs (i.toNat * sz) sz agg (partIV cs (i.toNat * sz) sz agg)) := by
  unfold semIarr semPim pimP; rfl
theorem index_ {len sz : Nat} {cs : List IV} {agg : Bool} {kd : IntKind} {i : Int} : semIndex K len sz agg [⟨r1, .imm (.agg cs), s1, t1⟩, ⟨r2, .imm (.int kd i), s2, t2⟩] = (0 ≤ i ∧ i < len ∧ fieldP K cs.length (i.toNat * sz) sz agg (partIV cs (i.toNat * sz) sz agg)) := by
  unfold semIndex fieldP; rfl
theorem index_agg {len sz : Nat} {cs : List DV} {agg : Bool} {kd : IntKind} {i : Int} : semIndex K len sz agg [⟨r1, .agg cs, s1, t1⟩, ⟨r2, .imm (.int kd i), s2, t2⟩] = (0 ≤ i ∧ i < len ∧ fieldD K cs.length (i.toNat * sz) sz agg (partDV cs (i.toNat * sz) sz agg)) := by
  unfold semIndex fieldD; rfl
theorem sidx_ {x : ByteArray} {kd : IntKind} {i : Int} : semSidx K [⟨r1, .imm (.str x), s1, t1⟩, ⟨r2, .imm (.int kd i), s2, t2⟩] = (0 ≤ i ∧ i < x.size ∧ K (.imm (.int .u8 (x.data.toList.getD i.toNat 0).toNat)) none) := rfl
def extP (K : DV → Option Res → Prop) : Option IV → Prop | some v => K (.imm v) none | none => False
theorem ext_ {i : Nat} {vs : List IV} : semExt K i [⟨r, .imm (.tup vs), s, t⟩] = extP K vs[i]? := by unfold semExt extP; rfl
theorem extP_ {x : IV} : extP K (some x) = K (.imm x) none := rfl

def callP (P : Program) (K : DV → Option Res → Prop) (g : FuncId) (first cap : List IV) : Option (List IV) → Prop
  | some ds => ∃ r, Contract P g (first ++ ds ++ cap) r ∧ K (.imm r) none
  | none => False
def calls (P : Program) (K : DV → Option Res → Prop) (g : FuncId) (ds : List IV) : Prop := ∃ r, Contract P g ds r ∧ K (.imm r) none
theorem call_ {P : Program} {g : FuncId} {first cap : List IV} {as : List Arg} : semCall K P (⟨r, .imm (.func g first cap), s, t⟩ :: as) = callP P K g first cap (allImm (as.map (·.vw))) := by unfold semCall callP; rfl
theorem callP_ {P : Program} {g : FuncId} {first cap ds : List IV} : callP P K g first cap (some ds) = calls P K g (first ++ ds ++ cap) := rfl
theorem calls_of {P : Program} {g : FuncId} {ds : List IV} {x : IV} (h : Contract P g ds x) (hk : K (.imm x) none) : calls P K g ds := ⟨x, h, hk⟩

theorem len_ {z : Nat} {es : List IV} : semLen K [⟨r, .imm (.slc z es), s, t⟩] = K (.imm (.int .i64 es.length)) none := rfl
theorem len_vec {id o n : Nat} : semLen K [⟨r, .vec id o n, s, t⟩] = K (.imm (.int .i64 n)) none := rfl
theorem slen_ {x : ByteArray} : semSlen K [⟨r, .imm (.str x), s, t⟩] = K (.imm (.int .i64 x.size)) none := rfl
theorem alen_ {n : Nat} : semAlen K n [⟨r, v, s, t⟩] = K (.imm (.int .i64 n)) none := rfl
def mmP (K : DV → Option Res → Prop) (kd : IntKind) : Option Int → Prop | some m => K (.imm (.int kd m)) none | none => False
theorem mm_ {mx : Bool} {kd : IntKind} {a : Int} {as : List Arg} : semMm K mx (⟨r, .imm (.int kd a), s, t⟩ :: as) = mmP K kd (mmAll mx kd a as) := by unfold semMm mmP; rfl
theorem mmAll_nil {mx : Bool} {kd : IntKind} {a : Int} : mmAll mx kd a [] = some a := rfl
theorem mmAll_cons {mx : Bool} {kd : IntKind} {a b : Int} {as : List Arg} : mmAll mx kd a (⟨r, .imm (.int kd b), s, t⟩ :: as) = mmAll mx kd (mmI mx a b) as := by simp [mmAll]
theorem mmP_ {kd : IntKind} {m : Int} : mmP K kd (some m) = K (.imm (.int kd m)) none := rfl
theorem mmI_max {a b : Int} : mmI true a b = max a b := by simp only [mmI, if_true]; split <;> omega
theorem mmI_min {a b : Int} : mmI false a b = min a b := by simp only [mmI, Bool.false_eq_true, if_false]; split <;> omega
theorem mksl_ {d bytes : Nat} {z : IV} {kd : IntKind} {a b : Int} : semMksl K d z bytes [⟨r1, .imm (.int kd a), s1, t1⟩, ⟨r2, .imm (.int kd b), s2, t2⟩] =
    (a = b ∧ 0 ≤ a ∧ a * bytes ≤ 140737488355328 ∧ a ≤ 9223372036854775807 ∧ K (.vec d 0 a.toNat) (some (.arr (List.replicate a.toNat z)))) := by simp [semMksl]

theorem getD_map {α : Type} [Inhabited α] {f : α → IV} {l : List α} {i : Nat} (h : i < l.length) : (l.map f).getD i .nilp = f (l.getD i default) := by
  simp [List.getD_eq_getElem?_getD, h]
theorem iaddr_map {α : Type} [Inhabited α] {f : α → IV} {l : List α} {sz z : Nat} {kd : IntKind} {i : Int} : semIaddr K sz [⟨r1, .imm (.slc z (l.map f)), s1, t1⟩, ⟨r2, .imm (.int kd i), s2, t2⟩] = (z = sz ∧ 0 ≤ i ∧ i < l.length ∧ K (.pim (f (l.getD i.toNat default))) none) := by
  rw [iaddr_, List.length_map]
  apply propext
  constructor
  · rintro ⟨h1, h2, h3, h4⟩
    refine ⟨h1, h2, h3, ?_⟩
    rw [getD_map (by omega)] at h4
    exact h4
  · rintro ⟨h1, h2, h3, h4⟩
    refine ⟨h1, h2, h3, ?_⟩
    rw [getD_map (by omega)]
    exact h4
theorem iaddr_cons {x : IV} {l : List IV} {sz z : Nat} {kd : IntKind} {i : Int} : semIaddr K sz [⟨r1, .imm (.slc z (x :: l)), s1, t1⟩, ⟨r2, .imm (.int kd i), s2, t2⟩] = (z = sz ∧ 0 ≤ i ∧ i < (x :: l).length ∧ K (.pim ((x :: l).getD i.toNat .nilp)) none) := rfl
theorem load_arr_map {α : Type} [Inhabited α] {f : α → IV} {l : List α} {agg : Bool} {id off n : Nat} : semLoad K agg n [⟨.ref id off, v, s, some (.arr (l.map f))⟩] = (agg = false ∧ off < l.length ∧ K (.imm (f (l.getD off default))) none) := by
  rw [load_arr, List.length_map]
  apply propext
  constructor
  · rintro ⟨h1, h2, h3⟩
    rw [getD_map h2] at h3
    exact ⟨h1, h2, h3⟩
  · rintro ⟨h1, h2, h3⟩
    rw [getD_map h2]
    exact ⟨h1, h2, h3⟩
theorem load_fza_map {α : Type} [Inhabited α] {f : α → IV} {l : List α} {id off n : Nat} : semLoad K false n [⟨.ref id off, v, s, some (.fza (l.map f))⟩] = (off < l.length ∧ K (.imm (f (l.getD off default))) none) := by
  rw [load_fza, List.length_map]
  apply propext
  constructor
  · rintro ⟨h2, h3⟩
    rw [getD_map h2] at h3
    exact ⟨h2, h3⟩
  · rintro ⟨h2, h3⟩
    rw [getD_map h2]
    exact ⟨h2, h3⟩
def loadG (K : DV → Option Res → Prop) : Option IV → Prop | some c => K (.imm c) none | none => False
theorem load_fza_cons {x : IV} {l : List IV} {id off n : Nat} : semLoad K false n [⟨.ref id off, v, s, some (.fza (x :: l))⟩] = loadG K (x :: l)[off]? := by
  rw [load_fza, List.getD_eq_getElem?_getD]
  apply propext
  cases h : (x :: l)[off]? with
  | none => rw [List.getElem?_eq_none_iff] at h; simp only [loadG]; constructor
            · intro k; omega
            · intro k; exact k.elim
  | some c => have := (List.getElem?_eq_some_iff.1 h).1; simp only [loadG, Option.getD_some]; exact ⟨fun k => k.2, fun k => ⟨this, k⟩⟩
theorem loadG_ {c : IV} : loadG K (some c) = K (.imm c) none := rfl
theorem m_take {α : Type} {f : α → IV} {l : List α} {n : Nat} : (l.map f).take n = (l.take n).map f := List.map_take.symm
theorem m_drop {α : Type} {f : α → IV} {l : List α} {n : Nat} : (l.map f).drop n = (l.drop n).map f := List.map_drop.symm
theorem m_append {α : Type} {f : α → IV} {l m : List α} : l.map f ++ m.map f = (l ++ m).map f := List.map_append.symm
theorem m_snoc {l : List Int} {kd : IntKind} {x : Int} : l.map (IV.int kd) ++ [IV.int kd x] = (l ++ [x]).map (IV.int kd) := by simp
theorem m_replicate {n : Nat} {kd : IntKind} {x : Int} : List.replicate n (IV.int kd x) = (List.replicate n x).map (IV.int kd) := by simp
theorem m_set {l : List Int} {n : Nat} {kd : IntKind} {x : Int} : (l.map (IV.int kd)).set n (IV.int kd x) = (l.set n x).map (IV.int kd) := by simp
end

section
variable {P : Program} {E : List (Nat × DV)} {R : List (Nat × Res)} {K : St → Prop}

def storeC (n id off : Nat) (cells : List DV) (K : St → Prop) (E : List (Nat × DV)) (R : List (Nat × Res)) : Option (List DV) → Prop
  | some cs => cs.length = n ∧ off + n ≤ cells.length ∧ K (mkS E ((id, .box (setCells cells off cs)) :: R))
  | none => False
def storeD (n id off : Nat) (es : List IV) (K : St → Prop) (E : List (Nat × DV)) (R : List (Nat × Res)) : DV → Prop
  | .imm v => n = 1 ∧ off < es.length ∧ v.isAgg = false ∧ v.isTup = false ∧ K (mkS E ((id, .arr (es.set off v)) :: R))
  | _ => False
def storeB (n id off : Nat) (x : DV) (K : St → Prop) (E : List (Nat × DV)) (R : List (Nat × Res)) : Option Res → Prop
  | some (.box cells) => storeC n id off cells K E R (cellsOf x)
  | some (.arr es) => storeD n id off es K E R (view (lookR R) x)
  | _ => False
def storeA (n : Nat) (a x : DV) (K : St → Prop) (E : List (Nat × DV)) (R : List (Nat × Res)) : Prop :=
  match a with
  | .ref id off => storeB n id off x K E R (lookR R id)
  | _ => False

theorem setRes_mk {id : Nat} {r : Res} : (mkS E R).setRes id r = mkS E ((id, r) :: R) := rfl

theorem st_eq {n : Nat} {a x : Opd} : semSt none n [a, x] (mkS E R) K = storeA n ((mkS E R).ev a) ((mkS E R).ev x) K E R := by
  unfold semSt storeA
  dsimp only
  generalize (mkS E R).ev a = da
  generalize (mkS E R).ev x = dx
  cases da <;> try rfl
  rename_i id off
  show (match lookR R id with | some (.box cells) => _ | some (.arr es) => _ | _ => False) = storeB n id off dx K E R (lookR R id)
  unfold storeB
  cases lookR R id with
  | none => rfl
  | some rs =>
    cases rs <;> try rfl
    · unfold storeC
      dsimp only
      cases cellsOf dx with
      | none => rfl
      | some cs => simp only [true_and, setRes_mk]
    · unfold storeD
      show (match view (lookR R) dx with | .imm v => _ | _ => False) = _
      cases view (lookR R) dx <;> try rfl
      simp only [true_and, setRes_mk]

theorem doP_store {n : Nat} {a x : Opd} : doP P none (.store n) [a, x] (mkS E R) K = storeA n ((mkS E R).ev a) ((mkS E R).ev x) K E R := st_eq
theorem doP_storef {n : Nat} {ids : List Nat} {a x : Opd} : doP P none (.storef n ids) [a, x] (mkS E R) K = (refIn ids ((mkS E R).ev a) = true ∧ storeA n ((mkS E R).ev a) ((mkS E R).ev x) K E R) := by
  rw [← st_eq]; rfl
theorem refIn_ {ids : List Nat} {id off : Nat} : refIn ids (.ref id off) = ids.contains id := rfl
theorem storeA_ {n id off : Nat} {x : DV} : storeA n (.ref id off) x K E R = storeB n id off x K E R (lookR R id) := rfl
theorem storeB_box {n id off : Nat} {x : DV} {cells : List DV} : storeB n id off x K E R (some (.box cells)) = storeC n id off cells K E R (cellsOf x) := rfl
theorem storeB_arr {n id off : Nat} {x : DV} {es : List IV} : storeB n id off x K E R (some (.arr es)) = storeD n id off es K E R (view (lookR R) x) := rfl
theorem storeC_ {n id off : Nat} {cells cs : List DV} : storeC n id off cells K E R (some cs) = (cs.length = n ∧ off + n ≤ cells.length ∧ K (mkS E ((id, .box (setCells cells off cs)) :: R))) := rfl
theorem storeD_ {n id off : Nat} {es : List IV} {v : IV} : storeD n id off es K E R (.imm v) = (n = 1 ∧ off < es.length ∧ v.isAgg = false ∧ v.isTup = false ∧ K (mkS E ((id, .arr (es.set off v)) :: R))) := rfl

def stripE (t : Nat) (v : IV) : List (Nat × DV) → List (Nat × DV)
  | [] => []
  | (k, d) :: l => (k, strip t v d) :: stripE t v l
def stripR (t : Nat) (v : IV) : List (Nat × Res) → List (Nat × Res)
  | [] => []
  | (k, r) :: l => (k, stripRes t v r) :: stripR t v l
theorem look_stripE {t : Nat} {v : IV} : ∀ (E : List (Nat × DV)) (i : Nat), look (stripE t v E) i = strip t v (look E i)
  | [], i => rfl
  | (k, d) :: l, i => by
    simp only [stripE, look, look_stripE l i]
    split <;> rfl
theorem look_stripR {t : Nat} {v : IV} : ∀ (R : List (Nat × Res)) (i : Nat), lookR (stripR t v R) i = (lookR R i).map (stripRes t v)
  | [], i => rfl
  | (k, d) :: l, i => by
    simp only [stripR, lookR, look_stripR l i]
    split <;> rfl

def appD (sz bytes t : Nat) (es : List IV) (dst : Option Nat) (K : St → Prop) (E : List (Nat × DV)) (R : List (Nat × Res)) (z' z : Nat) (ys : List IV) : Prop :=
  z = sz ∧ z' = sz ∧ (es.length + ys.length) * bytes ≤ 140737488355328 ∧ es.length + ys.length ≤ 9223372036854775807 ∧
    K ((mkS (stripE t (.slc sz es) E) ((t, .tok sz (es ++ ys)) :: stripR t (.slc sz es) R)).put dst (.own t) none)
def appC (sz bytes t : Nat) (dst : Option Nat) (K : St → Prop) (E : List (Nat × DV)) (R : List (Nat × Res)) (z : Nat) (ys : List IV) : Option Res → Prop
  | some (.tok z' es) => appD sz bytes t es dst K E R z' z ys
  | _ => False
def appB (sz bytes : Nat) (weak : Bool) (dst : Option Nat) (K : St → Prop) (E : List (Nat × DV)) (R : List (Nat × Res)) (x y : DV) : Prop :=
  match x, y with
  | .own t, .imm (.slc z ys) => appC sz bytes t dst K E R z ys (lookR R t)
  | .cap0 z' es, .imm (.slc z ys) => z = sz ∧ z' = sz ∧ (es.length + ys.length) * bytes ≤ 140737488355328 ∧ es.length + ys.length ≤ 9223372036854775807 ∧
        (match dst with
         | some d => if weak then K (mkS ((d, .imm (.slc sz (es ++ ys))) :: E) R) else lookR R d = none ∧ K (mkS ((d, .own d) :: E) ((d, .tok sz (es ++ ys)) :: R))
         | none => False)
  | .imm (.slc z' []), .imm (.slc z []) => z = sz ∧ z' = sz ∧ K ((mkS E R).put dst (.imm (.slc sz [])) none)
  | _, _ => False

theorem doP_append {sz bytes : Nat} {weak : Bool} {dst : Option Nat} {x y : Opd} : doP P dst (.append sz bytes weak) [x, y] (mkS E R) K = appB sz bytes weak dst K E R ((mkS E R).ev x) (view (lookR R) ((mkS E R).ev y)) := by
  show semW P dst (.append sz bytes weak) [x, y] (mkS E R) K = _
  simp only [semW]
  unfold appB
  show (match (mkS E R).ev x, view (lookR R) ((mkS E R).ev y) with | .own t, .imm (.slc z ys) => _ | .cap0 z' es, .imm (.slc z ys) => _ | .imm (.slc z' []), .imm (.slc z []) => _ | _, _ => False) = _
  split
  · rename_i t z ys e1 e2
    show (match lookR R t with | some (.tok z' es) => _ | _ => False) = appC sz bytes t dst K E R z ys (lookR R t)
    unfold appC
    split
    · rename_i z' es e3
      unfold appD
      have : (St.mk (fun i => strip t (.slc sz es) ((mkS E R).env i)) (fun i => if i = t then some (.tok sz (es ++ ys)) else ((mkS E R).res i).map (stripRes t (.slc sz es)))) = mkS (stripE t (.slc sz es) E) ((t, .tok sz (es ++ ys)) :: stripR t (.slc sz es) R) := by
        unfold mkS
        congr 1
        · funext i; rw [look_stripE]
        · funext i
          simp only [lookR, look_stripR]
      rw [← this]
    · rfl
  · cases dst <;> rfl
  · rfl
  · rfl
def copyC (off n id z : Nat) (ys : List IV) (dst : Option Nat) (K : St → Prop) (E : List (Nat × DV)) (R : List (Nat × Res)) : Option Res → Prop
  | some (.arr es) => z = 1 ∧ off + n ≤ es.length ∧ (ys.all fun v => !v.isAgg) = true ∧ K ((mkS E ((id, .arr (es.take off ++ (ys.take n ++ es.drop (off + min n ys.length)))) :: R)).put dst (.imm (.int .i64 ((min n ys.length : Nat) : Int))) none)
  | _ => False
def copyB (dst : Option Nat) (K : St → Prop) (E : List (Nat × DV)) (R : List (Nat × Res)) (x y : DV) : Prop :=
  match x, y with
  | .vec id off n, .imm (.slc z ys) => copyC off n id z ys dst K E R (lookR R id)
  | _, _ => False
theorem doP_copy {dst : Option Nat} {x y : Opd} : doP P dst .copy [x, y] (mkS E R) K = copyB dst K E R ((mkS E R).ev x) (view (lookR R) ((mkS E R).ev y)) := by
  show semW P dst .copy [x, y] (mkS E R) K = _
  simp only [semW]
  unfold copyB
  show (match (mkS E R).ev x, view (lookR R) ((mkS E R).ev y) with | .vec id off n, .imm (.slc z ys) => _ | _, _ => False) = _
  split
  · rename_i id off n z ys e1 e2
    show (match lookR R id with | some (.arr es) => _ | _ => False) = copyC off n id z ys dst K E R (lookR R id)
    unfold copyC
    split
    · rfl
    · rfl
  · rfl
theorem copyB_ {dst : Option Nat} {id off n z : Nat} {ys : List IV} : copyB dst K E R (.vec id off n) (.imm (.slc z ys)) = copyC off n id z ys dst K E R (lookR R id) := rfl
theorem copyC_ {dst : Option Nat} {id off n z : Nat} {ys es : List IV} : copyC off n id z ys dst K E R (some (.arr es)) = (z = 1 ∧ off + n ≤ es.length ∧ (ys.all fun v => !v.isAgg) = true ∧ K ((mkS E ((id, .arr (es.take off ++ (ys.take n ++ es.drop (off + min n ys.length)))) :: R)).put dst (.imm (.int .i64 ((min n ys.length : Nat) : Int))) none)) := rfl
theorem append_own {sz bytes : Nat} {weak : Bool} {dst : Option Nat} {t z : Nat} {ys : List IV} : appB sz bytes weak dst K E R (.own t) (.imm (.slc z ys)) = appC sz bytes t dst K E R z ys (lookR R t) := rfl
theorem appC_ {sz bytes : Nat} {dst : Option Nat} {t z z' : Nat} {es ys : List IV} : appC sz bytes t dst K E R z ys (some (.tok z' es)) = (z = sz ∧ z' = sz ∧ (es.length + ys.length) * bytes ≤ 140737488355328 ∧ es.length + ys.length ≤ 9223372036854775807 ∧
    K ((mkS (stripE t (.slc sz es) E) ((t, .tok sz (es ++ ys)) :: stripR t (.slc sz es) R)).put dst (.own t) none)) := rfl
theorem append_cap0 {sz bytes d z z' : Nat} {es ys : List IV} : appB sz bytes false (some d) K E R (.cap0 z' es) (.imm (.slc z ys)) = (z = sz ∧ z' = sz ∧ (es.length + ys.length) * bytes ≤ 140737488355328 ∧ es.length + ys.length ≤ 9223372036854775807 ∧ lookR R d = none ∧ K (mkS ((d, .own d) :: E) ((d, .tok sz (es ++ ys)) :: R))) := by
  simp [appB]
theorem append_cap0_weak {sz bytes d z z' : Nat} {es ys : List IV} : appB sz bytes true (some d) K E R (.cap0 z' es) (.imm (.slc z ys)) = (z = sz ∧ z' = sz ∧ (es.length + ys.length) * bytes ≤ 140737488355328 ∧ es.length + ys.length ≤ 9223372036854775807 ∧ K (mkS ((d, .imm (.slc sz (es ++ ys))) :: E) R)) := by
  simp [appB]
theorem stripE_nil {t : Nat} {v : IV} : stripE t v [] = [] := rfl
theorem stripE_cons {t n : Nat} {v : IV} {x : DV} : stripE t v ((n, x) :: E) = (n, strip t v x) :: stripE t v E := rfl
theorem stripR_nil {t : Nat} {v : IV} : stripR t v [] = [] := rfl
theorem stripR_cons {t n : Nat} {v : IV} {x : Res} : stripR t v ((n, x) :: R) = (n, stripRes t v x) :: stripR t v R := rfl
theorem strip_imm {t : Nat} {v x : IV} : strip t v (.imm x) = .imm x := rfl
theorem strip_undef {t : Nat} {v : IV} : strip t v .undef = .undef := rfl
theorem strip_pim {t : Nat} {v x : IV} : strip t v (.pim x) = .pim x := rfl
theorem strip_nils {t z : Nat} {v : IV} : strip t v (.nils z) = .nils z := rfl
theorem strip_cap0 {t z : Nat} {v : IV} {es : List IV} : strip t v (.cap0 z es) = .cap0 z es := rfl
theorem strip_own {t u : Nat} {v : IV} : strip t v (.own u) = if u = t then .imm v else .own u := rfl
theorem strip_ref {t i o : Nat} {v : IV} : strip t v (.ref i o) = if i = t then .undef else .ref i o := rfl
theorem strip_vec {t i o n : Nat} {v : IV} : strip t v (.vec i o n) = if i = t then .undef else .vec i o n := rfl
theorem strip_agg {t : Nat} {v : IV} {cs : List DV} : strip t v (.agg cs) = .agg (stripAll t v cs) := rfl
theorem strip_fn {t : Nat} {v : IV} {f : FuncId} {a b : List DV} : strip t v (.fn f a b) = .fn f (stripAll t v a) (stripAll t v b) := rfl
theorem stripAll_nil {t : Nat} {v : IV} : stripAll t v [] = [] := rfl
theorem stripAll_cons {t : Nat} {v : IV} {x : DV} {l : List DV} : stripAll t v (x :: l) = strip t v x :: stripAll t v l := rfl
theorem stripAll_imms {t : Nat} {v : IV} (l : List IV) : stripAll t v (l.map .imm) = l.map .imm := by
  induction l with
  | nil => rfl
  | cons x l ih => simp only [List.map_cons, stripAll, strip, ih]
theorem stripRes_box {t : Nat} {v : IV} {cs : List DV} : stripRes t v (.box cs) = .box (stripAll t v cs) := rfl
theorem stripRes_arr {t : Nat} {v : IV} {es : List IV} : stripRes t v (.arr es) = .arr es := rfl
theorem stripRes_fza {t : Nat} {v : IV} {es : List IV} : stripRes t v (.fza es) = .fza es := rfl
theorem stripRes_tok {t z : Nat} {v : IV} {es : List IV} : stripRes t v (.tok z es) = .tok z es := rfl

theorem dkeep_imm {ids : List Nat} {x : IV} : DV.keep ids (.imm x) = .imm x := rfl
theorem dkeep_undef {ids : List Nat} : DV.keep ids .undef = .undef := rfl
theorem dkeep_pim {ids : List Nat} {x : IV} : DV.keep ids (.pim x) = .pim x := rfl
theorem dkeep_nils {ids : List Nat} {z : Nat} : DV.keep ids (.nils z) = .nils z := rfl
theorem dkeep_cap0 {ids : List Nat} {z : Nat} {es : List IV} : DV.keep ids (.cap0 z es) = .cap0 z es := rfl
theorem dkeep_ref {ids : List Nat} {i o : Nat} : DV.keep ids (.ref i o) = if ids.contains i = true then .ref i o else .undef := rfl
theorem dkeep_vec {ids : List Nat} {i o n : Nat} : DV.keep ids (.vec i o n) = if ids.contains i = true then .vec i o n else .undef := rfl
theorem dkeep_own {ids : List Nat} {t : Nat} : DV.keep ids (.own t) = if ids.contains t = true then .own t else .undef := rfl
theorem dkeep_agg {ids : List Nat} {cs : List DV} : DV.keep ids (.agg cs) = if DV.okAll ids cs = true then .agg cs else .undef := rfl
theorem dkeep_fn {ids : List Nat} {f : FuncId} {a b : List DV} : DV.keep ids (.fn f a b) = if (DV.okAll ids a && DV.okAll ids b) = true then .fn f a b else .undef := rfl
theorem okAll_nil {ids : List Nat} : DV.okAll ids [] = true := rfl
theorem okAll_cons {ids : List Nat} {x : DV} {l : List DV} : DV.okAll ids (x :: l) = (x.ok ids && DV.okAll ids l) := rfl
theorem ok_imm {ids : List Nat} {x : IV} : DV.ok ids (.imm x) = true := rfl
theorem ok_undef {ids : List Nat} : DV.ok ids .undef = true := rfl
theorem ok_ref {ids : List Nat} {i o : Nat} : DV.ok ids (.ref i o) = ids.contains i := rfl
theorem ok_vec {ids : List Nat} {i o n : Nat} : DV.ok ids (.vec i o n) = ids.contains i := rfl
theorem ok_own {ids : List Nat} {t : Nat} : DV.ok ids (.own t) = ids.contains t := rfl
theorem ok_nils {ids : List Nat} {z : Nat} : DV.ok ids (.nils z) = true := rfl
theorem ok_cap0 {ids : List Nat} {z : Nat} {es : List IV} : DV.ok ids (.cap0 z es) = true := rfl
theorem rkeep_box {ids : List Nat} {cs : List DV} : Res.keep ids (.box cs) = .box (cs.map (DV.keep ids)) := rfl
theorem rkeep_arr {ids : List Nat} {es : List IV} : Res.keep ids (.arr es) = .arr es := rfl
theorem rkeep_fza {ids : List Nat} {es : List IV} : Res.keep ids (.fza es) = .fza es := rfl
theorem rkeep_tok {ids : List Nat} {z : Nat} {es : List IV} : Res.keep ids (.tok z es) = .tok z es := rfl
def frzB (cs : List DV) : Option (List IV) → Res
  | some es => if es.all (fun v => !v.isAgg && !v.isTup) then .fza es else .box cs
  | none => .box cs
theorem frz_box {cs : List DV} : Res.frz (.box cs) = frzB cs (allImm cs) := by unfold Res.frz frzB; rfl
theorem frzB_some {cs : List DV} {es : List IV} : frzB cs (some es) = if es.all (fun v => !v.isAgg && !v.isTup) then .fza es else .box cs := rfl
theorem frzB_none {cs : List DV} : frzB cs none = .box cs := rfl
theorem frz_arr {es : List IV} : Res.frz (.arr es) = .fza es := rfl
theorem frz_fza {es : List IV} : Res.frz (.fza es) = .fza es := rfl
theorem frz_tok {z : Nat} {es : List IV} : Res.frz (.tok z es) = .tok z es := rfl

theorem post_ret {d : DFn} {x : IV} : d.post x .ret (mkS E R) = (d.out (mkS E R) = some x) := rfl
theorem post_normal {d : DFn} {x : IV} : d.post x .normal (mkS E R) = (d.out (mkS E R) = some x) := rfl
theorem out_ {d : DFn} : d.out (mkS E R) = (getAll (mkS E R) d.res).map retV := rfl
theorem getAll_nil {st : St} : getAll st [] = some [] := rfl
def consG : Option IV → Option (List IV) → Option (List IV)
  | some v, o => match o with | some vs => some (v :: vs) | none => none
  | none, _ => none
theorem getAll_cons {st : St} {r : DRes} {rs : List DRes} : getAll st (r :: rs) = consG (r.get st) (getAll st rs) := by
  simp only [getAll, consG]
  cases r.get st <;> rfl
theorem consG_ {v : IV} {vs : List IV} : consG (some v) (some vs) = some (v :: vs) := rfl
def immO : DV → Option IV | .imm v => some v | _ => none
theorem get_tmp {t : Nat} : (DRes.tmp t).get (mkS E R) = immO (view (lookR R) (look E t)) := by
  simp only [DRes.get, immO]
  show (match view (lookR R) (look E t) with | .imm v => some v | _ => none) = _
  split <;> rfl
theorem immO_ {v : IV} : immO (.imm v) = some v := rfl
def getC (agg : Bool) (n : Nat) : DV → Option Res → Option IV
  | .ref _ off, some (.box cells) =>
      if agg then (if off + n ≤ cells.length then match allImm ((cells.drop off).take n) with | some vs => some (.agg vs) | none => none else none)
      else match cells[off]? with | some (.imm v) => some v | _ => none
  | _, _ => none
theorem get_cell {a n : Nat} {agg : Bool} : (DRes.cell a agg n).get (mkS E R) = getC agg n (look E a) (resVw (lookR R) (look E a)) := by
  simp only [DRes.get, getC]
  rfl
def aggO : Option (List IV) → Option IV | some vs => some (.agg vs) | none => none
theorem getC_t {id off n : Nat} {cells : List DV} : getC true n (.ref id off) (some (.box cells)) = if off + n ≤ cells.length then aggO (allImm (tak n (drp off cells))) else none := by
  rw [← tak_eq, ← drp_eq]; simp only [getC, if_true]; rfl
theorem aggO_ {vs : List IV} : aggO (some vs) = some (.agg vs) := rfl
def immC : Option DV → Option IV | some (.imm v) => some v | _ => none
theorem getC_f {id off n : Nat} {cells : List DV} : getC false n (.ref id off) (some (.box cells)) = immC cells[off]? := by
  simp only [getC, Bool.false_eq_true, if_false, immC]
theorem immC_ {v : IV} : immC (some (.imm v)) = some v := rfl
theorem retV_one {v : IV} : retV [v] = v := rfl
theorem retV_no : retV [] = .tup [] := rfl
theorem retV_two {v u : IV} {vs : List IV} : retV (v :: u :: vs) = .tup (v :: u :: vs) := rfl

def envOf : Nat → List IV → List (Nat × DV)
  | _, [] => []
  | i, v :: l => (i, .imm v) :: envOf (i + 1) l
theorem look_envOf : ∀ (l : List IV) (i n : Nat), look (envOf i l) n = if i ≤ n then (match l[n - i]? with | some v => .imm v | none => .undef) else .undef
  | [], i, n => by simp [envOf, look]
  | v :: l, i, n => by
    simp only [envOf, look, look_envOf l (i + 1) n]
    by_cases h : n = i
    · subst h; simp
    · rw [if_neg h]
      by_cases h2 : i + 1 ≤ n
      · rw [if_pos h2, if_pos (by omega)]
        have : n - i = (n - (i + 1)) + 1 := by omega
        rw [this]; rfl
      · rw [if_neg h2, if_neg (by omega)]
theorem init_ {ds : List IV} : DFn.init ds = mkS (envOf 0 ds) [] := by
  unfold DFn.init mkS
  congr 1
  funext x
  rw [look_envOf]
  simp only [Nat.zero_le, if_true, Nat.sub_zero]
  all_goals (cases ds[x]? <;> rfl)
theorem envOf_nil {i : Nat} : envOf i [] = [] := rfl
theorem envOf_cons {i : Nat} {v : IV} {l : List IV} : envOf i (v :: l) = (i, .imm v) :: envOf (i + 1) l := rfl

theorem contract_run {P : Program} {f : FuncId} {fn : Func} {d : DFn} (hf : P.funcs[f]? = some fn) (hc : chkFn P fn d = true) {ds : List IV} (hds : ds.length = d.nargs) {x : IV}
    (h : run P d.body [] (d.post x) (mkS (envOf 0 ds) [])) : Contract P f ds x := by
  rw [← init_] at h
  exact contract_of hf hc hds (run_start h)

theorem setL_cons {p : Nat} {ps : List Nat} {v : IV} {vs : List IV} : setL E (p :: ps) (v :: vs) = setL ((p, .imm v) :: E) ps vs := rfl
theorem setL_nil : setL E [] [] = E := rfl
theorem keepE_eq {live ids : List Nat} : keepE live ids E = live.map fun y => (y, (look E y).keep ids) := rfl
theorem renE_nil {a b : Nat} : renE a b [] = [] := rfl
theorem renE_cons {a b j : Nat} {v : DV} : renE a b ((j, v) :: E) = (j, v.ren a b) :: renE a b E := rfl
theorem renR_nil {a b : Nat} : renR a b [] = [] := rfl
theorem renR_cons {a b j : Nat} {r : Res} {R : List (Nat × Res)} : renR a b ((j, r) :: R) = (if j = a then b else j, r.ren a b) :: renR a b R := rfl
theorem ren_undef {a b : Nat} : DV.ren a b .undef = .undef := rfl
theorem ren_imm {a b : Nat} {v : IV} : DV.ren a b (.imm v) = .imm v := rfl
theorem ren_pim {a b : Nat} {v : IV} : DV.ren a b (.pim v) = .pim v := rfl
theorem ren_nils {a b z : Nat} : DV.ren a b (.nils z) = .nils z := rfl
theorem ren_cap0 {a b z : Nat} {es : List IV} : DV.ren a b (.cap0 z es) = .cap0 z es := rfl
theorem ren_yld {a b l : Nat} : DV.ren a b (.yld l) = .yld l := rfl
theorem ren_ref {a b i o : Nat} : DV.ren a b (.ref i o) = .ref (if i = a then b else i) o := rfl
theorem ren_vec {a b i o n : Nat} : DV.ren a b (.vec i o n) = .vec (if i = a then b else i) o n := rfl
theorem ren_own {a b t : Nat} : DV.ren a b (.own t) = .own (if t = a then b else t) := rfl
theorem ren_agg {a b : Nat} {cs : List DV} : DV.ren a b (.agg cs) = .agg (DV.renAll a b cs) := rfl
theorem ren_fn {a b : Nat} {f : FuncId} {x y : List DV} : DV.ren a b (.fn f x y) = .fn f (DV.renAll a b x) (DV.renAll a b y) := rfl
theorem renAll_nil {a b : Nat} : DV.renAll a b [] = [] := rfl
theorem renAll_cons {a b : Nat} {d : DV} {r : List DV} : DV.renAll a b (d :: r) = d.ren a b :: DV.renAll a b r := rfl
theorem rren_box {a b : Nat} {cs : List DV} : Res.ren a b (.box cs) = .box (DV.renAll a b cs) := rfl
theorem rren_arr {a b : Nat} {es : List IV} : Res.ren a b (.arr es) = .arr es := rfl
theorem rren_fza {a b : Nat} {es : List IV} : Res.ren a b (.fza es) = .fza es := rfl
theorem rren_tok {a b z : Nat} {es : List IV} : Res.ren a b (.tok z es) = .tok z es := rfl
theorem rren_seq {a b l : Nat} {t : Todo} : Res.ren a b (.seq l t) = .seq l t := rfl
theorem view_yld {res : Nat → Option Res} {l : Nat} : view res (.yld l) = .yld l := rfl
theorem keep_yld {ids : List Nat} {l : Nat} : DV.keep ids (.yld l) = .yld l := rfl
theorem allImm_yld {l : Nat} {r : List DV} : allImm (.yld l :: r) = none := rfl
theorem strip_yld {t : Nat} {v : IV} {l : Nat} : strip t v (.yld l) = .yld l := rfl
theorem cellsOf_yld {l : Nat} : cellsOf (.yld l) = some [.yld l] := rfl
theorem keepRes_seq {ids : List Nat} {l : Nat} {t : Todo} : Res.keep ids (.seq l t) = .seq l t := rfl
theorem frz_seq {l : Nat} {t : Todo} : Res.frz (.seq l t) = .seq l t := rfl
theorem stripRes_seq {t : Nat} {v : IV} {l : Nat} {td : Todo} : stripRes t v (.seq l td) = .seq l td := rfl
theorem callee_fn {g : FuncId} {a b : List DV} : callee (.fn g a b) = some (g, a, b) := rfl
theorem callee_func {g : FuncId} {a b : List IV} : callee (.imm (.func g a b)) = some (g, a.map .imm, b.map .imm) := rfl
theorem viewFn_none1 {f : FuncId} {a b : List DV} {x : Option (List IV)} : viewFn f a b none x = .fn f a b := rfl
theorem viewFn_none2 {f : FuncId} {a b : List DV} {x : List IV} : viewFn f a b (some x) none = .fn f a b := rfl

theorem bview_nils {res : Nat → Option Res} {z : Nat} : bview res (.nils z) = .imm (.slc z []) := rfl
theorem bview_cap0 {res : Nat → Option Res} {z : Nat} {es : List IV} : bview res (.cap0 z es) = .cap0 z es := rfl
theorem bview_imm {res : Nat → Option Res} {v : IV} : bview res (.imm v) = .imm v := rfl
theorem bview_undef {res : Nat → Option Res} : bview res .undef = .undef := rfl
theorem bview_pim {res : Nat → Option Res} {v : IV} : bview res (.pim v) = view res (.pim v) := rfl
theorem bview_ref {res : Nat → Option Res} {i o : Nat} : bview res (.ref i o) = view res (.ref i o) := rfl
theorem bview_vec {res : Nat → Option Res} {i o n : Nat} : bview res (.vec i o n) = view res (.vec i o n) := rfl
theorem bview_own {res : Nat → Option Res} {t : Nat} : bview res (.own t) = view res (.own t) := rfl
theorem bview_agg {res : Nat → Option Res} {cs : List DV} : bview res (.agg cs) = view res (.agg cs) := rfl
theorem bview_fn {res : Nat → Option Res} {f : FuncId} {a b : List DV} : bview res (.fn f a b) = view res (.fn f a b) := rfl
theorem bview_yld {res : Nat → Option Res} {l : Nat} : bview res (.yld l) = .yld l := rfl
theorem sealE_nil {ids : List Nat} {R : List (Nat × Res)} : sealE ids R [] = [] := rfl
theorem sealE_cons {ids : List Nat} {R : List (Nat × Res)} {j : Nat} {v : DV} : sealE ids R ((j, v) :: E) = (j, v.seal ids (lookR R)) :: sealE ids R E := rfl
theorem sealR_nil {ids : List Nat} {R0 : List (Nat × Res)} : sealR ids R0 [] = [] := rfl
theorem sealR_cons {ids : List Nat} {R0 R : List (Nat × Res)} {j : Nat} {r : Res} : sealR ids R0 ((j, r) :: R) = if sealed ids (lookR R0) j then sealR ids R0 R else (j, r.seal ids (lookR R0)) :: sealR ids R0 R := rfl
def isFza : Option Res → Bool | some (.fza _) => true | _ => false
theorem sealed_eq {ids : List Nat} {R : Nat → Option Res} {i : Nat} : sealed ids R i = (ids.contains i && isFza (R i)) := rfl
theorem isFza_fza {es : List IV} : isFza (some (.fza es)) = true := rfl
theorem isFza_none : isFza none = false := rfl
theorem isFza_box {cs : List DV} : isFza (some (.box cs)) = false := rfl
theorem isFza_arr {es : List IV} : isFza (some (.arr es)) = false := rfl
theorem isFza_tok {z : Nat} {es : List IV} : isFza (some (.tok z es)) = false := rfl
theorem isFza_seq {l : Nat} {t : Todo} : isFza (some (.seq l t)) = false := rfl
theorem seal_undef {ids : List Nat} {R : Nat → Option Res} : DV.seal ids R .undef = .undef := rfl
theorem seal_imm {ids : List Nat} {R : Nat → Option Res} {v : IV} : DV.seal ids R (.imm v) = .imm v := rfl
theorem seal_pim {ids : List Nat} {R : Nat → Option Res} {v : IV} : DV.seal ids R (.pim v) = .pim v := rfl
theorem seal_nils {ids : List Nat} {R : Nat → Option Res} {z : Nat} : DV.seal ids R (.nils z) = .nils z := rfl
theorem seal_cap0 {ids : List Nat} {R : Nat → Option Res} {z : Nat} {es : List IV} : DV.seal ids R (.cap0 z es) = .cap0 z es := rfl
theorem seal_yld {ids : List Nat} {R : Nat → Option Res} {l : Nat} : DV.seal ids R (.yld l) = .yld l := rfl
theorem seal_ref {ids : List Nat} {R : Nat → Option Res} {i o : Nat} : DV.seal ids R (.ref i o) = if ids.contains i then sealRef i o (R i) else .ref i o := rfl
theorem seal_vec {ids : List Nat} {R : Nat → Option Res} {i o n : Nat} : DV.seal ids R (.vec i o n) = if ids.contains i then sealVec i o n (R i) else .vec i o n := rfl
theorem seal_own {ids : List Nat} {R : Nat → Option Res} {t : Nat} : DV.seal ids R (.own t) = if sealed ids R t then .undef else .own t := rfl
theorem seal_agg {ids : List Nat} {R : Nat → Option Res} {cs : List DV} : DV.seal ids R (.agg cs) = .agg (DV.sealAll ids R cs) := rfl
theorem seal_fn {ids : List Nat} {R : Nat → Option Res} {f : FuncId} {a b : List DV} : DV.seal ids R (.fn f a b) = .fn f (DV.sealAll ids R a) (DV.sealAll ids R b) := rfl
theorem sealAll_nil {ids : List Nat} {R : Nat → Option Res} : DV.sealAll ids R [] = [] := rfl
theorem sealAll_cons {ids : List Nat} {R : Nat → Option Res} {d : DV} {r : List DV} : DV.sealAll ids R (d :: r) = d.seal ids R :: DV.sealAll ids R r := rfl
theorem sealRef_fza {i o : Nat} {es : List IV} : sealRef i o (some (.fza es)) = .pim (.agg (es.drop o)) := rfl
theorem sealRef_none {i o : Nat} : sealRef i o none = .ref i o := rfl
theorem sealRef_box {i o : Nat} {cs : List DV} : sealRef i o (some (.box cs)) = .ref i o := rfl
theorem sealVec_fza {i o n : Nat} {es : List IV} : sealVec i o n (some (.fza es)) = if o + n ≤ es.length then .imm (.slc 1 ((es.drop o).take n)) else .undef := rfl
theorem sealVec_none {i o n : Nat} : sealVec i o n none = .vec i o n := rfl
theorem rseal_box {ids : List Nat} {R : Nat → Option Res} {cs : List DV} : Res.seal ids R (.box cs) = .box (DV.sealAll ids R cs) := rfl
theorem rseal_arr {ids : List Nat} {R : Nat → Option Res} {es : List IV} : Res.seal ids R (.arr es) = .arr es := rfl
theorem rseal_fza {ids : List Nat} {R : Nat → Option Res} {es : List IV} : Res.seal ids R (.fza es) = .fza es := rfl
theorem rseal_tok {ids : List Nat} {R : Nat → Option Res} {z : Nat} {es : List IV} : Res.seal ids R (.tok z es) = .tok z es := rfl
theorem rseal_seq {ids : List Nat} {R : Nat → Option Res} {l : Nat} {t : Todo} : Res.seal ids R (.seq l t) = .seq l t := rfl
theorem tokAt_zero {z sz : Nat} {es : List IV} {r : List DV} : tokAt (.cap0 z es :: r) 0 sz = (z == sz) := rfl
theorem tokEs_zero {z : Nat} {es : List IV} {r : List DV} : tokEs (.cap0 z es :: r) 0 = es := rfl
theorem tokEs_imm {v : IV} {r : List DV} {n : Nat} : tokEs (.imm v :: r) (n + 1) = tokEs r n := rfl
theorem tokEs_cap0 {z : Nat} {es : List IV} {r : List DV} {n : Nat} : tokEs (.cap0 z es :: r) (n + 1) = tokEs r n := rfl
theorem tokEs_own {t : Nat} {r : List DV} {n : Nat} : tokEs (.own t :: r) (n + 1) = tokEs r n := rfl
theorem tokAt_imm {v : IV} {r : List DV} {n sz : Nat} : tokAt (.imm v :: r) (n + 1) sz = tokAt r n sz := rfl
theorem tokAt_cap0 {z : Nat} {es : List IV} {r : List DV} {n sz : Nat} : tokAt (.cap0 z es :: r) (n + 1) sz = tokAt r n sz := rfl
theorem tokAt_own {t : Nat} {r : List DV} {n sz : Nat} : tokAt (.own t :: r) (n + 1) sz = tokAt r n sz := rfl
theorem lset_zero {d d' : DV} {r : List DV} : (d :: r).set 0 d' = d' :: r := rfl
theorem lset_succ {d d' : DV} {r : List DV} {n : Nat} : (d :: r).set (n + 1) d' = d :: r.set n d' := rfl
def snilV (neg : Bool) (dst : Option Nat) (st : St) (K : St → Prop) : DV → Prop
  | .imm (.slc _ es) => (es = [] → K (st.put dst (.imm (.bool (!neg))) none)) ∧ K (st.put dst (.imm (.bool neg)) none)
  | _ => False
def snilP (neg : Bool) (dst : Option Nat) (st : St) (K : St → Prop) (raw v : DV) : Prop := match raw with
  | .nils _ => K (st.put dst (.imm (.bool (!neg))) none)
  | _ => snilV neg dst st K v
theorem doP_snil {P : Program} {dst : Option Nat} {x y : Opd} {neg : Bool} {R : List (Nat × Res)} {K : St → Prop} : doP P dst (.snil neg) [x, y] (mkS E R) K = snilP neg dst (mkS E R) K ((mkS E R).ev x) (view (lookR R) ((mkS E R).ev x)) := by
  unfold doP wpDO
  rw [if_pos (show Kind.writes (.snil neg) = true from rfl)]
  show semW _ _ _ _ _ _ = _
  simp only [semW, snilP]
  cases (mkS E R).ev x <;> rfl
theorem snilP_nils {neg : Bool} {dst : Option Nat} {st : St} {K : St → Prop} {z : Nat} {v : DV} : snilP neg dst st K (.nils z) v = K (st.put dst (.imm (.bool (!neg))) none) := rfl
theorem snilP_imm {neg : Bool} {dst : Option Nat} {st : St} {K : St → Prop} {x : IV} {v : DV} : snilP neg dst st K (.imm x) v = snilV neg dst st K v := rfl
theorem snilP_cap0 {neg : Bool} {dst : Option Nat} {st : St} {K : St → Prop} {z : Nat} {es : List IV} {v : DV} : snilP neg dst st K (.cap0 z es) v = snilV neg dst st K v := rfl
theorem snilP_own {neg : Bool} {dst : Option Nat} {st : St} {K : St → Prop} {t : Nat} {v : DV} : snilP neg dst st K (.own t) v = snilV neg dst st K v := rfl
theorem snilP_vec {neg : Bool} {dst : Option Nat} {st : St} {K : St → Prop} {i o n : Nat} {v : DV} : snilP neg dst st K (.vec i o n) v = snilV neg dst st K v := rfl
theorem snilV_nil {neg : Bool} {dst : Option Nat} {st : St} {K : St → Prop} {z : Nat} {es : List IV} : snilV neg dst st K (.imm (.slc z es)) = ((es = [] → K (st.put dst (.imm (.bool (!neg))) none)) ∧ K (st.put dst (.imm (.bool neg)) none)) := rfl
theorem doP_qnil {P : Program} {dst : Option Nat} {xs : List Opd} {neg : Bool} {R : List (Nat × Res)} {K : St → Prop} : doP P dst (.qnil neg) xs (mkS E R) K = semQnil (putP dst (mkS E R) K) neg (xs.map (mkS E R).arg) := doP_quiet rfl
theorem qnil_nils {K : DV → Option Res → Prop} {neg : Bool} {z : Nat} {v : DV} {b : Arg} {s1 t1 : Option Res} : semQnil K neg [⟨.nils z, v, s1, t1⟩, b] = K (.imm (.bool (if neg then !true else true))) none := rfl
theorem qnil_cons {K : DV → Option Res → Prop} {neg : Bool} {z : Nat} {x w : IV} {es : List IV} {b : Arg} {s1 t1 : Option Res} : semQnil K neg [⟨.imm w, .imm (.slc z (x :: es)), s1, t1⟩, b] = K (.imm (.bool (if neg then !false else false))) none := rfl
theorem doP_pnil {P : Program} {dst : Option Nat} {xs : List Opd} {neg : Bool} {R : List (Nat × Res)} {K : St → Prop} : doP P dst (.pnil neg) xs (mkS E R) K = semPnil (putP dst (mkS E R) K) neg (xs.map (mkS E R).arg) := doP_quiet rfl
theorem pnil_nil {K : DV → Option Res → Prop} {neg : Bool} {r1 r2 : DV} {s1 t1 s2 t2 : Option Res} : semPnil K neg [⟨r1, .imm .nilp, s1, t1⟩, ⟨r2, .imm .nilp, s2, t2⟩] = K (.imm (.bool (if neg then !true else true))) none := rfl
theorem pnil_ptr {K : DV → Option Res → Prop} {neg : Bool} {v : IV} {r1 r2 : DV} {s1 t1 s2 t2 : Option Res} : semPnil K neg [⟨r1, .imm (.ptr v), s1, t1⟩, ⟨r2, .imm .nilp, s2, t2⟩] = K (.imm (.bool (if neg then !false else false))) none := rfl
theorem pnil_ref {K : DV → Option Res → Prop} {neg : Bool} {i o : Nat} {r1 r2 : DV} {s1 t1 s2 t2 : Option Res} : semPnil K neg [⟨r1, .ref i o, s1, t1⟩, ⟨r2, .imm .nilp, s2, t2⟩] = K (.imm (.bool (if neg then !false else false))) none := rfl

theorem postB_ret {d : DFn} {outs : List Nat} {Phi : DV → (Nat → Option Res) → Prop} {R : List (Nat × Res)} : d.postB outs Phi .ret (mkS E R) = ∃ r, d.outD (mkS E R) = some r ∧ r.ok outs = true ∧ Phi r (lookR (keepR R outs outs)) := by
  show (∃ r, d.outD (mkS E R) = some r ∧ r.ok outs = true ∧ Phi r (keepRes outs (lookR R))) = _
  rw [keepRes_look]
theorem postB_normal {d : DFn} {outs : List Nat} {Phi : DV → (Nat → Option Res) → Prop} {R : List (Nat × Res)} : d.postB outs Phi .normal (mkS E R) = ∃ r, d.outD (mkS E R) = some r ∧ r.ok outs = true ∧ Phi r (lookR (keepR R outs outs)) := by
  show (∃ r, d.outD (mkS E R) = some r ∧ r.ok outs = true ∧ Phi r (keepRes outs (lookR R))) = _
  rw [keepRes_look]

def envDL : Nat → List DV → List (Nat × DV)
  | _, [] => []
  | i, v :: l => (i, v) :: envDL (i + 1) l
theorem envDL_nil {i : Nat} : envDL i [] = [] := rfl
theorem envDL_cons {i : Nat} {v : DV} {l : List DV} : envDL i (v :: l) = (i, v) :: envDL (i + 1) l := rfl
theorem look_envDL : ∀ (l : List DV) (i n : Nat), look (envDL i l) n = if i ≤ n then (match l[n - i]? with | some v => v | none => .undef) else .undef
  | [], i, n => by simp [envDL, look]
  | v :: l, i, n => by
    simp only [envDL, look, look_envDL l (i + 1) n]
    by_cases h : n = i
    · subst h; simp
    · rw [if_neg h]
      by_cases h2 : i + 1 ≤ n
      · rw [if_pos h2, if_pos (by omega)]
        have : n - i = (n - (i + 1)) + 1 := by omega
        rw [this]; rfl
      · rw [if_neg h2, if_neg (by omega)]

theorem bc_run {P : Program} {f : FuncId} {fn : Func} {d : DFn} {pn outs : List Nat} (hf : P.funcs[f]? = some fn) (hc : chkFnB P fn d pn outs = true) {ds : List DV} (hds : ds.length = d.nargs) {R : List (Nat × Res)} (hR : (R.all fun q => pn.contains q.1) = true) {Phi : DV → (Nat → Option Res) → Prop}
    (h : run P d.body [] (d.postB outs Phi) (mkS (envDL 0 ds) R)) : BC P f ds (lookR R) Phi := by
  have e : (⟨envD ds, lookR R⟩ : St) = mkS (envDL 0 ds) R := by
    unfold mkS
    congr 1
    funext x
    rw [look_envDL]
    simp only [Nat.zero_le, if_true, Nat.sub_zero, envD]
    all_goals (cases ds[x]? <;> rfl)
  refine bc_of hf hc hds (fun id hid => ?_) (by rw [e]; exact run_start h)
  induction R with
  | nil => cases hid
  | cons q R ih =>
    obtain ⟨j, r⟩ := q
    simp only [List.all_cons, Bool.and_eq_true] at hR
    simp only [lookR] at hid
    by_cases hj : id = j
    · subst hj; simpa using hR.1
    · rw [if_neg hj] at hid
      exact List.contains_iff_mem.1 (by
        have : ∀ (R : List (Nat × Res)), (R.all fun q => pn.contains q.1) = true → (lookR R id).isSome = true → pn.contains id = true := by
          intro R
          induction R with
          | nil => intro _ h; cases h
          | cons q R ih =>
            intro h1 h2
            obtain ⟨j, r⟩ := q
            simp only [List.all_cons, Bool.and_eq_true] at h1
            simp only [lookR] at h2
            by_cases hj : id = j
            · subst hj; exact h1.1
            · rw [if_neg hj] at h2; exact ih h1.2 h2
        exact this R hR.2 hid)

theorem restr_look {ids : List Nat} {R : List (Nat × Res)} : restr ids (lookR R) = lookR (R.filter fun q => ids.contains q.1) := by
  funext i
  unfold restr
  induction R with
  | nil => simp [lookR]
  | cons q R ih =>
    obtain ⟨j, r⟩ := q
    simp only [List.filter_cons]
    by_cases hj : i = j
    · subst hj
      by_cases hc : ids.contains i = true
      · simp only [hc, if_true, lookR]
      · simp only [hc, Bool.false_eq_true, if_false] at ih ⊢
        exact ih
    · by_cases hc : ids.contains j = true
      · simp only [hc, if_true, lookR, if_neg hj] at ih ⊢
        exact ih
      · simp only [hc, Bool.false_eq_true, if_false, lookR, if_neg hj] at ih ⊢
        exact ih

end
end Go.DI

/- The equations, as one. No condition. -/
set_option linter.defProp false
namespace Go.DI
open Go.RowKit

theorem tak_zero {α : Type} {l : List α} : tak 0 l = [] := rfl
theorem tak_succ {α : Type} {n : Nat} {x : α} {l : List α} : tak (n + 1) (x :: l) = x :: tak n l := rfl
theorem tak_nil {α : Type} {n : Nat} : tak (n + 1) ([] : List α) = [] := rfl
theorem drp_zero {α : Type} {l : List α} : drp 0 l = l := rfl
theorem drp_succ {α : Type} {n : Nat} {x : α} {l : List α} : drp (n + 1) (x :: l) = drp n l := rfl
theorem drp_nil {α : Type} {n : Nat} : drp (n + 1) ([] : List α) = [] := rfl
theorem isAgg_int {k : IntKind} {n : Int} : (IV.int k n).isAgg = false := rfl
theorem isAgg_bool {b : Bool} : (IV.bool b).isAgg = false := rfl
theorem isAgg_slc {z : Nat} {es : List IV} : (IV.slc z es).isAgg = false := rfl
theorem isAgg_str {s : ByteArray} : (IV.str s).isAgg = false := rfl
theorem isTup_agg {es : List IV} : (IV.agg es).isTup = false := rfl
theorem isTup_int {k : IntKind} {n : Int} : (IV.int k n).isTup = false := rfl
theorem isTup_bool {b : Bool} : (IV.bool b).isTup = false := rfl
theorem isTup_slc {z : Nat} {es : List IV} : (IV.slc z es).isTup = false := rfl
theorem isTup_str {s : ByteArray} : (IV.str s).isTup = false := rfl
theorem cells_agg {es : List IV} : (IV.agg es).cells = es := rfl
theorem cells_int {k : IntKind} {n : Int} : (IV.int k n).cells = [.int k n] := rfl
theorem cells_bool {b : Bool} : (IV.bool b).cells = [.bool b] := rfl
theorem cells_slc {z : Nat} {es : List IV} : (IV.slc z es).cells = [.slc z es] := rfl
theorem cells_str {s : ByteArray} : (IV.str s).cells = [.str s] := rfl
theorem tf_imp {p : Prop} : (true = false → p) = True := by simp
theorem ft_imp {p : Prop} : (false = true → p) = True := by simp
theorem int_default : (default : Int) = 0 := rfl
theorem l_drop_zero {α : Type} {l : List α} : l.drop 0 = l := rfl
theorem i_toNat {n : Nat} : (n : Int).toNat = n := rfl
theorem i_nonneg {n : Nat} : ((0 : Int) ≤ (n : Int)) = True := by simp
theorem if_or_ {A B X Y : Prop} [Decidable A] [Decidable B] : (if A then X else if B then X else Y) = if A ∨ B then X else Y := by
  by_cases h : A <;> simp [h]
theorem if_and_ {A B X Y : Prop} [Decidable A] [Decidable B] : (if A then if B then X else Y else Y) = if A ∧ B then X else Y := by
  by_cases h : A <;> simp [h]
theorem if_not_ {A X Y : Prop} [Decidable A] : (if ¬A then X else Y) = if A then Y else X := by
  by_cases h : A <;> simp [h]
theorem if_orn_ {A B X Y : Prop} [Decidable A] [Decidable B] : (if A then X else if B then Y else X) = if A ∨ ¬B then X else Y := by
  by_cases h : A <;> by_cases h2 : B <;> simp [h, h2]
theorem if_andn_ {A B X Y : Prop} [Decidable A] [Decidable B] : (if A then if B then Y else X else Y) = if A ∧ ¬B then X else Y := by
  by_cases h : A <;> by_cases h2 : B <;> simp [h, h2]
theorem i_zero : ((0 : Nat) : Int) = 0 := rfl
theorem imp_t {p : Prop} : (p → True) = True := by simp
theorem f_imp {p : Prop} : (False → p) = True := by simp
theorem l_map_cons {α β : Type} {f : α → β} {a : α} {l : List α} : (a :: l).map f = f a :: l.map f := rfl
theorem l_map_nil {α β : Type} {f : α → β} : ([] : List α).map f = [] := rfl
theorem o_getD_some {α : Type} {a b : α} : (some a).getD b = a := rfl
theorem o_getD_none {α : Type} {b : α} : (none : Option α).getD b = b := rfl
theorem o_map_some {α β : Type} {f : α → β} {a : α} : (some a).map f = some (f a) := rfl
theorem o_map_none {α β : Type} {f : α → β} : (none : Option α).map f = none := rfl
theorem l_length_cons {α : Type} {a : α} {l : List α} : (a :: l).length = l.length + 1 := rfl
theorem l_length_nil {α : Type} : ([] : List α).length = 0 := rfl
theorem l_length_map {α β : Type} {f : α → β} {l : List α} : (l.map f).length = l.length := List.length_map f
theorem l_nil_append {α : Type} {l : List α} : [] ++ l = l := rfl
theorem l_cons_append {α : Type} {a : α} {l m : List α} : (a :: l) ++ m = a :: (l ++ m) := rfl
theorem l_append_nil {α : Type} {l : List α} : l ++ [] = l := List.append_nil l
theorem l_get_succ {α : Type} {a : α} {l : List α} {i : Nat} : (a :: l)[i + 1]? = l[i]? := rfl
theorem l_get_zero {α : Type} {a : α} {l : List α} : (a :: l)[0]? = some a := rfl
theorem l_contains_cons {a b : Nat} {l : List Nat} : (a :: l).contains b = (b == a || l.contains b) := rfl
theorem l_contains_nil {b : Nat} : ([] : List Nat).contains b = false := rfl
theorem isAgg_func {f : FuncId} {a b : List IV} : (IV.func f a b).isAgg = false := rfl
theorem isTup_func {f : FuncId} {a b : List IV} : (IV.func f a b).isTup = false := rfl
theorem isAgg_ptr {x : IV} : (IV.ptr x).isAgg = false := rfl
theorem isTup_ptr {x : IV} : (IV.ptr x).isTup = false := rfl
theorem cells_ptr {x : IV} : (IV.ptr x).cells = [.ptr x] := rfl
theorem cells_func {f : FuncId} {a b : List IV} : (IV.func f a b).cells = [.func f a b] := rfl
theorem l_all_cons {α : Type} {f : α → Bool} {a : α} {l : List α} : (a :: l).all f = (f a && l.all f) := rfl
theorem l_all_nil {α : Type} {f : α → Bool} : ([] : List α).all f = true := rfl

def di0 := And.intro @run_skip (And.intro @run_region (And.intro @run_seq (And.intro @run_block (And.intro @run_exit (And.intro @run_ret (And.intro @run_keep (And.intro @run_freeze (And.intro @condP_bool (And.intro @run_cond (And.intro @res_nil (And.intro @res_seq (And.intro @res_seq_exit (And.intro @res_seq_ret (And.intro @res_block (And.intro @res_block_exit (And.intro @res_block_ret (And.intro @res_again (And.intro @res_again_exit (And.intro @res_again_ret (And.intro @runR_nil (And.intro @runR_cons (And.intro @runR_guard (And.intro @gdP_bool (And.intro @gdP_skip (And.intro @put_none (And.intro @put_some (And.intro @put_no (And.intro @ev_t (And.intro @ev_c (And.intro @ev_z (And.intro @ev_f (And.intro @arg_mk (And.intro @putP_none (And.intro @putP_some (And.intro @keep_mk (And.intro @keepR_nil (And.intro @keepR_cons (And.intro @keepR1_some (And.intro @keepR1_none (And.intro @frz_mk (And.intro @frzR_nil (And.intro @frzR_cons (And.intro @look_cons (And.intro @look_nil (And.intro @lookR_cons (And.intro @lookR_nil (And.intro @view_imm (And.intro @view_undef (And.intro @view_ref (And.intro @viewRef_fza (And.intro @viewRef_box (And.intro @viewRef_arr (And.intro @viewRef_tok (And.intro @viewRef_none (And.intro @view_pim (@view_nils))))))))))))))))))))))))))))))))))))))))))))))))))))))))

def di1 := And.intro @view_cap0 (And.intro @view_agg (And.intro @view_own (And.intro @viewOwn_tok (And.intro @view_vec (And.intro @viewVec_fza (And.intro @viewVec_arr (And.intro @view_fn (And.intro @viewFn_some (And.intro @viewAll_nil (And.intro @viewAll_cons (And.intro @allImm_nil (And.intro @allImm_cons (And.intro @consO_some (And.intro @consO_none (And.intro @allImm_ref (And.intro @allImm_vec (And.intro @allImm_own (And.intro @allImm_nils (And.intro @allImm_cap0 (And.intro @allImm_pim (And.intro @allImm_undef (And.intro @allImm_fn (And.intro @allImm_agg (And.intro @mkAgg_mk (And.intro @mkAggO_some (And.intro @mkAggO_none (And.intro @resOf_ref (And.intro @resVw_ref (And.intro @resVwO_box (And.intro @resVwO_arr (And.intro @resVwO_fza (And.intro @cellsOf_agg (And.intro @cellsOf_dagg (And.intro @cellsOf_int (And.intro @cellsOf_bool (And.intro @cellsOf_slc (And.intro @cellsOf_str (And.intro @cellsOf_func (And.intro @cellsOf_nilf (And.intro @cellsOf_flt (And.intro @cellsOf_ref (And.intro @cellsOf_vec (And.intro @cellsOf_own (And.intro @cellsOf_nils (And.intro @cellsOf_cap0 (And.intro @cellsOf_fn (And.intro @roundQ_normal (And.intro @roundQ_exit (And.intro @roundQ_ret (And.intro @run_dead (And.intro @run_settle (And.intro @res_settle (And.intro @mktokP_box (And.intro @run_mktok (And.intro @doP_mov (@doP_movv))))))))))))))))))))))))))))))))))))))))))))))))))))))))

def di2 := And.intro @doP_pick (And.intro @doP_ntok (And.intro @doP_alloc (And.intro @doP_box (And.intro @doP_build (And.intro @doP_bsl (And.intro @doP_buildr (And.intro @doP_px (And.intro @doP_aslice (And.intro @doP_appq (And.intro @doP_load (And.intro @doP_loadf (And.intro @doP_nilck (And.intro @doP_bin (And.intro @doP_beq (And.intro @doP_eqs (And.intro @doP_un (And.intro @doP_conv (And.intro @doP_mkfn (And.intro @doP_slice (And.intro @doP_sslice (And.intro @doP_slice3 (And.intro @doP_faddrp (And.intro @doP_faddr (And.intro @doP_field (And.intro @doP_iaddr (And.intro @doP_iarr (And.intro @doP_index (And.intro @doP_sidx (And.intro @doP_ext (And.intro @doP_call (And.intro @doP_len (And.intro @doP_slen (And.intro @doP_alen (And.intro @doP_mm (And.intro @doP_mksl (And.intro @mov_ (And.intro @movv_ (And.intro @pick_ (And.intro @ntok_ (And.intro @alloc_ (And.intro @box_ (And.intro @boxP_ (And.intro @build_ (And.intro @buildP_ (And.intro @fillD_nil (And.intro @fillD_cons (And.intro @fillA_ (And.intro @setCells_ (And.intro @buildr_ (And.intro @up_mk (And.intro @aslice_ (And.intro @appq_ (And.intro @px_ (And.intro @optP_ (And.intro @optK_some (@pxI_re))))))))))))))))))))))))))))))))))))))))))))))))))))))))

def di3 := And.intro @pxI_im (And.intro @pxI_cplx (And.intro @pxI_i2f (And.intro @bsl_ (And.intro @bslP_ (And.intro @load_box_agg (And.intro @load_box (And.intro @loadC_ (And.intro @load_fza_agg (And.intro @load_pim_agg (And.intro @load_pim (And.intro @load_ptr_agg (And.intro @load_ptr (And.intro @loadI_int (And.intro @loadI_bool (And.intro @loadI_str (And.intro @loadI_slc (And.intro @loadI_func (And.intro @loadI_ptr (And.intro @loadI_flt (And.intro @loadI_nilp (And.intro @loadI_nilf (And.intro @loadI_nili (And.intro @loadI_agg (And.intro @loadJ_ (And.intro @addrIn_ref (And.intro @addrIn_ptr (And.intro @addrIn_pim (And.intro @nilck_ref (And.intro @nilck_pim (And.intro @nilck_ptr (And.intro @nilck_func (And.intro @nilck_fn (And.intro @bin_add (And.intro @bin_sub (And.intro @bin_mul (And.intro @bin_quo (And.intro @bin_rem (And.intro @bin_eql (And.intro @bin_neq (And.intro @bin_lss (And.intro @bin_leq (And.intro @bin_gtr (And.intro @bin_geq (And.intro @un_neg (And.intro @conv_ (And.intro @bin_str_eql (And.intro @bin_str_neq (And.intro @bin_str_add (And.intro @un_not (And.intro @beq_f (And.intro @beq_t (And.intro @eqs_ (And.intro @eqsP_f (And.intro @eqsP_t (And.intro @eqCells_nil (@eqCells_int))))))))))))))))))))))))))))))))))))))))))))))))))))))))

def di4 := And.intro @eqCells_bool (And.intro @andO_ (And.intro @mkfn_ (And.intro @mkfnP_some (And.intro @mkfnP_none (And.intro @slice_ (And.intro @sliceP_ (And.intro @slice_vec (And.intro @sliceV_ (And.intro @bounds_no (And.intro @bounds_lo (And.intro @bounds_hi (And.intro @bounds_both (And.intro @sslice_ (And.intro @ssliceP_ (And.intro @slice3_ (And.intro @faddr_ref (And.intro @faddr_pim (And.intro @faddr_ptr (And.intro @pimP_ (And.intro @partIV_t (And.intro @partIV_f (And.intro @partDV_t (And.intro @partDV_f (And.intro @field_imm (And.intro @fieldP_ (And.intro @field_agg (And.intro @fieldD_ (And.intro @iaddr_vec (And.intro @iarr_ref (And.intro @iarr_pim (And.intro @iarr_ptr (And.intro @index_ (And.intro @index_agg (And.intro @sidx_ (And.intro @ext_ (And.intro @extP_ (And.intro @call_ (And.intro @callP_ (And.intro @len_ (And.intro @len_vec (And.intro @slen_ (And.intro @alen_ (And.intro @mm_ (And.intro @mmAll_nil (And.intro @mmAll_cons (And.intro @mmP_ (And.intro @mmI_max (And.intro @mmI_min (And.intro @mksl_ (And.intro @iaddr_map (And.intro @iaddr_cons (And.intro @load_arr_map (And.intro @load_fza_map (And.intro @load_fza_cons (And.intro @loadG_ (@m_take))))))))))))))))))))))))))))))))))))))))))))))))))))))))

def di5 := And.intro @m_drop (And.intro @m_append (And.intro @m_snoc (And.intro @m_replicate (And.intro @m_set (And.intro @doP_store (And.intro @doP_storef (And.intro @refIn_ (And.intro @storeA_ (And.intro @storeB_box (And.intro @storeB_arr (And.intro @storeC_ (And.intro @storeD_ (And.intro @doP_append (And.intro @doP_copy (And.intro @copyB_ (And.intro @copyC_ (And.intro @append_own (And.intro @appC_ (And.intro @append_cap0 (And.intro @append_cap0_weak (And.intro @stripE_nil (And.intro @stripE_cons (And.intro @stripR_nil (And.intro @stripR_cons (And.intro @strip_imm (And.intro @strip_undef (And.intro @strip_pim (And.intro @strip_nils (And.intro @strip_cap0 (And.intro @strip_own (And.intro @strip_ref (And.intro @strip_vec (And.intro @strip_agg (And.intro @strip_fn (And.intro @stripAll_nil (And.intro @stripAll_cons (And.intro @stripRes_box (And.intro @stripRes_arr (And.intro @stripRes_fza (And.intro @stripRes_tok (And.intro @dkeep_imm (And.intro @dkeep_undef (And.intro @dkeep_pim (And.intro @dkeep_nils (And.intro @dkeep_cap0 (And.intro @dkeep_ref (And.intro @dkeep_vec (And.intro @dkeep_own (And.intro @dkeep_agg (And.intro @dkeep_fn (And.intro @okAll_nil (And.intro @okAll_cons (And.intro @ok_imm (And.intro @ok_undef (And.intro @ok_ref (@ok_vec))))))))))))))))))))))))))))))))))))))))))))))))))))))))

def di6 := And.intro @ok_own (And.intro @ok_nils (And.intro @ok_cap0 (And.intro @rkeep_box (And.intro @rkeep_arr (And.intro @rkeep_fza (And.intro @rkeep_tok (And.intro @frz_box (And.intro @frzB_some (And.intro @frzB_none (And.intro @frz_arr (And.intro @frz_fza (And.intro @frz_tok (And.intro @post_ret (And.intro @post_normal (And.intro @out_ (And.intro @getAll_nil (And.intro @getAll_cons (And.intro @consG_ (And.intro @get_tmp (And.intro @immO_ (And.intro @get_cell (And.intro @getC_t (And.intro @aggO_ (And.intro @getC_f (And.intro @immC_ (And.intro @retV_one (And.intro @retV_no (And.intro @retV_two (And.intro @envOf_nil (And.intro @envOf_cons (And.intro @setL_cons (And.intro @setL_nil (And.intro @keepE_eq (And.intro @renE_nil (And.intro @renE_cons (And.intro @renR_nil (And.intro @renR_cons (And.intro @ren_undef (And.intro @ren_imm (And.intro @ren_pim (And.intro @ren_nils (And.intro @ren_cap0 (And.intro @ren_yld (And.intro @ren_ref (And.intro @ren_vec (And.intro @ren_own (And.intro @ren_agg (And.intro @ren_fn (And.intro @renAll_nil (And.intro @renAll_cons (And.intro @rren_box (And.intro @rren_arr (And.intro @rren_fza (And.intro @rren_tok (And.intro @rren_seq (@view_yld))))))))))))))))))))))))))))))))))))))))))))))))))))))))

def di7 := And.intro @keep_yld (And.intro @allImm_yld (And.intro @strip_yld (And.intro @cellsOf_yld (And.intro @keepRes_seq (And.intro @frz_seq (And.intro @stripRes_seq (And.intro @callee_fn (And.intro @callee_func (And.intro @viewFn_none1 (And.intro @viewFn_none2 (And.intro @bview_nils (And.intro @bview_cap0 (And.intro @bview_imm (And.intro @bview_undef (And.intro @bview_pim (And.intro @bview_ref (And.intro @bview_vec (And.intro @bview_own (And.intro @bview_agg (And.intro @bview_fn (And.intro @bview_yld (And.intro @sealE_nil (And.intro @sealE_cons (And.intro @sealR_nil (And.intro @sealR_cons (And.intro @sealed_eq (And.intro @isFza_fza (And.intro @isFza_none (And.intro @isFza_box (And.intro @isFza_arr (And.intro @isFza_tok (And.intro @isFza_seq (And.intro @seal_undef (And.intro @seal_imm (And.intro @seal_pim (And.intro @seal_nils (And.intro @seal_cap0 (And.intro @seal_yld (And.intro @seal_ref (And.intro @seal_vec (And.intro @seal_own (And.intro @seal_agg (And.intro @seal_fn (And.intro @sealAll_nil (And.intro @sealAll_cons (And.intro @sealRef_fza (And.intro @sealRef_none (And.intro @sealRef_box (And.intro @sealVec_fza (And.intro @sealVec_none (And.intro @rseal_box (And.intro @rseal_arr (And.intro @rseal_fza (And.intro @rseal_tok (And.intro @rseal_seq (@tokAt_zero))))))))))))))))))))))))))))))))))))))))))))))))))))))))

def di8 := And.intro @tokEs_zero (And.intro @tokEs_imm (And.intro @tokEs_cap0 (And.intro @tokEs_own (And.intro @tokAt_imm (And.intro @tokAt_cap0 (And.intro @tokAt_own (And.intro @lset_zero (And.intro @lset_succ (And.intro @doP_snil (And.intro @snilP_nils (And.intro @snilP_imm (And.intro @snilP_cap0 (And.intro @snilP_own (And.intro @snilP_vec (And.intro @snilV_nil (And.intro @doP_qnil (And.intro @qnil_nils (And.intro @qnil_cons (And.intro @doP_pnil (And.intro @pnil_nil (And.intro @pnil_ptr (And.intro @pnil_ref (And.intro @postB_ret (And.intro @postB_normal (And.intro @envDL_nil (And.intro @envDL_cons (And.intro @tak_zero (And.intro @tak_succ (And.intro @tak_nil (And.intro @drp_zero (And.intro @drp_succ (And.intro @drp_nil (And.intro @isAgg_int (And.intro @isAgg_bool (And.intro @isAgg_slc (And.intro @isAgg_str (And.intro @isTup_agg (And.intro @isTup_int (And.intro @isTup_bool (And.intro @isTup_slc (And.intro @isTup_str (And.intro @cells_agg (And.intro @cells_int (And.intro @cells_bool (And.intro @cells_slc (And.intro @cells_str (And.intro @tf_imp (And.intro @ft_imp (And.intro @int_default (And.intro @l_drop_zero (And.intro @i_toNat (And.intro @i_nonneg (And.intro @if_or_ (And.intro @if_and_ (And.intro @if_not_ (@if_orn_))))))))))))))))))))))))))))))))))))))))))))))))))))))))

def di9 := And.intro @if_andn_ (And.intro @i_zero (And.intro @imp_t (And.intro @f_imp (And.intro @l_map_cons (And.intro @l_map_nil (And.intro @o_getD_some (And.intro @o_getD_none (And.intro @o_map_some (And.intro @o_map_none (And.intro @l_length_cons (And.intro @l_length_nil (And.intro @l_length_map (And.intro @l_nil_append (And.intro @l_cons_append (And.intro @l_append_nil (And.intro @l_get_succ (And.intro @l_get_zero (And.intro @l_contains_cons (And.intro @l_contains_nil (And.intro @isAgg_func (And.intro @isTup_func (And.intro @isAgg_ptr (And.intro @isTup_ptr (And.intro @cells_ptr (And.intro @cells_func (And.intro @l_all_cons (And.intro @l_all_nil (And.intro @viewAll_imms (And.intro @allImm_imms (And.intro @stripAll_imms (And.intro @and_true (And.intro @true_and (And.intro @and_self (And.intro @Bool.not_true (And.intro @Bool.not_false (And.intro @Bool.true_and (And.intro @Bool.and_true (And.intro @Bool.false_and (And.intro @Bool.and_false (And.intro @Bool.or_true (And.intro @Bool.true_or (And.intro @Bool.or_false (And.intro @Bool.false_or (And.intro @decide_eq_true_eq (And.intro @true_implies (And.intro @not_true_eq_false (And.intro @not_false_eq_true (And.intro @decide_true (And.intro @decide_false (And.intro @Bool.not_eq_true' (And.intro @Bool.not_eq_false' (And.intro @decide_eq_false_iff_not (And.intro @Bool.not_not (And.intro @Bool.and_eq_true (@Bool.or_eq_true)))))))))))))))))))))))))))))))))))))))))))))))))))))))

end Go.DI

/- What the data say has a witness: a result that is not named beforehand. No condition. -/
namespace Go.DI
open Go.RowKit

def Kind.isY : Kind → Bool | .yield => true | .callb _ => true | .snil _ => true | _ => false
def DCode.noY : DCode → Bool
  | .region ops _ => ops.all fun o => !o.kind.isY
  | .seq a b | .cond _ a b => a.noY && b.noY
  | .block _ a | .loop a | .keep _ _ a | .freeze _ a | .ren _ _ a | .settle _ a | .mktok _ _ _ _ a => a.noY
  | .rangeF .. => false
  | _ => true

theorem semW_wit {P : Program} {d : Option Nat} {kind : Kind} {xs : List Opd} {st : St} {K : St → Prop} (hy : kind.isY = false) (hs : semW P d kind xs st K) : ∃ s, K s ∧ ∀ K' : St → Prop, K' s → semW P d kind xs st K' := by
  cases kind <;> try (exact hs.elim)
  case store n =>
    have h : semSt d n xs st K := hs
    obtain ⟨a, x, id, off, r, r', e1, e2, e3, e4, e5, e6, e7⟩ := semSt_eff h
    exact ⟨_, e6, fun K' hk => (e7 st K' rfl rfl rfl rfl hk : semSt d n xs st K')⟩
  case storef n ids =>
    match xs, hs with
    | a :: xs, hs =>
      obtain ⟨a', x, id, off, r, r', e1, e2, e3, e4, e5, e6, e7⟩ := semSt_eff hs.2
      exact ⟨_, e6, fun K' hk => ⟨hs.1, e7 st K' rfl rfl rfl rfl hk⟩⟩
  case append sz bytes weak =>
    match xs, hs with
    | [x, y], hs =>
      simp only [semW] at hs ⊢
      split at hs
      · split at hs
        · exact ⟨_, hs.2.2.2.2, fun K' hk => ⟨hs.1, hs.2.1, hs.2.2.1, hs.2.2.2.1, hk⟩⟩
        · exact hs.elim
      · have hs5 := hs.2.2.2.2
        split at hs5
        · split at hs5
          · rename_i hw
            exact ⟨_, hs5, fun K' hk => ⟨hs.1, hs.2.1, hs.2.2.1, hs.2.2.2.1, by rw [if_pos hw]; exact hk⟩⟩
          · rename_i hw
            exact ⟨_, hs5.2, fun K' hk => ⟨hs.1, hs.2.1, hs.2.2.1, hs.2.2.2.1, by rw [if_neg hw]; exact ⟨hs5.1, hk⟩⟩⟩
        · exact hs5.elim
      · exact ⟨_, hs.2.2, fun K' hk => ⟨hs.1, hs.2.1, hk⟩⟩
      · exact hs.elim
  case copy =>
    match xs, hs with
    | [x, y], hs =>
      simp only [semW] at hs ⊢
      split at hs
      · split at hs
        · exact ⟨_, hs.2.2.2, fun K' hk => ⟨hs.1, hs.2.1, hs.2.2.1, hk⟩⟩
        · exact hs.elim
      · exact hs.elim
  case yield => cases hy
  case callb => cases hy
  case snil => cases hy

theorem wpDO_wit {P : Program} {q : DO} {st : St} {K : St → Prop} (hy : q.kind.isY = false) (hs : wpDO P q st K) : ∃ s, K s ∧ ∀ K' : St → Prop, K' s → wpDO P q st K' := by
  unfold wpDO at hs ⊢
  split at hs
  · rename_i hw
    simp only [if_pos hw]
    exact semW_wit hy hs
  · rename_i hw
    simp only [if_neg hw]
    obtain ⟨dv, nr, h1, h2⟩ := sem_wit hs
    exact ⟨_, h1.2, fun K' hk => h2 _ ⟨h1.1, hk⟩⟩

theorem wpG_wit {P : Program} {q : DO} {st : St} {K : St → Prop} (hy : q.kind.isY = false) (hs : wpG P q st K) : ∃ s, K s ∧ ∀ K' : St → Prop, K' s → wpG P q st K' := by
  unfold wpG at hs ⊢
  cases hg : q.guard with
  | none =>
    simp only [hg] at hs ⊢
    exact wpDO_wit hy hs
  | some gw =>
    obtain ⟨g, want⟩ := gw
    simp only [hg] at hs ⊢
    split at hs
    · rename_i b hb
      by_cases hbw : b = some want
      · obtain ⟨s, h1, h2⟩ := wpDO_wit hy (hs.1 hbw)
        exact ⟨s, h1, fun K' hk => by
          exact ⟨fun _ => h2 K' hk, fun h => absurd hbw h⟩⟩
      · exact ⟨_, hs.2 hbw, fun K' hk => by
          exact ⟨fun h => absurd h hbw, fun _ => hk⟩⟩
    · exact hs.elim

theorem wpR_wit {P : Program} : ∀ {ops : List DO} {st : St} {K : St → Prop}, (ops.all fun o => !o.kind.isY) = true → wpR P ops st K → ∃ s, K s ∧ ∀ K' : St → Prop, K' s → wpR P ops st K'
  | [], st, K, _, h => ⟨st, h, fun _ hk => hk⟩
  | o :: r, st, K, hy, h => by
    simp only [List.all_cons, Bool.and_eq_true, Bool.not_eq_true'] at hy
    obtain ⟨s, h1, h2⟩ := wpG_wit hy.1 h
    obtain ⟨s', h3, h4⟩ := wpR_wit (by simpa using hy.2) h1
    exact ⟨s', h3, fun K' hk => h2 _ (h4 K' hk)⟩

theorem wpD_wit {P : Program} : ∀ {c : DCode} {st : St} {K : Ex → St → Prop}, c.noY = true → wpD P c K st → ∃ e s, K e s ∧ ∀ K' : Ex → St → Prop, K' e s → wpD P c K' st
  | .skip, st, K, _, h => ⟨_, _, h, fun _ hk => hk⟩
  | .region ops dr, st, K, hy, h => by
    obtain ⟨s, h1, h2⟩ := wpR_wit (ops := ops) hy h
    exact ⟨_, s, h1, fun K' hk => h2 _ hk⟩
  | .seq a b, st, K, hy, h => by
    have hy := Bool.and_eq_true_iff.1 hy
    obtain ⟨e, s, h1, h2⟩ := wpD_wit (c := a) hy.1 h
    cases e with
    | normal =>
      obtain ⟨e', s', h3, h4⟩ := wpD_wit (c := b) hy.2 h1
      exact ⟨e', s', h3, fun K' hk => h2 _ (h4 K' hk)⟩
    | exit i => exact ⟨.exit i, s, h1, fun K' hk => h2 _ hk⟩
    | ret => exact ⟨.ret, s, h1, fun K' hk => h2 _ hk⟩
  | .cond c a b, st, K, hy, h => by
    have hy := Bool.and_eq_true_iff.1 hy
    simp only [wpD] at h ⊢
    split at h
    · rename_i t ht
      cases t with
      | true =>
        obtain ⟨e, s, h1, h2⟩ := wpD_wit (c := a) hy.1 (h.1 rfl)
        exact ⟨e, s, h1, fun K' hk => ⟨fun _ => h2 K' hk, fun h => (by cases h)⟩⟩
      | false =>
        obtain ⟨e, s, h1, h2⟩ := wpD_wit (c := b) hy.2 (h.2 rfl)
        exact ⟨e, s, h1, fun K' hk => ⟨(fun h => (by cases h)), fun _ => h2 K' hk⟩⟩
    · exact h.elim
  | .block id a, st, K, hy, h => by
    obtain ⟨e, s, h1, h2⟩ := wpD_wit (c := a) hy h
    cases e with
    | normal => exact ⟨.normal, s, h1, fun K' hk => h2 _ hk⟩
    | exit i =>
      dsimp only at h1
      split at h1
      · rename_i hi
        exact ⟨.normal, s, h1, fun K' hk => h2 _ (by dsimp only; rw [if_pos hi]; exact hk)⟩
      · rename_i hi
        exact ⟨.exit i, s, h1, fun K' hk => h2 _ (by dsimp only; rw [if_neg hi]; exact hk)⟩
    | ret => exact ⟨.ret, s, h1, fun K' hk => h2 _ hk⟩
  | .loop a, st, K, hy, h => by
    refine h (fun s => ∃ e s', K e s' ∧ ∀ K' : Ex → St → Prop, K' e s' → wpD P (.loop a) K' s) fun s hs => ?_
    obtain ⟨e, s', h1, h2⟩ := wpD_wit (c := a) hy hs
    cases e with
    | normal =>
      obtain ⟨e', s'', h3, h4⟩ := h1
      exact ⟨e', s'', h3, fun K' hk => fun X hX => hX s (h2 _ (h4 K' hk X hX))⟩
    | exit i => exact ⟨.exit i, s', h1, fun K' hk => fun X hX => hX s (h2 _ hk)⟩
    | ret => exact ⟨.ret, s', h1, fun K' hk => fun X hX => hX s (h2 _ hk)⟩
  | .exit id, st, K, _, h => ⟨_, _, h, fun _ hk => hk⟩
  | .ret, st, K, _, h => ⟨_, _, h, fun _ hk => hk⟩
  | .keep l i a, st, K, hy, h => wpD_wit (c := a) hy h
  | .freeze i a, st, K, hy, h => wpD_wit (c := a) hy h
  | .dead, st, K, hy, h => h.elim
  | .settle i a, st, K, hy, h => by
    obtain ⟨e, s, h1, h2⟩ := wpD_wit (c := a) hy h
    exact ⟨e, s.settle i, h1, fun K' hk => h2 (fun e s => K' e (s.settle i)) hk⟩
  | .mktok b o t z a, st, K, hy, h => by
    obtain ⟨e, s, h1, h2⟩ := wpD_wit (c := a) hy h.2.2
    exact ⟨e, s, h1, fun K' hk => ⟨h.1, h.2.1, h2 K' hk⟩⟩
  | .ren x y a, st, K, hy, h => by
    obtain ⟨e, s, h1, h2⟩ := wpD_wit (c := a) hy h.2.2.2
    exact ⟨e, s, h1, fun K' hk => ⟨h.1, h.2.1, h.2.2.1, h2 K' hk⟩⟩
  | .rangeF .., st, K, hy, h => (by cases hy)

def DFn.postX (d : DFn) (Phi : IV → Prop) : Ex → St → Prop
  | .exit _, _ => False
  | _, st => ∃ r, d.out st = some r ∧ Phi r

theorem postX_ret {d : DFn} {Phi : IV → Prop} {E : List (Nat × DV)} {R : List (Nat × Res)} : d.postX Phi .ret (mkS E R) = ∃ r, d.out (mkS E R) = some r ∧ Phi r := rfl
theorem postX_normal {d : DFn} {Phi : IV → Prop} {E : List (Nat × DV)} {R : List (Nat × Res)} : d.postX Phi .normal (mkS E R) = ∃ r, d.out (mkS E R) = some r ∧ Phi r := rfl
theorem ex_some {x : IV} {Phi : IV → Prop} : (∃ r, some x = some r ∧ Phi r) = Phi x := by simp

theorem contract_ex {P : Program} {f : FuncId} {fn : Func} {d : DFn} (hf : P.funcs[f]? = some fn) (hc : chkFn P fn d = true) {ds : List IV} (hds : ds.length = d.nargs) {Phi : IV → Prop}
    (h : run P d.body [] (d.postX Phi) (mkS (envOf 0 ds) [])) (hy : d.body.noY = true := by rfl) : ∃ x, Phi x ∧ Contract P f ds x := by
  obtain ⟨e, s, h1, h2⟩ := wpD_wit (c := d.body) hy (run_start h)
  have fin : ∀ x, d.out s = some x → Phi x → d.post x e s → ∃ x, Phi x ∧ Contract P f ds x := fun x _ hp hk => ⟨x, hp, contract_run hf hc hds (h2 _ hk)⟩
  cases e with
  | normal => obtain ⟨x, h3, h4⟩ := h1; exact fin x h3 h4 h3
  | exit i => exact h1.elim
  | ret => obtain ⟨x, h3, h4⟩ := h1; exact fin x h3 h4 h3

theorem outD_nil {d : DFn} {st : St} (h : d.res = []) : d.outD st = some (.imm (.tup [])) := by
  unfold DFn.outD DFn.out
  rw [h]; rfl
theorem outD_one {d : DFn} {st : St} {r : DRes} (h : d.res = [r]) : d.outD st = r.getD st := by
  unfold DFn.outD
  rw [h]
theorem getD_tmp {E : List (Nat × DV)} {R : List (Nat × Res)} {t : Nat} : DRes.getD (mkS E R) (.tmp t) = some (look E t) := rfl
theorem restr_nil {R : Nat → Option Res} : restr [] R = lookR [] := by funext i; rfl
theorem withSeq_nil {l : Nat} {t : Todo} : withSeq (lookR []) l t = lookR [(0, .seq l t)] := rfl
theorem range_plain {P : Program} {k : List KF} {Q : Ex → St → Prop} {E : List (Nat × DV)} {R : List (Nat × Res)} {g : Opd} {ps live ids kids : List Nat} {ad bd : DCode} {gf : FuncId} {first caps : List IV} (xs : List (List IV)) (inf : Bool)
    (hg : view (lookR R) ((mkS E R).ev g) = .imm (.func gf first caps)) (hids : (ids.all fun id => match lookR R id with | some r => !r.isTok | none => false) = true)
    (hbc : ∀ l, BC P gf (first.map .imm ++ .yld l :: caps.map .imm) (lookR [(0, .seq l (inf, some xs))]) fun _ R' => seqOver l inf R') (hxs : ∀ x ∈ xs, x.length = ps.length) (hst : ad.straight = true)
    {α : Type} (Inv : Nat → α → Prop) (G : α → List (Nat × Res)) (a0 : α) (h0 : Inv 0 a0) (hs : keepRes kids (lookR R) = lookR (G a0))
    (step : ∀ n x y, xs[n]? = some x → Inv n y → run P ad [.seq bd] (roundQ P k Q kids (keepE live ids E) (fun R' => ∃ y', Inv (n + 1) y' ∧ R' = lookR (G y') ∧ (inf = true → n + 1 < xs.length))) (mkS (setL (keepE live ids E) ps x) (G y)))
    (done : ∀ y, inf = false → Inv xs.length y → resume P k Q .normal (mkS (keepE live ids E) (G y))) : run P (.rangeF g ps live ids [] kids ad bd) k Q (mkS E R) := by
  refine range_keep (first := first.map .imm) (caps := caps.map .imm) (gf := gf) xs inf (by rw [hg]; rfl) ?_ hids rfl ?_ hxs hst Inv G a0 h0 hs step done
  · unfold lendOk
    rw [List.all_nil, Bool.true_and, ← List.map_append]
    generalize first ++ caps = l
    induction l with
    | nil => rfl
    | cons x l ih => simpa [DV.okAll, DV.ok] using ih
  · intro l
    rw [restr_nil, withSeq_nil]
    exact hbc l

theorem do_lend {P : Program} {E : List (Nat × DV)} {R : List (Nat × Res)} {K : St → Prop} {ids : List Nat} {dst : Option Nat} {f : Opd} {ys : List Opd} {g : FuncId} {first cap : List DV} {Phi : DV → (Nat → Option Res) → Prop} (hf : callee (view (lookR R) ((mkS E R).ev f)) = some (g, first, cap))
    (hbc : BC P g (first ++ (ys.map fun y => bview (lookR R) ((mkS E R).ev y)) ++ cap) (restr ids (lookR R)) Phi) (hl : lendOk ids (lookR R) (first ++ (ys.map fun y => bview (lookR R) ((mkS E R).ev y)) ++ cap) = true)
    (h0 : (ids.contains 0 || (ghost (lookR R)).isNone) = true) (hk : ∀ r R', Phi r R' → ∃ R1, R' = lookR R1 ∧ (R1.all fun q => ids.contains q.1 || (lookR R q.1).isNone) = true ∧ K ((mkS E (R1 ++ R)).put dst r none)) :
    doP P dst (.callb ids) (f :: ys) (mkS E R) K := by
  refine do_callb hf hbc hl h0 fun r R' hp _ _ => ?_
  obtain ⟨R1, rfl, h1, h2⟩ := hk r R' hp
  refine ⟨fun id hid => ?_, ?_⟩
  · have key : ∀ (R1 : List (Nat × Res)), (R1.all fun q => ids.contains q.1 || (lookR R q.1).isNone) = true → (lookR R1 id).isSome = true → ids.contains id = true ∨ lookR R id = none := by
      intro R1
      induction R1 with
      | nil => intro _ h; cases h
      | cons q R1 ih =>
        obtain ⟨j, r⟩ := q
        intro h1 h2
        simp only [List.all_cons, Bool.and_eq_true] at h1
        simp only [lookR] at h2
        by_cases hj : id = j
        · subst hj
          have := h1.1
          simp only [Bool.or_eq_true] at this
          exact this.imp_right fun h => by simpa using h
        · rw [if_neg hj] at h2; exact ih h1.2 h2
    exact key R1 h1 hid
  · rw [withRes_look]; exact h2

set_option linter.defProp false
def di := And.intro di0 (And.intro di1 (And.intro di2 (And.intro di3 (And.intro di4 (And.intro di5 (And.intro di6 (And.intro di7 (And.intro di8 (And.intro di9 (And.intro @postX_ret (And.intro @postX_normal @ex_some)))))))))))

end Go.DI

