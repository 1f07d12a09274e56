/- Each operation does to the machine what it does to the data; operations change places. No condition. -/
import Derived.Test.YtadmimjaelodkaaWeGb
/- Each operation does to the machine what it does to the data: appends and copies. No condition. -/
namespace Go.DI
open Go.RowKit

section ops
variable {P : Program} {B : Base} {st : St} {a : Act} {w : World} {S : Nat → Nat → Prop} {rho : Nat → Nat} {tau : Nat → Value} {o : Oper}

theorem mem_stripAll {t : Nat} {v : IV} {cs : List DV} {c : DV} (h : c ∈ stripAll t v cs) : ∃ c0 ∈ cs, c = strip t v c0 := by
  obtain ⟨i, hi⟩ := List.getElem?_of_mem h
  rw [stripAll_get] at hi
  cases hc : cs[i]? with
  | none => simp [hc] at hi
  | some z => simp [hc] at hi; exact ⟨z, List.mem_of_getElem? hc, hi.symm⟩

theorem Core.retok (h : Core B st a.tmps w S rho tau) {t sz : Nat} {es es' : List IV} (ht : st.res t = some (.tok sz es)) {w' : World} {S' : Nat → Nat → Prop} {rho' : Nat → Nat} {tau' : Nat → Value}
    (hb : Moved B.O S w S' w') (hx : Ext w S w' S') (hst : ∀ b q, S' b q → b < w'.heap.size)
    (h1 : ∀ i, i ≠ t → rho' i = rho i) (h2 : ∀ i, i ≠ t → tau' i = tau i)
    (hblk : ∀ i r, i ≠ t → st.res i = some r → Owns tau i r → w'.heap[rho i]? = w.heap[rho i]? ∧ ∀ q, S' (rho i) q → S (rho i) q)
    (hr' : RdRes w' S' rho' tau' t (.tok sz es')) (hown : Owns tau' t (.tok sz es') → ¬ B.O (rho' t) ∧ rho' t < w'.heap.size ∧ ∀ i r, i ≠ t → st.res i = some r → Owns tau i r → rho i ≠ rho' t)
    (hts : ∃ p n c, tau' t = .slice p n c) :
    Core B { env := fun i => strip t (.slc sz es) (st.env i), res := fun i => if i = t then some (.tok sz es') else (st.res i).map (stripRes t (.slc sz es)) } a.tmps w' S' rho' tau' := by
  have hold : Rd w' S' (.slc sz es) (tau t) := (h.res t _ ht).1.mono hx
  let st' : St := { env := fun i => strip t (.slc sz es) (st.env i), res := fun i => if i = t then some (.tok sz es') else (st.res i).map (stripRes t (.slc sz es)) }
  have ne : ∀ i r, i ≠ t → st'.res i = some r → ∃ r0, st.res i = some r0 ∧ r = stripRes t (.slc sz es) r0 := by
    intro i r hi hr
    simp only [st', if_neg hi] at hr
    cases hr0 : st.res i with
    | none => simp [hr0] at hr
    | some r0 => simp [hr0] at hr; exact ⟨r0, rfl, hr.symm⟩
  have self : ∀ r, st'.res t = some r → r = .tok sz es' := fun r hr => by simpa [st'] using hr.symm
  have wid : ∀ i, i ≠ t → (st.res i).isSome = true → (st'.res i).isSome = true := by
    intro i hi hs
    simp only [st', if_neg hi]
    simpa using hs
  have ow : ∀ i r0, i ≠ t → Owns tau' i (stripRes t (.slc sz es) r0) → Owns tau i r0 := by
    intro i r0 hi ho
    cases r0 <;> simp only [stripRes, Owns] at ho ⊢
    rw [h2 i hi] at ho; exact ho
  show Core B st' a.tmps w' S' rho' tau'
  refine {
    inv := by
      have e : ghost st'.res = ghost st.res := by
        by_cases h0 : (0 : Nat) = t
        · rw [ghost_none (res := st'.res) (fun r2 hr => by rw [self r2 (by rw [← h0]; exact hr)]; rfl), ghost_none (res := st.res) (fun r2 hr => by rw [h0, ht] at hr; cases hr; rfl)]
        · unfold ghost
          simp only [st', if_neg h0]
          cases st.res 0 with
          | none => rfl
          | some r => cases r <;> rfl
      show B.inv (ghost st'.res) S' w'
      rw [e]; exact B.move h.inv hb
    stab := hst
    pin := fun i b hp => by
      obtain ⟨r, k1, k2, k3⟩ := h.pin i b hp
      have e : i ≠ t := fun e => by rw [e, ht] at k1; cases k1; cases k3
      refine ⟨stripRes t (.slc sz es) r, by simp [st', e, k1], by rw [h1 i e, h2 i e]; exact k2, ?_⟩
      cases r <;> first | rfl | exact k3
    env := fun x => (h.env x).strip h1 h2 hx hold
    envC := fun x i hn => by
      have := names_strip hn
      exact wid i this.2 (h.envC x i this.1)
    res := fun i r hr => ?_
    resC := fun i cells hcs c hc i' hn => ?_
    base := fun i r hr ho => ?_
    dis := fun i j r1 r2 hr1 hr2 o1 o2 hij => ?_
    tauS := fun u => by
      by_cases e : u = t
      · subst e; exact hts
      · rw [h2 u e]; exact h.tauS u }
  · by_cases e : i = t
    · subst e; rw [self r hr]; exact hr'
    · obtain ⟨r0, hr0, rfl⟩ := ne i r e hr
      have hold2 := h.res i r0 hr0
      cases r0 with
      | box cells =>
        obtain ⟨ar, el, g1, g2, g3, g4, g5⟩ := hold2
        obtain ⟨k1, k2⟩ := hblk i _ e hr0 trivial
        refine ⟨ar, el, by rw [h1 i e, k1]; exact g1, by rw [stripAll_length]; exact g2, fun j d v hd hv => ?_, g4, fun q hq => by rw [h1 i e] at hq; exact g5 q (k2 q hq)⟩
        rw [stripAll_get] at hd
        cases hc : cells[j]? with
        | none => simp [hc] at hd
        | some z => simp [hc] at hd; subst hd; exact (g3 j z v hc hv).strip h1 h2 hx hold
      | arr xs =>
        obtain ⟨ar, el, g1, g2, g3, g4, g5⟩ := hold2
        obtain ⟨k1, k2⟩ := hblk i _ e hr0 trivial
        exact ⟨ar, el, by rw [h1 i e, k1]; exact g1, g2, fun j d v hd hv => ⟨(g3 j d v hd hv).1, (g3 j d v hd hv).2.1, (g3 j d v hd hv).2.2.mono hx⟩, g4, fun q hq => by rw [h1 i e] at hq; exact g5 q (k2 q hq)⟩
      | fza xs =>
        intro j d hd
        obtain ⟨g1, g2, v, g3, g4, g5⟩ := hold2 j d hd
        rw [h1 i e]
        exact ⟨g1, hx.sub _ _ g2, v, (hx.cell _ _ g2).trans g3, g4, g5.mono hx⟩
      | tok sz2 xs =>
        obtain ⟨g1, g2⟩ := hold2
        refine ⟨by rw [h2 i e]; exact g1.mono hx, ?_⟩
        rcases g2 with ⟨p, g2⟩ | ⟨ar, el, cap, k1, k2, k3, k4, k5⟩
        · exact .inl ⟨p, by rw [h2 i e]; exact g2⟩
        · obtain ⟨m1, m2⟩ := hblk i _ e hr0 ⟨_, _, _, k2, k4⟩
          exact .inr ⟨ar, el, cap, by rw [h1 i e, m1]; exact k1, by rw [h1 i e, h2 i e]; exact k2, k3, k4, fun q hq hs => by rw [h1 i e] at hs; exact k5 q hq (m2 q hs)⟩
      | seq l t => trivial
  · by_cases e : i = t
    · subst e; have := self _ hcs; cases this
    · obtain ⟨r0, hr0, he⟩ := ne i _ e hcs
      cases r0 <;> simp only [stripRes] at he <;> try cases he
      obtain ⟨c0, hc0, rfl⟩ := mem_stripAll hc
      have := names_strip hn
      exact wid i' this.2 (h.resC i _ hr0 c0 hc0 i' this.1)
  · by_cases e : i = t
    · subst e; have := self _ hr; subst this
      exact ⟨(hown ho).1, (hown ho).2.1⟩
    · obtain ⟨r0, hr0, rfl⟩ := ne i r e hr
      have := h.base i r0 hr0 (ow i r0 e ho)
      rw [h1 i e]; exact ⟨this.1, Nat.lt_of_lt_of_le this.2 hb.size⟩
  · by_cases e : i = t
    · subst e; have := self _ hr1; subst this
      have hj : j ≠ i := fun q => hij q.symm
      obtain ⟨r0, hr0, rfl⟩ := ne j r2 hj hr2
      rw [h1 j hj]
      exact fun q => (hown o1).2.2 j r0 hj hr0 (ow j r0 hj o2) q.symm
    · obtain ⟨r0, hr0, rfl⟩ := ne i r1 e hr1
      by_cases e2 : j = t
      · subst e2; have := self _ hr2; subst this
        rw [h1 i e]
        exact (hown o2).2.2 i r0 e hr0 (ow i r0 e o1)
      · obtain ⟨r3, hr3, rfl⟩ := ne j r2 e2 hr2
        rw [h1 i e, h1 j e2]
        exact h.dis i j r0 r3 hr0 hr3 (ow i r0 e o1) (ow j r3 e2 o2) hij

theorem rd_joined {w' : World} {S' : Nat → Nat → Prop} {sz : Nat} {es ys : List IV} {os us : List Value} (hos : os.length = es.length * sz) (hus : us.length = ys.length * sz)
    (ho : ∀ (i : Nat) (e : IV) (j : Nat) (x : IV), es[i]? = some e → e.cells[j]? = some x → ∃ u, os[i * sz + j]? = some u ∧ Rd w' S' x u) (hu : ∀ (i : Nat) (e : IV) (j : Nat) (x : IV), ys[i]? = some e → e.cells[j]? = some x → ∃ u, us[i * sz + j]? = some u ∧ Rd w' S' x u)
    (ho1 : ∀ u ∈ os, u.oneCell' = true) (hu1 : ∀ u ∈ us, u.oneCell' = true) (hoz : ∀ (i : Nat) (e : IV), es[i]? = some e → e.cells.length = sz) (huz : ∀ (i : Nat) (e : IV), ys[i]? = some e → e.cells.length = sz)
    {g cap : Nat} (hcap : es.length + ys.length ≤ cap) (hcell : ∀ i, i < (es.length + ys.length) * sz → S' g i ∧ w'.cell? ⟨g, i, none⟩ = (os ++ us)[i]?) :
    Rd w' S' (.slc sz (es ++ ys)) (.slice (some ⟨g, 0, none⟩) (es.length + ys.length) cap) := by
  have hlen : (os ++ us).length = (es.length + ys.length) * sz := by simp [hos, hus, Nat.add_mul]
  have hel : ∀ (i : Nat) (e : IV), (es ++ ys)[i]? = some e → e.cells.length = sz := by
    intro i e he
    rw [List.getElem?_append] at he
    split at he
    · exact hoz i e he
    · exact huz _ e he
  have hget : ∀ (i : Nat) (e : IV) (j : Nat) (x : IV), (es ++ ys)[i]? = some e → e.cells[j]? = some x → ∃ u, (os ++ us)[i * sz + j]? = some u ∧ Rd w' S' x u ∧ u.oneCell' = true := by
    intro i e j x he hj
    have hj' : j < sz := by have := (List.getElem?_eq_some_iff.1 hj).1; rw [hel i e he] at this; exact this
    rw [List.getElem?_append] at he
    split at he
    · rename_i hi
      obtain ⟨u, h1, h2⟩ := ho i e j x he hj
      have hlt := (List.getElem?_eq_some_iff.1 h1).1
      exact ⟨u, by rw [List.getElem?_append_left hlt]; exact h1, h2, ho1 u (List.mem_of_getElem? h1)⟩
    · rename_i hi
      obtain ⟨u, h1, h2⟩ := hu _ e j x he hj
      have hge : os.length ≤ i * sz + j := by
        rw [hos]
        have : es.length * sz ≤ i * sz := Nat.mul_le_mul_right _ (by omega)
        omega
      refine ⟨u, ?_, h2, hu1 u (List.mem_of_getElem? h1)⟩
      rw [List.getElem?_append_right hge, hos, ← h1]
      congr 1
      have e1 : (i - es.length) * sz = i * sz - es.length * sz := Nat.sub_mul i es.length sz
      have : es.length * sz ≤ i * sz := Nat.mul_le_mul_right _ (by omega)
      omega
  have := Rd.slc (w := w') (S := S') sz (es ++ ys) g 0 cap (fun i => ((os ++ us)[i]?).getD undef) (by simpa using hcap)
    (fun i hi => by
      rw [List.length_append] at hi
      obtain ⟨h1, h2⟩ := hcell i hi
      rw [Nat.zero_add]
      refine ⟨h1, ?_⟩
      rw [h2]
      have : i < (os ++ us).length := by omega
      simp [List.getElem?_eq_getElem this])
    hel
    (fun i e j x he hj => by obtain ⟨u, h1, h2, _⟩ := hget i e j x he hj; rw [h1]; exact h2)
    (fun i e j x he hj => by obtain ⟨u, h1, _, h3⟩ := hget i e j x he hj; rw [h1]; exact h3)
  rwa [List.length_append] at this

end ops
end Go.DI

/- Each operation does to the machine what it does to the data: appends. No condition. -/
namespace Go.DI
open Go.RowKit

theorem Rd.drew {w S d v} (h : Rd w S d v) : Rd w.drew S d v := Rd.mono (w := w) (S := S) (w' := w.drew) (S' := S) ⟨fun _ _ k => k, fun _ _ _ => rfl⟩ h

section ops
variable {P : Program} {B : Base} {st : St} {a : Act} {w : World} {S : Nat → Nat → Prop} {rho : Nat → Nat} {tau : Nat → Value} {o : Oper}

theorem exec_append {x1 x2 : Operand} {t t' : TypeId} (ho : o.op = .call { callee := .builtin .append, args := #[x1, x2], argTypes := #[t, t'] }) {v : Value} {w' : World}
    (h : (Builtin.append_ #[t, t'] o.type #[a.eval x1, a.eval x2]).run P w = .ok v w') : (execOp a.eval o).run P w = .ok (.value v) w' := by
  unfold execOp; rw [ho]
  simp [resolve, invoke, builtin, h]

theorem grown_new (h : Core B st a.tmps w S rho tau) {sz : Nat} {es ys : List IV} {os us rest : List Value} {e : TypeId} {newCap : Nat} {p q : Option Addr} {c1 c2 : Nat}
    (hx : Rd w S (.slc sz es) (.slice p es.length c1)) (hy : Rd w S (.slc sz ys) (.slice q ys.length c2)) (hcap : es.length + ys.length ≤ newCap)
    (hf : (Builtin.firstCells sz es.length (.slice p es.length c1)).run P w.drew = .ok os.toArray w.drew) (hg : (Builtin.firstCells sz ys.length (.slice q ys.length c2)).run P w.drew = .ok us.toArray w.drew)
    {S' : Nat → Nat → Prop} (hS : ∀ b q, S b q → S' b q) (hS' : ∀ i, i < (es.length + ys.length) * sz → S' w.heap.size i) :
    Rd (w.drew.alloc (.cells (os ++ us ++ rest).toArray e)) S' (.slc sz (es ++ ys)) (.slice (some ⟨w.heap.size, 0, none⟩) (es.length + ys.length) newCap) ∧ (os ++ us).length = (es.length + ys.length) * sz := by
  obtain ⟨_, os', a1, a2, a3, a4, a5⟩ := hx.drew.slc_cells (P := P)
  obtain ⟨_, us', b1, b2, b3, b4, b5⟩ := hy.drew.slc_cells (P := P)
  have e1 : os' = os := by
    rw [hf] at a2
    have := a2
    simp at this
    exact this.symm
  have e2 : us' = us := by
    rw [hg] at b2
    have := b2
    simp at this
    exact this.symm
  subst e1; subst e2
  have hext : Ext w.drew S (w.drew.alloc (.cells (os' ++ us' ++ rest).toArray e)) S' := ⟨hS, fun b k hs => by
    have := h.stab b k hs
    exact World.cell?_alloc_lt _ _ _ (by simpa using this)⟩
  refine ⟨?_, by simp [a1, b1, Nat.add_mul]⟩
  refine rd_joined a1 b1 (fun i e j x he hj => by obtain ⟨u, k1, k2⟩ := a3 i e j x he hj; exact ⟨u, k1, k2.mono hext⟩) (fun i e j x he hj => by obtain ⟨u, k1, k2⟩ := b3 i e j x he hj; exact ⟨u, k1, k2.mono hext⟩) a4 b4 a5 b5 hcap (fun i hi => ⟨hS' i hi, ?_⟩)
  have hn : w.heap.size = w.drew.heap.size := rfl
  rw [hn, World.cell?_alloc_new]
  have hlt : i < (os' ++ us').length := by simp [a1, b1, ← Nat.add_mul]; exact hi
  simp only [List.getElem?_toArray]
  rw [List.getElem?_append_left hlt]

theorem s_append (h : Core B st a.tmps w S rho tau) {x1 x2 : Operand} {y1 y2 : Opd} {t t' : TypeId} {sz bytes : Nat} {weak : Bool} {K : St → Prop}
    (ho : o.op = .call { callee := .builtin .append, args := #[x1, x2], argTypes := #[t, t'] }) (ht : appendIs P t t' sz bytes = true) (hd : ∀ d, o.dst = some d → d < a.tmps.size) (h1 : opdOk x1 y1 = true) (h2 : opdOk x2 y2 = true)
    (hs : semW P o.dst (.append sz bytes weak) [y1, y2] st K) : Wr P B o a w K := by
  obtain ⟨e, e', i, z, hu, hu', hi, hisz, hiby, hz, hzs⟩ := appendIs_of ht
  have r1 := h.ev (defers := a.defers) h1
  have r2 := h.vw (defers := a.defers) h2
  simp only [semW] at hs
  split at hs
  ·
    rename_i tk zq ys e1 e2
    rw [e1] at r1; rw [e2] at r2
    have hv1 : a.eval x1 = tau tk := by
      have : Rl w S rho tau (.own tk) (a.eval x1) := r1
      generalize a.eval x1 = v at this
      cases this; rfl
    split at hs
    · rename_i z' es hres
      obtain ⟨rfl, rfl, hb, hm, hk⟩ := hs
      obtain ⟨hrd, htok⟩ := h.res tk _ hres
      obtain ⟨p, cap, htau, hcap, hform⟩ := hrd.slc_form
      obtain ⟨q, c2, hv2, hcap2, hform2⟩ := r2.imm_inv.slc_form
      have hv2' : a.eval x2 = .slice q ys.length c2 := hv2
      have hry : Rd w S (.slc z' ys) (.slice q ys.length c2) := by rw [← hv2]; exact r2.imm_inv
      have hrx : Rd w S (.slc z' es) (.slice p es.length cap) := by rw [← htau]; exact hrd
      obtain ⟨_, us, b1, b2, b3, b4, b5⟩ := hry.slc_cells (P := P)
      refine ⟨_, hk, fun next Q hn => ?_⟩
      by_cases hroom : es.length + ys.length ≤ cap
      · by_cases hm0 : ys.length = 0
        ·
          have hy0 : ys = [] := List.eq_nil_of_length_eq_zero hm0
          subst hy0
          have hus0 : us = [] := List.eq_nil_of_length_eq_zero (by simpa using b1)
          subst hus0
          have hrun := run_append_in (P := P) (w := w) (ty := o.type) hu hu' hi hisz hroom b2 (a := p) (w' := w) (by cases p <;> simp [storeCells])
          unfold Oper.wp
          rw [exec_append ho (by rw [hv1, htau, hv2']; exact hrun)]
          have hC := h.retok hres (es' := es ++ []) (w' := w) (S' := S) (rho' := rho) (tau' := tau) ⟨rfl, rfl, rfl, Nat.le_refl _, fun _ _ => rfl, Ext.refl _ _, fun _ _ k => .inl k, fun q => q⟩ (Ext.refl _ _) h.stab (fun _ _ => rfl) (fun _ _ => rfl) (fun _ _ _ _ _ => ⟨rfl, fun _ k => k⟩)
            (by rw [List.append_nil]; exact h.res tk _ hres) (fun how => by
              have hb' := h.base tk _ hres how
              exact ⟨hb'.1, hb'.2, fun j r hj hr hor => h.dis j tk r _ hr hres hor how hj⟩) (h.tauS tk)
          have hput := Core.put hC (dst := o.dst) hd (dv := .own tk) (v := tau tk) (.own tk) (fun id hid => by
            have : tk = id := by simpa [DV.names] using hid
            subst this; simp)
          have e3 : (Value.slice p (es.length + ([] : List IV).length) cap) = tau tk := by rw [htau]; rfl
          rw [e3]
          rw [← put_tmps] at hput
          exact hn _ _ _ _ _ hput
        ·
          have hlt : es.length < cap := by omega
          rcases htok with ⟨p', hp'⟩ | ⟨arr, el, cap', g1, g2, g3, g4, g5⟩
          · rw [htau] at hp'; simp at hp'; omega
          · have hpc : p = some ⟨rho tk, 0, none⟩ ∧ cap = cap' := by rw [htau] at g2; simp at g2; exact g2
            obtain ⟨rfl, rfl⟩ := hpc
            have hle : es.length * z' + us.length ≤ arr.size := by
              rw [b1, ← Nat.add_mul]
              exact Nat.le_trans (Nat.mul_le_mul_right _ hroom) g3
            let arr' : Array Value := (arr.toList.take (es.length * z') ++ (us ++ arr.toList.drop (es.length * z' + us.length))).toArray
            have hst : (storeCells ((⟨rho tk, 0, none⟩ : Addr).add (es.length * z')) us).run P w = .ok () (w.setRow (rho tk) arr') := by
              rw [add_addr, Nat.zero_add]
              have := run_storeCells_at (P := P) (rho tk) (es.length * z') el us 0 arr w g1 (by omega) b4
              rwa [Nat.add_zero] at this
            have hrun := run_append_in (P := P) (w := w) (ty := o.type) hu hu' hi hisz hroom b2 (a := some ⟨rho tk, 0, none⟩) (w' := w.setRow (rho tk) arr') hst
            unfold Oper.wp
            rw [exec_append ho (by rw [hv1, htau, hv2']; exact hrun)]
            have how : Owns tau tk (.tok z' es) := ⟨_, _, _, htau, hlt⟩
            have hb' := h.base tk _ hres how
            let S' : Nat → Nat → Prop := fun b k => S b k ∨ (b = rho tk ∧ k < (es.length + ys.length) * z')
            have hmid := set_mid_get arr.toList us (es.length * z') (by rw [Array.length_toList]; exact hle)
            have hcellr : ∀ k, (w.setRow (rho tk) arr').cell? ⟨rho tk, k, none⟩ = if k < es.length * z' then arr[k]? else if k < es.length * z' + us.length then us[k - es.length * z']? else arr[k]? := by
              intro k
              rw [cell_setRow_same w (rho tk) k arr arr' el (0, 0) g1]
              simp only [arr', List.getElem?_toArray]
              rw [hmid k]
              simp only [Array.getElem?_toList]
            have hold : ∀ k, w.cell? ⟨rho tk, k, none⟩ = arr[k]? := fun k => cell_of_row w (rho tk) k arr el (0, 0) g1
            have hx : Ext w S (w.setRow (rho tk) arr') S' := ⟨fun _ _ k => .inl k, fun b k hs => by
              by_cases hbk : b = rho tk
              · subst hbk
                have hk : k < es.length * z' := Nat.lt_of_not_le fun hge => g5 k hge hs
                rw [hcellr, if_pos hk, hold]
              · exact cell_setRow_other w (rho tk) arr' ⟨b, k, none⟩ hbk⟩
            obtain ⟨_, os, a1, a2, a3, a4, a5⟩ := hrx.slc_cells (P := P)
            have hosc : ∀ k, k < es.length * z' → arr[k]? = os[k]? := by
              intro k hk
              have hf := a2
              simp only [Builtin.firstCells] at hf
              have hc := run_loadCells (P := P) w ⟨rho tk, 0, none⟩ (es.length * z') (fun j => (arr[j]?).getD undef) (fun j hj => by
                rw [add_addr, Nat.zero_add, hold]
                have : j < arr.size := by omega
                simp [this])
              rw [hc] at hf
              simp at hf
              rw [← hf]
              have : k < arr.size := by omega
              simp [hk, this]
            have hnew : Rd (w.setRow (rho tk) arr') S' (.slc z' (es ++ ys)) (.slice (some ⟨rho tk, 0, none⟩) (es.length + ys.length) cap) := by
              refine rd_joined a1 b1 (fun i e j x he hj => by obtain ⟨u, k1, k2⟩ := a3 i e j x he hj; exact ⟨u, k1, k2.mono hx⟩) (fun i e j x he hj => by obtain ⟨u, k1, k2⟩ := b3 i e j x he hj; exact ⟨u, k1, k2.mono hx⟩) a4 b4 a5 b5 hroom (fun k hk => ⟨.inr ⟨rfl, hk⟩, ?_⟩)
              rw [hcellr]
              by_cases hk1 : k < es.length * z'
              · rw [if_pos hk1, hosc k hk1, List.getElem?_append_left (by omega)]
              · rw [Nat.add_mul] at hk
                rw [if_neg hk1, if_pos (by omega), List.getElem?_append_right (by omega), a1]
            have hC := h.retok hres (es' := es ++ ys) (w' := w.setRow (rho tk) arr') (S' := S') (rho' := rho) (tau' := upd tau tk (.slice (some ⟨rho tk, 0, none⟩) (es.length + ys.length) cap))
              (moved_setRow hb'.1 hx (fun b k hk => by
                rcases hk with hk | ⟨rfl, _⟩
                · exact .inl hk
                · exact .inr hb'.1) (fun q b k hk => by
                rcases hk with hk | ⟨rfl, _⟩
                · have := q b k hk; simpa [World.setRow] using this
                · simpa [World.setRow] using hb'.2)) hx (fun b k hk => by
                rcases hk with hk | ⟨rfl, _⟩
                · have := h.stab b k hk; simpa [World.setRow] using this
                · simpa [World.setRow] using hb'.2) (fun _ _ => rfl) (fun j hj => by simp [upd, hj])
              (fun j r hj hr hor => by
                have hne : rho j ≠ rho tk := h.dis j tk r _ hr hres hor how hj
                refine ⟨setRow_other w (rho tk) (rho j) arr' hne, fun k hk => ?_⟩
                rcases hk with hk | ⟨hk, _⟩
                · exact hk
                · exact absurd hk hne)
              (by
                refine ⟨by simp only [upd, if_true]; exact hnew, ?_⟩
                by_cases hfull : es.length + ys.length = cap
                · exact .inl ⟨some ⟨rho tk, 0, none⟩, by simp only [upd, if_true, List.length_append, hfull]⟩
                · refine .inr ⟨arr', el, cap, setRow_heap w _ arr _ el _ g1, by simp only [upd, if_true, List.length_append], ?_, by rw [List.length_append]; omega, ?_⟩
                  · have : arr'.size = arr.size := by simp [arr']; omega
                    rw [this]; exact g3
                  · intro k hk hs
                    rw [List.length_append] at hk
                    rcases hs with hs | ⟨_, hs⟩
                    · refine g5 k ?_ hs
                      have : es.length * z' ≤ (es.length + ys.length) * z' := Nat.mul_le_mul_right _ (by omega)
                      omega
                    · omega)
              (fun _ => ⟨hb'.1, by simpa [World.setRow] using hb'.2, fun j r hj hr hor => h.dis j tk r _ hr hres hor how hj⟩) ⟨some ⟨rho tk, 0, none⟩, es.length + ys.length, cap, by simp [upd]⟩
            have hput := Core.put hC (dst := o.dst) hd (dv := .own tk) (v := .slice (some ⟨rho tk, 0, none⟩) (es.length + ys.length) cap) (by have := Rl.own (w := w.setRow (rho tk) arr') (S := S') (rho := rho) (tau := upd tau tk (.slice (some ⟨rho tk, 0, none⟩) (es.length + ys.length) cap)) tk; simpa [upd] using this) (fun id hid => by
              have : tk = id := by simpa [DV.names] using hid
              subst this; simp)
            rw [← put_tmps] at hput
            exact hn _ _ _ _ _ hput
      ·
        obtain ⟨_, us', f1, f2, _⟩ := hry.drew.slc_cells (P := P)
        obtain ⟨_, os', f3, f4, _⟩ := hrx.drew.slc_cells (P := P)
        obtain ⟨newCap, rest, hnc, hrl, hrun⟩ := run_append_new (P := P) (w := w) (ty := o.type) hu hu' hi hisz hz hzs (by omega) (by rw [hiby]; exact hb) hm f2 f4
        unfold Oper.wp
        rw [exec_append ho (by rw [hv1, htau, hv2']; exact hrun)]
        let S' : Nat → Nat → Prop := fun b k => S b k ∨ (b = w.heap.size ∧ k < (es.length + ys.length) * z')
        obtain ⟨hnew, hlen⟩ := grown_new (P := P) h (rest := rest) (e := e) (newCap := newCap) hrx hry hnc f4 f2 (S' := S') (fun _ _ k => .inl k) (fun k hk => .inr ⟨rfl, hk⟩)
        let w' := w.drew.alloc (.cells (os' ++ us' ++ rest).toArray e)
        have hbw : Below w.heap.size w w' := ((Below.refl _ w).drew).alloc (Nat.le_refl _) _
        have hx : Ext w S w' S' := ext_of_below h.stab (fun _ _ k => .inl k) hbw
        have hsz' : w'.heap.size = w.heap.size + 1 := by simp [w']
        have hC := h.retok hres (es' := es ++ ys) (w' := w') (S' := S') (rho' := upd rho tk w.heap.size) (tau' := upd tau tk (.slice (some ⟨w.heap.size, 0, none⟩) (es.length + ys.length) newCap))
          ⟨hbw.os, hbw.tape, hbw.output, hbw.size, fun k hk => hbw.block k (B.lt h.inv k hk), hx, fun b k hk => by
            rcases hk with hk | ⟨rfl, _⟩
            · exact .inl hk
            · exact .inr (h.fresh (Nat.le_refl _)), fun q b k hk => by
            rcases hk with hk | ⟨rfl, _⟩
            · have := q b k hk; omega
            · omega⟩ hx (fun b k hk => by
            rcases hk with hk | ⟨rfl, _⟩
            · have := h.stab b k hk; omega
            · omega) (fun j hj => by simp [upd, hj]) (fun j hj => by simp [upd, hj])
          (fun j r hj hr hor => by
            have hlt := (h.base j r hr hor).2
            refine ⟨hbw.block _ hlt, fun k hk => ?_⟩
            rcases hk with hk | ⟨hk, _⟩
            · exact hk
            · omega)
          (by
            refine ⟨by simp only [upd, if_true]; exact hnew, ?_⟩
            by_cases hfull : es.length + ys.length = newCap
            · exact .inl ⟨some ⟨w.heap.size, 0, none⟩, by simp only [upd, if_true, List.length_append, hfull]⟩
            · refine .inr ⟨(os' ++ us' ++ rest).toArray, e, newCap, ?_, by simp only [upd, if_true, List.length_append], ?_, by rw [List.length_append]; omega, ?_⟩
              · simp only [upd, if_true]; exact heap_new w.drew _
              · simp only [List.size_toArray, List.length_append] at hlen ⊢
                rw [hlen, hrl, ← Nat.add_mul]
                exact Nat.mul_le_mul_right _ (by omega)
              · intro k hk hs
                simp only [upd, if_true] at hs
                rw [List.length_append] at hk
                rcases hs with hs | ⟨_, hs⟩
                · have := h.stab _ _ hs; omega
                · omega)
          (fun _ => ⟨by simp only [upd, if_true]; exact h.fresh (Nat.le_refl _), by simp only [upd, if_true]; omega, fun j r hj hr hor => by
            have hlt := (h.base j r hr hor).2
            simp only [upd, if_true]; omega⟩) ⟨some ⟨w.heap.size, 0, none⟩, es.length + ys.length, newCap, by simp [upd]⟩
        have hput := Core.put hC (dst := o.dst) hd (dv := .own tk) (v := .slice (some ⟨w.heap.size, 0, none⟩) (es.length + ys.length) newCap) (by have := Rl.own (w := w') (S := S') (rho := upd rho tk w.heap.size) (tau := upd tau tk (.slice (some ⟨w.heap.size, 0, none⟩) (es.length + ys.length) newCap)) tk; simpa [upd] using this) (fun id hid => by
          have : tk = id := by simpa [DV.names] using hid
          subst this; simp)
        rw [← put_tmps] at hput
        exact hn _ _ _ _ _ hput
    · exact hs.elim
  ·
    rename_i z' es zq ys e1 e2
    rw [e1] at r1; rw [e2] at r2
    obtain ⟨rfl, rfl, hb, hm, hs⟩ := hs
    have r1' : Rl w S rho tau (.cap0 z' es) (a.eval x1) := r1
    obtain ⟨q, c2, hv2, hcap2, hform2⟩ := r2.imm_inv.slc_form
    have hv2' : a.eval x2 = .slice q ys.length c2 := hv2
    have hry : Rd w S (.slc z' ys) (.slice q ys.length c2) := by rw [← hv2]; exact r2.imm_inv
    obtain ⟨_, us, b1, b2, b3, b4, b5⟩ := hry.slc_cells (P := P)
    generalize hv1 : a.eval x1 = v1 at r1'
    cases r1' with
    | cap0 _ _ _ p hrx hpv =>
      subst hpv
      split at hs
      · rename_i d hdst
        by_cases hm0 : ys.length = 0
        · have hy0 : ys = [] := List.eq_nil_of_length_eq_zero hm0
          subst hy0
          have hus0 : us = [] := List.eq_nil_of_length_eq_zero (by simpa using b1)
          subst hus0
          have hrun := run_append_in (P := P) (w := w) (ty := o.type) hu hu' hi hisz (a := p) (len := es.length) (cap := es.length) (Nat.le_refl _) b2 (w' := w) (by cases p <;> simp [storeCells])
          have hex := exec_append (P := P) ho (by rw [hv1, hv2']; exact hrun)
          split at hs
          · refine ⟨_, hs, fun next Q hn => ?_⟩
            unfold Oper.wp
            rw [hex]
            refine hn _ w S rho tau ?_
            rw [put_tmps, hdst]
            refine h.put (dst := some d) (fun d' hd' => hd d' (by rw [hdst]; exact hd')) (.imm _ _ ?_) (by simp [DV.names])
            rw [List.append_nil]; exact hrx
          · obtain ⟨hfr, hk⟩ := hs
            refine ⟨_, hk, fun next Q hn => ?_⟩
            unfold Oper.wp
            rw [hex]
            have hC := h.add hfr 0 (.slice p es.length es.length) (.tok z' (es ++ [])) ⟨_, _, _, rfl⟩ ⟨by simp only [upd, if_true, List.append_nil]; exact hrx, .inl ⟨p, by simp [upd]⟩⟩ (by simp) (by
              rintro ⟨p', n, c, he, hlt⟩
              simp [upd] at he
              omega)
            have hput := Core.put hC (dst := some d) (fun d' hd' => hd d' (by rw [hdst]; exact hd')) (dv := .own d) (v := .slice p es.length es.length) (by have := Rl.own (w := w) (S := S) (rho := upd rho d 0) (tau := upd tau d (.slice p es.length es.length)) d; simpa [upd] using this) (fun id hid => by
              have : d = id := by simpa [DV.names] using hid
              subst this; simp [upd])
            have e9 : ∀ v, putT a.tmps (some d) v = (a.put o.dst v).tmps := fun v => by rw [put_tmps, hdst]
            rw [e9] at hput
            exact hn _ _ _ _ _ hput
        · obtain ⟨_, us', f1, f2, _⟩ := hry.drew.slc_cells (P := P)
          obtain ⟨_, os', f3, f4, _⟩ := hrx.drew.slc_cells (P := P)
          obtain ⟨newCap, rest, hnc, hrl, hrun⟩ := run_append_new (P := P) (w := w) (ty := o.type) hu hu' hi hisz hz hzs (cap := es.length) (by omega) (by rw [hiby]; exact hb) hm f2 f4
          have hex := exec_append (P := P) ho (by rw [hv1, hv2']; exact hrun)
          let S' : Nat → Nat → Prop := fun b k => S b k ∨ (b = w.heap.size ∧ k < (es.length + ys.length) * z')
          obtain ⟨hnew, hlen⟩ := grown_new (P := P) h (rest := rest) (e := e) (newCap := newCap) hrx hry hnc f4 f2 (S' := S') (fun _ _ k => .inl k) (fun k hk => .inr ⟨rfl, hk⟩)
          let w' := w.drew.alloc (.cells (os' ++ us' ++ rest).toArray e)
          have hbw : Below w.heap.size w w' := ((Below.refl _ w).drew).alloc (Nat.le_refl _) _
          have hsz' : w'.heap.size = w.heap.size + 1 := by simp [w']
          have hstep : Core B st a.tmps w' S' rho tau := h.step hbw (fun _ _ k => .inl k) (fun b k hk => by
            rcases hk with hk | ⟨rfl, _⟩
            · exact .inl hk
            · exact .inr (Nat.le_refl _)) (fun b k hk => by
            rcases hk with hk | ⟨rfl, _⟩
            · have := h.stab b k hk; omega
            · omega)
          split at hs
          · refine ⟨_, hs, fun next Q hn => ?_⟩
            unfold Oper.wp
            rw [hex]
            refine hn _ w' S' rho tau ?_
            rw [put_tmps, hdst]
            refine hstep.put (dst := some d) (fun d' hd' => hd d' (by rw [hdst]; exact hd')) (.imm _ _ ?_) (by simp [DV.names])
            have := hnew
            rw [← List.length_append] at this
            rwa [List.length_append] at this
          · obtain ⟨hfr, hk⟩ := hs
            refine ⟨_, hk, fun next Q hn => ?_⟩
            unfold Oper.wp
            rw [hex]
            have hC := hstep.add hfr w.heap.size (.slice (some ⟨w.heap.size, 0, none⟩) (es.length + ys.length) newCap) (.tok z' (es ++ ys)) ⟨_, _, _, rfl⟩ (by
              refine ⟨by simp only [upd, if_true]; exact hnew, ?_⟩
              by_cases hfull : es.length + ys.length = newCap
              · exact .inl ⟨some ⟨w.heap.size, 0, none⟩, by simp only [upd, if_true, List.length_append, hfull]⟩
              · refine .inr ⟨(os' ++ us' ++ rest).toArray, e, newCap, ?_, by simp only [upd, if_true, List.length_append], ?_, by rw [List.length_append]; omega, ?_⟩
                · simp only [upd, if_true]; exact heap_new w.drew _
                · simp only [List.size_toArray, List.length_append] at hlen ⊢
                  rw [hlen, hrl, ← Nat.add_mul]
                  exact Nat.mul_le_mul_right _ (by omega)
                · intro k hk hs
                  simp only [upd, if_true] at hs
                  rw [List.length_append] at hk
                  rcases hs with hs | ⟨_, hs⟩
                  · have := h.stab _ _ hs; omega
                  · omega) (by simp) (fun _ => ⟨h.fresh (Nat.le_refl _), by omega, fun j r hr hor => by
                  have hlt := (h.base j r hr hor).2
                  omega⟩)
            have hput := Core.put hC (dst := some d) (fun d' hd' => hd d' (by rw [hdst]; exact hd')) (dv := .own d) (v := .slice (some ⟨w.heap.size, 0, none⟩) (es.length + ys.length) newCap) (by have := Rl.own (w := w') (S := S') (rho := upd rho d w.heap.size) (tau := upd tau d (.slice (some ⟨w.heap.size, 0, none⟩) (es.length + ys.length) newCap)) d; simpa [upd] using this) (fun id hid => by
              have : d = id := by simpa [DV.names] using hid
              subst this; simp [upd])
            have e9 : ∀ v, putT a.tmps (some d) v = (a.put o.dst v).tmps := fun v => by rw [put_tmps, hdst]
            rw [e9] at hput
            exact hn _ _ _ _ _ hput
      · exact hs.elim
  ·
    rename_i z' zq e1 e2
    rw [e1] at r1; rw [e2] at r2
    obtain ⟨rfl, rfl, hk⟩ := hs
    obtain ⟨p, c1, hv1, hcap1, hform1⟩ := r1.imm_inv.slc_form
    obtain ⟨q, c2, hv2, hcap2, hform2⟩ := r2.imm_inv.slc_form
    have hv1' : a.eval x1 = .slice p 0 c1 := hv1
    have hv2' : a.eval x2 = .slice q 0 c2 := hv2
    have hry : Rd w S (.slc z' []) (.slice q 0 c2) := by have := r2.imm_inv; rw [hv2] at this; exact this
    obtain ⟨_, us, b1, b2, b3, b4, b5⟩ := hry.slc_cells (P := P)
    have hus0 : us = [] := List.eq_nil_of_length_eq_zero (by simpa using b1)
    subst hus0
    have hrun := run_append_in (P := P) (w := w) (ty := o.type) hu hu' hi hisz (a := p) (len := 0) (cap := c1) (Nat.zero_le _) b2 (w' := w) (by cases p <;> simp [storeCells])
    refine ⟨_, hk, fun next Q hn => ?_⟩
    unfold Oper.wp
    rw [exec_append ho (by rw [hv1', hv2']; exact hrun)]
    refine hn _ w S rho tau ?_
    rw [put_tmps]
    refine h.put hd (.imm _ _ ?_) (by simp [DV.names])
    have := r1.imm_inv
    rw [hv1] at this
    exact this
  · exact hs.elim

end ops
end Go.DI

/- Each operation does to the machine what it does to the data: bits, floating point, complex numbers. No condition. -/
namespace Go.DI
open Go.RowKit

theorem Rd.flt_inv {w S k n v} (h : Rd w S (.flt k n) v) : v = .float k n := by cases h; rfl
theorem Rd.cpx_inv {w S k m n v} (h : Rd w S (.cpx k m n) v) : v = .complex k m n := by cases h; rfl

def pxIs (P : Program) (p : PX) (op : Op) (xs : List Opd) : Bool :=
  match p with
  | .bit b => match op, xs with
    | .binOp b' _ x y _, [p, q] => decide (b' = b) && opdOk x p && opdOk y q
    | _, _ => false
  | .sh b => match op, xs with
    | .binOp b' _ x y _, [p, q] => decide (b' = b) && opdOk x p && opdOk y q
    | _, _ => false
  | .flt b => match op, xs with
    | .binOp b' _ x y _, [p, q] => decide (b' = b) && opdOk x p && opdOk y q
    | _, _ => false
  | .cpx b => match op, xs with
    | .binOp b' _ x y _, [p, q] => decide (b' = b) && opdOk x p && opdOk y q
    | _, _ => false
  | .neg => match op, xs with
    | .unOp .neg _ x, [y] => opdOk x y
    | _, _ => false
  | .inv => match op, xs with
    | .unOp .xor _ x, [y] => opdOk x y
    | _, _ => false
  | .i2f k => match op, xs with
    | .convert s t x, [y] => (P.underlying s).isSome && (match P.underlying t with | some (.float k') => decide (k' = k) | _ => false) && opdOk x y
    | _, _ => false
  | .f2i k => match op, xs with
    | .convert s t x, [y] => (P.underlying s).isSome && (match P.underlying t with | some (.int k') => decide (k' = k) | _ => false) && opdOk x y
    | _, _ => false
  | .cplx => match op, xs with
    | .call ⟨.builtin .complex, ⟨[x, y]⟩, _⟩, [p, q] => opdOk x p && opdOk y q
    | _, _ => false
  | .re => match op, xs with
    | .call ⟨.builtin .real, ⟨[x]⟩, _⟩, [y] => opdOk x y
    | _, _ => false
  | .im => match op, xs with
    | .call ⟨.builtin .imag, ⟨[x]⟩, _⟩, [y] => opdOk x y
    | _, _ => false

def PX.of2 (b : BinOp) : PX → Bool
  | .bit c | .sh c | .flt c | .cpx c => decide (b = c)
  | _ => false

section ops
variable {P : Program} {B : Base} {st : St} {a : Act} {w : World} {S : Nat → Nat → Prop} {rho : Nat → Nat} {tau : Nat → Value} {o : Oper} {K : DV → Option Res → Prop}

theorem run_fltA {b : BinOp} {k : FloatKind} {m n r : Nat} (h : fltA b k m n = some r) : (Op.floatArith b k m n).run P w = .ok (.float k r) w := by
  cases b <;> simp only [fltA, reduceCtorEq] at h <;> simp [Op.floatArith, h]

theorem run_arith {b : BinOp} {m n r : Nat} (h : fltA b .f64 m n = some r) : (Op.Complex.arith b .f64 m n).run P w = .ok r w := by
  simp [Op.Complex.arith, run_fltA h]

theorem run_bitI {b : BinOp} {k : IntKind} {m n r : Int} (h : bitI b k m n = some r) : (Op.intBits b k m n).run P w = .ok (.int k r) w := by
  cases b <;> simp only [bitI, reduceCtorEq, Option.some.injEq] at h <;> subst h <;> rfl

theorem inv_bit {b : BinOp} {u v d : IV} (h : pxI (.bit b) [u, v] = some d) : ∃ k m n r, u = .int k m ∧ v = .int k n ∧ bitI b k m n = some r ∧ d = .int k r := by
  cases u <;> cases v <;> simp only [pxI, reduceCtorEq] at h
  split at h
  · rename_i hk; subst hk
    simp only [Option.map_eq_some_iff] at h
    obtain ⟨r, hr, rfl⟩ := h
    exact ⟨_, _, _, r, rfl, rfl, hr, rfl⟩
  · simp at h
theorem inv_sh {b : BinOp} {u v d : IV} (h : pxI (.sh b) [u, v] = some d) : ∃ k m q n r, u = .int k m ∧ v = .int q n ∧ shI b k m n = some r ∧ d = .int k r := by
  cases u <;> cases v <;> simp only [pxI, reduceCtorEq] at h
  simp only [Option.map_eq_some_iff] at h
  obtain ⟨r, hr, rfl⟩ := h
  exact ⟨_, _, _, _, r, rfl, rfl, hr, rfl⟩
theorem inv_flt {b : BinOp} {u v d : IV} (h : pxI (.flt b) [u, v] = some d) : ∃ k m n, u = .flt k m ∧ v = .flt k n ∧ fltI b k m n = some d := by
  cases u <;> cases v <;> simp only [pxI, reduceCtorEq] at h
  split at h
  · rename_i hk; subst hk
    exact ⟨_, _, _, rfl, rfl, h⟩
  · simp at h
theorem inv_cpx {b : BinOp} {u v d : IV} (h : pxI (.cpx b) [u, v] = some d) : ∃ m n m' n', u = .cpx .f64 m n ∧ v = .cpx .f64 m' n' ∧ cpxI b m n m' n' = some d := by
  cases u <;> cases v <;> simp only [pxI, reduceCtorEq] at h
  rename_i k _ _ k' _ _
  cases k <;> cases k' <;> try (simp only [reduceCtorEq] at h)
  exact ⟨_, _, _, _, rfl, rfl, h⟩

theorem run_px2 {p : PX} {b : BinOp} {t : TypeId} {x y : Operand} {u1 u2 d : IV} {v1 v2 : Value} (hp : p.of2 b = true) (hd : pxI p [u1, u2] = some d) (h1 : Rd w S u1 v1) (h2 : Rd w S u2 v2) :
    ∃ v, (do eqGuard b t x y v1 v2; binOp b t v1 v2 : Sem Value).run P w = .ok v w ∧ Rd w S d v := by
  cases p <;> simp only [PX.of2, Bool.false_eq_true, decide_eq_true_eq] at hp <;> subst hp
  case bit =>
    obtain ⟨k, m, n, r, rfl, rfl, hr, rfl⟩ := inv_bit hd
    have e1 := h1.int_inv; have e2 := h2.int_inv
    subst e1; subst e2
    have hx := run_bitI (P := P) (w := w) hr
    refine ⟨.int k r, ?_, .int _ _⟩
    cases b <;> simp only [bitI, reduceCtorEq] at hr <;> simpa [eqGuard, binOp] using hx
  case sh =>
    obtain ⟨k, m, q, n, r, rfl, rfl, hr, rfl⟩ := inv_sh hd
    have e1 := h1.int_inv; have e2 := h2.int_inv
    subst e1; subst e2
    unfold shI at hr
    split at hr
    · simp at hr
    · rename_i h0
      cases b <;> simp only [reduceCtorEq, Option.some.injEq] at hr <;> subst hr
      · exact ⟨_, by simp [eqGuard, binOp, Op.shift, h0], .int _ _⟩
      · exact ⟨_, by simp [eqGuard, binOp, Op.shift, h0], .int _ _⟩
  case flt =>
    obtain ⟨k, m, n, rfl, rfl, hq⟩ := inv_flt hd
    have e1 := h1.flt_inv; have e2 := h2.flt_inv
    subst e1; subst e2
    cases b <;> unfold fltI at hq <;> simp only [reduceCtorEq, Option.some.injEq, Option.map_eq_some_iff] at hq
    case add | sub | mul | quo =>
      obtain ⟨r, hr, rfl⟩ := hq
      exact ⟨_, by simpa [eqGuard, binOp] using run_fltA (P := P) (w := w) hr, .flt _ _⟩
    all_goals (subst hq; exact ⟨_, by simp [eqGuard, binOp, Op.floatCmp], .bool _⟩)
  case cpx =>
    obtain ⟨m, n, m', n', rfl, rfl, hq⟩ := inv_cpx hd
    have e1 := h1.cpx_inv; have e2 := h2.cpx_inv
    subst e1; subst e2
    cases b <;> unfold cpxI at hq <;> try (simp only [reduceCtorEq, Option.some.injEq] at hq)
    case add | sub =>
      unfold both at hq
      split at hq
      · rename_i x y hx hy
        simp only [Option.some.injEq] at hq
        subst hq
        exact ⟨_, by simp [eqGuard, binOp, Op.complexOp, run_arith hx, run_arith hy], .cpx _ _ _⟩
      · simp at hq
    case mul =>
      unfold cpxM at hq
      split at hq
      · rename_i ac bd ad bc h1 h2 h3 h4
        unfold both at hq
        split at hq
        · rename_i x y hx hy
          simp only [Option.some.injEq] at hq
          subst hq
          exact ⟨_, by simp [eqGuard, binOp, Op.complexOp, Op.Complex.conv, Op.Complex.product, Op.Complex.mul, Op.Complex.sub, Op.Complex.add, run_arith h1, run_arith h2, run_arith h3, run_arith h4, run_arith hx, run_arith hy], .cpx _ _ _⟩
        · simp at hq
      · simp at hq
    all_goals (subst hq; exact ⟨_, by simp [eqGuard, binOp, Op.complexOp, Op.Complex.cmp, Op.floatCmp, asBool], .bool _⟩)

theorem allImm_two {x y : DV} {vs : List IV} (h : allImm [x, y] = some vs) : ∃ u v, x = .imm u ∧ y = .imm v ∧ vs = [u, v] := by
  cases x <;> simp only [allImm, reduceCtorEq] at h
  cases y <;> simp only [allImm, reduceCtorEq] at h
  simp at h
  exact ⟨_, _, rfl, rfl, h.symm⟩
theorem allImm_one {x : DV} {vs : List IV} (h : allImm [x] = some vs) : ∃ u, x = .imm u ∧ vs = [u] := by
  cases x <;> simp only [allImm, reduceCtorEq] at h
  simp at h
  exact ⟨_, rfl, h.symm⟩

theorem real_run {ts : Array TypeId} {t : TypeId} {k : FloatKind} {m n : Nat} : Builtin.real_ ts t #[.complex k m n] = pure (.float k m) := rfl
theorem imag_run {ts : Array TypeId} {t : TypeId} {k : FloatKind} {m n : Nat} : Builtin.imag_ ts t #[.complex k m n] = pure (.float k n) := rfl
theorem complex_run {ts : Array TypeId} {t : TypeId} {k : FloatKind} {m n : Nat} : Builtin.complex_ ts t #[.float k m, .float k n] = pure (.complex k m n) :=
  if_pos (c := k = k) rfl

theorem s_px2 (h : Core B st a.tmps w S rho tau) {p : PX} {b : BinOp} {t yt : TypeId} {x1 x2 : Operand} {y1 y2 : Opd} (ho : o.op = .binOp b t x1 x2 yt) (hp : p.of2 b = true)
    (h1 : opdOk x1 y1 = true) (h2 : opdOk x2 y2 = true) (hs : semPx K p [st.arg y1, st.arg y2]) : Quiet P B st o a w rho tau K := by
  have r1 := h.vw (defers := a.defers) h1
  have r2 := h.vw (defers := a.defers) h2
  simp only [semPx, optP, optK, St.arg, List.map] at hs
  split at hs
  · rename_i vs hvs
    obtain ⟨u, v, e1, e2, rfl⟩ := allImm_two hvs
    rw [e1] at r1; rw [e2] at r2
    split at hs
    · rename_i d hd
      obtain ⟨v, hv, hr⟩ := run_px2 (P := P) (t := t) (x := x1) (y := x2) hp hd r1.imm_inv r2.imm_inv
      refine quiet_imm h hs ?_ hr
      unfold execOp
      rw [ho]
      simp only [Sem.run_bind] at hv ⊢
      rw [hv]
      rfl
    · exact hs.elim
  · exact hs.elim

theorem s_px1 (h : Core B st a.tmps w S rho tau) {p : PX} {x1 : Operand} {y1 : Opd} (h1 : opdOk x1 y1 = true) (hs : semPx K p [st.arg y1])
    (hr : ∀ u d, pxI p [u] = some d → Rd w S u (a.eval x1) → ∃ v, (execOp a.eval o).run P w = .ok (.value v) w ∧ Rd w S d v) : Quiet P B st o a w rho tau K := by
  have r1 := h.vw (defers := a.defers) h1
  simp only [semPx, optP, optK, St.arg, List.map] at hs
  split at hs
  · rename_i vs hvs
    obtain ⟨u, e1, rfl⟩ := allImm_one hvs
    rw [e1] at r1
    split at hs
    · rename_i d hd
      obtain ⟨v, hv, hr⟩ := hr u d hd r1.imm_inv
      exact quiet_imm h hs hv hr
    · exact hs.elim
  · exact hs.elim

theorem s_px (h : Core B st a.tmps w S rho tau) {p : PX} {xs : List Opd} (hk : pxIs P p o.op xs = true) (hs : semPx K p (xs.map st.arg)) : Quiet P B st o a w rho tau K := by
  cases p <;> simp only [pxIs] at hk
  case bit | sh | flt | cpx =>
    split at hk
    · rename_i ho
      simp only [Bool.and_eq_true, decide_eq_true_eq] at hk
      obtain ⟨⟨rfl, h1⟩, h2⟩ := hk
      exact s_px2 h ho (by simp [PX.of2]) h1 h2 hs
    · simp at hk
  case neg =>
    split at hk
    · rename_i ho
      refine s_px1 h hk hs fun u d hd hu => ?_
      cases u <;> simp only [pxI, reduceCtorEq, Option.some.injEq] at hd <;> subst hd
      · have e := hu.flt_inv
        exact ⟨_, by unfold execOp; rw [ho]; simp [e, Op.unary], .flt _ _⟩
      · have e := hu.cpx_inv
        exact ⟨_, by unfold execOp; rw [ho]; simp [e, Op.unary], .cpx _ _ _⟩
    · simp at hk
  case inv =>
    split at hk
    · rename_i ho
      refine s_px1 h hk hs fun u d hd hu => ?_
      cases u <;> simp only [pxI, reduceCtorEq, Option.map_eq_some_iff] at hd
      obtain ⟨r, hr, rfl⟩ := hd
      have e := hu.int_inv
      exact ⟨_, by unfold execOp; rw [ho]; simp [e, Op.unary, run_bitI hr], .int _ _⟩
    · simp at hk
  case i2f =>
    split at hk
    · rename_i ho
      simp only [Bool.and_eq_true] at hk
      obtain ⟨⟨h0, h1⟩, h2⟩ := hk
      split at h1
      · rename_i k' ht
        simp only [decide_eq_true_eq] at h1
        subst h1
        obtain ⟨q, hq⟩ := Option.isSome_iff_exists.1 h0
        refine s_px1 h h2 hs fun u d hd hu => ?_
        cases u <;> simp only [pxI, reduceCtorEq, Option.some.injEq] at hd
        subst hd
        have e := hu.int_inv
        exact ⟨_, by unfold execOp; rw [ho]; simp [e, convert, run_underlying hq, run_underlying ht, Conv.intToFloat], .flt _ _⟩
      · simp at h1
    · simp at hk
  case f2i =>
    split at hk
    · rename_i ho
      simp only [Bool.and_eq_true] at hk
      obtain ⟨⟨h0, h1⟩, h2⟩ := hk
      split at h1
      · rename_i k' ht
        simp only [decide_eq_true_eq] at h1
        subst h1
        obtain ⟨q, hq⟩ := Option.isSome_iff_exists.1 h0
        refine s_px1 h h2 hs fun u d hd hu => ?_
        cases u <;> simp only [pxI, reduceCtorEq] at hd
        split at hd
        · rename_i n hn
          split at hd
          · rename_i hrange
            simp only [Option.some.injEq] at hd
            subst hd
            have e := hu.flt_inv
            exact ⟨_, by unfold execOp; rw [ho]; simp [e, convert, run_underlying hq, run_underlying ht, Conv.floatToInt, hn, hrange], .int _ _⟩
          · simp at hd
        · simp at hd
      · simp at h1
    · simp at hk
  case re =>
    split at hk
    · rename_i ho
      refine s_px1 h hk hs fun u d hd hu => ?_
      cases u <;> simp only [pxI, reduceCtorEq, Option.some.injEq] at hd <;> subst hd
      have e := hu.cpx_inv
      exact ⟨_, by unfold execOp; rw [ho]; simp [e, resolve, invoke, builtin, real_run], .flt _ _⟩
    · simp at hk
  case im =>
    split at hk
    · rename_i ho
      refine s_px1 h hk hs fun u d hd hu => ?_
      cases u <;> simp only [pxI, reduceCtorEq, Option.some.injEq] at hd <;> subst hd
      have e := hu.cpx_inv
      exact ⟨_, by unfold execOp; rw [ho]; simp [e, resolve, invoke, builtin, imag_run], .flt _ _⟩
    · simp at hk
  case cplx =>
    split at hk
    · rename_i x1 x2 _ y1 y2 ho
      simp only [Bool.and_eq_true] at hk
      have r1 := h.vw (defers := a.defers) hk.1
      have r2 := h.vw (defers := a.defers) hk.2
      simp only [semPx, optP, optK, St.arg, List.map] at hs
      split at hs
      · rename_i vs hvs
        obtain ⟨u, v, e1, e2, rfl⟩ := allImm_two hvs
        rw [e1] at r1; rw [e2] at r2
        split at hs
        · rename_i d hd
          cases u <;> cases v <;> simp only [pxI, reduceCtorEq] at hd
          split at hd
          · rename_i hkk
            subst hkk
            simp only [Option.some.injEq] at hd
            subst hd
            have v1 : a.eval x1 = _ := r1.imm_inv.flt_inv
            have v2 : a.eval x2 = _ := r2.imm_inv.flt_inv
            refine quiet_imm h hs (v := .complex _ _ _) ?_ (.cpx _ _ _)
            unfold execOp; rw [ho]; simp [v1, v2, resolve, invoke, builtin, complex_run]
          · simp at hd
        · exact hs.elim
      · exact hs.elim
    · simp at hk

theorem s_aslice (h : Core B st a.tmps w S rho tau) {t : TypeId} {x : Operand} {y : Opd} {n : Nat} (ho : o.op = .slice t x none none none) (ht : arrIs P t n 1 false = true) (hx : opdOk x y = true) (hs : semAslice K n [st.arg y]) : Quiet P B st o a w rho tau K := by
  obtain ⟨e, hu, hsz, _⟩ := arrIs_of ht
  have r1 := h.vw (defers := a.defers) hx
  simp only [semAslice, St.arg] at hs
  split at hs
  · rename_i cs e1
    rw [e1] at r1
    obtain ⟨hl, hall, hk⟩ := hs
    have r2 : Rd w S (.ptr (.agg cs)) (a.eval x) := r1.imm_inv
    generalize hv : a.eval x = v at r2
    cases r2 with
    | ptr _ b q c hs hr ha =>
      have hv' : a.eval x = .pointer (some ⟨b, q, none⟩) := hv
      have hc : ∀ (i : Nat) (u : IV), cs[i]? = some u → u.cells = [u] ∧ u.isAgg = false := by
        intro i u hi
        have := List.all_eq_true.1 hall u (List.mem_of_getElem? hi)
        simp only [Bool.and_eq_true, Bool.not_eq_true'] at this
        refine ⟨?_, this.1⟩
        cases u <;> simp_all [IV.cells, IV.isAgg]
      refine quiet_imm h hk (v := .slice (some ⟨b, q, none⟩) cs.length cs.length) ?_ (.slc 1 cs b q cs.length c (Nat.le_refl _) (fun i hi => hs i (by simpa [IV.cells] using hi)) (fun i u hi => by rw [(hc i u hi).1]; rfl) (fun i u j z hi hj => ?_) (fun i u j z hi hj => ?_))
      · unfold execOp; rw [ho]
        by_cases h0 : n = 0
        · simp [hv', Instr.sliceAt, Instr.sureAddr, run_underlying hu, run_sizeOf' hsz, Instr.sliceBounds, hl, h0, add_addr]
        · simp [hv', Instr.sliceAt, Instr.sureAddr, run_underlying hu, run_sizeOf' hsz, Instr.sliceBounds, hl, add_addr]
      · rw [(hc i u hi).1] at hj
        have hj0 := (List.getElem?_eq_some_iff.1 hj).1
        simp at hj0
        subst hj0
        simp at hj
        subst hj
        have := hr i u (by simpa [IV.cells] using hi)
        simpa using this
      · have hi0 := (List.getElem?_eq_some_iff.1 hi).1
        rw [(hc i u hi).1] at hj
        have hj0 := (List.getElem?_eq_some_iff.1 hj).1
        simp at hj0
        subst hj0
        have := ha i (by simpa [IV.cells] using hi0)
        simpa using this
  · exact hs.elim

theorem s_appq (h : Core B st a.tmps w S rho tau) {x1 x2 : Operand} {y1 y2 : Opd} {t t' : TypeId} {sz bytes : Nat}
    (ho : o.op = .call { callee := .builtin .append, args := #[x1, x2], argTypes := #[t, t'] }) (ht : appendIs P t t' sz bytes = true) (h1 : opdOk x1 y1 = true) (h2 : opdOk x2 y2 = true)
    (hs : semAppq K sz bytes [st.arg y1, st.arg y2]) : Quiet P B st o a w rho tau K := by
  obtain ⟨e, e', i, z, hu, hu', hi, hisz, hiby, hz, hzs⟩ := appendIs_of ht
  have r1 := h.ev (defers := a.defers) h1
  have r2 := h.vw (defers := a.defers) h2
  simp only [semAppq, St.arg] at hs
  split at hs
  · rename_i z' es zq ys e1 e2
    rw [e1] at r1; rw [e2] at r2
    obtain ⟨rfl, rfl, hb, hm, hs⟩ := hs
    have r1' : Rl w S rho tau (.cap0 z' es) (a.eval x1) := r1
    obtain ⟨q, c2, hv2, hcap2, hform2⟩ := r2.imm_inv.slc_form
    have hv2' : a.eval x2 = .slice q ys.length c2 := hv2
    have hry : Rd w S (.slc z' ys) (.slice q ys.length c2) := by rw [← hv2]; exact r2.imm_inv
    obtain ⟨_, us, b1, b2, b3, b4, b5⟩ := hry.slc_cells (P := P)
    generalize hv1 : a.eval x1 = v1 at r1'
    cases r1' with
    | cap0 _ _ _ p hrx hpv =>
      subst hpv
      by_cases hm0 : ys.length = 0
      · have hy0 : ys = [] := List.eq_nil_of_length_eq_zero hm0
        subst hy0
        have hus0 : us = [] := List.eq_nil_of_length_eq_zero (by simpa using b1)
        subst hus0
        have hrun := run_append_in (P := P) (w := w) (ty := o.type) hu hu' hi hisz (a := p) (len := es.length) (cap := es.length) (Nat.le_refl _) b2 (w' := w) (by cases p <;> simp [storeCells])
        have hex := exec_append (P := P) ho (by rw [hv1, hv2']; exact hrun)
        exact quiet_imm h hs hex (by rw [List.append_nil]; exact hrx)
      · obtain ⟨_, us', f1, f2, _⟩ := hry.drew.slc_cells (P := P)
        obtain ⟨_, os', f3, f4, _⟩ := hrx.drew.slc_cells (P := P)
        obtain ⟨newCap, rest, hnc, hrl, hrun⟩ := run_append_new (P := P) (w := w) (ty := o.type) hu hu' hi hisz hz hzs (cap := es.length) (by omega) (by rw [hiby]; exact hb) hm f2 f4
        have hex := exec_append (P := P) ho (by rw [hv1, hv2']; exact hrun)
        let S' : Nat → Nat → Prop := fun b k => S b k ∨ (b = w.heap.size ∧ k < (es.length + ys.length) * z')
        obtain ⟨hnew, hlen⟩ := grown_new (P := P) h (rest := rest) (e := e) (newCap := newCap) hrx hry hnc f4 f2 (S' := S') (fun _ _ k => .inl k) (fun k hk => .inr ⟨rfl, hk⟩)
        let w' := w.drew.alloc (.cells (os' ++ us' ++ rest).toArray e)
        have hbw : Below w.heap.size w w' := ((Below.refl _ w).drew).alloc (Nat.le_refl _) _
        have hsz' : w'.heap.size = w.heap.size + 1 := by simp [w']
        have hstep : Core B st a.tmps w' S' rho tau := h.step hbw (fun _ _ k => .inl k) (fun b k hk => by
          rcases hk with hk | ⟨rfl, _⟩
          · exact .inl hk
          · exact .inr (Nat.le_refl _)) (fun b k hk => by
          rcases hk with hk | ⟨rfl, _⟩
          · have := h.stab b k hk; omega
          · omega)
        exact ⟨_, hs, okOp_run hex ⟨S', hstep, .imm _ _ hnew, by simp [DV.names]⟩⟩
  · exact hs.elim

theorem s_copy (h : Core B st a.tmps w S rho tau) {t t2 : TypeId} {x1 x2 : Operand} {y1 y2 : Opd} {K : St → Prop} (ho : o.op = .call { callee := .builtin .copy, args := #[x1, x2], argTypes := #[t, t2] }) (ht : sliceIs P t 1 = true)
    (h1 : opdOk x1 y1 = true) (h2 : opdOk x2 y2 = true) (hd : ∀ d, o.dst = some d → d < a.tmps.size) (hs : semW P o.dst .copy [y1, y2] st K) : Wr P B o a w K := by
  obtain ⟨e, hu, hsz⟩ := sliceIs_of ht
  have r1 := h.ev (defers := a.defers) h1
  have r2 := h.vw (defers := a.defers) h2
  simp only [semW] at hs
  split at hs
  · rename_i id off n z ys e1 e2
    rw [e1] at r1; rw [e2] at r2
    split at hs
    · rename_i es hid
      obtain ⟨rfl, hle, hag, hk⟩ := hs
      obtain ⟨arr, el, g1, g2, g3, g4, g5⟩ := h.res id _ hid
      have r1' : Rl w S rho tau (.vec id off n) (a.eval x1) := r1
      generalize hv1 : a.eval x1 = v1 at r1'
      cases r1' with
      | vec _ _ _ cap aa hcap ha hz =>
        obtain ⟨bb, c2, hv2, hc2, hform⟩ := r2.imm_inv.slc_form
        have hv2' : a.eval x2 = .slice bb ys.length c2 := hv2
        have rr := r2.imm_inv
        rw [hv2] at rr
        have rsub : Rd w S (.slc 1 ((ys.take (min ys.length n)).drop 0)) (.slice bb (min ys.length n - 0) c2) := by
          refine rr.slc_sub (by omega) (by omega) (by omega) ?_
          rcases hform with ⟨rfl, rfl⟩ | ⟨b, q, rfl⟩
          · exact .inl ⟨rfl, rfl, rfl⟩
          · exact .inr ⟨b, q, rfl, .inl (by simp)⟩
        rw [List.drop_zero, Nat.sub_zero] at rsub
        obtain ⟨_, us, b1, b2, b3, b4, b5⟩ := rsub.slc_cells (P := P)
        rw [Nat.mul_one] at b1
        have hf : (Builtin.firstCells 1 (min ys.length n) (.slice bb ys.length c2)).run P w = .ok us.toArray w := by cases bb <;> exact b2
        have hexec : ∀ w', (match aa with | some p => storeCells p us | none => (pure () : Sem Unit)).run P w = .ok () w' → (execOp a.eval o).run P w = .ok (.value (.int .i64 ((min n ys.length : Nat) : Int))) w' := by
          intro w' hst
          have hcp : (Builtin.copy_ #[t, t2] o.type #[.slice aa n cap, .slice bb ys.length c2]).run P w = .ok (.int .i64 ((min n ys.length : Nat) : Int)) w' := by
            unfold Builtin.copy_
            have e3 : Nat.min ys.length n = min ys.length n := rfl
            simp only [List.getElem?_toArray, List.getElem?_cons_zero, List.getElem?_cons_succ, Sem.run_bind, run_underlying hu, Result.andThen_ok, Builtin.lenOf, Sem.run_pure, run_sizeOf' hsz, e3, hf]
            cases aa with
            | none =>
              have hw : w' = w := by simpa using hst.symm
              subst hw
              simp [goInt, Nat.min_comm]
            | some p =>
              dsimp only at hst ⊢
              simp [hst, goInt, Nat.min_comm]
          unfold execOp; rw [ho]
          have e6 : #[x1, x2].map a.eval = #[.slice aa n cap, .slice bb ys.length c2] := by
            simp [hv1, hv2']
          simp only [resolve, e6, Sem.run_bind, Sem.run_pure, Result.andThen_ok, invoke, builtin, hcp]
        have hys : ∀ (i : Nat) (d : IV), ys[i]? = some d → d.cells = [d] := fun i d hi => by
          have hq := List.all_eq_true.1 hag d (List.mem_of_getElem? hi)
          simp only [Bool.not_eq_true'] at hq
          cases d <;> first | rfl | cases hq
        have hlt : (ys.take n).length = min n ys.length := by simp
        refine ⟨_, hk, fun next Q hn' => ?_⟩
        by_cases h0 : n = 0
        · subst h0
          have hus : us = [] := List.eq_nil_of_length_eq_zero (by omega)
          subst hus
          have hr := hexec w (by cases aa <;> simp [storeCells])
          unfold Oper.wp
          rw [hr]
          have e4 : es.take off ++ (ys.take 0 ++ es.drop (off + min 0 ys.length)) = es := by simp
          have e5 : st.setRes id (.arr es) = st := by
            cases st with
            | mk env res =>
              simp only [St.setRes, St.mk.injEq, true_and]
              funext i
              split
              · rename_i hi; rw [hi]; exact hid.symm
              · rfl
          rw [e4, e5] at hn'
          exact hn' _ w S rho tau (by rw [put_tmps]; exact Core.put h hd (.imm _ _ (.int _ _)) (by simp [DV.names]))
        · have haa := ha h0
          subst haa
          have hst := run_storeCells_at (P := P) (rho id) off el us 0 arr w g1 (by omega) b4
          rw [Nat.add_zero] at hst
          have hr := hexec _ hst
          unfold Oper.wp
          rw [hr]
          have hm1 := set_mid_get arr.toList us off (by have e8 : arr.toList.length = arr.size := Array.length_toList; omega)
          have hm2 := set_mid_get es (ys.take n) off (by omega)
          rw [hlt] at hm2
          have hC := h.rewrite hid (.inr ⟨_, rfl⟩) (arr' := (arr.toList.take off ++ (us ++ arr.toList.drop (off + us.length))).toArray) g1 g5 (.arr (es.take off ++ (ys.take n ++ es.drop (off + min n ys.length))))
            (fun hx => ⟨_, el, setRow_heap w _ arr _ el _ g1, by simp only [List.size_toArray, List.length_append, List.length_take, List.length_drop, Array.length_toList]; omega, fun i d u hd' hu' => by
              rw [List.getElem?_toArray, hm1 i] at hu'
              rw [hm2 i] at hd'
              by_cases c1 : i < off
              · rw [if_pos c1] at hu' hd'
                obtain ⟨m1, m2, m3⟩ := g3 i d u hd' (by simpa using hu')
                exact ⟨m1, m2, m3.mono hx⟩
              · rw [if_neg c1] at hu' hd'
                by_cases c2 : i < off + min n ys.length
                · rw [if_pos c2] at hd'
                  rw [if_pos (by omega)] at hu'
                  have hd2 : ys[i - off]? = some d := by
                    rw [List.getElem?_take_of_lt (by omega)] at hd'
                    exact hd'
                  have hdc := hys _ _ hd2
                  obtain ⟨u', q1, q2⟩ := b3 (i - off) d 0 d (by rw [List.getElem?_take_of_lt (by omega)]; exact hd2) (by rw [hdc]; rfl)
                  rw [Nat.mul_one, Nat.add_zero] at q1
                  rw [q1] at hu'
                  cases hu'
                  exact ⟨by rw [hdc]; rfl, hdc, q2.mono hx⟩
                · rw [if_neg c2] at hd'
                  rw [if_neg (by omega)] at hu'
                  obtain ⟨m1, m2, m3⟩ := g3 i d u hd' (by simpa using hu')
                  exact ⟨m1, m2, m3.mono hx⟩, fun i u hu' => by
              rw [List.getElem?_toArray] at hu'
              exact setCells_one (vs := arr.toList) (us := us) (off := off) (fun j u hu => g4 j u (by rwa [Array.getElem?_toList] at hu)) (fun j u hu => b4 u (List.mem_of_getElem? hu)) i u hu', g5⟩)
            (fun cells' he => by cases he)
          exact hn' _ _ S rho tau (by rw [put_tmps]; exact Core.put hC hd (.imm _ _ (.int _ _)) (by simp [DV.names]))
    · exact hs.elim
  · exact hs.elim

end ops
end Go.DI

/- One operation, whatever its kind: what the data say, the machine does. No condition. -/
namespace Go.DI
open Go.RowKit

def chkKind (P : Program) (op : Op) (kind : Kind) (xs : List Opd) : Bool :=
  match kind with
  | .mov => match op, xs with
    | .move x, [y] => opdOk x y
    | .assign x, [y] => opdOk x y
    | _, _ => false
  | .movv => match op, xs with
    | .move x, [y] => opdOk x y
    | .assign x, [y] => opdOk x y
    | _, _ => false
  | .ntok _ => match op, xs with
    | .move (.const (.slice none 0 0)), [_] => true
    | .assign (.const (.slice none 0 0)), [_] => true
    | _, _ => false
  | .pick => match op, xs with
    | .pick a b c, [x, y, z] => opdOk a x && opdOk b y && opdOk c z
    | _, _ => false
  | .alloc zero => match op, xs with
    | .alloc t, [] => zeroIs P t zero
    | _, _ => false
  | .box => match op, xs with
    | .box _ x, [y] => opdOk x y
    | _, _ => false
  | .build zero ps => match op with
    | .build t parts => buildIs P t (parts.toList.map (·.1)) zero ps && opdsOk (parts.toList.map (·.2)) xs
    | _ => false
  | .bsl sz => match op with
    | .buildSlice t n parts => bslIs P t n sz (parts.toList.map (·.1)) && opdsOk (parts.toList.map (·.2)) xs
    | _ => false
  | .load agg n => match op, xs with
    | .load t x, [y] => opdOk x y && aggIs P t agg && szIs P t n
    | _, _ => false
  | .loadf agg n _ => match op, xs with
    | .load t x, [y] => opdOk x y && aggIs P t agg && szIs P t n
    | _, _ => false
  | .nilck => match op, xs with
    | .nilCheck x, [y] => opdOk x y
    | _, _ => false
  | .bin b => match op, xs with
    | .binOp b' _ x y _, [p, q] => decide (b' = b) && plainOp b && opdOk x p && opdOk y q
    | _, _ => false
  | .beq neg => match op, xs with
    | .binOp b' t x y _, [p, q] => decide (b' = if neg then .neq else .eql) && (match P.underlying t with | some .bool => true | _ => false) && opdOk x p && opdOk y q
    | _, _ => false
  | .pnil neg => match op, xs with
    | .binOp b' t x y _, [p, q] => decide (b' = if neg then .neq else .eql) && (match P.underlying t with | some (.pointer _) => true | _ => false) && opdOk x p && opdOk y q
    | _, _ => false
  | .qnil neg => match op, xs with
    | .binOp b' t x (.const (.slice none 0 0)) _, [p, _] => decide (b' = if neg then .neq else .eql) && (match P.underlying t with | some (.slice _) => true | _ => false) && opdOk x p
    | _, _ => false
  | .eqs ks neg => match op, xs with
    | .binOp b' t x y _, [p, q] => decide (b' = if neg then .neq else .eql) && eqsIs P t ks && opdOk x p && opdOk y q
    | _, _ => false
  | .un u => match op, xs with
    | .unOp u' _ x, [y] => decide (u' = u) && opdOk x y
    | _, _ => false
  | .conv k => match op, xs with
    | .convert s t x, [y] => (P.underlying s).isSome && (match P.underlying t with | some (.int k') => decide (k' = k) | _ => false) && opdOk x y
    | _, _ => false
  | .mkfn f nf => match op with
    | .makeFunc (.func g) x1 x2 => g == f && x1.size == nf && opdsOk (x1.toList ++ x2.toList) xs
    | _ => false
  | .slice sz lo hi => match op with
    | .slice t x l h none => l.isSome == lo && h.isSome == hi && sliceIs P t sz && opdsOk (x :: (l.toList ++ h.toList)) xs
    | _ => false
  | .sslice lo hi => match op with
    | .slice t x l h none => l.isSome == lo && h.isSome == hi && (match P.underlying t with | some .string => true | _ => false) && opdsOk (x :: (l.toList ++ h.toList)) xs
    | _ => false
  | .slice3 sz => match op, xs with
    | .slice t x (some l) (some h) (some m), [y, y1, y2, y3] => sliceIs P t sz && opdsOk [x, l, h, m] [y, y1, y2, y3]
    | _, _ => false
  | .faddr off agg n => match op, xs with
    | .fieldAddr t x f, [y] => fieldIs P t f off agg n && n != 0 && opdOk x y
    | _, _ => false
  | .faddrp off agg n => match op, xs with
    | .fieldAddr t x f, [y] => fieldIs P t f off agg n && n != 0 && opdOk x y
    | _, _ => false
  | .field off agg n => match op, xs with
    | .field t x f, [y] => fieldIs P t f off agg n && opdOk x y
    | _, _ => false
  | .iaddr sz => match op, xs with
    | .indexAddr t x i, [y, z] => sliceIs P t sz && opdOk x y && opdOk i z
    | _, _ => false
  | .iarr len sz agg => match op, xs with
    | .indexAddr t x i, [y, z] => arrIs P t len sz agg && opdOk x y && opdOk i z
    | _, _ => false
  | .index len sz agg => match op, xs with
    | .index t x i, [y, z] => arrIs P t len sz agg && opdOk x y && opdOk i z
    | _, _ => false
  | .sidx => match op, xs with
    | .index t x i, [y, z] => (match P.underlying t with | some .string => true | _ => false) && opdOk x y && opdOk i z
    | _, _ => false
  | .ext i => match op, xs with
    | .extract x j, [y] => j == i && opdOk x y
    | _, _ => false
  | .call => match op with
    | .call ⟨.value f, args, _⟩ => opdsOk (f :: args.toList) xs
    | _ => false
  | .len => match op, xs with
    | .call ⟨.builtin .len, ⟨[x]⟩, ⟨[t]⟩⟩, [y] => (match P.underlying t with | some (.slice _) => true | _ => false) && opdOk x y
    | _, _ => false
  | .slen => match op, xs with
    | .call ⟨.builtin .len, ⟨[x]⟩, ⟨[t]⟩⟩, [y] => (match P.underlying t with | some .string => true | _ => false) && opdOk x y
    | _, _ => false
  | .alen n => match op, xs with
    | .call ⟨.builtin .len, ⟨[_]⟩, ⟨[t]⟩⟩, [_] => alenIs P t n
    | _, _ => false
  | .mm mx => match op with
    | .call ⟨.builtin b, args, _⟩ => decide (b = if mx then .max else .min) && opdsOk args.toList xs
    | _ => false
  | .mksl zero bytes => match op, xs with
    | .makeSlice t l c, [y, z] => mkslIs P t zero bytes && opdOk l y && opdOk c z
    | _, _ => false
  | .buildr zero ps => match op with
    | .build t parts => buildIs P t (parts.toList.map (·.1)) zero ps && opdsOk (parts.toList.map (·.2)) xs
    | _ => false
  | .px p => pxIs P p op xs
  | .appq sz bytes => match op, xs with
    | .call ⟨.builtin .append, ⟨[x, v]⟩, ⟨[t, t']⟩⟩, [y, z] => appendIs P t t' sz bytes && opdOk x y && opdOk v z
    | _, _ => false
  | .aslice n => match op, xs with
    | .slice t x none none none, [y] => arrIs P t n 1 false && opdOk x y
    | _, _ => false
  | .store n => match op, xs with
    | .store t x v, [y, z] => szIs P t n && opdOk x y && opdOk v z
    | _, _ => false
  | .storef n _ => match op, xs with
    | .store t x v, [y, z] => szIs P t n && opdOk x y && opdOk v z
    | _, _ => false
  | .append sz bytes _ => match op, xs with
    | .call ⟨.builtin .append, ⟨[x, v]⟩, ⟨[t, t']⟩⟩, [y, z] => appendIs P t t' sz bytes && opdOk x y && opdOk v z
    | _, _ => false
  | .copy => match op, xs with
    | .call ⟨.builtin .copy, ⟨[x, v]⟩, ⟨[t, _]⟩⟩, [y, z] => sliceIs P t 1 && opdOk x y && opdOk v z
    | _, _ => false
  | .yield => false
  | .callb _ => false
  | .snil neg => match op, xs with
    | .binOp b' t x (.const (.slice none 0 0)) _, [p, _] => decide (b' = if neg then .neq else .eql) && (match P.underlying t with | some (.slice _) => true | _ => false) && opdOk x p
    | _, _ => false

section ops
variable {P : Program} {B : Base} {st : St} {a : Act} {w : World} {S : Nat → Nat → Prop} {rho : Nat → Nat} {tau : Nat → Value} {o : Oper}

theorem s_movv {K : DV → Option Res → Prop} (h : Core B st a.tmps w S rho tau) {x : Operand} {y : Opd} (ho : o.op = .move x ∨ o.op = .assign x) (hx : opdOk x y = true) (hs : semMovv K [st.arg y]) : Quiet P B st o a w rho tau K := by
  refine quiet_val h hs (v := a.eval x) ?_ (h.vw hx) (fun id hn => St.evC h.envC y id (names_view hn))
  unfold execOp
  rcases ho with ho | ho <;> rw [ho] <;> rfl

theorem sem_sound (h : Core B st a.tmps w S rho tau) {d : Nat} {kind : Kind} {xs : List Opd} {K : DV → Option Res → Prop} (hk : chkKind P o.op kind xs = true) (hs : sem P d kind (xs.map st.arg) K) : Makes P B st o a w d K := by
  unfold chkKind at hk
  split at hk <;> simp only [sem] at hs

  · split at hk
    · exact (s_mov h (.inl (by assumption)) hk hs).makes
    · exact (s_mov h (.inr (by assumption)) hk hs).makes
    · simp at hk

  · split at hk
    · exact (s_movv h (.inl (by assumption)) hk hs).makes
    · exact (s_movv h (.inr (by assumption)) hk hs).makes
    · simp at hk

  · split at hk
    · exact s_ntok h (.inl (by assumption)) rfl hs
    · exact s_ntok h (.inr (by assumption)) rfl hs
    · simp at hk

  · split at hk
    · simp only [Bool.and_eq_true] at hk
      exact (s_pick h (by assumption) hk.1.1 hk.1.2 hk.2 hs).makes
    · simp at hk

  · split at hk
    · exact s_alloc h (by assumption) hk hs
    · simp at hk

  · split at hk
    · exact s_box h (by assumption) hk hs
    · simp at hk

  · split at hk
    · simp only [Bool.and_eq_true] at hk
      exact (s_build h (by assumption) hk.1 hk.2 hs).makes
    · simp at hk

  · split at hk
    · simp only [Bool.and_eq_true] at hk
      exact (s_bsl h (by assumption) hk.1 hk.2 hs).makes
    · simp at hk

  · split at hk
    · simp only [Bool.and_eq_true] at hk
      exact (s_load h (by assumption) hk.1.2 hk.2 hk.1.1 hs).makes
    · simp at hk

  · split at hk
    · simp only [Bool.and_eq_true] at hk
      exact (s_load h (by assumption) hk.1.2 hk.2 hk.1.1 hs.2).makes
    · simp at hk

  · split at hk
    · exact (s_nilck h (by assumption) hk hs).makes
    · simp at hk

  · split at hk
    · rename_i ho
      simp only [Bool.and_eq_true, decide_eq_true_eq] at hk
      obtain ⟨⟨⟨rfl, h1⟩, h2⟩, h3⟩ := hk
      exact (s_bin h ho h1 h2 h3 hs).makes
    · simp at hk

  · split at hk
    · rename_i ho
      simp only [Bool.and_eq_true, decide_eq_true_eq] at hk
      obtain ⟨⟨⟨rfl, h1⟩, h2⟩, h3⟩ := hk
      split at h1
      · exact (s_beq h ho (by assumption) h2 h3 hs).makes
      · simp at h1
    · simp at hk

  · split at hk
    · rename_i ho
      simp only [Bool.and_eq_true, decide_eq_true_eq] at hk
      obtain ⟨⟨⟨rfl, h1⟩, h2⟩, h3⟩ := hk
      split at h1
      · exact (s_pnil h ho (by assumption) h2 h3 hs).makes
      · simp at h1
    · simp at hk

  · split at hk
    · rename_i ho
      simp only [Bool.and_eq_true, decide_eq_true_eq] at hk
      obtain ⟨⟨rfl, h1⟩, h2⟩ := hk
      split at h1
      · exact (s_qnil h ho (by assumption) h2 hs).makes
      · simp at h1
    · simp at hk

  · split at hk
    · rename_i ho
      simp only [Bool.and_eq_true, decide_eq_true_eq] at hk
      obtain ⟨⟨⟨rfl, h1⟩, h2⟩, h3⟩ := hk
      exact (s_eqs h ho h1 h2 h3 hs).makes
    · simp at hk

  · split at hk
    · rename_i ho
      simp only [Bool.and_eq_true, decide_eq_true_eq] at hk
      obtain ⟨rfl, h1⟩ := hk
      exact (s_un h ho h1 hs).makes
    · simp at hk

  · split at hk
    · rename_i ho
      simp only [Bool.and_eq_true] at hk
      obtain ⟨⟨h0, h1⟩, h2⟩ := hk
      split at h1
      · simp only [decide_eq_true_eq] at h1
        subst h1
        exact (s_conv h ho h0 (by assumption) h2 hs).makes
      · simp at h1
    · simp at hk

  · split at hk
    · rename_i ho
      simp only [Bool.and_eq_true, beq_iff_eq] at hk
      obtain ⟨⟨rfl, rfl⟩, h2⟩ := hk
      exact (s_mkfn h ho h2 hs).makes
    · simp at hk

  · split at hk
    · rename_i ho
      simp only [Bool.and_eq_true, beq_iff_eq] at hk
      obtain ⟨⟨⟨rfl, rfl⟩, h1⟩, h2⟩ := hk
      exact (s_slice h ho h1 h2 hs).makes
    · simp at hk

  · split at hk
    · rename_i ho
      simp only [Bool.and_eq_true, beq_iff_eq] at hk
      obtain ⟨⟨⟨rfl, rfl⟩, h1⟩, h2⟩ := hk
      split at h1
      · exact (s_sslice h ho (by assumption) h2 hs).makes
      · simp at h1
    · simp at hk

  · split at hk
    · rename_i ho
      simp only [Bool.and_eq_true] at hk
      exact (s_slice3 h ho hk.1 hk.2 hs).makes
    · simp at hk

  · split at hk
    · rename_i ho
      simp only [Bool.and_eq_true, bne_iff_ne, ne_eq] at hk
      exact (s_faddr h ho hk.1.1 hk.1.2 hk.2 hs).makes
    · simp at hk

  · split at hk
    · rename_i ho
      simp only [Bool.and_eq_true, bne_iff_ne, ne_eq] at hk
      exact (s_faddr h ho hk.1.1 hk.1.2 hk.2 hs.2).makes
    · simp at hk

  · split at hk
    · rename_i ho
      simp only [Bool.and_eq_true] at hk
      exact (s_field h ho hk.1 hk.2 hs).makes
    · simp at hk

  · split at hk
    · rename_i ho
      simp only [Bool.and_eq_true] at hk
      exact (s_iaddr h ho hk.1.1 hk.1.2 hk.2 hs).makes
    · simp at hk

  · split at hk
    · rename_i ho
      simp only [Bool.and_eq_true] at hk
      exact (s_iarr h ho hk.1.1 hk.1.2 hk.2 hs).makes
    · simp at hk

  · split at hk
    · rename_i ho
      simp only [Bool.and_eq_true] at hk
      exact (s_index h ho hk.1.1 hk.1.2 hk.2 hs).makes
    · simp at hk

  · split at hk
    · rename_i ho
      simp only [Bool.and_eq_true] at hk
      obtain ⟨⟨h0, h1⟩, h2⟩ := hk
      split at h0
      · exact (s_sidx h ho (by assumption) h1 h2 hs).makes
      · simp at h0
    · simp at hk

  · split at hk
    · rename_i ho
      simp only [Bool.and_eq_true, beq_iff_eq] at hk
      obtain ⟨rfl, h1⟩ := hk
      exact (s_ext h ho h1 hs).makes
    · simp at hk

  · split at hk
    · rename_i ho
      exact (s_call h ho hk hs).makes
    · simp at hk

  · split at hk
    · rename_i ho
      simp only [Bool.and_eq_true] at hk
      exact (s_len h ho hk.1 hk.2 hs).makes
    · simp at hk

  · split at hk
    · rename_i ho
      simp only [Bool.and_eq_true] at hk
      obtain ⟨h0, h1⟩ := hk
      split at h0
      · exact (s_slen h ho (by assumption) h1 hs).makes
      · simp at h0
    · simp at hk

  · split at hk
    · rename_i ho
      exact (s_alen h ho hk hs).makes
    · simp at hk

  · split at hk
    · rename_i ho
      simp only [Bool.and_eq_true, decide_eq_true_eq] at hk
      obtain ⟨rfl, h1⟩ := hk
      exact (s_mm h ho h1 hs).makes
    · simp at hk

  · split at hk
    · rename_i ho
      simp only [Bool.and_eq_true] at hk
      exact s_mksl h ho hk.1.1 hk.1.2 hk.2 hs
    · simp at hk

  · split at hk
    · simp only [Bool.and_eq_true] at hk
      exact (s_buildr h (by assumption) hk.1 hk.2 hs).makes
    · simp at hk

  · exact (s_px h hk hs).makes

  · split at hk
    · rename_i ho
      simp only [Bool.and_eq_true] at hk
      exact (s_appq h ho hk.1.1 hk.1.2 hk.2 hs).makes
    · simp at hk

  · split at hk
    · rename_i ho
      simp only [Bool.and_eq_true] at hk
      exact (s_aslice h ho hk.1 hk.2 hs).makes
    · simp at hk

theorem wpDO_sound (h : Core B st a.tmps w S rho tau) {q : DO} {K : St → Prop} (hdst : o.dst = q.dst) (hk : chkKind P o.op q.kind q.xs = true) (hd : ∀ d, o.dst = some d → d < a.tmps.size) (hs : wpDO P q st K) : Wr P B o a w K := by
  unfold wpDO at hs
  split at hs
  · rename_i hw
    rw [← hdst] at hs
    obtain ⟨qd, kind, xs, g, af⟩ := q
    dsimp only at hs hk hw hdst
    cases kind <;> simp only [Kind.writes, Bool.false_eq_true] at hw
    · simp only [chkKind] at hk
      split at hk
      · rename_i ho
        simp only [Bool.and_eq_true] at hk
        exact s_store h ho hk.1.1 hk.1.2 hk.2 hs
      · simp at hk
    · simp only [chkKind] at hk
      split at hk
      · rename_i ho
        simp only [Bool.and_eq_true] at hk
        exact s_store h ho hk.1.1 hk.1.2 hk.2 hs.2
      · simp at hk
    · simp only [chkKind] at hk
      split at hk
      · rename_i ho
        simp only [Bool.and_eq_true] at hk
        exact s_append h ho hk.1.1 hd hk.1.2 hk.2 hs
      · simp at hk
    · simp only [chkKind] at hk
      split at hk
      · rename_i ho
        simp only [Bool.and_eq_true] at hk
        exact s_copy h ho hk.1.1 hk.1.2 hk.2 hd hs
      · simp at hk
    · simp [chkKind] at hk
    · simp [chkKind] at hk
    · simp only [chkKind] at hk
      split at hk
      · rename_i ho
        simp only [Bool.and_eq_true, decide_eq_true_eq] at hk
        obtain ⟨⟨rfl, h1⟩, h2⟩ := hk
        split at h1
        · exact s_snil h ho (by assumption) h2 hd hs
        · simp at h1
      · simp at hk
  · obtain ⟨dv, nr, ⟨hfr, hK⟩, hok⟩ := sem_sound h hk hs
    refine ⟨_, hK, fun next Q hn => ?_⟩
    have hfr' : nr.isSome = true → st.res (q.dst.getD 0) = none := by
      intro hs
      obtain ⟨d, hd1, hd2⟩ := hfr hs
      rw [hd1]; exact hd2
    refine hok hfr' next Q ?_
    rintro v w' ⟨S', rho', tau', hC, hr, hnm⟩
    refine hn v w' S' rho' tau' ?_
    rw [put_tmps]
    have hput := Core.put hC (dst := o.dst) hd hr hnm
    have e : St.put { st with res := resWith st.res (q.dst.getD 0) nr } o.dst dv none = st.put q.dst dv nr := by
      rw [hdst]
      cases hqd : q.dst with
      | none =>
        cases nr with
        | none => rfl
        | some r =>
          obtain ⟨d, hd1, _⟩ := hfr rfl
          rw [hqd] at hd1; cases hd1
      | some d =>
        cases nr <;> rfl
    rw [← e]
    exact hput

end ops
end Go.DI

/- What the data name exists, whatever operation is done. No condition. -/
namespace Go.DI
open Go.RowKit

theorem Nm.imm (res : Nat → Option Res) (v : IV) : Nm res (.imm v) := by intro id h; simp [DV.names] at h
theorem Nm.pim (res : Nat → Option Res) (v : IV) : Nm res (.pim v) := by intro id h; simp [DV.names] at h
theorem Nm.cap0 (res : Nat → Option Res) (sz : Nat) (es : List IV) : Nm res (.cap0 sz es) := by intro id h; simp [DV.names] at h
theorem Nm.undef (res : Nat → Option Res) : Nm res .undef := by intro id h; simp [DV.names] at h

theorem Nm.pt {res : Nat → Option Res} {d : DV} (h : Nm res d) : Nm res d.pt := by intro id hn; rw [DV.pt_names] at hn; exact h id hn

theorem loadI_out {K : DV → Option Res → Prop} {v : IV} (h : loadI K v) : ∃ x, K (.imm x) none ∧ ∀ K' : DV → Option Res → Prop, K' (.imm x) none → loadI K' v := by
  cases v <;> simp only [loadI] at h ⊢ <;> try exact ⟨_, h, fun _ k => k⟩
  case agg cs =>
    cases h0 : cs[0]? with
    | none => rw [h0] at h; exact h.elim
    | some c => rw [h0] at h; exact ⟨c, h.2.2, fun _ k => ⟨h.1, h.2.1, k⟩⟩

structure Closed (st : St) : Prop where
  env : ∀ x, Nm st.res (st.env x)
  res : ∀ id cells, st.res id = some (.box cells) → ∀ c ∈ cells, Nm st.res c

theorem Core.closed {B st tmps w S rho tau} (h : Core B st tmps w S rho tau) : Closed st := ⟨fun x id hn => h.envC x id hn, fun id cells hr c hc id' hn => h.resC id cells hr c hc id' hn⟩

structure ArgOk (res : Nat → Option Res) (a : Arg) : Prop where
  raw : Nm res a.raw
  vw : Nm res a.vw
  rs : ∀ cells, a.rs = some (.box cells) → ∀ c ∈ cells, Nm res c
  rv : ∀ cells, a.rv = some (.box cells) → ∀ c ∈ cells, Nm res c

theorem ArgOk.up {res : Nat → Option Res} {a : Arg} (h : ArgOk res a) : ArgOk res a.up := ⟨h.raw, h.raw, h.rs, h.rv⟩

theorem Closed.arg {st : St} (h : Closed st) (y : Opd) : ArgOk st.res (st.arg y) := by
  have hraw : Nm st.res (st.ev y) := St.evC (fun x id hn => h.env x id hn) y
  refine ⟨hraw, fun id hn => hraw id (names_view hn), fun cells hc c hm => ?_, fun cells hc c hm => ?_⟩
  · simp only [St.arg, resOf] at hc
    split at hc
    · exact h.res _ _ hc c hm
    · simp at hc
  · simp only [St.arg, resVw] at hc
    split at hc
    · split at hc
      · rename_i cs hr
        simp at hc
        subst hc
        obtain ⟨i, hi⟩ := List.getElem?_of_mem hm
        rw [viewAll_get] at hi
        cases hq : cs[i]? with
        | none => simp [hq] at hi
        | some q =>
          simp [hq] at hi; subst hi
          exact fun id hn => h.res _ _ hr q (List.mem_of_getElem? hq) id (names_view hn)
      · rename_i hne
        exact absurd hc (hne cells)
    · simp at hc

theorem cellsOf_nm {res : Nat → Option Res} {d : DV} (h : Nm res d) {cs : List DV} (hc : cellsOf d = some cs) : ∀ c ∈ cs, Nm res c := by
  intro c hm
  cases d <;> simp only [cellsOf] at hc
  case undef => simp at hc
  case imm v =>
    cases v <;> simp at hc
    case agg xs =>
      subst hc
      simp at hm
      obtain ⟨x, _, rfl⟩ := hm
      exact Nm.imm _ _
    all_goals (subst hc; simp at hm; subst hm; exact Nm.imm _ _)
  case agg xs => simp at hc; subst hc; exact fun id hn => h id (by simp only [DV.names]; exact namesAll_mem hm hn)
  all_goals (simp at hc; subst hc; simp at hm; subst hm; exact h)

theorem mkAgg_nm {res : Nat → Option Res} {cs : List DV} (h : ∀ c ∈ cs, Nm res c) : Nm res (mkAgg cs) := by
  intro id hn
  obtain ⟨c, hc, hcn⟩ := names_mkAgg hn
  exact h c hc id hcn

theorem fillD_nm {res : Nat → Option Res} : ∀ {cells : List DV} {ps : List (Nat × Nat)} {as : List Arg} {out : List DV}, (∀ c ∈ cells, Nm res c) → (∀ a ∈ as, ArgOk res a) → fillD cells ps as = some out → ∀ c ∈ out, Nm res c
  | cells, [], [], out, hc, _, h => by simp [fillD] at h; subst h; exact hc
  | cells, [], _ :: _, out, _, _, h => by simp [fillD] at h
  | cells, p :: ps, [], out, _, _, h => by simp [fillD] at h
  | cells, (off, n) :: ps, a :: as, out, hc, ha, h => by
    simp only [fillD] at h
    split at h
    · rename_i cs hcs
      split at h
      · refine fillD_nm (fun c hm => ?_) (fun b hb => ha b (by simp [hb])) h
        unfold setCells at hm
        rcases List.mem_append.1 hm with k | k
        · exact hc c (List.mem_of_mem_take k)
        · rcases List.mem_append.1 k with k | k
          · exact cellsOf_nm (ha a (by simp)).vw hcs c k
          · exact hc c (List.mem_of_mem_drop k)
      · simp at h
    · simp at h

def zeroClean : Kind → Prop
  | .alloc zero => ∀ d ∈ zero, ∀ id, d.names id = false
  | .build zero _ => ∀ d ∈ zero, ∀ id, d.names id = false
  | .buildr zero _ => ∀ d ∈ zero, ∀ id, d.names id = false
  | _ => True

theorem zeroClean_of {P : Program} {op : Op} {kind : Kind} {xs : List Opd} (h : chkKind P op kind xs = true) : zeroClean kind := by
  have key : ∀ {t ds}, zeroIs P t ds = true → ∀ d ∈ ds, ∀ id, d.names id = false := by
    intro t ds hz
    obtain ⟨i, z, _, _, h3⟩ := zeroIs_of hz
    exact (zAll_get (w := default) (S := fun _ _ => True) (rho := id) (tau := fun _ => undef) h3).2.2.2
  cases kind <;> simp only [zeroClean]
  · simp only [chkKind] at h
    split at h
    · exact key h
    · simp at h
  · simp only [chkKind] at h
    split at h
    · simp only [Bool.and_eq_true, buildIs] at h
      exact key h.1.1.1.1
    · simp at h
  · simp only [chkKind] at h
    split at h
    · simp only [Bool.and_eq_true, buildIs] at h
      exact key h.1.1.1.1
    · simp at h

def NmOut (res : Nat → Option Res) (d : Nat) (K : DV → Option Res → Prop) (dv : DV) (nr : Option Res) : Prop :=
  K dv nr ∧ Nm (resWith res d nr) dv ∧ ∀ cells, nr = some (.box cells) → ∀ c ∈ cells, Nm res c

theorem NmOut.plain {res : Nat → Option Res} {d : Nat} {K : DV → Option Res → Prop} {dv : DV} (hk : K dv none) (h : Nm res dv) : NmOut res d K dv none := ⟨hk, h, fun _ h => by cases h⟩
theorem NmOut.imm {res : Nat → Option Res} {d : Nat} {K : DV → Option Res → Prop} {v : IV} (hk : K (.imm v) none) : NmOut res d K (.imm v) none := .plain hk (Nm.imm _ _)

theorem nm_ref_self (res : Nat → Option Res) (d off : Nat) (r : Res) : Nm (resWith res d (some r)) (.ref d off) := by
  intro id hn
  have : d = id := by simpa [DV.names] using hn
  subst this; simp [resWith, upd]

theorem names_ref {res : Nat → Option Res} {i o o' : Nat} (h : Nm res (.ref i o)) : Nm res (.ref i o') := fun id hn => h id (by simpa [DV.names] using hn)
theorem names_vec_ref {res : Nat → Option Res} {i o n o' : Nat} (h : Nm res (.vec i o n)) : Nm res (.ref i o') := fun id hn => h id (by simpa [DV.names] using hn)
theorem names_vec {res : Nat → Option Res} {i o n o' n' : Nat} (h : Nm res (.vec i o n)) : Nm res (.vec i o' n') := fun id hn => h id (by simpa [DV.names] using hn)

theorem load_closed {res : Nat → Option Res} {d : Nat} {agg : Bool} {n : Nat} {args : List Arg} {K : DV → Option Res → Prop} (hA : ∀ a ∈ args, ArgOk res a) (hs : semLoad K agg n args) : semLoad (NmOut res d K) agg n args := by
  match args, hs with
  | [x], hs =>
    have hx := hA x (by simp)
    simp only [semLoad] at hs ⊢
    split at hs
    · split at hs
      · rename_i off _ cells hrv
        split at hs
        · rename_i hag
          rw [if_pos hag]
          exact ⟨hs.1, .plain hs.2 (mkAgg_nm fun c hc => hx.rv cells hrv c (List.mem_of_mem_drop (List.mem_of_mem_take hc)))⟩
        · rename_i hag
          rw [if_neg hag]
          split at hs
          · rename_i cs hrs
            split at hs
            · rename_i c hcc
              exact .plain hs (hx.rs cs hrs c (List.mem_of_getElem? hcc))
            · exact hs.elim
          · exact hs.elim
      · exact ⟨hs.1, hs.2.1, .imm hs.2.2⟩
      · cases agg
        · exact ⟨hs.1, .imm hs.2⟩
        · exact ⟨hs.1, .imm hs.2⟩
      · exact hs.elim
    · split at hs
      · rename_i hag
        rw [if_pos hag]
        split at hs
        · exact ⟨hs.1, .imm hs.2⟩
        · exact hs.elim
      · rename_i hag
        rw [if_neg hag]
        obtain ⟨y, hy, hk⟩ := loadI_out hs
        exact hk _ (.imm hy)
    · exact hs.elim

theorem sem_closed {P : Program} {res : Nat → Option Res} {d : Nat} {kind : Kind} {args : List Arg} {K : DV → Option Res → Prop} (hz : zeroClean kind) (hA : ∀ a ∈ args, ArgOk res a) (hs : sem P d kind args K) :
    sem P d kind args (NmOut res d K) := by
  cases kind <;> simp only [sem] at hs ⊢
  case mov =>
    match args, hs with
    | [x], hs => exact .plain hs (hA x (by simp)).raw
  case movv =>
    match args, hs with
    | [x], hs => exact .plain hs (hA x (by simp)).vw
  case pick =>
    match args, hs with
    | [c, a, b], hs =>
      simp only [semPick] at hs ⊢
      split at hs
      · rename_i t ht
        exact .plain hs (by cases t; exact (hA b (by simp)).raw; exact (hA a (by simp)).raw)
      · exact hs.elim
  case ntok sz =>
    match args, hs with
    | [x], hs =>
      simp only [semNtok] at hs ⊢
      split at hs
      · refine ⟨hs, ?_, fun _ h => by cases h⟩
        intro id hn
        have : d = id := by simpa [DV.names] using hn
        subst this; simp [resWith, upd]
      · exact hs.elim
  case alloc zero =>
    match args, hs with
    | [], hs => exact ⟨hs, nm_ref_self _ _ _ _, fun cells h c hc => by cases h; exact fun id hn => by rw [hz c hc id] at hn; simp at hn⟩
  case box =>
    match args, hs with
    | [x], hs =>
      simp only [semBox] at hs ⊢
      split at hs
      · rename_i cs hcs
        exact ⟨hs, nm_ref_self _ _ _ _, fun cells h c hc => by cases h; exact cellsOf_nm (hA x (by simp)).raw hcs c hc⟩
      · exact hs.elim
  case build zero ps =>
    simp only [semBuild] at hs ⊢
    split at hs
    · rename_i out hf
      exact .plain hs (mkAgg_nm (fillD_nm (fun c hc id hn => by rw [hz c hc id] at hn; simp at hn) hA hf))
    · exact hs.elim
  case buildr zero ps =>
    simp only [semBuildr, semBuild] at hs ⊢
    split at hs
    · rename_i out hf
      exact .plain hs (mkAgg_nm (fillD_nm (fun c hc id hn => by rw [hz c hc id] at hn; simp at hn) (fun a ha => by obtain ⟨b, hb, rfl⟩ := List.mem_map.1 ha; exact (hA b hb).up) hf))
    · exact hs.elim
  case appq sz bytes =>
    match args, hs with
    | [x, y], hs =>
      simp only [semAppq] at hs ⊢
      split at hs
      · exact ⟨hs.1, hs.2.1, hs.2.2.1, hs.2.2.2.1, .imm hs.2.2.2.2⟩
      · exact hs.elim
  case aslice n =>
    match args, hs with
    | [x], hs =>
      simp only [semAslice] at hs ⊢
      split at hs
      · exact ⟨hs.1, hs.2.1, .imm hs.2.2⟩
      · exact hs.elim
  case px p =>
    simp only [semPx, optP, optK] at hs ⊢
    split at hs
    · split at hs
      · exact .imm hs
      · exact hs.elim
    · exact hs.elim
  case bsl sz =>
    simp only [semBsl] at hs ⊢
    split at hs
    · exact ⟨hs.1, .plain hs.2 (Nm.cap0 _ _ _)⟩
    · exact hs.elim
  case load agg n => exact load_closed hA hs
  case loadf agg n ids => exact ⟨hs.1, load_closed hA hs.2⟩
  case nilck =>
    match args, hs with
    | [x], hs =>
      have hx := (hA x (by simp)).raw.pt
      simp only [semNilck] at hs ⊢
      split at hs
      · rename_i e; rw [e] at hx; exact .plain hs hx
      · rename_i e; rw [e] at hx; exact .plain hs hx
      · rename_i e; rw [e] at hx; exact .plain hs hx
      · rename_i e; rw [e] at hx; exact .plain hs hx
      · exact hs.elim
  case bin op =>
    match args, hs with
    | [x, y], hs =>
      simp only [semBin] at hs ⊢
      split at hs
      · refine ⟨hs.1, ?_⟩
        have hs := hs.2
        cases op <;> simp only [binI, cmpI] at hs ⊢
        all_goals first
          | exact .imm hs
          | exact ⟨hs.1, .imm hs.2⟩
          | exact hs.elim
      · cases op <;> simp only at hs ⊢
        all_goals first
          | exact .imm hs
          | exact ⟨hs.1, .imm hs.2⟩
          | exact hs.elim
      · exact hs.elim
  case beq neg =>
    match args, hs with
    | [x, y], hs =>
      simp only [semBeq] at hs ⊢
      split at hs
      · exact .imm hs
      · exact hs.elim
  case pnil neg =>
    match args, hs with
    | [x, y], hs =>
      simp only [semPnil] at hs ⊢
      split at hs
      · exact .imm hs
      · exact hs.elim
  case qnil neg =>
    match args, hs with
    | [x, y], hs =>
      simp only [semQnil] at hs ⊢
      split at hs
      · exact .imm hs
      · exact hs.elim
  case eqs ks neg =>
    match args, hs with
    | [x, y], hs =>
      simp only [semEqs] at hs ⊢
      split at hs
      · split at hs
        · exact .imm hs
        · exact hs.elim
      · exact hs.elim
  case un op =>
    match args, hs with
    | [x], hs =>
      simp only [semUn] at hs ⊢
      split at hs
      · exact .imm hs
      · exact .imm hs
      · exact hs.elim
  case conv k =>
    match args, hs with
    | [x], hs =>
      simp only [semConv] at hs ⊢
      split at hs
      · exact .imm hs
      · exact hs.elim
  case mkfn f nf =>
    simp only [semMkfn] at hs ⊢
    refine ⟨hs.1, ?_⟩
    have hs := hs.2
    split at hs
    · exact .imm hs
    · refine .plain hs ?_
      intro id hn
      simp only [DV.names, Bool.or_eq_true] at hn
      have key : ∀ c ∈ args.map (·.raw), c.names id = true → (res id).isSome = true := by
        intro c hc hcn
        simp at hc
        obtain ⟨y, hy, rfl⟩ := hc
        exact (hA y hy).raw id hcn
      rcases hn with hn | hn
      · obtain ⟨c, hc, hcn⟩ := namesAll_of hn
        exact key c (List.mem_of_mem_take hc) hcn
      · obtain ⟨c, hc, hcn⟩ := namesAll_of hn
        exact key c (List.mem_of_mem_drop hc) hcn
  case slice sz lo hi =>
    match args, hs with
    | x :: bs, hs =>
      have hx := (hA x (by simp)).vw
      simp only [semSlice] at hs ⊢
      split at hs
      · split at hs
        · exact ⟨hs.1, hs.2.1, hs.2.2.1, hs.2.2.2.1, .imm hs.2.2.2.2⟩
        · exact hs.elim
      · rename_i e
        rw [e] at hx
        split at hs
        · exact ⟨hs.1, hs.2.1, hs.2.2.1, hs.2.2.2.1, .plain hs.2.2.2.2 (names_vec hx)⟩
        · exact hs.elim
      · exact hs.elim
  case sslice lo hi =>
    match args, hs with
    | x :: bs, hs =>
      simp only [semSslice] at hs ⊢
      split at hs
      · split at hs
        · exact ⟨hs.1, hs.2.1, hs.2.2.1, .imm hs.2.2.2⟩
        · exact hs.elim
      · exact hs.elim
  case slice3 sz =>
    match args, hs with
    | [x, l, h, m], hs =>
      simp only [semSlice3] at hs ⊢
      split at hs
      · exact ⟨hs.1, hs.2.1, hs.2.2.1, hs.2.2.2.1, hs.2.2.2.2.1, .plain hs.2.2.2.2.2 (Nm.cap0 _ _ _)⟩
      · exact hs.elim
  case faddr off agg n =>
    match args, hs with
    | [x], hs =>
      have hx := (hA x (by simp)).raw.pt
      simp only [semFaddr] at hs ⊢
      split at hs
      · rename_i e; rw [e] at hx; exact .plain hs (names_ref hx)
      · simp only [semPim] at hs ⊢
        split at hs
        · exact ⟨hs.1, hs.2.1, hs.2.2.1, .plain hs.2.2.2 (Nm.pim _ _)⟩
        · exact hs.elim
      · exact hs.elim
  case faddrp off agg n =>
    refine ⟨hs.1, ?_⟩
    replace hs := hs.2
    match args, hs with
    | [x], hs =>
      have hx := (hA x (by simp)).raw.pt
      simp only [semFaddr] at hs ⊢
      split at hs
      · rename_i e; rw [e] at hx; exact .plain hs (names_ref hx)
      · simp only [semPim] at hs ⊢
        split at hs
        · exact ⟨hs.1, hs.2.1, hs.2.2.1, .plain hs.2.2.2 (Nm.pim _ _)⟩
        · exact hs.elim
      · exact hs.elim
  case field off agg n =>
    match args, hs with
    | [x], hs =>
      have hx := (hA x (by simp)).vw
      simp only [semField] at hs ⊢
      split at hs
      · split at hs
        · exact ⟨hs.1, .imm hs.2⟩
        · exact hs.elim
      · rename_i cs e
        rw [e] at hx
        split at hs
        · rename_i v hp
          refine ⟨hs.1, .plain hs.2 fun id hn => ?_⟩
          obtain ⟨c, hcm, hcn⟩ := names_partDV hp hn
          exact hx id (by simp only [DV.names]; exact namesAll_mem hcm hcn)
        · exact hs.elim
      · exact hs.elim
  case iaddr sz =>
    match args, hs with
    | [x, i], hs =>
      have hx := (hA x (by simp)).vw
      simp only [semIaddr] at hs ⊢
      split at hs
      · exact ⟨hs.1, hs.2.1, hs.2.2.1, .plain hs.2.2.2 (Nm.pim _ _)⟩
      · rename_i e _; rw [e] at hx
        exact ⟨hs.1, hs.2.1, hs.2.2.1, .plain hs.2.2.2 (names_vec_ref hx)⟩
      · exact hs.elim
  case iarr len sz agg =>
    match args, hs with
    | [x, i], hs =>
      have hx := (hA x (by simp)).raw.pt
      simp only [semIarr] at hs ⊢
      split at hs
      · rename_i e _; rw [e] at hx
        exact ⟨hs.1, hs.2.1, .plain hs.2.2 (names_ref hx)⟩
      · refine ⟨hs.1, hs.2.1, ?_⟩
        have hs := hs.2.2
        simp only [semPim] at hs ⊢
        split at hs
        · exact ⟨hs.1, hs.2.1, hs.2.2.1, .plain hs.2.2.2 (Nm.pim _ _)⟩
        · exact hs.elim
      · exact hs.elim
  case index len sz agg =>
    match args, hs with
    | [x, i], hs =>
      have hx := (hA x (by simp)).vw
      simp only [semIndex] at hs ⊢
      split at hs
      · refine ⟨hs.1, hs.2.1, ?_⟩
        have hs := hs.2.2
        split at hs
        · exact ⟨hs.1, .imm hs.2⟩
        · exact hs.elim
      · rename_i cs k i e e2
        rw [e] at hx
        refine ⟨hs.1, hs.2.1, ?_⟩
        have hs := hs.2.2
        split at hs
        · rename_i v hp
          refine ⟨hs.1, .plain hs.2 fun id hn => ?_⟩
          obtain ⟨c, hcm, hcn⟩ := names_partDV hp hn
          exact hx id (by simp only [DV.names]; exact namesAll_mem hcm hcn)
        · exact hs.elim
      · exact hs.elim
  case sidx =>
    match args, hs with
    | [x, i], hs =>
      simp only [semSidx] at hs ⊢
      split at hs
      · exact ⟨hs.1, hs.2.1, .imm hs.2.2⟩
      · exact hs.elim
  case ext i =>
    match args, hs with
    | [x], hs =>
      simp only [semExt] at hs ⊢
      split at hs
      · split at hs
        · exact .imm hs
        · exact hs.elim
      · exact hs.elim
  case call =>
    match args, hs with
    | f :: as, hs =>
      simp only [semCall] at hs ⊢
      split at hs
      · split at hs
        · obtain ⟨r, h1, h2⟩ := hs
          exact ⟨r, h1, .imm h2⟩
        · exact hs.elim
      · exact hs.elim
  case len =>
    match args, hs with
    | [x], hs =>
      simp only [semLen] at hs ⊢
      split at hs
      · exact .imm hs
      · exact .imm hs
      · exact hs.elim
  case slen =>
    match args, hs with
    | [x], hs =>
      simp only [semSlen] at hs ⊢
      split at hs
      · exact .imm hs
      · exact hs.elim
  case alen n =>
    match args, hs with
    | [x], hs => exact .imm hs
  case mm mx =>
    match args, hs with
    | x :: r, hs =>
      simp only [semMm] at hs ⊢
      split at hs
      · split at hs
        · exact .imm hs
        · exact hs.elim
      · exact hs.elim
  case mksl zero bytes =>
    match args, hs with
    | [l, c], hs =>
      simp only [semMksl] at hs ⊢
      split at hs
      · refine ⟨hs.1, hs.2.1, hs.2.2.1, hs.2.2.2.1, hs.2.2.2.2.1, hs.2.2.2.2.2, ?_, fun _ h => by cases h⟩
        intro id hn
        have : d = id := by simpa [DV.names] using hn
        subst this; simp [resWith, upd]
      · exact hs.elim

end Go.DI

/- Operations that do not hang on one another may change places. No condition. -/
namespace Go.DI
open Go.RowKit

theorem Nm.mono {res res' : Nat → Option Res} (h : ∀ id, (res id).isSome = true → (res' id).isSome = true) {d : DV} (hn : Nm res d) : Nm res' d := fun id hd => h id (hn id hd)

theorem isSome_resWith {res : Nat → Option Res} {d : Nat} {nr : Option Res} {id : Nat} (h : (res id).isSome = true) : (resWith res d nr id).isSome = true := by
  cases nr with
  | none => exact h
  | some r =>
    simp only [resWith, upd]
    split
    · rfl
    · exact h

theorem put_res (st : St) (d : Nat) (v : DV) (nr : Option Res) : (st.put (some d) v nr).res = resWith st.res d nr := by
  cases nr <;> rfl

theorem Closed.put {st : St} (h : Closed st) {dst : Option Nat} {v : DV} {nr : Option Res} (hfr : nr.isSome = true → ∃ d, dst = some d ∧ st.res d = none) (hv : Nm (resWith st.res (dst.getD 0) nr) v) (hc : ∀ cells, nr = some (.box cells) → ∀ c ∈ cells, Nm st.res c) :
    Closed (st.put dst v nr) := by
  cases dst with
  | none =>
    cases nr with
    | none => exact h
    | some r => obtain ⟨d, hd, _⟩ := hfr rfl; cases hd
  | some d =>
    simp only [Option.getD] at hv
    have w : ∀ id, (st.res id).isSome = true → (((st.put (some d) v nr).res) id).isSome = true := fun id hid => by rw [put_res]; exact isSome_resWith hid
    refine ⟨fun x => ?_, fun id cells hr c hm => ?_⟩
    · by_cases hx : x = d
      · have e : (st.put (some d) v nr).env x = v := by simp [St.put, hx]
        rw [e, put_res]; exact hv
      · have e : (st.put (some d) v nr).env x = st.env x := by simp [St.put, hx]
        rw [e]; exact (h.env x).mono w
    · rw [put_res] at hr
      cases nr with
      | none => exact (h.res id cells hr c hm).mono w
      | some r =>
        simp only [resWith, upd] at hr
        split at hr
        · exact (hc cells hr c hm).mono w
        · exact (h.res id cells hr c hm).mono w

theorem Closed.setRes {st : St} (h : Closed st) {id : Nat} {r r' : Res} (_hid : st.res id = some r') (hc : ∀ cells, r = .box cells → ∀ c ∈ cells, Nm st.res c) : Closed (st.setRes id r) := by
  have w : ∀ i, (st.res i).isSome = true → (((st.setRes id r).res) i).isSome = true := fun i hi => by
    simp only [St.setRes]
    split
    · rfl
    · exact hi
  refine ⟨fun x => (h.env x).mono w, fun i cells hr c hm => ?_⟩
  simp only [St.setRes] at hr
  split at hr
  · exact (hc cells (by simpa using hr) c hm).mono w
  · exact (h.res i cells hr c hm).mono w

theorem semSt_closed {dst : Option Nat} {n : Nat} {xs : List Opd} {st : St} {K : St → Prop} (h : Closed st) (hs : semSt dst n xs st K) : semSt dst n xs st (fun s => K s ∧ Closed s) := by
  match xs, hs with
  | [a, x], hs =>
    simp only [semSt] at hs ⊢
    split at hs
    · split at hs
      · rename_i cells hid
        split at hs
        · rename_i cs hcs
          refine ⟨hs.1, hs.2.1, hs.2.2.1, hs.2.2.2, h.setRes hid fun cells' he c hc => ?_⟩
          cases he
          unfold setCells at hc
          rcases List.mem_append.1 hc with k | k
          · exact h.res _ _ hid c (List.mem_of_mem_take k)
          · rcases List.mem_append.1 k with k | k
            · exact cellsOf_nm (fun id hn => St.evC (fun x id hn => h.env x id hn) x id hn) hcs c k
            · exact h.res _ _ hid c (List.mem_of_mem_drop k)
        · exact hs.elim
      · rename_i es hid
        split at hs
        · exact ⟨hs.1, hs.2.1, hs.2.2.1, hs.2.2.2.1, hs.2.2.2.2.1, hs.2.2.2.2.2, h.setRes hid fun cells he => by cases he⟩
        · exact hs.elim
      · exact hs.elim
    · exact hs.elim

theorem semW_closed {P : Program} {dst : Option Nat} {kind : Kind} {xs : List Opd} {st : St} {K : St → Prop} (h : Closed st) (hs : semW P dst kind xs st K) : semW P dst kind xs st (fun s => K s ∧ Closed s) := by
  cases kind <;> try (exact hs.elim)
  case store n => exact semSt_closed h hs
  case storef n ids =>
    match xs, hs with
    | a :: xs, hs => exact ⟨hs.1, semSt_closed h hs.2⟩
  case append sz bytes weak =>
    match xs, hs with
    | [x, y], hs =>
      simp only [semW] at hs ⊢
      split at hs
      · rename_i t z ys e1 e2
        split at hs
        · rename_i z' es hres
          refine ⟨hs.1, hs.2.1, hs.2.2.1, hs.2.2.2.1, hs.2.2.2.2, ?_⟩
          have hC : Closed { env := fun i => strip t (.slc sz es) (st.env i), res := fun i => if i = t then some (.tok sz (es ++ ys)) else (st.res i).map (stripRes t (.slc sz es)) } := by
            have w : ∀ i, (st.res i).isSome = true → ((if i = t then some (Res.tok sz (es ++ ys)) else (st.res i).map (stripRes t (.slc sz es)))).isSome = true := fun i hi => by
              split
              · rfl
              · simpa using hi
            refine ⟨fun x id hn => w id (h.env x id (names_strip hn).1), fun i cells hr c hm => ?_⟩
            dsimp only at hr
            split at hr
            · cases hr
            · cases hr0 : st.res i with
              | none => rw [hr0] at hr; simp at hr
              | some r0 =>
                rw [hr0] at hr
                cases r0 <;> simp [stripRes] at hr
                subst hr
                obtain ⟨c0, hc0, rfl⟩ := mem_stripAll hm
                exact fun id hn => w id (h.res i _ hr0 c0 hc0 id (names_strip hn).1)
          refine hC.put (fun h => by cases h) ?_ (fun _ h => by cases h)
          intro id hn
          have : t = id := by simpa [DV.names] using hn
          subst this
          simp [resWith]
        · exact hs.elim
      · refine ⟨hs.1, hs.2.1, hs.2.2.1, hs.2.2.2.1, ?_⟩
        have hs := hs.2.2.2.2
        split at hs
        · split at hs
          · rename_i hw
            rw [if_pos hw]
            exact ⟨hs, h.put (fun h => by cases h) (Nm.imm _ _) (fun _ h => by cases h)⟩
          · rename_i hw
            rw [if_neg hw]
            refine ⟨hs.1, hs.2, h.put (fun _ => ⟨_, rfl, hs.1⟩) ?_ (fun _ h => by cases h)⟩
            intro id hn
            have := hn
            simp only [DV.names, beq_iff_eq] at this
            subst this; simp [resWith, upd]
        · exact hs.elim
      · exact ⟨hs.1, hs.2.1, hs.2.2, h.put (fun h => by cases h) (Nm.imm _ _) (fun _ h => by cases h)⟩
      · exact hs.elim
  case copy =>
    match xs, hs with
    | [x, y], hs =>
      simp only [semW] at hs ⊢
      split at hs
      · split at hs
        · rename_i es hid
          refine ⟨hs.1, hs.2.1, hs.2.2.1, hs.2.2.2, Closed.put (h.setRes hid fun cells he => by cases he) (fun h => by cases h) (Nm.imm _ _) (fun _ h => by cases h)⟩
        · exact hs.elim
      · exact hs.elim
  case yield =>
    match xs, hs with
    | f :: ys, hs =>
      simp only [semW] at hs ⊢
      split at hs
      · rename_i hid
        exact ⟨hs.1, hs.2.1, fun hi => ⟨hs.2.2.1 hi, Closed.put (h.setRes hid fun cells he => by cases he) (fun h => by cases h) (Nm.imm _ _) (fun _ h => by cases h)⟩,
          ⟨hs.2.2.2, Closed.put (h.setRes hid fun cells he => by cases he) (fun h => by cases h) (Nm.imm _ _) (fun _ h => by cases h)⟩⟩
      · exact hs.elim
  case snil neg =>
    match xs, hs with
    | [x, y], hs =>
      simp only [semW] at hs ⊢
      split at hs
      · exact ⟨hs, h.put (fun h => by cases h) (Nm.imm _ _) (fun _ h => by cases h)⟩
      · split at hs
        · exact ⟨fun e => ⟨hs.1 e, h.put (fun h => by cases h) (Nm.imm _ _) (fun _ h => by cases h)⟩, hs.2, h.put (fun h => by cases h) (Nm.imm _ _) (fun _ h => by cases h)⟩
        · exact hs.elim
  case callb ids =>
    match xs, hs with
    | f :: ys, hs =>
      simp only [semW] at hs ⊢
      split at hs
      · obtain ⟨Phi, h1, h2, h0, h3⟩ := hs
        refine ⟨Phi, h1, h2, h0, fun r R' hp hc hn => ⟨(h3 r R' hp hc hn).1, (h3 r R' hp hc hn).2, ?_⟩⟩
        have w1 : ∀ i, (R' i).isSome = true → (withRes R' st.res i).isSome = true := fun i hi => by
          unfold withRes
          cases h0 : R' i with
          | none => rw [h0] at hi; cases hi
          | some _ => rfl
        have w2 : ∀ i, (st.res i).isSome = true → (withRes R' st.res i).isSome = true := fun i hi => by
          unfold withRes
          cases h0 : R' i with
          | none => exact hi
          | some _ => rfl
        have hC : Closed { st with res := withRes R' st.res } := by
          refine ⟨fun x => (h.env x).mono w2, fun id cells hr c hm => ?_⟩
          simp only [withRes] at hr
          split at hr
          · rename_i r0 h0
            cases hr
            exact (hc id cells h0 c hm).mono w1
          · exact (h.res id cells hr c hm).mono w2
        exact hC.put (fun h => by cases h) (hn.mono w1) (fun _ h => by cases h)
      · exact hs.elim

theorem load_wit {agg : Bool} {n : Nat} {args : List Arg} {K : DV → Option Res → Prop} (hs : semLoad K agg n args) : ∃ dv nr, K dv nr ∧ ∀ K' : DV → Option Res → Prop, K' dv nr → semLoad K' agg n args := by
  match args, hs with
  | [x], hs =>
    simp only [semLoad] at hs ⊢
    split at hs
    · split at hs
      · rename_i off _ cells hrv
        split at hs
        · rename_i hag
          simp only [if_pos hag]
          exact ⟨_, _, hs.2, fun _ hk => ⟨hs.1, hk⟩⟩
        · rename_i hag
          simp only [if_neg hag]
          split at hs
          · rename_i cs hrs
            split at hs
            · rename_i c hcc
              exact ⟨_, _, hs, fun _ hk => hk⟩
            · exact hs.elim
          · exact hs.elim
      · exact ⟨_, _, hs.2.2, fun _ hk => ⟨hs.1, hs.2.1, hk⟩⟩
      · cases agg
        · exact ⟨_, _, hs.2, fun _ hk => ⟨hs.1, hk⟩⟩
        · exact ⟨_, _, hs.2, fun _ hk => ⟨hs.1, hk⟩⟩
      · exact hs.elim
    · split at hs
      · rename_i hag
        simp only [if_pos hag]
        split at hs
        · exact ⟨_, _, hs.2, fun _ hk => ⟨hs.1, hk⟩⟩
        · exact hs.elim
      · rename_i hag
        simp only [if_neg hag]
        obtain ⟨y, hy, hk⟩ := loadI_out hs
        exact ⟨_, _, hy, hk⟩
    · exact hs.elim

theorem sem_wit {P : Program} {d : Nat} {kind : Kind} {args : List Arg} {K : DV → Option Res → Prop} (hs : sem P d kind args K) :
    ∃ dv nr, K dv nr ∧ ∀ K' : DV → Option Res → Prop, K' dv nr → sem P d kind args K' := by
  cases kind <;> simp only [sem] at hs ⊢
  case mov =>
    match args, hs with
    | [x], hs => exact ⟨_, _, hs, fun _ hk => hk⟩
  case movv =>
    match args, hs with
    | [x], hs => exact ⟨_, _, hs, fun _ hk => hk⟩
  case pick =>
    match args, hs with
    | [c, a, b], hs =>
      simp only [semPick] at hs ⊢
      split at hs
      · rename_i t ht
        exact ⟨_, _, hs, fun _ hk => hk⟩
      · exact hs.elim
  case ntok sz =>
    match args, hs with
    | [x], hs =>
      simp only [semNtok] at hs ⊢
      split at hs
      · exact ⟨_, _, hs, fun _ hk => hk⟩
      · exact hs.elim
  case alloc zero =>
    match args, hs with
    | [], hs => exact ⟨_, _, hs, fun _ hk => hk⟩
  case box =>
    match args, hs with
    | [x], hs =>
      simp only [semBox] at hs ⊢
      split at hs
      · rename_i cs hcs
        exact ⟨_, _, hs, fun _ hk => hk⟩
      · exact hs.elim
  case build zero ps =>
    simp only [semBuild] at hs ⊢
    split at hs
    · rename_i out hf
      exact ⟨_, _, hs, fun _ hk => hk⟩
    · exact hs.elim
  case buildr zero ps =>
    simp only [semBuildr, semBuild] at hs ⊢
    split at hs
    · exact ⟨_, _, hs, fun _ hk => hk⟩
    · exact hs.elim
  case appq sz bytes =>
    match args, hs with
    | [x, y], hs =>
      simp only [semAppq] at hs ⊢
      split at hs
      · exact ⟨_, _, hs.2.2.2.2, fun _ hk => ⟨hs.1, hs.2.1, hs.2.2.1, hs.2.2.2.1, hk⟩⟩
      · exact hs.elim
  case aslice n =>
    match args, hs with
    | [x], hs =>
      simp only [semAslice] at hs ⊢
      split at hs
      · exact ⟨_, _, hs.2.2, fun _ hk => ⟨hs.1, hs.2.1, hk⟩⟩
      · exact hs.elim
  case px p =>
    simp only [semPx, optP, optK] at hs ⊢
    split at hs
    · split at hs
      · exact ⟨_, _, hs, fun _ hk => hk⟩
      · exact hs.elim
    · exact hs.elim
  case bsl sz =>
    simp only [semBsl] at hs ⊢
    split at hs
    · exact ⟨_, _, hs.2, fun _ hk => ⟨hs.1, hk⟩⟩
    · exact hs.elim
  case load agg n => exact load_wit hs
  case loadf agg n ids =>
    obtain ⟨dv, nr, h1, h2⟩ := load_wit hs.2
    exact ⟨dv, nr, h1, fun K' hk => ⟨hs.1, h2 K' hk⟩⟩
  case nilck =>
    match args, hs with
    | [x], hs =>
      simp only [semNilck] at hs ⊢
      split at hs
      · exact ⟨_, _, hs, fun _ hk => hk⟩
      · exact ⟨_, _, hs, fun _ hk => hk⟩
      · exact ⟨_, _, hs, fun _ hk => hk⟩
      · exact ⟨_, _, hs, fun _ hk => hk⟩
      · exact hs.elim
  case bin op =>
    match args, hs with
    | [x, y], hs =>
      simp only [semBin] at hs ⊢
      split at hs
      · cases op <;> simp only [binI, cmpI] at hs ⊢
        all_goals first
          | exact ⟨_, _, hs.2.2, fun _ hk => ⟨hs.1, hs.2.1, hk⟩⟩
          | exact ⟨_, _, hs.2, fun _ hk => ⟨hs.1, hk⟩⟩
          | exact hs.2.elim
      · cases op <;> simp only at hs ⊢
        all_goals first
          | exact ⟨_, _, hs, fun _ hk => hk⟩
          | exact ⟨_, _, hs.2, fun _ hk => ⟨hs.1, hk⟩⟩
          | exact hs.elim
      · exact hs.elim
  case beq neg =>
    match args, hs with
    | [x, y], hs =>
      simp only [semBeq] at hs ⊢
      split at hs
      · exact ⟨_, _, hs, fun _ hk => hk⟩
      · exact hs.elim
  case pnil neg =>
    match args, hs with
    | [x, y], hs =>
      simp only [semPnil] at hs ⊢
      split at hs
      · exact ⟨_, _, hs, fun _ hk => hk⟩
      · exact hs.elim
  case qnil neg =>
    match args, hs with
    | [x, y], hs =>
      simp only [semQnil] at hs ⊢
      split at hs
      · exact ⟨_, _, hs, fun _ hk => hk⟩
      · exact hs.elim
  case eqs ks neg =>
    match args, hs with
    | [x, y], hs =>
      simp only [semEqs] at hs ⊢
      split at hs
      · split at hs
        · exact ⟨_, _, hs, fun _ hk => hk⟩
        · exact hs.elim
      · exact hs.elim
  case un op =>
    match args, hs with
    | [x], hs =>
      simp only [semUn] at hs ⊢
      split at hs
      · exact ⟨_, _, hs, fun _ hk => hk⟩
      · exact ⟨_, _, hs, fun _ hk => hk⟩
      · exact hs.elim
  case conv k =>
    match args, hs with
    | [x], hs =>
      simp only [semConv] at hs ⊢
      split at hs
      · exact ⟨_, _, hs, fun _ hk => hk⟩
      · exact hs.elim
  case mkfn f nf =>
    simp only [semMkfn] at hs ⊢
    obtain ⟨h1, hs⟩ := hs
    split at hs
    · exact ⟨_, _, hs, fun _ hk => ⟨h1, hk⟩⟩
    · exact ⟨_, _, hs, fun _ hk => ⟨h1, hk⟩⟩
  case slice sz lo hi =>
    match args, hs with
    | x :: bs, hs =>
      simp only [semSlice] at hs ⊢
      split at hs
      · split at hs
        · exact ⟨_, _, hs.2.2.2.2, fun _ hk => ⟨hs.1, hs.2.1, hs.2.2.1, hs.2.2.2.1, hk⟩⟩
        · exact hs.elim
      · split at hs
        · exact ⟨_, _, hs.2.2.2.2, fun _ hk => ⟨hs.1, hs.2.1, hs.2.2.1, hs.2.2.2.1, hk⟩⟩
        · exact hs.elim
      · exact hs.elim
  case sslice lo hi =>
    match args, hs with
    | x :: bs, hs =>
      simp only [semSslice] at hs ⊢
      split at hs
      · split at hs
        · exact ⟨_, _, hs.2.2.2, fun _ hk => ⟨hs.1, hs.2.1, hs.2.2.1, hk⟩⟩
        · exact hs.elim
      · exact hs.elim
  case slice3 sz =>
    match args, hs with
    | [x, l, h, m], hs =>
      simp only [semSlice3] at hs ⊢
      split at hs
      · exact ⟨_, _, hs.2.2.2.2.2, fun _ hk => ⟨hs.1, hs.2.1, hs.2.2.1, hs.2.2.2.1, hs.2.2.2.2.1, hk⟩⟩
      · exact hs.elim
  case faddr off agg n =>
    match args, hs with
    | [x], hs =>
      simp only [semFaddr] at hs ⊢
      split at hs
      · exact ⟨_, _, hs, fun _ hk => hk⟩
      · simp only [semPim] at hs ⊢
        split at hs
        · exact ⟨_, _, hs.2.2.2, fun _ hk => ⟨hs.1, hs.2.1, hs.2.2.1, hk⟩⟩
        · exact hs.elim
      · exact hs.elim
  case faddrp off agg n =>
    obtain ⟨h0, hs⟩ := hs
    match args, hs, h0 with
    | [x], hs, h0 =>
      simp only [semFaddrp, semFaddr] at hs ⊢
      split at hs
      · exact ⟨_, _, hs, fun _ hk => ⟨h0, hk⟩⟩
      · simp only [semPim] at hs ⊢
        split at hs
        · exact ⟨_, _, hs.2.2.2, fun _ hk => ⟨h0, hs.1, hs.2.1, hs.2.2.1, hk⟩⟩
        · exact hs.elim
      · exact hs.elim
  case field off agg n =>
    match args, hs with
    | [x], hs =>
      simp only [semField] at hs ⊢
      split at hs
      · split at hs
        · exact ⟨_, _, hs.2, fun _ hk => ⟨hs.1, hk⟩⟩
        · exact hs.elim
      · split at hs
        · exact ⟨_, _, hs.2, fun _ hk => ⟨hs.1, hk⟩⟩
        · exact hs.elim
      · exact hs.elim
  case iaddr sz =>
    match args, hs with
    | [x, i], hs =>
      simp only [semIaddr] at hs ⊢
      split at hs
      · exact ⟨_, _, hs.2.2.2, fun _ hk => ⟨hs.1, hs.2.1, hs.2.2.1, hk⟩⟩
      ·         exact ⟨_, _, hs.2.2.2, fun _ hk => ⟨hs.1, hs.2.1, hs.2.2.1, hk⟩⟩
      · exact hs.elim
  case iarr len sz agg =>
    match args, hs with
    | [x, i], hs =>
      simp only [semIarr] at hs ⊢
      split at hs
      ·         exact ⟨_, _, hs.2.2, fun _ hk => ⟨hs.1, hs.2.1, hk⟩⟩
      · obtain ⟨h1, h2, hs⟩ := hs
        simp only [semPim] at hs ⊢
        split at hs
        · exact ⟨_, _, hs.2.2.2, fun _ hk => ⟨h1, h2, hs.1, hs.2.1, hs.2.2.1, hk⟩⟩
        · exact hs.elim
      · exact hs.elim
  case index len sz agg =>
    match args, hs with
    | [x, i], hs =>
      simp only [semIndex] at hs ⊢
      split at hs
      · obtain ⟨h1, h2, hs⟩ := hs
        split at hs
        · exact ⟨_, _, hs.2, fun _ hk => ⟨h1, h2, hs.1, hk⟩⟩
        · exact hs.elim
      · obtain ⟨h1, h2, hs⟩ := hs
        split at hs
        · exact ⟨_, _, hs.2, fun _ hk => ⟨h1, h2, hs.1, hk⟩⟩
        · exact hs.elim
      · exact hs.elim
  case sidx =>
    match args, hs with
    | [x, i], hs =>
      simp only [semSidx] at hs ⊢
      split at hs
      · exact ⟨_, _, hs.2.2, fun _ hk => ⟨hs.1, hs.2.1, hk⟩⟩
      · exact hs.elim
  case ext i =>
    match args, hs with
    | [x], hs =>
      simp only [semExt] at hs ⊢
      split at hs
      · split at hs
        · exact ⟨_, _, hs, fun _ hk => hk⟩
        · exact hs.elim
      · exact hs.elim
  case call =>
    match args, hs with
    | f :: as, hs =>
      simp only [semCall] at hs ⊢
      split at hs
      · split at hs
        · obtain ⟨r, h1, h2⟩ := hs
          exact ⟨_, _, h2, fun _ hk => ⟨r, h1, hk⟩⟩
        · exact hs.elim
      · exact hs.elim
  case len =>
    match args, hs with
    | [x], hs =>
      simp only [semLen] at hs ⊢
      split at hs
      · exact ⟨_, _, hs, fun _ hk => hk⟩
      · exact ⟨_, _, hs, fun _ hk => hk⟩
      · exact hs.elim
  case slen =>
    match args, hs with
    | [x], hs =>
      simp only [semSlen] at hs ⊢
      split at hs
      · exact ⟨_, _, hs, fun _ hk => hk⟩
      · exact hs.elim
  case alen n =>
    match args, hs with
    | [x], hs => exact ⟨_, _, hs, fun _ hk => hk⟩
  case mm mx =>
    match args, hs with
    | x :: r, hs =>
      simp only [semMm] at hs ⊢
      split at hs
      · split at hs
        · exact ⟨_, _, hs, fun _ hk => hk⟩
        · exact hs.elim
      · exact hs.elim
  case mksl zero bytes =>
    match args, hs with
    | [l, c], hs =>
      simp only [semMksl] at hs ⊢
      split at hs
      · exact ⟨_, _, hs.2.2.2.2.2, fun _ hk => ⟨hs.1, hs.2.1, hs.2.2.1, hs.2.2.2.1, hs.2.2.2.2.1, hk⟩⟩
      · exact hs.elim

theorem sem_mono {P : Program} {d : Nat} {kind : Kind} {args : List Arg} {K K' : DV → Option Res → Prop} (hK : ∀ v nr, K v nr → K' v nr) (hs : sem P d kind args K) : sem P d kind args K' := by
  obtain ⟨dv, nr, h1, h2⟩ := sem_wit hs
  exact h2 K' (hK dv nr h1)

theorem wpDO_closed {P : Program} {q : DO} {st : St} {K : St → Prop} (h : Closed st) (hz : zeroClean q.kind) (hs : wpDO P q st K) : wpDO P q st (fun s => K s ∧ Closed s) := by
  unfold wpDO at hs ⊢
  split at hs
  · rename_i hw; rw [if_pos hw]; exact semW_closed h hs
  · rename_i hw
    rw [if_neg hw]
    refine sem_mono ?_ (sem_closed (res := st.res) hz (fun a ha => by
      obtain ⟨y, _, rfl⟩ := List.mem_map.1 ha
      exact h.arg y) hs)
    rintro v nr ⟨⟨h1, h2⟩, h3, h4⟩
    exact ⟨h1, h2, h.put h1 h3 h4⟩

theorem wpG_closed {P : Program} {q : DO} {st : St} {K : St → Prop} (h : Closed st) (hz : zeroClean q.kind) (hs : wpG P q st K) : wpG P q st (fun s => K s ∧ Closed s) := by
  unfold wpG at hs ⊢
  split at hs
  · exact wpDO_closed h hz hs
  · split at hs
    · exact ⟨fun e => wpDO_closed h hz (hs.1 e), fun e => ⟨hs.2 e, h.put (fun h => by cases h) (Nm.imm _ _) (fun _ h => by cases h)⟩⟩
    · exact hs.elim

end Go.DI

/- Operations that do not hang on one another may change places: a region in whatever order. No condition. -/
namespace Go.DI
open Go.RowKit

theorem semSt_mono {dst : Option Nat} {n : Nat} {xs : List Opd} {st : St} {K K' : St → Prop} (hK : ∀ s, K s → K' s) (hs : semSt dst n xs st K) : semSt dst n xs st K' := by
  match xs, hs with
  | [a, x], hs =>
    simp only [semSt] at hs ⊢
    split at hs
    · split at hs
      · split at hs
        · exact ⟨hs.1, hs.2.1, hs.2.2.1, hK _ hs.2.2.2⟩
        · exact hs.elim
      · split at hs
        · exact ⟨hs.1, hs.2.1, hs.2.2.1, hs.2.2.2.1, hs.2.2.2.2.1, hK _ hs.2.2.2.2.2⟩
        · exact hs.elim
      · exact hs.elim
    · exact hs.elim

theorem semW_mono {P : Program} {dst : Option Nat} {kind : Kind} {xs : List Opd} {st : St} {K K' : St → Prop} (hK : ∀ s, K s → K' s) (hs : semW P dst kind xs st K) : semW P dst kind xs st K' := by
  cases kind <;> try (exact hs.elim)
  case store n => exact semSt_mono hK hs
  case storef n ids =>
    match xs, hs with
    | a :: xs, hs => exact ⟨hs.1, semSt_mono hK hs.2⟩
  case append sz bytes weak =>
    match xs, hs with
    | [x, y], hs =>
      simp only [semW] at hs ⊢
      split at hs
      · split at hs
        · exact ⟨hs.1, hs.2.1, hs.2.2.1, hs.2.2.2.1, hK _ hs.2.2.2.2⟩
        · exact hs.elim
      · refine ⟨hs.1, hs.2.1, hs.2.2.1, hs.2.2.2.1, ?_⟩
        have hs := hs.2.2.2.2
        split at hs
        · split at hs
          · rename_i hw
            rw [if_pos hw]
            exact hK _ hs
          · rename_i hw
            rw [if_neg hw]
            exact ⟨hs.1, hK _ hs.2⟩
        · exact hs.elim
      · exact ⟨hs.1, hs.2.1, hK _ hs.2.2⟩
      · exact hs.elim
  case copy =>
    match xs, hs with
    | [x, y], hs =>
      simp only [semW] at hs ⊢
      split at hs
      · split at hs
        · exact ⟨hs.1, hs.2.1, hs.2.2.1, hK _ hs.2.2.2⟩
        · exact hs.elim
      · exact hs.elim
  case yield =>
    match xs, hs with
    | f :: ys, hs =>
      simp only [semW] at hs ⊢
      split at hs
      · exact ⟨hs.1, hs.2.1, fun hi => hK _ (hs.2.2.1 hi), hK _ hs.2.2.2⟩
      · exact hs.elim
  case snil neg =>
    match xs, hs with
    | [x, y], hs =>
      simp only [semW] at hs ⊢
      split at hs
      · exact hK _ hs
      · split at hs
        · exact ⟨fun e => hK _ (hs.1 e), hK _ hs.2⟩
        · exact hs.elim
  case callb ids =>
    match xs, hs with
    | f :: ys, hs =>
      simp only [semW] at hs ⊢
      split at hs
      · obtain ⟨Phi, h1, h2, h0, h3⟩ := hs
        exact ⟨Phi, h1, h2, h0, fun r R' hp hc hn => ⟨(h3 r R' hp hc hn).1, hK _ (h3 r R' hp hc hn).2⟩⟩
      · exact hs.elim

theorem wpDO_mono {P : Program} {q : DO} {st : St} {K K' : St → Prop} (hK : ∀ s, K s → K' s) (hs : wpDO P q st K) : wpDO P q st K' := by
  unfold wpDO at hs ⊢
  split at hs
  · rename_i hw; rw [if_pos hw]; exact semW_mono hK hs
  · rename_i hw; rw [if_neg hw]; exact sem_mono (fun v nr h => ⟨h.1, hK _ h.2⟩) hs

theorem wpG_mono {P : Program} {q : DO} {st : St} {K K' : St → Prop} (hK : ∀ s, K s → K' s) (hs : wpG P q st K) : wpG P q st K' := by
  unfold wpG at hs ⊢
  split at hs
  · exact wpDO_mono hK hs
  · split at hs
    · exact ⟨fun e => wpDO_mono hK (hs.1 e), fun e => hK _ (hs.2 e)⟩
    · exact hs.elim

theorem wpG_mono_closed {P : Program} {q : DO} {st : St} {K K' : St → Prop} (h : Closed st) (hz : zeroClean q.kind) (hK : ∀ s, Closed s → K s → K' s) (hs : wpG P q st K) : wpG P q st K' :=
  wpG_mono (fun s k => hK s k.2 k.1) (wpG_closed h hz hs)

theorem view_agree {res res' : Nat → Option Res} : ∀ {d : DV}, (∀ id, d.names id = true → res' id = res id) → view res' d = view res d := by
  intro d
  exact DV.rec (motive_1 := fun d => (∀ id, d.names id = true → res' id = res id) → view res' d = view res d)
    (motive_2 := fun cs => (∀ id, DV.names.namesAll id cs = true → res' id = res id) → viewAll res' cs = viewAll res cs)
    (by intro h; rfl)
    (by intro v h; rfl)
    (by intro i q h; unfold view; rw [h i (by simp [DV.names])])
    (by intro v h; rfl)
    (by intro i q n h; unfold view; rw [h i (by simp [DV.names])])
    (by intro t h; unfold view; rw [h t (by simp [DV.names])])
    (by intro sz es h; rfl)
    (by intro cs ih h; unfold view; rw [ih (fun id hid => h id (by simpa [DV.names] using hid))])
    (by
      intro f p q ih1 ih2 h
      unfold view
      rw [ih1 (fun id hid => h id (by simp [DV.names, hid])), ih2 (fun id hid => h id (by simp [DV.names, hid]))])
    (by intro l h; rfl)
    (by intro z h; rfl)
    (by intro h; rfl)
    (by
      intro d r ih1 ih2 h
      unfold viewAll
      rw [ih1 (fun id hid => h id (by simp [DV.names.namesAll, hid])), ih2 (fun id hid => h id (by simp [DV.names.namesAll, hid]))]) d

def DO.reads (q : DO) : List Nat := (q.xs.filterMap fun | .t n => some n | _ => none) ++ (match q.guard with | some (g, _) => [g] | none => [])

def DO.isSt (q : DO) : Bool := (match q.kind with | .store _ | .storef .. => true | _ => false) && q.guard.isNone

def freeOf (p q : Kind) : Bool :=
  !p.writes && (match p with
    | .load .. => false
    | .loadf _ _ ids => (match q with | .storef _ ids' => ids.all fun i => !ids'.contains i | _ => false)
    | _ => true)

def slotsApart (p q : DO) : Bool :=
  (match p.dst with | some d => !q.reads.contains d && q.dst != some d | none => true) &&
  (match q.dst with | some d => !p.reads.contains d | none => true)

def DO.isMov (q : DO) : Bool := (match q.kind with | .mov => true | _ => false) && q.guard.isNone
def DO.isApp (q : DO) : Bool := (match q.kind with | .append .. => true | _ => false) && q.guard.isNone

def DO.isLdf (q : DO) : Bool := (match q.kind with | .loadf _ _ [] => true | .faddrp .. => true | _ => false) && q.guard.isNone

def DO.isCb (q : DO) : Bool := (match q.kind with | .callb [] => true | _ => false) && q.guard.isNone

def indep (p q : DO) : Bool :=
  slotsApart p q && ((!p.kind.writes && q.isCb) || (!p.kind.writes && !q.kind.writes) || (p.isSt && freeOf q.kind p.kind) || (q.isSt && freeOf p.kind q.kind) || (p.isMov && q.isApp) || (q.isMov && p.isApp) || (p.isLdf && q.isApp) || (q.isLdf && p.isApp))

def QW (P : Program) (q : DO) (st : St) (dv : DV) (nr : Option Res) : Prop :=
  match q.guard with
  | none => ∀ K' : DV → Option Res → Prop, K' dv nr → sem P (q.dst.getD 0) q.kind (q.xs.map st.arg) K'
  | some (g, want) => match gval (st.env g) with
    | some b => (b = some want → ∀ K' : DV → Option Res → Prop, K' dv nr → sem P (q.dst.getD 0) q.kind (q.xs.map st.arg) K') ∧ (b ≠ some want → dv = skipV ∧ nr = none)
    | none => False

theorem wpG_qw {P : Program} {q : DO} {st : St} {K : St → Prop} (hw : q.kind.writes = false) (hs : wpG P q st K) :
    ∃ dv nr, QW P q st dv nr ∧ (nr.isSome = true → ∃ d, q.dst = some d ∧ st.res d = none) ∧ K (st.put q.dst dv nr) := by
  unfold wpG wpDO at hs
  unfold QW
  simp only [hw, Bool.false_eq_true, if_false] at hs
  cases hg : q.guard with
  | none =>
    simp only [hg] at hs ⊢
    obtain ⟨dv, nr, h1, h2⟩ := sem_wit hs
    exact ⟨dv, nr, h2, h1⟩
  | some gw =>
    obtain ⟨g, want⟩ := gw
    simp only [hg] at hs ⊢
    split at hs
    · rename_i b hb
      simp only [hb]
      by_cases hbw : b = some want
      · obtain ⟨dv, nr, h1, h2⟩ := sem_wit (hs.1 hbw)
        exact ⟨dv, nr, ⟨fun _ => h2, fun h => absurd hbw h⟩, h1⟩
      · refine ⟨skipV, none, ⟨fun h => absurd h hbw, fun _ => ⟨rfl, rfl⟩⟩, (fun h => (by cases h)), hs.2 hbw⟩
    · exact hs.elim

theorem qw_wpG {P : Program} {q : DO} {st : St} {K : St → Prop} (hw : q.kind.writes = false) {dv : DV} {nr : Option Res} (h : QW P q st dv nr) (hf : nr.isSome = true → ∃ d, q.dst = some d ∧ st.res d = none) (hK : K (st.put q.dst dv nr)) : wpG P q st K := by
  unfold QW at h
  unfold wpG wpDO
  simp only [hw, Bool.false_eq_true, if_false]
  cases hg : q.guard with
  | none =>
    simp only [hg] at h ⊢
    exact h _ ⟨hf, hK⟩
  | some gw =>
    obtain ⟨g, want⟩ := gw
    simp only [hg] at h ⊢
    split at h
    · rename_i b hb
      simp only [hb]
      refine ⟨fun e => h.1 e _ ⟨hf, hK⟩, fun e => ?_⟩
      obtain ⟨rfl, rfl⟩ := h.2 e
      exact hK
    · exact h.elim

theorem qw_agree {P : Program} {q : DO} {st st' : St} (hx : q.xs.map st'.arg = q.xs.map st.arg) (hg : ∀ g w, q.guard = some (g, w) → st'.env g = st.env g) {dv : DV} {nr : Option Res} (h : QW P q st dv nr) : QW P q st' dv nr := by
  unfold QW at h ⊢
  rw [hx]
  cases hgd : q.guard with
  | none => simp only [hgd] at h ⊢; exact h
  | some gw =>
    obtain ⟨g, w⟩ := gw
    simp only [hgd] at h ⊢
    rw [hg g w hgd]
    exact h

theorem arg_agree {st : St} (h : Closed st) {dst : Option Nat} {v : DV} {nr : Option Res} (hf : nr.isSome = true → ∃ d, dst = some d ∧ st.res d = none) {y : Opd} (hy : ∀ d, dst = some d → y ≠ .t d) : (st.put dst v nr).arg y = st.arg y := by
  cases dst with
  | none => rfl
  | some d =>
    have hev : (st.put (some d) v nr).ev y = st.ev y := by
      cases y with
      | t n =>
        have : n ≠ d := fun e => hy d rfl (by rw [e])
        simp [St.ev, St.put, this]
      | c v => rfl
      | f n => rfl
      | z sz => rfl
    have hres : ∀ id, (st.res id).isSome = true → (st.put (some d) v nr).res id = st.res id := by
      intro id hid
      rw [put_res]
      cases nr with
      | none => rfl
      | some r =>
        obtain ⟨d', hd', hn⟩ := hf rfl
        cases hd'
        have : id ≠ d := fun e => by subst e; rw [hn] at hid; simp at hid
        simp [resWith, upd, this]
    have hnm : Nm st.res (st.ev y) := St.evC (fun x id hn => h.env x id hn) y
    simp only [St.arg, hev]
    rw [view_agree (fun id hid => hres id (hnm id hid))]
    congr 1
    · generalize hd : st.ev y = dv at hnm
      cases dv <;> simp only [resOf]
      rename_i i o
      exact hres i (hnm i (by simp [DV.names]))
    · generalize hd : st.ev y = dv at hnm
      cases dv <;> simp only [resVw]
      rename_i i o
      rw [hres i (hnm i (by simp [DV.names]))]
      cases hr : st.res i with
      | none => rfl
      | some r =>
        cases r <;> simp only
        rename_i cells
        congr 2
        have : ∀ cs : List DV, (∀ c ∈ cs, Nm st.res c) → viewAll (st.put (some d) v nr).res cs = viewAll st.res cs := by
          intro cs
          induction cs with
          | nil => intro _; rfl
          | cons c r ih =>
            intro hc
            simp only [viewAll]
            rw [view_agree (fun id hid => hres id (hc c (by simp) id hid)), ih (fun c hm => hc c (by simp [hm]))]
        exact this cells (h.res i cells hr)

theorem put_comm {st : St} {d1 d2 : Option Nat} {v1 v2 : DV} {n1 n2 : Option Res} (h : ∀ d, d1 = some d → d2 ≠ some d) : (st.put d1 v1 n1).put d2 v2 n2 = (st.put d2 v2 n2).put d1 v1 n1 := by
  cases d1 with
  | none => rfl
  | some a =>
    cases d2 with
    | none => rfl
    | some b =>
      have hab : a ≠ b := fun e => h a rfl (by rw [e])
      simp only [St.put]
      congr 1
      · funext x
        by_cases hx : x = b
        · subst hx; simp [Ne.symm hab]
        · simp [hx]
      · cases n1 with
        | none => cases n2 <;> rfl
        | some r1 =>
          cases n2 with
          | none => rfl
          | some r2 =>
            funext x
            by_cases hx : x = b
            · subst hx; simp [Ne.symm hab]
            · simp [hx]

theorem swap_quiet {P : Program} {p q : DO} {st : St} {K : St → Prop} (h : Closed st) (hp : p.kind.writes = false) (hq : q.kind.writes = false) (hi : slotsApart p q = true) (hs : wpG P p st fun s => wpG P q s K) : wpG P q st fun s => wpG P p s K := by
  unfold slotsApart at hi
  simp only [Bool.and_eq_true] at hi
  obtain ⟨h1, h2⟩ := hi
  obtain ⟨v1, n1, w1, f1, hs⟩ := wpG_qw hp hs
  obtain ⟨v2, n2, w2, f2, hs⟩ := wpG_qw hq hs
  have pd : ∀ d, p.dst = some d → (¬ d ∈ q.reads) ∧ q.dst ≠ some d := by
    intro d hd
    rw [hd] at h1
    simp only [Bool.and_eq_true, Bool.not_eq_true', bne_iff_ne, ne_eq] at h1
    exact ⟨by simpa using h1.1, h1.2⟩
  have qd : ∀ d, q.dst = some d → ¬ d ∈ p.reads := by
    intro d hd
    rw [hd] at h2
    simpa using h2
  have rx : ∀ (r : DO) (d : Nat), ¬ d ∈ r.reads → ∀ y ∈ r.xs, y ≠ .t d := by
    intro r d hd y hy e
    subst e
    apply hd
    unfold DO.reads
    simp only [List.mem_append, List.mem_filterMap]
    exact .inl ⟨_, hy, rfl⟩
  have rg : ∀ (r : DO) (d : Nat), ¬ d ∈ r.reads → ∀ g w, r.guard = some (g, w) → g ≠ d := by
    intro r d hd g w hg e
    subst e
    apply hd
    unfold DO.reads
    rw [hg]
    simp
  have env_put : ∀ (s : St) (dst : Option Nat) (v : DV) (n : Option Res) (g : Nat), (∀ d, dst = some d → g ≠ d) → (s.put dst v n).env g = s.env g := by
    intro s dst v n g hg
    cases dst with
    | none => rfl
    | some d => simp [St.put, hg d rfl]

  have a2 : q.xs.map (st.put p.dst v1 n1).arg = q.xs.map st.arg := List.map_congr_left fun y hy => arg_agree h f1 (fun d hd => rx q d (pd d hd).1 y hy)
  have g2 : ∀ g w, q.guard = some (g, w) → (st.put p.dst v1 n1).env g = st.env g := fun g w hg => env_put _ _ _ _ _ (fun d hd => rg q d (pd d hd).1 g w hg)
  have w2' := qw_agree (P := P) (st := st.put p.dst v1 n1) (st' := st) a2.symm (fun g w hg => (g2 g w hg).symm) w2
  have res_none : ∀ d, (st.put p.dst v1 n1).res d = none → st.res d = none := by
    intro d hd
    cases hpd : p.dst with
    | none => rw [hpd] at hd; exact hd
    | some e =>
      rw [hpd, put_res] at hd
      cases n1 with
      | none => exact hd
      | some r =>
        simp only [resWith, upd] at hd
        split at hd
        · simp at hd
        · exact hd
  have f2' : n2.isSome = true → ∃ d, q.dst = some d ∧ st.res d = none := fun hn => by
    obtain ⟨d, hd1, hd2⟩ := f2 hn
    exact ⟨d, hd1, res_none d hd2⟩
  refine qw_wpG hq w2' f2' ?_

  have a1 : p.xs.map (st.put q.dst v2 n2).arg = p.xs.map st.arg := List.map_congr_left fun y hy => arg_agree h f2' (fun d hd => rx p d (qd d hd) y hy)
  have g1 : ∀ g w, p.guard = some (g, w) → (st.put q.dst v2 n2).env g = st.env g := fun g w hg => env_put _ _ _ _ _ (fun d hd => rg p d (qd d hd) g w hg)
  have w1' := qw_agree (P := P) a1 g1 w1
  refine qw_wpG hp w1' (fun hn => ?_) ?_
  · obtain ⟨d, hd1, hd2⟩ := f1 hn
    refine ⟨d, hd1, ?_⟩
    have hne := (pd d hd1).2
    cases hqd : q.dst with
    | none => exact hd2
    | some e =>
      rw [put_res]
      cases n2 with
      | none => exact hd2
      | some r =>
        have : d ≠ e := fun k => hne (by rw [hqd, k])
        simp [resWith, upd, this, hd2]
  · rw [put_comm (fun d hd => fun k => (pd d k).2 hd)]
    exact hs

def Like : Res → Res → Prop
  | .box _, .box _ => True
  | .arr _, .arr _ => True
  | _, _ => False

theorem Like.symm {r r' : Res} (h : Like r r') : Like r' r := by cases r <;> cases r' <;> simp [Like] at h ⊢

theorem view_like {st : St} {id : Nat} {r r' : Res} (hr : st.res id = some r) (hl : Like r r') : ∀ (d : DV), view (st.setRes id r').res d = view st.res d := by
  intro d
  exact DV.rec (motive_1 := fun d => view (st.setRes id r').res d = view st.res d)
    (motive_2 := fun cs => viewAll (st.setRes id r').res cs = viewAll st.res cs)
    rfl (fun _ => rfl)
    (by
      intro i q
      unfold view
      by_cases hi : i = id
      · subst hi
        simp only [St.setRes, if_true, hr]
        cases r <;> cases r' <;> simp [Like] at hl ⊢
      · simp only [St.setRes, if_neg hi])
    (fun _ => rfl)
    (by
      intro i q n
      unfold view
      by_cases hi : i = id
      · subst hi
        simp only [St.setRes, if_true, hr]
        cases r <;> cases r' <;> simp [Like] at hl ⊢
      · simp only [St.setRes, if_neg hi])
    (by
      intro t
      unfold view
      by_cases hi : t = id
      · subst hi
        simp only [St.setRes, if_true, hr]
        cases r <;> cases r' <;> simp [Like] at hl ⊢
      · simp only [St.setRes, if_neg hi])
    (fun _ _ => rfl)
    (by intro cs ih; unfold view; rw [ih])
    (by intro f p q ih1 ih2; unfold view; rw [ih1, ih2])
    (fun _ => rfl)
    (fun _ => rfl)
    rfl
    (by intro d r ih1 ih2; unfold viewAll; rw [ih1, ih2]) d

theorem setRes_back {st : St} {id : Nat} {r r' : Res} (hr : st.res id = some r) : (st.setRes id r').setRes id r = st := by
  cases st with
  | mk env res =>
    simp only [St.setRes]
    congr 1
    funext i
    by_cases hi : i = id
    · subst hi; simp at hr; simp [hr]
    · simp [hi]

theorem semSt_eff {dst : Option Nat} {n : Nat} {xs : List Opd} {st : St} {K : St → Prop} (h : semSt dst n xs st K) :
    ∃ a x id off r r', xs = [a, x] ∧ dst = none ∧ st.ev a = .ref id off ∧ st.res id = some r ∧ Like r r' ∧ K (st.setRes id r') ∧
      ∀ (st' : St) (K' : St → Prop), st'.ev a = st.ev a → st'.ev x = st.ev x → view st'.res (st'.ev x) = view st.res (st.ev x) → st'.res id = st.res id → K' (st'.setRes id r') → semSt dst n xs st' K' := by
  match xs, h with
  | [a, x], h =>
    simp only [semSt] at h
    split at h
    · rename_i id off e1
      split at h
      · rename_i cells hid
        split at h
        · rename_i cs hcs
          refine ⟨a, x, id, off, _, _, rfl, h.2.2.1, e1, hid, ?_, h.2.2.2, fun st' K' h1 h2 h3 h4 h5 => ?_⟩
          · trivial
          · simp only [semSt, h1, e1, h4, hid, h2, hcs]
            exact ⟨h.1, h.2.1, h.2.2.1, h5⟩
        · exact h.elim
      · rename_i es hid
        split at h
        · rename_i v hv
          refine ⟨a, x, id, off, _, _, rfl, h.2.2.2.2.1, e1, hid, ?_, h.2.2.2.2.2, fun st' K' h1 h2 h3 h4 h5 => ?_⟩
          · trivial
          · simp only [semSt, h1, e1, h4, hid, h3, hv]
            exact ⟨h.1, h.2.1, h.2.2.1, h.2.2.2.1, h.2.2.2.2.1, h5⟩
        · exact h.elim
      · exact h.elim
    · exact h.elim

theorem wpG_st_eff {P : Program} {q : DO} {st : St} {K : St → Prop} (hq : q.isSt = true) (h : wpG P q st K) :
    ∃ a x id off r r', q.xs = [a, x] ∧ q.dst = none ∧ st.ev a = .ref id off ∧ st.res id = some r ∧ Like r r' ∧ K (st.setRes id r') ∧ (∀ m ids, q.kind = .storef m ids → ids.contains id = true) ∧
      ∀ (st' : St) (K' : St → Prop), st'.ev a = st.ev a → st'.ev x = st.ev x → view st'.res (st'.ev x) = view st.res (st.ev x) → st'.res id = st.res id → K' (st'.setRes id r') → wpG P q st' K' := by
  obtain ⟨dst, kind, xs, g, af⟩ := q
  unfold DO.isSt at hq
  simp only [Bool.and_eq_true] at hq
  obtain ⟨hk, hg⟩ := hq
  cases g with
  | some _ => simp at hg
  | none =>
    cases kind <;> simp only [Bool.false_eq_true] at hk
    case store n =>
      have h' : semSt dst n xs st K := h
      obtain ⟨a, x, id, off, r, r', e1, e2, e3, e4, e5, e6, e7⟩ := semSt_eff h'
      exact ⟨a, x, id, off, r, r', e1, e2, e3, e4, e5, e6, (fun m ids hk => (by cases hk)), fun st' K' h1 h2 h3 h4 h5 => (e7 st' K' h1 h2 h3 h4 h5 : semSt dst n xs st' K')⟩
    case storef n ids =>
      match xs, h with
      | [], h => exact (h : False).elim
      | y :: ys, h =>
        have h' : refIn ids (st.ev y) = true ∧ semSt dst n (y :: ys) st K := h
        obtain ⟨a, x, id, off, r, r', e1, e2, e3, e4, e5, e6, e7⟩ := semSt_eff h'.2
        cases e1
        refine ⟨y, x, id, off, r, r', rfl, e2, e3, e4, e5, e6, (fun m ids' hk => ?_), fun st' K' h1 h2 h3 h4 h5 => ?_⟩
        · cases hk
          have := h'.1
          rw [e3] at this
          exact this
        · show refIn ids (st'.ev y) = true ∧ semSt dst n [y, x] st' K'
          exact ⟨by rw [h1]; exact h'.1, e7 st' K' h1 h2 h3 h4 h5⟩

def Arg.bare (x : Arg) : Arg := { x with rs := none, rv := none }
def Kind.isLoad : Kind → Bool | .load .. | .loadf .. => true | _ => false

theorem fillD_bare : ∀ (ps : List (Nat × Nat)) (cells : List DV) (as : List Arg), fillD cells ps (as.map Arg.bare) = fillD cells ps as
  | [], cells, [] => rfl
  | [], cells, _ :: _ => rfl
  | _ :: _, cells, [] => rfl
  | (off, n) :: ps, cells, a :: as => by
    simp only [List.map_cons, fillD, Arg.bare]
    split
    · split
      · exact fillD_bare ps _ as
      · rfl
    · rfl
theorem mmAll_bare (mx : Bool) (k : IntKind) : ∀ (as : List Arg) (a : Int), mmAll mx k a (as.map Arg.bare) = mmAll mx k a as
  | [], a => rfl
  | x :: as, a => by
    simp only [List.map_cons, mmAll, Arg.bare]
    split
    · split
      · exact mmAll_bare mx k as _
      · rfl
    · rfl
theorem up_bare (as : List Arg) : (as.map Arg.bare).map Arg.up = (as.map Arg.up).map Arg.bare := by simp [Arg.up, Arg.bare, Function.comp_def]
theorem vw_bare (as : List Arg) : (as.map Arg.bare).map (·.vw) = as.map (·.vw) := by simp [Arg.bare]
theorem raw_bare (as : List Arg) : (as.map Arg.bare).map (·.raw) = as.map (·.raw) := by simp [Arg.bare]
theorem bounds_bare (lo hi : Bool) (len : Nat) (as : List Arg) : bounds lo hi len (as.map Arg.bare) = bounds lo hi len as := by
  rcases as with _ | ⟨x, _ | ⟨y, _ | ⟨z, as⟩⟩⟩ <;> rfl

theorem sem_bare {P : Program} {d : Nat} {kind : Kind} {K : DV → Option Res → Prop} (hk : kind.isLoad = false) (args : List Arg) : sem P d kind (args.map Arg.bare) K = sem P d kind args K := by
  cases kind <;> simp only [Kind.isLoad, Bool.true_eq_false] at hk <;> simp only [sem]
  case build zero parts => simp only [semBuild, fillD_bare]
  case buildr zero parts => simp only [semBuildr, semBuild, up_bare, fillD_bare]
  case px p => simp only [semPx, vw_bare]
  case bsl sz => simp only [semBsl, vw_bare]
  case mkfn f n => simp only [semMkfn, vw_bare, raw_bare, List.length_map]
  case slice sz lo hi =>
    cases args with
    | nil => rfl
    | cons x bs => simp only [List.map_cons, semSlice, bounds_bare]; rfl
  case sslice lo hi =>
    cases args with
    | nil => rfl
    | cons x bs => simp only [List.map_cons, semSslice, bounds_bare]; rfl
  case call =>
    cases args with
    | nil => rfl
    | cons x bs => simp only [List.map_cons, semCall, vw_bare]; rfl
  case mm mx =>
    cases args with
    | nil => rfl
    | cons x bs => simp only [List.map_cons, semMm, mmAll_bare]; rfl
  all_goals (rcases args with _ | ⟨x, _ | ⟨y, _ | ⟨z, _ | ⟨u, _ | ⟨v, as⟩⟩⟩⟩⟩ <;> rfl)

theorem sem_set {P : Program} {d : Nat} {p q : Kind} {xs : List Opd} {K : DV → Option Res → Prop} {st : St} {id : Nat} {r r' : Res} (hr : st.res id = some r) (hl : Like r r') (hf : freeOf p q = true)
    (hq : ∀ m ids, q = .storef m ids → ids.contains id = true) (hs : sem P d p (xs.map st.arg) K) : sem P d p (xs.map (st.setRes id r').arg) K := by
  unfold freeOf at hf
  simp only [Bool.and_eq_true] at hf
  replace hf := hf.2
  by_cases hld : p.isLoad = true
  · cases p <;> simp only [Kind.isLoad, Bool.false_eq_true] at hld
    case load => exact absurd hf (by simp)
    case loadf agg n ids =>
      match xs, hs with
      | [y], hs =>
        have h0 : addrIn ids [st.arg y] = true := hs.1
        have e : (st.setRes id r').ev y = st.ev y := by cases y <;> rfl
        have hra : (st.setRes id r').arg y = st.arg y := by
          simp only [St.arg, e]
          rw [view_like hr hl]
          simp only [addrIn, St.arg] at h0
          split at h0
          · rename_i i o hi
            rw [DV.pt_ref hi]
            have hne : i ≠ id := by
              intro hii
              subst hii
              dsimp only at hf
              split at hf
              · rename_i m ids'
                have h1 := hq m ids' rfl
                have h2 := List.all_eq_true.1 hf i (by simpa using h0)
                rw [h1] at h2; simp at h2
              · simp at hf
            have hres : (st.setRes id r').res i = st.res i := by simp [St.setRes, hne]
            simp only [resOf, resVw, hres]
            congr 1
            cases hri : st.res i with
            | none => rfl
            | some ri =>
              cases ri <;> simp only
              rename_i cells
              congr 2
              have : ∀ cs : List DV, viewAll (st.setRes id r').res cs = viewAll st.res cs := by
                intro cs
                induction cs with
                | nil => rfl
                | cons c cs ih => simp only [viewAll]; rw [view_like hr hl, ih]
              exact this cells
          · rename_i v hv
            rcases DV.pt_pim hv with hv | hv
            · rw [hv]; rfl
            · rw [hv]; rfl
          · simp at h0
        show sem P d _ [(st.setRes id r').arg y] K
        rw [hra]
        exact hs
      | [], hs => exact hs
      | _ :: _ :: _, hs => exact (Bool.false_ne_true hs.1).elim
  · have hld : p.isLoad = false := by simpa using hld
    rw [← sem_bare hld] at hs ⊢
    have : (xs.map (st.setRes id r').arg).map Arg.bare = (xs.map st.arg).map Arg.bare := by
      simp only [List.map_map]
      refine List.map_congr_left fun y _ => ?_
      have e : (st.setRes id r').ev y = st.ev y := by cases y <;> rfl
      simp only [Function.comp, St.arg, Arg.bare, e]
      rw [view_like hr hl]
    rw [this]
    exact hs

theorem qw_set {P : Program} {p : DO} {q : Kind} {st : St} {id : Nat} {r r' : Res} (hr : st.res id = some r) (hl : Like r r') (hf : freeOf p.kind q = true)
    (hq : ∀ m ids, q = .storef m ids → ids.contains id = true) {dv : DV} {nr : Option Res} (h : QW P p st dv nr) : QW P p (st.setRes id r') dv nr := by
  unfold QW at h ⊢
  cases hgd : p.guard with
  | none => simp only [hgd] at h ⊢; exact fun K' hk => sem_set hr hl hf hq (h K' hk)
  | some gw =>
    obtain ⟨g, w⟩ := gw
    simp only [hgd] at h ⊢
    show (match gval (st.env g) with | some b => _ | none => False)
    split at h
    · exact ⟨fun e K' hk => sem_set hr hl hf hq (h.1 e K' hk), h.2⟩
    · exact h.elim

theorem setRes_put {st : St} {id : Nat} {r' : Res} {dst : Option Nat} {v : DV} {nr : Option Res} (h : nr.isSome = true → ∀ d, dst = some d → d ≠ id) : (st.setRes id r').put dst v nr = (st.put dst v nr).setRes id r' := by
  cases dst with
  | none => rfl
  | some d =>
    cases nr with
    | none => rfl
    | some r =>
      have hne := h rfl d rfl
      simp only [St.put, St.setRes]
      congr 1
      funext i
      by_cases hi : i = id
      · subst hi; simp [Ne.symm hne]
      · simp [hi]

theorem apart_get {p q : DO} (hi : slotsApart p q = true) : (∀ d, p.dst = some d → (¬ d ∈ q.reads) ∧ q.dst ≠ some d) ∧ ∀ d, q.dst = some d → ¬ d ∈ p.reads := by
  unfold slotsApart at hi
  simp only [Bool.and_eq_true] at hi
  obtain ⟨h1, h2⟩ := hi
  refine ⟨fun d hd => ?_, fun d hd => ?_⟩
  · rw [hd] at h1
    simp only [Bool.and_eq_true, Bool.not_eq_true', bne_iff_ne, ne_eq] at h1
    exact ⟨by simpa using h1.1, h1.2⟩
  · rw [hd] at h2
    simpa using h2

theorem reads_xs {r : DO} {d : Nat} (hd : ¬ d ∈ r.reads) : ∀ y ∈ r.xs, y ≠ .t d := by
  intro y hy e
  subst e
  apply hd
  unfold DO.reads
  simp only [List.mem_append, List.mem_filterMap]
  exact .inl ⟨_, hy, rfl⟩

theorem put_ev {st : St} {dst : Option Nat} {v : DV} {nr : Option Res} {y : Opd} (hy : ∀ d, dst = some d → y ≠ .t d) : (st.put dst v nr).ev y = st.ev y := by
  cases dst with
  | none => rfl
  | some d =>
    cases y with
    | t n =>
      have : n ≠ d := fun e => hy d rfl (by rw [e])
      simp [St.ev, St.put, this]
    | c v => rfl
    | f n => rfl
    | z sz => rfl

theorem swap_st {P : Program} {p q : DO} {st : St} {K : St → Prop} (h : Closed st) (hq : q.isSt = true) (hf : freeOf p.kind q.kind = true) (hi : slotsApart p q = true) (hs : wpG P p st fun s => wpG P q s K) : wpG P q st fun s => wpG P p s K := by
  have hp : p.kind.writes = false := by unfold freeOf at hf; simp only [Bool.and_eq_true, Bool.not_eq_true'] at hf; exact hf.1
  obtain ⟨v1, n1, w1, f1, hs⟩ := wpG_qw hp hs
  obtain ⟨a, x, id, off, r, r', e1, e2, e3, e4, e5, e6, e7, e8⟩ := wpG_st_eff hq hs
  obtain ⟨pd, _⟩ := apart_get hi
  have ya : ∀ d, p.dst = some d → a ≠ .t d := fun d hd => reads_xs (pd d hd).1 a (by rw [e1]; simp)
  have yx : ∀ d, p.dst = some d → x ≠ .t d := fun d hd => reads_xs (pd d hd).1 x (by rw [e1]; simp)
  have a1 : st.ev a = (st.put p.dst v1 n1).ev a := (put_ev ya).symm
  have hid : (st.res id).isSome = true := St.evC (fun x id hn => h.env x id hn) a id (by rw [a1, e3]; simp [DV.names])
  have hres : (st.put p.dst v1 n1).res id = st.res id := by
    cases hpd : p.dst with
    | none => rfl
    | some d =>
      rw [put_res]
      cases hn : n1 with
      | none => rfl
      | some r1 =>
        obtain ⟨d', hd', hnn⟩ := f1 (by rw [hn]; rfl)
        rw [hpd] at hd'; cases hd'
        have : id ≠ d := fun e => by subst e; rw [hnn] at hid; simp at hid
        simp [resWith, upd, this]
  have hr : st.res id = some r := hres.symm.trans e4
  have ax := arg_agree (v := v1) h f1 yx
  have hvx : view st.res (st.ev x) = view (st.put p.dst v1 n1).res ((st.put p.dst v1 n1).ev x) := (congrArg Arg.vw ax).symm
  refine e8 st _ a1 (put_ev yx).symm hvx hres.symm ?_
  refine qw_wpG hp (qw_set hr e5 hf e7 w1) (fun hn => ?_) ?_
  · obtain ⟨d, hd1, hd2⟩ := f1 hn
    refine ⟨d, hd1, ?_⟩
    have : d ≠ id := fun e => by subst e; rw [hd2] at hid; simp at hid
    simp [St.setRes, this, hd2]
  · rw [setRes_put (fun hn d hd e => by
      obtain ⟨d', hd1, hd2⟩ := f1 hn
      rw [hd] at hd1; cases hd1
      subst e; rw [hd2] at hid; simp at hid)]
    exact e6

theorem swap_st' {P : Program} {p q : DO} {st : St} {K : St → Prop} (h : Closed st) (hp : p.isSt = true) (hf : freeOf q.kind p.kind = true) (hi : slotsApart p q = true) (hs : wpG P p st fun s => wpG P q s K) : wpG P q st fun s => wpG P p s K := by
  have hq : q.kind.writes = false := by unfold freeOf at hf; simp only [Bool.and_eq_true, Bool.not_eq_true'] at hf; exact hf.1
  obtain ⟨a, x, id, off, r, r', e1, e2, e3, e4, e5, e6, e7, e8⟩ := wpG_st_eff hp hs
  obtain ⟨v2, n2, w2, f2, hs⟩ := wpG_qw hq e6
  obtain ⟨_, qd⟩ := apart_get hi
  have ya : ∀ d, q.dst = some d → a ≠ .t d := fun d hd => reads_xs (qd d hd) a (by rw [e1]; simp)
  have yx : ∀ d, q.dst = some d → x ≠ .t d := fun d hd => reads_xs (qd d hd) x (by rw [e1]; simp)
  have hr2 : (st.setRes id r').res id = some r' := by simp [St.setRes]
  have w2' := qw_set (P := P) hr2 e5.symm hf e7 w2
  rw [setRes_back e4] at w2'
  have f2' : n2.isSome = true → ∃ d, q.dst = some d ∧ st.res d = none ∧ d ≠ id := fun hn => by
    obtain ⟨d, hd1, hd2⟩ := f2 hn
    have : d ≠ id := fun e => by subst e; rw [hr2] at hd2; simp at hd2
    refine ⟨d, hd1, ?_, this⟩
    simpa [St.setRes, this] using hd2
  have f2'' : n2.isSome = true → ∃ d, q.dst = some d ∧ st.res d = none := fun hn => by
    obtain ⟨d, h1, h2, _⟩ := f2' hn
    exact ⟨d, h1, h2⟩
  refine qw_wpG hq w2' f2'' ?_
  have ax := arg_agree (v := v2) h f2'' yx
  refine e8 _ _ (put_ev ya) (put_ev yx) (congrArg Arg.vw ax) ?_ ?_
  · cases hqd : q.dst with
    | none => rfl
    | some d =>
      rw [put_res]
      cases hn : n2 with
      | none => rfl
      | some r1 =>
        obtain ⟨d', hd', _, hne⟩ := f2' (by rw [hn]; rfl)
        rw [hqd] at hd'; cases hd'
        simp [resWith, upd, Ne.symm hne]
  · rw [← setRes_put (fun hn d hd => by
      obtain ⟨d', hd1, _, hd2⟩ := f2' hn
      rw [hd] at hd1; cases hd1
      exact hd2)]
    exact hs

theorem mov_iff {P : Program} {p : DO} {st : St} {K : St → Prop} (hp : p.isMov = true) : wpG P p st K ↔ ∃ y, p.xs = [y] ∧ K (st.put p.dst (st.ev y) none) := by
  obtain ⟨pd, kind, xs, g, af⟩ := p
  cases kind <;> simp [DO.isMov] at hp
  subst hp
  unfold wpG wpDO
  simp only [Kind.writes, Bool.false_eq_true, if_false, sem]
  match xs with
  | [] => simp [semMov]
  | [y] => simp [semMov, St.arg]
  | _ :: _ :: _ => simp [semMov]

theorem app_iff {P : Program} {q : DO} {st : St} {K : St → Prop} (hq : q.isApp = true) : ∃ sz bytes weak, q.kind = .append sz bytes weak ∧ (wpG P q st K ↔ semW P q.dst (.append sz bytes weak) q.xs st K) := by
  obtain ⟨pd, kind, xs, g, af⟩ := q
  cases kind <;> simp [DO.isApp] at hq
  subst hq
  refine ⟨_, _, _, rfl, ?_⟩
  unfold wpG wpDO
  simp [Kind.writes]

theorem strip_ev {t : Nat} {v : IV} {st : St} {R : Nat → Option Res} (y : Opd) : St.ev { env := fun i => strip t v (st.env i), res := R } y = strip t v (st.ev y) := by
  cases y <;> rfl

theorem semW_mov {P : Program} {d pd : Option Nat} {sz bytes : Nat} {weak : Bool} {xs : List Opd} {y : Opd} {st : St} {K : St → Prop} (hx : ∀ z, pd = some z → ∀ x ∈ xs, x ≠ .t z) (hy : ∀ z, d = some z → y ≠ .t z) (hd : ∀ z, pd = some z → d ≠ some z) :
    semW P d (.append sz bytes weak) xs (st.put pd (st.ev y) none) K ↔ semW P d (.append sz bytes weak) xs st fun s => K (s.put pd (s.ev y) none) := by
  match xs, hx with
  | [], _ => simp [semW]
  | [_], _ => simp [semW]
  | _ :: _ :: _ :: _, _ => simp [semW]
  | [x, y'], hx =>
    have e1 : (st.put pd (st.ev y) none).ev x = st.ev x := put_ev fun z hz => hx z hz x (by simp)
    have e2 : (st.put pd (st.ev y) none).ev y' = st.ev y' := put_ev fun z hz => hx z hz y' (by simp)
    have e3 : (st.put pd (st.ev y) none).res = st.res := by cases pd <;> rfl
    have c1 : ∀ v n, ((st.put pd (st.ev y) none).put d v n) = (st.put d v n).put pd ((st.put d v n).ev y) none := by
      intro v n
      rw [put_ev (y := y) hy]
      exact put_comm hd
    have c2 : ∀ t u R, (St.put { env := fun i => strip t u ((st.put pd (st.ev y) none).env i), res := R } d (.own t) none) = (St.put { env := fun i => strip t u (st.env i), res := R } d (.own t) none).put pd ((St.put { env := fun i => strip t u (st.env i), res := R } d (.own t) none).ev y) none := by
      intro t u R
      rw [put_ev (y := y) hy, strip_ev]
      have e : ({ env := fun i => strip t u ((st.put pd (st.ev y) none).env i), res := R } : St) = St.put { env := fun i => strip t u (st.env i), res := R } pd (strip t u (st.ev y)) none := by
        cases pd with
        | none => rfl
        | some z =>
          simp only [St.put]
          congr 1
          funext i
          split <;> rfl
      rw [e]
      exact put_comm hd
    simp only [semW, e1, e2, e3]
    split
    · split
      · rw [c2]
      · exact Iff.rfl
    · cases d with
      | none => exact Iff.rfl
      | some d =>
        dsimp only
        rw [c1, c1]
    · rw [c1]
    · exact Iff.rfl

theorem mov_app {P : Program} {p q : DO} {st : St} {K : St → Prop} (hp : p.isMov = true) (hq : q.isApp = true) (hi : slotsApart p q = true) : (wpG P p st fun s => wpG P q s K) ↔ wpG P q st fun s => wpG P p s K := by
  obtain ⟨pd, qd⟩ := apart_get hi
  obtain ⟨sz, bytes, weak, hk, _⟩ := app_iff (P := P) (st := st) (K := K) hq
  have hq' : ∀ s K', wpG P q s K' ↔ semW P q.dst (.append sz bytes weak) q.xs s K' := by
    intro s K'
    obtain ⟨a, b, c, h1, h2⟩ := app_iff (P := P) (st := s) (K := K') hq
    rw [hk] at h1; cases h1; exact h2
  rw [mov_iff hp, hq']
  by_cases hxs : ∃ y, p.xs = [y]
  · obtain ⟨y, hy⟩ := hxs
    have key := semW_mov (P := P) (d := q.dst) (pd := p.dst) (sz := sz) (bytes := bytes) (weak := weak) (xs := q.xs) (y := y) (st := st) (K := K) (fun z hz => reads_xs (pd z hz).1) (fun z hz => reads_xs (qd z hz) y (by rw [hy]; simp)) (fun z hz => (pd z hz).2)
    constructor
    · rintro ⟨y', hy', h⟩
      rw [hy] at hy'; cases hy'
      rw [hq'] at h
      exact semW_mono (fun s hs => (mov_iff hp).2 ⟨y, hy, hs⟩) (key.1 h)
    · intro h
      refine ⟨y, hy, ?_⟩
      rw [hq']
      exact key.2 (semW_mono (fun s hs => by
        obtain ⟨y', hy', hs⟩ := (mov_iff hp).1 hs
        rw [hy] at hy'; cases hy'
        exact hs) h)
  · constructor
    · rintro ⟨y, hy, _⟩; exact (hxs ⟨y, hy⟩).elim
    · intro h
      exfalso

      have : ∀ {xs : List Opd} {s : St}, semW P q.dst (.append sz bytes weak) xs s (fun s => wpG P p s K) → False := by
        intro xs s h
        match xs, h with
        | [x, y], h =>
          simp only [semW] at h
          have no : ∀ s, ¬ wpG P p s K := fun s hs => by
            obtain ⟨y, hy, _⟩ := (mov_iff hp).1 hs
            exact hxs ⟨y, hy⟩
          split at h
          · split at h
            · exact no _ h.2.2.2.2
            · exact h
          · have h := h.2.2.2.2
            split at h
            · split at h
              · exact no _ h
              · exact no _ h.2
            · exact h
          · exact no _ h.2.2
          · exact h
      exact this h

def ldI : IV → Option IV
  | .agg cs => match cs[0]? with | some c => if c.isAgg = false ∧ c.isTup = false then some c else none | none => none
  | .tup _ => none
  | v => some v
def ldfV (k : Kind) (d : DV) : Option DV := match k, d.pt with
  | .loadf true n _, .pim (.agg cs) => if n ≤ cs.length then some (.imm (.agg (cs.take n))) else none
  | .loadf false _ _, .pim v => (ldI v).map .imm
  | .faddrp off agg n, .pim (.agg cs) => match partIV cs off n agg with
    | some v => if (agg = true → off + n ≤ cs.length) ∧ v.isTup = false ∧ (agg = false → v.isAgg = false) then some (.pim v) else none
    | none => none
  | _, _ => none
theorem ldfV_strip {n : Kind} {t sz : Nat} {es : List IV} {d : DV} : ldfV n (strip t (.slc sz es) d) = ldfV n d := by
  have key : (strip t (.slc sz es) d).pt = d.pt ∨ (∀ v, (strip t (.slc sz es) d).pt ≠ .pim v) ∧ ∀ v, d.pt ≠ .pim v := by
    cases d with
    | own u => simp only [strip]; split
               · exact .inr ⟨fun v h => by simp [DV.pt] at h, fun v h => by simp [DV.pt] at h⟩
               · exact .inl rfl
    | ref i o => simp only [strip]; split
                 · exact .inr ⟨fun v h => by simp [DV.pt] at h, fun v h => by simp [DV.pt] at h⟩
                 · exact .inl rfl
    | vec i o k => simp only [strip]; split
                   · exact .inr ⟨fun v h => by simp [DV.pt] at h, fun v h => by simp [DV.pt] at h⟩
                   · exact .inl rfl
    | agg cs => exact .inr ⟨fun v h => by simp [strip, DV.pt] at h, fun v h => by simp [DV.pt] at h⟩
    | fn f a b => exact .inr ⟨fun v h => by simp [strip, DV.pt] at h, fun v h => by simp [DV.pt] at h⟩
    | _ => exact .inl rfl
  rcases key with e | ⟨h1, h2⟩
  · unfold ldfV; rw [e]
  · have no : ∀ d : DV, (∀ v, d.pt ≠ .pim v) → ldfV n d = none := by
      intro d hd
      unfold ldfV
      split
      · rename_i e; exact absurd e (hd _)
      · rename_i e; exact absurd e (hd _)
      · rename_i e; exact absurd e (hd _)
      · rfl
    rw [no _ h1, no _ h2]
theorem ldfV_fix {k : Kind} {d v : DV} (h : ldfV k d = some v) (t : Nat) (x : IV) : strip t x v = v := by
  unfold ldfV at h
  split at h
  · split at h <;> cases h; rfl
  · simp only [Option.map_eq_some_iff] at h
    obtain ⟨w, _, rfl⟩ := h
    rfl
  · split at h
    · split at h <;> cases h; rfl
    · cases h
  · cases h
theorem loadI_iff {K : DV → Option Res → Prop} {v : IV} : loadI K v ↔ ∃ w, ldI v = some w ∧ K (.imm w) none := by
  cases v with
  | agg cs =>
    simp only [loadI, ldI]
    cases cs[0]? with
    | none => simp
    | some c =>
      dsimp only
      constructor
      · rintro ⟨a, b, h⟩; exact ⟨c, by rw [if_pos ⟨a, b⟩], h⟩
      · rintro ⟨w, h, hk⟩
        split at h
        · rename_i hc; cases h; exact ⟨hc.1, hc.2, hk⟩
        · cases h
  | tup vs => simp [loadI, ldI]
  | _ => simp [loadI, ldI]
theorem ldf_iff {P : Program} {p : DO} (hp : p.isLdf = true) : ∀ {st : St} {K : St → Prop}, wpG P p st K ↔ ∃ y v, p.xs = [y] ∧ ldfV p.kind (st.ev y) = some v ∧ K (st.put p.dst v none) := by
  obtain ⟨pd, kind, xs, g, af⟩ := p
  have hg : g = none := by
    unfold DO.isLdf at hp
    simp only [Bool.and_eq_true, Option.isNone_iff_eq_none] at hp
    exact hp.2
  subst hg
  intro st K
  have one : ∀ (y : Opd) (A : DV → Prop), (∃ y' v, [y] = [y'] ∧ ldfV kind (st.ev y') = some v ∧ A v) ↔ ∃ v, ldfV kind (st.ev y) = some v ∧ A v := fun y A =>
      ⟨fun ⟨y', v, h, h2⟩ => by cases h; exact ⟨v, h2⟩, fun ⟨v, h⟩ => ⟨y, v, rfl, h⟩⟩
  have key : ∀ y, wpDO P ⟨pd, kind, [y], none, af⟩ st K ↔ ∃ v, ldfV kind (st.ev y) = some v ∧ K (st.put pd v none) := by
    intro y
    cases kind <;> simp only [DO.isLdf, Bool.false_and, Bool.false_eq_true] at hp
    case loadf agg n ids =>
      have hids : ids = [] := by cases ids <;> simp_all
      subst hids
      unfold wpDO
      simp only [Kind.writes, Bool.false_eq_true, if_false, sem, semLoadf]
      simp only [List.map_cons, List.map_nil, addrIn, semLoad, St.arg]
      unfold ldfV
      generalize (st.ev y).pt = d
      cases d with
      | pim v =>
        cases agg
        · simp only [Bool.false_eq_true, if_false, true_and, loadI_iff, Option.map_eq_some_iff]
          constructor
          · rintro ⟨w, h1, _, h2⟩; exact ⟨_, ⟨w, h1, rfl⟩, h2⟩
          · rintro ⟨_, ⟨w, h1, rfl⟩, h2⟩; exact ⟨w, h1, (fun h => by cases h), h2⟩
        · cases v with
          | agg cs =>
            simp
            constructor
            · rintro ⟨a, b⟩; exact ⟨_, ⟨a, rfl⟩, b⟩
            · rintro ⟨v, ⟨a, rfl⟩, b⟩; exact ⟨a, b⟩
          | _ => simp
      | _ => cases agg <;> simp
    case faddrp off agg n =>
      unfold wpDO
      simp only [Kind.writes, Bool.false_eq_true, if_false, sem, semFaddrp]
      simp only [List.map_cons, List.map_nil, addrIn, semFaddr, St.arg]
      unfold ldfV
      generalize (st.ev y).pt = d
      cases d with
      | pim v =>
        cases v with
        | agg cs =>
          simp only [semPim, true_and]
          cases partIV cs off n agg with
          | none => simp
          | some w =>
            dsimp only
            constructor
            · rintro ⟨a, b, c, _, h⟩; exact ⟨_, by rw [if_pos ⟨a, b, c⟩], h⟩
            · rintro ⟨v, h, hk⟩
              split at h
              · rename_i hc; cases h; exact ⟨hc.1, hc.2.1, hc.2.2, (fun h => by cases h), hk⟩
              · cases h
        | _ => simp
      | _ => simp
  show wpDO P ⟨pd, kind, xs, none, af⟩ st K ↔ _
  match xs with
  | [y] => dsimp only; rw [key y, one]
  | [] =>
    cases kind <;> simp only [DO.isLdf, Bool.false_and, Bool.false_eq_true] at hp
    · unfold wpDO; simp [Kind.writes, sem, semLoadf, addrIn]
    · unfold wpDO; simp [Kind.writes, sem, semFaddrp, addrIn]
  | _ :: _ :: _ =>
    cases kind <;> simp only [DO.isLdf, Bool.false_and, Bool.false_eq_true] at hp
    · unfold wpDO; simp [Kind.writes, sem, semLoadf, addrIn]
    · unfold wpDO; simp [Kind.writes, sem, semFaddrp, addrIn]
theorem semW_ldf {P : Program} {d pd : Option Nat} {sz bytes : Nat} {weak : Bool} {xs : List Opd} {v : DV} {st : St} {K : St → Prop} (hf : ∀ t x, strip t x v = v) (hx : ∀ z, pd = some z → ∀ x ∈ xs, x ≠ .t z) (hd : ∀ z, pd = some z → d ≠ some z) :
    semW P d (.append sz bytes weak) xs (st.put pd v none) K ↔ semW P d (.append sz bytes weak) xs st fun s => K (s.put pd v none) := by
  match xs, hx with
  | [], _ => simp [semW]
  | [_], _ => simp [semW]
  | _ :: _ :: _ :: _, _ => simp [semW]
  | [x, y'], hx =>
    have e1 : (st.put pd v none).ev x = st.ev x := put_ev fun z hz => hx z hz x (by simp)
    have e2 : (st.put pd v none).ev y' = st.ev y' := put_ev fun z hz => hx z hz y' (by simp)
    have e3 : (st.put pd v none).res = st.res := by cases pd <;> rfl
    have c1 : ∀ w n, ((st.put pd v none).put d w n) = (st.put d w n).put pd v none := fun w n => put_comm hd
    have c2 : ∀ t u R, (St.put { env := fun i => strip t u ((st.put pd v none).env i), res := R } d (.own t) none) = (St.put { env := fun i => strip t u (st.env i), res := R } d (.own t) none).put pd v none := by
      intro t u R
      have e : ({ env := fun i => strip t u ((st.put pd v none).env i), res := R } : St) = St.put { env := fun i => strip t u (st.env i), res := R } pd v none := by
        cases pd with
        | none => rfl
        | some z =>
          simp only [St.put]
          congr 1
          funext i
          split
          · exact hf t u
          · rfl
      rw [e]
      exact put_comm hd
    simp only [semW, e1, e2, e3]
    split
    · split
      · rw [c2]
      · exact Iff.rfl
    · cases d with
      | none => exact Iff.rfl
      | some d =>
        dsimp only
        rw [c1, c1]
    · rw [c1]
    · exact Iff.rfl
theorem semW_read {P : Program} {d : Option Nat} {sz bytes : Nat} {weak : Bool} {xs : List Opd} {y : Opd} {n : Kind} {st : St} {K : St → Prop} (hy : ∀ z, d = some z → y ≠ .t z) (h : semW P d (.append sz bytes weak) xs st K) :
    semW P d (.append sz bytes weak) xs st fun s => ldfV n (s.ev y) = ldfV n (st.ev y) ∧ K s := by
  match xs, h with
  | [x, y'], h =>
    simp only [semW] at h ⊢
    have p1 : ∀ w r, ldfV n ((st.put d w r).ev y) = ldfV n (st.ev y) := fun w r => by rw [put_ev hy]
    have p2 : ∀ t sz es R, ldfV n ((St.put { env := fun i => strip t (.slc sz es) (st.env i), res := R } d (.own t) none).ev y) = ldfV n (st.ev y) := fun t sz es R => by
      rw [put_ev hy, strip_ev, ldfV_strip]
    split at h
    · split at h
      · exact ⟨h.1, h.2.1, h.2.2.1, h.2.2.2.1, p2 _ _ _ _, h.2.2.2.2⟩
      · exact h
    · refine ⟨h.1, h.2.1, h.2.2.1, h.2.2.2.1, ?_⟩
      have h := h.2.2.2.2
      split at h
      · split at h
        · rename_i hw
          rw [if_pos hw]
          exact ⟨p1 _ _, h⟩
        · rename_i hw
          rw [if_neg hw]
          exact ⟨h.1, p1 _ _, h.2⟩
      · exact h
    · exact ⟨h.1, h.2.1, p1 _ _, h.2.2⟩
    · exact h

theorem semW_false {P : Program} {d : Option Nat} {sz bytes : Nat} {weak : Bool} {xs : List Opd} {st : St} (h : semW P d (.append sz bytes weak) xs st fun _ => False) : False := by
  match xs, h with
  | [x, y], h =>
    simp only [semW] at h
    split at h
    · split at h
      · exact h.2.2.2.2
      · exact h
    · have h := h.2.2.2.2
      split at h
      · split at h
        · exact h
        · exact h.2
      · exact h
    · exact h.2.2
    · exact h

theorem app_all {P : Program} {q : DO} (hq : q.isApp = true) : ∃ sz bytes weak, ∀ {st : St} {K : St → Prop}, wpG P q st K ↔ semW P q.dst (.append sz bytes weak) q.xs st K := by
  obtain ⟨sz, bytes, weak, hk, _⟩ := app_iff (P := P) (st := ⟨fun _ => .undef, fun _ => none⟩) (K := fun _ => True) hq
  refine ⟨sz, bytes, weak, fun {st K} => ?_⟩
  obtain ⟨a, b, c, h1, h2⟩ := app_iff (P := P) (st := st) (K := K) hq
  rw [hk] at h1; cases h1; exact h2

theorem ldf_app {P : Program} {p q : DO} {st : St} {K : St → Prop} (hp : p.isLdf = true) (hq : q.isApp = true) (hi : slotsApart p q = true) : (wpG P p st fun s => wpG P q s K) ↔ wpG P q st fun s => wpG P p s K := by
  obtain ⟨pd, qd⟩ := apart_get hi
  have hl := @ldf_iff P p hp
  obtain ⟨sz, bytes, weak, ha⟩ := app_all (P := P) hq
  constructor
  · intro h
    obtain ⟨y, v, hy, hv, h⟩ := hl.1 h
    have h2 := (semW_ldf (ldfV_fix hv) (fun z hz => reads_xs (pd z hz).1) (fun z hz => (pd z hz).2)).1 (ha.1 h)
    have h3 := semW_read (y := y) (n := p.kind) (fun z hz => reads_xs (qd z hz) y (by rw [hy]; simp)) h2
    exact ha.2 (semW_mono (fun s hs => hl.2 ⟨y, v, hy, hs.1.trans hv, hs.2⟩) h3)
  · intro h
    have h := ha.1 h
    by_cases hxs : ∃ y v, p.xs = [y] ∧ ldfV p.kind (st.ev y) = some v
    · obtain ⟨y, v, hy, hv⟩ := hxs
      have h3 := semW_read (y := y) (n := p.kind) (fun z hz => reads_xs (qd z hz) y (by rw [hy]; simp)) h
      refine hl.2 ⟨y, v, hy, hv, ha.2 ((semW_ldf (ldfV_fix hv) (fun z hz => reads_xs (pd z hz).1) (fun z hz => (pd z hz).2)).2 (semW_mono (fun s hs => ?_) h3))⟩
      obtain ⟨y', v', hy', hv', hk⟩ := hl.1 hs.2
      rw [hy] at hy'; cases hy'
      rw [hs.1, hv] at hv'; cases hv'
      exact hk
    · exfalso
      by_cases hy : ∃ y, p.xs = [y]
      · obtain ⟨y, hy⟩ := hy
        have h3 := semW_read (y := y) (n := p.kind) (fun z hz => reads_xs (qd z hz) y (by rw [hy]; simp)) h
        refine semW_false (semW_mono (fun s hs => ?_) h3)
        obtain ⟨y', v', hy', hv', hk⟩ := hl.1 hs.2
        rw [hy] at hy'; cases hy'
        exact hxs ⟨y, v', hy, hs.1.symm.trans hv'⟩
      · refine semW_false (semW_mono (fun s hs => ?_) h)
        obtain ⟨y', v', hy', _⟩ := hl.1 hs
        exact hy ⟨y', hy'⟩

theorem arg_agreeR {st st' : St} (h : Closed st) {y : Opd} (hev : st'.ev y = st.ev y) (hres : ∀ id, (st.res id).isSome = true → st'.res id = st.res id) : st'.arg y = st.arg y := by
  have hnm : Nm st.res (st.ev y) := St.evC (fun x id hn => h.env x id hn) y
  simp only [St.arg, hev]
  rw [view_agree (fun id hid => hres id (hnm id hid))]
  congr 1
  · generalize hd : st.ev y = dv at hnm
    cases dv <;> simp only [resOf]
    rename_i i o
    exact hres i (hnm i (by simp [DV.names]))
  · generalize hd : st.ev y = dv at hnm
    cases dv <;> simp only [resVw]
    rename_i i o
    rw [hres i (hnm i (by simp [DV.names]))]
    cases hr : st.res i with
    | none => rfl
    | some r =>
      cases r <;> simp only
      rename_i cells
      congr 2
      have : ∀ cs : List DV, (∀ c ∈ cs, Nm st.res c) → viewAll st'.res cs = viewAll st.res cs := by
        intro cs
        induction cs with
        | nil => intro _; rfl
        | cons c r ih =>
          intro hc
          simp only [viewAll]
          rw [view_agree (fun id hid => hres id (hc c (by simp) id hid)), ih (fun c hm => hc c (by simp [hm]))]
      exact this cells (h.res i cells hr)

theorem bview_agree {res res' : Nat → Option Res} {d : DV} (h : ∀ id, d.names id = true → res' id = res id) : bview res' d = bview res d := by
  cases d <;> first | rfl | exact view_agree h

theorem cb_iff {P : Program} {q : DO} {st : St} {K : St → Prop} (hq : q.isCb = true) : wpG P q st K ↔ semW P q.dst (.callb []) q.xs st K := by
  obtain ⟨pd, kind, xs, g, af⟩ := q
  cases kind <;> simp [DO.isCb] at hq
  rename_i ids
  obtain ⟨h1, h2⟩ := hq
  subst h2
  split at h1
  case h_2 => cases h1
  rename_i he
  cases he
  unfold wpG wpDO
  simp [Kind.writes]

theorem withRes_old {R' R : Nat → Option Res} {id : Nat} (h : (R' id).isSome = true → R id = none) (hs : (R id).isSome = true) : withRes R' R id = R id := by
  unfold withRes
  split
  · rename_i r hr
    rw [h (by rw [hr]; rfl)] at hs
    cases hs
  · rfl

theorem swap_cb {P : Program} {p q : DO} {st : St} {K : St → Prop} (h : Closed st) (hp : p.kind.writes = false) (hq : q.isCb = true) (hi : slotsApart p q = true) (hs : wpG P p st fun s => wpG P q s K) : wpG P q st fun s => wpG P p s K := by
  obtain ⟨pd, qd⟩ := apart_get hi
  obtain ⟨v1, n1, w1, f1, hs⟩ := wpG_qw hp hs
  rw [cb_iff hq] at hs ⊢
  have old : ∀ id, (st.res id).isSome = true → (st.put p.dst v1 n1).res id = st.res id := by
    intro id hid
    cases hpd : p.dst with
    | none => rfl
    | some d =>
      rw [put_res]
      cases hn : n1 with
      | none => rfl
      | some r =>
        obtain ⟨d', hd', hnn⟩ := f1 (by rw [hn]; rfl)
        rw [hpd] at hd'; cases hd'
        have : id ≠ d := fun e => by subst e; rw [hnn] at hid; simp at hid
        simp [resWith, upd, this]
  have nn : ∀ id, (st.put p.dst v1 n1).res id = none → st.res id = none := by
    intro id hid
    cases hk : st.res id with
    | none => rfl
    | some r => rw [old id (by rw [hk]; rfl), hk] at hid; cases hid
  have ev1 : ∀ y ∈ q.xs, (st.put p.dst v1 n1).ev y = st.ev y := fun y hy => put_ev fun z hz => reads_xs (pd z hz).1 y hy
  have vw1 : ∀ y ∈ q.xs, view (st.put p.dst v1 n1).res ((st.put p.dst v1 n1).ev y) = view st.res (st.ev y) := fun y hy => by
    rw [ev1 y hy]
    exact view_agree fun id hid => old id (St.evC (fun x id hn => h.env x id hn) y id hid)
  have bv1 : ∀ y ∈ q.xs, bview (st.put p.dst v1 n1).res ((st.put p.dst v1 n1).ev y) = bview st.res (st.ev y) := fun y hy => by
    rw [ev1 y hy]
    exact bview_agree fun id hid => old id (St.evC (fun x id hn => h.env x id hn) y id hid)
  have rs : ∀ R : Nat → Option Res, restr [] R = fun _ => none := fun R => by funext i; rfl
  match hx : q.xs, hs with
  | f :: ys, hs =>
    simp only [semW] at hs ⊢
    rw [vw1 f (by rw [hx]; simp)] at hs
    have hys : (ys.map fun y => bview (st.put p.dst v1 n1).res ((st.put p.dst v1 n1).ev y)) = ys.map fun y => bview st.res (st.ev y) := List.map_congr_left fun y hy => bv1 y (by rw [hx]; simp [hy])
    rw [hys] at hs
    split at hs
    · rename_i g first cap hcal
      obtain ⟨Phi, h1, h2, h0, h3⟩ := hs
      refine ⟨Phi, by rw [rs] at h1 ⊢; exact h1, by simpa [lendOk] using h2, ?_, fun r R' hp1 hp2 hp3 => ?_⟩
      · simp only [List.contains_nil, Bool.false_or, Option.isNone_iff_eq_none] at h0 ⊢
        cases h4 : st.res 0 with
        | none => unfold ghost; rw [h4]
        | some x =>
          unfold ghost at h0 ⊢
          rw [old 0 (by rw [h4]; rfl)] at h0
          exact h0
      · obtain ⟨k1, k2⟩ := h3 r R' hp1 hp2 hp3
        have fresh : ∀ id, (R' id).isSome = true → (st.put p.dst v1 n1).res id = none := fun id hid => (k1 id hid).resolve_left (by simp)
        have fr0 : ∀ id, (R' id).isSome = true → st.res id = none := fun id hid => nn id (fresh id hid)
        refine ⟨fun id hid => .inr (fr0 id hid), ?_⟩
        have old2 : ∀ id, (st.res id).isSome = true → (St.put { st with res := withRes R' st.res } q.dst r none).res id = st.res id := by
          intro id hid
          have : (St.put { st with res := withRes R' st.res } q.dst r none).res = withRes R' st.res := by cases q.dst <;> rfl
          rw [this]
          exact withRes_old (fr0 id) hid
        have ev2 : ∀ y ∈ p.xs, (St.put { st with res := withRes R' st.res } q.dst r none).ev y = st.ev y := fun y hy => by
          rw [put_ev fun z hz => reads_xs (qd z hz) y hy]
          cases y <;> rfl
        have a1 : p.xs.map (St.put { st with res := withRes R' st.res } q.dst r none).arg = p.xs.map st.arg := List.map_congr_left fun y hy => arg_agreeR h (ev2 y hy) old2
        have g1 : ∀ g w, p.guard = some (g, w) → (St.put { st with res := withRes R' st.res } q.dst r none).env g = st.env g := by
          intro g w hg
          cases hqd : q.dst with
          | none => rfl
          | some e =>
            have : g ≠ e := fun k => by
              subst k
              apply qd g hqd
              unfold DO.reads
              rw [hg]
              simp
            simp [St.put, this]
        have w1' := qw_agree (P := P) a1 g1 w1
        refine qw_wpG hp w1' (fun hn => ?_) ?_
        · obtain ⟨d, hd1, hd2⟩ := f1 hn
          refine ⟨d, hd1, ?_⟩
          have : (St.put { st with res := withRes R' st.res } q.dst r none).res = withRes R' st.res := by cases q.dst <;> rfl
          rw [this]
          unfold withRes
          split
          · rename_i x hx2
            have := fresh d (by rw [hx2]; rfl)
            rw [hd1, put_res] at this
            cases n1 with
            | none => simp at hn
            | some y => simp [resWith, upd] at this
          · exact hd2
        · have e : ((St.put { st with res := withRes R' st.res } q.dst r none).put p.dst v1 n1) = St.put { (st.put p.dst v1 n1) with res := withRes R' (st.put p.dst v1 n1).res } q.dst r none := by
            rw [put_comm (fun d hd => fun k => (pd d k).2 hd)]
            congr 1
            cases hpd : p.dst with
            | none => rfl
            | some d =>
              simp only [St.put]
              congr 1
              cases hn : n1 with
              | none => rfl
              | some x =>
                funext i
                by_cases hid : i = d
                · subst hid
                  have : R' i = none := by
                    cases hr : R' i with
                    | none => rfl
                    | some y =>
                      have := fresh i (by rw [hr]; rfl)
                      rw [hpd, put_res, hn] at this
                      simp [resWith, upd] at this
                  simp [withRes, this]
                · simp [withRes, hid]
          rw [e]
          exact k2
    · exact hs.elim

theorem apart_symm {p q : DO} (h : slotsApart p q = true) : slotsApart q p = true := by
  obtain ⟨h1, h2⟩ := apart_get h
  unfold slotsApart
  simp only [Bool.and_eq_true]
  refine ⟨?_, ?_⟩
  · cases hq : q.dst with
    | none => rfl
    | some d =>
      simp only [Bool.and_eq_true, Bool.not_eq_true', bne_iff_ne, ne_eq]
      refine ⟨by simpa using h2 d hq, fun hp => (h1 d hp).2 hq⟩
  · cases hp : p.dst with
    | none => rfl
    | some d => simpa using (h1 d hp).1

theorem swap {P : Program} {p q : DO} {st : St} {K : St → Prop} (h : Closed st) (hi : indep p q = true) (hs : wpG P p st fun s => wpG P q s K) : wpG P q st fun s => wpG P p s K := by
  unfold indep at hi
  simp only [Bool.and_eq_true, Bool.or_eq_true, Bool.not_eq_true'] at hi
  obtain ⟨ha, ((((((⟨hp, hq⟩ | ⟨hp, hq⟩) | ⟨hp, hf⟩) | ⟨hq, hf⟩) | ⟨hp, hq⟩) | ⟨hq, hp⟩) | ⟨hp, hq⟩) | ⟨hq, hp⟩⟩ := hi
  · exact swap_cb h hp hq ha hs
  · exact swap_quiet h hp hq ha hs
  · exact swap_st' h hp hf ha hs
  · exact swap_st h hq hf ha hs
  · exact (mov_app hp hq ha).1 hs
  · exact (mov_app hq hp (apart_symm ha)).2 hs
  · exact (ldf_app hp hq ha).1 hs
  · exact (ldf_app hq hp (apart_symm ha)).2 hs

theorem bubble {P : Program} {x : DO} {rest : List DO} : ∀ (R : List DO) {st : St} {K : St → Prop}, Closed st → (∀ r ∈ R, indep r x = true ∧ zeroClean r.kind) → wpR P (R ++ x :: rest) st K → wpR P (x :: (R ++ rest)) st K
  | [], st, K, _, _, hs => hs
  | r :: R, st, K, h, hi, hs => by
    simp only [List.cons_append, wpR] at hs ⊢
    have h1 : wpG P r st fun s => wpG P x s fun s' => wpR P (R ++ rest) s' K := wpG_mono_closed h (hi r (by simp)).2 (fun s hc k => bubble R hc (fun q hq => hi q (by simp [hq])) k) hs
    exact swap h (hi r (by simp)).1 h1

end Go.DI

/- A region, in whatever order the machine draws, does to the machine what it does to the data in the order of the text. No condition. -/
namespace Go.DI
open Go.RowKit

def ancStep (acc : List Nat) (q : DO) : List Nat := acc ++ [q.after.foldl (fun s p => s ||| (2 ^ p ||| acc.getD p 0)) 0]
def ancs (qs : List DO) : List Nat := qs.foldl ancStep []

theorem foldl_or {acc : List Nat} : ∀ (l : List Nat) (s r : Nat), (l.foldl (fun s p => s ||| (2 ^ p ||| acc.getD p 0)) s).testBit r = true → s.testBit r = true ∨ ∃ p ∈ l, r = p ∨ (acc.getD p 0).testBit r = true
  | [], s, r, h => .inl h
  | p :: l, s, r, h => by
    simp only [List.foldl_cons] at h
    rcases foldl_or l _ r h with h | ⟨q, hq, h⟩
    · rw [Nat.testBit_or, Nat.testBit_or, Bool.or_eq_true, Bool.or_eq_true] at h
      rcases h with h | h | h
      · exact .inl h
      · refine .inr ⟨p, by simp, .inl ?_⟩
        rw [Nat.testBit_two_pow] at h
        simp at h; exact h.symm
      · exact .inr ⟨p, by simp, .inr h⟩
    · exact .inr ⟨q, by simp [hq], h⟩

theorem anc_listed (listed : Nat → Prop) : ∀ (qs : List DO) (acc : List Nat) (pre : List DO), acc.length = pre.length →
    (∀ (j : Nat) (q : DO), (pre ++ qs)[j]? = some q → listed j → ∀ p ∈ q.after, listed p) →
    (∀ (j : Nat) (q : DO) (m : Nat), pre[j]? = some q → acc[j]? = some m → (∀ p ∈ q.after, listed p) → ∀ r, m.testBit r = true → listed r) →
    ∀ (j : Nat) (q : DO) (m : Nat), (pre ++ qs)[j]? = some q → (qs.foldl ancStep acc)[j]? = some m → (∀ p ∈ q.after, listed p) → ∀ r, m.testBit r = true → listed r
  | [], acc, pre, hl, hd, hacc, j, q, m, hq, hm, hp, r, hr => by
    simp at hq hm
    exact hacc j q m hq hm hp r hr
  | x :: qs, acc, pre, hl, hd, hacc, j, q, m, hq, hm, hp, r, hr => by
    simp only [List.foldl_cons] at hm
    refine anc_listed listed qs (ancStep acc x) (pre ++ [x]) (by simp [ancStep, hl]) (by simpa using hd) ?_ j q m (by simpa using hq) hm hp r hr
    intro j q m hq hm hp r hr
    by_cases hj : j < pre.length
    · rw [List.getElem?_append_left hj] at hq
      rw [ancStep, List.getElem?_append_left (by omega)] at hm
      exact hacc j q m hq hm hp r hr
    · have hjl : j = pre.length := by
        have := (List.getElem?_eq_some_iff.1 hq).1
        simp at this; omega
      subst hjl
      rw [List.getElem?_append_right (by omega)] at hq
      simp at hq
      subst hq
      rw [ancStep, List.getElem?_append_right (by omega), hl] at hm
      simp at hm
      subst hm
      rcases foldl_or x.after 0 r hr with h0 | ⟨p, hpm, h1⟩
      · simp at h0
      · have hlp := hp p hpm
        rcases h1 with rfl | h1
        · exact hlp
        · by_cases hpl : p < acc.length
          · have hpq : pre[p]? = some (pre[p]'(by omega)) := by simp
            refine hacc p _ (acc.getD p 0) hpq (by simp [List.getD, hpl]) ?_ r h1
            exact hd p _ (by rw [List.getElem?_append_left (by omega)]; exact hpq) hlp
          · simp [List.getD, List.getElem?_eq_none (Nat.le_of_not_lt hpl)] at h1

def pairsOk (qs : List DO) : Bool :=
  (List.range qs.length).all fun i => (List.range i).all fun r => ((ancs qs).getD i 0).testBit r || indep (qs.getD r default) (qs.getD i default)

def pairsP (qs : List DO) (pi : List Nat) : Bool :=
  let an := ancs qs
  (List.range pi.length).all fun b => (List.range b).all fun a => (an.getD (pi.getD b 0) 0).testBit (pi.getD a 0) || indep (qs.getD (pi.getD a 0) default) (qs.getD (pi.getD b 0) default)

theorem pairsP_of {qs : List DO} (h : pairsOk qs = true) : pairsP qs (List.range qs.length) = true := by
  unfold pairsOk at h
  unfold pairsP
  simp only [List.all_eq_true, List.mem_range, List.length_range] at h ⊢
  intro b hb a ha
  have e1 : (List.range qs.length).getD b 0 = b := by simp [List.getD, hb]
  have e2 : (List.range qs.length).getD a 0 = a := by simp [List.getD, show a < qs.length by omega]
  rw [e1, e2]
  exact h b hb a ha

def qOf (qs : List DO) (l : List Nat) : List DO := l.map fun i => qs.getD i default

def bound (o : Oper) : List Nat := (o.after.toList.filter (Region.binds .any)).map (·.on)

def boundM (m : Region.Mode) (o : Oper) : List Nat := (o.after.toList.filter (Region.binds m)).map (·.on)

theorem bound_sub {m : Region.Mode} {o : Oper} {p : Nat} (h : p ∈ bound o) : p ∈ boundM m o := by
  simp only [bound, boundM, List.mem_map, List.mem_filter] at h ⊢
  obtain ⟨e, ⟨h1, h2⟩, h3⟩ := h
  refine ⟨e, ⟨h1, ?_⟩, h3⟩
  unfold Region.binds at h2 ⊢
  split at h2 <;> simp at h2 ⊢

def edgesOk (n : Nat) : List Oper → List DO → Nat → Bool
  | [], [], _ => true
  | o :: os, q :: qs, i => decide (bound o = q.after) && (o.after.toList.map (·.on)).all (· < n) && edgesOk n os qs (i + 1)
  | _, _, _ => false

theorem edgesOk_get {n : Nat} : ∀ {os : List Oper} {qs : List DO} {k : Nat}, edgesOk n os qs k = true → os.length = qs.length ∧ ∀ (i : Nat) (o : Oper) (q : DO), os[i]? = some o → qs[i]? = some q → bound o = q.after ∧ ∀ p ∈ o.after.toList.map (·.on), p < n
  | [], [], k, _ => by simp
  | [], _ :: _, k, h => by simp [edgesOk] at h
  | _ :: _, [], k, h => by simp [edgesOk] at h
  | o :: os, q :: qs, k, h => by
    simp only [edgesOk, Bool.and_eq_true, decide_eq_true_eq, List.all_eq_true] at h
    have ih := edgesOk_get h.2
    refine ⟨by simp [ih.1], fun i o' q' ho hq => ?_⟩
    cases i with
    | zero => simp at ho hq; subst ho; subst hq; exact ⟨h.1.1, fun p hp => by simpa using h.1.2 p hp⟩
    | succ i =>
      simp at ho hq
      have := ih.2 i o' q' ho hq
      exact ⟨this.1, this.2⟩

section
variable {P : Program}

theorem getD_set {listed : Array Bool} {i j : Nat} (hi : i < listed.size) : (listed.setIfInBounds i true).getD j true = if j = i then true else listed.getD j true := by
  simp only [Array.getD_eq_getD_getElem?, Array.getElem?_setIfInBounds]
  by_cases h : i = j
  · subst h; simp [hi]
  · simp [h, Ne.symm h]

def befores (m : Region.Mode) (ops : Array Oper) : List Nat → List Nat → Bool
  | _, [] => true
  | seen, i :: r => (match ops[i]? with | some o => (boundM m o).all fun p => seen.contains p | none => false) && befores m ops (i :: seen) r

def topoOk (m : Region.Mode) (ops : Array Oper) : Bool :=
  befores m ops [] (Region.linearise m ops 0) && (List.range ops.size).all fun i => (Region.linearise m ops 0).contains i

theorem befores_get {m : Region.Mode} {ops : Array Oper} {listed : Nat → Prop} : ∀ {L seen : List Nat}, befores m ops seen L = true → (∀ s ∈ seen, listed s) → (∃ i ∈ L, ¬ listed i) →
    ∃ i, ∃ o, ops[i]? = some o ∧ ¬ listed i ∧ ∀ p ∈ boundM m o, listed p
  | [], seen, _, _, h => by obtain ⟨i, hi, _⟩ := h; cases hi
  | i :: r, seen, hb, hs, h => by
    simp only [befores, Bool.and_eq_true] at hb
    obtain ⟨h1, h2⟩ := hb
    by_cases hl : listed i
    · refine befores_get h2 (fun s hs' => ?_) ?_
      · rcases List.mem_cons.1 hs' with rfl | k
        · exact hl
        · exact hs s k
      · obtain ⟨j, hj, hjl⟩ := h
        rcases List.mem_cons.1 hj with rfl | k
        · exact absurd hl hjl
        · exact ⟨j, k, hjl⟩
    · cases ho : ops[i]? with
      | none => rw [ho] at h1; cases h1
      | some o =>
        rw [ho] at h1
        exact ⟨i, o, ho, hl, fun p hp => hs p (by simpa using List.all_eq_true.1 h1 p hp)⟩

theorem order_sound {ops : Array Oper} {qs : List DO} {pi : List Nat} (he : edgesOk ops.size ops.toList qs 0 = true) (hp : pairsP qs pi = true) (hpi : pi.Nodup) (hpm : ∀ i, i ∈ pi ↔ i < ops.size) (hz : ∀ q ∈ qs, zeroClean q.kind) :
    ∀ (m : Region.Mode) (_ht : topoOk m ops = true) (fuel t : Nat) (listed : Array Bool) (acc : List Nat), listed.size = ops.size →
    (∀ (j : Nat) (q : DO), qs[j]? = some q → listed.getD j true = true → ∀ p ∈ q.after, listed.getD p true = true) →
    (pi.filter fun i => !listed.getD i true).length ≤ fuel →
    ∃ sg, Region.linearise.go m ops fuel t listed acc = acc.reverse ++ sg ∧ (∀ i ∈ sg, i < ops.size) ∧
      ∀ (st : St) (K : St → Prop), Closed st → wpR P (qOf qs (pi.filter fun i => !listed.getD i true)) st K → wpR P (qOf qs sg) st K
  | m, ht, 0, t, listed, acc, hsz, hdown, hf => by
    refine ⟨[], by simp [Region.linearise.go], by simp, fun st K hc h => ?_⟩
    have : (pi.filter fun i => !listed.getD i true) = [] := List.eq_nil_of_length_eq_zero (by omega)
    rw [this] at h
    exact h
  | m, ht, fuel + 1, t, listed, acc, hsz, hdown, hf => by
    have hlen := (edgesOk_get he).1
    rw [Array.length_toList] at hlen
    have hed := (edgesOk_get he).2
    unfold Region.linearise.go
    dsimp only
    let R := pi.filter fun i => !listed.getD i true
    let rs := (List.range ops.size).filter fun i => !listed.getD i true && ((ops[i]?).map (fun o : Oper => o.after.all fun e => !Region.binds m e || listed.getD e.on false)).getD false
    have opq : ∀ i, i < ops.size → ∃ o q, ops[i]? = some o ∧ qs[i]? = some q ∧ ops.toList[i]? = some o := fun i hi => ⟨ops[i], qs[i]'(by omega), by simp [hi], by simp, by simp [hi]⟩

    have ready : ∀ i o, i < ops.size → ops[i]? = some o → (o.after.all (fun e => !Region.binds m e || listed.getD e.on false) = true ↔ ∀ p ∈ boundM m o, listed.getD p true = true) := by
      intro i o hi ho
      obtain ⟨o', q, h1, h2, h3⟩ := opq i hi
      rw [ho] at h1; cases h1
      have hb : ∀ p ∈ boundM m o, p < ops.size := fun p hp => (hed i o q h3 h2).2 p (by
        simp only [boundM, List.mem_map, List.mem_filter] at hp
        obtain ⟨e, ⟨h1, _⟩, h3⟩ := hp
        exact List.mem_map.2 ⟨e, h1, h3⟩)
      have hdef : ∀ p, p < ops.size → listed.getD p false = listed.getD p true := by
        intro p hp
        simp [Array.getD, hsz, hp]
      rw [Array.all_eq_true']
      constructor
      · intro h p hp
        simp only [boundM, List.mem_map, List.mem_filter] at hp
        obtain ⟨e, ⟨he1, he2⟩, rfl⟩ := hp
        have := h e (by simpa using he1)
        rw [he2] at this
        have hlt := hb e.on (by simp only [boundM, List.mem_map, List.mem_filter]; exact ⟨e, ⟨he1, he2⟩, rfl⟩)
        rw [← hdef e.on (by omega)]
        simpa using this
      · intro h e he1
        by_cases he2 : Region.binds m e = true
        · have hm : e.on ∈ boundM m o := by simp only [boundM, List.mem_map, List.mem_filter]; exact ⟨e, ⟨by simpa using he1, he2⟩, rfl⟩
          have hlt := hb e.on hm
          rw [hdef e.on (by omega), h e.on hm]
          simp
        · simp [he2]
    cases hpick : rs[t % rs.length]? with
    | none =>
      refine ⟨[], by simp, by simp, fun st K hc h => ?_⟩

      have hR : R = [] := by
        rcases Nat.eq_zero_or_pos R.length with h0 | hpos
        · exact List.eq_nil_of_length_eq_zero h0
        · exfalso

          have hex : ∃ i, i < ops.size ∧ listed.getD i true = false := by
            have := List.getElem_mem hpos
            simp only [R, List.mem_filter, Bool.not_eq_true'] at this
            exact ⟨_, (hpm _).1 this.1, this.2⟩
          unfold topoOk at ht
          simp only [Bool.and_eq_true] at ht
          obtain ⟨i, o, h1, hnl, hbl⟩ := befores_get (listed := fun j => listed.getD j true = true) ht.1 (by simp) (by
            obtain ⟨i, hi, hil⟩ := hex
            refine ⟨i, by simpa using List.all_eq_true.1 ht.2 i (List.mem_range.2 hi), by simp [hil]⟩)
          have hi : i < ops.size := (Array.getElem?_eq_some_iff.1 h1).1
          have hil : listed.getD i true = false := by simpa using hnl
          have hir : i ∈ rs := by
            simp only [rs, List.mem_filter, List.mem_range, Bool.and_eq_true, Bool.not_eq_true']
            refine ⟨hi, hil, ?_⟩
            rw [h1]
            simp only [Option.map_some, Option.getD_some]
            exact (ready i o hi h1).2 hbl
          have hpos' : 0 < rs.length := List.length_pos_of_mem hir
          have := List.getElem?_eq_none_iff.1 hpick
          have := Nat.mod_lt t hpos'
          omega
      have h' : wpR P (qOf qs R) st K := h
      rw [hR] at h'
      exact h'
    | some i =>
      have himem : i ∈ rs := List.mem_of_getElem? hpick
      simp only [rs, List.mem_filter, List.mem_range, Bool.and_eq_true, Bool.not_eq_true'] at himem
      obtain ⟨hi, hil, hir⟩ := himem
      obtain ⟨o, q, h1, h2, h3⟩ := opq i hi
      rw [h1] at hir
      simp only [Option.map_some, Option.getD_some] at hir
      have hpre := (ready i o hi h1).1 hir
      have hbq := (hed i o q h3 h2).1
      let listed' := listed.setIfInBounds i true
      have hl' : ∀ j, listed'.getD j true = if j = i then true else listed.getD j true := fun j => getD_set (by omega)
      obtain ⟨A0, B0, hspl⟩ := List.append_of_mem ((hpm i).2 hi)
      have hnd : i ∉ A0 ∧ i ∉ B0 := by
        rw [hspl] at hpi
        have h1 := List.nodup_append.1 hpi
        exact ⟨fun k => h1.2.2 i k i (by simp) rfl, (List.nodup_cons.1 h1.2.1).1⟩
      let A := A0.filter fun j => !listed.getD j true
      let B := B0.filter fun j => !listed.getD j true
      have hR : R = A ++ i :: B := by
        simp only [R, A, B]
        rw [hspl, List.filter_append, List.filter_cons]
        simp [hil]
      have hR' : (pi.filter fun j => !listed'.getD j true) = A ++ B := by
        rw [hspl, List.filter_append, List.filter_cons, hl' i]
        simp only [if_true, Bool.not_true, Bool.false_eq_true, if_false]
        congr 1
        · refine List.filter_congr fun j hj => ?_
          have hne : j ≠ i := fun e => hnd.1 (by rw [← e]; exact hj)
          rw [hl' j, if_neg hne]
        · refine List.filter_congr fun j hj => ?_
          have hne : j ≠ i := fun e => hnd.2 (by rw [← e]; exact hj)
          rw [hl' j, if_neg hne]
      have hdown' : ∀ (j : Nat) (q : DO), qs[j]? = some q → listed'.getD j true = true → ∀ p ∈ q.after, listed'.getD p true = true := by
        intro j q' hq' hj p hp
        rw [hl' p]
        split
        · rfl
        · rw [hl' j] at hj
          by_cases hji : j = i
          · subst hji
            rw [h2] at hq'; cases hq'
            exact hpre p (bound_sub (by rw [hbq]; exact hp))
          · rw [if_neg hji] at hj
            exact hdown j q' hq' hj p hp
      have hcount : (pi.filter fun j => !listed'.getD j true).length ≤ fuel := by
        rw [hR']
        have : R.length ≤ fuel + 1 := hf
        rw [hR] at this
        simp at this ⊢
        omega
      obtain ⟨sg, e1, e2, e3⟩ := order_sound he hp hpi hpm hz m ht fuel (t / rs.length) listed' (i :: acc) (by simp [listed', hsz]) hdown' hcount
      refine ⟨i :: sg, ?_, ?_, ?_⟩
      · have : Region.linearise.go m ops fuel (t / rs.length) listed' (i :: acc) = acc.reverse ++ i :: sg := by rw [e1]; simp
        exact this
      · intro j hj
        rcases List.mem_cons.1 hj with rfl | hj
        · exact hi
        · exact e2 j hj
      · intro st K hc h
        have h' : wpR P (qOf qs R) st K := h
        rw [hR] at h'
        simp only [qOf, List.map_append, List.map_cons] at h'
        have hbub := bubble (P := P) (x := qs.getD i default) (rest := B.map fun i => qs.getD i default) (A.map fun i => qs.getD i default) hc (fun r hr => by
          obtain ⟨j, hj, rfl⟩ := List.mem_map.1 hr
          simp only [A, List.mem_filter, Bool.not_eq_true'] at hj
          obtain ⟨hji, hjl⟩ := hj
          have hjs : j < ops.size := (hpm j).1 (by rw [hspl]; simp [hji])
          have hjq : qs[j]? = some (qs[j]'(by omega)) := by simp
          refine ⟨?_, ?_⟩
          · have hpo := hp
            unfold pairsP at hpo
            obtain ⟨k, hk, hkj⟩ := List.getElem_of_mem hji
            have hb : pi.getD A0.length 0 = i := by rw [hspl]; simp [List.getD]
            have hka : pi.getD k 0 = j := by rw [hspl]; simp [List.getD, List.getElem?_append_left hk, hk, hkj]
            have := List.all_eq_true.1 (List.all_eq_true.1 hpo A0.length (List.mem_range.2 (by rw [hspl]; simp))) k (List.mem_range.2 hk)
            rw [hb, hka] at this
            simp only [Bool.or_eq_true] at this
            rcases this with hanc | hind
            · exfalso
              have hlen2 : ∀ (l : List DO) (acc : List Nat), (l.foldl ancStep acc).length = acc.length + l.length := by
                intro l
                induction l with
                | nil => intro acc; rfl
                | cons x l ih => intro acc; simp [ih, ancStep]; omega
              have hm : (ancs qs)[i]? = some ((ancs qs).getD i 0) := by
                have : i < (ancs qs).length := by unfold ancs; rw [hlen2]; simp; omega
                simp [List.getD, this]
              have := anc_listed (fun j => listed.getD j true = true) qs [] [] rfl (by simpa using hdown) (by simp) i q _ (by simpa using h2) hm (fun p hp => hpre p (bound_sub (by rw [hbq]; exact hp))) j hanc
              rw [hjl] at this; simp at this
            · exact hind
          · rw [List.getD_eq_getElem?_getD, hjq]
            exact hz _ (List.mem_of_getElem? hjq)) h'
        have hzi : zeroClean (qs.getD i default).kind := by
          rw [List.getD_eq_getElem?_getD, h2]
          exact hz _ (List.mem_of_getElem? h2)
        simp only [wpR] at hbub
        simp only [qOf, List.map_cons, wpR]
        refine wpG_mono_closed hc hzi (fun s hs k => ?_) hbub
        refine e3 s K hs ?_
        have hAB : (pi.filter fun j => !listed'.getD j true) = A ++ B := hR'
        rw [hAB]
        simpa [qOf] using k
end

end Go.DI

