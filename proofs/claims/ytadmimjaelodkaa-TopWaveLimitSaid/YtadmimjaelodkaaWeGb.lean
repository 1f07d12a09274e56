/- Each operation does to the machine what it does to the data. No condition. -/
import Derived.Test.YtadmimjaelodkaaWeGa
/- Each operation does to the machine what it does to the data: slice expressions, lengths, aggregates, loads. No condition. -/
namespace Go.DI
open Go.RowKit

section ops
variable {P : Program} {B : Base} {st : St} {a : Act} {w : World} {S : Nat → Nat → Prop} {rho : Nat → Nat} {tau : Nat → Value} {o : Oper} {K : DV → Option Res → Prop}

theorem bounds_run (h : Core B st a.tmps w S rho tau) {lo hi : Option Operand} {ys : List Opd} (hx : opdsOk (lo.toList ++ hi.toList) ys = true) {len cap : Nat} {l u : Int} {b : Bool}
    (hb : bounds lo.isSome hi.isSome len (ys.map st.arg) = some (l, u)) (h0 : 0 ≤ l) (h1 : l ≤ u) (h2 : u ≤ len) (hc : len ≤ cap) :
    (Instr.sliceBounds b len cap (lo.map a.eval) (hi.map a.eval) none).run P w = .ok (l.toNat, u.toNat, cap) w := by
  have hu : u ≤ (cap : Int) := by omega
  cases lo with
  | none =>
    cases hi with
    | none =>
      cases ys with
      | nil =>
        simp [bounds] at hb
        obtain ⟨rfl, rfl⟩ := hb
        simp [Instr.sliceBounds]
      | cons y ys => simp [opdsOk] at hx
    | some x =>
      simp at hx
      match ys, hx with
      | [y], hx =>
        simp [opdsOk] at hx
        have r := h.vw (defers := a.defers) hx
        simp only [List.map, bounds, St.arg, Option.isSome] at hb
        split at hb
        · rename_i k i e
          simp at hb
          obtain ⟨rfl, rfl⟩ := hb
          rw [e] at r
          have hv : a.eval x = .int k i := r.imm_inv.int_inv
          simp [Instr.sliceBounds, Instr.sliceBound, hv, asIntOf, h1, hu]
        · simp at hb
      | [], hx => simp [opdsOk] at hx
      | _ :: _ :: _, hx => simp [opdsOk] at hx
  | some x =>
    cases hi with
    | none =>
      simp at hx
      match ys, hx with
      | [y], hx =>
        simp [opdsOk] at hx
        have r := h.vw (defers := a.defers) hx
        simp only [List.map, bounds, St.arg, Option.isSome] at hb
        split at hb
        · rename_i k i e
          simp at hb
          obtain ⟨rfl, rfl⟩ := hb
          rw [e] at r
          have hv : a.eval x = .int k i := r.imm_inv.int_inv
          simp [Instr.sliceBounds, Instr.sliceBound, hv, asIntOf, h0, h1]
        · simp at hb
      | [], hx => simp [opdsOk] at hx
      | _ :: _ :: _, hx => simp [opdsOk] at hx
    | some z =>
      simp at hx
      match ys, hx with
      | [y1, y2], hx =>
        simp [opdsOk] at hx
        have r1 := h.vw (defers := a.defers) hx.1
        have r2 := h.vw (defers := a.defers) hx.2
        simp only [List.map, bounds, St.arg, Option.isSome] at hb
        split at hb
        · rename_i k1 i1 k2 i2 e1 e2
          simp at hb
          obtain ⟨rfl, rfl⟩ := hb
          rw [e1] at r1; rw [e2] at r2
          have hv1 : a.eval x = .int k1 i1 := r1.imm_inv.int_inv
          have hv2 : a.eval z = .int k2 i2 := r2.imm_inv.int_inv
          have hi2 : 0 ≤ i2 := by omega
          have e3 : (i2.toNat : Int) = i2 := by omega
          simp [Instr.sliceBounds, Instr.sliceBound, hv1, hv2, asIntOf, hi2, hu, h0, h1, e3]
        · simp at hb
      | [], hx => simp [opdsOk] at hx
      | [_], hx => simp [opdsOk] at hx
      | _ :: _ :: _ :: _, hx => simp [opdsOk] at hx

theorem slice_sub {es : List IV} {l u : Nat} (h : u ≤ es.length) (hl : l ≤ u) : ((es.take u).drop l).length = u - l := by simp; omega

theorem Rd.slc_sub {sz : Nat} {es : List IV} {aa : Option Addr} {cap : Nat} (h : Rd w S (.slc sz es) (.slice aa es.length cap)) {l u : Nat} (hl : l ≤ u) (hu : u ≤ es.length) {aa' : Option Addr} {m : Nat}
    (hm : u - l ≤ m) (ha : (aa = none ∧ aa' = none ∧ m = 0) ∨ ∃ b q, aa = some ⟨b, q, none⟩ ∧ (aa' = some ⟨b, q + l * sz, none⟩ ∨ (u = l ∧ ∃ b' q', aa' = some ⟨b', q', none⟩))) :
    Rd w S (.slc sz ((es.take u).drop l)) (.slice aa' (u - l) m) := by
  have hlen := slice_sub hu hl
  by_cases he : u = l
  · subst he
    have e0 : (es.take u).drop u = [] := List.eq_nil_of_length_eq_zero (by omega)
    rw [e0, Nat.sub_self]
    rcases ha with ⟨_, rfl, rfl⟩ | ⟨b, q, _, rfl | ⟨_, b', q', rfl⟩⟩
    · exact .nils sz
    · exact .slc sz [] b _ m (fun _ => undef) (by simp) (by simp) (by simp) (by simp) (by simp)
    · exact .slc sz [] b' q' m (fun _ => undef) (by simp) (by simp) (by simp) (by simp) (by simp)
  · rcases ha with ⟨rfl, rfl, rfl⟩ | ⟨b, q, rfl, rfl | ⟨k, _⟩⟩
    · omega
    · have hget : ∀ (i : Nat) (e : IV), ((es.take u).drop l)[i]? = some e → l + i < u ∧ es[l + i]? = some e := by
        intro i e hi
        rw [List.getElem?_drop] at hi
        have hlt : l + i < u := by
          have := (List.getElem?_eq_some_iff.1 hi).1
          simp at this; omega
        rw [List.getElem?_take_of_lt hlt] at hi
        exact ⟨hlt, hi⟩
      cases h with
      | slc _ _ b' q' cap' c hc hs hz hr hb =>
        have := Rd.slc (w := w) (S := S) sz ((es.take u).drop l) b (q + l * sz) m (fun i => c (l * sz + i)) (by omega)
          (fun i hi => by
            rw [hlen] at hi
            have : l * sz + i < es.length * sz := by
              have e1 : (u - l) * sz = u * sz - l * sz := Nat.sub_mul u l sz
              have e2 : u * sz ≤ es.length * sz := Nat.mul_le_mul_right _ hu
              omega
            have := hs _ this
            rwa [← Nat.add_assoc] at this)
          (fun i e he => hz _ e (hget i e he).2)
          (fun i e j x he hj => by
            have := hr _ e j x (hget i e he).2 hj
            rwa [Nat.add_mul, Nat.add_assoc] at this)
          (fun i e j x he hj => by
            have := hb _ e j x (hget i e he).2 hj
            rwa [Nat.add_mul, Nat.add_assoc] at this)
        rw [hlen] at this
        exact this
    · omega

theorem s_slice (h : Core B st a.tmps w S rho tau) {t : TypeId} {x : Operand} {lo hi : Option Operand} {ys : List Opd} {sz : Nat} (ho : o.op = .slice t x lo hi none)
    (ht : sliceIs P t sz = true) (hx : opdsOk (x :: (lo.toList ++ hi.toList)) ys = true) (hs : semSlice K sz lo.isSome hi.isSome (ys.map st.arg)) :
    Quiet P B st o a w rho tau K := by
  cases ys with
  | nil => simp [opdsOk] at hx
  | cons y ys =>
    simp only [opdsOk, Bool.and_eq_true] at hx
    have r1 := h.vw (defers := a.defers) hx.1
    have hc := St.vwC h.envC y
    obtain ⟨e, hu, hsz⟩ := sliceIs_of ht
    simp only [List.map, semSlice, St.arg] at hs
    split at hs
    · rename_i z es e1
      rw [e1] at r1
      split at hs
      · rename_i l u hb
        obtain ⟨rfl, h0, h1, h2, hk⟩ := hs
        obtain ⟨aa, cap, hv, hcap, hform⟩ := r1.imm_inv.slc_form
        have hv' : a.eval x = .slice aa es.length cap := hv
        have hbr : ∀ bb, (Instr.sliceBounds bb es.length cap (lo.map a.eval) (hi.map a.eval) none).run P w = .ok (l.toNat, u.toNat, cap) w := fun bb => bounds_run h hx.2 hb h0 h1 h2 hcap
        have rr := r1.imm_inv
        rw [hv] at rr
        refine quiet_imm h hk (v := .slice (if cap = l.toNat then aa else aa.map (·.add (l.toNat * z))) (u.toNat - l.toNat) (cap - l.toNat)) ?_ ?_
        · unfold execOp; rw [ho]
          simp [hv', Instr.sliceAt, Instr.slice, run_underlying hu, hbr, run_sizeOf' hsz]
        · refine rr.slc_sub (by omega) (by omega) (by omega) ?_
          rcases hform with ⟨rfl, rfl⟩ | ⟨b, q, rfl⟩
          · exact .inl ⟨rfl, by simp, by omega⟩
          · refine .inr ⟨b, q, rfl, ?_⟩
            by_cases hcl : cap = l.toNat
            · exact .inr ⟨by omega, b, q, by rw [if_pos hcl]⟩
            · exact .inl (by rw [if_neg hcl]; simp [add_addr])
      · exact hs.elim
    · rename_i id off n e1
      rw [e1] at r1 hc
      split at hs
      · rename_i l u hb
        obtain ⟨rfl, h0, h1, h2, hk⟩ := hs
        have r1' : Rl w S rho tau (.vec id off n) (a.eval x) := r1
        generalize hv : a.eval x = v at r1'
        cases r1' with
        | vec _ _ _ cap aa hcap ha hz =>
          have hbr : ∀ bb, (Instr.sliceBounds bb n cap (lo.map a.eval) (hi.map a.eval) none).run P w = .ok (l.toNat, u.toNat, cap) w := fun bb => bounds_run h hx.2 hb h0 h1 h2 hcap
          refine quiet_val h hk (v := .slice (if cap = l.toNat then aa else aa.map (·.add (l.toNat * 1))) (u.toNat - l.toNat) (cap - l.toNat)) ?_ (.vec _ _ _ _ _ (by omega) ?_ ?_) (fun id hid => hc id (by simpa [DV.names] using hid))
          · unfold execOp; rw [ho]
            simp [hv, Instr.sliceAt, Instr.slice, run_underlying hu, hbr, run_sizeOf' hsz]
          · intro hne
            have hn : n ≠ 0 := by omega
            have hcl : ¬ cap = l.toNat := by omega
            rw [if_neg hcl, ha hn]
            simp [add_addr]
          · rcases hz with ⟨rfl, rfl⟩ | ⟨b, q, rfl⟩
            · exact .inl ⟨by simp, by omega⟩
            · refine .inr ?_
              by_cases hcl : cap = l.toNat
              · exact ⟨b, q, by rw [if_pos hcl]⟩
              · exact ⟨b, q + l.toNat, by rw [if_neg hcl]; simp [add_addr]⟩
      · exact hs.elim
    · exact hs.elim

theorem s_sslice (h : Core B st a.tmps w S rho tau) {t : TypeId} {x : Operand} {lo hi : Option Operand} {ys : List Opd} (ho : o.op = .slice t x lo hi none)
    (ht : P.underlying t = some .string) (hx : opdsOk (x :: (lo.toList ++ hi.toList)) ys = true) (hs : semSslice K lo.isSome hi.isSome (ys.map st.arg)) :
    Quiet P B st o a w rho tau K := by
  cases ys with
  | nil => simp [opdsOk] at hx
  | cons y ys =>
    simp only [opdsOk, Bool.and_eq_true] at hx
    have r1 := h.vw (defers := a.defers) hx.1
    simp only [List.map, semSslice, St.arg] at hs
    split at hs
    · rename_i s e1
      rw [e1] at r1
      split at hs
      · rename_i l u hb
        obtain ⟨h0, h1, h2, hk⟩ := hs
        have hv' : a.eval x = .string s := r1.imm_inv.str_inv
        have hbr : ∀ bb, (Instr.sliceBounds bb s.size s.size (lo.map a.eval) (hi.map a.eval) none).run P w = .ok (l.toNat, u.toNat, s.size) w := fun bb => bounds_run h hx.2 hb h0 h1 h2 (Nat.le_refl _)
        refine quiet_imm h hk ?_ (.str _)
        unfold execOp; rw [ho]
        simp [hv', Instr.sliceAt, Instr.slice, run_underlying ht, hbr]
      · exact hs.elim
    · exact hs.elim

theorem s_slice3 (h : Core B st a.tmps w S rho tau) {t : TypeId} {x x1 x2 x3 : Operand} {y y1 y2 y3 : Opd} {sz : Nat} (ho : o.op = .slice t x (some x1) (some x2) (some x3))
    (ht : sliceIs P t sz = true) (hx : opdsOk [x, x1, x2, x3] [y, y1, y2, y3] = true) (hs : semSlice3 K sz [st.arg y, st.arg y1, st.arg y2, st.arg y3]) :
    Quiet P B st o a w rho tau K := by
  simp only [opdsOk, Bool.and_eq_true, and_true] at hx
  obtain ⟨hx, hx1, hx2, hx3⟩ := hx
  obtain ⟨e, hu, hsz⟩ := sliceIs_of ht
  have r := h.vw (defers := a.defers) hx
  have r1 := h.vw (defers := a.defers) hx1
  have r2 := h.vw (defers := a.defers) hx2
  have r3 := h.vw (defers := a.defers) hx3
  simp only [semSlice3, St.arg] at hs
  split at hs
  · rename_i z es k1 l k2 u k3 m e0 e1 e2 e3
    rw [e0] at r; rw [e1] at r1; rw [e2] at r2; rw [e3] at r3
    obtain ⟨rfl, h0, h1, rfl, h2, hk⟩ := hs
    obtain ⟨aa, cap, hv, hcap, hform⟩ := r.imm_inv.slc_form
    have hv' : a.eval x = .slice aa es.length cap := hv
    have v1 : a.eval x1 = .int k1 l := r1.imm_inv.int_inv
    have v2 : a.eval x2 = .int k2 u := r2.imm_inv.int_inv
    have v3 : a.eval x3 = .int k3 u := r3.imm_inv.int_inv
    have rr := r.imm_inv
    rw [hv] at rr
    have hu0 : 0 ≤ u := by omega
    have huc : u ≤ (cap : Int) := by omega
    have hut : (u.toNat : Int) = u := by omega
    have hlen := slice_sub (es := es) (l := l.toNat) (u := u.toNat) (by omega) (by omega)
    have hrun : (execOp a.eval o).run P w = .ok (.value (.slice (if u.toNat = l.toNat then aa else aa.map (·.add (l.toNat * z))) (u.toNat - l.toNat) (u.toNat - l.toNat))) w := by
      unfold execOp; rw [ho]
      simp [hv', v1, v2, v3, Instr.sliceAt, Instr.slice, run_underlying hu, Instr.sliceBounds, Instr.sliceBound, asIntOf, hu0, huc, hut, h0, h1, run_sizeOf' hsz]
    have hsub : Rd w S (.slc z ((es.take u.toNat).drop l.toNat)) (.slice (if u.toNat = l.toNat then aa else aa.map (·.add (l.toNat * z))) (u.toNat - l.toNat) (u.toNat - l.toNat)) := by
      refine rr.slc_sub (by omega) (by omega) (Nat.le_refl _) ?_
      rcases hform with ⟨rfl, rfl⟩ | ⟨b, q, rfl⟩
      · exact .inl ⟨rfl, by simp, by omega⟩
      · refine .inr ⟨b, q, rfl, ?_⟩
        by_cases hcl : u.toNat = l.toNat
        · exact .inr ⟨hcl, b, q, by rw [if_pos hcl]⟩
        · exact .inl (by rw [if_neg hcl]; simp [add_addr])
    exact quiet_val h hk hrun (.cap0 _ _ _ _ hsub (by rw [hlen])) (by simp [DV.names])
  · exact hs.elim

theorem s_len (h : Core B st a.tmps w S rho tau) {x : Operand} {y : Opd} {t : TypeId} (ho : o.op = .call { callee := .builtin .len, args := #[x], argTypes := #[t] })
    (ht : (match P.underlying t with | some (.slice _) => true | _ => false) = true) (hx : opdOk x y = true) (hs : semLen K [st.arg y]) : Quiet P B st o a w rho tau K := by
  have r := h.vw (defers := a.defers) hx
  obtain ⟨e, hu⟩ : ∃ e, P.underlying t = some (.slice e) := by
    split at ht
    · exact ⟨_, by assumption⟩
    · simp at ht
  have hrun : ∀ aa n cap, a.eval x = .slice aa n cap → (execOp a.eval o).run P w = .ok (.value (.int .i64 n)) w := by
    intro aa n cap e1
    unfold execOp; rw [ho]
    simp [resolve, invoke, builtin, Builtin.len_, run_underlying hu, e1, goInt]
  simp only [semLen, St.arg] at hs
  split at hs
  · rename_i z es e1
    rw [e1] at r
    obtain ⟨aa, cap, hv, hcap, hform⟩ := r.imm_inv.slc_form
    exact quiet_imm h hs (hrun _ _ _ hv) (.int _ _)
  · rename_i id off n e1
    rw [e1] at r
    have r1' : Rl w S rho tau (.vec id off n) (a.eval x) := r
    generalize hv : a.eval x = v at r1'
    cases r1' with
    | vec _ _ _ cap aa hcap ha hz => exact quiet_imm h hs (hrun _ _ _ hv) (.int _ _)
  · exact hs.elim

theorem s_slen (h : Core B st a.tmps w S rho tau) {x : Operand} {y : Opd} {t : TypeId} (ho : o.op = .call { callee := .builtin .len, args := #[x], argTypes := #[t] })
    (ht : P.underlying t = some .string) (hx : opdOk x y = true) (hs : semSlen K [st.arg y]) : Quiet P B st o a w rho tau K := by
  have r := h.vw (defers := a.defers) hx
  simp only [semSlen, St.arg] at hs
  split at hs
  · rename_i s e1
    rw [e1] at r
    have hv : a.eval x = .string s := r.imm_inv.str_inv
    refine quiet_imm h hs ?_ (.int _ _)
    unfold execOp; rw [ho]
    simp [resolve, invoke, builtin, Builtin.len_, run_underlying ht, hv, goInt]
  · exact hs.elim

def alenIs (P : Program) (t : TypeId) (n : Nat) : Bool :=
  match P.underlying t with
  | some (.array m _) => m == n
  | some (.pointer e) => match P.underlying e with | some (.array m _) => m == n | _ => false
  | _ => false

theorem s_alen (h : Core B st a.tmps w S rho tau) {x : Operand} {y : Opd} {t : TypeId} {n : Nat} (ho : o.op = .call { callee := .builtin .len, args := #[x], argTypes := #[t] })
    (ht : alenIs P t n = true) (hs : semAlen K n [st.arg y]) : Quiet P B st o a w rho tau K := by
  refine quiet_imm h hs ?_ (.int _ _)
  unfold execOp; rw [ho]
  unfold alenIs at ht
  split at ht
  · rename_i m e hu
    simp at ht; subst ht
    simp [resolve, invoke, builtin, Builtin.len_, run_underlying hu, goInt]
  · rename_i e hu
    split at ht
    · rename_i m e' hu'
      simp at ht; subst ht
      simp [resolve, invoke, builtin, Builtin.len_, run_underlying hu, run_underlying hu', goInt]
    · simp at ht
  · simp at ht

theorem mm_run (h : Core B st a.tmps w S rho tau) (mx : Bool) (k : IntKind) : ∀ (xs : List Operand) (ys : List Opd) (p m : Int), opdsOk xs ys = true → mmAll mx k p (ys.map st.arg) = some m →
    ((xs.map a.eval).foldlM (if mx then Builtin.max2 else Builtin.min2) (.int k p)).run P w = .ok (.int k m) w
  | [], [], p, m, _, hm => by simp [mmAll] at hm; subst hm; simp
  | [], _ :: _, _, _, hx, _ => by simp [opdsOk] at hx
  | _ :: _, [], _, _, hx, _ => by simp [opdsOk] at hx
  | x :: xs, y :: ys, p, m, hx, hm => by
    simp only [opdsOk, Bool.and_eq_true] at hx
    have r := h.vw (defers := a.defers) hx.1
    simp only [List.map, mmAll, St.arg] at hm
    split at hm
    · rename_i k' b e1
      rw [e1] at r
      have hv : a.eval x = .int k' b := r.imm_inv.int_inv
      split at hm
      · rename_i hk
        subst hk
        have ih := mm_run h mx k' xs ys (mmI mx p b) m hx.2 hm
        simp only [List.map, List.foldlM, Sem.run_bind, hv]
        cases mx
        · simp only [Bool.false_eq_true, if_false] at ih ⊢
          simp only [Builtin.min2, Sem.run_pure, Result.andThen_ok]
          simpa [mmI] using ih
        · simp only [if_true] at ih ⊢
          simp only [Builtin.max2, Sem.run_pure, Result.andThen_ok]
          simpa [mmI] using ih
      · simp at hm
    · simp at hm

theorem s_mm (h : Core B st a.tmps w S rho tau) {mx : Bool} {xs : Array Operand} {ys : List Opd} {ts : Array TypeId} (ho : o.op = .call { callee := .builtin (if mx then .max else .min), args := xs, argTypes := ts })
    (hx : opdsOk xs.toList ys = true) (hs : semMm K mx (ys.map st.arg)) : Quiet P B st o a w rho tau K := by
  cases ys with
  | nil => simp [semMm] at hs
  | cons y ys =>
    obtain ⟨l⟩ := xs
    cases l with
    | nil => simp [opdsOk] at hx
    | cons x xs =>
      simp only [opdsOk, Bool.and_eq_true] at hx
      have r := h.vw (defers := a.defers) hx.1
      simp only [List.map, semMm, St.arg] at hs
      split at hs
      · rename_i k p e1
        rw [e1] at r
        have hv : a.eval x = .int k p := r.imm_inv.int_inv
        split at hs
        · rename_i m hm
          have hrun := mm_run (P := P) h mx k xs ys p m hx.2 hm
          refine quiet_imm h hs ?_ (.int _ _)
          unfold execOp; rw [ho]
          cases mx
          · simp only [Bool.false_eq_true, if_false] at hrun ⊢
            simp [resolve, invoke, builtin, Builtin.min_, hv, hrun]
          · simp only [if_true] at hrun ⊢
            simp [resolve, invoke, builtin, Builtin.max_, hv, hrun]
        · exact hs.elim
      · exact hs.elim

end ops
end Go.DI

/- Each operation does to the machine what it does to the data: aggregates, loads, new memory, calls. No condition. -/
namespace Go.DI
open Go.RowKit

def zOk1 : Value → DV → Bool
  | .slice none 0 0, .cap0 _ [] => true
  | .slice none 0 0, .nils _ => true
  | v, .imm d => constOk1 v d
  | _, _ => false
def zAll : List Value → List DV → Bool
  | [], [] => true
  | v :: vs, d :: ds => zOk1 v d && v.oneCell' && zAll vs ds
  | _, _ => false
def zeroIs (P : Program) (t : TypeId) (ds : List DV) : Bool :=
  match P.info? t with
  | some i => match i.zero with | some z => zAll z.cells.toList ds | none => false
  | none => false

theorem zAll_get {w S rho tau} : ∀ {vs : List Value} {ds : List DV}, zAll vs ds = true → vs.length = ds.length ∧
    (∀ (i : Nat) (x : DV) (v : Value), ds[i]? = some x → vs[i]? = some v → Rl w S rho tau x v) ∧ (∀ (i : Nat) (v : Value), vs[i]? = some v → v.oneCell' = true) ∧ ∀ d ∈ ds, ∀ id, d.names id = false
  | [], [], _ => by simp
  | [], _ :: _, h => by simp [zAll] at h
  | _ :: _, [], h => by simp [zAll] at h
  | v :: vs, d :: ds, h => by
    simp [zAll] at h
    have ih := zAll_get (w := w) (S := S) (rho := rho) (tau := tau) h.2
    have h1 : Rl w S rho tau d v ∧ ∀ id, d.names id = false := by
      have := h.1.1
      unfold zOk1 at this
      split at this
      · exact ⟨.cap0 _ [] _ none (.nils _) rfl, fun id => rfl⟩
      · exact ⟨.nils _, fun id => rfl⟩
      · exact ⟨.imm _ _ (constOk1_rd this), fun id => rfl⟩
      · simp at this
    refine ⟨by simp [ih.1], fun i x u hx hu => ?_, fun i u hu => ?_, fun c hc id => ?_⟩
    · cases i with
      | zero => simp at hx hu; subst hx; subst hu; exact h1.1
      | succ i => simp at hx hu; exact ih.2.1 i x u hx hu
    · cases i with
      | zero => simp at hu; subst hu; exact h.1.2
      | succ i => simp at hu; exact ih.2.2.1 i u hu
    · rcases List.mem_cons.1 hc with rfl | hc
      · exact h1.2 id
      · exact ih.2.2.2 c hc id

theorem zeroIs_of {P : Program} {t : TypeId} {ds : List DV} (h : zeroIs P t ds = true) : ∃ i z, P.info? t = some i ∧ i.zero = some z ∧ zAll z.cells.toList ds = true := by
  unfold zeroIs at h
  split at h
  · rename_i i hi
    split at h
    · exact ⟨i, _, hi, by assumption, h⟩
    · simp at h
  · simp at h

theorem cellsOf_rl {w S rho tau} (ht : ∀ t, ∃ a n c, tau t = Value.slice a n c) {d : DV} {v : Value} (h : Rl w S rho tau d v) {cs : List DV} (hc : cellsOf d = some cs) : v.cells.size = cs.length ∧
    (∀ (i : Nat) (x : DV) (u : Value), cs[i]? = some x → v.cells[i]? = some u → Rl w S rho tau x u) ∧ (∀ (i : Nat) (u : Value), v.cells[i]? = some u → u.oneCell' = true) ∧ ∀ c ∈ cs, ∀ id, c.names id = true → d.names id = true := by
  have one : ∀ (x : DV) (u : Value), Rl w S rho tau x u → u.oneCell' = true → [x] = cs → (∀ id, x.names id = true → d.names id = true) → v.cells = #[u] → v.cells.size = cs.length ∧
    (∀ (i : Nat) (x : DV) (u : Value), cs[i]? = some x → v.cells[i]? = some u → Rl w S rho tau x u) ∧ (∀ (i : Nat) (u : Value), v.cells[i]? = some u → u.oneCell' = true) ∧ ∀ c ∈ cs, ∀ id, c.names id = true → d.names id = true := by
    intro x u hr h1 he hn hv
    subst he
    rw [hv]
    refine ⟨rfl, fun i y z hy hz => ?_, fun i z hz => ?_, fun c hc id hid => ?_⟩
    · have hi : i = 0 := by have := (List.getElem?_eq_some_iff.1 hy).1; simp at this; omega
      subst hi; simp at hy hz; subst hy; subst hz; exact hr
    · have hi : i = 0 := by have := (Array.getElem?_eq_some_iff.1 hz).1; simp at this; omega
      subst hi; simp at hz; subst hz; exact h1
    · simp at hc; subst hc; exact hn id hid
  cases h with
  | undef => simp [cellsOf] at hc
  | imm x _ k =>
    by_cases hg : x.isAgg = true
    · cases x <;> simp [IV.isAgg] at hg
      rename_i xs
      simp [cellsOf] at hc
      obtain ⟨vs, rfl, hl, hr, ha⟩ := k.agg_inv
      subst hc
      refine ⟨by simp [Value.cells, hl], fun i y z hy hz => ?_, fun i z hz => ha i z (by simpa [Value.cells] using hz), fun c hc id hid => ?_⟩
      · simp at hy
        obtain ⟨q, hq, rfl⟩ := hy
        exact .imm _ _ (hr i q z hq (by simpa [Value.cells] using hz))
      · simp at hc
        obtain ⟨q, _, rfl⟩ := hc
        simp [DV.names] at hid
    · by_cases htp : x.isTup = true
      · cases x <;> simp [IV.isTup] at htp
        simp [cellsOf] at hc
      · have hcs : cs = [.imm x] := by cases x <;> simp_all [cellsOf, IV.isAgg, IV.isTup]
        have h1 := k.oneCell (by simpa using hg) (by simpa using htp)
        have hv : v.cells = #[v] := by cases v <;> simp_all [Value.cells, Value.oneCell']
        exact one _ v (.imm _ _ k) h1 hcs.symm (fun id hid => hid) hv
  | ref id off => simp [cellsOf] at hc; exact one _ _ (.ref id off) rfl hc (fun _ k => k) rfl
  | pim x b q k => simp [cellsOf] at hc; exact one _ _ (.pim x b q k) rfl hc (fun _ k => k) rfl
  | vec id off n cap aa k ha hz => simp [cellsOf] at hc; exact one _ _ (.vec id off n cap aa k ha hz) rfl hc (fun _ k => k) rfl
  | own t =>
    simp [cellsOf] at hc
    obtain ⟨p, q, c, e⟩ := ht t
    exact one _ _ (.own t) (by rw [e]; rfl) hc (fun _ k => k) (by rw [e]; rfl)
  | cap0 sz es _ aa k hv => simp [cellsOf] at hc; subst hv; exact one _ _ (.cap0 sz es _ aa k rfl) rfl hc (fun _ k => k) rfl
  | agg xs vs hl hr ha =>
    simp [cellsOf] at hc; subst hc
    refine ⟨by simp [Value.cells, hl], fun i y z hy hz => hr i y z hy (by simpa [Value.cells] using hz), fun i z hz => ha i z (by simpa [Value.cells] using hz), fun c hc id hid => ?_⟩
    simp only [DV.names]
    exact namesAll_mem hc hid
  | fn f p q vf vc hf hc' hrf hrc => simp [cellsOf] at hc; exact one _ _ (.fn f p q vf vc hf hc' hrf hrc) rfl hc (fun _ k => k) rfl
  | yld l => simp [cellsOf] at hc; exact one _ _ (.yld l) rfl hc (fun _ k => k) rfl
  | nils z => simp [cellsOf] at hc; exact one _ _ (.nils z) rfl hc (fun _ k => k) rfl

def partsIs (P : Program) (t : TypeId) : List Nat → List (Nat × Nat) → Bool
  | [], [] => true
  | i :: is, (off, n) :: ps => (match P.underlying t with
    | some (.struct fs) => match fs[i]? with | some fd => fd.offset == off && szIs P fd.type n | none => false
    | some (.array _ e) => szIs P e n && off == i * n
    | _ => false) && partsIs P t is ps
  | _, _ => false
def infosIs (P : Program) (t : TypeId) : Bool :=
  match P.underlying t with
  | some (.struct fs) => fs.toList.all fun f => (P.info? f.type).isSome
  | some (.array _ e) => (P.info? e).isSome
  | _ => false

theorem foldl_set (off : Nat) : ∀ (vs : List Value) (k : Nat) (cells : Array Value), off + k + vs.length ≤ cells.size →
    ((vs.zipIdx k).foldl (fun cs (c, j) => cs.setIfInBounds (off + j) c) cells).toList = cells.toList.take (off + k) ++ (vs ++ cells.toList.drop (off + k + vs.length))
  | [], k, cells, h => by simp
  | v :: vs, k, cells, h => by
    simp only [List.zipIdx_cons, List.foldl_cons]
    simp at h
    rw [foldl_set off vs (k + 1) _ (by simp; omega)]
    apply List.ext_getElem?
    intro i
    simp only [Array.toList_setIfInBounds, List.getElem?_append, List.length_take, List.length_set, Array.length_toList, List.length_cons]
    have e1 : min (off + (k + 1)) cells.size = off + k + 1 := by omega
    have e2 : min (off + k) cells.size = off + k := by omega
    rw [e1, e2]
    by_cases h1 : i < off + k
    · rw [if_pos (by omega), if_pos h1, List.getElem?_take_of_lt (by omega), List.getElem?_take_of_lt h1, List.getElem?_set_ne (by omega)]
    · by_cases h2 : i = off + k
      · subst h2
        rw [if_pos (by omega), if_neg (by omega), if_pos (by omega), List.getElem?_take_of_lt (by omega)]
        rw [List.getElem?_set_self (by simp; omega)]
        simp
      · rw [if_neg (by omega), if_neg h1]
        by_cases h3 : i - (off + k + 1) < vs.length
        · rw [if_pos h3, if_pos (by omega)]
          have : i - (off + k) = (i - (off + k + 1)) + 1 := by omega
          rw [this]; simp
        · rw [if_neg h3, if_neg (by omega)]
          rw [List.getElem?_drop, List.getElem?_drop, List.getElem?_set_ne (by omega)]
          congr 1; omega

theorem setCells_length {cells cs : List DV} {off : Nat} (h : off + cs.length ≤ cells.length) : (setCells cells off cs).length = cells.length := by
  unfold setCells; simp; omega

section ops
variable {P : Program} {B : Base} {st : St} {a : Act} {w : World} {S : Nat → Nat → Prop} {rho : Nat → Nat} {tau : Nat → Value} {o : Oper} {K : DV → Option Res → Prop}

theorem setCells_rl {cells cs : List DV} {vs us : List Value} {off : Nat} (h : off + cs.length ≤ cells.length) (hl : vs.length = cells.length) (hl' : us.length = cs.length)
    (hr : ∀ (i : Nat) (x : DV) (u : Value), cells[i]? = some x → vs[i]? = some u → Rl w S rho tau x u) (hr' : ∀ (i : Nat) (x : DV) (u : Value), cs[i]? = some x → us[i]? = some u → Rl w S rho tau x u) :
    ∀ (i : Nat) (x : DV) (u : Value), (setCells cells off cs)[i]? = some x → (vs.take off ++ (us ++ vs.drop (off + us.length)))[i]? = some u → Rl w S rho tau x u := by
  intro i x u hx hu
  unfold setCells at hx
  simp only [List.getElem?_append, List.length_take] at hx hu
  have e1 : min off cells.length = off := by omega
  have e2 : min off vs.length = off := by omega
  rw [e1] at hx; rw [e2] at hu
  by_cases h1 : i < off
  · rw [if_pos h1] at hx hu
    rw [List.getElem?_take_of_lt h1] at hx hu
    exact hr i x u hx hu
  · rw [if_neg h1] at hx hu
    rw [hl'] at hu
    by_cases h2 : i - off < cs.length
    · rw [if_pos h2] at hx hu; exact hr' _ x u hx hu
    · rw [if_neg h2] at hx hu
      rw [List.getElem?_drop] at hx hu
      exact hr _ x u hx hu

theorem setCells_one {vs us : List Value} {off : Nat} (hr : ∀ (i : Nat) (u : Value), vs[i]? = some u → u.oneCell' = true) (hr' : ∀ (i : Nat) (u : Value), us[i]? = some u → u.oneCell' = true) :
    ∀ (i : Nat) (u : Value), (vs.take off ++ (us ++ vs.drop (off + us.length)))[i]? = some u → u.oneCell' = true := by
  intro i u hu
  have := List.mem_of_getElem? hu
  rcases List.mem_append.1 this with k | k
  · obtain ⟨j, hj⟩ := List.getElem?_of_mem (List.mem_of_mem_take k); exact hr j u hj
  · rcases List.mem_append.1 k with k | k
    · obtain ⟨j, hj⟩ := List.getElem?_of_mem k; exact hr' j u hj
    · obtain ⟨j, hj⟩ := List.getElem?_of_mem (List.mem_of_mem_drop k); exact hr j u hj

def fillV : Array Value → List (Nat × Nat) → List Value → Array Value
  | zc, (off, _) :: ps, v :: vs => fillV (v.cells.zipIdx.foldl (fun cs (c, j) => cs.setIfInBounds (off + j) c) zc) ps vs
  | zc, _, _ => zc

theorem fill_sound (h : Core B st a.tmps w S rho tau) {g : Opd → Arg} (hg : ∀ x y, opdOk x y = true → Rl w S rho tau (g y).vw (a.eval x)) (hgn : ∀ y id, (g y).vw.names id = true → (st.res id).isSome = true) (place : Nat → Option (Nat × Nat)) : ∀ (is : List Nat) (xs : List Operand) (ps : List (Nat × Nat)) (ys : List Opd) (cells out : List DV) (zc : Array Value),
    (∀ (i : Nat) (k : Nat) (p : Nat × Nat), is[i]? = some k → ps[i]? = some p → place k = some p) → is.length = ps.length → is.length = xs.length → opdsOk xs ys = true →
    zc.size = cells.length → (∀ (i : Nat) (x : DV) (u : Value), cells[i]? = some x → zc.toList[i]? = some u → Rl w S rho tau x u) → (∀ (i : Nat) (u : Value), zc.toList[i]? = some u → u.oneCell' = true) →
    (∀ c ∈ cells, ∀ id, c.names id = true → (st.res id).isSome = true) → fillD cells ps (ys.map g) = some out →
    Instr.fill place zc (is.zip (xs.map a.eval)) = some (fillV zc ps (xs.map a.eval)) ∧ (fillV zc ps (xs.map a.eval)).size = out.length ∧
      (∀ (i : Nat) (x : DV) (u : Value), out[i]? = some x → (fillV zc ps (xs.map a.eval)).toList[i]? = some u → Rl w S rho tau x u) ∧
      (∀ (i : Nat) (u : Value), (fillV zc ps (xs.map a.eval)).toList[i]? = some u → u.oneCell' = true) ∧ ∀ c ∈ out, ∀ id, c.names id = true → (st.res id).isSome = true
  | [], xs, ps, ys, cells, out, zc, hp, h1, h2, hx, hz, hr, ha, hn, hf => by
    have : ps = [] := List.eq_nil_of_length_eq_zero h1.symm
    subst this
    have : xs = [] := List.eq_nil_of_length_eq_zero h2.symm
    subst this
    cases ys with
    | nil => simp [fillD] at hf; subst hf; exact ⟨rfl, hz, hr, ha, hn⟩
    | cons _ _ => simp [opdsOk] at hx
  | i :: is, xs, ps, ys, cells, out, zc, hp, h1, h2, hx, hz, hr, ha, hn, hf => by
    cases xs with
    | nil => simp at h2
    | cons x xs =>
      cases ps with
      | nil => simp at h1
      | cons p ps =>
        cases ys with
        | nil => simp [opdsOk] at hx
        | cons y ys =>
          simp only [opdsOk, Bool.and_eq_true] at hx
          obtain ⟨off, n⟩ := p
          simp only [List.map, fillD] at hf
          split at hf
          · rename_i cs hcs
            split at hf
            · rename_i hcond
              obtain ⟨hcn, hle⟩ := hcond
              have rv := hg _ _ hx.1
              obtain ⟨g1, g2, g3, g4⟩ := cellsOf_rl h.tauS rv hcs
              have rv' : (a.eval x).cells.size = cs.length := g1
              have hplace := hp 0 i (off, n) rfl rfl
              have hfold : ((a.eval x).cells.zipIdx.foldl (fun cs (c, j) => cs.setIfInBounds (off + j) c) zc).toList = zc.toList.take off ++ ((a.eval x).cells.toList ++ zc.toList.drop (off + (a.eval x).cells.toList.length)) := by
                have := foldl_set off (a.eval x).cells.toList 0 zc (by simp [rv', hz]; omega)
                rw [Nat.add_zero] at this
                rw [← this]
                congr 1
                rw [← Array.foldl_toList]
                simp
              have ih := fill_sound h hg hgn place is xs ps ys (setCells cells off cs) out ((a.eval x).cells.zipIdx.foldl (fun cs (c, j) => cs.setIfInBounds (off + j) c) zc)
                (fun j k q hk hq => hp (j + 1) k q (by simpa using hk) (by simpa using hq)) (by simpa using h1) (by simpa using h2) hx.2
                (by rw [setCells_length (by omega), ← hz, ← Array.length_toList, hfold]; simp [rv', hz]; omega)
                (by rw [hfold]; exact setCells_rl (by omega) (by simpa using hz) (by simpa using rv') hr (fun j q u hq hu => g2 j q u hq (by simpa using hu)))
                (by rw [hfold]; exact setCells_one ha (fun j u hu => g3 j u (by simpa using hu)))
                (fun c hc id hid => by
                  unfold setCells at hc
                  rcases List.mem_append.1 hc with k | k
                  · exact hn c (List.mem_of_mem_take k) id hid
                  · rcases List.mem_append.1 k with k | k
                    · exact hgn y id (g4 c k id hid)
                    · exact hn c (List.mem_of_mem_drop k) id hid) hf
              obtain ⟨f1, f2⟩ := ih
              refine ⟨?_, f2⟩
              simp only [List.map, List.zip_cons_cons, Instr.fill, hplace]
              rw [if_neg]
              · exact f1
              · have e3 : (a.eval x).cells.size = n := by omega
                simp [e3, hz]; omega
            · simp at hf
          · simp at hf

end ops
end Go.DI

/- Each operation does to the machine what it does to the data: aggregates, loads, new memory, calls. No condition. -/
namespace Go.DI
open Go.RowKit

section ops
variable {P : Program} {B : Base} {st : St} {a : Act} {w : World} {S : Nat → Nat → Prop} {rho : Nat → Nat} {tau : Nat → Value} {o : Oper} {K : DV → Option Res → Prop}

def buildIs (P : Program) (t : TypeId) (is : List Nat) (zero : List DV) (ps : List (Nat × Nat)) : Bool :=
  zeroIs P t zero && partsIs P t is ps && infosIs P t && decide (is.length = ps.length)

theorem partsIs_get {P : Program} {t : TypeId} : ∀ {is : List Nat} {ps : List (Nat × Nat)}, partsIs P t is ps = true → ∀ (i k : Nat) (p : Nat × Nat), is[i]? = some k → ps[i]? = some p → partsIs P t [k] [p] = true
  | [], _, _, i, k, p, hk, hp => by simp at hk
  | _ :: _, [], _, i, k, p, hk, hp => by simp at hp
  | j :: is, (off, n) :: ps, h, i, k, p, hk, hp => by
    simp only [partsIs, Bool.and_eq_true] at h
    cases i with
    | zero => simp at hk hp; subst hk; subst hp; simp only [partsIs, Bool.and_eq_true, and_true]; exact h.1
    | succ i => simp at hk hp; exact partsIs_get h.2 i k p hk hp

theorem built_of {t : TypeId} {vals : List (Nat × Value)} (hi : infosIs P t = true) {it : TypeInfo} {z : Value} (h1 : P.info? t = some it) (h2 : it.zero = some z) {zo : Array Value}
    (hf : ∀ place : Nat → Option (Nat × Nat), (∀ k p, partsIs P t [k] [p] = true → place k = some p) → Instr.fill place z.cells vals = some zo) : P.built t vals = some zo := by
  unfold infosIs at hi
  unfold Program.built
  rw [h1]
  cases hu : P.underlying t with
  | none => simp [hu] at hi
  | some d =>
    cases d <;> simp [hu] at hi
    case array n e =>
      obtain ⟨ie, hie⟩ := Option.isSome_iff_exists.1 hi
      simp only [h2, hie]
      refine hf _ ?_
      rintro k ⟨off, m⟩ hp
      simp only [partsIs, hu, Bool.and_eq_true, and_true, beq_iff_eq] at hp
      obtain ⟨hp1, hp2⟩ := hp
      unfold szIs at hp1
      rw [hie] at hp1
      simp at hp1
      subst hp1; subst hp2; rfl
    case struct fs =>
      have hm : ∃ places, fs.toList.mapM (fun f => (P.info? f.type).map fun i => (f.offset, i.size)) = some places ∧ ∀ (k : Nat) (fd : Field) (i : TypeInfo), fs.toList[k]? = some fd → P.info? fd.type = some i → places[k]? = some (fd.offset, i.size) := by
        have hall : ∀ f ∈ fs.toList, (P.info? f.type).isSome = true := by
          intro f hf
          obtain ⟨i, hi', rfl⟩ := List.getElem_of_mem hf
          simpa using hi i (by simpa using hi')
        clear hf hi
        generalize fs.toList = l at hall
        induction l with
        | nil => exact ⟨[], rfl, by simp⟩
        | cons f r ih =>
          obtain ⟨i, hif⟩ := Option.isSome_iff_exists.1 (hall f (by simp))
          obtain ⟨ps, hps, hg⟩ := ih (fun g hg => hall g (by simp [hg]))
          refine ⟨(f.offset, i.size) :: ps, by simp [List.mapM_cons, hif, hps], fun k fd j hk hj => ?_⟩
          cases k with
          | zero => simp at hk; subst hk; rw [hif] at hj; cases hj; rfl
          | succ k => simp at hk ⊢; exact hg k fd j hk hj
      obtain ⟨places, hps, hg⟩ := hm
      simp only [h2, hps]
      refine hf _ ?_
      rintro k ⟨off, m⟩ hp
      simp only [partsIs, hu, Bool.and_eq_true, and_true] at hp
      split at hp
      · rename_i fd hfd
        simp only [Bool.and_eq_true, beq_iff_eq] at hp
        obtain ⟨hp1, hp2⟩ := hp
        unfold szIs at hp2
        split at hp2
        · rename_i i hif
          simp at hp2
          have := hg k fd i (by simpa using hfd) hif
          simp [this, hp1, hp2]
        · simp at hp2
      · simp at hp

theorem places_ex {t : TypeId} (hi : infosIs P t = true) : ∃ place : Nat → Option (Nat × Nat), ∀ k p, partsIs P t [k] [p] = true → place k = some p := by
  unfold infosIs at hi
  cases hu : P.underlying t with
  | none => simp [hu] at hi
  | some d =>
    cases d <;> simp [hu] at hi
    case array n e =>
      obtain ⟨ie, hie⟩ := Option.isSome_iff_exists.1 hi
      refine ⟨fun i => some (i * ie.size, ie.size), ?_⟩
      rintro k ⟨off, m⟩ hp
      simp only [partsIs, hu, Bool.and_eq_true, and_true, beq_iff_eq] at hp
      obtain ⟨hp1, hp2⟩ := hp
      unfold szIs at hp1
      rw [hie] at hp1
      simp at hp1
      subst hp1; subst hp2; rfl
    case struct fs =>
      refine ⟨fun i => match fs[i]? with | some fd => (P.info? fd.type).map fun x => (fd.offset, x.size) | none => none, ?_⟩
      rintro k ⟨off, m⟩ hp
      simp only [partsIs, hu, Bool.and_eq_true, and_true] at hp
      split at hp
      · rename_i fd hfd
        simp only [Bool.and_eq_true, beq_iff_eq] at hp
        obtain ⟨hp1, hp2⟩ := hp
        unfold szIs at hp2
        split at hp2
        · rename_i i hif
          simp at hp2
          simp [hfd, hif, hp1, hp2]
        · simp at hp2
      · simp at hp

theorem s_build_g (h : Core B st a.tmps w S rho tau) {g : Opd → Arg} (hg : ∀ x y, opdOk x y = true → Rl w S rho tau (g y).vw (a.eval x)) (hgn : ∀ y id, (g y).vw.names id = true → (st.res id).isSome = true) {t : TypeId} {parts : Array (Nat × Operand)} {ys : List Opd} {zero : List DV} {ps : List (Nat × Nat)} (ho : o.op = .build t parts)
    (hb : buildIs P t (parts.toList.map (·.1)) zero ps = true) (hx : opdsOk (parts.toList.map (·.2)) ys = true) (hs : semBuild K zero ps (ys.map g)) : Quiet P B st o a w rho tau K := by
  unfold buildIs at hb
  simp only [Bool.and_eq_true, decide_eq_true_eq] at hb
  obtain ⟨⟨⟨hz, hp⟩, hi⟩, hl⟩ := hb
  obtain ⟨it, z, h1, h2, h3⟩ := zeroIs_of hz
  obtain ⟨g1, g2, g3, g4⟩ := zAll_get (w := w) (S := S) (rho := rho) (tau := tau) h3
  simp only [semBuild] at hs
  split at hs
  · rename_i out hf
    have key : ∀ place : Nat → Option (Nat × Nat), (∀ k p, partsIs P t [k] [p] = true → place k = some p) → _ := fun place hplace =>
      fill_sound h hg hgn place (parts.toList.map (·.1)) (parts.toList.map (·.2)) ps ys zero out z.cells (fun i k p hk hq => hplace k p (partsIs_get hp i k p hk hq)) hl (by simp) hx (by simpa using g1) g2 g3 (fun c hc id hid => by rw [g4 c hc id] at hid; simp at hid) hf
    have hzip : ((parts.map fun (i, x) => (i, a.eval x)).toList) = (parts.toList.map (·.1)).zip ((parts.toList.map (·.2)).map a.eval) := by
      simp only [Array.toList_map]
      generalize parts.toList = l
      induction l with
      | nil => rfl
      | cons p r ih => simp only [List.map_cons, List.zip_cons_cons, ih]
    generalize hzo : fillV z.cells ps ((parts.toList.map (·.2)).map a.eval) = zo at key
    have hbuilt : P.built t ((parts.map fun (i, x) => (i, a.eval x)).toList) = some zo := by
      rw [hzip]
      exact built_of hi h1 h2 (fun place hplace => (key place hplace).1)
    obtain ⟨e2, e3, e4, e5⟩ : zo.size = out.length ∧ (∀ (i : Nat) (x : DV) (u : Value), out[i]? = some x → zo.toList[i]? = some u → Rl w S rho tau x u) ∧
        (∀ (i : Nat) (u : Value), zo.toList[i]? = some u → u.oneCell' = true) ∧ ∀ c ∈ out, ∀ id, c.names id = true → (st.res id).isSome = true := by
      obtain ⟨place, hplace⟩ := places_ex (P := P) (t := t) hi
      exact (key place hplace).2
    have hrun := run_build (P := P) w t _ zo hbuilt
    have e6 : zo = zo.toList.toArray := by simp
    refine quiet_val h hs (v := .agg zo) ?_ ?_ ?_
    · unfold execOp; rw [ho]
      simp only [Sem.run_bind, hrun, Result.andThen_ok]
      rfl
    · rw [e6]; exact mkAgg_rl (by simpa using e2) e3 e4
    · intro id hid
      obtain ⟨c, hc, hn⟩ := names_mkAgg hid
      exact e5 c hc id hn
  · exact hs.elim

theorem s_build (h : Core B st a.tmps w S rho tau) {t : TypeId} {parts : Array (Nat × Operand)} {ys : List Opd} {zero : List DV} {ps : List (Nat × Nat)} (ho : o.op = .build t parts)
    (hb : buildIs P t (parts.toList.map (·.1)) zero ps = true) (hx : opdsOk (parts.toList.map (·.2)) ys = true) (hs : semBuild K zero ps (ys.map st.arg)) : Quiet P B st o a w rho tau K :=
  s_build_g h (g := st.arg) (fun _ _ k => h.vw k) (fun y id k => St.vwC h.envC y id k) ho hb hx hs

theorem s_buildr (h : Core B st a.tmps w S rho tau) {t : TypeId} {parts : Array (Nat × Operand)} {ys : List Opd} {zero : List DV} {ps : List (Nat × Nat)} (ho : o.op = .build t parts)
    (hb : buildIs P t (parts.toList.map (·.1)) zero ps = true) (hx : opdsOk (parts.toList.map (·.2)) ys = true) (hs : semBuildr K zero ps (ys.map st.arg)) : Quiet P B st o a w rho tau K := by
  refine s_build_g h (g := fun y => (st.arg y).up) (fun _ _ k => h.ev k) (fun y id k => St.evC h.envC y id k) ho hb hx ?_
  unfold semBuildr at hs
  rw [List.map_map] at hs
  exact hs

end ops
end Go.DI

/- Each operation does to the machine what it does to the data: loads, new memory, calls. No condition. -/
namespace Go.DI
open Go.RowKit

def resWith (res : Nat → Option Res) (d : Nat) : Option Res → Nat → Option Res
  | some r => upd res d (some r)
  | none => res

def Makes (P : Program) (B : Base) (st : St) (o : Oper) (a : Act) (w : World) (d : Nat) (K : DV → Option Res → Prop) : Prop :=
  ∃ dv nr, K dv nr ∧ ((nr.isSome = true → st.res d = none) → OkOp P o a w fun v w' => ∃ S' rho' tau', Core B { st with res := resWith st.res d nr } a.tmps w' S' rho' tau' ∧
    Rl w' S' rho' tau' dv v ∧ ∀ id, dv.names id = true → ((resWith st.res d nr) id).isSome = true)

section ops
variable {P : Program} {B : Base} {st : St} {a : Act} {w : World} {S : Nat → Nat → Prop} {rho : Nat → Nat} {tau : Nat → Value} {o : Oper} {K : DV → Option Res → Prop}

theorem Quiet.makes {d : Nat} (h : Quiet P B st o a w rho tau K) : Makes P B st o a w d K := by
  obtain ⟨dv, hk, hq⟩ := h
  refine ⟨dv, none, hk, fun _ next Q hn => hq next Q fun v w' ⟨S', h1, h2, h3⟩ => hn v w' ⟨S', rho, tau, h1, h2, h3⟩⟩

theorem load_cells {b off n : Nat} {cells : List DV} {arr : Array Value} {e : TypeId} {fr : Nat × Nat} (hg : w.heap[b]? = some (.cells arr e fr)) (hl : arr.size = cells.length) (hle : off + n ≤ cells.length) :
    (loadCells ⟨b, off, none⟩ n).run P w = .ok ((arr.toList.drop off).take n).toArray w := by
  have hlen : ((arr.toList.drop off).take n).length = n := by simp; omega
  have := run_loadCells_list (P := P) w ⟨b, off, none⟩ ((arr.toList.drop off).take n) (fun j v hj => by
    rw [getElem?_slice] at hj
    split at hj
    · rw [add_addr, cell_of_row w b (off + j) arr e fr hg]
      simpa using hj
    · simp at hj)
  rwa [hlen] at this

theorem load_mem {b off : Nat} {cs : List IV} (hm : RdMem w S (.agg cs) b off) : ∃ vs : List Value, vs.length = cs.length ∧ (loadCells ⟨b, off, none⟩ cs.length).run P w = .ok vs.toArray w ∧
    (∀ (i : Nat) (x : IV) (u : Value), cs[i]? = some x → vs[i]? = some u → Rd w S x u) ∧ ∀ (i : Nat) (u : Value), vs[i]? = some u → u.oneCell' = true := by
  let vs : List Value := (List.range cs.length).map fun i => (w.cell? ⟨b, off + i, none⟩).getD undef
  have hlen : vs.length = cs.length := by simp [vs]
  have hv : ∀ (i : Nat) (u : Value), vs[i]? = some u → ∃ x, cs[i]? = some x ∧ w.cell? ⟨b, off + i, none⟩ = some u ∧ u.oneCell' = true ∧ Rd w S x u := by
    intro i u hu
    have hi : i < cs.length := by have := (List.getElem?_eq_some_iff.1 hu).1; omega
    obtain ⟨_, v, h1, h2, h3⟩ := hm i cs[i] (by simp [IV.cells, hi])
    have : u = v := by
      simp [vs, hi] at hu
      rw [h1] at hu
      exact hu.symm
    subst this
    exact ⟨cs[i], by simp [hi], h1, h2, h3⟩
  refine ⟨vs, hlen, ?_, fun i x u hx hu => ?_, fun i u hu => ?_⟩
  · have := run_loadCells_list (P := P) w ⟨b, off, none⟩ vs (fun j v hj => by
      obtain ⟨x, _, h1, _⟩ := hv j v hj
      rw [add_addr]; exact h1)
    rwa [hlen] at this
  · obtain ⟨y, hy, _, _, h3⟩ := hv i u hu
    rw [hx] at hy; cases hy; exact h3
  · obtain ⟨y, hy, _, h2, _⟩ := hv i u hu
    exact h2

theorem s_load (h : Core B st a.tmps w S rho tau) {t : TypeId} {x : Operand} {y : Opd} {agg : Bool} {n : Nat} (ho : o.op = .load t x) (hag : aggIs P t agg = true) (hsz : szIs P t n = true) (hx : opdOk x y = true)
    (hs : semLoad K agg n [st.arg y]) : Quiet P B st o a w rho tau K := by
  have r0 := h.ev (defers := a.defers) hx
  have r := r0.pt
  have hc := St.evC h.envC y
  have hrunA : ∀ b off u, agg = true → a.eval x = .pointer (some ⟨b, off, none⟩) → (loadCells ⟨b, off, none⟩ n).run P w = .ok u w → (execOp a.eval o).run P w = .ok (.value (.agg u)) w := by
    intro b off u hA e1 e2
    subst hA
    unfold execOp; rw [ho]
    simp [Instr.loadAt, e1, Instr.sureAddr, loadVar, run_isAgg' hag, run_sizeOf' hsz, e2]
  have hrunV : ∀ b off u, agg = false → a.eval x = .pointer (some ⟨b, off, none⟩) → w.cell? ⟨b, off, none⟩ = some u → (execOp a.eval o).run P w = .ok (.value u) w := by
    intro b off u hA e1 e2
    subst hA
    unfold execOp; rw [ho]
    simp [Instr.loadAt, e1, Instr.sureAddr, loadVar, run_isAgg' hag, e2]
  simp only [semLoad, St.arg] at hs
  split at hs
  · rename_i id off e1
    have e1 := DV.pt_ref e1
    rw [e1] at r0 hc hs
    have r' : Rl w S rho tau (.ref id off) (a.eval x) := r0
    generalize hv : a.eval x = v at r'
    cases r' with
    | ref _ _ =>
      have hid : (st.res id).isSome = true := hc id (by simp [DV.names])
      cases hr : st.res id with
      | none => rw [hr] at hid; simp at hid
      | some rs =>
        have hres := h.res id rs hr
        simp only [resVw, hr] at hs
        cases rs with
        | box cells =>
          obtain ⟨arr, e, g1, g2, g3, g4, g5⟩ := hres
          simp only [resOf, hr] at hs
          cases agg
          · simp only [Bool.false_eq_true, if_false] at hs
            split at hs
            · rename_i c hcc
              have hlt : off < arr.size := by have := (List.getElem?_eq_some_iff.1 hcc).1; omega
              refine quiet_val h hs (hrunV _ _ arr[off] rfl hv ?_) (g3 off c _ hcc (by simp [hlt])) ?_
              · rw [cell_of_row w (rho id) off arr e (0, 0) g1]
                simp [hlt]
              · exact fun id' hn => h.resC id cells hr c (List.mem_of_getElem? hcc) id' hn
            · exact hs.elim
          · simp only [if_true] at hs
            obtain ⟨hle, hk⟩ := hs
            rw [viewAll_length] at hle
            have hlen : ((arr.toList.drop off).take n).length = n := by simp; omega
            refine quiet_val h hk (hrunA _ _ _ rfl hv (load_cells g1 g2 hle)) ?_ ?_
            · refine mkAgg_rl (by simp [viewAll_length]; omega) ?_ ?_
              · intro i c u hcc hu
                rw [getElem?_slice] at hcc hu
                split at hcc
                · rename_i hi
                  rw [if_pos hi] at hu
                  rw [viewAll_get] at hcc
                  cases hq : cells[off + i]? with
                  | none => simp [hq] at hcc
                  | some q =>
                    simp [hq] at hcc; subst hcc
                    exact view_sound h.res (g3 _ q u hq (by simpa using hu))
                · simp at hcc
              · intro i u hu
                rw [getElem?_slice] at hu
                split at hu
                · exact g4 _ u (by simpa using hu)
                · simp at hu
            · intro id' hn
              obtain ⟨c, hcm, hcn⟩ := names_mkAgg hn
              have hcm := List.mem_of_mem_drop (List.mem_of_mem_take hcm)
              obtain ⟨i, hi⟩ := List.getElem?_of_mem hcm
              rw [viewAll_get] at hi
              cases hq : cells[i]? with
              | none => simp [hq] at hi
              | some q =>
                simp [hq] at hi; subst hi
                exact h.resC id cells hr q (List.mem_of_getElem? hq) id' (names_view hcn)
        | arr es =>
          obtain ⟨arr, e, g1, g2, g3, g4, g5⟩ := hres
          obtain ⟨rfl, hlt, hk⟩ := hs
          have hlt' : off < arr.size := by omega
          refine quiet_imm h hk (hrunV _ _ arr[off] rfl hv ?_) (g3 off _ _ (getD_get hlt) (by simp [hlt'])).2.2
          rw [cell_of_row w (rho id) off arr e (0, 0) g1]
          simp [hlt']
        | fza es =>
          cases agg
          · simp only [Bool.false_eq_true, if_false] at hs
            obtain ⟨hlt, hk⟩ := hs
            obtain ⟨g1, g2, v, g3, g4, g5⟩ := hres off _ (getD_get hlt)
            exact quiet_imm h hk (hrunV _ _ v rfl hv g3) g5
          · simp only [if_true] at hs
            obtain ⟨hle, hk⟩ := hs
            have hm : RdMem w S (.agg ((es.drop off).take n)) (rho id) off := by
              intro j x hx
              simp only [IV.cells] at hx
              rw [getElem?_slice] at hx
              split at hx
              · obtain ⟨_, h2, v, h3, h4, h5⟩ := hres (off + j) x hx
                exact ⟨h2, v, h3, h4, h5⟩
              · cases hx
            obtain ⟨vs, g1, g2, g3, g4⟩ := load_mem (P := P) hm
            rw [show ((es.drop off).take n).length = n by simp; omega] at g2
            exact quiet_imm h hk (hrunA _ _ _ rfl hv g2) (.agg _ vs g1 g3 g4)
        | tok sz es => exact hs.elim
        | seq l t => exact hs.elim
  · rename_i d e1
    rw [e1] at r
    have r' : Rl w S rho tau (.pim d) (a.eval x) := r
    generalize hv : a.eval x = v at r'
    cases r' with
    | pim _ b q hm =>
      cases agg
      · simp only [Bool.false_eq_true, if_false] at hs
        obtain ⟨x, hx, hk⟩ : ∃ x, d.cells[0]? = some x ∧ K (.imm x) none := by
          cases d <;> simp only [loadI] at hs <;> try exact ⟨_, rfl, hs⟩
          case agg cs =>
            cases h0 : cs[0]? with
            | none => rw [h0] at hs; exact hs.elim
            | some c => rw [h0] at hs; exact ⟨c, h0, hs.2.2⟩
        obtain ⟨_, u, g1, g2, g3⟩ := hm 0 x hx
        exact quiet_imm h hk (hrunV _ _ u rfl hv (by simpa using g1)) g3
      · simp only [if_true] at hs
        split at hs
        · rename_i cs
          obtain ⟨hn, hk⟩ := hs
          have hm' : RdMem w S (.agg (cs.take n)) b q := fun j x hx => hm j x (by
            simp only [IV.cells] at hx ⊢
            rw [List.getElem?_take] at hx
            split at hx
            · exact hx
            · cases hx)
          obtain ⟨vs, g1, g2, g3, g4⟩ := load_mem (P := P) hm'
          rw [show (cs.take n).length = n by simp; omega] at g2
          exact quiet_imm h hk (hrunA _ _ _ rfl hv g2) (.agg _ vs g1 g3 g4)
        · exact hs.elim
  · exact hs.elim

theorem below_alloc (w : World) (x : Obj) : Below w.heap.size w (w.alloc x) := (Below.refl _ w).alloc (Nat.le_refl _) x

theorem Core.alloc (h : Core B st a.tmps w S rho tau) (x : Obj) : Core B st a.tmps (w.alloc x) S rho tau :=
  h.step (below_alloc w x) (fun _ _ k => k) (fun _ _ k => .inl k) (fun b q k => by have := h.stab b q k; simp; omega)

theorem heap_new (w : World) (x : Obj) : (w.alloc x).heap[w.heap.size]? = some x := heap_alloc_new w x

theorem box_new (h : Core B st a.tmps w S rho tau) {d : Nat} (hd : st.res d = none) {cells : List DV} {arr : Array Value} {e : TypeId} (hl : arr.size = cells.length)
    (hr : ∀ (i : Nat) (x : DV) (u : Value), cells[i]? = some x → arr[i]? = some u → Rl w S rho tau x u) (ha : ∀ (i : Nat) (u : Value), arr[i]? = some u → u.oneCell' = true)
    (hn : ∀ c ∈ cells, ∀ id, c.names id = true → (st.res id).isSome = true) :
    Core B { st with res := upd st.res d (some (.box cells)) } a.tmps (w.alloc (.cells arr e)) S (upd rho d w.heap.size) (upd tau d (.slice none 0 0)) := by
  have hC := h.alloc (.cells arr e)
  have hx : Ext w S (w.alloc (.cells arr e)) S := ext_of_below h.stab (fun _ _ k => k) (below_alloc w _)
  refine hC.add hd w.heap.size (.slice none 0 0) (.box cells) ⟨_, _, _, rfl⟩ ⟨arr, e, ?_, hl, ?_, ha, ?_⟩ ?_ ?_
  · simp only [upd, if_true]; exact heap_new w _
  · intro i c u hc hu
    have := (hr i c u hc hu).mono hx
    refine this.turn (id := d) (fun i hi => by simp [upd, hi]) (fun i hi => by simp [upd, hi]) ?_
    cases hnd : c.names d with
    | false => rfl
    | true => have := hn c (List.mem_of_getElem? hc) d hnd; rw [hd] at this; simp at this
  · intro q hq
    simp only [upd, if_true] at hq
    have := h.stab _ _ hq
    omega
  · intro cs hcs c hc id hid
    cases hcs
    exact .inr (hn c hc id hid)
  · intro _
    refine ⟨h.fresh (Nat.le_refl _), by simp, fun i r' hr' ho e => ?_⟩
    have := (h.base i r' hr' ho).2
    omega

theorem s_alloc (h : Core B st a.tmps w S rho tau) {t : TypeId} {d : Nat} {zero : List DV} (ho : o.op = .alloc t) (hz : zeroIs P t zero = true) (hs : semAlloc K d zero []) : Makes P B st o a w d K := by
  obtain ⟨it, z, h1, h2, h3⟩ := zeroIs_of hz
  refine ⟨_, _, hs, fun hfr => ?_⟩
  have hd := hfr rfl
  obtain ⟨g1, g2, g3, g4⟩ := zAll_get (w := w) (S := S) (rho := rho) (tau := tau) h3
  have hC := box_new h hd (e := t) (by simpa using g1) (fun i x u hx hu => g2 i x u hx (by simpa using hu)) (fun i u hu => g3 i u (by simpa using hu)) (fun c hc id hid => by rw [g4 c hc id] at hid; simp at hid)
  refine okOp_run (w' := w.alloc (.cells z.cells t)) (v := .pointer (some ⟨w.heap.size, 0, none⟩)) ?_ ⟨S, _, _, hC, ?_, ?_⟩
  · unfold execOp; rw [ho]
    simp [Instr.alloc, zeroValue, typeInfo, h1, h2, newVar, newRow]
  · have := Rl.ref (w := w.alloc (.cells z.cells t)) (S := S) (rho := upd rho d w.heap.size) (tau := upd tau d (.slice none 0 0)) d 0
    simpa [upd] using this
  · intro id hid
    have : d = id := by simpa [DV.names] using hid
    subst this; simp [upd, resWith]

theorem s_box (h : Core B st a.tmps w S rho tau) {t : TypeId} {d : Nat} {x : Operand} {y : Opd} (ho : o.op = .box t x) (hx : opdOk x y = true) (hs : semBox K d [st.arg y]) : Makes P B st o a w d K := by
  have r := h.ev (defers := a.defers) hx
  simp only [semBox, St.arg] at hs
  split at hs
  · rename_i cs hcs
    refine ⟨_, _, hs, fun hfr => ?_⟩
    have hd := hfr rfl
    obtain ⟨g1, g2, g3, g4⟩ := cellsOf_rl h.tauS r hcs
    have g1' : (a.eval x).cells.size = cs.length := g1
    have hC := box_new h hd (e := t) g1' g2 g3 (fun c hc id hid => St.evC h.envC y id (g4 c hc id hid))
    refine okOp_run (w' := w.alloc (.cells (a.eval x).cells t)) (v := .pointer (some ⟨w.heap.size, 0, none⟩)) ?_ ⟨S, _, _, hC, ?_, ?_⟩
    · unfold execOp; rw [ho]
      simp [Instr.box, newVar, newRow]
    · have := Rl.ref (w := w.alloc (.cells (a.eval x).cells t)) (S := S) (rho := upd rho d w.heap.size) (tau := upd tau d (.slice none 0 0)) d 0
      simpa [upd] using this
    · intro id hid
      have : d = id := by simpa [DV.names] using hid
      subst this; simp [upd, resWith]
  · exact hs.elim

theorem s_ntok (h : Core B st a.tmps w S rho tau) {d sz : Nat} {x : Operand} {y : Opd} (ho : o.op = .move x ∨ o.op = .assign x) (hv : x = .const (.slice none 0 0)) (hs : semNtok K d sz [st.arg y]) : Makes P B st o a w d K := by
  subst hv
  simp only [semNtok, St.arg] at hs
  split at hs
  · refine ⟨_, _, hs, fun hfr => ?_⟩
    have hd := hfr rfl
    have hC := h.add hd 0 (.slice none 0 0) (.tok sz []) ⟨_, _, _, rfl⟩ ⟨by simp only [upd, if_true]; exact .nils sz, .inl ⟨none, by simp [upd]⟩⟩ (by simp) (by
      rintro ⟨p, n, c, he, _⟩
      simp [upd] at he)
    refine okOp_run (w' := w) (v := .slice none 0 0) ?_ ⟨S, _, _, hC, ?_, ?_⟩
    · unfold execOp
      rcases ho with ho | ho <;> rw [ho] <;> rfl
    · have := Rl.own (w := w) (S := S) (rho := upd rho d 0) (tau := upd tau d (.slice none 0 0)) d
      simpa [upd] using this
    · intro id hid
      have : d = id := by simpa [DV.names] using hid
      subst this; simp [upd, resWith]
  · exact hs.elim

theorem s_call (h : Core B st a.tmps w S rho tau) {f : Operand} {xs : Array Operand} {ts : Array TypeId} {ys : List Opd} (ho : o.op = .call { callee := .value f, args := xs, argTypes := ts }) (hx : opdsOk (f :: xs.toList) ys = true)
    (hs : semCall K P (ys.map st.arg)) : Quiet P B st o a w rho tau K := by
  cases ys with
  | nil => simp [opdsOk] at hx
  | cons y ys =>
    simp only [opdsOk, Bool.and_eq_true] at hx
    have r := h.vw (defers := a.defers) hx.1
    simp only [List.map_cons, semCall, St.arg] at hs
    split at hs
    · rename_i g first cap e1
      rw [e1] at r
      have r' : Rd w S (.func g first cap) (a.eval f) := r.imm_inv
      generalize hv : a.eval f = v at r'
      split at hs
      · rename_i ds hds
        obtain ⟨res, ⟨⟨fn, c, hf, hb, hname⟩, hcall⟩, hk⟩ := hs
        obtain ⟨hl, hr⟩ := imm_args h hx.2 hds
        cases r' with
        | func _ _ _ vf vc hlf hlc hrf hrc =>
          have hfun : (execOp a.eval o).run P w = .ok (.enter g ((vf ++ xs.toList.map a.eval) ++ vc).toArray) w := by
            unfold execOp; rw [ho]
            have e : xs.map a.eval = (xs.toList.map a.eval).toArray := by apply Array.ext'; simp
            have hbn : fn.body.isNone = false := by rw [hb]; rfl
            simp only [resolve, hv, Deferred.ofValue, invoke, callFunc, Sem.run_bind, Sem.run_pure, Result.andThen_ok, run_program, hf, hname, Bool.false_eq_true, if_false, hbn, e]
            simp
          refine ⟨.imm res, hk, ?_⟩
          intro next Q hn
          unfold Oper.wp
          rw [hfun]
          simp only [Oper.upon_enter]
          have hspec := hcall w S ((vf ++ xs.toList.map a.eval) ++ vc) h.stab (by simp at hl ⊢; omega) (by
            intro i d u hd hu
            simp only [List.getElem?_append] at hd hu
            simp only [List.length_append] at hd hu
            rw [hlf, hl] at hu
            split at hd
            · rename_i h1
              rw [if_pos h1] at hu
              split at hd
              · rename_i h2
                rw [if_pos h2] at hu
                exact hrf i d u hd hu
              · rename_i h2
                rw [if_neg h2] at hu
                exact hr _ d u hd hu
            · rename_i h1
              rw [if_neg h1] at hu
              exact hrc _ d u hd hu)
          refine hspec.mono ?_
          rintro e w' ⟨u, S', rfl, hb', hsub, hs1, hst, hrd⟩
          exact hn u w' ⟨S', h.step hb' hsub hs1 hst, .imm _ _ hrd, by simp [DV.names]⟩
      · exact hs.elim
    · exact hs.elim

end ops
end Go.DI

/- Each operation does to the machine what it does to the data: new slices, equality of structs. No condition. -/
namespace Go.DI
open Go.RowKit

section ops
variable {P : Program} {B : Base} {st : St} {a : Act} {w : World} {S : Nat → Nat → Prop} {rho : Nat → Nat} {tau : Nat → Value} {o : Oper} {K : DV → Option Res → Prop}

def flatV (vs : List Value) : List Value := vs.flatMap fun v => v.cells.toList

theorem flat_get {sz : Nat} : ∀ {vs : List Value}, (∀ v ∈ vs, v.cells.size = sz) → ∀ (i j : Nat) (v : Value), vs[i]? = some v → j < sz → (flatV vs)[i * sz + j]? = v.cells[j]?
  | [], _, i, j, v, hv, _ => by simp at hv
  | u :: r, h, i, j, v, hv, hj => by
    have hu := h u (by simp)
    simp only [flatV, List.flatMap_cons]
    cases i with
    | zero =>
      simp at hv; subst hv
      rw [Nat.zero_mul, Nat.zero_add, List.getElem?_append_left (by simpa [hu] using hj)]
      simp
    | succ i =>
      simp at hv
      rw [List.getElem?_append_right (by simp [hu, Nat.succ_mul]; omega)]
      have := flat_get (sz := sz) (fun x hx => h x (by simp [hx])) i j v hv hj
      simp only [flatV] at this
      rw [← this]
      congr 1
      simp [hu, Nat.succ_mul]; omega

theorem flat_length {sz : Nat} : ∀ {vs : List Value}, (∀ v ∈ vs, v.cells.size = sz) → (flatV vs).length = vs.length * sz
  | [], _ => by simp [flatV]
  | u :: r, h => by
    have hu := h u (by simp)
    have := flat_length (sz := sz) (vs := r) (fun x hx => h x (by simp [hx]))
    simp only [flatV, List.flatMap_cons, List.length_append, List.length_cons] at this ⊢
    rw [this]
    simp [hu, Nat.succ_mul]; omega

theorem rd_row {sz : Nat} {es : List IV} {vs : List Value} (hl : vs.length = es.length) (hr : ∀ (i : Nat) (d : IV) (v : Value), es[i]? = some d → vs[i]? = some v → Rd w S d v)
    (hz : (es.all fun e => e.cells.length == sz && !e.isTup) = true) {b : Nat} {arr : Array Value} {e : TypeId} {fr : Nat × Nat} (hg : w.heap[b]? = some (.cells arr e fr))
    (hp : ∀ i, i < es.length * sz → arr[i]? = (flatV vs)[i]?) (hS : ∀ i, i < es.length * sz → S b i) {cap : Nat} (hcap : es.length ≤ cap) : Rd w S (.slc sz es) (.slice (some ⟨b, 0, none⟩) es.length cap) := by
  have hall : ∀ (i : Nat) (d : IV), es[i]? = some d → d.cells.length = sz ∧ d.isTup = false := by
    intro i d hd
    have := List.all_eq_true.1 hz d (List.mem_of_getElem? hd)
    simpa using this
  have hsz : ∀ v ∈ vs, v.cells.size = sz := by
    intro v hv
    obtain ⟨i, hi⟩ := List.getElem?_of_mem hv
    have hlt : i < es.length := by have := (List.getElem?_eq_some_iff.1 hi).1; omega
    have hd : es[i]? = some es[i] := by simp [hlt]
    rw [((hr i _ v hd hi).agg_cells (hall i _ hd).2).1]
    exact (hall i _ hd).1
  have hcell : ∀ (i : Nat) (d : IV) (j : Nat) (x : IV), es[i]? = some d → d.cells[j]? = some x → ∃ v u, vs[i]? = some v ∧ v.cells[j]? = some u ∧ arr[i * sz + j]? = some u ∧ u.oneCell' = true ∧ Rd w S x u ∧ i * sz + j < es.length * sz := by
    intro i d j x hd hx
    have hlt : i < es.length := (List.getElem?_eq_some_iff.1 hd).1
    have hv : vs[i]? = some vs[i] := by simp [hl, hlt]
    obtain ⟨k1, k2, k3⟩ := (hr i d _ hd hv).agg_cells (hall i d hd).2
    have hj : j < sz := by have := (List.getElem?_eq_some_iff.1 hx).1; rw [(hall i d hd).1] at this; exact this
    have hju : j < vs[i].cells.size := by rw [k1, (hall i d hd).1]; exact hj
    have hb : i * sz + j < es.length * sz := by
      have : (i + 1) * sz ≤ es.length * sz := Nat.mul_le_mul_right _ hlt
      rw [Nat.succ_mul] at this; omega
    refine ⟨vs[i], vs[i].cells[j], hv, by simp [hju], ?_, k3 j _ (by simp [hju]), k2 j x _ hx (by simp [hju]), hb⟩
    rw [hp _ hb, flat_get hsz i j _ hv hj]
    simp [hju]
  refine .slc sz es b 0 cap (fun i => (arr[i]?).getD undef) hcap (fun i hi => ⟨by simpa using hS i hi, ?_⟩) (fun i d hd => (hall i d hd).1) (fun i d j x hd hx => ?_) (fun i d j x hd hx => ?_)
  · rw [Nat.zero_add, cell_of_row w b i arr e fr hg]
    have hlt : i < (flatV vs).length := by rw [flat_length hsz, hl]; exact hi
    rw [hp i hi]
    simp [hlt]
  · obtain ⟨v, u, _, _, h3, h4, h5, _⟩ := hcell i d j x hd hx
    rw [h3]; exact h5
  · obtain ⟨v, u, _, _, h3, h4, h5, _⟩ := hcell i d j x hd hx
    rw [h3]; exact h4

theorem list_step {α : Type} (A B F cells : List α) (p sz q : Nat) (hA : A.length = p) (hB : B.length = sz) (hq : p + sz ≤ q) :
    (A ++ (B ++ cells.drop (p + sz))).take (p + sz) ++ (F ++ (A ++ (B ++ cells.drop (p + sz))).drop q) = A ++ ((B ++ F) ++ cells.drop q) := by
  have h1 : (A ++ (B ++ cells.drop (p + sz))) = (A ++ B) ++ cells.drop (p + sz) := by simp
  have h2 : (A ++ B).length = p + sz := by simp [hA, hB]
  rw [h1, List.take_left' h2]
  have h3 : ((A ++ B) ++ cells.drop (p + sz)).drop q = cells.drop q := by
    have : q = (p + sz) + (q - (p + sz)) := by omega
    rw [this, ← List.drop_drop, List.drop_left' h2, List.drop_drop]
  rw [h3]
  simp

theorem fill_flat (sz : Nat) : ∀ (vs : List Value) (k : Nat) (cells : Array Value), (∀ v ∈ vs, v.cells.size = sz) → (k + vs.length) * sz ≤ cells.size →
    ∃ out, Instr.fill (fun i => some (i * sz, sz)) cells ((List.range' k vs.length).zip vs) = some out ∧ out.toList = cells.toList.take (k * sz) ++ (flatV vs ++ cells.toList.drop ((k + vs.length) * sz))
  | [], k, cells, _, _ => ⟨cells, rfl, by simp [flatV]⟩
  | v :: vs, k, cells, h, hle => by
    have hv := h v (by simp)
    simp only [List.length_cons] at hle
    have hle1 : (k + 1) * sz ≤ cells.size := Nat.le_trans (Nat.mul_le_mul_right _ (by omega)) hle
    rw [Nat.succ_mul] at hle1
    have hfold := foldl_set (k * sz) v.cells.toList 0 cells (by simp [hv]; omega)
    rw [Nat.add_zero] at hfold
    have hf : (v.cells.zipIdx.foldl (fun cs (c, j) => cs.setIfInBounds (k * sz + j) c) cells).toList = cells.toList.take (k * sz) ++ (v.cells.toList ++ cells.toList.drop (k * sz + v.cells.toList.length)) := by
      rw [← hfold]
      congr 1
      rw [← Array.foldl_toList]
      simp
    have hsize : (v.cells.zipIdx.foldl (fun cs (c, j) => cs.setIfInBounds (k * sz + j) c) cells).size = cells.size := by
      rw [← Array.length_toList, hf]; simp [hv]; omega
    obtain ⟨out, h1, h2⟩ := fill_flat sz vs (k + 1) (v.cells.zipIdx.foldl (fun cs (c, j) => cs.setIfInBounds (k * sz + j) c) cells) (fun x hx => h x (by simp [hx])) (by
      rw [hsize]
      have : k + 1 + vs.length = k + (vs.length + 1) := by omega
      rw [this]; exact hle)
    refine ⟨out, ?_, ?_⟩
    · simp only [List.length_cons, List.range'_succ, List.zip_cons_cons, Instr.fill]
      rw [if_neg]
      · exact h1
      · simp [hv]; omega
    · rw [h2, hf]
      have e1 : (k + 1) * sz = k * sz + sz := Nat.succ_mul k sz
      have e4 : k + 1 + vs.length = k + (vs.length + 1) := by omega
      have hle' : k * sz + sz ≤ (k + (vs.length + 1)) * sz := by rw [← e1]; exact Nat.mul_le_mul_right _ (by omega)
      rw [e1, e4]
      have := list_step (cells.toList.take (k * sz)) v.cells.toList (flatV vs) cells.toList (k * sz) sz ((k + (vs.length + 1)) * sz) (by simp; omega) (by simpa using hv) hle'
      have e5 : v.cells.toList.length = sz := by simpa using hv
      rw [e5, this]
      simp [flatV]

def bslIs (P : Program) (t : TypeId) (n sz : Nat) (is : List Nat) : Bool :=
  (match P.underlying t with | some (.slice e) => szIs P e sz && (match P.info? e with | some i => i.zero.isSome | none => false) | _ => false) && decide (is = List.range' 0 n) && decide (n * sz ≤ 2 ^ 24)

theorem s_bsl (h : Core B st a.tmps w S rho tau) {t : TypeId} {n : Nat} {parts : Array (Nat × Operand)} {ys : List Opd} {sz : Nat} (ho : o.op = .buildSlice t n parts)
    (hb : bslIs P t n sz (parts.toList.map (·.1)) = true) (hx : opdsOk (parts.toList.map (·.2)) ys = true) (hs : semBsl K sz (ys.map st.arg)) : Quiet P B st o a w rho tau K := by
  unfold bslIs at hb
  simp only [Bool.and_eq_true, decide_eq_true_eq] at hb
  obtain ⟨⟨ht, his⟩, hbig⟩ := hb
  split at ht
  · rename_i e hu
    simp only [Bool.and_eq_true] at ht
    obtain ⟨hsz, hze⟩ := ht
    split at hze
    · rename_i i hie
      obtain ⟨z, hz⟩ := Option.isSome_iff_exists.1 hze
      have hcell : i.size = sz := by unfold szIs at hsz; rw [hie] at hsz; simpa using hsz
      simp only [semBsl] at hs
      split at hs
      · rename_i es hes
        obtain ⟨hall, hk⟩ := hs
        obtain ⟨hl, hr⟩ := imm_args h hx hes
        have hvsz : ∀ v ∈ ((parts.toList.map (·.2)).map a.eval), v.cells.size = sz := by
          intro v hv
          obtain ⟨j, hj⟩ := List.getElem?_of_mem hv
          have hlt : j < es.length := by have := (List.getElem?_eq_some_iff.1 hj).1; omega
          have hd : es[j]? = some es[j] := by simp [hlt]
          have ha := List.all_eq_true.1 hall es[j] (List.mem_of_getElem? hd)
          simp at ha
          rw [((hr j _ v hd hj).agg_cells ha.2).1]
          exact ha.1
        have hn : n = ((parts.toList.map (·.2)).map a.eval).length := by
          have := congrArg List.length his
          simpa using this.symm
        generalize hvs : (parts.toList.map (·.2)).map a.eval = vs at *
        have hzr : (zeroValue e).run P w = .ok z w := by simp [zeroValue, typeInfo, hie, hz]
        obtain ⟨zc, hzc⟩ : ∃ zc : Array Value, zc = if n * sz = 0 then #[] else z.cells := ⟨_, rfl⟩
        obtain ⟨out, f1, f2⟩ := fill_flat sz vs 0 ((Array.range (n * sz)).map (fun j => zc[j % zc.size]!)) hvsz (by simp [hn])
        have hzip : ((parts.map fun (j, x) => (j, a.eval x)).toList) = (List.range' 0 vs.length).zip vs := by
          rw [← hn, ← his, ← hvs]
          simp only [Array.toList_map]
          generalize parts.toList = l
          induction l with
          | nil => rfl
          | cons p r ih => simp only [List.map_cons, List.zip_cons_cons, ih]
        have hout : out.toList = flatV vs := by
          rw [f2]
          rw [Nat.zero_mul, List.take_zero, List.nil_append, List.drop_of_length_le (by simp [hn]), List.append_nil]
        have hrun : (execOp a.eval o).run P w = .ok (.value (.slice (some ⟨w.heap.size, 0, none⟩) n n)) (w.alloc (.cells out e)) := by
          unfold execOp; rw [ho]
          simp only [Sem.run_bind, Instr.buildSlice, run_underlying hu, Result.andThen_ok, run_sizeOf' hsz, Sem.run_ite]
          rw [if_neg (by omega)]
          by_cases h0 : n * sz = 0
          · rw [if_pos h0] at hzc ⊢
            subst hzc
            simp only [Sem.run_pure, Result.andThen_ok]
            simp only [hzip, f1]
            rfl
          · rw [if_neg h0] at hzc ⊢
            subst hzc
            simp only [hzr, Sem.run_pure, Result.andThen_ok]
            simp only [hzip, f1]
            rfl
        have hC := h.alloc (.cells out e)
        let S' : Nat → Nat → Prop := fun b q => S b q ∨ (b = w.heap.size ∧ q < n * sz)
        have hS' : Core B st a.tmps (w.alloc (.cells out e)) S' rho tau := by
          refine h.step (below_alloc w _) (fun _ _ k => .inl k) (fun b q k => ?_) (fun b q k => ?_)
          · rcases k with k | ⟨rfl, _⟩
            · exact .inl k
            · exact .inr (Nat.le_refl _)
          · rcases k with k | ⟨rfl, _⟩
            · have := h.stab b q k; simp; omega
            · simp
        have hx2 : Ext w S (w.alloc (.cells out e)) S' := ext_of_below h.stab (fun _ _ k => .inl k) (below_alloc w _)
        have hne : es.length = n := by rw [hn]; exact hl.symm
        refine ⟨_, hk, okOp_run hrun ⟨S', hS', .cap0 sz es _ (some ⟨w.heap.size, 0, none⟩) ?_ (by rw [hne]), by simp [DV.names]⟩⟩
        have hrd := rd_row (w := w.alloc (.cells out e)) (S := S') (b := w.heap.size) (arr := out) (e := e) (fr := (0, 0)) (cap := n) hl (fun i d v hd hv => (hr i d v hd hv).mono hx2) hall (heap_new w _)
          (fun i hi => by rw [← Array.getElem?_toList, hout]) (fun i hi => .inr ⟨rfl, by rw [← hne]; exact hi⟩) (by omega)
        rw [hne] at hrd
        exact hrd
      · exact hs.elim
    · simp at hze
  · simp at ht

def mkslIs (P : Program) (t : TypeId) (zero : IV) (bytes : Nat) : Bool :=
  match P.underlying t with
  | some (.slice e) => match P.info? e with
    | some i => i.size == 1 && i.bytes == bytes && (match i.zero with | some z => constOk1 z zero && z.oneCell' && !zero.isAgg && !zero.isTup | none => false)
    | none => false
  | _ => false

theorem s_mksl (h : Core B st a.tmps w S rho tau) {t : TypeId} {x1 x2 : Operand} {y1 y2 : Opd} {d bytes : Nat} {zero : IV} (ho : o.op = .makeSlice t x1 x2) (ht : mkslIs P t zero bytes = true)
    (h1 : opdOk x1 y1 = true) (h2 : opdOk x2 y2 = true) (hs : semMksl K d zero bytes [st.arg y1, st.arg y2]) : Makes P B st o a w d K := by
  have r1 := h.vw (defers := a.defers) h1
  have r2 := h.vw (defers := a.defers) h2
  unfold mkslIs at ht
  split at ht
  · rename_i e hu
    split at ht
    · rename_i i hie
      split at ht
      · rename_i z hz
        simp only [Bool.and_eq_true, beq_iff_eq, Bool.not_eq_true'] at ht
        obtain ⟨⟨hsz, hby⟩, ⟨⟨hzc, hz1⟩, hzg⟩, hzt⟩ := ht
        simp only [semMksl, St.arg] at hs
        split at hs
        · rename_i k p k' q e1 e2
          rw [e1] at r1; rw [e2] at r2
          have v1 : a.eval x1 = .int k p := r1.imm_inv.int_inv
          have v2 : a.eval x2 = .int k' q := r2.imm_inv.int_inv
          obtain ⟨rfl, rfl, h0, hb, hm, hk⟩ := hs
          refine ⟨_, _, hk, fun hfr => ?_⟩
          have hd := hfr rfl
          have hwrap : IntKind.i64.wrap p = p := IntWalk.i64_in p (by omega)
          have hzcells : z.cells = #[z] := by cases z <;> simp_all [Value.cells, Value.oneCell']
          let arr : Array Value := (Array.range p.toNat).map fun j => #[z][j % (#[z] : Array Value).size]!
          have harr : ∀ (j : Nat) (u : Value), arr[j]? = some u → u = z := by
            intro j u hu'
            simp only [arr, Array.getElem?_map, Option.map_eq_some_iff] at hu'
            obtain ⟨q, _, hj⟩ := hu'
            simpa [Nat.mod_one] using hj.symm
          have hlen : arr.size = p.toNat := by simp [arr]
          have hrun : (execOp a.eval o).run P w = .ok (.value (.slice (some ⟨w.heap.size, 0, none⟩) p.toNat p.toNat)) (w.alloc (.cells arr e)) := by
            unfold execOp; rw [ho]
            have hbi : ¬ (281474976710656 < (i.bytes : Int) * p) := by rw [hby, Int.mul_comm]; omega
            have hlt : ¬ p < 0 := by omega
            by_cases hz0 : p.toNat = 0
            · have : arr = #[] := by
                apply Array.ext'
                simp [arr, hz0]
              rw [this]
              simp [Instr.makeSlice, run_underlying hu, v1, v2, asInt, asIntOf, typeInfo, hie, hwrap, hlt, hbi, sizeOf, newRow, hz0]
              congr 2
              apply Array.ext'
              simp
            · simp [Instr.makeSlice, run_underlying hu, v1, v2, asInt, asIntOf, typeInfo, hie, hwrap, hlt, hbi, sizeOf, hsz, zeroValue, hz, hzcells, newRow, arr, hz0]
          have hC := h.alloc (.cells arr e)
          have hx2 : Ext w S (w.alloc (.cells arr e)) S := ext_of_below h.stab (fun _ _ k => k) (below_alloc w _)
          have hzrd : Rd (w.alloc (.cells arr e)) S zero z := constOk1_rd hzc
          have hzcell : zero.cells = [zero] := by cases zero <;> simp_all [IV.cells, IV.isAgg]
          have hA := hC.add hd w.heap.size (.slice none 0 0) (.arr (List.replicate p.toNat zero)) ⟨_, _, _, rfl⟩
            ⟨arr, e, by simp only [upd, if_true]; exact heap_new w _, by simp [hlen], fun j x u hx hu' => by
              have hx' : x = zero := by
                have := List.mem_of_getElem? hx
                exact (List.mem_replicate.1 this).2
              rw [hx', harr j u hu']
              exact ⟨by rw [hzcell]; rfl, hzcell, hzrd⟩, fun j u hu' => by rw [harr j u hu']; exact hz1, fun j hj => by
              simp only [upd, if_true] at hj
              have := h.stab _ _ hj
              omega⟩ (by simp) (fun _ => ⟨h.fresh (Nat.le_refl _), by simp, fun j r' hr' ho' e' => by
              have := (h.base j r' hr' ho').2
              omega⟩)
          refine okOp_run hrun ⟨S, _, _, hA, ?_, ?_⟩
          · have := Rl.vec (w := w.alloc (.cells arr e)) (S := S) (rho := upd rho d w.heap.size) (tau := upd tau d (.slice none 0 0)) d 0 p.toNat p.toNat (some ⟨w.heap.size, 0, none⟩) (Nat.le_refl _) (fun _ => by simp [upd]) (.inr ⟨_, _, rfl⟩)
            exact this
          · intro id hid
            have : d = id := by simpa [DV.names] using hid
            subst this; simp [upd, resWith]
        · exact hs.elim
      · simp at ht
    · simp at ht
  · simp at ht

end ops
end Go.DI

/- Each operation does to the machine what it does to the data: equality of structs; stores, appends, copies. No condition. -/
namespace Go.DI
open Go.RowKit

def eqFieldsSize (P : Program) (f : TypeId → Option (List Bool)) : List Field → Nat → Option (List Bool)
  | [], _ => some []
  | fd :: r, off => if fd.name ≠ "_" ∧ fd.offset = off then
      match f fd.type with
      | some s => if szIs P fd.type s.length then (match eqFieldsSize P f r (off + s.length) with | some q => some (s ++ q) | none => none) else none
      | none => none
    else none
def eqSize (P : Program) : Nat → TypeId → Option (List Bool)
  | 0, _ => none
  | n + 1, t => match P.underlying t with
    | some .bool => some [true]
    | some (.int _) => some [false]
    | some (.struct fs) => if P.stoodInHeld t then none else eqFieldsSize P (eqSize P n) fs.toList 0
    | _ => none

def val1 : IV → Value
  | .int k n => .int k n
  | .bool b => .bool b
  | _ => undef

def wrapV (P : Program) (t : TypeId) (vs : List Value) : Value :=
  match P.underlying t with
  | some (.struct _) => .agg vs.toArray
  | _ => vs.getD 0 undef

theorem eqCells_append : ∀ (k1 k2 : List Bool) (a b : List IV) (q : Bool), eqCells (k1 ++ k2) a b = some q → ∃ q1 q2, eqCells k1 (a.take k1.length) (b.take k1.length) = some q1 ∧ eqCells k2 (a.drop k1.length) (b.drop k1.length) = some q2 ∧ q = (q1 && q2)
  | [], k2, a, b, q, h => ⟨true, q, rfl, h, by simp⟩
  | k :: k1, k2, [], b, q, h => by cases k <;> simp [eqCells] at h
  | k :: k1, k2, x :: a, [], q, h => by cases k <;> cases x <;> simp [eqCells] at h
  | k :: k1, k2, x :: a, y :: b, q, h => by
    simp only [List.cons_append] at h
    cases k <;> cases x <;> cases y <;> simp only [eqCells] at h <;> try contradiction
    · rename_i k n k' n'
      split at h
      · rename_i hk
        split at h
        · rename_i q' hq'
          obtain ⟨q1, q2, h1, h2, h3⟩ := eqCells_append k1 k2 a b q' hq'
          simp at h
          refine ⟨(n == n') && q1, q2, by simp [eqCells, h1, hk], by simpa using h2, ?_⟩
          rw [← h, h3, Bool.and_assoc]
        · simp at h
      · simp at h
    · rename_i p p'
      split at h
      · rename_i q' hq'
        obtain ⟨q1, q2, h1, h2, h3⟩ := eqCells_append k1 k2 a b q' hq'
        simp at h
        refine ⟨(p == p') && q1, q2, by simp [eqCells, h1], by simpa using h2, ?_⟩
        rw [← h, h3, Bool.and_assoc]
      · simp at h

theorem eqCells_length : ∀ {ks : List Bool} {a b : List IV} {q}, eqCells ks a b = some q → a.length = ks.length ∧ b.length = ks.length
  | [], [], [], _, _ => by simp
  | [], [], y :: _, q, h => by simp [eqCells] at h
  | [], _ :: _, _, q, h => by simp [eqCells] at h
  | k :: _, [], _, q, h => by cases k <;> simp [eqCells] at h
  | k :: _, x :: _, [], q, h => by cases k <;> cases x <;> simp [eqCells] at h
  | k :: ks, x :: a, y :: b, q, h => by
    cases k <;> cases x <;> cases y <;> simp only [eqCells] at h <;> try contradiction
    · split at h
      · split at h
        · rename_i q' hq'; simp [eqCells_length hq']
        · simp at h
      · simp at h
    · split at h
      · rename_i q' hq'; simp [eqCells_length hq']
      · simp at h

section
variable {P : Program} {w : World}

theorem szIs_agg {t : TypeId} : ∀ {n s}, eqSize P n t = some s → ∃ b, aggIs P t b = true ∧ (b = true ↔ ∃ fs, P.underlying t = some (.struct fs)) ∧ (b = false → s.length = 1) := by
  intro n s h
  cases n with
  | zero => simp [eqSize] at h
  | succ n =>
    simp only [eqSize] at h
    split at h
    · rename_i hu; exact ⟨false, by simp [aggIs, hu], by simp [hu], fun _ => by simp at h; simp [← h]⟩
    · rename_i k hu; exact ⟨false, by simp [aggIs, hu], by simp [hu], fun _ => by simp at h; simp [← h]⟩
    · rename_i fs hu; exact ⟨true, by simp [aggIs, hu], by simp [hu], fun h => by simp at h⟩
    · simp at h

theorem eqFields_run (d : Nat) (f : TypeId → Option (List Bool))
    (hf : ∀ t s, f t = some s → (∃ b, aggIs P t b = true ∧ (b = true ↔ ∃ fs, P.underlying t = some (.struct fs)) ∧ (b = false → s.length = 1)) ∧ ∀ xs ys q, eqCells s xs ys = some q →
      (Op.equalIn d t (wrapV P t (xs.map val1)) (wrapV P t (ys.map val1))).run P w = .ok q w) :
    ∀ (fs : List Field) (off : Nat) (s : List Bool) (xs ys : List IV) (q : Bool), eqFieldsSize P f fs off = some s → eqCells s (xs.drop off) (ys.drop off) = some q →
    (Op.eqFields d (xs.map val1).toArray (ys.map val1).toArray fs).run P w = .ok q w
  | [], off, s, xs, ys, q, h, hq => by
    simp [eqFieldsSize] at h
    subst h
    have hl := eqCells_length hq
    have h1 : xs.drop off = [] := List.eq_nil_of_length_eq_zero hl.1
    have h2 : ys.drop off = [] := List.eq_nil_of_length_eq_zero hl.2
    rw [h1, h2] at hq
    simp [eqCells] at hq
    subst hq
    simp [Op.eqFields]
  | fd :: fs, off, s, xs, ys, q, h, hq => by
    simp only [eqFieldsSize] at h
    split at h
    · rename_i hc
      obtain ⟨hn, ho⟩ := hc
      split at h
      · rename_i s1 hs1
        split at h
        · rename_i hsz
          split at h
          · rename_i s2 hs2
            simp at h; subst h
            obtain ⟨⟨b, hb, hbs, hb1⟩, heq⟩ := hf fd.type s1 hs1
            obtain ⟨q1, q2, h1, h2, h3⟩ := eqCells_append _ _ _ _ q hq
            have e1 := heq _ _ q1 h1
            have l1 := eqCells_length h1
            rw [List.drop_drop, List.drop_drop] at h2
            have hpart : ∀ l : List IV, ((l.drop off).take s1.length).length = s1.length → (part fd.type (l.map val1).toArray fd.offset).run P w = .ok (wrapV P fd.type (((l.drop off).take s1.length).map val1)) w := by
              intro l hll
              unfold part
              simp only [Sem.run_bind, run_isAgg' hb, Result.andThen_ok]
              cases b
              · have hs1 := hb1 rfl
                rw [hs1] at hll ⊢
                have hlt : off < l.length := by simp at hll; omega
                have hns : ¬ ∃ gs, P.underlying fd.type = some (.struct gs) := fun hh => by have := hbs.2 hh; simp at this
                simp only [Bool.false_eq_true, if_false, ho]
                have hw : wrapV P fd.type (((l.drop off).take 1).map val1) = val1 l[off] := by
                  unfold wrapV
                  split
                  · rename_i gs hg; exact absurd ⟨gs, hg⟩ hns
                  · rw [List.drop_eq_getElem_cons hlt]; simp [List.getElem?_eq_getElem hlt]
                rw [hw]
                simp [hlt]
              · obtain ⟨gs, hg⟩ := hbs.1 rfl
                simp only [if_true, Sem.run_bind, run_sizeOf' hsz, Result.andThen_ok, Sem.run_pure, ho]
                have hw : wrapV P fd.type (((l.drop off).take s1.length).map val1) = .agg (((l.drop off).take s1.length).map val1).toArray := by
                  unfold wrapV; rw [hg]
                rw [hw]
                congr 2
                apply Array.ext'
                simp [List.extract_eq_take_drop]
            have ih := eqFields_run d f hf fs (off + s1.length) s2 xs ys q2 hs2 h2
            unfold Op.eqFields
            rw [if_pos hn]
            simp only [Sem.run_bind, hpart xs l1.1, hpart ys l1.2, Result.andThen_ok, e1]
            cases q1
            · simp [h3]
            · simp only [Bool.not_true, Bool.false_eq_true, if_false, ih, h3, Bool.true_and]
          · simp at h
        · simp at h
      · simp at h
    · simp at h

theorem equal_run : ∀ (n : Nat) (t : TypeId) (s : List Bool), eqSize P n t = some s → ∀ d, n ≤ d → ∀ xs ys q, eqCells s xs ys = some q →
    (Op.equalIn d t (wrapV P t (xs.map val1)) (wrapV P t (ys.map val1))).run P w = .ok q w
  | 0, t, s, h, _, _, _, _, _, _ => by simp [eqSize] at h
  | n + 1, t, s, h, d, hd, xs, ys, q, hq => by
    obtain ⟨d, rfl⟩ : ∃ d', d = d' + 1 := ⟨d - 1, by omega⟩
    obtain ⟨hl, hl'⟩ := eqCells_length hq
    simp only [eqSize] at h
    split at h
    · rename_i hu
      simp at h; subst h
      match xs, ys, hl, hl', hq with
      | [x], [y], _, _, hq =>
        cases x <;> cases y <;> simp only [eqCells] at hq <;> try contradiction
        simp at hq
        simp [wrapV, hu, val1, run_equalIn_bool w d t _ _ hu, hq]
    · rename_i k0 hu
      simp at h; subst h
      match xs, ys, hl, hl', hq with
      | [x], [y], _, _, hq =>
        cases x <;> cases y <;> simp only [eqCells] at hq <;> try contradiction
        split at hq
        · rename_i hk
          subst hk
          simp at hq
          simp [wrapV, hu, val1, run_equalIn_int w d t _ _ _ _ hu, hq]
        · simp at hq
    · rename_i fs hu
      split at h
      · simp at h
      · rename_i hst
        have hw : ∀ l : List IV, wrapV P t (l.map val1) = .agg (l.map val1).toArray := by intro l; unfold wrapV; rw [hu]
        rw [hw, hw]
        have hfo : P.fieldsOf t = fs := by simp [Program.fieldsOf, hu]
        rw [run_equalIn_struct w d t _ _ (by rw [hfo]; exact hu) (by simpa using hst), hfo]
        exact eqFields_run d (eqSize P n) (fun t' s' hs' => ⟨szIs_agg hs', fun xs' ys' q' hq' => equal_run n t' s' hs' d (by omega) xs' ys' q' hq'⟩) fs.toList 0 s xs ys q h (by simpa using hq)
    · simp at h
end

theorem eqCells_vals {w S} : ∀ {ks : List Bool} {a b : List IV} {q}, eqCells ks a b = some q → (∀ (vs : List Value), vs.length = a.length → (∀ (i : Nat) (x : IV) (u : Value), a[i]? = some x → vs[i]? = some u → Rd w S x u) → vs = a.map val1) ∧
    ∀ (vs : List Value), vs.length = b.length → (∀ (i : Nat) (x : IV) (u : Value), b[i]? = some x → vs[i]? = some u → Rd w S x u) → vs = b.map val1 := by
  have key : ∀ (a : List IV), (∀ x ∈ a, (∃ k n, x = .int k n) ∨ ∃ p, x = .bool p) → ∀ (vs : List Value), vs.length = a.length → (∀ (i : Nat) (x : IV) (u : Value), a[i]? = some x → vs[i]? = some u → Rd w S x u) → vs = a.map val1 := by
    intro a
    induction a with
    | nil => intro _ vs hl _; simpa using List.eq_nil_of_length_eq_zero hl
    | cons x a ih =>
      intro hx vs hl hr
      cases vs with
      | nil => simp at hl
      | cons v vs =>
        have h1 := hr 0 x v rfl rfl
        have h2 := ih (fun y hy => hx y (by simp [hy])) vs (by simpa using hl) (fun i y u hy hu => hr (i + 1) y u (by simpa using hy) (by simpa using hu))
        rw [h2]
        simp
        rcases hx x (by simp) with ⟨k, n, rfl⟩ | ⟨p, rfl⟩
        · exact h1.int_inv
        · exact h1.bool_inv
  have kinds : ∀ {ks : List Bool} {a b : List IV} {q}, eqCells ks a b = some q → (∀ x ∈ a, (∃ k n, x = .int k n) ∨ ∃ p, x = .bool p) ∧ ∀ x ∈ b, (∃ k n, x = .int k n) ∨ ∃ p, x = .bool p := by
    intro ks
    induction ks with
    | nil =>
      intro a b q h
      obtain ⟨h1, h2⟩ := eqCells_length h
      have := List.eq_nil_of_length_eq_zero h1; have := List.eq_nil_of_length_eq_zero h2
      subst_vars; simp
    | cons k ks ih =>
      intro a b q h
      obtain ⟨h1, h2⟩ := eqCells_length h
      match a, b, h1, h2, h with
      | x :: a, y :: b, _, _, h =>
        cases k <;> cases x <;> cases y <;> simp only [eqCells] at h <;> try contradiction
        · split at h
          · split at h
            · rename_i q' hq'
              have := ih hq'
              simp only [List.mem_cons, forall_eq_or_imp]
              exact ⟨⟨.inl ⟨_, _, rfl⟩, this.1⟩, ⟨.inl ⟨_, _, rfl⟩, this.2⟩⟩
            · simp at h
          · simp at h
        · split at h
          · rename_i q' hq'
            have := ih hq'
            simp only [List.mem_cons, forall_eq_or_imp]
            exact ⟨⟨.inr ⟨_, rfl⟩, this.1⟩, ⟨.inr ⟨_, rfl⟩, this.2⟩⟩
          · simp at h
  intro ks a b q h
  exact ⟨key a (kinds h).1, key b (kinds h).2⟩

def eqsIs (P : Program) (t : TypeId) (ks : List Bool) : Bool :=
  (match P.underlying t with | some (.struct _) => true | _ => false) && decide (eqSize P 20 t = some ks) && !P.eqGuardType P.depth t

section ops
variable {P : Program} {B : Base} {st : St} {a : Act} {w : World} {S : Nat → Nat → Prop} {rho : Nat → Nat} {tau : Nat → Value} {o : Oper} {K : DV → Option Res → Prop}

theorem s_eqs (h : Core B st a.tmps w S rho tau) {neg : Bool} {ks : List Bool} {t yt : TypeId} {x1 x2 : Operand} {y1 y2 : Opd} (ho : o.op = .binOp (if neg then .neq else .eql) t x1 x2 yt) (ht : eqsIs P t ks = true)
    (h1 : opdOk x1 y1 = true) (h2 : opdOk x2 y2 = true) (hs : semEqs K ks neg [st.arg y1, st.arg y2]) : Quiet P B st o a w rho tau K := by
  have r1 := h.vw (defers := a.defers) h1
  have r2 := h.vw (defers := a.defers) h2
  unfold eqsIs at ht
  simp only [Bool.and_eq_true, decide_eq_true_eq, Bool.not_eq_true'] at ht
  obtain ⟨⟨hstr, hsz⟩, hgd⟩ := ht
  split at hstr
  · rename_i fs hu
    simp only [semEqs, St.arg] at hs
    split at hs
    · rename_i p q e1 e2
      rw [e1] at r1; rw [e2] at r2
      split at hs
      · rename_i r hr
        obtain ⟨v1, hv1, hl1, hr1, _⟩ := r1.imm_inv.agg_inv
        obtain ⟨v2, hv2, hl2, hr2, _⟩ := r2.imm_inv.agg_inv
        have hv := eqCells_vals (w := w) (S := S) hr
        have f1 := hv.1 v1 hl1 hr1
        have f2 := hv.2 v2 hl2 hr2
        subst f1; subst f2
        have hrun := equal_run (P := P) (w := w) 20 t ks hsz 10000 (by omega) p q r hr
        have hw : ∀ l : List IV, wrapV P t (l.map val1) = .agg (l.map val1).toArray := by intro l; unfold wrapV; rw [hu]
        rw [hw, hw] at hrun
        have hv1' : a.eval x1 = .agg (p.map val1).toArray := hv1
        have hv2' : a.eval x2 = .agg (q.map val1).toArray := hv2
        cases neg
        · refine quiet_imm h hs ?_ (.bool _)
          unfold execOp; rw [ho]
          simp only [Bool.false_eq_true, if_false, hv1', hv2', Sem.run_bind, run_eqGuard_agg (w := w) _ t x1 x2 _ _ hgd, Result.andThen_ok, run_eql_struct, hrun]
          rfl
        · refine quiet_imm h hs ?_ (.bool _)
          unfold execOp; rw [ho]
          simp only [if_true, hv1', hv2', Sem.run_bind, run_eqGuard_agg (w := w) _ t x1 x2 _ _ hgd, Result.andThen_ok, run_neq_struct, hrun]
          rfl
      · exact hs.elim
    · exact hs.elim
  · simp at hstr

end ops
end Go.DI

/- Each operation does to the machine what it does to the data: stores, copies, appends. No condition. -/
namespace Go.DI
open Go.RowKit

def Wr (P : Program) (B : Base) (o : Oper) (a : Act) (w : World) (K : St → Prop) : Prop :=
  ∃ st', K st' ∧ ∀ (next : Act → World → Prop) (Q : Exit → Act → World → Prop), (∀ v w' S' rho' tau', Core B st' (a.put o.dst v).tmps w' S' rho' tau' → next (a.put o.dst v) w') → o.wp P a w next Q

theorem put_tmps (a : Act) (dst : Option Nat) (v : Value) : (a.put dst v).tmps = putT a.tmps dst v := by cases dst <;> rfl

section ops
variable {P : Program} {B : Base} {st : St} {a : Act} {w : World} {S : Nat → Nat → Prop} {rho : Nat → Nat} {tau : Nat → Value} {o : Oper}

theorem s_snil {neg : Bool} {t e yt : TypeId} {x : Operand} {y1 y2 : Opd} {K : St → Prop} (h : Core B st a.tmps w S rho tau) (ho : o.op = .binOp (if neg then .neq else .eql) t x (.const (.slice none 0 0)) yt) (ht : P.underlying t = some (.slice e)) (h1 : opdOk x y1 = true)
    (hd : ∀ d, o.dst = some d → d < a.tmps.size) (hs : semW P o.dst (.snil neg) [y1, y2] st K) : Wr P B o a w K := by
  have r1 := h.vw (defers := a.defers) h1
  have r0 := h.ev (defers := a.defers) h1
  simp only [semW] at hs
  split at hs
  · rename_i z e1
    rw [e1] at r0
    have hv : a.eval x = .slice none 0 0 := by
      generalize a.eval x = v at r0
      cases r0
      rfl
    have he : (Op.equal t (.slice none 0 0) (.slice none 0 0)).run P w = .ok true w := by
      have key : ∀ d, (Op.equalIn (d + 1) t (.slice none 0 0) (.slice none 0 0)).run P w = .ok true w := by
        intro d
        unfold Op.equalIn
        rw [Sem.run_bind, run_underlying ht]
        rfl
      exact key 9999
    have hex : (execOp a.eval o).run P w = .ok (.value (.bool (!neg))) w := by
      unfold execOp
      rw [ho]
      have hc : a.eval (.const (.slice none 0 0)) = .slice none 0 0 := rfl
      cases neg <;> simp [hv, hc, eqGuard, binOp, he]
    refine ⟨_, hs, fun next Q hn => ?_⟩
    unfold Oper.wp
    rw [hex]
    refine hn _ _ S rho tau ?_
    rw [put_tmps]
    exact h.put hd (.imm _ _ (.bool _)) (by simp [DV.names])
  split at hs
  · rename_i z es e1
    rw [e1] at r1
    have r1 : Rd w S (.slc z es) (a.eval x) := r1.imm_inv
    have hv : ∃ (p : Option Addr) (n cap : Nat), a.eval x = .slice p n cap ∧ (p.isNone = true → es = []) := by
      generalize a.eval x = v at r1
      cases r1 with
      | nils => exact ⟨none, 0, 0, rfl, fun _ => rfl⟩
      | slc _ _ b q cap c => exact ⟨some ⟨b, q, none⟩, _, _, rfl, fun h => by cases h⟩
    obtain ⟨p, n, cap, hv, hp⟩ := hv
    have he : (Op.equal t (.slice p n cap) (.slice none 0 0)).run P w = .ok p.isNone w := by
      have key : ∀ d, (Op.equalIn (d + 1) t (.slice p n cap) (.slice none 0 0)).run P w = .ok p.isNone w := by
        intro d
        unfold Op.equalIn
        rw [Sem.run_bind, run_underlying ht]
        cases p <;> rfl
      exact key 9999
    have hex : (execOp a.eval o).run P w = .ok (.value (.bool (if neg then !p.isNone else p.isNone))) w := by
      unfold execOp
      rw [ho]
      have hc : a.eval (.const (.slice none 0 0)) = .slice none 0 0 := rfl
      cases neg <;> simp [hv, hc, eqGuard, binOp, he]
    have hK : K (st.put o.dst (.imm (.bool (if neg then !p.isNone else p.isNone))) none) := by
      cases hpn : p.isNone with
      | true =>
        have := hs.1 (hp hpn)
        cases neg <;> exact this
      | false =>
        have := hs.2
        cases neg <;> exact this
    refine ⟨_, hK, fun next Q hn => ?_⟩
    unfold Oper.wp
    rw [hex]
    refine hn _ _ S rho tau ?_
    rw [put_tmps]
    exact h.put hd (.imm _ _ (.bool _)) (by simp [DV.names])
  · exact hs.elim

theorem run_storeCells_at (g off : Nat) (e : TypeId) : ∀ (vs : List Value) (i : Nat) (cur : Array Value) (w : World), w.heap[g]? = some (.cells cur e (0, 0)) → off + i + vs.length ≤ cur.size → (∀ v ∈ vs, v.oneCell' = true) →
    (storeCells ⟨g, off, none⟩ vs i).run P w = .ok () (w.setRow g (cur.toList.take (off + i) ++ (vs ++ cur.toList.drop (off + i + vs.length))).toArray)
  | [], i, cur, w, hg, hl, _ => by
    have hlt : g < w.heap.size := (Array.getElem?_eq_some_iff.1 hg).1
    have hv : w.heap[g] = .cells cur e (0, 0) := (Array.getElem?_eq_some_iff.1 hg).2
    simp only [storeCells, List.nil_append, List.length_nil, Nat.add_zero, List.take_append_drop, Array.toArray_toList]
    show Result.ok () w = _
    congr 1
    unfold World.setRow
    cases w with
    | mk heap tape drawn os output =>
      congr 1
      apply Array.ext
      · simp
      · intro k h1 h2
        simp only [Array.getElem_modify]
        split
        · rename_i hk; subst hk; simp at hv; simp [hv]
        · rfl
  | v :: rest, i, cur, w, hg, hl, h1 => by
    simp only [List.length_cons] at hl
    have hi : off + i < cur.size := by omega
    have hcell : w.cell? ⟨g, off + i, none⟩ = some cur[off + i] := by simp [World.cell?, hg, hi]
    have hfro : w.frozen? ⟨g, off + i, none⟩ = false := by simp [World.frozen?, hg]
    have hst : (store ((⟨g, off, none⟩ : Addr).add i) v).run P w = .ok () (w.setRow g (cur.setIfInBounds (off + i) v)) := by
      rw [add_addr, run_store P w _ v _ (h1 v (by simp)), hcell]
      simp [hfro, setCell_eq_setRow w g (off + i) cur e (0, 0) v hg]
    have ih := run_storeCells_at g off e rest (i + 1) (cur.setIfInBounds (off + i) v) (w.setRow g (cur.setIfInBounds (off + i) v)) (setRow_heap w g cur _ e _ hg) (by simp; omega) (fun x hx => h1 x (by simp [hx]))
    simp only [storeCells, Sem.run_bind, hst, Result.andThen_ok, ih, setRow_setRow]
    congr 3
    apply List.ext_getElem?
    intro k
    simp only [Array.toList_setIfInBounds, List.getElem?_append, List.length_take, List.length_set, Array.length_toList, List.length_cons]
    have e1 : min (off + (i + 1)) cur.size = off + i + 1 := by omega
    have e2 : min (off + i) cur.size = off + i := by omega
    rw [e1, e2]
    by_cases hk : k < off + i
    · rw [if_pos (by omega), if_pos hk, List.getElem?_take_of_lt (by omega), List.getElem?_take_of_lt hk, List.getElem?_set_ne (by omega)]
    · by_cases hk2 : k = off + i
      · subst hk2
        rw [if_pos (by omega), if_neg (by omega), if_pos (by omega), List.getElem?_take_of_lt (by omega), List.getElem?_set_self (by simp; omega)]
        simp
      · rw [if_neg (by omega), if_neg hk]
        by_cases h3 : k - (off + i + 1) < rest.length
        · rw [if_pos h3, if_pos (by omega)]
          have : k - (off + i) = (k - (off + i + 1)) + 1 := by omega
          rw [this]; simp
        · rw [if_neg h3, if_neg (by omega), List.getElem?_drop, List.getElem?_drop, List.getElem?_set_ne (by omega)]
          congr 1; omega

theorem moved_setRow {g : Nat} {arr : Array Value} {S' : Nat → Nat → Prop} (hg : ¬ B.O g) (hx : Ext w S (w.setRow g arr) S') (hs : ∀ b o, S' b o → S b o ∨ ¬ B.O b) (hst : (∀ b o, S b o → b < w.heap.size) → ∀ b o, S' b o → b < (w.setRow g arr).heap.size) : Moved B.O S w S' (w.setRow g arr) :=
  ⟨rfl, rfl, rfl, by simp [World.setRow], fun k hk => setRow_other w g k arr (fun e => hg (e ▸ hk)), hx, hs, hst⟩

theorem ghost_setRes {st : St} {id : Nat} {r r' : Res} (hid : st.res id = some r) (h1 : r.isSeq = false) (h2 : r'.isSeq = false) : ghost (st.setRes id r').res = ghost st.res := by
  by_cases h0 : (0 : Nat) = id
  · rw [ghost_none (res := (st.setRes id r').res) (fun r2 hr => by rw [← h0] at hr; simp [St.setRes] at hr; rw [← hr]; exact h2), ghost_none (res := st.res) (fun r2 hr => by rw [h0, hid] at hr; cases hr; exact h1)]
  · unfold ghost; simp [St.setRes, h0]

theorem Core.rewrite (h : Core B st a.tmps w S rho tau) {id : Nat} {r : Res} (hid : st.res id = some r) (hbox : (∃ c, r = .box c) ∨ ∃ c, r = .arr c) {arr arr' : Array Value} {e : TypeId} (hg : w.heap[rho id]? = some (.cells arr e (0, 0)))
    (hS : ∀ q, ¬ S (rho id) q) (r' : Res) (hr' : Ext w S (w.setRow (rho id) arr') S → RdRes (w.setRow (rho id) arr') S rho tau id r')
    (hc' : ∀ cells, r' = .box cells → ∀ c ∈ cells, ∀ i, c.names i = true → (st.res i).isSome = true) (hns : r'.isSeq = false := by rfl) (hnt : r'.isTok = false := by rfl) :
    Core B (st.setRes id r') a.tmps (w.setRow (rho id) arr') S rho tau := by
  have ho : Owns tau id r := by rcases hbox with ⟨c, rfl⟩ | ⟨c, rfl⟩ <;> trivial
  have hb := h.base id r hid ho
  have hx : Ext w S (w.setRow (rho id) arr') S := ⟨fun _ _ k => k, fun b q k => cell_setRow_other w (rho id) arr' ⟨b, q, none⟩ (fun hbq => hS q (by simp at hbq; rw [← hbq]; exact k))⟩
  have wid : ∀ i, (st.res i).isSome = true → (((st.setRes id r').res) i).isSome = true := by
    intro i hi
    by_cases e : i = id
    · subst e; simp [St.setRes]
    · simpa [St.setRes, e] using hi
  have ne : ∀ i r2, i ≠ id → (st.setRes id r').res i = some r2 → st.res i = some r2 := fun i r2 hne hr => by simpa [St.setRes, hne] using hr
  have self : ∀ r2, (st.setRes id r').res id = some r2 → r2 = r' := fun r2 hr => by simpa [St.setRes] using hr.symm
  have ow : ∀ i r2, (st.setRes id r').res i = some r2 → Owns tau i r2 → ∃ r3, st.res i = some r3 ∧ Owns tau i r3 := by
    intro i r2 h2 o2
    by_cases e : i = id
    · subst e; exact ⟨r, hid, ho⟩
    · exact ⟨r2, ne i r2 e h2, o2⟩
  refine {
    inv := by
      rw [ghost_setRes hid (by rcases hbox with ⟨c, rfl⟩ | ⟨c, rfl⟩ <;> rfl) hns]
      exact B.move h.inv (moved_setRow hb.1 hx (fun _ _ k => .inl k) (fun q b o k => by simpa [World.setRow] using q b o k))
    pin := fun i b hp => by
      obtain ⟨r2, h1, h2, h3⟩ := h.pin i b hp
      by_cases e : i = id
      · subst e; exact ⟨r', by simp [St.setRes], h2, hnt⟩
      · exact ⟨r2, by simpa [St.setRes, e] using h1, h2, h3⟩
    stab := fun b q k => by have := h.stab b q k; simpa [World.setRow] using this
    env := fun x => (h.env x).mono hx
    envC := fun x i hn => wid i (h.envC x i hn)
    res := fun i r2 h2 => ?_
    resC := fun i cells hcs c hc i' hn => ?_
    base := fun i r2 h2 o2 => ?_
    dis := fun i j r2 r3 h2 h3 o2 o3 hij => ?_
    tauS := h.tauS }
  · by_cases e : i = id
    · subst e; rw [self r2 h2]; exact hr' hx
    · have h2' := ne i r2 e h2
      have hold := h.res i r2 h2'
      have keep : ∀ {k ar el fr}, k ≠ rho id → w.heap[k]? = some (Obj.cells ar el fr) → (w.setRow (rho id) arr').heap[k]? = some (.cells ar el fr) := fun hk hh => by rw [setRow_other w _ _ _ hk]; exact hh
      cases r2 with
      | box cells =>
        obtain ⟨ar, el, g1, g2, g3, g4, g5⟩ := hold
        exact ⟨ar, el, keep (h.dis i id _ _ h2' hid trivial ho e) g1, g2, fun k d v hd hv => (g3 k d v hd hv).mono hx, g4, g5⟩
      | arr es =>
        obtain ⟨ar, el, g1, g2, g3, g4, g5⟩ := hold
        exact ⟨ar, el, keep (h.dis i id _ _ h2' hid trivial ho e) g1, g2, fun k d v hd hv => ⟨(g3 k d v hd hv).1, (g3 k d v hd hv).2.1, (g3 k d v hd hv).2.2.mono hx⟩, g4, g5⟩
      | fza es =>
        intro k d hd
        obtain ⟨g1, g2, v, g3, g4, g5⟩ := hold k d hd
        exact ⟨g1, g2, v, (hx.cell _ _ g2).trans g3, g4, g5.mono hx⟩
      | tok sz es =>
        obtain ⟨g1, g2⟩ := hold
        refine ⟨g1.mono hx, ?_⟩
        rcases g2 with g2 | ⟨ar, el, cap, k1, k2, k3, k4, k5⟩
        · exact .inl g2
        · exact .inr ⟨ar, el, cap, keep (h.dis i id _ _ h2' hid ⟨_, _, _, k2, k4⟩ ho e) k1, k2, k3, k4, k5⟩
      | seq l t => trivial
  · by_cases e : i = id
    · subst e
      exact wid i' (hc' cells (self _ hcs).symm c hc i' hn)
    · exact wid i' (h.resC i cells (ne i _ e hcs) c hc i' hn)
  · obtain ⟨r3, h3, o3⟩ := ow i r2 h2 o2
    have := h.base i r3 h3 o3
    simpa [World.setRow] using this
  · obtain ⟨r4, h4, o4⟩ := ow i r2 h2 o2
    obtain ⟨r5, h5, o5⟩ := ow j r3 h3 o3
    exact h.dis i j r4 r5 h4 h5 o4 o5 hij

theorem set_mid_get {α : Type} (l vs : List α) (off : Nat) (h : off + vs.length ≤ l.length) (i : Nat) : (l.take off ++ (vs ++ l.drop (off + vs.length)))[i]? = if i < off then l[i]? else if i < off + vs.length then vs[i - off]? else l[i]? := by
  simp only [List.getElem?_append, List.length_take]
  have e : min off l.length = off := by omega
  rw [e]
  by_cases h1 : i < off
  · rw [if_pos h1, if_pos h1, List.getElem?_take_of_lt h1]
  · rw [if_neg h1, if_neg h1]
    by_cases h2 : i < off + vs.length
    · rw [if_pos h2, if_pos (by omega)]
    · rw [if_neg h2, if_neg (by omega), List.getElem?_drop]
      congr 1; omega

theorem s_store (h : Core B st a.tmps w S rho tau) {t : TypeId} {x1 x2 : Operand} {y1 y2 : Opd} {n : Nat} {K : St → Prop} (ho : o.op = .store t x1 x2) (hsz : szIs P t n = true) (h1 : opdOk x1 y1 = true) (h2 : opdOk x2 y2 = true)
    (hs : semSt o.dst n [y1, y2] st K) : Wr P B o a w K := by
  have r1 := h.ev (defers := a.defers) h1
  have r2 := h.ev (defers := a.defers) h2
  have r2v := h.vw (defers := a.defers) h2
  have hrun : ∀ g off arr e, a.eval x1 = .pointer (some ⟨g, off, none⟩) → w.heap[g]? = some (.cells arr e (0, 0)) → (a.eval x2).cells.size = n → off + n ≤ arr.size → (∀ (i : Nat) (u : Value), (a.eval x2).cells[i]? = some u → u.oneCell' = true) →
      (execOp a.eval o).run P w = .ok .skip (w.setRow g (arr.toList.take off ++ ((a.eval x2).cells.toList ++ arr.toList.drop (off + (a.eval x2).cells.toList.length))).toArray) := by
    intro g off arr e e1 hg hn hle hone
    have hst := run_storeCells_at (P := P) g off e (a.eval x2).cells.toList 0 arr w hg (by simp [hn]; omega) (fun v hv => by
      obtain ⟨i, hi⟩ := List.getElem?_of_mem hv
      exact hone i v (by simpa using hi))
    rw [Nat.add_zero] at hst
    unfold execOp; rw [ho]
    simp only [Instr.storeAt, e1, Instr.sureAddr, Sem.run_bind, Sem.run_pure, Result.andThen_ok, storeVar, run_sizeOf' hsz]
    simp only [hn, ne_eq, not_true_eq_false, if_false, Result.andThen_ok, hst]
  simp only [semSt] at hs
  split at hs
  · rename_i id off e1
    rw [e1] at r1
    have r1' : Rl w S rho tau (.ref id off) (a.eval x1) := r1
    generalize hv : a.eval x1 = v at r1'
    cases r1' with
    | ref _ _ =>
      split at hs
      · rename_i cells hid
        split at hs
        · rename_i cs hcs
          obtain ⟨hn, hle, hdst, hk⟩ := hs
          obtain ⟨arr, e, g1, g2, g3, g4, g5⟩ := h.res id _ hid
          obtain ⟨k1, k2, k3, k4⟩ := cellsOf_rl h.tauS r2 hcs
          have k1' : (a.eval x2).cells.size = cs.length := k1
          have hr := hrun _ _ arr e hv g1 (by omega) (by omega) k3
          have hlen : (a.eval x2).cells.toList.length = cs.length := by simpa using k1'
          refine ⟨_, hk, fun next Q hn' => ?_⟩
          unfold Oper.wp
          rw [hr]
          have hC := h.rewrite hid (.inl ⟨_, rfl⟩) (arr' := (arr.toList.take off ++ ((a.eval x2).cells.toList ++ arr.toList.drop (off + (a.eval x2).cells.toList.length))).toArray) g1 g5 (.box (setCells cells off cs))
            (fun hx => ⟨_, e, setRow_heap w _ arr _ e _ g1, by rw [setCells_length (by omega)]; simp [k1', ← g2]; omega, fun i d u hd hu => by
              rw [List.getElem?_toArray] at hu
              exact setCells_rl (by omega) (by rw [Array.length_toList]; exact g2) (by rw [Array.length_toList]; exact k1') (fun j d u hd hu => (g3 j d u hd (by rwa [Array.getElem?_toList] at hu)).mono hx) (fun j d u hd hu => (k2 j d u hd (by rwa [Array.getElem?_toList] at hu)).mono hx) i d u hd hu, fun i u hu => by
              rw [List.getElem?_toArray] at hu
              exact setCells_one (fun j u hu => g4 j u (by rwa [Array.getElem?_toList] at hu)) (fun j u hu => k3 j u (by rwa [Array.getElem?_toList] at hu)) i u hu, g5⟩)
            (fun cells' he c hc i hn => by
              cases he
              unfold setCells at hc
              rcases List.mem_append.1 hc with k | k
              · exact h.resC id cells hid c (List.mem_of_mem_take k) i hn
              · rcases List.mem_append.1 k with k | k
                · exact St.evC h.envC y2 i (k4 c k i hn)
                · exact h.resC id cells hid c (List.mem_of_mem_drop k) i hn)
          exact hn' undef _ S rho tau (by rw [put_tmps, hdst]; exact hC)
        · exact hs.elim
      · rename_i es hid
        split at hs
        · rename_i d hd
          obtain ⟨hn1, hlt, hg, htp, hdst, hk⟩ := hs
          subst hn1
          rw [hd] at r2v
          have rd : Rd w S d (a.eval x2) := r2v.imm_inv
          have hone := rd.oneCell hg htp
          have hcl : (a.eval x2).cells = #[a.eval x2] := by
            generalize a.eval x2 = u at hone
            cases u <;> simp_all [Value.cells, Value.oneCell']
          have hdc : d.cells = [d] := by cases d <;> simp_all [IV.cells, IV.isAgg]
          obtain ⟨arr, e, g1, g2, g3, g4, g5⟩ := h.res id _ hid
          have hr := hrun _ _ arr e hv g1 (by rw [hcl]; rfl) (by omega) (fun i u hu => by
            rw [hcl] at hu
            have hi : i = 0 := by have := (Array.getElem?_eq_some_iff.1 hu).1; simp at this; omega
            subst hi; simp at hu; rw [← hu]; exact hone)
          refine ⟨_, hk, fun next Q hn' => ?_⟩
          unfold Oper.wp
          rw [hr]
          have hmid : ∀ i, (arr.toList.take off ++ ([a.eval x2] ++ arr.toList.drop (off + 1)))[i]? = if i < off then arr.toList[i]? else if i < off + 1 then [a.eval x2][i - off]? else arr.toList[i]? := set_mid_get arr.toList [a.eval x2] off (by simp; omega)
          have hC := h.rewrite hid (.inr ⟨_, rfl⟩) (arr' := (arr.toList.take off ++ ((a.eval x2).cells.toList ++ arr.toList.drop (off + (a.eval x2).cells.toList.length))).toArray) g1 g5 (.arr (es.set off d))
            (fun hx => ⟨_, e, setRow_heap w _ arr _ e _ g1, by simp [hcl, g2]; omega, fun i d' u hd' hu => by
              rw [List.getElem?_toArray, hcl] at hu
              have hu' : (arr.toList.take off ++ ([a.eval x2] ++ arr.toList.drop (off + 1)))[i]? = some u := hu
              rw [hmid i] at hu'
              by_cases hi : i = off
              · subst hi
                rw [List.getElem?_set_self hlt] at hd'
                simp at hd'
                subst hd'
                rw [if_neg (by omega), if_pos (by simp)] at hu'
                simp at hu'
                subst hu'
                exact ⟨by rw [hdc]; rfl, hdc, rd.mono hx⟩
              · rw [List.getElem?_set_ne (by omega)] at hd'
                have hu2 : arr.toList[i]? = some u := by
                  by_cases h3 : i < off
                  · rw [if_pos h3] at hu'; exact hu'
                  · rw [if_neg h3, if_neg (by simp; omega)] at hu'; exact hu'
                obtain ⟨m1, m2, m3⟩ := g3 i d' u hd' (by simpa using hu2)
                exact ⟨m1, m2, m3.mono hx⟩, fun i u hu => by
              rw [List.getElem?_toArray] at hu
              refine setCells_one (vs := arr.toList) (us := (a.eval x2).cells.toList) (off := off) (fun j u hu => g4 j u (by rwa [Array.getElem?_toList] at hu)) (fun j u hu => ?_) i u hu
              rw [hcl] at hu
              have hj : j = 0 := by have := (List.getElem?_eq_some_iff.1 hu).1; simp at this; omega
              subst hj; simp at hu; rw [← hu]; exact hone, g5⟩)
            (fun cells' he => by cases he)
          exact hn' undef _ S rho tau (by rw [put_tmps, hdst]; exact hC)
        · exact hs.elim
      · exact hs.elim
  · exact hs.elim

end ops
end Go.DI

/- Each operation does to the machine what it does to the data: appends. No condition. -/
namespace Go.DI
open Go.RowKit

theorem stripAll_get {t : Nat} {v : IV} : ∀ (cs : List DV) (i : Nat), (stripAll t v cs)[i]? = (cs[i]?).map (strip t v)
  | [], i => by simp [stripAll]
  | d :: r, i => by
    cases i with
    | zero => simp [stripAll]
    | succ i => simp [stripAll, stripAll_get r i]

theorem stripAll_length {t : Nat} {v : IV} : ∀ (cs : List DV), (stripAll t v cs).length = cs.length
  | [] => rfl
  | d :: r => by simp [stripAll, stripAll_length r]

theorem Rl.strip {w S rho tau w' S' rho' tau'} {t : Nat} {x : IV} (h1 : ∀ i, i ≠ t → rho' i = rho i) (h2 : ∀ i, i ≠ t → tau' i = tau i) (hx : Ext w S w' S') (ht : Rd w' S' x (tau t)) {d v}
    (r : Rl w S rho tau d v) : Rl w' S' rho' tau' (strip t x d) v := by
  induction r with
  | undef v => unfold DI.strip; exact .undef v
  | imm d v k => unfold DI.strip; exact .imm d v (k.mono hx)
  | ref i off =>
    unfold DI.strip
    split
    · exact .undef _
    · rename_i hne; rw [← h1 i hne]; exact .ref i off
  | pim d b o k => unfold DI.strip; exact .pim d b o (k.mono hx)
  | vec i off n cap a k ha hz =>
    unfold DI.strip
    split
    · exact .undef _
    · rename_i hne; exact .vec i off n cap a k (by rw [h1 i hne]; exact ha) hz
  | own u =>
    unfold DI.strip
    split
    · rename_i he; subst he; exact .imm _ _ ht
    · rename_i hne; rw [← h2 u hne]; exact .own u
  | cap0 sz es v a k hv => unfold DI.strip; exact .cap0 sz es v a (k.mono hx) hv
  | agg cs vs hl hr ha ih =>
    unfold DI.strip
    refine .agg _ vs (by rw [stripAll_length]; exact hl) (fun i y u hy hu => ?_) ha
    rw [stripAll_get] at hy
    cases hc : cs[i]? with
    | none => simp [hc] at hy
    | some z => simp [hc] at hy; subst hy; exact ih i z u hc hu
  | fn f first cap vf vc hf hc hrf hrc ih1 ih2 =>
    unfold DI.strip
    refine .fn f _ _ vf vc (by rw [stripAll_length]; exact hf) (by rw [stripAll_length]; exact hc) (fun i y u hy hu => ?_) (fun i y u hy hu => ?_)
    · rw [stripAll_get] at hy
      cases hc' : first[i]? with
      | none => simp [hc'] at hy
      | some z => simp [hc'] at hy; subst hy; exact ih1 i z u hc' hu
    · rw [stripAll_get] at hy
      cases hc' : cap[i]? with
      | none => simp [hc'] at hy
      | some z => simp [hc'] at hy; subst hy; exact ih2 i z u hc' hu
  | yld l => exact .yld l
  | nils z => exact .nils z

theorem names_strip {t id : Nat} {x : IV} : ∀ {d : DV}, (strip t x d).names id = true → d.names id = true ∧ id ≠ t := by
  intro d
  exact DV.rec (motive_1 := fun d => (strip t x d).names id = true → d.names id = true ∧ id ≠ t)
    (motive_2 := fun cs => DV.names.namesAll id (stripAll t x cs) = true → DV.names.namesAll id cs = true ∧ id ≠ t)
    (by intro h; simp [strip, DV.names] at h)
    (by intro v h; simp [strip, DV.names] at h)
    (by
      intro i q h
      unfold strip at h
      split at h
      · simp [DV.names] at h
      · rename_i hne; refine ⟨h, ?_⟩; simp [DV.names] at h; omega)
    (by intro v h; simp [strip, DV.names] at h)
    (by
      intro i q n h
      unfold strip at h
      split at h
      · simp [DV.names] at h
      · rename_i hne; refine ⟨h, ?_⟩; simp [DV.names] at h; omega)
    (by
      intro u h
      unfold strip at h
      split at h
      · simp [DV.names] at h
      · rename_i hne; refine ⟨h, ?_⟩; simp [DV.names] at h; omega)
    (by intro sz es h; simp [strip, DV.names] at h)
    (by
      intro cs ih h
      unfold strip at h
      exact ih h)
    (by
      intro f p q ih1 ih2 h
      unfold strip at h
      simp only [DV.names, Bool.or_eq_true] at h ⊢
      rcases h with h | h
      · exact ⟨.inl (ih1 h).1, (ih1 h).2⟩
      · exact ⟨.inr (ih2 h).1, (ih2 h).2⟩)
    (by intro l h; simp [strip, DV.names] at h)
    (by intro z h; simp [strip, DV.names] at h)
    (by intro h; simp [stripAll, DV.names.namesAll] at h)
    (by
      intro d r ih1 ih2 h
      simp only [stripAll, DV.names.namesAll, Bool.or_eq_true] at h ⊢
      rcases h with h | h
      · exact ⟨.inl (ih1 h).1, (ih1 h).2⟩
      · exact ⟨.inr (ih2 h).1, (ih2 h).2⟩) d

theorem Rd.slc_cells {P : Program} {w S sz es a n cap} (h : Rd w S (.slc sz es) (.slice a n cap)) : n = es.length ∧ ∃ us : List Value, us.length = n * sz ∧ (Builtin.firstCells sz n (.slice a n cap)).run P w = .ok us.toArray w ∧
    (∀ (i : Nat) (e : IV) (j : Nat) (x : IV), es[i]? = some e → e.cells[j]? = some x → ∃ u, us[i * sz + j]? = some u ∧ Rd w S x u) ∧ (∀ u ∈ us, u.oneCell' = true) ∧
    ∀ (i : Nat) (e : IV), es[i]? = some e → e.cells.length = sz := by
  cases h with
  | nils => exact ⟨rfl, [], by simp, by simp [Builtin.firstCells], by simp, by simp, by simp⟩
  | slc _ _ b o cap c hc hs hz hr ha =>
    have hb : ∀ (i : Nat) (e : IV) (j : Nat) (x : IV), es[i]? = some e → e.cells[j]? = some x → i * sz + j < es.length * sz := by
      intro i e j x he hj
      have hi : i < es.length := (List.getElem?_eq_some_iff.1 he).1
      have hj' : j < sz := by have := (List.getElem?_eq_some_iff.1 hj).1; rw [hz i e he] at this; exact this
      have : (i + 1) * sz ≤ es.length * sz := Nat.mul_le_mul_right _ hi
      rw [Nat.succ_mul] at this; omega
    refine ⟨rfl, (List.range (es.length * sz)).map c, by simp, ?_, fun i e j x he hj => ⟨c (i * sz + j), by simp [hb i e j x he hj], hr i e j x he hj⟩, ?_, hz⟩
    · have := run_loadCells (P := P) w ⟨b, o, none⟩ (es.length * sz) c (fun j hj => by rw [add_addr]; exact (hs j hj).2)
      simp only [Builtin.firstCells]
      exact this
    · intro u hu
      simp at hu
      obtain ⟨q, hq, rfl⟩ := hu
      have hsz : 0 < sz := by
        rcases Nat.eq_zero_or_pos sz with h0 | h0
        · subst h0; simp at hq
        · exact h0
      have hi : q / sz < es.length := by rw [Nat.div_lt_iff_lt_mul hsz]; exact hq
      have he : es[q / sz]? = some es[q / sz] := by simp [hi]
      have hl := hz _ _ he
      have hj : q % sz < es[q / sz].cells.length := by rw [hl]; exact Nat.mod_lt _ hsz
      have := ha (q / sz) es[q / sz] (q % sz) es[q / sz].cells[q % sz] he (by simp [hj])
      rw [Nat.mul_comm, Nat.div_add_mod] at this
      subst_vars
      exact this

def appendIs (P : Program) (t t' : TypeId) (sz bytes : Nat) : Bool :=
  match P.underlying t, P.underlying t' with
  | some (.slice e), some (.slice _) => match P.info? e with
    | some i => i.size == sz && i.bytes == bytes && (match i.zero with | some z => z.cells.size == sz | none => false)
    | none => false
  | _, _ => false

theorem appendIs_of {P : Program} {t t' : TypeId} {sz bytes : Nat} (h : appendIs P t t' sz bytes = true) : ∃ e e' i z, P.underlying t = some (.slice e) ∧ P.underlying t' = some (.slice e') ∧ P.info? e = some i ∧ i.size = sz ∧ i.bytes = bytes ∧ i.zero = some z ∧ z.cells.size = sz := by
  unfold appendIs at h
  split at h
  · rename_i e e' h1 h2
    split at h
    · rename_i i hi
      split at h
      · rename_i z hz
        simp at h
        exact ⟨e, e', i, z, h1, h2, hi, h.1.1, h.1.2, hz, h.2⟩
      · simp at h
    · simp at h
  · simp at h

section runs
variable {P : Program} {w : World}

theorem zeroCells_size (z : Array Value) (n : Nat) : (Builtin.zeroCells z n).size = n * z.size := by simp [Builtin.zeroCells]

theorem run_append_in {t t' e e' : TypeId} {i : TypeInfo} {sz : Nat} {ty : TypeId} (hu : P.underlying t = some (.slice e)) (hu' : P.underlying t' = some (.slice e')) (hi : P.info? e = some i) (hsz : i.size = sz)
    {a b : Option Addr} {len cap m c : Nat} {us : List Value} (hroom : len + m ≤ cap) (hf : (Builtin.firstCells sz m (.slice b m c)).run P w = .ok us.toArray w) {w' : World}
    (hst : (match a with | some p => storeCells (p.add (len * sz)) us | none => pure () : Sem Unit).run P w = .ok () w') :
    (Builtin.append_ #[t, t'] ty #[.slice a len cap, .slice b m c]).run P w = .ok (.slice a (len + m) cap) w' := by
  have hs : (sizeOf e).run P w = .ok sz w := by simp [sizeOf, typeInfo, hi, hsz]
  simp only [Builtin.append_, List.getElem?_toArray, List.getElem?_cons_zero, List.getElem?_cons_succ, Sem.run_bind, run_underlying hu, run_underlying hu', Result.andThen_ok, hs, Builtin.lenOf, Sem.run_pure, Sem.run_ite, Bool.false_eq_true, if_false, Bool.not_false, if_true]
  rw [if_pos hroom]
  simp only [hf, Result.andThen_ok]
  cases a with
  | none =>
    simp at hst
    subst hst
    rfl
  | some p =>
    simp only at hst
    simp [hst]

theorem run_append_new {t t' e e' : TypeId} {i : TypeInfo} {z : Value} {sz : Nat} {ty : TypeId} (hu : P.underlying t = some (.slice e)) (hu' : P.underlying t' = some (.slice e')) (hi : P.info? e = some i) (hsz : i.size = sz) (hz : i.zero = some z) (hzs : z.cells.size = sz)
    {a b : Option Addr} {len cap m c : Nat} {us os : List Value} (hroom : cap < len + m) (hb : (len + m) * i.bytes ≤ 140737488355328) (hm : len + m ≤ 9223372036854775807)
    (hf : (Builtin.firstCells sz m (.slice b m c)).run P w.drew = .ok us.toArray w.drew) (hg : (Builtin.firstCells sz len (.slice a len cap)).run P w.drew = .ok os.toArray w.drew) :
    ∃ newCap rest, len + m ≤ newCap ∧ rest.length = (newCap - (len + m)) * sz ∧
    (Builtin.append_ #[t, t'] ty #[.slice a len cap, .slice b m c]).run P w = .ok (.slice (some ⟨w.heap.size, 0, none⟩) (len + m) newCap) (w.drew.alloc (.cells (os ++ us ++ rest).toArray e)) := by
  have hs : ∀ w, (sizeOf e).run P w = .ok sz w := fun w => by simp [sizeOf, typeInfo, hi, hsz]
  have hzr : ∀ w, (zeroValue e).run P w = .ok z w := fun w => by simp [zeroValue, typeInfo, hi, hz]
  have hti : ∀ w, (typeInfo e).run P w = .ok i w := fun w => by simp [typeInfo, hi]
  have hfit := growslice_fits hroom hb
  refine ⟨(Question.appendCap (len + m) cap e).cut (w.tape w.drawn (.appendCap (len + m) cap e)), (Builtin.zeroCells z.cells ((Question.appendCap (len + m) cap e).cut (w.tape w.drawn (.appendCap (len + m) cap e)) - (len + m))).toList, ?_, ?_, ?_⟩
  · simp [Question.cut]
  · rw [Array.length_toList, zeroCells_size, hzs]
  · simp only [Builtin.append_, List.getElem?_toArray, List.getElem?_cons_zero, List.getElem?_cons_succ, Sem.run_bind, run_underlying hu, run_underlying hu', Result.andThen_ok, hs, Builtin.lenOf, Sem.run_pure, Sem.run_ite, Bool.false_eq_true, if_false, Bool.not_false, if_true, hti]
    rw [if_neg (by omega)]
    rw [if_neg (by simp [IntKind.max, IntKind.signed, IntKind.bits]; omega)]
    rw [if_neg (by omega)]
    simp only [run_choose, Question.forced, Bool.false_eq_true, if_false, Result.andThen_ok, run_askRoom, World.drew_eq, hg, hf, hzr, newRow, Sem.run_bind, run_newObj, Sem.run_pure]
    have e2 : ∀ zc : Array Value, os.toArray ++ us.toArray ++ zc = (os ++ us ++ zc.toList).toArray := fun zc => by apply Array.ext'; simp
    rw [e2]
    rfl
end runs

end Go.DI

