/- Code, loops and loops over functions, on data. No condition. -/
import Derived.Test.YtadmimjaelodkaaWeGc
import Derived.RangeFuncNested
import Derived.RangeFuncLeaves
/- Bases over bases: what others' code leaves alone; what is lent, and comes back; a resource gets another name. No condition. -/
namespace Go.DI
open Go.RowKit

def Fam.fence (A : Fam) : Fence := { Fence.wide with round := A.round }

def Base.mark (B : Base) (Ds : List Nat) : Base where
  O := fun k => B.O k ∨ k ∈ Ds
  inv := fun g S w => B.inv g S w ∧ ∀ D ∈ Ds, w.heap[D]? = some (.deferred (some []))
  lt := fun h k hk => hk.elim (B.lt h.1 k) (fun hk => (Array.getElem?_eq_some_iff.1 (h.2 k hk)).1)
  move := fun h m => ⟨B.move h.1 (m.less fun _ => .inl), fun D hD => (m.block D (.inr hD)).trans (h.2 D hD)⟩
  lose := fun h => ⟨B.lose h.1, h.2⟩
  pins := B.pins
  round := B.round
  record := fun hr h => B.record hr h.1

def markOf (D : Nat) : Deferred := { target := .collected D, args := #[] }

theorem Core.over {B B' : Base} {st : St} {tmps : Array Value} {w w' : World} {S S' : Nat → Nat → Prop} {rho : Nat → Nat} {tau : Nat → Value} (h : Core B st tmps w S rho tau) (hx : Ext w S w' S') (hst : ∀ b o, S' b o → b < w'.heap.size)
    (hsz : w.heap.size ≤ w'.heap.size) (hown : ∀ id r, st.res id = some r → Owns tau id r → w'.heap[rho id]? = w.heap[rho id]? ∧ (∀ o, S' (rho id) o → S (rho id) o) ∧ ¬ B'.O (rho id))
    (hinv : B'.inv (ghost st.res) S' w') (hpin : ∀ id b, B'.pins id = some b → ∃ r, st.res id = some r ∧ (rho id = b.1 ∧ tau id = b.2) ∧ r.isTok = false) : Core B' st tmps w' S' rho tau where
  inv := hinv
  stab := hst
  env := fun x => (h.env x).mono hx
  envC := h.envC
  res := fun id r hr => (h.res id r hr).moved hx (fun ho => (hown id r hr ho).2.1) (fun ho => (hown id r hr ho).1)
  resC := h.resC
  base := fun id r hr ho => ⟨(hown id r hr ho).2.2, Nat.lt_of_lt_of_le (h.base id r hr ho).2 hsz⟩
  dis := h.dis
  tauS := h.tauS
  pin := hpin

theorem Core.slots {B : Base} {st : St} {tmps : Array Value} {w : World} {S : Nat → Nat → Prop} {rho : Nat → Nat} {tau : Nat → Value} (h : Core B st tmps w S rho tau) {env : Nat → DV} {tmps' : Array Value}
    (he : ∀ x, Rl w S rho tau (env x) (tmps'.getD x undef)) (hc : ∀ x, Nm st.res (env x)) : Core B ⟨env, st.res⟩ tmps' w S rho tau :=
  { h with env := he, envC := fun x id hn => hc x id hn }

structure Framed (X : Nat → Prop) (w0 : World) (S0 : Nat → Nat → Prop) (O : Nat → Prop) (S : Nat → Nat → Prop) (w : World) : Prop where
  lt : ∀ k, X k → k < w0.heap.size
  dis : ∀ k, X k → ¬ O k
  size : w0.heap.size ≤ w.heap.size
  same : ∀ k, X k → w.heap[k]? = w0.heap[k]?
  ext : Ext w0 S0 w S
  snew : ∀ b o, S b o → X b → S0 b o

def Fam.frame (A : Fam) (X : Nat → Prop) (w0 : World) (S0 : Nat → Nat → Prop) (round : Option Nat) (hr : ∀ l, round = some l → X l ∧ ∃ r, w0.heap[l]? = some (.loop r)) (pins : Nat → Option (Nat × Value)) : Fam where
  ι := A.ι
  base := fun i => {
    O := fun k => (A.base i).O k ∨ X k
    inv := fun g S w => (A.base i).inv g S w ∧ Framed X w0 S0 (A.base i).O S w
    lt := fun h k hk => hk.elim ((A.base i).lt h.1 k) (fun hk => Nat.lt_of_lt_of_le (h.2.lt k hk) h.2.size)
    move := fun h m => ⟨(A.base i).move h.1 (m.less fun _ => .inl), {
      lt := h.2.lt
      dis := h.2.dis
      size := Nat.le_trans h.2.size m.size
      same := fun k hk => (m.block k (.inr hk)).trans (h.2.same k hk)
      ext := h.2.ext.trans m.ext
      snew := fun b o hs hb => (m.snew b o hs).elim (fun k => h.2.snew b o k hb) (fun k => (k (.inr hb)).elim) }⟩
    lose := fun h => ⟨(A.base i).lose h.1, h.2⟩
    pins := pins
    round := round
    record := fun e h => by
      obtain ⟨hx, r, hr'⟩ := hr _ e
      exact ⟨r, (h.2.same _ hx).trans hr'⟩ }
  round := round
  hround := fun _ => rfl
  pins := pins
  hpins := fun _ => rfl

theorem yieldAt_mono {F : Fence} {m : Nat} {P : Program} {l : Nat} {args : Array Value} {W : World} {R R' : Ending → World → Prop} (h : YieldAt F m P l args W R) (hr : ∀ e w, R e w → R' e w) : YieldAt F m P l args W R' := by
  obtain ⟨fn, tmps, assign, body, h1, h2⟩ := h
  exact ⟨fn, tmps, assign, body, h1, h2.mono hr⟩

theorem Framed.turned {X : Nat → Prop} {w0 : World} {S0 : Nat → Nat → Prop} {O O' : Nat → Prop} {S S' : Nat → Nat → Prop} {w w' : World} (h : Framed X w0 S0 O S w) (T : Turned O S w O' S' w') : Framed X w0 S0 O' S' w' := by
  have lt : ∀ k, X k → k < w.heap.size := fun k hk => Nat.lt_of_lt_of_le (h.lt k hk) h.size
  exact {
    lt := h.lt
    dis := fun k hk => (T.block k (lt k hk) (h.dis k hk)).1
    size := Nat.le_trans h.size T.size
    same := fun k hk => (T.block k (lt k hk) (h.dis k hk)).2.trans (h.same k hk)
    ext := h.ext.trans T.ext
    snew := fun b o hs hb => h.snew b o (T.snew b o hs (lt b hb) (h.dis b hb)) hb }

theorem Fam.frame_yields {P : Program} {A : Fam} (hY : A.Yields P) {X : Nat → Prop} {w0 : World} {S0 : Nat → Nat → Prop} {round : Option Nat} {hr} {pins} : (A.frame X w0 S0 round hr pins).Yields P := by
  intro n l inf x rest i S w us hinv hst hlen hrd
  refine yieldAt_mono (hY n l inf x rest i S w us hinv.1 hst hlen hrd) ?_
  rintro e w' ⟨j, S', T, hc⟩
  have hf := hinv.2.turned T
  refine ⟨j, S', {
    size := T.size
    block := fun k hk hn => ⟨fun h => h.elim (T.block k hk (fun q => hn (.inl q))).1 (fun q => hn (.inr q)), (T.block k hk (fun q => hn (.inl q))).2⟩
    ext := T.ext
    snew := fun b o hs hb hn => T.snew b o hs hb (fun q => hn (.inl q))
    stab := T.stab }, ?_⟩
  rcases hc with ⟨h1, h2, h3⟩ | ⟨h1, h3⟩
  · exact .inl ⟨h1, h2, h3, hf⟩
  · exact .inr ⟨h1, h3, hf⟩

theorem Rl.agree {w : World} {S : Nat → Nat → Prop} {rho rho' : Nat → Nat} {tau tau' : Nat → Value} {d : DV} {v : Value} (r : Rl w S rho tau d v) (hn : ∀ id, d.names id = true → rho' id = rho id ∧ tau' id = tau id) : Rl w S rho' tau' d v := by
  induction r with
  | undef v => exact .undef v
  | imm d v k => exact .imm d v k
  | ref i off => rw [← (hn i (by simp [DV.names])).1]; exact .ref i off
  | pim d b o k => exact .pim d b o k
  | vec i off n cap a k ha hz => exact .vec i off n cap a k (by rw [(hn i (by simp [DV.names])).1]; exact ha) hz
  | own t => rw [← (hn t (by simp [DV.names])).2]; exact .own t
  | cap0 sz es v a k hv => exact .cap0 sz es v a k hv
  | agg cs vs hl hr ha ih =>
    refine .agg cs vs hl (fun i x v hx hv => ih i x v hx hv fun id hd => hn id ?_) ha
    cases hq : DV.names.namesAll id cs with
    | true => simpa [DV.names] using hq
    | false => have := DV.namesAll_get hq i x hx; rw [this] at hd; cases hd
  | fn f first cap vf vc hf hc hrf hrc ih1 ih2 =>
    refine .fn f first cap vf vc hf hc (fun i x v hx hv => ih1 i x v hx hv fun id hd => hn id ?_) (fun i x v hx hv => ih2 i x v hx hv fun id hd => hn id ?_)
    · cases hq : DV.names.namesAll id first with
      | true => simp [DV.names, hq]
      | false => have := DV.namesAll_get hq i x hx; rw [this] at hd; cases hd
    · cases hq : DV.names.namesAll id cap with
      | true => simp [DV.names, hq]
      | false => have := DV.namesAll_get hq i x hx; rw [this] at hd; cases hd
  | yld l => exact .yld l
  | nils z => exact .nils z

theorem RdRes.agree {w : World} {S : Nat → Nat → Prop} {rho rho' : Nat → Nat} {tau tau' : Nat → Value} {id : Nat} {r : Res} (h : RdRes w S rho tau id r) (h1 : rho' id = rho id) (h2 : tau' id = tau id)
    (hn : ∀ cells, r = .box cells → ∀ c ∈ cells, ∀ i, c.names i = true → rho' i = rho i ∧ tau' i = tau i) : RdRes w S rho' tau' id r := by
  cases r with
  | box cells =>
    obtain ⟨arr, e, g1, g2, g3, g4, g5⟩ := h
    exact ⟨arr, e, by rw [h1]; exact g1, g2, fun i d v hd hv => (g3 i d v hd hv).agree (hn cells rfl d (List.mem_of_getElem? hd)), g4, by rw [h1]; exact g5⟩
  | arr es =>
    obtain ⟨arr, e, g1, g2, g3, g4, g5⟩ := h
    exact ⟨arr, e, by rw [h1]; exact g1, g2, g3, g4, by rw [h1]; exact g5⟩
  | fza es =>
    simp only [RdRes] at h ⊢
    rw [h1]; exact h
  | tok sz es =>
    simp only [RdRes] at h ⊢
    rw [h1, h2]; exact h
  | seq l t => trivial

theorem Owns.agree {tau tau' : Nat → Value} {id : Nat} {r : Res} (h2 : tau' id = tau id) (h : Owns tau' id r) : Owns tau id r := by
  cases r with
  | box _ => trivial
  | arr _ => trivial
  | fza _ => exact h
  | tok _ _ => simp only [Owns] at h ⊢; rw [← h2]; exact h
  | seq _ _ => exact h

theorem okAll_get {ids : List Nat} : ∀ {cs : List DV}, DV.okAll ids cs = true → ∀ c ∈ cs, c.ok ids = true
  | [], _, c, h => by cases h
  | d :: r, hn, c, h => by
    simp only [DV.okAll, Bool.and_eq_true] at hn
    rcases List.mem_cons.1 h with rfl | h
    · exact hn.1
    · exact okAll_get hn.2 c h

theorem keep_names {ids : List Nat} {id : Nat} : ∀ {d : DV}, d.ok ids = true → d.names id = true → id ∈ ids := by
  intro d
  exact DV.rec (motive_1 := fun d => d.ok ids = true → d.names id = true → id ∈ ids)
    (motive_2 := fun cs => DV.okAll ids cs = true → DV.names.namesAll id cs = true → id ∈ ids)
    (by intro _ h; simp [DV.names] at h)
    (by intro v _ h; simp [DV.names] at h)
    (by intro i o h1 h2; simp [DV.names] at h2; subst h2; simpa [DV.ok] using h1)
    (by intro v _ h; simp [DV.names] at h)
    (by intro i o n h1 h2; simp [DV.names] at h2; subst h2; simpa [DV.ok] using h1)
    (by intro t h1 h2; simp [DV.names] at h2; subst h2; simpa [DV.ok] using h1)
    (by intro sz es _ h; simp [DV.names] at h)
    (by intro cs ih h1 h2; simp only [DV.ok] at h1; simp only [DV.names] at h2; exact ih h1 h2)
    (by
      intro f p q ih1 ih2 h1 h2
      simp only [DV.ok, Bool.and_eq_true] at h1
      simp only [DV.names, Bool.or_eq_true] at h2
      exact h2.elim (ih1 h1.1) (ih2 h1.2))
    (by intro l _ h; simp [DV.names] at h)
    (by intro z _ h; simp [DV.names] at h)
    (by intro _ h; simp [DV.names.namesAll] at h)
    (by
      intro d r ih1 ih2 h1 h2
      simp only [DV.okAll, Bool.and_eq_true] at h1
      simp only [DV.names.namesAll, Bool.or_eq_true] at h2
      exact h2.elim (ih1 h1.1) (ih2 h1.2)) d

structure Lend (ids : List Nat) (R : Nat → Option Res) (ds : List DV) : Prop where
  has : ∀ id ∈ ids, ∃ r, R id = some r ∧ r.isTok = false
  box : ∀ id ∈ ids, ∀ cells, R id = some (Res.box cells) → ∀ c ∈ cells, ∀ i, DV.names i c = true → i ∈ ids
  args : ∀ d ∈ ds, ∀ i, d.names i = true → i ∈ ids

theorem lend_of {ids : List Nat} {res : Nat → Option Res} {ds : List DV} (h : lendOk ids res ds = true) : Lend ids res ds := by
  unfold lendOk at h
  simp only [Bool.and_eq_true, List.all_eq_true] at h
  refine ⟨fun id hid => ?_, fun id hid cells hc c hm i hn => ?_, fun d hd i hn => keep_names (okAll_get h.2 d hd) hn⟩
  · have := h.1 id hid
    split at this
    · cases this
    · cases this
    · rename_i hr; exact ⟨_, hr, rfl⟩
    · rename_i r h1 h2 h3
      cases hr : res id with
      | none => exact (h1 hr).elim
      | some r =>
        refine ⟨r, rfl, ?_⟩
        cases r <;> first | rfl | exact (h2 _ _ hr).elim
  · have := h.1 id hid
    rw [hc] at this
    exact keep_names (okAll_get this c hm) hn

theorem restr_some {ids : List Nat} {R : Nat → Option Res} {id : Nat} {r : Res} (h : restr ids R id = some r) : id ∈ ids ∧ R id = some r := by
  unfold restr at h
  split at h
  · rename_i hc; exact ⟨by simpa using hc, h⟩
  · cases h
theorem restr_of {ids : List Nat} {R : Nat → Option Res} {id : Nat} (h : id ∈ ids) : restr ids R id = R id := by unfold restr; rw [if_pos (by simpa using h)]

section
variable {A : Fam} {i : A.ι} {Ds ids : List Nat} {st : St} {tmps : Array Value} {w : World} {S : Nat → Nat → Prop} {rho : Nat → Nat} {tau : Nat → Value} {ds : List DV}

def rest (A : Fam) (i : A.ι) (w : World) (res : Nat → Option Res) (rho : Nat → Nat) (tau : Nat → Value) (ids : List Nat) : Nat → Prop := fun k => k < w.heap.size ∧ ¬ (A.base i).O k ∧ ¬ ∃ id r, id ∈ ids ∧ res id = some r ∧ Owns tau id r ∧ rho id = k

theorem ghost_restr {ids : List Nat} {R : Nat → Option Res} : ghost (restr ids R) = if ids.contains 0 then ghost R else none := by
  unfold ghost restr
  split <;> simp_all

theorem Core.lend (hC : Core ((A.base i).mark Ds) st tmps w S rho tau) (hl : Lend ids st.res ds) {round : Option Nat} {hr} :
    Core ((A.frame (rest A i w st.res rho tau ids) w S round hr fun _ => none).base i) (St.bare (restr ids st.res)) #[] w S rho tau where
  inv := by
    refine ⟨?_, { lt := fun k hk => hk.1, dis := fun k hk => hk.2.1, size := Nat.le_refl _, same := fun _ _ => rfl, ext := Ext.refl _ _, snew := fun _ _ h _ => h }⟩
    simp only [St.bare, ghost_restr]
    split
    · exact hC.inv.1
    · exact (A.base i).lose hC.inv.1
  stab := hC.stab
  env := fun x => .undef _
  envC := fun x id h => by simp [St.bare, DV.names] at h
  res := fun id r hr => hC.res id r (restr_some hr).2
  resC := fun id cells hc c hm i hn => by
    have h := restr_some hc
    have hi := hl.box id h.1 cells h.2 c hm i hn
    obtain ⟨r, hr, _⟩ := hl.has i hi
    simp [St.bare, restr_of hi, hr]
  base := fun id r hr ho => by
    have h := restr_some hr
    have hb := hC.base id r h.2 ho
    exact ⟨fun k => k.elim (fun k => hb.1 (.inl k)) (fun k => k.2.2 ⟨id, r, h.1, h.2, ho, rfl⟩), hb.2⟩
  dis := fun a b r r' h1 h2 => hC.dis a b r r' (restr_some h1).2 (restr_some h2).2
  tauS := hC.tauS
  pin := fun id b h => by cases h

theorem Core.back (hC : Core ((A.base i).mark Ds) st tmps w S rho tau) (hDs : ∀ D ∈ Ds, ¬ (A.base i).O D) (hl : Lend ids st.res ds) (h0 : (ids.contains 0 || (ghost st.res).isNone) = true) {round : Option Nat} {hr} {j : A.ι} {w' : World} {S' : Nat → Nat → Prop} {R' : Nat → Option Res} {rho' : Nat → Nat} {tau' : Nat → Value}
    (hC' : Core ((A.frame (rest A i w st.res rho tau ids) w S round hr fun _ => none).base j) (St.bare R') #[] w' S' rho' tau')
    (hper : ∀ id x, restr ids st.res id = some x → x.isTok = false → (rho' id = rho id ∧ tau' id = tau id) ∧ ∃ x', R' id = some x' ∧ x'.isTok = false)
    (hfresh : ∀ id, (R' id).isSome = true → ids.contains id = true ∨ st.res id = none) :
    Core ((A.base j).mark Ds) { st with res := withRes R' st.res } tmps w' S' (fun id => if (R' id).isSome then rho' id else rho id) (fun id => if (R' id).isSome then tau' id else tau id) ∧ (∀ D ∈ Ds, ¬ (A.base j).O D) ∧ Ext w S w' S' := by
  obtain ⟨hinv, hF⟩ := hC'.inv
  have agr : ∀ id, (st.res id).isSome = true → ((if (R' id).isSome then rho' id else rho id) = rho id ∧ (if (R' id).isSome then tau' id else tau id) = tau id) := by
    intro id hid
    cases hR : R' id with
    | none => simp
    | some r =>
      have hin : id ∈ ids := by
        rcases hfresh id (by rw [hR]; rfl) with h | h
        · simpa using h
        · rw [h] at hid; cases hid
      obtain ⟨x, hx, ht⟩ := hl.has id hin
      simpa using (hper id x (by rw [restr_of hin]; exact hx) ht).1
  have agr' : ∀ id, (R' id).isSome = true → ((if (R' id).isSome then rho' id else rho id) = rho' id ∧ (if (R' id).isSome then tau' id else tau id) = tau' id) := by
    intro id hid
    simp [hid]
  have back : ∀ id, id ∈ ids → (R' id).isSome = true := by
    intro id hid
    obtain ⟨x, hx, ht⟩ := hl.has id hid
    obtain ⟨_, x', h, _⟩ := hper id x (by rw [restr_of hid]; exact hx) ht
    rw [h]; rfl
  have inv : ∀ id r, withRes R' st.res id = some r → R' id = some r ∨ (R' id = none ∧ st.res id = some r ∧ id ∉ ids) := by
    intro id r h
    unfold withRes at h
    cases hR : R' id with
    | some r' => rw [hR] at h; exact .inl h
    | none =>
      rw [hR] at h
      exact .inr ⟨rfl, h, fun hin => by have := back id hin; rw [hR] at this; cases this⟩
  have w1 : ∀ i, (R' i).isSome = true → (withRes R' st.res i).isSome = true := fun i hi => by
    unfold withRes
    cases h0 : R' i with
    | none => rw [h0] at hi; cases hi
    | some _ => rfl
  have w2 : ∀ i, (st.res i).isSome = true → (withRes R' st.res i).isSome = true := fun i hi => by
    unfold withRes
    cases h0 : R' i with
    | none => exact hi
    | some _ => rfl
  have hX : ∀ id r, st.res id = some r → id ∉ ids → Owns tau id r → rest A i w st.res rho tau ids (rho id) := by
    intro id r hr hn ho
    have hb := hC.base id r hr ho
    refine ⟨hb.2, fun k => hb.1 (.inl k), ?_⟩
    rintro ⟨id2, r2, h1, h2, h3, h4⟩
    exact hC.dis id2 id r2 r h2 hr h3 ho (fun e => hn (e ▸ h1)) h4
  have hXD : ∀ D ∈ Ds, rest A i w st.res rho tau ids D := by
    intro D hD
    refine ⟨((A.base i).mark Ds).lt hC.inv D (.inr hD), hDs D hD, ?_⟩
    rintro ⟨id2, r2, h1, h2, h3, h4⟩
    exact (hC.base id2 r2 h2 h3).1 (.inr (h4 ▸ hD))
  have hOD : ∀ D ∈ Ds, w'.heap[D]? = some (.deferred (some [])) := fun D hD => (hF.same D (hXD D hD)).trans (hC.inv.2 D hD)
  refine ⟨{
    inv := ⟨?_, hOD⟩
    stab := hC'.stab
    env := fun x => ((hC.env x).mono hF.ext).agree fun id hn => agr id (hC.envC x id hn)
    envC := fun x id hn => w2 id (hC.envC x id hn)
    res := fun id r hr => ?_
    resC := fun id cells hc c hm i hn => ?_
    base := fun id r hr ho => ?_
    dis := fun a b r r' h1 h2 o1 o2 hab => ?_
    tauS := fun t => ?_
    pin := fun id b hp => ?_ }, fun D hD => hF.dis D (hXD D hD), hF.ext⟩
  · have e : ghost (withRes R' st.res) = ghost R' := by
      unfold ghost withRes
      cases hR : R' 0 with
      | some r => rfl
      | none =>
        have hn : (0 : Nat) ∉ ids := fun hin => by have := back 0 hin; rw [hR] at this; cases this
        simp only [Bool.or_eq_true] at h0
        have h0 := h0.resolve_left (by simpa using hn)
        unfold ghost at h0
        dsimp only
        split
        · rename_i l t hq; rw [hq] at h0; cases h0
        · rfl
    show (A.base j).inv (ghost (withRes R' st.res)) S' w'
    rw [e]; exact hinv
  · rcases inv id r hr with h | ⟨hR, h, hn⟩
    · have a := agr' id (by rw [h]; rfl)
      exact (hC'.res id r h).agree a.1 a.2 fun cells hc c hm i hi => agr' i (hC'.resC id cells (by rw [← hc]; exact h) c hm i hi)
    · have a := agr id (by rw [h]; rfl)
      refine ((hC.res id r h).moved hF.ext (fun ho o hs => ?_) fun ho => hF.same _ (hX id r h hn ho)).agree a.1 a.2 fun cells hc c hm i hi => agr i (hC.resC id cells (by rw [← hc]; exact h) c hm i hi)
      exact hF.snew _ _ hs (hX id r h hn ho)
  · rcases inv id _ hc with h | ⟨hR, h, hn'⟩
    · exact w1 i (hC'.resC id cells h c hm i hn)
    · exact w2 i (hC.resC id cells h c hm i hn)
  · rcases inv id r hr with h | ⟨hR, h, hn⟩
    · have a := agr' id (by rw [h]; rfl)
      have hb := hC'.base id r h (ho.agree a.2)
      rw [a.1]
      exact ⟨fun k => hb.1 (k.imp_right fun k => hXD _ k), hb.2⟩
    · have a := agr id (by rw [h]; rfl)
      have ho' : Owns tau id r := ho.agree a.2
      rw [a.1]
      exact ⟨fun k => k.elim (hF.dis _ (hX id r h hn ho')) (fun k => (hC.base id r h ho').1 (.inr k)), Nat.lt_of_lt_of_le (hC.base id r h ho').2 hF.size⟩
  · rcases inv a r h1 with g1 | ⟨_, g1, n1⟩ <;> rcases inv b r' h2 with g2 | ⟨_, g2, n2⟩
    · have e1 := agr' a (by rw [g1]; rfl); have e2 := agr' b (by rw [g2]; rfl)
      rw [e1.1, e2.1]
      exact hC'.dis a b r r' g1 g2 (o1.agree e1.2) (o2.agree e2.2) hab
    · have e1 := agr' a (by rw [g1]; rfl); have e2 := agr b (by rw [g2]; rfl)
      rw [e1.1, e2.1]
      intro e
      exact (hC'.base a r g1 (o1.agree e1.2)).1 (.inr (e ▸ hX b r' g2 n2 (o2.agree e2.2)))
    · have e1 := agr a (by rw [g1]; rfl); have e2 := agr' b (by rw [g2]; rfl)
      rw [e1.1, e2.1]
      intro e
      exact (hC'.base b r' g2 (o2.agree e2.2)).1 (.inr (e ▸ hX a r g1 n1 (o1.agree e1.2)))
    · have e1 := agr a (by rw [g1]; rfl); have e2 := agr b (by rw [g2]; rfl)
      rw [e1.1, e2.1]
      exact hC.dis a b r r' g1 g2 (o1.agree e1.2) (o2.agree e2.2) hab
  · split
    · exact hC'.tauS t
    · exact hC.tauS t
  · obtain ⟨r, h1, h2, h3⟩ := hC.pin id b (by show (A.base i).pins id = some b; rw [A.hpins i, ← A.hpins j]; exact hp)
    have a := agr id (by rw [h1]; rfl)
    cases hR : R' id with
    | none => exact ⟨r, by simp [withRes, hR, h1], by simpa [hR] using h2, h3⟩
    | some r' =>
      have hin : id ∈ ids := by
        rcases hfresh id (by rw [hR]; rfl) with h | h
        · simpa using h
        · rw [h] at h1; cases h1
      obtain ⟨hq, x', hx, ht⟩ := hper id r (by rw [restr_of hin]; exact h1) h3
      rw [hR] at hx; cases hx
      refine ⟨r', by simp [withRes, hR], ?_, ht⟩
      simp only [Option.isSome_some, if_true]
      exact ⟨hq.1.trans h2.1, hq.2.trans h2.2⟩

end

theorem renAll_get {a b : Nat} : ∀ (cs : List DV) (i : Nat), (DV.renAll a b cs)[i]? = (cs[i]?).map (DV.ren a b)
  | [], i => by simp [DV.renAll]
  | d :: r, i => by
    cases i with
    | zero => simp [DV.renAll]
    | succ i => simp [DV.renAll, renAll_get r i]
theorem renAll_length {a b : Nat} : ∀ (cs : List DV), (DV.renAll a b cs).length = cs.length
  | [] => rfl
  | d :: r => by simp [DV.renAll, renAll_length r]

theorem names_ren {a b id : Nat} : ∀ {d : DV}, (d.ren a b).names id = true → (id = b ∧ d.names a = true) ∨ (id ≠ a ∧ d.names id = true) := by
  have one : ∀ i, ((if i = a then b else i) == id) = true → (id = b ∧ (i == a) = true) ∨ (id ≠ a ∧ (i == id) = true) := by
    intro i h
    by_cases e : i = a
    · subst e; simp at h; exact .inl ⟨h.symm, by simp⟩
    · simp [e] at h; subst h; exact .inr ⟨e, by simp⟩
  intro d
  exact DV.rec (motive_1 := fun d => (d.ren a b).names id = true → (id = b ∧ d.names a = true) ∨ (id ≠ a ∧ d.names id = true))
    (motive_2 := fun cs => DV.names.namesAll id (DV.renAll a b cs) = true → (id = b ∧ DV.names.namesAll a cs = true) ∨ (id ≠ a ∧ DV.names.namesAll id cs = true))
    (by intro h; simp [DV.ren, DV.names] at h)
    (by intro v h; simp [DV.ren, DV.names] at h)
    (by intro i o h; exact one i h)
    (by intro v h; simp [DV.ren, DV.names] at h)
    (by intro i o n h; exact one i h)
    (by intro t h; exact one t h)
    (by intro sz es h; simp [DV.ren, DV.names] at h)
    (by intro cs ih h; exact ih h)
    (by
      intro f p q ih1 ih2 h
      simp only [DV.ren, DV.names, Bool.or_eq_true] at h
      rcases h with h | h
      · rcases ih1 h with ⟨h1, h2⟩ | ⟨h1, h2⟩
        · exact .inl ⟨h1, by simp [DV.names, h2]⟩
        · exact .inr ⟨h1, by simp [DV.names, h2]⟩
      · rcases ih2 h with ⟨h1, h2⟩ | ⟨h1, h2⟩
        · exact .inl ⟨h1, by simp [DV.names, h2]⟩
        · exact .inr ⟨h1, by simp [DV.names, h2]⟩)
    (by intro l h; simp [DV.ren, DV.names] at h)
    (by intro z h; simp [DV.ren, DV.names] at h)
    (by intro h; simp [DV.renAll, DV.names.namesAll] at h)
    (by
      intro d r ih1 ih2 h
      simp only [DV.renAll, DV.names.namesAll, Bool.or_eq_true] at h
      rcases h with h | h
      · rcases ih1 h with ⟨h1, h2⟩ | ⟨h1, h2⟩
        · exact .inl ⟨h1, by simp [DV.names.namesAll, h2]⟩
        · exact .inr ⟨h1, by simp [DV.names.namesAll, h2]⟩
      · rcases ih2 h with ⟨h1, h2⟩ | ⟨h1, h2⟩
        · exact .inl ⟨h1, by simp [DV.names.namesAll, h2]⟩
        · exact .inr ⟨h1, by simp [DV.names.namesAll, h2]⟩) d

theorem Rl.ren {w : World} {S : Nat → Nat → Prop} {rho rho' : Nat → Nat} {tau tau' : Nat → Value} {a b : Nat} (h1 : rho' b = rho a ∧ tau' b = tau a) (h2 : ∀ i, i ≠ a → i ≠ b → rho' i = rho i ∧ tau' i = tau i) {d : DV} {v : Value}
    (r : Rl w S rho tau d v) (hb : d.names b = false) : Rl w S rho' tau' (d.ren a b) v := by
  have one : ∀ i, (i == b) = false → rho' (if i = a then b else i) = rho i ∧ tau' (if i = a then b else i) = tau i := by
    intro i hi
    by_cases e : i = a
    · subst e; simpa using h1
    · simpa [e] using h2 i e (by simpa using hi)
  induction r with
  | undef v => exact .undef v
  | imm d v k => exact .imm d v k
  | ref i off =>
    have := (one i hb).1
    show Rl w S rho' tau' (.ref (if i = a then b else i) off) _
    rw [← this]; exact .ref _ off
  | pim d b o k => exact .pim d b o k
  | vec i off n cap p k ha hz => exact .vec _ off n cap p k (by rw [(one i hb).1]; exact ha) hz
  | own t =>
    have := (one t hb).2
    show Rl w S rho' tau' (.own (if t = a then b else t)) _
    rw [← this]; exact .own _
  | cap0 sz es v p k hv => exact .cap0 sz es v p k hv
  | agg cs vs hl hr ha ih =>
    simp only [DV.names] at hb
    refine .agg (DV.renAll a b cs) vs (by rw [renAll_length]; exact hl) (fun i x v hx hv => ?_) ha
    rw [renAll_get] at hx
    cases hc : cs[i]? with
    | none => rw [hc] at hx; cases hx
    | some y =>
      rw [hc] at hx; simp at hx; subst hx
      exact ih i y v hc hv (DV.namesAll_get hb i y hc)
  | fn f first cap vf vc hf hc hrf hrc ih1 ih2 =>
    simp only [DV.names, Bool.or_eq_false_iff] at hb
    refine .fn f (DV.renAll a b first) (DV.renAll a b cap) vf vc (by rw [renAll_length]; exact hf) (by rw [renAll_length]; exact hc) (fun i x v hx hv => ?_) (fun i x v hx hv => ?_)
    · rw [renAll_get] at hx
      cases hc : first[i]? with
      | none => rw [hc] at hx; cases hx
      | some y =>
        rw [hc] at hx; simp at hx; subst hx
        exact ih1 i y v hc hv (DV.namesAll_get hb.1 i y hc)
    · rw [renAll_get] at hx
      cases hc : cap[i]? with
      | none => rw [hc] at hx; cases hx
      | some y =>
        rw [hc] at hx; simp at hx; subst hx
        exact ih2 i y v hc hv (DV.namesAll_get hb.2 i y hc)
  | yld l => exact .yld l
  | nils z => exact .nils z

theorem Core.ren {B : Base} {st : St} {tmps : Array Value} {w : World} {S : Nat → Nat → Prop} {rho : Nat → Nat} {tau : Nat → Value} (h : Core B st tmps w S rho tau) {a b : Nat} (hb : st.res b = none) (ha0 : a ≠ 0) (hb0 : b ≠ 0) (hp : B.pins a = none) :
    Core B (st.ren a b) tmps w S (fun i => if i = b then rho a else rho i) (fun i => if i = b then tau a else tau i) := by
  have h1 : (fun i => if i = b then rho a else rho i) b = rho a ∧ (fun i => if i = b then tau a else tau i) b = tau a := by simp
  have h2 : ∀ i, i ≠ a → i ≠ b → (fun i => if i = b then rho a else rho i) i = rho i ∧ (fun i => if i = b then tau a else tau i) i = tau i := fun i _ hi => by simp [hi]
  have nob : ∀ d, Nm st.res d → d.names b = false := by
    intro d hd
    cases hq : d.names b with
    | false => rfl
    | true => have := hd b hq; rw [hb] at this; cases this
  have inv : ∀ i r, (st.ren a b).res i = some r → i ≠ a ∧ ((i = b ∧ ∃ r0, st.res a = some r0 ∧ r = r0.ren a b) ∨ (i ≠ b ∧ ∃ r0, st.res i = some r0 ∧ r = r0.ren a b)) := by
    intro i r hr
    simp only [St.ren] at hr
    by_cases e : i = a
    · rw [if_pos e] at hr; cases hr
    · rw [if_neg e] at hr
      refine ⟨e, ?_⟩
      by_cases e2 : i = b
      · rw [if_pos e2] at hr
        obtain ⟨r0, h3, h4⟩ := Option.map_eq_some_iff.1 hr
        exact .inl ⟨e2, r0, h3, h4.symm⟩
      · rw [if_neg e2] at hr
        obtain ⟨r0, h3, h4⟩ := Option.map_eq_some_iff.1 hr
        exact .inr ⟨e2, r0, h3, h4.symm⟩
  have wid : ∀ d, Nm st.res d → Nm (st.ren a b).res (d.ren a b) := by
    intro d hd id hn
    have hab : a ≠ b ∨ a = b := by omega
    rcases names_ren hn with ⟨rfl, hq⟩ | ⟨hne, hq⟩
    · have hs := hd a hq
      have : id ≠ a := fun e => by rw [← e, hb] at hs; cases hs
      simp only [St.ren]
      rw [if_neg this]
      simpa using hs
    · have hs := hd id hq
      have : id ≠ b := fun e => by rw [e, hb] at hs; cases hs
      simp only [St.ren]
      rw [if_neg hne, if_neg this]
      simpa using hs
  have ow : ∀ i r0, Owns (fun i => if i = b then tau a else tau i) i (r0.ren a b) → (i = b → Owns tau a r0) ∧ (i ≠ b → Owns tau i r0) := by
    intro i r0 ho
    refine ⟨fun e => ?_, fun e => ?_⟩
    · subst e
      cases r0 <;> simp only [Res.ren, Owns, if_true] at ho ⊢
      exact ho
    · cases r0 <;> simp only [Res.ren, Owns, if_neg e] at ho ⊢
      exact ho
  have rr : ∀ (i j : Nat) (r : Res), st.res i = some r → ((if j = b then rho a else rho j) = rho i) → ((if j = b then tau a else tau j) = tau i) → RdRes w S (fun i => if i = b then rho a else rho i) (fun i => if i = b then tau a else tau i) j (r.ren a b) := by
    intro i j r hr e1 e2
    have hold := h.res i r hr
    cases r with
    | box cells =>
      obtain ⟨arr, e, g1, g2, g3, g4, g5⟩ := hold
      refine ⟨arr, e, (congrArg (fun q => w.heap[q]?) e1).trans g1, by rw [renAll_length]; exact g2, fun k d v hd hv => ?_, g4, fun o hs => g5 o (by have : S (if j = b then rho a else rho j) o := hs; rwa [e1] at this)⟩
      rw [renAll_get] at hd
      cases hc : cells[k]? with
      | none => rw [hc] at hd; cases hd
      | some y =>
        rw [hc] at hd; simp at hd; subst hd
        exact (g3 k y v hc hv).ren h1 h2 (nob y (fun id hn => h.resC i cells hr y (List.mem_of_getElem? hc) id hn))
    | arr es =>
      obtain ⟨arr, e, g1, g2, g3, g4, g5⟩ := hold
      exact ⟨arr, e, (congrArg (fun q => w.heap[q]?) e1).trans g1, g2, g3, g4, fun o hs => g5 o (by have : S (if j = b then rho a else rho j) o := hs; rwa [e1] at this)⟩
    | fza es =>
      simp only [RdRes, Res.ren] at hold ⊢
      simp only [e1]; exact hold
    | tok sz es =>
      simp only [RdRes, Res.ren] at hold ⊢
      simp only [e1, e2]; exact hold
    | seq l t => trivial
  exact {
    inv := by
      have e : ghost (st.ren a b).res = ghost st.res := by
        unfold ghost
        simp only [St.ren]
        rw [if_neg (Ne.symm ha0), if_neg (Ne.symm hb0)]
        cases st.res 0 with
        | none => rfl
        | some r => cases r <;> rfl
      rw [e]; exact h.inv
    stab := h.stab
    env := fun x => (h.env x).ren h1 h2 (nob _ (fun id hn => h.envC x id hn))
    envC := fun x => wid _ (fun id hn => h.envC x id hn)
    res := fun i r hr => by
      rcases inv i r hr with ⟨hne, ⟨rfl, r0, h3, rfl⟩ | ⟨hnb, r0, h3, rfl⟩⟩
      · exact rr a i r0 h3 (by simp) (by simp)
      · exact rr i i r0 h3 (by simp [hnb]) (by simp [hnb])
    resC := fun i cells hc c hm => by
      have key : ∀ j r0, st.res j = some r0 → Res.box cells = r0.ren a b → Nm (st.ren a b).res c := by
        intro j r0 h3 h4
        cases r0 <;> simp only [Res.ren, reduceCtorEq, Res.box.injEq] at h4
        rename_i cells0
        subst h4
        obtain ⟨k, hk⟩ := List.getElem?_of_mem hm
        rw [renAll_get] at hk
        cases hq : cells0[k]? with
        | none => rw [hq] at hk; cases hk
        | some y =>
          rw [hq] at hk; simp at hk; subst hk
          exact wid y (fun id hn => h.resC j cells0 h3 y (List.mem_of_getElem? hq) id hn)
      rcases inv i _ hc with ⟨hne, ⟨rfl, r0, h3, h4⟩ | ⟨hnb, r0, h3, h4⟩⟩
      · exact key a r0 h3 h4
      · exact key i r0 h3 h4
    base := fun i r hr ho => by
      rcases inv i r hr with ⟨hne, ⟨rfl, r0, h3, rfl⟩ | ⟨hnb, r0, h3, rfl⟩⟩
      · simpa using h.base a r0 h3 ((ow i r0 ho).1 rfl)
      · simpa [hnb] using h.base i r0 h3 ((ow i r0 ho).2 hnb)
    dis := fun i j r r' hi hj oi oj hij => by
      rcases inv i r hi with ⟨hne, ⟨e1, r0, h3, rfl⟩ | ⟨hnb, r0, h3, rfl⟩⟩ <;> rcases inv j r' hj with ⟨hne', ⟨e1', r0', h3', rfl⟩ | ⟨hnb', r0', h3', rfl⟩⟩
      · exact (hij (e1.trans e1'.symm)).elim
      · simpa [e1, hnb'] using h.dis a j r0 r0' h3 h3' ((ow i r0 oi).1 e1) ((ow j r0' oj).2 hnb') (Ne.symm hne')
      · simpa [e1', hnb] using h.dis i a r0 r0' h3 h3' ((ow i r0 oi).2 hnb) ((ow j r0' oj).1 e1') hne
      · simpa [hnb, hnb'] using h.dis i j r0 r0' h3 h3' ((ow i r0 oi).2 hnb) ((ow j r0' oj).2 hnb') hij
    tauS := fun t => by
      split
      · exact h.tauS a
      · exact h.tauS t
    pin := fun id q hq => by
      obtain ⟨r, g1, g2, g3⟩ := h.pin id q hq
      have hna : id ≠ a := fun e => by rw [e, hp] at hq; cases hq
      have hnb : id ≠ b := fun e => by rw [e, hb] at g1; cases g1
      refine ⟨r.ren a b, by simp [St.ren, hna, hnb, g1], by simpa [hnb] using g2, ?_⟩
      cases r <;> first | rfl | exact g3 }

theorem sealAll_get {ids : List Nat} {R : Nat → Option Res} : ∀ (cs : List DV) (i : Nat), (DV.sealAll ids R cs)[i]? = (cs[i]?).map (DV.seal ids R)
  | [], i => by simp [DV.sealAll]
  | d :: r, i => by
    cases i with
    | zero => simp [DV.sealAll]
    | succ i => simp [DV.sealAll, sealAll_get r i]
theorem sealAll_length {ids : List Nat} {R : Nat → Option Res} : ∀ (cs : List DV), (DV.sealAll ids R cs).length = cs.length
  | [] => rfl
  | d :: r => by simp [DV.sealAll, sealAll_length r]

theorem names_seal {ids : List Nat} {R : Nat → Option Res} {id : Nat} : ∀ {d : DV}, (d.seal ids R).names id = true → d.names id = true ∧ sealed ids R id = false := by
  have no : ∀ i, ids.contains i ≠ true → sealed ids R i = false := by
    intro i h
    unfold sealed
    simp only [Bool.not_eq_true] at h
    rw [h]; rfl
  intro d
  exact DV.rec (motive_1 := fun d => (d.seal ids R).names id = true → d.names id = true ∧ sealed ids R id = false)
    (motive_2 := fun cs => DV.names.namesAll id (DV.sealAll ids R cs) = true → DV.names.namesAll id cs = true ∧ sealed ids R id = false)
    (by intro h; simp [DV.seal, DV.names] at h) (by intro v h; simp [DV.seal, DV.names] at h)
    (by
      intro i o h
      simp only [DV.seal] at h
      split at h
      · unfold sealRef at h
        split at h
        · simp [DV.names] at h
        · rename_i hne
          refine ⟨h, ?_⟩
          have : i = id := by simpa [DV.names] using h
          subst this
          unfold sealed
          cases hR : R i with
          | none => simp
          | some r => cases r <;> first | (simp; done) | exact (hne _ hR).elim
      · rename_i hc
        have : i = id := by simpa [DV.names] using h
        subst this
        exact ⟨h, no i hc⟩)
    (by intro v h; simp [DV.seal, DV.names] at h)
    (by
      intro i o n h
      simp only [DV.seal] at h
      split at h
      · unfold sealVec at h
        split at h
        · split at h <;> simp [DV.names] at h
        · rename_i hne
          refine ⟨h, ?_⟩
          have : i = id := by simpa [DV.names] using h
          subst this
          unfold sealed
          cases hR : R i with
          | none => simp
          | some r => cases r <;> first | (simp; done) | exact (hne _ hR).elim
      · rename_i hc
        have : i = id := by simpa [DV.names] using h
        subst this
        exact ⟨h, no i hc⟩)
    (by
      intro t h
      simp only [DV.seal] at h
      split at h
      · simp [DV.names] at h
      · rename_i hc
        have : t = id := by simpa [DV.names] using h
        subst this
        exact ⟨h, by simpa using hc⟩)
    (by intro sz es h; simp [DV.seal, DV.names] at h)
    (by intro cs ih h; exact ih h)
    (by
      intro f p q ih1 ih2 h
      simp only [DV.seal, DV.names, Bool.or_eq_true] at h ⊢
      rcases h with h | h
      · exact ⟨.inl (ih1 h).1, (ih1 h).2⟩
      · exact ⟨.inr (ih2 h).1, (ih2 h).2⟩)
    (by intro l h; simp [DV.seal, DV.names] at h)
    (by intro z h; simp [DV.seal, DV.names] at h)
    (by intro h; simp [DV.sealAll, DV.names.namesAll] at h)
    (by
      intro d r ih1 ih2 h
      simp only [DV.sealAll, DV.names.namesAll, Bool.or_eq_true] at h ⊢
      rcases h with h | h
      · exact ⟨.inl (ih1 h).1, (ih1 h).2⟩
      · exact ⟨.inr (ih2 h).1, (ih2 h).2⟩) d

theorem Rl.seal {w : World} {S : Nat → Nat → Prop} {rho : Nat → Nat} {tau : Nat → Value} {ids : List Nat} {R : Nat → Option Res} (hres : ∀ id r, R id = some r → RdRes w S rho tau id r) {d : DV} {v : Value} (r : Rl w S rho tau d v) : Rl w S rho tau (d.seal ids R) v := by
  induction r with
  | undef v => exact .undef v
  | imm d v k => exact .imm d v k
  | ref i off =>
    simp only [DV.seal]
    split
    · unfold sealRef
      split
      · rename_i es he
        refine .pim _ _ _ (fun j x hx => ?_)
        have hx : es[off + j]? = some x := by simpa [IV.cells, List.getElem?_drop] using hx
        obtain ⟨_, h2, v, h3, h4, h5⟩ := hres i _ he (off + j) x hx
        exact ⟨h2, v, h3, h4, h5⟩
      · exact .ref i off
    · exact .ref i off
  | pim d b o k => exact .pim d b o k
  | vec i off n cap a k ha hz =>
    simp only [DV.seal]
    split
    · unfold sealVec
      split
      · rename_i es he
        split
        · rename_i hn
          exact .imm _ _ (vec_fza k ha (hres i _ he) hn hz)
        · exact .undef _
      · exact .vec i off n cap a k ha hz
    · exact .vec i off n cap a k ha hz
  | own t =>
    simp only [DV.seal]
    split
    · exact .undef _
    · exact .own t
  | cap0 sz es v a k hv => exact .cap0 sz es v a k hv
  | agg cs vs hl hr ha ih =>
    refine .agg (DV.sealAll ids R cs) vs (by rw [sealAll_length]; exact hl) (fun i x v hx hv => ?_) ha
    rw [sealAll_get] at hx
    cases hc : cs[i]? with
    | none => rw [hc] at hx; cases hx
    | some y => rw [hc] at hx; simp at hx; subst hx; exact ih i y v hc hv
  | fn f first cap vf vc hf hc hrf hrc ih1 ih2 =>
    refine .fn f (DV.sealAll ids R first) (DV.sealAll ids R cap) vf vc (by rw [sealAll_length]; exact hf) (by rw [sealAll_length]; exact hc) (fun i x v hx hv => ?_) (fun i x v hx hv => ?_)
    · rw [sealAll_get] at hx
      cases hq : first[i]? with
      | none => rw [hq] at hx; cases hx
      | some y => rw [hq] at hx; simp at hx; subst hx; exact ih1 i y v hq hv
    · rw [sealAll_get] at hx
      cases hq : cap[i]? with
      | none => rw [hq] at hx; cases hx
      | some y => rw [hq] at hx; simp at hx; subst hx; exact ih2 i y v hq hv
  | yld l => exact .yld l
  | nils z => exact .nils z

theorem Core.seal {B : Base} {st : St} {tmps : Array Value} {w : World} {S : Nat → Nat → Prop} {rho : Nat → Nat} {tau : Nat → Value} (h : Core B st tmps w S rho tau) (ids : List Nat) (hp : ∀ id b, B.pins id = some b → id ∉ ids) : Core B (st.seal ids) tmps w S rho tau := by
  have inv : ∀ i r, (st.seal ids).res i = some r → sealed ids st.res i = false ∧ ∃ r0, st.res i = some r0 ∧ r = r0.seal ids st.res := by
    intro i r hr
    simp only [St.seal] at hr
    split at hr
    · cases hr
    · rename_i hs
      obtain ⟨r0, h1, h2⟩ := Option.map_eq_some_iff.1 hr
      exact ⟨by simpa using hs, r0, h1, h2.symm⟩
  have wid : ∀ i, sealed ids st.res i = false → (st.res i).isSome = true → ((st.seal ids).res i).isSome = true := by
    intro i hs hi
    simp only [St.seal]
    rw [if_neg (by simp [hs])]
    simpa using hi
  have ow : ∀ i r0, Owns tau i (r0.seal ids st.res) → Owns tau i r0 := by intro i r0 ho; cases r0 <;> exact ho
  exact {
    inv := by
      have e : ghost (st.seal ids).res = ghost st.res := by
        unfold ghost
        simp only [St.seal]
        by_cases hs : sealed ids st.res 0 = true
        · rw [if_pos hs]
          unfold sealed at hs
          simp only [Bool.and_eq_true] at hs
          have h2 := hs.2
          split at h2
          · rename_i es he; rw [he]
          · cases h2
        · rw [if_neg hs]
          cases st.res 0 with
          | none => rfl
          | some r => cases r <;> rfl
      rw [e]; exact h.inv
    stab := h.stab
    env := fun x => (h.env x).seal h.res
    envC := fun x id hn => by
      obtain ⟨h1, h2⟩ := names_seal hn
      exact wid id h2 (h.envC x id h1)
    res := fun i r hr => by
      obtain ⟨_, r0, h1, rfl⟩ := inv i r hr
      have hold := h.res i r0 h1
      cases r0 with
      | box cells =>
        obtain ⟨arr, e, g1, g2, g3, g4, g5⟩ := hold
        refine ⟨arr, e, g1, by rw [sealAll_length]; exact g2, fun k d v hd hv => ?_, g4, g5⟩
        rw [sealAll_get] at hd
        cases hc : cells[k]? with
        | none => rw [hc] at hd; cases hd
        | some y => rw [hc] at hd; simp at hd; subst hd; exact (g3 k y v hc hv).seal h.res
      | arr es => exact hold
      | fza es => exact hold
      | tok sz es => exact hold
      | seq l t => trivial
    resC := fun i cells hc c hm id hn => by
      obtain ⟨_, r0, h1, h2⟩ := inv i _ hc
      cases r0 <;> simp only [Res.seal, reduceCtorEq, Res.box.injEq] at h2
      rename_i cells0
      subst h2
      obtain ⟨k, hk⟩ := List.getElem?_of_mem hm
      rw [sealAll_get] at hk
      cases hq : cells0[k]? with
      | none => rw [hq] at hk; cases hk
      | some y =>
        rw [hq] at hk; simp at hk; subst hk
        obtain ⟨h3, h4⟩ := names_seal hn
        exact wid id h4 (h.resC i cells0 h1 y (List.mem_of_getElem? hq) id h3)
    base := fun i r hr ho => by
      obtain ⟨_, r0, h1, rfl⟩ := inv i r hr
      exact h.base i r0 h1 (ow i r0 ho)
    dis := fun i j r r' hi hj oi oj hij => by
      obtain ⟨_, r0, h1, rfl⟩ := inv i r hi
      obtain ⟨_, r1, h2, rfl⟩ := inv j r' hj
      exact h.dis i j r0 r1 h1 h2 (ow i r0 oi) (ow j r1 oj) hij
    tauS := h.tauS
    pin := fun id b hb => by
      obtain ⟨r, g1, g2, g3⟩ := h.pin id b hb
      have hs : sealed ids st.res id = false := by
        unfold sealed
        have := hp id b hb
        simp [this]
      refine ⟨r.seal ids st.res, by simp [St.seal, hs, g1], g2, ?_⟩
      cases r <;> first | rfl | exact g3 }

theorem tokAt_get : ∀ {cells : List DV} {off sz : Nat}, tokAt cells off sz = true → cells[off]? = some (.cap0 sz (tokEs cells off))
  | [], off, sz, h => by cases off <;> simp [tokAt] at h
  | d :: r, 0, sz, h => by
    cases d <;> simp [tokAt] at h
    subst h
    rfl
  | d :: r, n + 1, sz, h => by
    have h : tokAt r n sz = true := by cases d <;> exact h
    have e : tokEs (d :: r) (n + 1) = tokEs r n := by cases d <;> rfl
    rw [e]
    simpa using tokAt_get h

theorem Core.mktok {B : Base} {st : St} {tmps : Array Value} {w : World} {S : Nat → Nat → Prop} {rho : Nat → Nat} {tau : Nat → Value} (h : Core B st tmps w S rho tau) {b off t sz : Nat} {cells : List DV} (hb : st.res b = some (.box cells)) (hk : tokAt cells off sz = true) (ht : st.res t = none) :
    ∃ tau', Core B (st.mktok b off t sz) tmps w S rho tau' := by
  obtain ⟨arr, e, g1, g2, g3, g4, g5⟩ := h.res b _ hb
  have hc := tokAt_get hk
  have hlt : off < arr.size := by have := (List.getElem?_eq_some_iff.1 hc).1; omega
  have hr := g3 off _ arr[off] hc (by simp [hlt])
  have hes : resEs off (st.res b) = tokEs cells off := by rw [hb]; rfl
  generalize tokEs cells off = es at hc hr hes
  have hcap : ∃ a, Rd w S (.slc sz es) arr[off] ∧ arr[off] = .slice a es.length es.length := by
    generalize arr[off] = v at hr
    cases hr with
    | cap0 _ _ v a h1 h2 => exact ⟨a, h1, h2⟩
  obtain ⟨a, hrd, hv⟩ := hcap
  have hbt : b ≠ t := fun e => by rw [e, ht] at hb; cases hb
  refine ⟨upd tau t arr[off], ?_⟩
  have u : ∀ i, i ≠ t → upd tau t arr[off] i = tau i := fun i hi => by simp [upd, hi]
  have ut : upd tau t arr[off] t = arr[off] := by simp [upd]
  have nt : ∀ d, Nm st.res d → ∀ id, d.names id = true → rho id = rho id ∧ upd tau t arr[off] id = tau id := by
    intro d hd id hn
    exact ⟨rfl, u id (fun e => by have := hd id hn; rw [e, ht] at this; cases this)⟩
  have inv : ∀ i r, (st.mktok b off t sz).res i = some r → (i = t ∧ r = .tok sz es) ∨ (i ≠ t ∧ i = b ∧ r = .box (cells.set off (.own t))) ∨ (i ≠ t ∧ i ≠ b ∧ st.res i = some r) := by
    intro i r hr
    simp only [St.mktok] at hr
    by_cases e1 : i = t
    · rw [if_pos e1, hes] at hr; cases hr; exact .inl ⟨e1, rfl⟩
    · rw [if_neg e1] at hr
      by_cases e2 : i = b
      · rw [if_pos e2, hb] at hr; cases hr; exact .inr (.inl ⟨e1, e2, rfl⟩)
      · rw [if_neg e2] at hr; exact .inr (.inr ⟨e1, e2, hr⟩)
  have wid : ∀ i, (st.res i).isSome = true → ((st.mktok b off t sz).res i).isSome = true := by
    intro i hi
    simp only [St.mktok]
    split
    · rfl
    · split
      · rw [hb]; rfl
      · exact hi
  have widt : ((st.mktok b off t sz).res t).isSome = true := by simp [St.mktok]
  have ow : ∀ i r, (st.mktok b off t sz).res i = some r → Owns (upd tau t arr[off]) i r → ∃ r0, st.res i = some r0 ∧ Owns tau i r0 := by
    intro i r hr ho
    rcases inv i r hr with ⟨rfl, rfl⟩ | ⟨h1, rfl, rfl⟩ | ⟨h1, h2, h3⟩
    · simp only [Owns] at ho
      obtain ⟨a', n, cap, h4, h5⟩ := ho
      rw [ut, hv] at h4
      cases h4; omega
    · exact ⟨_, hb, trivial⟩
    · exact ⟨r, h3, ho.agree (u i h1)⟩
  exact {
    inv := by
      have e : ghost (st.mktok b off t sz).res = ghost st.res := by
        unfold ghost
        simp only [St.mktok]
        by_cases e1 : 0 = t
        · rw [if_pos e1, e1, ht]
        · rw [if_neg e1]
          by_cases e2 : 0 = b
          · rw [if_pos e2, e2, hb]; rfl
          · rw [if_neg e2]
      rw [e]; exact h.inv
    stab := h.stab
    env := fun x => (h.env x).agree (nt _ fun id hn => h.envC x id hn)
    envC := fun x id hn => wid id (h.envC x id hn)
    res := fun i r hr => by
      rcases inv i r hr with ⟨rfl, rfl⟩ | ⟨h1, rfl, rfl⟩ | ⟨h1, h2, h3⟩
      · refine ⟨by rw [ut]; exact hrd, .inl ⟨a, by rw [ut]; exact hv⟩⟩
      · refine ⟨arr, e, g1, by simpa using g2, fun k d v hd hv' => ?_, g4, g5⟩
        rw [List.getElem?_set] at hd
        split at hd
        · rename_i ek
          subst ek
          split at hd
          · cases hd
            have : v = upd tau t arr[off] t := by
              rw [ut]; simp [hlt] at hv'; exact hv'.symm
            rw [this]
            exact .own t
          · cases hd
        · exact (g3 k d v hd hv').agree (nt d fun id hn => h.resC i cells hb d (List.mem_of_getElem? hd) id hn)
      · exact (h.res i r h3).agree rfl (u i h1) fun cs hcs c hm => nt c fun id hn => h.resC i cs (by rw [← hcs]; exact h3) c hm id hn
    resC := fun i cs hcs c hm id hn => by
      rcases inv i _ hcs with ⟨_, h4⟩ | ⟨h1, rfl, h4⟩ | ⟨h1, h2, h3⟩
      · cases h4
      · cases h4
        rcases List.mem_or_eq_of_mem_set hm with hm | rfl
        · exact wid id (h.resC i cells hb c hm id hn)
        · have : t = id := by simpa [DV.names] using hn
          rw [← this]; exact widt
      · exact wid id (h.resC i cs h3 c hm id hn)
    base := fun i r hr ho => by
      obtain ⟨r0, h1, h2⟩ := ow i r hr ho
      exact h.base i r0 h1 h2
    dis := fun i j r r' hi hj oi oj hij => by
      obtain ⟨r0, h1, h2⟩ := ow i r hi oi
      obtain ⟨r1, h3, h4⟩ := ow j r' hj oj
      exact h.dis i j r0 r1 h1 h3 h2 h4 hij
    tauS := fun q => by
      by_cases e : q = t
      · rw [e, ut, hv]; exact ⟨_, _, _, rfl⟩
      · rw [u q e]; exact h.tauS q
    pin := fun id q hq => by
      obtain ⟨r, k1, k2, k3⟩ := h.pin id q hq
      have e1 : id ≠ t := fun e => by rw [e, ht] at k1; cases k1
      by_cases e2 : id = b
      · refine ⟨.box (cells.set off (.own t)), by simp only [St.mktok, if_neg e1, if_pos e2, hb]; rfl, ⟨k2.1, by rw [u id e1]; exact k2.2⟩, rfl⟩
      · exact ⟨r, by simp only [St.mktok, if_neg e1, if_neg e2]; exact k1, ⟨k2.1, by rw [u id e1]; exact k2.2⟩, k3⟩ }

end Go.DI

/- A value is handed to a loop; what is owned is lent to a function: what the data say, the machine does. No condition. -/
namespace Go.DI
open Go.RowKit

def Good (A : Fam) (N : Nat) (st : St) (a : Act) (w : World) : Prop :=
  a.tmps.size = N ∧ ∃ i Ds S rho tau, (a.defers = Ds.map markOf ∧ Ds.Nodup ∧ ∀ D ∈ Ds, ¬ (A.base i).O D) ∧ Core ((A.base i).mark Ds) st a.tmps w S rho tau

theorem opIn {P : Program} {A : Fam} {n : Nat} {o : Oper} {a : Act} {w : World} {next : Act → World → Prop} {Q : Exit → Act → World → Prop} (hd : ∀ c, o.op ≠ .defer c) (h : o.wp P a w next Q) :
    o.wpIn A.fence n P a w next Q := by
  refine ⟨fun _ _ => trivial, ?_⟩
  rw [Oper.semAt_eq _ _ _ hd]
  unfold Oper.wp at h
  generalize (execOp a.eval o).run P w = r at h
  cases r with
  | ok x w' =>
    cases x with
    | value v => exact h
    | skip => exact h
    | defer d => exact h
    | enter f args => exact ⟨fun k => (by cases k), (callsIn_wide (n := n - 1)).2 h⟩
    | row row args => exact ⟨fun k => (by cases k), fun c cs _ => let ⟨v, w', r, s⟩ := h c cs; ⟨v, w', r, stepsIn_wide.2 s⟩⟩
    | round l f tmps assign body => exact h.elim
    | _ => exact h.elim
  | halt x w' =>
    cases x <;> first | exact h | exact h.elim

theorem size_put (a : Act) (dst : Option Nat) (v : Value) : (a.put dst v).tmps.size = a.tmps.size := by cases dst <;> simp [Act.put]
theorem defers_put (a : Act) (dst : Option Nat) (v : Value) : (a.put dst v).defers = a.defers := by cases dst <;> rfl

theorem Core.overSeq {B B' : Base} {st : St} {tmps : Array Value} {w w' : World} {S S' : Nat → Nat → Prop} {rho : Nat → Nat} {tau : Nat → Value} {l0 : Nat} {t0 : Todo} (h : Core B st tmps w S rho tau) (_h0 : st.res 0 = some (.seq l0 t0)) (l : Nat) (t : Todo) (hx : Ext w S w' S') (hst : ∀ b o, S' b o → b < w'.heap.size)
    (hsz : w.heap.size ≤ w'.heap.size) (hown : ∀ id r, st.res id = some r → Owns tau id r → w'.heap[rho id]? = w.heap[rho id]? ∧ (∀ o, S' (rho id) o → S (rho id) o) ∧ ¬ B'.O (rho id))
    (hinv : B'.inv (some (l, t)) S' w') (hpin : B'.pins = B.pins) : Core B' (st.setRes 0 (.seq l t)) tmps w' S' rho tau := by
  have e : ∀ id r, (st.setRes 0 (.seq l t)).res id = some r → (id = 0 ∧ r = .seq l t) ∨ (id ≠ 0 ∧ st.res id = some r) := by
    intro id r hr
    simp only [St.setRes] at hr
    split at hr
    · rename_i hi; cases hr; exact .inl ⟨hi, rfl⟩
    · rename_i hi; exact .inr ⟨hi, hr⟩
  have wid : ∀ id, (st.res id).isSome = true → ((st.setRes 0 (.seq l t)).res id).isSome = true := by
    intro id hi
    simp only [St.setRes]
    split
    · rfl
    · exact hi
  exact {
    inv := by
      have : ghost (st.setRes 0 (.seq l t)).res = some (l, t) := by simp [ghost, St.setRes]
      rw [this]; exact hinv
    stab := hst
    env := fun x => (h.env x).mono hx
    envC := fun x id hn => wid id (h.envC x id hn)
    res := fun id r hr => by
      rcases e id r hr with ⟨_, rfl⟩ | ⟨_, hr⟩
      · trivial
      · exact (h.res id r hr).moved hx (fun ho => (hown id r hr ho).2.1) (fun ho => (hown id r hr ho).1)
    resC := fun id cells hc c hm id' hn => by
      rcases e id _ hc with ⟨_, k⟩ | ⟨_, hc⟩
      · cases k
      · exact wid id' (h.resC id cells hc c hm id' hn)
    base := fun id r hr ho => by
      rcases e id r hr with ⟨_, rfl⟩ | ⟨_, hr⟩
      · exact ho.elim
      · exact ⟨(hown id r hr ho).2.2, Nat.lt_of_lt_of_le (h.base id r hr ho).2 hsz⟩
    dis := fun i j r r' hi hj oi oj hij => by
      rcases e i r hi with ⟨_, rfl⟩ | ⟨_, hi⟩
      · exact oi.elim
      · rcases e j r' hj with ⟨_, rfl⟩ | ⟨_, hj⟩
        · exact oj.elim
        · exact h.dis i j r r' hi hj oi oj hij
    tauS := h.tauS
    pin := fun id b hp => by
      rw [hpin] at hp
      obtain ⟨r, h1, h2, h3⟩ := h.pin id b hp
      by_cases hi : id = 0
      · subst hi; exact ⟨.seq l t, by simp [St.setRes], h2, rfl⟩
      · exact ⟨r, by simpa [St.setRes, hi] using h1, h2, h3⟩ }

section
variable {P : Program} {A : Fam} {N n : Nat} {o : Oper} {a : Act} {w : World} {i : A.ι} {Ds : List Nat} {S : Nat → Nat → Prop} {rho : Nat → Nat} {tau : Nat → Value} {st : St} {K : St → Prop} {next : Act → World → Prop} {Q : Exit → Act → World → Prop}

theorem bview_rl {d : DV} {v : Value} (r : Rl w S rho tau d v) (rv : Rl w S rho tau (view st.res d) v) : Rl w S rho tau (bview st.res d) v := by
  unfold bview
  split
  · exact r
  · exact rv

theorem bview_args {B : Base} (h : Core B st a.tmps w S rho tau) {xs : List Operand} {ys : List Opd} (hx : opdsOk xs ys = true) :
    (xs.map a.eval).length = (ys.map fun y => bview st.res (st.ev y)).length ∧ ∀ (i : Nat) (d : DV) (v : Value), (ys.map fun y => bview st.res (st.ev y))[i]? = some d → (xs.map a.eval)[i]? = some v → Rl w S rho tau d v := by
  have ho := opdsOk_get hx
  refine ⟨by simp; omega, fun i d v hdi hv => ?_⟩
  simp only [List.getElem?_map, Option.map_eq_some_iff] at hdi hv
  obtain ⟨y, hy, e1⟩ := hdi
  obtain ⟨x, hxi, rfl⟩ := hv
  have := bview_rl (h.ev (defers := a.defers) (ho.2 i x y hxi hy)) (h.vw (defers := a.defers) (ho.2 i x y hxi hy))
  rw [e1] at this
  exact this

theorem view_args {B : Base} (h : Core B st a.tmps w S rho tau) {xs : List Operand} {ys : List Opd} (hx : opdsOk xs ys = true) :
    (xs.map a.eval).length = (ys.map fun y => view st.res (st.ev y)).length ∧ ∀ (i : Nat) (d : DV) (v : Value), (ys.map fun y => view st.res (st.ev y))[i]? = some d → (xs.map a.eval)[i]? = some v → Rl w S rho tau d v := by
  have ho := opdsOk_get hx
  refine ⟨by simp; omega, fun i d v hdi hv => ?_⟩
  simp only [List.getElem?_map, Option.map_eq_some_iff] at hdi hv
  obtain ⟨y, hy, e1⟩ := hdi
  obtain ⟨x, hxi, rfl⟩ := hv
  have := h.vw (defers := a.defers) (ho.2 i x y hxi hy)
  rw [e1] at this
  exact this

theorem callee_val {w : World} {d : DV} {v : Value} (h : Rl w S rho tau d v) {g : FuncId} {first cap : List DV} (hc : callee d = some (g, first, cap)) :
    ∃ vf vc : List Value, v = .func (.func g) vf.toArray vc.toArray ∧ vf.length = first.length ∧ vc.length = cap.length ∧
      (∀ (i : Nat) (x : DV) (v : Value), first[i]? = some x → vf[i]? = some v → Rl w S rho tau x v) ∧ (∀ (i : Nat) (x : DV) (v : Value), cap[i]? = some x → vc[i]? = some v → Rl w S rho tau x v) := by
  unfold callee at hc
  split at hc
  · cases hc
    cases h with
    | fn _ _ _ vf vc h1 h2 h3 h4 => exact ⟨vf, vc, rfl, h1, h2, h3, h4⟩
  · cases hc
    have h := h.imm_inv
    cases h with
    | func _ _ _ vf vc h1 h2 h3 h4 =>
      refine ⟨vf, vc, rfl, by simpa using h1, by simpa using h2, fun i x v hx hv => ?_, fun i x v hx hv => ?_⟩
      · simp only [List.getElem?_map, Option.map_eq_some_iff] at hx
        obtain ⟨y, hy, rfl⟩ := hx
        exact .imm _ _ (h3 i y v hy hv)
      · simp only [List.getElem?_map, Option.map_eq_some_iff] at hx
        obtain ⟨y, hy, rfl⟩ := hx
        exact .imm _ _ (h4 i y v hy hv)
  · cases hc

theorem yield_op (hY : A.Yields P) {f : Operand} {args : Array Operand} {ts : Array TypeId} (ho : o.op = .call ⟨.value f, args, ts⟩) {xs : List Opd} (hx : opdsOk (f :: args.toList) xs = true) (hsz : a.tmps.size = N)
    (hdf : a.defers = Ds.map markOf ∧ Ds.Nodup ∧ ∀ D ∈ Ds, ¬ (A.base i).O D) (hC : Core ((A.base i).mark Ds) st a.tmps w S rho tau) (hd : ∀ d, o.dst = some d → d < a.tmps.size)
    (hs : semW P o.dst .yield xs st K) (hn : ∀ st' a' w', K st' → Good A N st' a' w' → next a' w') : o.wpIn A.fence n P a w next Q := by
  match xs, hs with
  | yf :: ys, hs =>
    simp only [opdsOk, Bool.and_eq_true] at hx
    simp only [semW] at hs
    split at hs
    · rename_i l l' inf x rest hf h0
      obtain ⟨rfl, hys, hk1, hk2⟩ := hs
      have hv : a.eval f = .func (.yield l') #[] #[] := by
        have := hC.vw (defers := a.defers) hx.1
        rw [hf] at this
        generalize hq : (Act.mk a.tmps a.defers).eval f = v at this
        cases this; rfl
      obtain ⟨hl, hr⟩ := view_args hC hx.2
      rw [hys] at hl hr
      have hl' : (args.toList.map a.eval).length = x.length := by simpa using hl
      have hY' := hY (n - 1) l' inf x rest i S w (args.toList.map a.eval) (by
        have := hC.inv.1
        simpa [ghost, h0] using this) hC.stab hl' (fun k d v hd hv => (hr k (.imm d) v (by simp [hd]) hv).imm_inv)
      obtain ⟨fn, tmps, assign, body, hrun, hround⟩ := hY'
      refine ⟨fun _ _ => trivial, ?_⟩
      rw [Oper.semAt_eq _ _ _ (by simp [ho])]
      have hex : (execOp a.eval o).run P w = .ok (.round l' fn tmps assign body) w := by
        unfold execOp; rw [ho]
        have e : args.map a.eval = (args.toList.map a.eval).toArray := by apply Array.ext'; simp
        simp only [resolve, hv, Deferred.ofValue, invoke, Sem.run_bind, Sem.run_pure, Result.andThen_ok, e]
        simpa using hrun
      rw [hex, Oper.uponIn_round]
      refine ⟨fun k => (by cases k), ?_⟩
      refine RoundIn.mono (F := A.fence) hround ?_
      rintro e w' ⟨j, S', T, hc⟩
      have hlt : ∀ id r, st.res id = some r → Owns tau id r → w'.heap[rho id]? = w.heap[rho id]? ∧ (∀ q, S' (rho id) q → S (rho id) q) ∧ ¬ ((A.base j).mark Ds).O (rho id) := by
        intro id r hr ho
        have hb := hC.base id r hr ho
        have hO : ¬ (A.base i).O (rho id) := fun k => hb.1 (.inl k)
        have hT := T.block _ hb.2 hO
        exact ⟨hT.2, fun q hs => T.snew _ q hs hb.2 hO, fun k => k.elim hT.1 (fun k => hb.1 (.inr k))⟩
      have hD : ∀ D ∈ Ds, ¬ (A.base j).O D ∧ w'.heap[D]? = w.heap[D]? := fun D hD => T.block D (((A.base i).mark Ds).lt hC.inv D (.inr hD)) (hdf.2.2 D hD)
      have fin : ∀ (t : Todo) (b : Bool), (A.base j).inv (some (l', t)) S' w' → K ((st.setRes 0 (.seq l' t)).put o.dst (.imm (.bool b)) none) → next (a.put o.dst (.bool b)) w' := by
        intro t b hi hK
        have hC' : Core ((A.base j).mark Ds) (st.setRes 0 (.seq l' t)) a.tmps w' S' rho tau := hC.overSeq h0 l' t T.ext T.stab T.size hlt ⟨hi, fun D hD' => (hD D hD').2.trans (hC.inv.2 D hD')⟩ (by show (A.base j).pins = (A.base i).pins; rw [A.hpins, A.hpins])
        refine hn _ _ _ hK ⟨by rw [size_put]; exact hsz, j, Ds, S', rho, tau, ⟨by rw [defers_put]; exact hdf.1, hdf.2.1, fun D hD' => (hD D hD').1⟩, ?_⟩
        rw [put_tmps]
        exact hC'.put hd (.imm _ _ (.bool b)) (by simp [DV.names])
      rcases hc with ⟨rfl, h1, h2⟩ | ⟨rfl, h2⟩
      · exact fin _ true h2 (hk1 h1)
      · exact fin _ false h2 hk2
    · exact hs.elim

theorem callb_op (hY : A.Yields P) {f : Operand} {args : Array Operand} {ts : Array TypeId} (ho : o.op = .call ⟨.value f, args, ts⟩) {xs : List Opd} (hx : opdsOk (f :: args.toList) xs = true) (hsz : a.tmps.size = N)
    (hdf : a.defers = Ds.map markOf ∧ Ds.Nodup ∧ ∀ D ∈ Ds, ¬ (A.base i).O D) (hC : Core ((A.base i).mark Ds) st a.tmps w S rho tau) (hd : ∀ d, o.dst = some d → d < a.tmps.size) {ids : List Nat}
    (hs : semW P o.dst (.callb ids) xs st K) (hn : ∀ st' a' w', K st' → Good A N st' a' w' → next a' w') : o.wpIn A.fence n P a w next Q := by
  match xs, hs with
  | yf :: ys, hs =>
    simp only [opdsOk, Bool.and_eq_true] at hx
    simp only [semW] at hs
    split at hs
    · rename_i g first cap hf
      obtain ⟨Phi, hbc, hlend, h0, hk⟩ := hs
      have hl := lend_of hlend
      obtain ⟨⟨fn, c, hfn, hb, hname⟩, hbc⟩ := hbc
      obtain ⟨vf, vc, hv, hlf, hlc, hrf, hrc⟩ := callee_val (hC.vw (defers := a.defers) hx.1) hf
      have hv : a.eval f = .func (.func g) vf.toArray vc.toArray := hv
      obtain ⟨hla, hra⟩ := bview_args hC hx.2
      refine ⟨fun _ _ => trivial, ?_⟩
      rw [Oper.semAt_eq _ _ _ (by simp [ho])]
      have hex : (execOp a.eval o).run P w = .ok (.enter g ((vf ++ args.toList.map a.eval) ++ vc).toArray) w := by
        unfold execOp; rw [ho]
        have e : args.map a.eval = (args.toList.map a.eval).toArray := by apply Array.ext'; simp
        have hbn : fn.body.isNone = false := by rw [hb]; rfl
        simp only [resolve, hv, Deferred.ofValue, invoke, callFunc, Sem.run_bind, Sem.run_pure, Result.andThen_ok, run_program, hfn, hname, Bool.false_eq_true, if_false, hbn, e]
        simp
      rw [hex, Oper.uponIn_enter]
      refine ⟨fun k => (by cases k), (callsIn_wide (n := n - 1)).2 ?_⟩
      have hcall := hbc (A.frame (rest A i w st.res rho tau ids) w S none (fun _ h => by cases h) fun _ => none) i w S rho tau ((vf ++ args.toList.map a.eval) ++ vc) (Fam.frame_yields hY) rfl (hC.lend hl)
        (by simp at hla ⊢; omega) (by
          intro k d u hdk hu
          simp only [List.getElem?_append] at hdk hu
          simp only [List.length_append] at hdk hu
          rw [hlf, hla] at hu
          split at hdk
          · rename_i h1
            rw [if_pos h1] at hu
            split at hdk
            · rename_i h2
              rw [if_pos h2] at hu
              exact hrf k d u hdk hu
            · rename_i h2
              rw [if_neg h2] at hu
              exact hra _ d u hdk hu
          · rename_i h1
            rw [if_neg h1] at hu
            exact hrc _ d u hdk hu)
        (fun d hdm id hnm => by
          have := hl.args d hdm id hnm
          obtain ⟨r, hr, _⟩ := hl.has id this
          rw [restr_of this, hr]; rfl)
      refine hcall.mono ?_
      rintro e w' ⟨v, r, j, S', R', rho', tau', rfl, hrl, hnm, hphi, hC', hper⟩
      have hkk := hk r R' hphi (fun id cells hc c hm => fun id' hn' => hC'.resC id cells hc c hm id' hn') hnm
      obtain ⟨hback, hD, hext⟩ := hC.back hdf.2.2 hl h0 hC' hper hkk.1
      refine hn _ _ _ hkk.2 ⟨by rw [size_put]; exact hsz, j, Ds, S', (fun id => if (R' id).isSome then rho' id else rho id), (fun id => if (R' id).isSome then tau' id else tau id), ⟨by rw [defers_put]; exact hdf.1, hdf.2.1, hD⟩, ?_⟩
      rw [put_tmps]
      exact hback.put hd (hrl.agree fun id hid => by simp [hnm id hid]) (fun id hid => by
        have := hnm id hid
        show (withRes R' st.res id).isSome = true
        unfold withRes
        cases h2 : R' id with
        | none => rw [h2] at this; cases this
        | some _ => rfl)
    · exact hs.elim

end
end Go.DI

/- What the data say of a piece of code, the machine does; and of a function's body: its contract. No condition. -/
namespace Go.DI
open Go.RowKit

def guardOk (ops : Array Oper) : Option (Nat × Bool) → Option (Nat × Bool) → Bool
  | none, none => true
  | some (j, want), some (g, want') => want == want' && (ops[j]?).bind (·.dst) == some g
  | _, _ => false

def chkKindY (P : Program) (op : Op) (kind : Kind) (xs : List Opd) : Bool :=
  match kind with
  | .yield | .callb _ => (match op with | .call ⟨.value f, args, _⟩ => opdsOk (f :: args.toList) xs | _ => false)
  | k => chkKind P op k xs

theorem chkY {P : Program} {op : Op} {kind : Kind} {xs : List Opd} (h : chkKindY P op kind xs = true) : chkKind P op kind xs = true ∨ ((kind = .yield ∨ ∃ ids, kind = .callb ids) ∧ ∃ f args ts, op = .call ⟨.value f, args, ts⟩ ∧ opdsOk (f :: args.toList) xs = true) := by
  unfold chkKindY at h
  split at h
  · split at h
    · exact .inr ⟨.inl rfl, _, _, _, rfl, h⟩
    · cases h
  · split at h
    · exact .inr ⟨.inr ⟨_, rfl⟩, _, _, _, rfl, h⟩
    · cases h
  · exact .inl h

theorem zeroCleanY {P : Program} {op : Op} {kind : Kind} {xs : List Opd} (h : chkKindY P op kind xs = true) : zeroClean kind := by
  rcases chkY h with h | ⟨rfl | ⟨_, rfl⟩, _⟩
  · exact zeroClean_of h
  · trivial
  · trivial

def chkDO (P : Program) (N : Nat) (ops : Array Oper) (o : Oper) (q : DO) : Bool :=
  o.dst == q.dst && (match q.dst with | some d => decide (d < N) | none => true) && guardOk ops o.guard q.guard && chkKindY P o.op q.kind q.xs

def chkAll (P : Program) (N : Nat) (ops : Array Oper) : List Oper → List DO → Bool
  | [], [] => true
  | o :: os, q :: qs => chkDO P N ops o q && chkAll P N ops os qs
  | _, _ => false

theorem chkAll_get {P : Program} {N : Nat} {ops : Array Oper} : ∀ {os : List Oper} {qs : List DO}, chkAll P N ops os qs = true → os.length = qs.length ∧ ∀ (i : Nat) (o : Oper) (q : DO), os[i]? = some o → qs[i]? = some q → chkDO P N ops o q = true
  | [], [], _ => by simp
  | [], _ :: _, h => by simp [chkAll] at h
  | _ :: _, [], h => by simp [chkAll] at h
  | o :: os, q :: qs, h => by
    simp only [chkAll, Bool.and_eq_true] at h
    have ih := chkAll_get h.2
    refine ⟨by simp [ih.1], fun i o' q' ho hq => ?_⟩
    cases i with
    | zero => simp at ho hq; subst ho; subst hq; exact h.1
    | succ i => simp at ho hq; exact ih.2 i o' q' ho hq

theorem Core.unmark {B : Base} {D : Nat} {Ds : List Nat} {st : St} {tmps : Array Value} {w : World} {S : Nat → Nat → Prop} {rho : Nat → Nat} {tau : Nat → Value} (h : Core (B.mark (D :: Ds)) st tmps w S rho tau) (hn : D ∉ Ds) (ho : ¬ B.O D) :
    w.heap[D]? = some (.deferred (some [])) ∧ Core (B.mark Ds) st tmps (w.putObj D (.deferred none)) S rho tau := by
  have hD := h.inv.2 D (by simp)
  have hlt : D < w.heap.size := (Array.getElem?_eq_some_iff.1 hD).1
  have hother : ∀ k, k ≠ D → (w.putObj D (.deferred none)).heap[k]? = w.heap[k]? := fun k hk => World.putObj_heap_other hk
  have hsize : (w.putObj D (.deferred none)).heap.size = w.heap.size := by simp [World.putObj]
  have hx : Ext w S (w.putObj D (.deferred none)) S := ⟨fun _ _ k => k, fun b o _ => by
    by_cases e : b = D
    · subst e
      have h1 : (w.putObj b (.deferred none)).heap[b]? = some (.deferred none) := World.putObj_heap_same hlt
      simp only [World.cell?, h1, hD]
    · exact World.cell?_of_block (w := w) (hother b e)⟩
  refine ⟨hD, ?_⟩
  exact {
    inv := ⟨B.move h.inv.1 ⟨rfl, rfl, rfl, by rw [hsize]; exact Nat.le_refl _, fun k hk => hother k (fun e => ho (e ▸ hk)), hx, fun _ _ k => .inl k, fun q b o k => by rw [hsize]; exact q b o k⟩,
      fun D' hD' => (hother D' (fun e => hn (e ▸ hD'))).trans (h.inv.2 D' (by simp [hD']))⟩
    stab := fun b o k => by rw [hsize]; exact h.stab b o k
    env := fun x => (h.env x).mono hx
    envC := h.envC
    res := fun id r hr => (h.res id r hr).moved hx (fun _ _ k => k) fun how => hother _ (fun e => (h.base id r hr how).1 (.inr (by rw [e]; simp)))
    resC := h.resC
    base := fun id r hr how => ⟨fun hk => (h.base id r hr how).1 (hk.imp_right fun k => by simp [k]), by rw [hsize]; exact (h.base id r hr how).2⟩
    dis := h.dis
    tauS := h.tauS
    pin := h.pin }

theorem chkKind_defer {P : Program} {o : Op} {q : Kind} {xs : List Opd} (h : chkKind P o q xs = true) : ∀ c, o ≠ .defer c := by
  rintro c rfl
  cases q <;> simp [chkKind] at h
  rename_i p
  cases p <;> simp [pxIs] at h

section
variable {P : Program} {B : Base} {A : Fam} {N n : Nat}

theorem ops_sound (hY : A.Yields P) {ops : Array Oper} {qs : List DO} (hall : chkAll P N ops ops.toList qs = true) {Q : Exit → Act → World → Prop} : ∀ (l : List Nat), (∀ i ∈ l, i < ops.size) → ∀ {st : St} {a : Act} {w : World} {K : St → Prop}, Good A N st a w →
    wpR P (qOf qs l) st K → (∀ st' a' w', K st' → Good A N st' a' w' → Q .normal a' w') → wpOpsIn A.fence n P ops Q l a w
  | [], _, st, a, w, K, hg, hs, hK => hK st a w hs hg
  | i :: l, hl, st, a, w, K, hg, hs, hK => by
    obtain ⟨hsz, bi, Ds, S, rho, tau, hdf, hC⟩ := hg
    have hi := hl i (by simp)
    have hlen := (chkAll_get hall).1
    rw [Array.length_toList] at hlen
    have ho : ops[i]? = some ops[i] := by simp [hi]
    have hq : qs[i]? = some (qs[i]'(by omega)) := by simp
    have hchk := (chkAll_get hall).2 i ops[i] _ (by simp [hi]) hq
    have hqd : qs.getD i default = qs[i]'(by omega) := by rw [List.getD_eq_getElem?_getD, hq]; rfl
    simp only [qOf, List.map_cons, wpR, hqd] at hs
    generalize hqq : qs[i]'(by omega) = q at hs hchk
    generalize hoo : ops[i] = o at ho hchk
    unfold chkDO at hchk
    simp only [Bool.and_eq_true, beq_iff_eq] at hchk
    obtain ⟨⟨⟨hdst, hdN⟩, hgd⟩, hk⟩ := hchk
    have hd : ∀ d, o.dst = some d → d < a.tmps.size := by
      intro d hd
      rw [← hdst, hd] at hdN
      have hdN : d < N := by simpa using hdN
      rw [hsz]; exact hdN
    have next : ∀ st' a' w', wpR P (qOf qs l) st' K → Good A N st' a' w' → wpOpsIn A.fence n P ops Q l a' w' := fun st' a' w' h1 h2 => ops_sound hY hall l (fun j hj => hl j (by simp [hj])) h2 h1 hK
    have run : wpDO P q st (fun s => wpR P (qOf qs l) s K) → o.wpIn A.fence n P a w (wpOpsIn A.fence n P ops Q l) Q := by
      intro h
      rcases chkY hk with hk | ⟨hky, f, args, ts, ho, hox⟩
      rotate_left
      · have hnx : ∀ st' a' w', wpR P (qOf qs l) st' K → Good A N st' a' w' → wpOpsIn A.fence n P ops Q l a' w' := next
        unfold wpDO at h
        rw [← hdst] at h
        rcases hky with e | ⟨ids, e⟩
        · rw [e] at h
          exact yield_op hY ho hox hsz hdf hC hd h hnx
        · rw [e] at h
          exact callb_op hY ho hox hsz hdf hC hd h hnx
      refine opIn (chkKind_defer hk) ?_
      obtain ⟨st', h1, h2⟩ := wpDO_sound hC hdst hk hd h
      refine h2 _ _ fun v w' S' rho' tau' hC' => next st' _ w' h1 ⟨by rw [size_put]; exact hsz, bi, Ds, S', rho', tau', by rw [defers_put]; exact hdf, hC'⟩
    have skip : wpR P (qOf qs l) (st.put q.dst skipV none) K → wpOpsIn A.fence n P ops Q l (a.put o.dst undef) w := by
      intro h
      refine next _ _ w h ⟨by rw [size_put]; exact hsz, bi, Ds, S, rho, tau, by rw [defers_put]; exact hdf, ?_⟩
      rw [put_tmps, ← hdst]
      exact hC.put hd (.imm _ _ (.tup [] [] rfl (by simp))) (by simp [skipV, DV.names])
    simp only [wpOpsIn, ho]
    unfold wpG at hs
    cases hqg : q.guard with
    | none =>
      rw [hqg] at hgd
      cases hog : o.guard with
      | some _ => rw [hog] at hgd; simp [guardOk] at hgd
      | none =>
        rw [if_pos (by simp [Region.wanted, hog])]
        simp only [hqg] at hs
        exact run hs
    | some gw =>
      obtain ⟨g, want⟩ := gw
      rw [hqg] at hgd
      cases hog : o.guard with
      | none => rw [hog] at hgd; simp [guardOk] at hgd
      | some jw =>
        obtain ⟨j, want'⟩ := jw
        rw [hog] at hgd
        simp only [guardOk, Bool.and_eq_true, beq_iff_eq] at hgd
        obtain ⟨rfl, hj⟩ := hgd
        simp only [hqg] at hs
        split at hs
        · rename_i b hb
          have hy : yielded ops a.tmps j = b := by
            have hr := hC.env g
            unfold yielded
            rw [hj]
            simp only [Option.bind_some]
            unfold gval at hb
            split at hb
            · rename_i b' hb'
              cases hb
              rw [hb'] at hr
              have hv : a.tmps.getD g undef = .bool b' := hr.imm_inv.bool_inv
              have : a.tmps[g]? = some (.bool b') := by
                simp only [Array.getD_eq_getD_getElem?] at hv
                cases hx : a.tmps[g]? with
                | none => rw [hx] at hv; simp [undef] at hv
                | some x => rw [hx] at hv; simp at hv; rw [hv]
              rw [this]
            · rename_i hb'
              cases hb
              rw [hb'] at hr
              have hr := hr.imm_inv
              cases hx : a.tmps[g]? with
              | none => rfl
              | some x =>
                have hv : a.tmps.getD g undef = x := by simp [Array.getD_eq_getD_getElem?, hx]
                rw [hv] at hr
                cases hr with
                | tup cs vs hl hr => rfl
            · cases hb
          have hw : Region.wanted o (yielded ops a.tmps) = (b == some want') := by
            simp only [Region.wanted, hog, hy]
            try rfl
          rw [hw]
          by_cases hbw : b = some want'
          · rw [if_pos (by simp [hbw])]
            exact run (hs.1 hbw)
          · rw [if_neg (by simp [hbw])]
            exact ⟨fun _ _ => trivial, skip (hs.2 hbw)⟩
        · exact hs.elim

def whereIs (qs : List DO) (o : Oper) : Nat := qs.findIdx fun q => q.dst == o.dst
def textOrder (ops : Array Oper) (qs : List DO) : List DO := ops.toList.map fun o => qs.getD (whereIs qs o) default
def permOf (ops : Array Oper) (qs : List DO) : List Nat := qs.map fun q => ops.toList.findIdx fun o => q.dst == o.dst
def permOk (ops : Array Oper) (qs : List DO) : Bool :=
  qs.length == ops.size && (List.range ops.size).all (fun i => (permOf ops qs).contains i) &&
  (List.range ops.size).all (fun j => match ops[(permOf ops qs).getD j 0]? with | some o => whereIs qs o == j | none => false)

def chkRegion (P : Program) (N : Nat) (ops : Array Oper) (draw : Bool) (qs : List DO) : Bool :=
  (chkAll P N ops ops.toList qs && (!draw || (edgesOk ops.size ops.toList qs 0 && pairsOk qs && topoOk .any ops && topoOk .text ops && topoOk .gc ops))) ||
  (draw && permOk ops qs && chkAll P N ops ops.toList (textOrder ops qs) && edgesOk ops.size ops.toList (textOrder ops qs) 0 && pairsP (textOrder ops qs) (permOf ops qs) && topoOk .any ops && topoOk .text ops && topoOk .gc ops)

theorem permOk_get {ops : Array Oper} {qs : List DO} (h : permOk ops qs = true) : (permOf ops qs).Nodup ∧ (∀ i, i ∈ permOf ops qs ↔ i < ops.size) ∧ qOf (textOrder ops qs) (permOf ops qs) = qs ∧ (permOf ops qs).length = ops.size := by
  unfold permOk at h
  simp only [Bool.and_eq_true, beq_iff_eq, List.all_eq_true, List.mem_range, List.contains_iff_mem] at h
  obtain ⟨⟨hl, h1⟩, h2⟩ := h
  have hlen : (permOf ops qs).length = ops.size := by simp [permOf, hl]
  have key : ∀ j (hj : j < (permOf ops qs).length), ∃ o, ops[(permOf ops qs)[j]]? = some o ∧ whereIs qs o = j := by
    intro j hj
    have hk := h2 j (by omega)
    have hgd : (permOf ops qs).getD j 0 = (permOf ops qs)[j] := by simp [List.getD, hj]
    rw [hgd] at hk
    split at hk
    · rename_i o ho
      exact ⟨o, ho, by simpa using hk⟩
    · cases hk
  refine ⟨?_, fun i => ⟨fun hi => ?_, fun hi => h1 i hi⟩, ?_, hlen⟩
  · rw [List.Nodup, List.pairwise_iff_getElem]
    intro i j hi hj hij he
    obtain ⟨o, e1, e2⟩ := key i hi
    obtain ⟨o', e3, e4⟩ := key j hj
    rw [he, e3] at e1
    cases e1
    omega
  · obtain ⟨j, hj, rfl⟩ := List.getElem_of_mem hi
    obtain ⟨o, e1, e2⟩ := key j hj
    exact (Array.getElem?_eq_some_iff.1 e1).1
  · apply List.ext_getElem?
    intro j
    by_cases hj : j < ops.size
    · obtain ⟨o, e1, e2⟩ := key j (by omega)
      have hpj : (permOf ops qs)[j]? = some ((permOf ops qs)[j]'(by omega)) := by simp
      simp only [qOf, List.getElem?_map, hpj, Option.map_some]
      have hT : (textOrder ops qs)[(permOf ops qs)[j]'(by omega)]? = some (qs.getD (whereIs qs o) default) := by
        simp only [textOrder, List.getElem?_map]
        rw [Array.getElem?_toList, e1]
        rfl
      rw [List.getD_eq_getElem?_getD, hT, e2]
      simp [List.getD, show j < qs.length by omega]
    · simp [qOf, permOf, show ¬ j < qs.length by omega]

theorem qOf_range {qs : List DO} {n : Nat} (h : n = qs.length) : qOf qs (List.range n) = qs := by
  subst h
  apply List.ext_getElem?
  intro i
  simp only [qOf, List.getElem?_map]
  by_cases hi : i < qs.length
  · simp [hi]
  · simp [hi]

theorem region_sound (hY : A.Yields P) {id : Nat} {ops : Array Oper} {draw : Bool} {qs : List DO} (hc : chkRegion P N ops draw qs = true) {st : St} {a : Act} {w : World} {K : St → Prop} {Q : Exit → Act → World → Prop} (hg : Good A N st a w)
    (hs : wpR P qs st K) (hK : ∀ st' a' w', K st' → Good A N st' a' w' → Q .normal a' w') : (Code.region id ops draw).wpIn A.fence n P Q a w := by
  obtain ⟨qt, pi, hall, hdraw, hpi, hpm, hqs, hid, hpl⟩ : ∃ (qt : List DO) (pi : List Nat), chkAll P N ops ops.toList qt = true ∧ (draw = false ∨ (((edgesOk ops.size ops.toList qt 0 = true ∧ pairsP qt pi = true) ∧ topoOk .any ops = true) ∧ topoOk .text ops = true) ∧ topoOk .gc ops = true) ∧
      pi.Nodup ∧ (∀ i, i ∈ pi ↔ i < ops.size) ∧ qOf qt pi = qs ∧ (draw = false → qt = qs) ∧ pi.length ≤ ops.size := by
    unfold chkRegion at hc
    rw [Bool.or_eq_true] at hc
    rcases hc with hc | hc
    · simp only [Bool.and_eq_true, Bool.or_eq_true, Bool.not_eq_true'] at hc
      obtain ⟨hall, hdraw⟩ := hc
      have hlen := (chkAll_get hall).1
      rw [Array.length_toList] at hlen
      refine ⟨qs, List.range ops.size, hall, hdraw.imp_right fun h => ⟨⟨⟨⟨h.1.1.1.1, by rw [hlen]; exact pairsP_of h.1.1.1.2⟩, h.1.1.2⟩, h.1.2⟩, h.2⟩, List.nodup_range, fun i => List.mem_range, qOf_range hlen, fun _ => rfl, by simp⟩
    · simp only [Bool.and_eq_true] at hc
      obtain ⟨⟨⟨⟨⟨⟨⟨hd, hperm⟩, hall⟩, he⟩, hpp⟩, t1⟩, t2⟩, t3⟩ := hc
      obtain ⟨p1, p2, p3, p4⟩ := permOk_get hperm
      exact ⟨textOrder ops qs, permOf ops qs, hall, .inr ⟨⟨⟨⟨he, hpp⟩, t1⟩, t2⟩, t3⟩, p1, p2, p3, fun e => (by rw [e] at hd; cases hd), by omega⟩
  have hlen := (chkAll_get hall).1
  rw [Array.length_toList] at hlen
  cases draw with
  | false =>
    refine wpIn_region (ops_sound hY hall (List.range ops.size) (fun i hi => List.mem_range.1 hi) hg ?_ hK)
    rw [qOf_range hlen, hid rfl]
    exact hs
  | true =>
    have hdraw := hdraw.resolve_left (by simp)
    obtain ⟨⟨⟨⟨hed, hpairs⟩, t1⟩, t2⟩, t3⟩ := hdraw
    refine wpIn_region_draw fun t => ?_
    have hgd : Good A N st a { w with drawn := w.drawn + 1 } := by
      obtain ⟨h1, bi, Ds, S, rho, tau, h2, hC⟩ := hg
      refine ⟨h1, bi, Ds, S, rho, tau, h2, ?_⟩
      exact hC.step (w' := w.drew) ((Below.refl _ w).drew) (fun _ _ k => k) (fun _ _ k => .inl k) hC.stab
    have hz : ∀ q ∈ qt, zeroClean q.kind := by
      intro q hq
      obtain ⟨i, hi⟩ := List.getElem?_of_mem hq
      have hlt : i < ops.size := by have := (List.getElem?_eq_some_iff.1 hi).1; omega
      have := (chkAll_get hall).2 i ops[i] q (by simp [hlt]) hi
      unfold chkDO at this
      simp only [Bool.and_eq_true] at this
      exact zeroCleanY this.2
    have ord := fun (m : Region.Mode) (ht : topoOk m ops = true) (t : Nat) => order_sound (P := P) hed hpairs hpi hpm hz m ht ops.size t (Array.replicate ops.size false) [] (by simp) (by
      intro j q hq hj
      have hlt : j < ops.size := by have := (List.getElem?_eq_some_iff.1 hq).1; omega
      simp [Array.getD, hlt] at hj) (by
      exact Nat.le_trans (List.length_filter_le _ _) hpl)
    have hsch : ∃ sg, Region.schedule (P.follows .mixedOrders) ops t = sg ∧ (∀ i ∈ sg, i < ops.size) ∧
        ∀ (st : St) (K : St → Prop), Closed st → wpR P (qOf qt (pi.filter fun i => !(Array.replicate ops.size false).getD i true)) st K → wpR P (qOf qt sg) st K := by
      unfold Region.schedule
      split
      · obtain ⟨sg, e1, e2, e3⟩ := ord .any t1 t
        exact ⟨sg, by unfold Region.linearise; rw [e1]; simp, e2, e3⟩
      · obtain ⟨sg, e1, e2, e3⟩ := ord (if t % 2 == 0 then .text else .gc) (by split <;> assumption) (t / 2)
        exact ⟨sg, by unfold Region.linearise; rw [e1]; simp, e2, e3⟩
    obtain ⟨sg, hsched, e2, e3⟩ := hsch
    rw [hsched]
    refine ops_sound hY hall sg e2 hgd ?_ hK
    obtain ⟨_, bi, Ds, S, rho, tau, _, hC⟩ := hg
    refine e3 st K hC.closed ?_
    have : (pi.filter fun i => !(Array.replicate ops.size false).getD i true) = pi := by
      rw [List.filter_eq_self]
      intro i hi
      have := (hpm i).1 hi
      simp [Array.getD, this]
    rw [this, hqs]
    exact hs

theorem Rl.keep {w S rho tau} (ids : List Nat) {d v} (r : Rl w S rho tau d v) : Rl w S rho tau (d.keep ids) v := by
  unfold DV.keep
  split
  · exact r
  · exact .undef v

theorem keep_nm {ids : List Nat} {d : DV} {id : Nat} (h : (d.keep ids).names id = true) : d.names id = true ∧ id ∈ ids := by
  unfold DV.keep at h
  split at h
  · rename_i hk; exact ⟨h, keep_names hk h⟩
  · simp [DV.names] at h

theorem Core.keep {st : St} {tmps : Array Value} {w : World} {S : Nat → Nat → Prop} {rho : Nat → Nat} {tau : Nat → Value} (h : Core B st tmps w S rho tau) (live ids : List Nat) (hp : ∀ id b, B.pins id = some b → id ∈ ids) : Core B (st.keep live ids) tmps w S rho tau := by
  have inv : ∀ id r, (st.keep live ids).res id = some r → ids.contains id = true ∧ ∃ r0, st.res id = some r0 ∧ r = r0.keep ids := by
    intro id r hr
    simp only [St.keep] at hr
    split at hr
    · rename_i hc
      cases h0 : st.res id with
      | none => rw [h0] at hr; simp at hr
      | some r0 => rw [h0] at hr; simp at hr; exact ⟨hc, r0, rfl, hr.symm⟩
    · simp at hr
  have wid : ∀ id, id ∈ ids → (st.res id).isSome = true → ((st.keep live ids).res id).isSome = true := by
    intro id hid hs
    simp only [St.keep]
    rw [if_pos (by simpa using hid)]
    simpa using hs
  have ow : ∀ id r0, Owns tau id (Res.keep ids r0) → Owns tau id r0 := by
    intro id r0 ho
    cases r0 <;> exact ho
  refine {
    inv := by
      have e : ghost (st.keep live ids).res = ghost st.res ∨ ghost (st.keep live ids).res = none := by
        unfold ghost
        simp only [St.keep]
        by_cases hc : ids.contains 0 = true
        · left
          rw [if_pos hc]
          cases st.res 0 with
          | none => rfl
          | some r => cases r <;> rfl
        · right
          rw [if_neg hc]
      rcases e with e | e <;> rw [e]
      · exact h.inv
      · exact B.lose h.inv
    stab := h.stab
    pin := fun id b hpb => by
      obtain ⟨r, h1, h2, h3⟩ := h.pin id b hpb
      refine ⟨r.keep ids, by simp [St.keep, h1, hp id b hpb], h2, ?_⟩
      cases r <;> first | rfl | exact h3
    env := fun x => by
      simp only [St.keep]
      split
      · exact (h.env x).keep ids
      · exact .undef _
    envC := fun x id hn => by
      simp only [St.keep] at hn
      split at hn
      · have := keep_nm hn
        exact wid id this.2 (h.envC x id this.1)
      · simp [DV.names] at hn
    res := fun id r hr => ?_
    resC := fun id cells hr c hc id' hn => ?_
    base := fun id r hr ho => ?_
    dis := fun i j r1 r2 h1 h2 o1 o2 hij => ?_
    tauS := h.tauS }
  · obtain ⟨_, r0, h0, rfl⟩ := inv id r hr
    have hold := h.res id r0 h0
    cases r0 with
    | box cells =>
      obtain ⟨arr, e, g1, g2, g3, g4, g5⟩ := hold
      refine ⟨arr, e, g1, by simpa using g2, fun i d v hd hv => ?_, g4, g5⟩
      simp only [List.getElem?_map, Option.map_eq_some_iff] at hd
      obtain ⟨d0, hd0, rfl⟩ := hd
      exact (g3 i d0 v hd0 hv).keep ids
    | arr es => exact hold
    | fza es => exact hold
    | tok sz es => exact hold
    | seq l t => trivial
  · obtain ⟨_, r0, h0, he⟩ := inv id _ hr
    cases r0 <;> simp only [Res.keep] at he <;> try cases he
    simp only [List.mem_map] at hc
    obtain ⟨c0, hc0, rfl⟩ := hc
    have := keep_nm hn
    exact wid id' this.2 (h.resC id _ h0 c0 hc0 id' this.1)
  · obtain ⟨_, r0, h0, rfl⟩ := inv id r hr
    exact h.base id r0 h0 (ow id r0 ho)
  · obtain ⟨_, r3, h3, rfl⟩ := inv i r1 h1
    obtain ⟨_, r4, h4, rfl⟩ := inv j r2 h2
    exact h.dis i j r3 r4 h3 h4 (ow i r3 o1) (ow j r4 o2) hij

def Res.frs : Res → Option (List IV)
  | .arr es => some es
  | .box cs => match allImm cs with
    | some es => if es.all (fun v => !v.isAgg && !v.isTup) then some es else none
    | none => none
  | _ => none

theorem frz_frs {r : Res} {es : List IV} (h : r.frs = some es) : r.frz = .fza es := by
  cases r <;> simp only [Res.frs, Res.frz] at h ⊢
  · rename_i cs
    cases ha : allImm cs with
    | none => simp [ha] at h
    | some vs =>
      simp only [ha] at h ⊢
      split at h
      · rename_i hc; cases h; rw [if_pos hc]
      · cases h
  · cases h; rfl
  · cases h
  · cases h
  · cases h
theorem frz_none {r : Res} (h : r.frs = none) : r.frz = r := by
  cases r <;> simp only [Res.frs, Res.frz] at h ⊢
  · rename_i cs
    cases ha : allImm cs with
    | none => rfl
    | some vs =>
      simp only [ha] at h ⊢
      split at h
      · cases h
      · rename_i hc; rw [if_neg hc]
  · cases h
theorem frs_owns {tau : Nat → Value} {id : Nat} {r : Res} {es : List IV} (h : r.frs = some es) : Owns tau id r := by
  cases r with
  | box _ => simp [Owns]
  | arr _ => simp [Owns]
  | fza _ => simp [Res.frs] at h
  | tok _ _ => simp [Res.frs] at h
  | seq _ _ => simp [Res.frs] at h
theorem owns_frz {tau : Nat → Value} {id : Nat} {r : Res} (h : Owns tau id r.frz) : Owns tau id r ∧ r.frs = none := by
  cases hf : r.frs with
  | none => rw [frz_none hf] at h; exact ⟨h, rfl⟩
  | some es => rw [frz_frs hf] at h; simp [Owns] at h

theorem Core.frz {st : St} {tmps : Array Value} {w : World} {S : Nat → Nat → Prop} {rho : Nat → Nat} {tau : Nat → Value} (h : Core B st tmps w S rho tau) (ids : List Nat) :
    Core B (st.frz ids) tmps w (fun b o => S b o ∨ ∃ id r es, ids.contains id = true ∧ st.res id = some r ∧ r.frs = some es ∧ b = rho id ∧ o < es.length) rho tau := by
  have hx : Ext w S w (fun b o => S b o ∨ ∃ id r es, ids.contains id = true ∧ st.res id = some r ∧ r.frs = some es ∧ b = rho id ∧ o < es.length) := ⟨fun _ _ k => .inl k, fun _ _ _ => rfl⟩
  have inv : ∀ id r, (st.frz ids).res id = some r → (ids.contains id = true ∧ ∃ r0, st.res id = some r0 ∧ r = r0.frz) ∨ (¬ ids.contains id = true ∧ st.res id = some r) := by
    intro id r hr
    simp only [St.frz] at hr
    split at hr
    · rename_i hc
      cases h0 : st.res id with
      | none => rw [h0] at hr; simp at hr
      | some r0 => rw [h0] at hr; simp at hr; exact .inl ⟨hc, r0, rfl, hr.symm⟩
    · rename_i hc; exact .inr ⟨hc, hr⟩
  have wid : ∀ id, (st.res id).isSome = true → ((st.frz ids).res id).isSome = true := by
    intro id hs
    simp only [St.frz]
    split
    · simpa using hs
    · exact hs

  have apart : ∀ id r, st.res id = some r → Owns tau id r → ¬ (ids.contains id = true ∧ ∃ es, r.frs = some es) → ∀ o, ¬ ∃ i r' es, ids.contains i = true ∧ st.res i = some r' ∧ r'.frs = some es ∧ rho id = rho i ∧ o < es.length := by
    intro id r hr ho hn o ⟨i, r', es, h1, h2, hf, h3, _⟩
    by_cases hi : id = i
    · subst hi
      rw [h2] at hr; cases hr
      exact hn ⟨h1, es, hf⟩
    · exact h.dis id i r r' hr h2 ho (frs_owns hf) hi h3
  have plain : ∀ id r, st.res id = some r → ¬ (ids.contains id = true ∧ ∃ es, r.frs = some es) → RdRes w (fun b o => S b o ∨ ∃ id r es, ids.contains id = true ∧ st.res id = some r ∧ r.frs = some es ∧ b = rho id ∧ o < es.length) rho tau id r := by
    intro id r hr hn
    have hold := h.res id r hr
    have ap := fun ho => apart id r hr ho hn
    cases r with
    | box cells =>
      obtain ⟨arr, e, g1, g2, g3, g4, g5⟩ := hold
      refine ⟨arr, e, g1, g2, fun i d v hd hv => (g3 i d v hd hv).mono hx, g4, fun o k => ?_⟩
      rcases k with k | k
      · exact g5 o k
      · exact ap (by simp [Owns]) o k
    | arr es =>
      obtain ⟨arr, e, g1, g2, g3, g4, g5⟩ := hold
      refine ⟨arr, e, g1, g2, fun i d v hd hv => ⟨(g3 i d v hd hv).1, (g3 i d v hd hv).2.1, (g3 i d v hd hv).2.2.mono hx⟩, g4, fun o k => ?_⟩
      rcases k with k | k
      · exact g5 o k
      · exact ap (by simp [Owns]) o k
    | fza es =>
      intro i d hd
      obtain ⟨h1, h2, v, h3, h4, h5⟩ := hold i d hd
      exact ⟨h1, .inl h2, v, h3, h4, h5.mono hx⟩
    | tok sz es =>
      obtain ⟨h1, h2⟩ := hold
      refine ⟨h1.mono hx, ?_⟩
      rcases h2 with h2 | ⟨arr, e, cap, g1, g2, g3, g4, g5⟩
      · exact .inl h2
      · refine .inr ⟨arr, e, cap, g1, g2, g3, g4, fun o ho k => ?_⟩
        rcases k with k | k
        · exact g5 o ho k
        · exact ap ⟨_, _, _, g2, g4⟩ o k
    | seq l t => trivial

  have cold : ∀ id r es, ids.contains id = true → st.res id = some r → r.frs = some es → RdRes w (fun b o => S b o ∨ ∃ id r es, ids.contains id = true ∧ st.res id = some r ∧ r.frs = some es ∧ b = rho id ∧ o < es.length) rho tau id (.fza es) := by
    intro id r es hc h0 hf
    have hold := h.res id r h0
    cases r with
    | arr es' =>
      simp only [Res.frs, Option.some.injEq] at hf
      subst hf
      obtain ⟨arr, e, g1, g2, g3, g4, g5⟩ := hold
      intro i d hd
      have hi : i < es'.length := (List.getElem?_eq_some_iff.1 hd).1
      have hi' : i < arr.size := by omega
      have := g3 i d arr[i] hd (by simp [hi'])
      refine ⟨this.2.1, .inr ⟨id, _, es', hc, h0, rfl, rfl, hi⟩, arr[i], ?_, g4 i _ (by simp [hi']), this.2.2.mono hx⟩
      rw [cell_of_row w (rho id) i arr e (0, 0) g1]
      simp [hi']
    | box cells =>
      obtain ⟨arr, e, g1, g2, g3, g4, g5⟩ := hold
      have hf0 := hf
      simp only [Res.frs] at hf
      cases ha : allImm cells with
      | none => rw [ha] at hf; simp at hf
      | some vs =>
        rw [ha] at hf
        simp only at hf
        split at hf
        · rename_i hall
          cases hf
          have hg := allImm_get ha
          intro i d hd
          have hi : i < es.length := (List.getElem?_eq_some_iff.1 hd).1
          have hi' : i < arr.size := by omega
          have hr := g3 i (.imm d) arr[i] (hg.2 i d hd) (by simp [hi'])
          have hda := List.all_eq_true.1 hall d (List.mem_of_getElem? hd)
          refine ⟨by cases d <;> simp_all [IV.cells, IV.isAgg], .inr ⟨id, _, es, hc, h0, hf0, rfl, hi⟩, arr[i], ?_, g4 i _ (by simp [hi']), hr.imm_inv.mono hx⟩
          rw [cell_of_row w (rho id) i arr e (0, 0) g1]
          simp [hi']
        · cases hf
    | fza es' => simp [Res.frs] at hf
    | tok sz es' => simp [Res.frs] at hf
    | seq l t => simp [Res.frs] at hf
  refine {
    inv := by
      have e : ghost (st.frz ids).res = ghost st.res := by
        unfold ghost
        cases h0 : (st.frz ids).res 0 with
        | none =>
          cases h1 : st.res 0 with
          | none => rfl
          | some r =>
            have := wid 0 (by rw [h1]; rfl)
            rw [h0] at this; cases this
        | some r =>
          rcases inv 0 r h0 with ⟨_, r0, h1, rfl⟩ | ⟨_, h1⟩
          · rw [h1]
            cases hf : r0.frs with
            | some es =>
              rw [frz_frs hf]
              cases r0 <;> first | rfl | (simp [Res.frs] at hf)
            | none => rw [frz_none hf]
          · rw [h1]
      rw [e]
      refine B.move h.inv ⟨rfl, rfl, rfl, Nat.le_refl _, fun _ _ => rfl, hx, fun b o k => ?_, fun q b o k => ?_⟩
      rotate_left
      · rcases k with k | ⟨id, r, es, h1, h2, hf, rfl, h4⟩
        · exact q b o k
        · exact (h.base id _ h2 (frs_owns hf)).2
      rcases k with k | ⟨id, r, es, h1, h2, hf, rfl, h4⟩
      · exact .inl k
      · exact .inr (h.base id _ h2 (frs_owns hf)).1
    stab := fun b o k => ?_
    pin := fun id b hpb => by
      obtain ⟨r, h1, h2, h3⟩ := h.pin id b hpb
      cases h0 : (st.frz ids).res id with
      | none =>
        have := wid id (by rw [h1]; rfl)
        rw [h0] at this; cases this
      | some r' =>
        refine ⟨r', rfl, h2, ?_⟩
        rcases inv id r' h0 with ⟨_, r0, h5, rfl⟩ | ⟨_, h5⟩
        · rw [h1] at h5; cases h5
          cases hf : r.frs with
          | some es => rw [frz_frs hf]; rfl
          | none => rw [frz_none hf]; exact h3
        · rw [h1] at h5; cases h5; exact h3
    env := fun x => (h.env x).mono hx
    envC := fun x id hn => wid id (h.envC x id hn)
    res := fun id r hr => ?_
    resC := fun id cells hr c hc id' hn => ?_
    base := fun id r hr ho => ?_
    dis := fun i j r1 r2 h1 h2 o1 o2 hij => ?_
    tauS := h.tauS }
  · rcases k with k | ⟨id, r, es, h1, h2, hf, rfl, h4⟩
    · exact h.stab b o k
    · exact (h.base id _ h2 (frs_owns hf)).2
  · rcases inv id r hr with ⟨hc, r0, h0, rfl⟩ | ⟨hc, h0⟩
    · cases hf : r0.frs with
      | some es => rw [frz_frs hf]; exact cold id r0 es hc h0 hf
      | none => rw [frz_none hf]; exact plain id r0 h0 (fun k => by obtain ⟨_, es, he⟩ := k; rw [hf] at he; cases he)
    · exact plain id r h0 (fun k => hc k.1)
  · rcases inv id _ hr with ⟨hc', r0, h0, he⟩ | ⟨_, h0⟩
    · cases hf : r0.frs with
      | some es => rw [frz_frs hf] at he; cases he
      | none => rw [frz_none hf] at he; subst he; exact wid id' (h.resC id _ h0 c hc id' hn)
    · exact wid id' (h.resC id _ h0 c hc id' hn)
  · rcases inv id r hr with ⟨_, r0, h0, rfl⟩ | ⟨_, h0⟩
    · exact h.base id r0 h0 (owns_frz ho).1
    · exact h.base id r h0 ho
  · have g : ∀ id r, (st.frz ids).res id = some r → Owns tau id r → ∃ r0, st.res id = some r0 ∧ Owns tau id r0 := by
      intro id r hr ho
      rcases inv id r hr with ⟨_, r0, h0, rfl⟩ | ⟨_, h0⟩
      · exact ⟨r0, h0, (owns_frz ho).1⟩
      · exact ⟨r, h0, ho⟩
    obtain ⟨r3, h3, o3⟩ := g i r1 h1 o1
    obtain ⟨r4, h4, o4⟩ := g j r2 h2 o2
    exact h.dis i j r3 r4 h3 h4 o3 o4 hij

end
end Go.DI

/- A loop over a function: what the data say, the machine does. No condition. -/
namespace Go.DI
open Go.RowKit

def exOf : Ex → Exit
  | .normal => .normal
  | .exit id => .exit id
  | .ret => .ret

def Walks (P : Program) (N : Nat) (d : DCode) (c : Code) (pn : List Nat) : Prop :=
  ∀ (A : Fam) (n : Nat) (st : St) (a : Act) (w : World) (K : Ex → St → Prop) (Q : Exit → Act → World → Prop), A.Yields P → (∀ id b, A.pins id = some b → id ∈ pn) → Good A N st a w → wpD P d K st →
    (∀ e st' a' w', K e st' → Good A N st' a' w' → Q (exOf e) a' w') → c.wpIn A.fence n P Q a w

def Base.hold (B : Base) (l : Nat) (o : Obj) (pins : Nat → Option (Nat × Value)) : Base where
  O := fun k => B.O k ∨ k = l
  inv := fun g S w => B.inv g S w ∧ w.heap[l]? = some o
  lt := fun h k hk => hk.elim (B.lt h.1 k) (fun hk => by subst hk; exact (Array.getElem?_eq_some_iff.1 h.2).1)
  move := fun h m => ⟨B.move h.1 (m.less fun _ => .inl), (m.block l (.inr rfl)).trans h.2⟩
  lose := fun h => ⟨B.lose h.1, h.2⟩
  pins := pins
  round := B.round
  record := fun hr h => B.record hr h.1

def codeOf : Ex → Code
  | .exit id => .exit id
  | _ => .ret

structure LI (A : Fam) where
  i : A.ι
  R : Nat → Option Res
  rho : Nat → Nat
  tau : Nat → Value

structure LP where
  Ds : List Nat
  l : Nat
  rcd : LoopState → Option Code → Loop
  env : Nat → DV
  tmps : Array Value
  pins : Nat → Option (Nat × Value)
  xs : List (List IV)
  inf : Bool
  I : Nat → (Nat → Option Res) → Prop
  K : Ex → (Nat → Option Res) → Prop

def owned (R : Nat → Option Res) (rho : Nat → Nat) (tau : Nat → Value) (b : Nat) : Prop := ∃ id r, R id = some r ∧ Owns tau id r ∧ rho id = b

def LP.base (L : LP) (A : Fam) (i : A.ι) (o : Obj) : Base := ((A.base i).mark L.Ds).hold L.l o L.pins

def LP.at (L : LP) (R : Nat → Option Res) (o : Obj) : Option (List (List IV)) → Prop
  | some rest => o = .loop (L.rcd .ready none) ∧ ∃ n, L.xs.drop n = rest ∧ n ≤ L.xs.length ∧ L.I n R
  | none => ∃ e, e ≠ .normal ∧ L.K e R ∧ o = .loop (L.rcd .done (some (codeOf e)))

def LP.fam (L : LP) (A : Fam) : Fam where
  ι := LI A
  base := fun k => {
    O := fun b => (A.base k.i).O b ∨ b ∈ L.Ds ∨ b = L.l ∨ owned k.R k.rho k.tau b
    inv := fun g S w => ∃ t, (g = none ∨ g = some (L.l, (L.inf, t))) ∧ (∀ D ∈ L.Ds, ¬ (A.base k.i).O D) ∧ (¬ (A.base k.i).O L.l ∧ L.l ∉ L.Ds) ∧ ∃ o, Core (L.base A k.i o) ⟨L.env, k.R⟩ L.tmps w S k.rho k.tau ∧ L.at k.R o t
    lt := by
      rintro g S w ⟨t, _, _, _, o, hC, _⟩ b hb
      rcases hb with hb | hb | hb | ⟨id, r, h1, h2, rfl⟩
      · exact (A.base k.i).lt hC.inv.1.1 b hb
      · exact (Array.getElem?_eq_some_iff.1 (hC.inv.1.2 b hb)).1
      · subst hb; exact (Array.getElem?_eq_some_iff.1 hC.inv.2).1
      · exact (hC.base id r h1 h2).2
    move := by
      rintro g S w S' w' ⟨t, hg, hD, hl, o, hC, ht⟩ m
      refine ⟨t, hg, hD, hl, o, hC.over m.ext (m.stab hC.stab) m.size (fun id r hr ho => ?_) ?_ (fun id b hp => hC.pin id b hp), ht⟩
      · have hin : owned k.R k.rho k.tau (k.rho id) := ⟨id, r, hr, ho, rfl⟩
        exact ⟨m.block _ (.inr (.inr (.inr hin))), fun q hs => (m.snew _ q hs).resolve_right fun hn => hn (.inr (.inr (.inr hin))), (hC.base id r hr ho).1⟩
      · refine (L.base A k.i o).move hC.inv (m.less fun b hb => ?_)
        rcases hb with (hb | hb) | hb
        · exact .inl hb
        · exact .inr (.inl hb)
        · exact .inr (.inr (.inl hb))
    lose := by
      rintro g S w ⟨t, _, h⟩
      exact ⟨t, .inl rfl, h⟩
    pins := fun _ => none
    round := none
    record := fun h _ => by cases h }
  round := none
  hround := fun _ => rfl
  pins := fun _ => none
  hpins := fun _ => rfl

theorem setPs_rl {w : World} {S : Nat → Nat → Prop} {rho : Nat → Nat} {tau : Nat → Value} : ∀ (ps : List Nat) (x : List IV) (us : List Value) (env : Nat → DV) (tmps : Array Value), us.length = x.length → (∀ p ∈ ps, p < tmps.size) →
    (∀ (k : Nat) (d : IV) (v : Value), x[k]? = some d → us[k]? = some v → Rd w S d v) → (∀ y, Rl w S rho tau (env y) (tmps.getD y undef)) →
    ∀ y, Rl w S rho tau (setPs env ps x y) (((ps.zip us).foldl (fun t (p, v) => t.setIfInBounds p v) tmps).getD y undef)
  | [], _, _, env, tmps, _, _, _, h, y => by simpa [setPs] using h y
  | p :: ps, [], us, env, tmps, hl, _, _, h, y => by
    have : us = [] := List.eq_nil_of_length_eq_zero (by simpa using hl)
    subst this
    simpa [setPs] using h y
  | p :: ps, d :: x, [], env, tmps, hl, _, _, h, y => by simp at hl
  | p :: ps, d :: x, u :: us, env, tmps, hl, hp, hr, h, y => by
    simp only [setPs, List.zip_cons_cons, List.foldl_cons]
    refine setPs_rl ps x us _ _ (by simpa using hl) (fun q hq => by simpa using hp q (by simp [hq])) (fun k d' v hd hv => hr (k + 1) d' v (by simpa using hd) (by simpa using hv)) (fun z => ?_) y
    by_cases e : z = p
    · subst e
      have hlt : z < tmps.size := hp z (by simp)
      simp only [if_true]
      simp [Array.getD, hlt]
      exact .imm _ _ (hr 0 d u rfl rfl)
    · rw [if_neg e]
      have : (tmps.setIfInBounds p u).getD z undef = tmps.getD z undef := by
        simp only [Array.getD_eq_getD_getElem?, Array.getElem?_setIfInBounds]
        rw [if_neg (Ne.symm e)]
      rw [this]; exact h z

theorem setPs_nm {R : Nat → Option Res} : ∀ (ps : List Nat) (x : List IV) (env : Nat → DV), (∀ y, Nm R (env y)) → ∀ y, Nm R (setPs env ps x y)
  | [], _, env, h, y => by simpa [setPs] using h y
  | p :: ps, [], env, h, y => by simpa [setPs] using h y
  | p :: ps, d :: x, env, h, y => by
    simp only [setPs]
    refine setPs_nm ps x _ (fun z => ?_) y
    split
    · exact Nm.imm _ _
    · exact h z

theorem size_fold (ps : List Nat) : ∀ (us : List Value) (tmps : Array Value), ((ps.zip us).foldl (fun t (p, v) => t.setIfInBounds p v) tmps).size = tmps.size := by
  induction ps with
  | nil => intro us tmps; rfl
  | cons p ps ih =>
    intro us tmps
    cases us with
    | nil => rfl
    | cons u us => simp only [List.zip_cons_cons, List.foldl_cons]; rw [ih]; simp

theorem owns_keep {tau : Nat → Value} {ids : List Nat} {id : Nat} {r : Res} (h : Owns tau id (r.keep ids)) : Owns tau id r := by cases r <;> exact h

theorem keepRes_some {kids : List Nat} {R : Nat → Option Res} {id : Nat} {r : Res} (h : keepRes kids R id = some r) : id ∈ kids ∧ ∃ r0, R id = some r0 ∧ r = r0.keep kids := by
  unfold keepRes at h
  split at h
  · rename_i hc
    obtain ⟨r0, h1, h2⟩ := Option.map_eq_some_iff.1 h
    exact ⟨by simpa using hc, r0, h1, h2.symm⟩
  · cases h

theorem ext_putObj {w : World} {S : Nat → Nat → Prop} {l : Nat} {r : Loop} (h : w.heap[l]? = some (.loop r)) (o : Loop) : Ext w S (w.putObj l (.loop o)) S := ⟨fun _ _ k => k, fun b q _ => by
  by_cases e : b = l
  · subst e
    have h1 : (w.putObj b (.loop o)).heap[b]? = some (.loop o) := World.putObj_heap_same (Array.getElem?_eq_some_iff.1 h).1
    simp only [World.cell?, h1, h]
  · exact World.cell?_of_block (w := w) (World.putObj_heap_other e)⟩

theorem moved_putObj {O : Nat → Prop} {w : World} {S : Nat → Nat → Prop} {l : Nat} {r : Loop} (h : w.heap[l]? = some (.loop r)) (o : Loop) (hn : ¬ O l) : Moved O S w S (w.putObj l (.loop o)) :=
  ⟨rfl, rfl, rfl, by simp, fun k hk => World.putObj_heap_other (fun e => hn (e ▸ hk)), ext_putObj h o, fun _ _ k => .inl k, fun q b o k => by rw [World.putObj_size]; exact q b o k⟩

section
variable {P : Program} {A : Fam} {N : Nat} {pn ids kids : List Nat} {assign body : Code} {ad bd : DCode} {L : LP} {ps : Array Tmp} {fn : FuncId} {dB : Nat}

theorem loop_yields (hY : A.Yields P) (ha : Walks P N ad assign pn) (hb : Walks P N bd body pn) (hpn : ∀ id b, L.pins id = some b → id ∈ pn) (hkp : ∀ id ∈ pn, id ∈ kids) (hps : ∀ p ∈ ps.toList, p < N) (hsz : L.tmps.size = N)
    (hrec : L.rcd = fun st pe => { state := st, pending := pe, fn, tmps := L.tmps, params := ps, assign, body, defers := dB }) (hxs : ∀ x ∈ L.xs, x.length = ps.toList.length)
    (hpe : ∀ x id, (L.env x).names id = true → ∃ b, L.pins id = some b)
    (hround : ∀ n x R, L.xs[n]? = some x → L.I n R → wpD P ad (fun e s => e = .normal ∧ wpD P bd (fun e s' => match e with
            | .normal => L.I (n + 1) (keepRes kids s'.res) ∧ (L.inf = true → n + 1 < L.xs.length)
            | e => L.K e (keepRes kids s'.res)) s)
          ⟨setPs L.env ps.toList x, R⟩) : (L.fam A).Yields P := by
  intro m l' inf' x rest k S w us hinv hst hlen hrd
  obtain ⟨t, hg, hD, ⟨hlO, hlD⟩, o, hC, ht⟩ := hinv
  have hg := hg.resolve_left (by simp)
  simp only [Option.some.injEq, Prod.mk.injEq] at hg
  obtain ⟨rfl, rfl, rfl⟩ := hg
  obtain ⟨rfl, n, hdrop, hn, hI⟩ := ht
  have hx : L.xs[n]? = some x := by
    have := congrArg (fun q => q[0]?) hdrop
    simpa using this
  have hrest : L.xs.drop (n + 1) = rest := by
    have := congrArg (fun q => q.drop 1) hdrop
    simpa [List.drop_drop, Nat.add_comm] using this
  have hnl : n < L.xs.length := (List.getElem?_eq_some_iff.1 hx).1
  have hl : w.heap[L.l]? = some (.loop (L.rcd .ready none)) := hC.inv.2
  have hlt : L.l < w.heap.size := (Array.getElem?_eq_some_iff.1 hl).1
  have hxl : x.length = ps.toList.length := hxs x (List.mem_of_getElem? hx)
  have hy := run_yield (P := P) (args := us.toArray) hl (by rw [hrec]; simp at hxl ⊢; omega)
  rw [hrec] at hy
  have hfold : (ps.zip us.toArray).foldl (fun tmps (t, a) => tmps.setIfInBounds t a) L.tmps = (ps.toList.zip us).foldl (fun t (p, v) => t.setIfInBounds p v) L.tmps := by
    rw [← Array.foldl_toList]; simp
  refine ⟨fn, _, assign, body, hy, roundIn_of_wpIn (F := Fence.wide) trivial ?_⟩
  clear hy
  rw [hfold]

  have hownl : ¬ owned k.R k.rho k.tau L.l := by
    rintro ⟨id, r, h1, h2, h3⟩
    exact (hC.base id r h1 h2).1 (.inr h3)
  obtain ⟨X1, hX1⟩ : ∃ X1 : Nat → Prop, X1 = fun b => b < w.heap.size ∧ ¬ (A.base k.i).O b ∧ ¬ owned k.R k.rho k.tau b := ⟨_, rfl⟩
  have hr1 : ∀ l', some L.l = some l' → X1 l' ∧ ∃ r, w.heap[l']? = some (.loop r) := by
    rintro l' ⟨⟩
    exact ⟨by rw [hX1]; exact ⟨hlt, hlO, hownl⟩, _, hl⟩
  have hG1 : Good (A.frame X1 w S (some L.l) hr1 L.pins) N ⟨setPs L.env ps.toList x, k.R⟩ { tmps := (ps.toList.zip us).foldl (fun t (p, v) => t.setIfInBounds p v) L.tmps, defers := [] } w := by
    refine ⟨by rw [size_fold]; exact hsz, k.i, [], S, k.rho, k.tau, ⟨rfl, by simp, by simp⟩, ?_⟩
    have h1 : Core (((A.frame X1 w S (some L.l) hr1 L.pins).base k.i).mark []) ⟨L.env, k.R⟩ L.tmps w S k.rho k.tau := by
      refine hC.over (Ext.refl _ _) hC.stab (Nat.le_refl _) (fun id r hr ho => ⟨rfl, fun _ h => h, ?_⟩) ⟨⟨hC.inv.1.1, ?_⟩, by simp⟩ (fun id b hp => hC.pin id b hp)
      · rintro ((h | h) | h)
        · exact (hC.base id r hr ho).1 (.inl (.inl h))
        · rw [hX1] at h; exact h.2.2 ⟨id, r, hr, ho, rfl⟩
        · cases h
      · exact { lt := fun b hb => by rw [hX1] at hb; exact hb.1, dis := fun b hb => by rw [hX1] at hb; exact hb.2.1, size := Nat.le_refl _, same := fun _ _ => rfl, ext := Ext.refl _ _, snew := fun _ _ h _ => h }
    exact h1.slots (setPs_rl _ _ _ _ _ hlen (fun p hp => by rw [hsz]; exact hps p hp) hrd h1.env) (setPs_nm _ _ _ fun y id hn => h1.envC y id hn)
  refine ha (A.frame X1 w S (some L.l) hr1 L.pins) m _ _ w _ _ (Fam.frame_yields hY) hpn hG1 (hround n x k.R hx hI) ?_
  rintro e st1 a1 w1 ⟨rfl, hwb⟩ ⟨hsz1, i1, Ds1, S1, rho1, tau1, ⟨hdf1, hnd1, hDs1⟩, hC1⟩
  have hF1 : Framed X1 w S (A.base i1).O S1 w1 := hC1.inv.1.2
  have hX1l : X1 L.l := (hr1 _ rfl).1
  have hl1 : w1.heap[L.l]? = some (.loop (L.rcd .ready none)) := (hF1.same _ hX1l).trans hl
  have hlt1 : L.l < w1.heap.size := (Array.getElem?_eq_some_iff.1 hl1).1
  refine ⟨_, run_beginRound hl1 (by rw [hrec]), ?_⟩
  have hbusy : ({ L.rcd .ready none with state := .busy } : Loop) = L.rcd .busy none := by rw [hrec]
  rw [hbusy]
  have hl2 : (w1.putObj L.l (.loop (L.rcd .busy none))).heap[L.l]? = some (.loop (L.rcd .busy none)) := World.putObj_heap_same hlt1
  have hO1 : ∀ b, X1 b → (A.base i1).O b → False := fun b hb => hF1.dis b hb
  have hown1 : ∀ b, X1 b → ¬ owned st1.res rho1 tau1 b := by
    rintro b hb ⟨id, r, h1, h2, rfl⟩
    exact (hC1.base id r h1 h2).1 (.inl (.inr hb))
  have hDs1' : ∀ D ∈ Ds1, ¬ (A.base i1).O D ∧ ¬ X1 D := fun D hD => ⟨fun h => hDs1 D hD (.inl h), fun h => hDs1 D hD (.inr h)⟩
  obtain ⟨w2, hw2⟩ : ∃ w2, w2 = w1.putObj L.l (.loop (L.rcd .busy none)) := ⟨_, rfl⟩
  have hw2o : ∀ b, b ≠ L.l → w2.heap[b]? = w1.heap[b]? := fun b hb => by rw [hw2]; exact World.putObj_heap_other hb
  have hw2s : w2.heap.size = w1.heap.size := by rw [hw2]; simp
  rw [← hw2] at hl2 ⊢
  obtain ⟨X2, hX2⟩ : ∃ X2 : Nat → Prop, X2 = fun b => b < w2.heap.size ∧ ¬ (A.base i1).O b ∧ b ∉ Ds1 ∧ ¬ owned st1.res rho1 tau1 b := ⟨_, rfl⟩
  have hX12 : ∀ b, X1 b → X2 b := by
    intro b hb
    rw [hX2]
    refine ⟨?_, hF1.dis b hb, fun h => (hDs1' b h).2 hb, hown1 b hb⟩
    rw [hw2s]; exact Nat.lt_of_lt_of_le (hF1.lt b hb) hF1.size
  have hr2 : ∀ l', some L.l = some l' → X2 l' ∧ ∃ r, w2.heap[l']? = some (.loop r) := by
    rintro l' ⟨⟩
    exact ⟨hX12 _ hX1l, _, hl2⟩
  have hx12 : Ext w1 S1 w2 S1 := by rw [hw2]; exact ext_putObj hl1 _
  have hst1 : ∀ b o, S1 b o → b < w2.heap.size := fun b o h => by rw [hw2s]; exact hC1.stab b o h
  have hG2 : Good (A.frame X2 w2 S1 (some L.l) hr2 L.pins) N st1 a1 w2 := by
    refine ⟨hsz1, i1, Ds1, S1, rho1, tau1, ⟨hdf1, hnd1, fun D hD h => h.elim (hDs1' D hD).1 (fun h => by rw [hX2] at h; exact h.2.2.1 hD)⟩, ?_⟩
    have hlo : ∀ id r, st1.res id = some r → Owns tau1 id r → rho1 id ≠ L.l := fun id r hr ho e => hown1 _ hX1l ⟨id, r, hr, ho, e⟩
    refine hC1.over hx12 hst1 (by omega) (fun id r hr ho => ⟨hw2o _ (hlo id r hr ho), fun _ h => h, ?_⟩) ⟨⟨?_, ?_⟩, fun D hD => ?_⟩ (fun id b hp => hC1.pin id b hp)
    · rintro ((h | h) | h)
      · exact (hC1.base id r hr ho).1 (.inl (.inl h))
      · rw [hX2] at h; exact h.2.2.2 ⟨id, r, hr, ho, rfl⟩
      · exact (hC1.base id r hr ho).1 (.inr h)
    · rw [hw2]; exact (A.base i1).move hC1.inv.1.1 (moved_putObj hl1 _ (hF1.dis _ hX1l))
    · exact { lt := fun b hb => by rw [hX2] at hb; exact hb.1, dis := fun b hb => by rw [hX2] at hb; exact hb.2.1, size := Nat.le_refl _, same := fun _ _ => rfl, ext := Ext.refl _ _, snew := fun _ _ h _ => h }
    · rw [hw2o D (fun e => (hDs1' D hD).2 (e ▸ hX1l))]; exact hC1.inv.2 D hD
  refine hb (A.frame X2 w2 S1 (some L.l) hr2 L.pins) m _ _ w2 _ _ (Fam.frame_yields hY) hpn hG2 hwb ?_
  rintro e st3 a3 w3 hk3 ⟨hsz3, i3, Ds3, S3, rho3, tau3, ⟨hdf3, hnd3, hDs3⟩, hC3⟩
  have hF2 : Framed X2 w2 S1 (A.base i3).O S3 w3 := hC3.inv.1.2
  have hX2l : X2 L.l := hX12 _ hX1l
  have hl3 : w3.heap[L.l]? = some (.loop (L.rcd .busy none)) := (hF2.same _ hX2l).trans hl2
  have hlt3 : L.l < w3.heap.size := (Array.getElem?_eq_some_iff.1 hl3).1
  have hown3 : ∀ b, X2 b → ¬ owned st3.res rho3 tau3 b := by
    rintro b hb ⟨id, r, h1, h2, rfl⟩
    exact (hC3.base id r h1 h2).1 (.inl (.inr hb))
  have hextA : Ext w S w3 S3 := (hF1.ext.trans hx12).trans hF2.ext
  have hDX : ∀ D ∈ L.Ds, X1 D := by
    intro D hDm
    rw [hX1]
    refine ⟨(Array.getElem?_eq_some_iff.1 (hC.inv.1.2 D hDm)).1, hD D hDm, ?_⟩
    rintro ⟨id, r, h1, h2, h3⟩
    exact (hC.base id r h1 h2).1 (.inl (.inr (h3 ▸ hDm)))
  have sameX : ∀ b, X1 b → b ≠ L.l → w3.heap[b]? = w.heap[b]? := fun b hb hne => ((hF2.same b (hX12 b hb)).trans (hw2o b hne)).trans (hF1.same b hb)

  have fin : ∀ r' : Loop, Core (L.base A i3 (.loop r')) ⟨L.env, keepRes kids st3.res⟩ L.tmps (w3.putObj L.l (.loop r')) S3 rho3 tau3 ∧
      Turned ((L.fam A).base k).O S w ((L.fam A).base ⟨i3, keepRes kids st3.res, rho3, tau3⟩).O S3 (w3.putObj L.l (.loop r')) := by
    intro r'
    have hx34 : Ext w3 S3 (w3.putObj L.l (.loop r')) S3 := ext_putObj hl3 _
    have hst3 : ∀ b o, S3 b o → b < (w3.putObj L.l (.loop r')).heap.size := fun b o h => by rw [World.putObj_size]; exact hC3.stab b o h
    constructor
    · have hk : Core (((A.frame X2 w2 S1 (some L.l) hr2 L.pins).base i3).mark Ds3) (st3.keep [] kids) a3.tmps w3 S3 rho3 tau3 := hC3.keep [] kids fun id b hp => hkp id (hpn id b hp)
      have hsl : Core (((A.frame X2 w2 S1 (some L.l) hr2 L.pins).base i3).mark Ds3) ⟨L.env, keepRes kids st3.res⟩ L.tmps w3 S3 rho3 tau3 := by
        refine hk.slots (fun y => ((hC.env y).mono hextA).agree fun id hid => ?_) (fun y id hid => ?_)
        · obtain ⟨b, hb'⟩ := hpe y id hid
          obtain ⟨_, _, h1, _⟩ := hC.pin id b hb'
          obtain ⟨_, _, h2, _⟩ := hC3.pin id b hb'
          exact ⟨h2.1.trans h1.1.symm, h2.2.trans h1.2.symm⟩
        · obtain ⟨b, hb'⟩ := hpe y id hid
          obtain ⟨r, h1, _⟩ := hC3.pin id b hb'
          show (keepRes kids st3.res id).isSome = true
          unfold keepRes
          rw [if_pos (by simpa using hkp id (hpn id b hb')), h1]; rfl
      have hlo : ∀ id r, keepRes kids st3.res id = some r → Owns tau3 id r → rho3 id ≠ L.l := by
        intro id r hr ho e
        obtain ⟨_, r0, h1, rfl⟩ := keepRes_some hr
        exact hown3 _ hX2l ⟨id, r0, h1, owns_keep ho, e⟩
      refine hsl.over hx34 hst3 (by rw [World.putObj_size]; exact Nat.le_refl _) (fun id r hr ho => ⟨World.putObj_heap_other (hlo id r hr ho), fun _ h => h, ?_⟩) ⟨⟨?_, fun D hDm => ?_⟩, World.putObj_heap_same hlt3⟩ (fun id b hp => hsl.pin id b hp)
      · have hb' := (hsl.base id r hr ho).1
        rintro ((h | h) | h)
        · exact hb' (.inl (.inl h))
        · exact hb' (.inl (.inr (hX12 _ (hDX _ h))))
        · exact hlo id r hr ho h
      · exact (A.base i3).move hsl.inv.1.1 (moved_putObj hl3 _ (hF2.dis _ hX2l))
      · have hne : D ≠ L.l := fun e => hlD (e ▸ hDm)
        rw [World.putObj_heap_other hne, sameX D (hDX D hDm) hne]
        exact hC.inv.1.2 D hDm
    · have key : ∀ b, b < w.heap.size → ¬ ((L.fam A).base k).O b → X1 b ∧ b ≠ L.l ∧ b ∉ L.Ds := by
        intro b hb hn
        refine ⟨by rw [hX1]; exact ⟨hb, fun h => hn (.inl h), fun h => hn (.inr (.inr (.inr h)))⟩, fun h => hn (.inr (.inr (.inl h))), fun h => hn (.inr (.inl h))⟩
      exact {
        size := by
          rw [World.putObj_size]
          have := hF1.size; have := hF2.size
          omega
        block := fun b hb hn => by
          obtain ⟨h1, h2, h3⟩ := key b hb hn
          refine ⟨?_, (World.putObj_heap_other h2).trans (sameX b h1 h2)⟩
          rintro (h | h | h | ⟨id, r, g1, g2, g3⟩)
          · exact hF2.dis b (hX12 b h1) h
          · exact h3 h
          · exact h2 h
          · obtain ⟨_, r0, g4, rfl⟩ := keepRes_some g1
            exact hown3 b (hX12 b h1) ⟨id, r0, g4, owns_keep g2, g3⟩
        ext := hextA.trans hx34
        snew := fun b q hs hb hn => by
          obtain ⟨h1, h2, h3⟩ := key b hb hn
          exact hF1.snew b q (hF2.snew b q hs (hX12 b h1)) h1
        stab := hst3 }
  have hD3 : ∀ D ∈ L.Ds, ¬ (A.base i3).O D := fun D hDm => hF2.dis D (hX12 D (hDX D hDm))
  have hl3O : ¬ (A.base i3).O L.l := hF2.dis _ hX2l
  cases e with
  | normal =>
    obtain ⟨hI', hinf⟩ := hk3
    have hend := run_endRound (P := P) none hl3
    have hrc : ({ L.rcd .busy none with state := (if (none : Option Code).isNone then .ready else .done), pending := none } : Loop) = L.rcd .ready none := by rw [hrec]; rfl
    rw [hrc] at hend
    obtain ⟨hc, hT⟩ := fin (L.rcd .ready none)
    refine ⟨_, _, hend, ⟨i3, keepRes kids st3.res, rho3, tau3⟩, S3, hT, .inl ⟨rfl, fun hi => ?_, ?_⟩⟩
    · intro he
      have := hinf hi
      have h2 := congrArg List.length hrest
      rw [he] at h2
      simp at h2
      omega
    · exact ⟨some rest, .inr rfl, hD3, ⟨hl3O, hlD⟩, _, hc, rfl, n + 1, hrest, hnl, hI'⟩
  | exit id =>
    have hend := run_endRound (P := P) (some (.exit id)) hl3
    have hrc : ({ L.rcd .busy none with state := (if (some (Code.exit id)).isNone then .ready else .done), pending := some (.exit id) } : Loop) = L.rcd .done (some (.exit id)) := by rw [hrec]; rfl
    rw [hrc] at hend
    obtain ⟨hc, hT⟩ := fin (L.rcd .done (some (.exit id)))
    exact ⟨_, _, hend, ⟨i3, keepRes kids st3.res, rho3, tau3⟩, S3, hT, .inr ⟨rfl, none, .inr rfl, hD3, ⟨hl3O, hlD⟩, _, hc, .exit id, by simp, hk3, rfl⟩⟩
  | ret =>
    have hend := run_endRound (P := P) (some .ret) hl3
    have hrc : ({ L.rcd .busy none with state := (if (some Code.ret).isNone then .ready else .done), pending := some .ret } : Loop) = L.rcd .done (some .ret) := by rw [hrec]; rfl
    rw [hrc] at hend
    obtain ⟨hc, hT⟩ := fin (L.rcd .done (some .ret))
    exact ⟨_, _, hend, ⟨i3, keepRes kids st3.res, rho3, tau3⟩, S3, hT, .inr ⟨rfl, none, .inr rfl, hD3, ⟨hl3O, hlD⟩, _, hc, .ret, by simp, hk3, rfl⟩⟩

end
end Go.DI

/- What the data say of a piece of code, the machine does. No condition. -/
namespace Go.DI
open Go.RowKit

theorem enter_any {P : Program} {w : World} {ro : Option Nat} (h : ∀ l, ro = some l → ∃ r, w.heap[l]? = some (.loop r)) (fn : FuncId) (tmps : Array Value) (ps : Array Tmp) (assign body : Code) :
    ∃ (l : Nat) (Dn : List Nat) (w1 : World) (dB : Nat), (Instr.enterLoop fn tmps ps assign body ro).run P w = .ok (l, Dn.map markOf) w1 ∧ Dn.Nodup ∧ (∀ D ∈ Dn, w.heap.size ≤ D ∧ w1.heap[D]? = some (.deferred (some [])) ∧ D ≠ l) ∧ w.heap.size ≤ l ∧
      w1.heap[l]? = some (.loop { state := .ready, pending := none, fn, tmps, params := ps, assign, body, defers := dB }) ∧ Below w.heap.size w w1 := by
  cases ro with
  | none =>
    refine ⟨w.heap.size + 1, [w.heap.size], _, w.heap.size, run_enterLoop_outer fn tmps ps assign body, by simp, ?_, by omega, ?_, ((Below.refl _ w).alloc (Nat.le_refl _) _).alloc (by simp) _⟩
    · intro D hD
      have : D = w.heap.size := by simpa using hD
      subst this
      exact ⟨Nat.le_refl _, (Below.heap_alloc _ _ _ (by simp)).trans (World.alloc_heap_new w _), by omega⟩
    · have := World.alloc_heap_new (w.alloc (.deferred (some []))) (.loop { state := .ready, pending := none, fn, tmps, params := ps, assign, body, defers := w.heap.size })
      rwa [World.size_alloc] at this
  | some l0 =>
    obtain ⟨r0, hr0⟩ := h l0 rfl
    refine ⟨w.heap.size, [], _, r0.defers, run_enterLoop_inner hr0 fn tmps ps assign body, by simp, by simp, Nat.le_refl _, World.alloc_heap_new w _, (Below.refl _ w).alloc (Nat.le_refl _) _⟩

section
variable {P : Program} {A : Fam} {N : Nat}

theorem rangeF_sound {g : Operand} {gd : Opd} {ps : Array Tmp} {live ids its kids pn : List Nat} {assign body : Code} {ad bd : DCode} (ha : Walks P N ad assign (pn ++ ids)) (hb : Walks P N bd body (pn ++ ids)) (hg : opdOk g gd = true) (hps : ∀ p ∈ ps.toList, p < N)
    (hkp : ∀ id ∈ pn ++ ids, id ∈ kids) (hki : ∀ id ∈ kids, id ∉ its) : Walks P N (.rangeF gd ps.toList live ids its kids ad bd) (.rangeFunc g ps assign body) pn := by
  intro A n st a w K Q hY hpn hG hs hK
  obtain ⟨hsz, i, Ds, S, rho, tau, ⟨hdf, hnd, hDs⟩, hC⟩ := hG
  simp only [wpD] at hs
  obtain ⟨gf, first, caps, hcal, hlend, hids, hits0, xs, inf, I, hbc, hxs, hI0, hround, hdone⟩ := hs
  have hl := lend_of hlend
  obtain ⟨vf, vc, hv, hlf, hlc, hrf, hrc⟩ := callee_val (hC.vw (defers := a.defers) hg) hcal
  have hv : a.eval g = .func (.func gf) vf.toArray vc.toArray := hv
  simp only [List.all_eq_true, Bool.and_eq_true, Bool.not_eq_true'] at hids
  have hidR : ∀ id ∈ ids, id ∉ its ∧ ∃ r, st.res id = some r ∧ r.isTok = false := by
    intro id hid
    have := hids id hid
    refine ⟨by simpa using this.1, ?_⟩
    cases hr : st.res id with
    | none => rw [hr] at this; simp at this
    | some r => rw [hr] at this; exact ⟨r, rfl, by simpa using this.2⟩
  refine wpIn_rangeFunc ?_
  intro fn _
  obtain ⟨l, Dn, w1, dB, hen, hDnn, hDn, hll, hl1, hbel⟩ := enter_any (P := P) (w := w) (ro := A.fence.round) (fun l0 h0 => ((A.base i).mark Ds).record (by show (A.base i).round = some l0; rw [A.hround]; exact h0) hC.inv) fn a.tmps ps assign body
  obtain ⟨L, hL⟩ : ∃ L : LP, L = LP.mk (Dn ++ Ds) l (fun st pe => { state := st, pending := pe, fn := fn, tmps := a.tmps, params := ps, assign := assign, body := body, defers := dB }) (envL live ids st.env) a.tmps (fun id => if ids.contains id then some (rho id, tau id) else A.pins id) xs inf I (fun e R => K e ⟨envL live ids st.env, R⟩) := ⟨_, rfl⟩

  have hC1 : Core ((A.base i).mark Ds) st a.tmps w1 S rho tau := hC.step hbel (fun _ _ h => h) (fun _ _ h => .inl h) fun b o h => Nat.lt_of_lt_of_le (hC.stab b o h) hbel.size
  have hDs1 : ∀ D ∈ L.Ds, w1.heap[D]? = some (.deferred (some [])) := by
    intro D hD
    rw [hL] at hD
    rcases List.mem_append.1 hD with h | h
    · exact (hDn D h).2.1
    · exact hC1.inv.2 D h
  have hDsO : ∀ D ∈ L.Ds, ¬ (A.base i).O D := by
    intro D hD
    rw [hL] at hD
    rcases List.mem_append.1 hD with h | h
    · intro ho; have := (A.base i).lt hC.inv.1 D ho; have := (hDn D h).1; omega
    · exact hDs D h
  have hlO : ¬ (A.base i).O l := fun ho => by have := (A.base i).lt hC.inv.1 l ho; omega
  have hlD : l ∉ L.Ds := by
    intro h
    rw [hL] at h
    rcases List.mem_append.1 h with h | h
    · exact (hDn l h).2.2 rfl
    · have := (Array.getElem?_eq_some_iff.1 (hC.inv.2 l h)).1; omega
  have hownlt : ∀ id r, st.res id = some r → Owns tau id r → rho id ∉ L.Ds ∧ rho id ≠ l := by
    intro id r hr ho
    have hb := hC.base id r hr ho
    refine ⟨fun h => ?_, fun h => ?_⟩
    · rw [hL] at h
      rcases List.mem_append.1 h with h | h
      · have := (hDn _ h).1; omega
      · exact hb.1 (.inr h)
    · omega
  have henv : ∀ x id, (envL live ids st.env x).names id = true → id ∈ ids ∧ (st.env x).names id = true := by
    intro x id h
    unfold envL at h
    split at h
    · split at h
      · rename_i hok
        exact ⟨keep_names hok h, h⟩
      · simp [DV.names] at h
    · simp [DV.names] at h
  have hpins : ∀ id b, L.pins id = some b → ∃ r, st.res id = some r ∧ (rho id = b.1 ∧ tau id = b.2) ∧ r.isTok = false := by
    intro id b hp
    rw [hL] at hp
    dsimp only at hp
    split at hp
    · rename_i hc
      cases hp
      obtain ⟨_, r, h1, h2⟩ := hidR id (by simpa using hc)
      exact ⟨r, h1, ⟨rfl, rfl⟩, h2⟩
    · exact hC.pin id b (by show (A.base i).pins id = some b; rw [A.hpins]; exact hp)
  have hpn' : ∀ id b, L.pins id = some b → id ∈ pn ++ ids := by
    intro id b hp
    rw [hL] at hp
    dsimp only at hp
    split at hp
    · rename_i hc; exact List.mem_append.2 (.inr (by simpa using hc))
    · exact List.mem_append.2 (.inl (hpn id b hp))
  have hLl : L.l = l := by rw [hL]
  have hLK : ∀ e R, L.K e R = K e ⟨envL live ids st.env, R⟩ := by intro e R; rw [hL]
  have hLe : L.env = envL live ids st.env := by rw [hL]
  have hLt : L.tmps = a.tmps := by rw [hL]
  have hLr : w1.heap[L.l]? = some (.loop (L.rcd .ready none)) := by rw [hL]; exact hl1
  have hLrec : L.rcd = fun st pe => { state := st, pending := pe, fn, tmps := L.tmps, params := ps, assign, body, defers := dB } := by rw [hL]

  have hCL : Core (L.base A i (.loop (L.rcd .ready none))) ⟨L.env, keepRes kids st.res⟩ L.tmps w1 S rho tau := by
    have hk : Core ((A.base i).mark Ds) (st.keep [] kids) a.tmps w1 S rho tau := hC1.keep [] kids fun id b hp => hkp id (List.mem_append.2 (.inl (hpn id b (by rw [← A.hpins i]; exact hp))))
    have hsl : Core ((A.base i).mark Ds) ⟨L.env, keepRes kids st.res⟩ L.tmps w1 S rho tau := by
      rw [hLe, hLt]
      refine hk.slots (fun y => ?_) (fun y id hid => ?_)
      · unfold envL
        split
        · split
          · exact hC1.env y
          · exact .undef _
        · exact .undef _
      · obtain ⟨h1, h2⟩ := henv y id hid
        have := hC.envC y id h2
        show (keepRes kids st.res id).isSome = true
        unfold keepRes
        rw [if_pos (by simpa using hkp id (List.mem_append.2 (.inr h1)))]
        simpa using this
    refine hsl.over (Ext.refl _ _) hsl.stab (Nat.le_refl _) (fun id r hr ho => ⟨rfl, fun _ h => h, ?_⟩) ⟨⟨hsl.inv.1, hDs1⟩, hLr⟩ (fun id b hp => ?_)
    · obtain ⟨_, r0, h1, rfl⟩ := keepRes_some hr
      have hb := hC.base id r0 h1 (owns_keep ho)
      have ho' := hownlt id r0 h1 (owns_keep ho)
      rintro ((h | h) | h)
      · exact hb.1 (.inl h)
      · exact ho'.1 h
      · exact ho'.2 (h.trans hLl)
    · obtain ⟨r, h1, h2, h3⟩ := hpins id b hp
      refine ⟨r.keep kids, ?_, h2, by cases r <;> first | rfl | exact h3⟩
      show keepRes kids st.res id = _
      unfold keepRes
      rw [if_pos (by simpa using hkp id (hpn' id b hp)), h1]; rfl

  have hLY : (L.fam A).Yields P := by
    refine loop_yields (N := N) (pn := pn ++ ids) (kids := kids) (fn := fn) (dB := dB) hY ha hb hpn' hkp hps (by rw [hLt]; exact hsz) hLrec ?_ ?_ ?_
    · rw [hL]; exact hxs
    · intro x id h
      rw [hLe] at h
      have := (henv x id h).1
      exact ⟨(rho id, tau id), by rw [hL]; dsimp only; rw [if_pos (by simpa using this)]⟩
    · intro n x R hx hi
      rw [hL] at hx hi ⊢
      exact hround n x R hx hi
  have hrest0 : ∀ id, id ∈ its → id ≠ 0 := by
    intro id h e
    subst e
    simp at hits0
    exact hits0 h
  have wsome : ∀ id r, withSeq (restr its st.res) l (inf, some xs) id = some r → (id = 0 ∧ r = .seq l (inf, some xs)) ∨ (id ≠ 0 ∧ id ∈ its ∧ st.res id = some r) := by
    intro id r h
    unfold withSeq at h
    split at h
    · rename_i e; cases h; exact .inl ⟨e, rfl⟩
    · rename_i e; exact .inr ⟨e, restr_some h⟩
  have wnm : ∀ d : DV, (∀ id, d.names id = true → id ∈ its) → Nm (withSeq (restr its st.res) l (inf, some xs)) d := by
    intro d hd id hn
    have hi := hd id hn
    obtain ⟨r, hr, _⟩ := hl.has id hi
    unfold withSeq
    rw [if_neg (hrest0 id hi), restr_of hi, hr]; rfl
  have hcall := (hbc l).2 (L.fam A) ⟨i, keepRes kids st.res, rho, tau⟩ w1 S rho tau (vf ++ .func (.yield l) #[] #[] :: vc) hLY rfl
    { inv := ⟨some xs, .inr (by rw [hLl, hL]; simp [ghost, St.bare, withSeq]), hDsO, ⟨by rw [hLl]; exact hlO, by rw [hLl]; exact hlD⟩, _, hCL, rfl, 0, by rw [hL]; simp, Nat.zero_le _, by rw [hL]; exact hI0⟩
      stab := hC1.stab
      env := fun x => .undef _
      envC := fun x id h => by simp [St.bare, DV.names] at h
      res := fun id r hr => by
        rcases wsome id r hr with ⟨_, rfl⟩ | ⟨_, _, hr⟩
        · trivial
        · exact hC1.res id r hr
      resC := fun id cells hc c hm => by
        rcases wsome id _ hc with ⟨_, h⟩ | ⟨_, hin, hc⟩
        · cases h
        · exact wnm c (hl.box id hin cells hc c hm)
      base := fun id r hr ho => by
        rcases wsome id r hr with ⟨_, rfl⟩ | ⟨_, hin, hr⟩
        · exact ho.elim
        · have hb := hC1.base id r hr ho
          have ho' := hownlt id r hr ho
          refine ⟨?_, hb.2⟩
          rintro (h | h | h | ⟨id2, r2, h1, h2, h3⟩)
          · exact hb.1 (.inl h)
          · exact ho'.1 h
          · exact ho'.2 (h.trans hLl)
          · obtain ⟨hk2, r0, h4, rfl⟩ := keepRes_some h1
            exact hC1.dis id2 id r0 r h4 hr (owns_keep h2) ho (fun e => hki id2 hk2 (e ▸ hin)) h3
      dis := fun x y r r' h1 h2 o1 o2 hxy => by
        rcases wsome x r h1 with ⟨_, rfl⟩ | ⟨_, _, h1⟩
        · exact o1.elim
        · rcases wsome y r' h2 with ⟨_, rfl⟩ | ⟨_, _, h2⟩
          · exact o2.elim
          · exact hC1.dis x y r r' h1 h2 o1 o2 hxy
      tauS := hC1.tauS
      pin := fun id b h => by cases h }
    (by simp [hlc, hlf]) (by
      intro k d v hd hv'
      have hxb := ext_of_below hC.stab (S' := S) (fun _ _ h => h) hbel
      by_cases hk : k < first.length
      · rw [List.getElem?_append_left hk] at hd
        rw [List.getElem?_append_left (by omega)] at hv'
        exact (hrf k d v hd hv').mono hxb
      · rw [List.getElem?_append_right (by omega)] at hd
        rw [List.getElem?_append_right (by omega), hlf] at hv'
        generalize k - first.length = k at hd hv'
        cases k with
        | zero => simp at hd hv'; subst hd; subst hv'; exact .yld l
        | succ k => simp at hd hv'; exact (hrc k d v hd hv').mono hxb)
    (by
      intro d hd
      rcases List.mem_append.1 hd with hd | hd
      · exact wnm d (hl.args d (List.mem_append.2 (.inl hd)))
      rcases List.mem_cons.1 hd with rfl | hd
      · intro id h; simp [DV.names] at h
      · exact wnm d (hl.args d (List.mem_append.2 (.inr hd))))
  obtain ⟨⟨gfn, gc, hgf, hgb, hgname⟩, _⟩ := hbc l
  have eg : ∀ args w, (callFunc gf args).run P w = .ok (.enter gf args) w := by
    intro args w
    have hbn : gfn.body.isNone = false := by rw [hgb]; rfl
    simp only [callFunc, Sem.run_bind, Sem.run_pure, Result.andThen_ok, run_program, hgf, hgname, Bool.false_eq_true, if_false, hbn]
  refine ⟨l, Dn.map markOf, w1, { target := .fn (.func gf) vc.toArray, args := vf.toArray ++ #[.func (.yield l) #[] #[]] }, w1, gf, (vf.toArray ++ #[.func (.yield l) #[] #[]]) ++ vc.toArray, w1, hen, ?_, fun _ _ => trivial, ?_, fun k => (by cases k), ?_⟩
  · simp only [resolve, hv]
    simp [go_sem]
  · simp [invoke, go_sem, eg]
  · refine (callsIn_wide (n := n - 1)).2 ?_
    have e : ((vf.toArray ++ #[.func (.yield l) #[] #[]]) ++ vc.toArray : Array Value) = (vf ++ .func (.yield l) #[] #[] :: vc).toArray := by simp
    rw [e]
    refine hcall.mono ?_
    rintro e w' ⟨v, r, ⟨i', R1, rho1, tau1⟩, S', R', rho', tau', rfl, _, _, hover, hC', _⟩
    obtain ⟨t, hgt, hD', ⟨hlO', hlD'⟩, o, hCo, ht⟩ := hC'.inv
    dsimp only at hD' hlO' hCo ht
    have hgood : ∀ (r0 r' : Loop), o = .loop r0 → Good A N ⟨L.env, R1⟩ { a with defers := Dn.map markOf ++ a.defers } (w'.putObj L.l (.loop r')) := by
      rintro r0 r' rfl
      have hlw : w'.heap[L.l]? = some (.loop r0) := hCo.inv.2
      refine ⟨hsz, i', L.Ds, S', rho1, tau1, ⟨?_, ?_, hD'⟩, ?_⟩
      · rw [hL, hdf]; simp
      · rw [hL]
        refine List.nodup_append.2 ⟨hDnn, hnd, fun x hx y hy e => ?_⟩
        subst e
        have := (hDn x hx).1
        have := (Array.getElem?_eq_some_iff.1 (hC.inv.2 x hy)).1
        omega
      · have hlo : ∀ id r, R1 id = some r → Owns tau1 id r → rho1 id ≠ L.l := fun id r hr ho e => (hCo.base id r hr ho).1 (.inr e)
        have := hCo.over (B' := (A.base i').mark L.Ds) (w' := w'.putObj L.l (.loop r')) (S' := S') (ext_putObj hlw _) (fun b q h => by rw [World.putObj_size]; exact hCo.stab b q h) (by rw [World.putObj_size]; exact Nat.le_refl _)
          (fun id r hr ho => ⟨World.putObj_heap_other (hlo id r hr ho), fun _ h => h, fun h => (hCo.base id r hr ho).1 (.inl h)⟩)
          ⟨(A.base i').move hCo.inv.1.1 (moved_putObj hlw _ hlO'), fun D hDm => (World.putObj_heap_other (fun e => by rw [e] at hDm; exact hlD' hDm)).trans (hCo.inv.1.2 D hDm)⟩
          (fun id b hp => by
            have hp : A.pins id = some b := by rw [← A.hpins i']; exact hp
            by_cases hin : ids.contains id = true
            · obtain ⟨r, h1, h2, h3⟩ := hC.pin id b (by show (A.base i).pins id = some b; rw [A.hpins]; exact hp)
              have hLp : L.pins id = some (rho id, tau id) := by rw [hL]; dsimp only; rw [if_pos hin]
              obtain ⟨r', g1, g2, g3⟩ := hCo.pin id _ hLp
              exact ⟨r', g1, ⟨g2.1.trans h2.1, g2.2.trans h2.2⟩, g3⟩
            · have hLp : L.pins id = some b := by rw [hL]; dsimp only; rw [if_neg hin]; exact hp
              exact hCo.pin id b hLp)
        rw [hLt] at this
        exact this
    rw [hLe] at hgood
    have hgr : ghost R' = none ∨ ghost R' = some (L.l, (L.inf, t)) := hgt
    rcases hover with ⟨hinf, h0⟩ | h0
    · have : t = some [] := by
        have hgh : ghost R' = some (l, (inf, some [])) := by simp [ghost, h0]
        rw [hgh] at hgr
        simp at hgr; exact hgr.2.2.symm
      subst this
      obtain ⟨rfl, m, hm1, hm2, hI'⟩ := ht
      have hml : m = L.xs.length := by have := congrArg List.length hm1; simp at this; omega
      have hend := run_endLoop (P := P) (r := L.rcd .ready none) hCo.inv.2 (by rw [hLrec]; simp)
      have hpe : (L.rcd .ready none).pending = none := by rw [hLrec]
      rw [hpe] at hend
      rw [← hLl]
      refine ⟨none, _, hend, ?_⟩
      refine hK .normal _ _ _ ?_ (hgood _ _ rfl)
      refine hdone R1 hinf ?_
      rw [hml, hL] at hI'
      exact hI'
    · have : t = none := by
        have hgh : ghost R' = some (l, (inf, none)) := by simp [ghost, h0]
        rw [hgh] at hgr
        simp at hgr; exact hgr.2.2.symm
      subst this
      obtain ⟨e, hne, hKe, rfl⟩ := ht
      have hend := run_endLoop (P := P) (r := L.rcd .done (some (codeOf e))) hCo.inv.2 (by rw [hLrec]; simp)
      have hpe : (L.rcd .done (some (codeOf e))).pending = some (codeOf e) := by rw [hLrec]
      rw [hpe] at hend
      rw [← hLl]
      refine ⟨some (codeOf e), _, hend, ?_⟩
      rw [hLK] at hKe
      have hfin := fun r' => hK e _ _ _ hKe (hgood _ r' rfl)
      cases e with
      | normal => exact (hne rfl).elim
      | exit id => exact wpIn_exit (hfin _)
      | ret => exact wpIn_ret (hfin _)

def chkCode (P : Program) (N : Nat) (pn : List Nat) : DCode → Code → Bool
  | .skip, .skip => true
  | .region qs dr, .region _ ops draw => dr == draw && chkRegion P N ops draw qs
  | .seq a b, .seq x y => chkCode P N pn a x && chkCode P N pn b y
  | .cond c a b, .cond c' x y => opdOk c' c && chkCode P N pn a x && chkCode P N pn b y
  | .block id a, .block id' x => id == id' && chkCode P N pn a x
  | .loop a, .loop x => chkCode P N pn a x
  | .exit id, .exit id' => id == id'
  | .ret, .ret => true
  | .rangeF g ps _ ids its kids a b, .rangeFunc g' ps' x y => opdOk g' g && decide (ps = ps'.toList) && ps.all (· < N) && (pn ++ ids).all kids.contains && kids.all (fun i => !its.contains i) && chkCode P N (pn ++ ids) a x && chkCode P N (pn ++ ids) b y
  | .keep _ ids a, c => pn.all ids.contains && chkCode P N pn a c
  | .freeze _ a, c => chkCode P N pn a c
  | .ren a _ b, c => !pn.contains a && chkCode P N pn b c
  | .dead, _ => true
  | .settle ids a, c => pn.all (fun i => !ids.contains i) && chkCode P N pn a c
  | .mktok _ _ _ _ a, c => chkCode P N pn a c
  | _, _ => false

theorem code_sound : ∀ (d : DCode) (c : Code) {pn : List Nat}, chkCode P N pn d c = true → Walks P N d c pn
  | .skip, c, pn, hc => fun A n st a w K Q hY hpn hg hs hK => by
    cases c <;> simp [chkCode] at hc
    exact wpIn_skip (hK .normal st a w hs hg)
  | .region qs dr, c, pn, hc => fun A n st a w K Q hY hpn hg hs hK => by
    cases c <;> simp only [chkCode, Bool.false_eq_true, Bool.and_eq_true, beq_iff_eq] at hc
    exact region_sound hY hc.2 hg hs (fun st' a' w' hk hg' => hK .normal st' a' w' hk hg')
  | .seq p q, c, pn, hc => fun A n st a w K Q hY hpn hg hs hK => by
    cases c <;> simp only [chkCode, Bool.false_eq_true, Bool.and_eq_true] at hc
    rename_i x y
    refine wpIn_seq (code_sound p x hc.1 A n st a w _ _ hY hpn hg hs fun e st' a' w' hk hg' => ?_)
    cases e with
    | normal => exact code_sound q y hc.2 A n st' a' w' _ _ hY hpn hg' hk hK
    | exit id => exact hK (.exit id) st' a' w' hk hg'
    | ret => exact hK .ret st' a' w' hk hg'
  | .cond x p q, c, pn, hc => fun A n st a w K Q hY hpn hg hs hK => by
    cases c <;> simp only [chkCode, Bool.false_eq_true, Bool.and_eq_true] at hc
    rename_i x' c1 c2
    simp only [wpD] at hs
    split at hs
    · rename_i t ht
      obtain ⟨h1, bi, Ds, S, rho, tau, h2, hC⟩ := hg
      have hv : a.eval x' = .bool t := by
        have := hC.vw (defers := a.defers) hc.1.1
        rw [ht] at this
        exact this.imm_inv.bool_inv
      refine wpIn_cond_split hv (fun e => ?_) (fun e => ?_)
      · exact code_sound p c1 hc.1.2 A n st a w _ _ hY hpn ⟨h1, bi, Ds, S, rho, tau, h2, hC⟩ (hs.1 e) hK
      · exact code_sound q c2 hc.2 A n st a w _ _ hY hpn ⟨h1, bi, Ds, S, rho, tau, h2, hC⟩ (hs.2 e) hK
    · exact hs.elim
  | .block id p, c, pn, hc => fun A n st a w K Q hY hpn hg hs hK => by
    cases c <;> simp only [chkCode, Bool.false_eq_true, Bool.and_eq_true, beq_iff_eq] at hc
    obtain ⟨rfl, hc⟩ := hc
    refine wpIn_block (code_sound p _ hc A n st a w _ _ hY hpn hg hs fun e st' a' w' hk hg' => ?_)
    cases e with
    | normal => exact hK .normal st' a' w' hk hg'
    | exit i =>
      simp only [exOf, Exit.inBlock]
      dsimp only at hk
      split
      · rename_i he; rw [if_pos he] at hk; exact hK .normal st' a' w' hk hg'
      · rename_i he; rw [if_neg he] at hk; exact hK (.exit i) st' a' w' hk hg'
    | ret => exact hK .ret st' a' w' hk hg'
  | .loop p, c, pn, hc => fun A n st a w K Q hY hpn hg hs hK => by
    cases c <;> simp only [chkCode, Bool.false_eq_true] at hc
    rename_i x
    simp only [wpD] at hs
    have key := hs (fun s => ∀ a w, Good A N s a w → ∀ (b : Frame) (k : List Item) (cs : List Frame), b.roundOf = A.round → ∃ e a' w', Q e a' w' ∧ ArrivesIn (Machine.fenced P A.fence) P (lone (b.atR a (.code x :: .inLoop x :: k)) cs w) b k cs e a' w') (fun s hs' a w hg' => ?_) a w hg
    · intro b k cs hro hb hr
      obtain ⟨e, a', w', hq, harr⟩ := key b k cs hro
      exact ⟨e, a', w', hq, .of_steps (.one (fenced_calm hb hr rfl) stepR_loop) harr⟩
    intro b k cs hro
    have hb : A.fence.fn b.fn := trivial
    have hr : A.fence.room (cs.length + 1 + n) := fun d hd => by cases hd
    have hbody : x.wpIn A.fence n P (Exit.then (fun a' w' => ∀ (b : Frame) (k : List Item) (cs : List Frame), b.roundOf = A.round → ∃ e a'' w'', Q e a'' w'' ∧ ArrivesIn (Machine.fenced P A.fence) P (lone (b.atR a' (.code x :: .inLoop x :: k)) cs w') b k cs e a'' w'') Q) a w := code_sound p x hc A n s a w _ _ hY hpn hg' hs' fun e st' a' w' hk hg'' => by
      cases e with
      | normal => exact hk a' w' hg''
      | exit i => exact hK (.exit i) st' a' w' hk hg''
      | ret => exact hK .ret st' a' w' hk hg''
    obtain ⟨e, a₁, w₁, hq, harr⟩ := hbody b (.inLoop x :: k) cs hro hb hr
    cases e with
    | normal =>
      obtain ⟨e₂, a₂, w₂, hq₂, harr₂⟩ := hq b k cs hro
      exact ⟨e₂, a₂, w₂, hq₂, .of_steps (StepsIn.trans harr (.one (fenced_calm hb hr rfl) stepR_inLoop)) harr₂⟩
    | exit i => exact ⟨_, a₁, w₁, hq, .pass (x := .inLoop x) rfl (fun _ _ => .inl (by simp)) harr⟩
    | goto l => exact ⟨_, a₁, w₁, hq, .pass (x := .inLoop x) rfl (fun _ _ => .inl (by simp)) harr⟩
    | ret => exact ⟨_, a₁, w₁, hq, .pass (x := .inLoop x) rfl (fun _ _ => .inl (by simp)) harr⟩
    | panic ch => exact ⟨_, a₁, w₁, hq, .pass (x := .inLoop x) rfl (fun _ _ => .inl (by simp)) harr⟩
    | outgrown => exact ⟨_, a₁, w₁, hq, .pass (x := .inLoop x) rfl (fun _ _ => .inl (by simp)) harr⟩
  | .exit id, c, pn, hc => fun A n st a w K Q hY hpn hg hs hK => by
    cases c <;> simp only [chkCode, Bool.false_eq_true, beq_iff_eq] at hc
    subst hc
    exact wpIn_exit (hK (.exit _) st a w hs hg)
  | .ret, c, pn, hc => fun A n st a w K Q hY hpn hg hs hK => by
    cases c <;> simp [chkCode] at hc
    exact wpIn_ret (hK .ret st a w hs hg)
  | .keep live ids p, c, pn, hc => fun A n st a w K Q hY hpn hg hs hK => by
    have hc' : pn.all ids.contains = true ∧ chkCode P N pn p c = true := by
      cases c <;> simpa [chkCode] using hc
    obtain ⟨h1, bi, Ds, S, rho, tau, h2, hC⟩ := hg
    exact code_sound p c hc'.2 A n _ a w _ _ hY hpn ⟨h1, bi, Ds, S, rho, tau, h2, hC.keep live ids fun id b hb => by
      have := List.all_eq_true.1 hc'.1 id (hpn id b (by rw [← A.hpins bi]; exact hb))
      simpa using this⟩ hs hK
  | .freeze ids p, c, pn, hc => fun A n st a w K Q hY hpn hg hs hK => by
    have hc' : chkCode P N pn p c = true := by cases c <;> simpa [chkCode] using hc
    obtain ⟨h1, bi, Ds, S, rho, tau, h2, hC⟩ := hg
    exact code_sound p c hc' A n _ a w _ _ hY hpn ⟨h1, bi, Ds, _, rho, tau, h2, hC.frz ids⟩ hs hK
  | .ren x y p, c, pn, hc => fun A n st a w K Q hY hpn hg hs hK => by
    have hc' : pn.contains x = false ∧ chkCode P N pn p c = true := by cases c <;> simpa [chkCode] using hc
    obtain ⟨h1, bi, Ds, S, rho, tau, h2, hC⟩ := hg
    simp only [wpD] at hs
    refine code_sound p c hc'.2 A n _ a w _ _ hY hpn ⟨h1, bi, Ds, S, _, _, h2, hC.ren hs.1 hs.2.1 hs.2.2.1 ?_⟩ hs.2.2.2 hK
    show (A.base bi).pins x = none
    rw [A.hpins]
    cases hq : A.pins x with
    | none => rfl
    | some b => have := hpn x b hq; simp at hc'; exact (hc'.1 this).elim
  | .dead, c, pn, hc => fun A n st a w K Q hY hpn hg hs hK => (hs : False).elim
  | .settle ids p, c, pn, hc => fun A n st a w K Q hY hpn hg hs hK => by
    have hc' : pn.all (fun i => !ids.contains i) = true ∧ chkCode P N pn p c = true := by cases c <;> simpa [chkCode] using hc
    refine code_sound p c hc'.2 A n st a w _ _ hY hpn hg hs fun e st' a' w' hk hg' => hK e _ a' w' hk ?_
    obtain ⟨h1, bi, Ds, S, rho, tau, h2, hC⟩ := hg'
    refine ⟨h1, bi, Ds, _, rho, tau, h2, (hC.frz ids).seal ids fun id b hb => ?_⟩
    have := List.all_eq_true.1 hc'.1 id (hpn id b (by rw [← A.hpins bi]; exact hb))
    simpa using this
  | .mktok b off t sz p, c, pn, hc => fun A n st a w K Q hY hpn hg hs hK => by
    have hc' : chkCode P N pn p c = true := by cases c <;> simpa [chkCode] using hc
    simp only [wpD] at hs
    obtain ⟨h0, ht, hs⟩ := hs
    obtain ⟨h1, bi, Ds, S, rho, tau, h2, hC⟩ := hg
    split at h0
    · rename_i cells hcells
      obtain ⟨tau', hC'⟩ := hC.mktok hcells h0 ht
      exact code_sound p c hc' A n _ a w _ _ hY hpn ⟨h1, bi, Ds, S, rho, tau', h2, hC'⟩ hs hK
    · exact h0.elim
  | .rangeF g ps live ids its kids p q, c, pn, hc => by
    cases c <;> simp only [chkCode, Bool.false_eq_true, Bool.and_eq_true, decide_eq_true_eq] at hc
    rename_i g' ps' x y
    obtain ⟨⟨⟨⟨⟨⟨h1, h2⟩, h3⟩, h4⟩, h5⟩, h6⟩, h7⟩ := hc
    subst h2
    refine rangeF_sound (code_sound p x h6) (code_sound q y h7) h1 (fun p hp => ?_) (fun id hid => ?_) (fun id hid => ?_)
    · simpa using List.all_eq_true.1 h3 p hp
    · simpa using List.all_eq_true.1 h4 id hid
    · simpa using List.all_eq_true.1 h5 id hid

end
end Go.DI

