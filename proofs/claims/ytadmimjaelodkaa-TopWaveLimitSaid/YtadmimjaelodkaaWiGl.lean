/- From a contract on data to a row. No condition. -/
import Derived.Test.YtadmimjaelodkaaWeGe
import Derived.ProofKit
import Derived.OpenShut
import Derived.KernelRfl
import Derived.Test.YtadmimjaelodkaaRows
import Derived.Test.YtadmimjaelodkaaWiGf
/- From a function's contract on data to what a row says of it: arguments of plain types are opened, whatever they hold. No condition. -/
namespace Go.DI
open Go.ChangeShapes Go.WideShapes Go.ChangeAt Go.RowKit

section
variable {H : Type} {enc : TypeId × Value → H} {P : Program} {W : World} {S : Nat → Nat → Prop}

def RdL (W : World) (S : Nat → Nat → Prop) (xs : List IV) (cs : List Value) : Prop :=
  xs.length = cs.length ∧ ∀ (i : Nat) (x : IV) (v : Value), xs[i]? = some x → cs[i]? = some v → Rd W S x v ∧ v.oneCell' = true

theorem RdL.nil : RdL W S [] [] := ⟨rfl, by simp⟩
theorem RdL.one {x : IV} {v : Value} (h : Rd W S x v) (h1 : v.oneCell' = true) : RdL W S [x] [v] := by
  refine ⟨rfl, fun i y u hy hu => ?_⟩
  cases i with
  | zero => simp at hy hu; subst hy; subst hu; exact ⟨h, h1⟩
  | succ i => simp at hy
theorem RdL.append {xs ys : List IV} {cs ds : List Value} (h : RdL W S xs cs) (h' : RdL W S ys ds) : RdL W S (xs ++ ys) (cs ++ ds) := by
  refine ⟨by simp [h.1, h'.1], fun i x v hx hv => ?_⟩
  by_cases hi : i < xs.length
  · rw [List.getElem?_append_left hi] at hx
    rw [List.getElem?_append_left (by have := h.1; omega)] at hv
    exact h.2 i x v hx hv
  · rw [List.getElem?_append_right (by omega)] at hx
    rw [List.getElem?_append_right (by have := h.1; omega), ← h.1] at hv
    exact h'.2 _ x v hx hv

def isStructT (P : Program) (t : TypeId) : Bool := match P.underlying t with | some (.struct _) => true | some (.array _ _) => true | _ => false
def mkE (P : Program) (t : TypeId) (xs : List IV) : IV := if isStructT P t then .agg xs else xs.headD .nilp

def RepFs (R : TypeId → List IV → Prop) : List Field → List IV → Prop
  | [], xs => xs = []
  | f :: r, xs => ∃ ys zs, xs = ys ++ zs ∧ R f.type ys ∧ RepFs R r zs
def RepAs (R : List IV → Prop) : Nat → List IV → Prop
  | 0, xs => xs = []
  | n + 1, xs => ∃ ys zs, xs = ys ++ zs ∧ R ys ∧ RepAs R n zs
def RepF (P : Program) : Nat → TypeId → List IV → Prop
  | 0, _, _ => False
  | n + 1, t, xs => match P.underlying t with
    | some (.int .i64) => ∃ m : Int, xs = [.int .i64 m] ∧ -9223372036854775808 ≤ m ∧ m ≤ 9223372036854775807
    | some .bool => ∃ b, xs = [.bool b]
    | some .string => ∃ s : ByteArray, xs = [.str s]
    | some (.slice e) => ∃ es : List IV, xs = [.slc (P.cellsOf e) es] ∧ ∀ x ∈ es, ∃ ys, RepF P n e ys ∧ x = mkE P e ys
    | some (.struct fs) => RepFs (RepF P n) fs.toList xs
    | some (.array k e) => RepAs (RepF P n e) k xs
    | _ => False

def plainFs (P : Program) (ok : TypeId → Bool) : Nat → List Field → Nat → Bool
  | off, [], tot => off == tot
  | off, f :: r, tot => f.offset == off && ok f.type && plainFs P ok (off + P.cellsOf f.type) r tot
def plainT (P : Program) : Bool → Nat → TypeId → Bool
  | _, 0, _ => false
  | top, n + 1, t => match P.underlying t with
    | some (.int .i64) | some .bool | some .string => P.cellsOf t == 1
    | some (.slice e) => top && (P.cellsOf t == 1 && plainT P false n e && P.cellsOf e != 0)
    | some (.struct fs) => plainFs P (plainT P top n) 0 fs.toList (P.cellsOf t)
    | some (.array k e) => P.cellsOf t == k * P.cellsOf e && plainT P top n e
    | _ => false

theorem rd_len1 {t : TypeId} {m : Nat} {xs : List IV} (hs : isStructT P t = false) (h : RepF P m t xs) : ∃ x, xs = [x] ∧ x.isAgg = false := by
  cases m with
  | zero => simp [RepF] at h
  | succ n =>
    unfold RepF at h
    unfold isStructT at hs
    split at h
    · obtain ⟨k, rfl, _⟩ := h; exact ⟨_, rfl, rfl⟩
    · obtain ⟨k, rfl⟩ := h; exact ⟨_, rfl, rfl⟩
    · obtain ⟨k, rfl⟩ := h; exact ⟨_, rfl, rfl⟩
    · obtain ⟨k, rfl, _⟩ := h; exact ⟨_, rfl, rfl⟩
    · rename_i e; rw [e] at hs; cases hs
    · rename_i e; rw [e] at hs; cases hs
    · exact h.elim

theorem mkE_cells {t : TypeId} {m : Nat} {xs : List IV} (h : RepF P m t xs) : (mkE P t xs).cells = xs := by
  unfold mkE
  cases hs : isStructT P t with
  | true => rfl
  | false =>
    obtain ⟨x, rfl, hx⟩ := rd_len1 hs h
    show x.cells = [x]
    cases x <;> simp_all [IV.cells, IV.isAgg]

theorem open_cells (hS : ∀ b o v, W.cell? ⟨b, o, none⟩ = some v → S b o) {held : Bool} {spare : Nat → Bool} : ∀ (m : Nat) (top : Bool) (t : TypeId), plainT P top m t = true → ∀ (n : Nat) (cs : List Value) (x : DataW H × List MemPlace),
    (top = true → ∀ a len cap, Value.slice (some a) len cap ∈ cs → a.spot = none) → DataW.trod enc P W 0 spare held n t cs = some x → cs.length = P.cellsOf t ∧ ∃ xs, RdL W S xs cs ∧ RepF P m t xs := by
  intro m
  induction m with
  | zero => intro top t h; simp [plainT] at h
  | succ m ih =>
    intro top t hp n cs x hsp h
    unfold plainT at hp
    split at hp
    · rename_i e
      obtain ⟨k, rfl, _, hw⟩ := DataW.trod_int e h
      refine ⟨by simp at hp; simp [hp], [.int .i64 k], RdL.one (.int _ _) rfl, ?_⟩
      unfold RepF
      rw [e]
      simp only [Lit.wf, Bool.and_eq_true, decide_eq_true_eq] at hw
      exact ⟨k, rfl, Int.le_trans (by decide) hw.1, Int.le_trans hw.2 (by decide)⟩
    · rename_i e
      obtain ⟨k, rfl, _⟩ := DataW.trod_bool e h
      refine ⟨by simp at hp; simp [hp], [.bool k], RdL.one (.bool _) rfl, ?_⟩
      unfold RepF
      rw [e]
      exact ⟨k, rfl⟩
    · rename_i e
      obtain ⟨k, rfl, _⟩ := DataW.trod_string e h
      refine ⟨by simp at hp; simp [hp], [.str k], RdL.one (.str _) rfl, ?_⟩
      unfold RepF
      rw [e]
      exact ⟨k, rfl⟩
    · rename_i el e
      simp only [Bool.and_eq_true, beq_iff_eq, bne_iff_ne, ne_eq] at hp
      obtain ⟨htop, ⟨hp1, hp2⟩, hp3⟩ := hp
      rcases DataW.trod_slice e h with ⟨rfl, _⟩ | ⟨a, len, cap, elems, rest, k, _, rfl, _, _, hl, hm, hlen, hel, _, _⟩
      · refine ⟨by simp [hp1], [.slc (P.cellsOf el) []], RdL.one (.nils _) rfl, ?_⟩
        unfold RepF
        rw [e]
        exact ⟨[], rfl, by simp⟩
      · refine ⟨by simp [hp1], ?_⟩
        obtain ⟨b, off, spot⟩ := a

        have each : ∀ i, i < len → ∃ ecs ys, W.cells? 0 (Addr.add ⟨b, off, spot⟩ (i * P.cellsOf el)) (P.cellsOf el) = some ecs ∧ RdL W S ys ecs ∧ RepF P m el ys := by
          intro i hi
          have hb := hel i hi
          have hget : elems[i]? = some elems[i] := by simp [show i < elems.length by omega]
          rw [hget, Option.bind_eq_some_iff] at hb
          obtain ⟨ecs, h1, h2⟩ := hb
          obtain ⟨_, ys, h3, h4⟩ := ih false el hp2 k ecs _ (fun k => by cases k) h2
          exact ⟨ecs, ys, h1, h3, h4⟩
        have hspot : spot = none := hsp htop ⟨b, off, spot⟩ len cap (by simp)
        subst hspot
        by_cases hl0 : len = 0
        · subst hl0
          refine ⟨[.slc (P.cellsOf el) []], RdL.one ?_ rfl, ?_⟩
          · exact .slc (P.cellsOf el) [] b off cap (fun _ => .bool true) (Nat.zero_le _) (fun i hi => by simp at hi) (by simp) (by simp) (by simp)
          · unfold RepF
            rw [e]
            exact ⟨[], rfl, by simp⟩
        · have key : ∀ i : Nat, ∃ q : List Value × List IV, i < len → W.cells? 0 (Addr.add ⟨b, off, none⟩ (i * P.cellsOf el)) (P.cellsOf el) = some q.1 ∧ RdL W S q.2 q.1 ∧ RepF P m el q.2 := by
            intro i
            by_cases hi : i < len
            · obtain ⟨ecs, ys, h1, h2, h3⟩ := each i hi
              exact ⟨(ecs, ys), fun _ => ⟨h1, h2, h3⟩⟩
            · exact ⟨([], []), fun k => absurd k hi⟩
          let E : Nat → List IV := fun i => (Classical.choose (key i)).2
          have hE : ∀ i, i < len → ∃ ecs, W.cells? 0 (Addr.add ⟨b, off, none⟩ (i * P.cellsOf el)) (P.cellsOf el) = some ecs ∧ RdL W S (E i) ecs ∧ RepF P m el (E i) := fun i hi => ⟨_, Classical.choose_spec (key i) hi⟩
          have hlE : ∀ i, i < len → (E i).length = P.cellsOf el := by
            intro i hi
            obtain ⟨ecs, h1, h2, _⟩ := hE i hi
            rw [h2.1]
            exact (World.cells?_some h1).2.1
          let es : List IV := (List.range len).map fun i => mkE P el (E i)
          have hes : es.length = len := by simp [es]
          have hget : ∀ (i : Nat) (x : IV), es[i]? = some x → i < len ∧ x = mkE P el (E i) := by
            intro i x hx
            have hi : i < len := by have := (List.getElem?_eq_some_iff.1 hx).1; omega
            simp [es, hi] at hx
            exact ⟨hi, hx.symm⟩
          have hcell : ∀ i j, i < len → j < P.cellsOf el → ∃ v, W.cell? ⟨b, off + (i * P.cellsOf el + j), none⟩ = some v ∧ (∀ x, (E i)[j]? = some x → Rd W S x v ∧ v.oneCell' = true) := by
            intro i j hi hj
            obtain ⟨ecs, h1, h2, _⟩ := hE i hi
            have hc := World.cells?_some h1
            have hg : ecs[j]? = some (ecs[j]'(by have := hc.2.1; omega)) := by simp [show j < ecs.length by have := hc.2.1; omega]
            have := hc.2.2 j hj
            rw [hg] at this
            refine ⟨_, by simpa [add_plain, Nat.add_assoc] using this, fun x hx => h2.2 j x _ hx hg⟩
          refine ⟨[.slc (P.cellsOf el) es], RdL.one ?_ rfl, ?_⟩
          · have hR : Rd W S (.slc (P.cellsOf el) es) (.slice (some ⟨b, off, none⟩) es.length cap) := by
              refine .slc (P.cellsOf el) es b off cap (fun i => (W.cell? ⟨b, off + i, none⟩).getD (.bool true)) (by omega) (fun i hi => ?_) (fun i x hx => ?_) (fun i x j y hx hy => ?_) (fun i x j y hx hy => ?_)
              · rw [hes] at hi
                have hz : i = i / P.cellsOf el * P.cellsOf el + i % P.cellsOf el := by rw [Nat.mul_comm]; exact (Nat.div_add_mod i _).symm
                have hq : i / P.cellsOf el < len := Nat.div_lt_of_lt_mul (by rw [Nat.mul_comm]; exact hi)
                obtain ⟨v, hv, _⟩ := hcell (i / P.cellsOf el) (i % P.cellsOf el) hq (Nat.mod_lt _ (by omega))
                rw [← hz] at hv
                exact ⟨hS _ _ v hv, by rw [hv]; rfl⟩
              · obtain ⟨hi, rfl⟩ := hget i x hx
                obtain ⟨_, _, _, h3⟩ := hE i hi
                rw [mkE_cells h3, hlE i hi]
              · obtain ⟨hi, rfl⟩ := hget i x hx
                obtain ⟨_, _, _, h3⟩ := hE i hi
                rw [mkE_cells h3] at hy
                have hj : j < P.cellsOf el := by have := (List.getElem?_eq_some_iff.1 hy).1; have := hlE i hi; omega
                obtain ⟨v, hv, hr⟩ := hcell i j hi hj
                rw [hv]
                exact (hr y hy).1
              · obtain ⟨hi, rfl⟩ := hget i x hx
                obtain ⟨_, _, _, h3⟩ := hE i hi
                rw [mkE_cells h3] at hy
                have hj : j < P.cellsOf el := by have := (List.getElem?_eq_some_iff.1 hy).1; have := hlE i hi; omega
                obtain ⟨v, hv, hr⟩ := hcell i j hi hj
                rw [hv]
                exact (hr y hy).2
            rw [hes] at hR
            exact hR
          · unfold RepF
            rw [e]
            refine ⟨es, rfl, fun x hx => ?_⟩
            obtain ⟨i, hi0⟩ := List.getElem?_of_mem hx
            obtain ⟨hi, rfl⟩ := hget i x hi0
            obtain ⟨_, _, _, h3⟩ := hE i hi
            exact ⟨E i, h3, rfl⟩
    · rename_i fs e
      obtain ⟨ys, k, _, _, hcl, _, hf⟩ := DataW.trod_struct e h
      refine ⟨hcl, ?_⟩
      have go : ∀ (r : List Field) (off j : Nat), plainFs P (plainT P top m) off r (P.cellsOf t) = true → (∀ (i : Nat) (f : Field), r[i]? = some f → (DataW.trod enc P W 0 spare held k f.type ((cs.drop f.offset).take (P.cellsOf f.type))) = ys[j + i]?) →
          j + r.length = ys.length → off ≤ cs.length → ∃ xs, RdL W S xs (cs.drop off) ∧ RepFs (RepF P m) r xs := by
        intro r
        induction r with
        | nil =>
          intro off j h1 _ _ _
          simp [plainFs] at h1
          refine ⟨[], ?_, by simp [RepFs]⟩
          rw [h1, ← hcl, List.drop_length]
          exact RdL.nil
        | cons f r ihr =>
          intro off j h1 h2 h3 h4
          unfold plainFs at h1
          simp only [Bool.and_eq_true, beq_iff_eq] at h1
          obtain ⟨⟨ho, hpf⟩, hrest⟩ := h1
          simp only [List.length_cons] at h3
          have hy := h2 0 f rfl
          rw [Nat.add_zero, show ys[j]? = some (ys[j]'(by omega)) by simp [show j < ys.length by omega]] at hy
          obtain ⟨hlen, xs, hx, hrep⟩ := ih top f.type hpf k _ _ (fun ht a len cap hm => hsp ht a len cap (List.mem_of_mem_drop (List.mem_of_mem_take hm))) hy
          have hlen2 : off + P.cellsOf f.type ≤ cs.length := by
            rw [ho] at hlen
            simp at hlen
            omega
          obtain ⟨zs, hz, hrz⟩ := ihr (off + P.cellsOf f.type) (j + 1) hrest (fun i f' hf' => by rw [h2 (i + 1) f' (by simpa using hf')]; congr 1; omega) (by omega) hlen2
          refine ⟨xs ++ zs, ?_, ?_⟩
          · have := hx.append hz
            rw [ho] at this
            have e2 : (cs.drop off).take (P.cellsOf f.type) ++ cs.drop (off + P.cellsOf f.type) = cs.drop off := by
              rw [← List.drop_drop, List.take_append_drop]
            rwa [e2] at this
          · unfold RepFs
            exact ⟨xs, zs, rfl, hrep, hrz⟩
      obtain ⟨xs, hx, hr⟩ := go fs.toList 0 0 hp (fun i f hi => by rw [Nat.zero_add]; exact hf i f (by simpa using hi)) (by simp; omega) (Nat.zero_le _)
      refine ⟨xs, by simpa using hx, ?_⟩
      unfold RepF
      rw [e]
      exact hr
    · rename_i k el hu
      simp only [Bool.and_eq_true, beq_iff_eq] at hp
      obtain ⟨hp1, hp2⟩ := hp
      obtain ⟨ys, j, _, _, hcl, hlen, hf⟩ := DataW.trod_array hu h
      refine ⟨hcl, ?_⟩
      have go : ∀ (r i : Nat), i + r = k → ∃ xs, RdL W S xs (cs.drop (i * P.cellsOf el)) ∧ RepAs (RepF P m el) r xs := by
        intro r
        induction r with
        | zero =>
          intro i hi
          refine ⟨[], ?_, rfl⟩
          rw [List.drop_of_length_le (by rw [hcl, hp1, ← hi, Nat.add_zero]; exact Nat.le_refl _)]
          exact RdL.nil
        | succ r ihr =>
          intro i hi
          have hy := hf i (by omega)
          rw [show ys[i]? = some (ys[i]'(by omega)) by simp [show i < ys.length by omega]] at hy
          obtain ⟨_, xs, hx, hrep⟩ := ih top el hp2 j _ _ (fun ht a len cap hm => hsp ht a len cap (List.mem_of_mem_drop (List.mem_of_mem_take hm))) hy
          obtain ⟨zs, hz, hrz⟩ := ihr (i + 1) (by omega)
          refine ⟨xs ++ zs, ?_, xs, zs, rfl, hrep, hrz⟩
          have := hx.append hz
          have e2 : (cs.drop (i * P.cellsOf el)).take (P.cellsOf el) ++ cs.drop ((i + 1) * P.cellsOf el) = cs.drop (i * P.cellsOf el) := by
            rw [Nat.succ_mul, ← List.drop_drop, List.take_append_drop]
          rwa [e2] at this
      obtain ⟨xs, hx, hr⟩ := go k 0 (by omega)
      refine ⟨xs, by simpa using hx, ?_⟩
      unfold RepF
      rw [hu]
      exact hr
    · cases hp
end
end Go.DI

/- A law: if its contract on data is 'true' for all data of its parameters' types, then the call does what the row says. No condition. -/
namespace Go.DI
open Go.ChangeShapes Go.WideShapes Go.ChangeAt Go.RowKit

section
variable {H : Type} {enc : TypeId × Value → H} {P : Program} {W : World}

theorem repF_int {m : Nat} {t : TypeId} {xs : List IV} (hu : P.underlying t = some (.int .i64)) (h : RepF P (m + 1) t xs) : ∃ n : Int, xs = [.int .i64 n] ∧ -9223372036854775808 ≤ n ∧ n ≤ 9223372036854775807 := by
  unfold RepF at h; rw [hu] at h; exact h
theorem repF_struct {m : Nat} {t : TypeId} {fs : Array Field} {xs : List IV} (hu : P.underlying t = some (.struct fs)) (h : RepF P (m + 1) t xs) : RepFs (RepF P m) fs.toList xs := by
  unfold RepF at h; rw [hu] at h; exact h
theorem mkE_struct {t : TypeId} {fs : Array Field} {xs : List IV} (h : P.underlying t = some (.struct fs)) : mkE P t xs = .agg xs := by
  unfold mkE isStructT; rw [h]; rfl
theorem mkE_one {t : TypeId} {d : TypeDesc} {x : IV} (h : P.underlying t = some d) (hd : ∀ fs, d ≠ .struct fs) (ha : ∀ k e, d ≠ .array k e := by intro _ _ k; cases k) : mkE P t [x] = x := by
  unfold mkE isStructT; rw [h]
  cases d <;> first | rfl | exact absurd rfl (hd _) | exact absurd rfl (ha _ _)
theorem map_form {α : Type} {f : α → IV} : ∀ {es : List IV}, (∀ x ∈ es, ∃ a, x = f a) → ∃ l : List α, es = l.map f
  | [], _ => ⟨[], rfl⟩
  | x :: es, h => by
    obtain ⟨a, rfl⟩ := h x (by simp)
    obtain ⟨l, rfl⟩ := map_form (es := es) (fun y hy => h y (by simp [hy]))
    exact ⟨a :: l, rfl⟩
theorem repF_slice {α : Type} {f : α → IV} {m n : Nat} {t e : TypeId} {xs : List IV} (hu : P.underlying t = some (.slice e)) (hc : P.cellsOf e = n) (hf : ∀ ys, RepF P m e ys → ∃ a, mkE P e ys = f a) (h : RepF P (m + 1) t xs) :
    ∃ l : List α, xs = [.slc n (l.map f)] := by
  unfold RepF at h; rw [hu] at h
  obtain ⟨es, rfl, he⟩ := h
  obtain ⟨l, rfl⟩ := map_form (f := f) (es := es) (fun x hx => by
    obtain ⟨ys, h1, rfl⟩ := he x hx
    exact hf ys h1)
  exact ⟨l, by rw [hc]⟩

theorem spot_of {r : Reach} {base : Nat} {t : TypeId} {a : Addr} {len cap : Nat} (h : Cell.okWide P W r base t (.slice (some a) len cap)) : a.spot = none := by
  have h : Cell.ok P W r base t (.slice (some a) len cap) := by
    unfold Cell.okWide at h
    split at h <;> first | exact h | simp_all
  unfold Cell.ok at h
  split at h <;> simp_all [World.has]

def Typed (P : Program) (m : Nat) : List TypeId → List IV → Prop
  | [], us => us = []
  | t :: ts, us => ∃ xs bs, us = mkE P t xs :: bs ∧ RepF P m t xs ∧ Typed P m ts bs

theorem cells_one {base : Nat} {t : TypeId} {v : Value} {r : Reach} (h : Cell.okWide P W r base t v) (hs : ∀ cs, v ≠ .agg cs) : v.cells.toList = [v] := by
  cases v <;> first | rfl | exact absurd rfl (hs _)

theorem open_arg {base : Nat} {m : Nat} {t : TypeId} {v : Value} {d : DataW H} {p : List MemPlace} (hp : plainT P true m t = true) (hv : Value.okWide P W .any base t v) (h : DataW.Trod enc P W 0 (fun _ => true) true t v d p)
    {S : Nat → Nat → Prop} (hS : ∀ b o v, W.cell? ⟨b, o, none⟩ = some v → S b o) : ∃ xs, Rd W S (mkE P t xs) v ∧ RepF P m t xs := by
  obtain ⟨fuel, hf⟩ := h
  cases m with
  | zero => simp [plainT] at hp
  | succ m =>
    by_cases hst : isStructT P t = true
    · have hv2 : ∃ cs, v = .agg cs ∧ cs.size = P.cellsOf t ∧ Row.okWide P W .any base t cs := by
        unfold isStructT at hst
        unfold Value.okWide at hv
        split at hst
        · rename_i fs e; rw [e] at hv; exact hv
        · rename_i k el e; rw [e] at hv; exact hv
        · cases hst
      obtain ⟨cs, rfl, _, ts, _, _, hc⟩ := hv2
      obtain ⟨_, xs, hx, hr⟩ := open_cells hS (m + 1) true t hp fuel _ _ (fun _ a len cap hm => by
        simp [Value.cells] at hm
        obtain ⟨i, hi, he⟩ := Array.getElem_of_mem hm
        obtain ⟨u, _, hu⟩ := hc i (.slice (some a) len cap) (by rw [Array.getElem?_eq_getElem hi, he])
        exact spot_of hu) hf
      refine ⟨xs, ?_, hr⟩
      unfold mkE
      rw [if_pos hst]
      have e : cs = cs.toList.toArray := by simp
      rw [e]
      simp only [Value.cells] at hx
      exact .agg xs cs.toList hx.1.symm (fun i x v hx' hv' => (hx.2 i x v hx' hv').1) (fun i v hv' => by
        have hi : i < xs.length := by have := (List.getElem?_eq_some_iff.1 hv').1; have := hx.1; omega
        exact (hx.2 i xs[i] v (by simp [hi]) hv').2)
    · have hst' : isStructT P t = false := by simpa using hst
      have hv2 : Cell.okWide P W .any base t v ∧ ∀ cs, v ≠ .agg cs := by
        unfold plainT at hp
        split at hp
        · rename_i e
          simp only [Value.okWide, e, Cell.okWide] at hv ⊢
          refine ⟨hv, fun cs k => ?_⟩
          subst k
          simp [Cell.ok, e] at hv
        · rename_i e
          simp only [Value.okWide, e, Cell.okWide] at hv ⊢
          refine ⟨hv, fun cs k => ?_⟩
          subst k
          simp [Cell.ok, e] at hv
        · rename_i e
          simp only [Value.okWide, e, Cell.okWide] at hv ⊢
          refine ⟨hv, fun cs k => ?_⟩
          subst k
          simp [Cell.ok, e] at hv
        · rename_i e
          simp only [Value.okWide, e, Cell.okWide] at hv ⊢
          refine ⟨hv, fun cs k => ?_⟩
          subst k
          simp [Cell.ok, e] at hv
        · rename_i fs e
          simp [isStructT, e] at hst'
        · rename_i k el e
          simp [isStructT, e] at hst'
        · cases hp
      have hone := cells_one hv2.1 hv2.2
      rw [hone] at hf
      obtain ⟨_, xs, hx, hr⟩ := open_cells hS (m + 1) true t hp fuel _ _ (fun _ a len cap hm => by
        simp at hm
        subst hm
        exact spot_of hv2.1) hf
      refine ⟨xs, ?_, hr⟩
      obtain ⟨x, rfl, _⟩ := rd_len1 hst' hr
      unfold mkE
      rw [if_neg hst]
      exact (hx.2 0 x v rfl rfl).1

theorem open_args {base : Nat} {m : Nat} {S : Nat → Nat → Prop} (hS : ∀ b o v, W.cell? ⟨b, o, none⟩ = some v → S b o) : ∀ (ts : List TypeId) (vs : List Value) (ds : List (DataW H)) (p : List MemPlace), (∀ t ∈ ts, plainT P true m t = true) →
    (∀ (j : Nat) t v, ts[j]? = some t → vs[j]? = some v → Value.okWide P W .any base t v) → DataW.TrodAll enc P W 0 (fun _ => true) true ts vs ds p →
    ∃ us : List IV, Typed P m ts us ∧ vs.length = us.length ∧ ds.length = ts.length ∧ ∀ (i : Nat) (a : IV) (v : Value), us[i]? = some a → vs[i]? = some v → Rd W S a v
  | [], [], [], p, _, _, _ => ⟨[], rfl, rfl, rfl, by simp⟩
  | t :: ts, v :: vs, d :: ds, p, hp, hv, h => by
    obtain ⟨p1, q, h1, h2, _⟩ := h
    obtain ⟨xs, hx, hr⟩ := open_arg (hp t (by simp)) (hv 0 t v rfl rfl) h1 hS
    obtain ⟨us, ha, hl, hd, hg⟩ := open_args hS ts vs ds q (fun t' ht => hp t' (by simp [ht])) (fun j t' v' h1 h2 => hv (j + 1) t' v' (by simpa using h1) (by simpa using h2)) h2
    refine ⟨mkE P t xs :: us, ⟨xs, us, rfl, hr, ha⟩, by simp [hl], by simp [hd], fun i a u hi hu => ?_⟩
    cases i with
    | zero => simp at hi hu; subst hi; subst hu; exact hx
    | succ i => exact hg i a u (by simpa using hi) (by simpa using hu)
  | [], _ :: _, _, _, _, _, h => by cases h
  | [], [], _ :: _, _, _, _, h => by cases h
  | _ :: _, [], _, _, _, _, h => by cases h
  | _ :: _, _ :: _, [], _, _, _, h => by cases h

theorem trodAll_below (hl : laidOutB P = true) {W' : World} (hb : Below W.heap.size W W') : ∀ (ts : List TypeId) (vs : List Value) (ds : List (DataW H)) (p : List MemPlace), (∀ t ∈ ts, P.readableRec t = true ∧ t < P.types.size) →
    DataW.TrodAll enc P W 0 (fun _ => true) true ts vs ds p → (∀ x ∈ p, x.block < W.heap.size) → DataW.TrodAll enc P W' 0 (fun b => decide (b < W.heap.size)) true ts vs ds p
  | [], [], [], p, _, h, _ => h
  | t :: ts, v :: vs, d :: ds, p, hp, h, hlt => by
    obtain ⟨p1, q, h1, h2, rfl⟩ := h
    exact ⟨p1, q, Below.trod hl (hp t (by simp)).1 (hp t (by simp)).2 h1 hb (fun x hx => hlt x (by simp [hx])),
      trodAll_below hl hb ts vs ds q (fun t' ht => hp t' (by simp [ht])) h2 (fun x hx => hlt x (by simp [hx])), rfl⟩
  | [], _ :: _, _, _, _, h, _ => by cases h
  | [], [], _ :: _, _, _, h, _ => by cases h
  | _ :: _, [], _, _, _, h, _ => by cases h
  | _ :: _, _ :: _, [], _, _, h, _ => by cases h

theorem law_calls {f : FuncId} {fn : Func} {m : Nat} {s : ChangeSpec} {bt : TypeId} (hl : laidOutB P = true) (hres : fn.resultTypes = #[bt]) (hbt : P.underlying bt = some .bool) (hsv : s.vars = [])
    (hpl : fn.params.toList.all (fun t => plainT P true m t && P.readableRec t && decide (t < P.types.size)) = true)
    (hspec : ∀ (ds : List (DataW H)), ds.length = fn.params.toList.length → (s.fn H (ds ++ [])).results = [.lit (.bool true)] ∧ (s.fn H (ds ++ [])).args = ds ∧ (s.fn H (ds ++ [])).vars = [])
    (hcon : ∀ us : List IV, Typed P m fn.params.toList us → Contract P f us (.bool true))
    {base : Nat} {args : Array Value} {ds gs : List (DataW H)} {before : List MemPlace}
    (hval : ∀ (j : Nat) t v, fn.params[j]? = some t → args[j]? = some v → Value.okWide P W .any base t v)
    (hW : DataW.Whole enc P fn.params.toList s.vars false W args.toList ds gs before) :
    Calls P f args W fun e W' => ∃ v, e = .returned v ∧ s.post enc P fn false true false false W args v W' := by
  have hW' := hW
  obtain ⟨p, q, hA, hV, rfl, hfz, hnd⟩ := hW
  rw [hsv] at hV
  obtain ⟨rfl, rfl⟩ := trodVars_none hV
  have hpl' : ∀ t ∈ fn.params.toList, plainT P true m t = true ∧ P.readableRec t = true ∧ t < P.types.size := by
    intro t ht
    have := List.all_eq_true.1 hpl t ht
    simpa [and_assoc] using this
  have hlt : ∀ x ∈ p, x.block < W.heap.size := fun x hx => hW'.lt x (by simp [hx])
  have hS : ∀ (b o : Nat) (v : Value), W.cell? ⟨b, o, none⟩ = some v → b < W.heap.size := by
    intro b o v h
    apply Decidable.byContradiction
    intro hn
    have : W.heap[b]? = none := by simp; omega
    simp [World.cell?, this] at h
  obtain ⟨us, hT, hlen, hdl, hg⟩ := open_args (S := fun b _ => b < W.heap.size) hS fn.params.toList args.toList ds p (fun t ht => (hpl' t ht).1) (fun j t v h1 h2 => hval j t v (by simpa using h1) (by simpa using h2)) hA
  obtain ⟨_, hC⟩ := hcon us hT
  have := hC W (fun b _ => b < W.heap.size) args.toList (fun _ _ h => h) hlen (fun i d v h1 h2 => hg i d v h1 h2)
  have e : args.toList.toArray = args := by simp
  rw [e] at this
  refine this.mono ?_
  rintro x W' ⟨v, S', rfl, hb, _, _, _, hr⟩
  cases hr
  obtain ⟨s1, s2, s3⟩ := hspec ds hdl
  refine ⟨_, rfl, ds, [], _, [], p, [], hW', ?_, ?_, ?_, hb.frame _, fun h => by cases h⟩
  · rw [s1, hres]
    exact trodAll_mk1 (shut_bool hbt true)
  · rw [s2]
    exact trodAll_below hl hb _ _ _ _ (fun t ht => (hpl' t ht).2) hA hlt
  · rw [s3, hsv]; rfl
end
end Go.DI

/- What the parameters' types of the wave statements hold, as data. No condition. -/
set_option maxRecDepth 100000
namespace Go.DI
open Go.Proofs Go.Proofs.Ytadmimjaelodkaa Go.RowKit

theorem rep_int {m : Nat} {xs : List IV} (h : RepF Try.prog (m + 1) 3 xs) : ∃ n : Int, xs = [.int .i64 n] ∧ -9223372036854775808 ≤ n ∧ n ≤ 9223372036854775807 := repF_int Try.underlying3 h
theorem arg_int {m : Nat} {xs : List IV} (h : RepF Try.prog (m + 1) 3 xs) : ∃ n : Int, mkE Try.prog 3 xs = .int .i64 n ∧ -9223372036854775808 ≤ n ∧ n ≤ 9223372036854775807 := by
  obtain ⟨n, rfl, hb⟩ := rep_int h
  exact ⟨n, mkE_one Try.underlying3 (fun _ k => by cases k), hb⟩
theorem cells_of_int : Try.prog.cellsOf 3 = 1 := by kernel_rfl
theorem rep_ints {m : Nat} {xs : List IV} (h : RepF Try.prog (m + 2) 23 xs) : ∃ l : List Int, xs = [nI l] :=
  repF_slice (f := IV.int .i64) Try.underlying23 cells_of_int (fun ys h => by
    obtain ⟨n, e, _⟩ := arg_int h
    exact ⟨n, e⟩) h
theorem arg_pipe {m : Nat} (xs : List IV) (h : RepF Try.prog (m + 2) 130 xs) : ∃ p : Pp, mkE Try.prog 130 xs = ppI p := by
  obtain ⟨a, b, rfl, h1, c, d, rfl, h2, rfl⟩ := repF_struct Try.underlying130 h
  obtain ⟨x, rfl, _⟩ := rep_int h1
  obtain ⟨y, rfl, _⟩ := rep_int h2
  exact ⟨(x, y), mkE_struct Try.underlying130⟩
theorem cells_pipe : Try.prog.cellsOf 130 = 2 := by kernel_rfl
theorem rep_pipes {m : Nat} {xs : List IV} (h : RepF Try.prog (m + 3) 22 xs) : ∃ l : List Pp, xs = [.slc 2 (l.map ppI)] :=
  repF_slice (f := ppI) Try.underlying22 cells_pipe (fun ys h => arg_pipe ys h) h
theorem arg_line {m : Nat} {xs : List IV} (h : RepF Try.prog (m + 4) 25 xs) : ∃ x : Ln, mkE Try.prog 25 xs = lnI x := by
  obtain ⟨a, b, rfl, h1, c, d, rfl, h2, rfl⟩ := repF_struct Try.underlying25 h
  obtain ⟨x, rfl⟩ := rep_pipes h1
  obtain ⟨y, rfl⟩ := rep_ints h2
  exact ⟨⟨x, y⟩, mkE_struct Try.underlying25⟩
theorem rep_range {m : Nat} {xs : List IV} (h : RepF Try.prog (m + 2) 79 xs) : ∃ a b : Int, xs = [.int .i64 a, .int .i64 b] := by
  obtain ⟨a, b, rfl, h1, c, d, rfl, h2, rfl⟩ := repF_struct Try.underlying79 h
  obtain ⟨x, rfl, _⟩ := rep_int h1
  obtain ⟨y, rfl, _⟩ := rep_int h2
  exact ⟨x, y, rfl⟩
theorem arg_wtask {m : Nat} {xs : List IV} (h : RepF Try.prog (m + 3) 81 xs) : ∃ t : Tk, mkE Try.prog 81 xs = tkI t := by
  obtain ⟨a, b, rfl, h1, c, d, rfl, h2, e, f, rfl, h3, g, k, rfl, h4, rfl⟩ := repF_struct Try.underlying81 h
  obtain ⟨x, rfl, _⟩ := rep_int h1
  obtain ⟨y, rfl, _⟩ := rep_int h2
  obtain ⟨z, rfl, _⟩ := rep_int h3
  obtain ⟨lo, hi, rfl⟩ := rep_range h4
  exact ⟨⟨x, y, z, lo, hi⟩, mkE_struct Try.underlying81⟩
end Go.DI
namespace Go.Proofs.Ytadmimjaelodkaa
theorem Try.own : ownKnob Try.prog.godebug = none := by kernel_rfl
theorem Try.laidOut : laidOutB Try.prog = true := by kernel_rfl
end Go.Proofs.Ytadmimjaelodkaa

