/- Sums of states on plain lines. No condition. -/
import Derived.Test.YtadmimjaelodkaaSmm
set_option linter.unusedSimpArgs false
namespace Go.DI

/-- What a tick does on a plain line. -/
structure PlAt (x : Ln) (s : Ws) (c : Int) (N : Nat) (s' : Ws) : Prop where
  f0 : s'.F.getD 0 0 = -(s.B.getD 0 0)
  bN : s'.B.getD N 0 = s.F.getD N 0 + c
  fi : ∀ i, i < N → s'.F.getD (i + 1) 0 = s.F.getD i 0 ∧ s'.B.getD i 0 = s.B.getD (i + 1) 0
  l : ∀ j, j < x.ar.length → s'.L.getD j 0 = s.F.getD (bJ x j) 0 + s.B.getD (bJ x j + 1) 0
theorem pl_at {x : Ln} {s : Ws} {c M : Int} {N : Nat} (hx : LineOk x) (hp : plainL x = true) (hs : Sh (opn x) s) (hg : Gd M s) (hM : M ≤ 10000000) (hc : -10000000 ≤ c ∧ c ≤ 10000000) (hN : (opn x).n.toNat = N + 1) : PlAt x s c N (stp (opn x) s c) := by
  have h := stp_at hx hs hg hM hc hN
  obtain ⟨y, hy, hpp, har⟩ := plain_at hx hp
  have hars := hx.ars
  have hpj : ∀ j, j < x.ar.length → pJ x s j = s.F.getD (bJ x j) 0 + s.B.getD (bJ x j + 1) 0 := by
    intro j hj
    have ho := j_ok hx hj
    unfold pJ
    rw [show (admL x.pp).getD (bJ x j) 0 = y by rw [ho.y]; exact hpp j (by omega), show (admL x.pp).getD (bJ x j + 1) 0 = y by rw [ho.w]; exact hpp (j + 1) (by omega), har j]
    exact jI_plain hy.1
  refine ⟨h.f0, h.bN, fun i hi => ?_, fun j hj => by rw [(h.fj j hj).2.2, hpj j hj]⟩
  by_cases hj : ∃ j, j < x.ar.length ∧ bJ x j = i
  · obtain ⟨j, hj, rfl⟩ := hj
    obtain ⟨e1, e2, _⟩ := h.fj j hj
    rw [e1, e2, hpj j hj]
    omega
  · exact h.fi i hi fun j h1 h2 => hj ⟨j, h1, h2⟩
theorem pl_gd {x : Ln} {s : Ws} {c M : Int} {N : Nat} (hx : LineOk x) (hp : plainL x = true) (hs : Sh (opn x) s) (hg : Gd M s) (hM : 0 ≤ M ∧ M ≤ 10000000) (hc : -1000 ≤ c ∧ c ≤ 1000) (hN : (opn x).n.toNat = N + 1) : Gd (M + 1000) (stp (opn x) s c) := by
  have hn := (opn_ok hx).nb
  have h := pl_at (c := c) hx hp hs hg hM.2 (by omega) hN
  have hsh := sh_stp (c := c) hs hn.1
  have sF := hsh.f; have sB := hsh.b; have sL := hsh.l
  have har : (opn x).ar.length = x.ar.length := rfl
  refine ⟨fun i => ⟨?_, ?_⟩, fun j => ?_⟩
  · cases i with
    | zero => rw [h.f0]; have := (hg.b 0).2; omega
    | succ i =>
      by_cases hi : i < N
      · rw [(h.fi i hi).1]; have := (hg.b i).1; omega
      · rw [getD_out (by omega)]; omega
  · by_cases hi : i < N
    · rw [(h.fi i hi).2]; have := (hg.b (i + 1)).2; omega
    · by_cases he : i = N
      · subst he
        rw [h.bN]; have := (hg.b i).1; omega
      · rw [getD_out (by omega)]; omega
  · by_cases hj : j < x.ar.length
    · rw [h.l j hj]
      have h1 := (hg.b (bJ x j)).1
      have h2 := (hg.b (bJ x j + 1)).2
      omega
    · rw [getD_out (by omega)]; omega
/-- Is a state the sum of two, but for the pressures of junctions; those too? -/
def SumR (n : Nat) (a b u : Ws) : Prop := ∀ i, i < n → u.F.getD i 0 = a.F.getD i 0 + b.F.getD i 0 ∧ u.B.getD i 0 = a.B.getD i 0 + b.B.getD i 0
def SumL (m : Nat) (a b u : Ws) : Prop := ∀ j, j < m → u.L.getD j 0 = a.L.getD j 0 + b.L.getD j 0
theorem sum_step {x : Ln} {a b u a' b' u' : Ws} {c d : Int} {N : Nat} (hx : LineOk x) (hN : (opn x).n.toNat = N + 1) (ha : PlAt x a c N a') (hb : PlAt x b d N b') (hu : PlAt x u (c + d) N u') (h : SumR (N + 1) a b u) : SumR (N + 1) a' b' u' ∧ SumL x.ar.length a' b' u' := by
  refine ⟨fun i hi => ⟨?_, ?_⟩, fun j hj => ?_⟩
  · cases i with
    | zero => rw [ha.f0, hb.f0, hu.f0, (h 0 (by omega)).2]; omega
    | succ i => rw [(ha.fi i (by omega)).1, (hb.fi i (by omega)).1, (hu.fi i (by omega)).1, (h i (by omega)).1]
  · by_cases hlt : i < N
    · rw [(ha.fi i hlt).2, (hb.fi i hlt).2, (hu.fi i hlt).2, (h (i + 1) (by omega)).2]
    · have : i = N := by omega
      subst this
      rw [ha.bN, hb.bN, hu.bN, (h i (by omega)).1]; omega
  · have hlt := (j_ok hx hj).lt
    rw [ha.l j hj, hb.l j hj, hu.l j hj, (h (bJ x j) (by omega)).1, (h (bJ x j + 1) (by omega)).2]
    omega
def bothL (cl dl : List Int) : List Int := List.zipWith (fun a b => W6 (a + b)) cl dl
theorem sum_run {x : Ln} {N : Nat} (hx : LineOk x) (hp : plainL x = true) (hN : (opn x).n.toNat = N + 1) : ∀ (cl dl : List Int) (M : Int) (a b u : Ws), cl.length = dl.length → (∀ c ∈ cl, -500 ≤ c ∧ c ≤ 500) → (∀ c ∈ dl, -500 ≤ c ∧ c ≤ 500) → 0 ≤ M → M + 1000 * cl.length ≤ 10000000 → Sh (opn x) a → Sh (opn x) b → Sh (opn x) u → Gd M a → Gd M b → Gd M u → SumR (N + 1) a b u →
    SumR (N + 1) (runS (opn x) a cl) (runS (opn x) b dl) (runS (opn x) u (bothL cl dl)) ∧ (cl ≠ [] → SumL x.ar.length (runS (opn x) a cl) (runS (opn x) b dl) (runS (opn x) u (bothL cl dl))) ∧ Gd (M + 1000 * cl.length) (runS (opn x) a cl) ∧ Gd (M + 1000 * cl.length) (runS (opn x) b dl)
  | [], [], M, a, b, u, _, _, _, _, _, _, _, _, ga, gb, _, h => ⟨h, fun k => absurd rfl k, by simpa [runS] using ga, by simpa [runS] using gb⟩
  | c :: cl, d :: dl, M, a, b, u, hl, hc, hd, hM0, hM, sa, sb, su, ga, gb, gu, h => by
    have hn := (opn_ok hx).nb
    have c1 := hc c (by simp)
    have d1 := hd d (by simp)
    simp only [List.length_cons] at hl hM
    have e : W6 (c + d) = c + d := w6 (by omega) (by omega)
    have pa := pl_at (c := c) hx hp sa ga (by omega) (by omega) hN
    have pb := pl_at (c := d) hx hp sb gb (by omega) (by omega) hN
    have pu := pl_at (c := c + d) hx hp su gu (by omega) (by omega) hN
    have q1 := pl_gd (c := c) hx hp sa ga (by omega) (by omega) hN
    have q2 := pl_gd (c := d) hx hp sb gb (by omega) (by omega) hN
    have q3 := pl_gd (c := c + d) hx hp su gu (by omega) (by omega) hN
    obtain ⟨h1, h2⟩ := sum_step hx hN pa pb pu h
    obtain ⟨r1, r2, r3, r4⟩ := sum_run hx hp hN cl dl (M + 1000) (stp (opn x) a c) (stp (opn x) b d) (stp (opn x) u (c + d)) (by omega) (fun v hv => hc v (by simp [hv])) (fun v hv => hd v (by simp [hv])) (by omega) (by omega) (sh_stp sa hn.1) (sh_stp sb hn.1) (sh_stp su hn.1) q1 q2 q3 h1
    show SumR (N + 1) (runS (opn x) (stp (opn x) a c) cl) (runS (opn x) (stp (opn x) b d) dl) (runS (opn x) (stp (opn x) u (W6 (c + d))) (bothL cl dl)) ∧ (_ → SumL x.ar.length (runS (opn x) (stp (opn x) a c) cl) (runS (opn x) (stp (opn x) b d) dl) (runS (opn x) (stp (opn x) u (W6 (c + d))) (bothL cl dl))) ∧ Gd _ (runS (opn x) (stp (opn x) a c) cl) ∧ Gd _ (runS (opn x) (stp (opn x) b d) dl)
    rw [e]
    refine ⟨r1, fun _ => ?_, ?_, ?_⟩
    · cases cl with
      | nil =>
        cases dl with
        | nil => exact h2
        | cons _ _ => simp at hl
      | cons c2 cl2 => exact r2 (by simp)
    · refine ⟨fun i => ?_, fun j => ?_⟩
      · have := r3.b i
        simp only [List.length_cons]
        omega
      · have := r3.l j
        simp only [List.length_cons]
        omega
    · refine ⟨fun i => ?_, fun j => ?_⟩
      · have := r4.b i
        simp only [List.length_cons]
        omega
      · have := r4.l j
        simp only [List.length_cons]
        omega
  | [], _ :: _, _, _, _, _, hl, _, _, _, _, _, _, _, _, _, _, _ => by simp at hl
  | _ :: _, [], _, _, _, _, hl, _, _, _, _, _, _, _, _, _, _, _ => by simp at hl
end Go.DI

