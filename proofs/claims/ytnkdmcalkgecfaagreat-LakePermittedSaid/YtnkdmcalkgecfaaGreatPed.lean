/- Lakes as plain data: for how many ticks flows are permitted; the beginnings of a run; wider limits. No condition. -/
import Derived.Test.YtnkdmcalkgecfaaGreatPeGn
namespace Go.DI.Lk

/-- For how many ticks nothing is violated. -/
def permL (p : Pair) (L : Lims) : List Sta → Sta → List Flow → Nat
  | _, _, [] => 0
  | ss, s, x :: r => match step p s x with
    | none => 0
    | some (t, _, _) => match vAt p L (nth (ss ++ [t])) ss.length with
      | some _ => 0
      | none => permL p L (ss ++ [t]) t r + 1
def permW : List (Bool × Option Vio) → Nat
  | (true, none) :: r => permW r + 1
  | _ => 0
theorem permW_wat {p : Pair} {L : Lims} : ∀ {l : List Flow} {ss : List Sta} {s : Sta}, permW (wat p L ss s l) = permL p L ss s l
  | [], _, _ => rfl
  | x :: r, ss, s => by
    unfold wat permL
    cases hs : step p s x with
    | none => rfl
    | some q =>
      obtain ⟨t, e, f⟩ := q
      dsimp only
      cases hv : vAt p L (nth (ss ++ [t])) ss.length with
      | none => show permW _ + 1 = _; rw [permW_wat]
      | some q => rfl
/-- The reference looks through the states. -/
theorem perm_scan {p : Pair} {L : Lims} : ∀ {l : List Flow} {ss : List Sta} {s : Sta},
    (match scan p L (nth (ss ++ (runP p s l).1)) (runP p s l).1.length ss.length with
      | some v => v.1 - ss.length
      | none => (runP p s l).1.length) = permL p L ss s l ∧
    ∀ v, scan p L (nth (ss ++ (runP p s l).1)) (runP p s l).1.length ss.length = some v → ss.length ≤ v.1
  | [], _, _ => ⟨rfl, fun v h => by cases h⟩
  | x :: r, ss, s => by
    unfold permL
    cases hs : step p s x with
    | none => rw [runP_none hs]; exact ⟨rfl, fun v h => by cases h⟩
    | some q =>
      obtain ⟨t, e, f⟩ := q
      rw [runP_some hs]
      dsimp only
      have ec : ss ++ t :: (runP p t r).1 = (ss ++ [t]) ++ (runP p t r).1 := by simp
      have h1 : vAt p L (nth (ss ++ t :: (runP p t r).1)) ss.length = vAt p L (nth (ss ++ [t])) ss.length :=
        vAt_congr fun i hi => by rw [ec]; exact nth_left (by simp; omega)
      rw [List.length_cons]
      unfold scan
      rw [h1]
      cases hv : vAt p L (nth (ss ++ [t])) ss.length with
      | some q => exact ⟨Nat.sub_self _, fun v h => by cases h; exact Nat.le_refl _⟩
      | none =>
        dsimp only
        obtain ⟨ih, ih2⟩ := perm_scan (p := p) (L := L) (l := r) (ss := ss ++ [t]) (s := t)
        rw [ec]
        rw [show (ss ++ [t]).length = ss.length + 1 by simp] at ih ih2
        generalize scan p L (nth (ss ++ [t] ++ (runP p t r).1)) (runP p t r).1.length (ss.length + 1) = o at *
        cases o with
        | none => exact ⟨by rw [← ih], fun v h => by cases h⟩
        | some v =>
          have h2 := ih2 v rfl
          dsimp only at ih
          refine ⟨?_, fun u h => by cases h; omega⟩
          show v.1 - ss.length = _
          have ih : v.1 - (ss.length + 1) = permL p L (ss ++ [t]) t r := ih
          exact Nat.sub_eq_of_eq_add (by rw [Nat.eq_add_of_sub_eq h2 ih, Nat.add_assoc, Nat.add_comm 1])

end Go.DI.Lk

