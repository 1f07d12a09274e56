/- Boxes as plain data: enclosed. No condition. -/
import Derived.Test.YtdpfjbghiahbeaaKf
import Derived.Test.YtdpfjbghiahbeaaKxa
namespace Go.DI
open Sg

/-- A state in a box. -/
def InB (b : Bx) (s : Sta) : Prop := Wi s.L b.ll b.lh ∧ Wi s.F b.fl b.fh
instance (b : Bx) (s : Sta) : Decidable (InB b s) := inferInstanceAs (Decidable (_ ∧ _))
/-- A box in a box. -/
def Sub (a b : Bx) : Prop := b.ll ≤ a.ll ∧ a.lh ≤ b.lh ∧ b.fl ≤ a.fl ∧ a.fh ≤ b.fh

theorem bstp_in {r : Ru} (hr : Sg.Good r) {b : Bx} {s : Sta} {load k : Int} (hl : 0 ≤ load ∧ load ≤ 1000) (hk : r.lo ≤ k ∧ k ≤ r.hi) (h : InB b s) (hb : -1000 ≤ b.fl ∧ b.fh ≤ 1000) : InB (bstp r b load) (stp r s load k) := by
  have k0 := hr.lo; have k1 := hr.le
  obtain ⟨⟨h1, h2⟩, h3, h4⟩ := h
  have m := stp_k hr (s := s) (load := load) hk
  have c1 := stp_corner hr (load := load) (k := r.lo) (L1 := b.ll) (L2 := s.L) (F1 := b.fl) (F2 := s.F) (by omega) hl h1 hb.1 h3 (by omega)
  have c2 := stp_corner hr (load := load) (k := r.hi) (L1 := b.ll) (L2 := s.L) (F1 := b.fl) (F2 := s.F) (by omega) hl h1 hb.1 h3 (by omega)
  have c3 := stp_corner hr (load := load) (k := r.lo) (L1 := s.L) (L2 := b.lh) (F1 := s.F) (F2 := b.fh) (by omega) hl h2 (by omega) h4 (by omega)
  have c4 := stp_corner hr (load := load) (k := r.hi) (L1 := s.L) (L2 := b.lh) (F1 := s.F) (F2 := b.fh) (by omega) hl h2 (by omega) h4 (by omega)
  have c5 := stp_corner hr (load := load) (k := r.lo) (L1 := s.L) (L2 := b.lh) (F1 := b.fl) (F2 := s.F) (by omega) hl h2 hb.1 h3 (by omega)
  have c6 := stp_corner hr (load := load) (k := r.hi) (L1 := s.L) (L2 := b.lh) (F1 := b.fl) (F2 := s.F) (by omega) hl h2 hb.1 h3 (by omega)
  have c7 := stp_corner hr (load := load) (k := r.lo) (L1 := b.ll) (L2 := s.L) (F1 := s.F) (F2 := b.fh) (by omega) hl h1 (by omega) h4 (by omega)
  have c8 := stp_corner hr (load := load) (k := r.hi) (L1 := b.ll) (L2 := s.L) (F1 := s.F) (F2 := b.fh) (by omega) hl h1 (by omega) h4 (by omega)
  obtain ⟨L, F⟩ := s
  unfold InB Wi bstp
  dsimp only at *
  omega

theorem bstp_sub {r : Ru} (hr : Sg.Good r) {a b : Bx} {load : Int} (hl : 0 ≤ load ∧ load ≤ 1000) (h : Sub a b) (h2 : a.fl ≤ a.fh) (hb : -1000 ≤ b.fl ∧ b.fh ≤ 1000) : Sub (bstp r a load) (bstp r b load) := by
  have k0 := hr.lo; have k1 := hr.le
  obtain ⟨g1, g2, g3, g4⟩ := h
  have c1 := stp_corner hr (load := load) (k := r.lo) (L1 := b.ll) (L2 := a.ll) (F1 := b.fl) (F2 := a.fl) (by omega) hl g1 hb.1 g3 (by omega)
  have c2 := stp_corner hr (load := load) (k := r.hi) (L1 := b.ll) (L2 := a.ll) (F1 := b.fl) (F2 := a.fl) (by omega) hl g1 hb.1 g3 (by omega)
  have c3 := stp_corner hr (load := load) (k := r.lo) (L1 := a.lh) (L2 := b.lh) (F1 := a.fh) (F2 := b.fh) (by omega) hl g2 (by omega) g4 (by omega)
  have c4 := stp_corner hr (load := load) (k := r.hi) (L1 := a.lh) (L2 := b.lh) (F1 := a.fh) (F2 := b.fh) (by omega) hl g2 (by omega) g4 (by omega)
  have c5 := stp_corner hr (load := load) (k := r.lo) (L1 := a.lh) (L2 := b.lh) (F1 := b.fl) (F2 := a.fl) (by omega) hl g2 hb.1 g3 (by omega)
  have c6 := stp_corner hr (load := load) (k := r.hi) (L1 := a.lh) (L2 := b.lh) (F1 := b.fl) (F2 := a.fl) (by omega) hl g2 hb.1 g3 (by omega)
  have c7 := stp_corner hr (load := load) (k := r.lo) (L1 := b.ll) (L2 := a.ll) (F1 := a.fh) (F2 := b.fh) (by omega) hl g1 (by omega) g4 (by omega)
  have c8 := stp_corner hr (load := load) (k := r.hi) (L1 := b.ll) (L2 := a.ll) (F1 := a.fh) (F2 := b.fh) (by omega) hl g1 (by omega) g4 (by omega)
  unfold Sub bstp
  dsimp only
  omega
end Go.DI

