/- The statement SurgeWaits, as a contract. No condition. -/
import Derived.Test.YtaphhpphfffnfaaGreatDoorTwv
set_option linter.unusedSimpArgs false
set_option maxRecDepth 20000
namespace Go.DI
open Go.Proofs Go.RowKit Sg
theorem bBox_true {r:Ru} {p:Pl} {o:List Int} {y:Bool × Int × Int} {b:Bx} (ht : 1≤p.ticks):(bBox r p o y b).1=true:=by
 unfold bBox
 cases hw:brunL r b (loadsP p o) with
 | nil =>
  have h1:=brunL_length (r:=r) (loadsP p o) b
  have h2:=loadsF_length (p:=p) (o:=o) p.ticks.toNat 0 p.load
  unfold loadsP at h1 hw
  rw [hw,h2] at h1
  simp at h1
  omega
 | cons x l=>exact bfold_true (l:=l) (y:=bStp y x) rfl
theorem bOrd_true {r:Ru} {p:Pl} {o:List Int} (ht : 1≤p.ticks):∀ {bs:List Bx} {y:Bool × Int × Int},(bs ≠ []∨y.1=true)→(bOrd r p bs y o).1=true
 | [],_,h=>h.resolve_left (fun k=>k rfl)
 | b :: bs,y,_=>bOrd_true (bs:=bs) (y:=bBox r p o y b) ht (.inr (bBox_true ht))
theorem bound_found {r:Ru} {p:Pl} {bs:List Bx} (ht : 1≤p.ticks) (hb:bs ≠ []):(boundP r p bs).1=true↔ordersP p ≠ []:=by
 have key:∀ (os:List (List Int)) (y:Bool × Int × Int),(os ≠ []∨y.1=true)→(os.foldl (bOrd r p bs) y).1=true:=by
  intro os
  induction os with
  | nil=>intro y h; exact h.resolve_left (fun k=>k rfl)
  | cons o os ih=>intro _ _; exact ih _ (.inr (bOrd_true ht (.inl hb)))
 constructor
 ·intro h k
  unfold boundP at h
  rw [k] at h
  cases h
 ·intro h
  exact key _ _ (.inl h)
theorem cover_ne {v:Cv} (hv:coverE v=0):coverL v ≠ []∧(coverL v).length≤v.parts.toNat * v.parts.toNat:=by
 obtain ⟨hb,hp, -⟩:=coverE_zero.1 hv
 rw [boxErr_zero] at hb
 have ne:∀ {lo hi c:Int},DivOk lo hi c→divL lo hi c ≠ []:=by
  intro lo hi c h
  have a1:=h.a1; have a2:=h.a2; have a3:=h.a3; have a4:=h.a4
  have hm:divP lo hi c (c.toNat - 1) ∈ divL lo hi c:=by
   unfold divL divR
   rw [List.drop_zero,List.mem_flatMap]
   refine ⟨c.toNat - 1,by rw [List.mem_range]; omega,?_⟩
   unfold oneD
   rw [if_pos]
   ·exact List.mem_singleton.2 rfl
   ·have e:(((c.toNat - 1:Nat):Int)+1)=c:=by omega
    unfold divP
    dsimp only
    rw [e,Int.mul_ediv_cancel_left _ (by omega)]
    have:((c.toNat - 1:Nat):Int) * (hi - lo+1) / c<hi - lo+1:=by
     apply Int.ediv_lt_of_lt_mul (by omega)
     rw [Int.mul_comm (hi - lo+1) c]
     exact Int.mul_lt_mul_of_pos_right (by omega) (by omega)
    omega
  intro k
  rw [k] at hm
  cases hm
 have d1:DivOk v.b.ll v.b.lh v.parts:=⟨by omega,by omega,by omega,hp⟩
 have d2:DivOk v.b.fl v.b.fh v.parts:=⟨by omega,by omega,by omega,hp⟩
 have n1:=ne d1
 have n2:=ne d2
 constructor
 ·unfold coverL
  intro k
  cases hx:divL v.b.ll v.b.lh v.parts with
  | nil=>exact n1 hx
  | cons x l =>
   rw [hx] at k
   cases hy:divL v.b.fl v.b.fh v.parts with
   | nil=>exact n2 hy
   | cons y m =>
    rw [hy] at k
    simp at k
 ·have h1:=length_flat (l:=divL v.b.ll v.b.lh v.parts) (m:=v.parts.toNat) (g:=fun x=>(divL v.b.fl v.b.fh v.parts).map fun y=>bxOf x y) fun x _=>by
   rw [List.length_map]
   exact divR_length (lo:=v.b.fl) (hi:=v.b.fh) (c:=v.parts) (i:=0)
  have h2:=divR_length (lo:=v.b.ll) (hi:=v.b.lh) (c:=v.parts) (i:=0)
  exact Nat.le_trans h1 (Nat.mul_le_mul_right _ h2)
theorem boxesE_ok {bs:List Bx} (h0:bs ≠ []) (h1:bs.length≤64) (h2:∀ b ∈ bs,boxErr b=0):boxesE bs=0:=by
 unfold boxesE
 rw [fstE_zero,fstE_zero,scanB_zero]
 have:=List.length_pos_iff.2 h0
 exact ⟨⟨if_pos this,if_pos h1⟩,h2⟩
def wider (v:Cv):Cv:=⟨v.b,v.parts,v.lo - 5,v.hi+5⟩
theorem shortF_wider {r:Ru} {p:Pl} {v:Cv} {w0:Int}:∀ (n:Nat) (w:Int),shortF r p v n w=some w0→(w≤w0∧w0<w+n∧keepsW r p v w0)∧∃ m,shortF r p (wider v) n w=some m∧m≤w0
 | 0,w,h=>by cases h
 | n+1,w,h=>by
  rw [shortF_cons] at h ⊢
  have hk:keepsW r p v w→keepsW r p (wider v) w:=by
   rintro ⟨⟨h1,h2⟩,h3⟩
   exact ⟨⟨h1,Int.le_trans (show v.lo - 5≤v.lo by omega) h2⟩,Int.le_trans h3 (show v.hi≤v.hi+5 by omega)⟩
  by_cases k:keepsW r p v w
  ·rw [if_pos k] at h
   have e:=Option.some.inj h
   subst e
   exact ⟨⟨by omega,by push_cast; omega,k⟩,w,if_pos (hk k),Int.le_refl _⟩
  ·rw [if_neg k] at h
   obtain ⟨⟨a1,a2,a3⟩,m,hm,hle⟩:=shortF_wider n (w+1) h
   refine ⟨⟨by omega,by push_cast at a2 ⊢; omega,a3⟩,?_⟩
   by_cases k2:keepsW r p (wider v) w
   ·exact ⟨w,if_pos k2,by omega⟩
   ·exact ⟨m,by rw [if_neg k2]; exact hm,hle⟩
end Go.DI

