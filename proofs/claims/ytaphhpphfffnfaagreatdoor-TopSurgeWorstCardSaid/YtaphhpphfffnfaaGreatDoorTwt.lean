/- Contracts: bounds and waits, of the program and of the reference. No condition. -/
import Derived.Test.YtaphhpphfffnfaaGreatDoorTwr
import Derived.Test.YtaphhpphfffnfaaGreatDoorTws
set_option linter.unusedSimpArgs false
set_option maxRecDepth 20000
namespace Go.DI
open Go.Proofs Go.RowKit Sg
theorem divL_mem {lo hi c:Int} (h:DivOk lo hi c) {x:Int × Int} (hx:x ∈ divL lo hi c):lo≤x.1∧x.1≤x.2∧x.2≤hi:=by
 unfold divL divR at hx
 rw [List.drop_zero,List.mem_flatMap] at hx
 obtain ⟨i,hi',hx⟩:=hx
 rw [List.mem_range] at hi'
 have a1:=h.a1; have a2:=h.a2; have a3:=h.a3; have a4:=h.a4
 have b1:=div_bd h (i:=i) (by omega)
 unfold oneD at hx
 split at hx
 ·rename_i hle
  rw [List.mem_singleton] at hx
  subst hx
  refine ⟨?_,hle,?_⟩
  ·unfold divP; dsimp only; omega
  ·unfold divP
   dsimp only
   have:(((i:Int)+1) * (hi - lo+1)) / c≤hi - lo+1:=by
    have h1:((i:Int)+1) * (hi - lo+1)≤(hi - lo+1) * c:=by
     rw [Int.mul_comm (hi - lo+1) c]
     exact Int.mul_le_mul_of_nonneg_right (by omega) (by omega)
    exact Int.ediv_le_of_le_mul (by omega) h1
   omega
 ·cases hx
theorem cover_ok {v:Cv} (hv:coverE v=0):(coverL v).length≤64∧∀ b ∈ coverL v,boxErr b=0:=by
 obtain ⟨hb,hp, -⟩:=coverE_zero.1 hv
 rw [boxErr_zero] at hb
 have d1:DivOk v.b.ll v.b.lh v.parts:=⟨by omega,by omega,by omega,hp⟩
 have d2:DivOk v.b.fl v.b.fh v.parts:=⟨by omega,by omega,by omega,hp⟩
 constructor
 ·have h1:=length_flat (l:=divL v.b.ll v.b.lh v.parts) (m:=8) (g:=fun x=>(divL v.b.fl v.b.fh v.parts).map fun y=>bxOf x y) fun x _=>by
   rw [List.length_map]
   have:=divR_length (lo:=v.b.fl) (hi:=v.b.fh) (c:=v.parts) (i:=0)
   unfold divL
   omega
  have h2:=divR_length (lo:=v.b.ll) (hi:=v.b.lh) (c:=v.parts) (i:=0)
  unfold coverL
  unfold divL at h1 ⊢
  omega
 ·intro b hbm
  unfold coverL at hbm
  rw [List.mem_flatMap] at hbm
  obtain ⟨x,hx,hbm⟩:=hbm
  rw [List.mem_map] at hbm
  obtain ⟨y,hy,rfl⟩:=hbm
  have h1:=divL_mem d1 hx
  have h2:=divL_mem d2 hy
  rw [boxErr_zero]
  unfold bxOf
  dsimp only
  omega
end Go.DI

