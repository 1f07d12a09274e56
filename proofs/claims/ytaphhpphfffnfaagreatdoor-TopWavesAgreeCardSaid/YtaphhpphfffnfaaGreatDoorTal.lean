/- Whole numbers as floats: what is written is read again, sums, differences, products and conversions are exact. No condition. -/
import Derived.Test.YtaphhpphfffnfaaGreatDoorSuGa
set_option linter.unusedSimpArgs false
namespace Go.Fl
open Ieee
def sg (s:Bool) (m:Int):Int:=if s then -m else m
def Val (s:Bool) (m:Nat) (e:Int) (n:Int):Prop:=∃ K:Nat,0≤e+K∧sg s m * 2 ^ (e+K).toNat=n * 2 ^ K
theorem pow_pos (k:Nat):(0:Int)<2 ^ k:=Int.pow_pos (by decide)
theorem pow_ne (k:Nat):(2:Int) ^ k ≠ 0:=Int.ne_of_gt (pow_pos k)
theorem Val.all {s:Bool} {m:Nat} {e n:Int} (h:Val s m e n) (J:Nat) (hJ : 0≤e+J):sg s m * 2 ^ (e+J).toNat=n * 2 ^ J:=by
  obtain ⟨K,hK,h⟩:=h
  have e1:(e+J).toNat+K=(e+K).toNat+J:=by omega
  refine Int.eq_of_mul_eq_mul_right (pow_ne K) ?_
  calc sg s m * 2 ^ (e+J).toNat * 2 ^ K=sg s m * 2 ^ ((e+J).toNat+K):=by rw [Int.pow_add,Int.mul_assoc]
    _=sg s m * 2 ^ (e+K).toNat * 2 ^ J:=by rw [e1,Int.pow_add,Int.mul_assoc]
    _=n * 2 ^ J * 2 ^ K:=by rw [h,Int.mul_assoc,Int.mul_assoc,Int.mul_comm (2 ^ K)]
theorem sg_mul {s:Bool} {m k:Int}:sg s m * k=sg s (m * k):=by cases s <;> simp [sg,Int.neg_mul]
theorem sg_natAbs {s:Bool} {m:Nat}:(sg s m).natAbs=m:=by cases s <;> simp [sg]
theorem Val.size {s:Bool} {m:Nat} {e n:Int} (h:Val s m e n):m * 2 ^ e.toNat=n.natAbs * 2 ^ (-e).toNat:=by
  have h1:=h.all (-e).toNat (by omega)
  have h2:(e+((-e).toNat:Int)).toNat=e.toNat:=by omega
  rw [h2] at h1
  have h3:=congrArg Int.natAbs h1
  rw [Int.natAbs_mul,Int.natAbs_mul,sg_natAbs,Int.natAbs_pow,Int.natAbs_pow] at h3
  exact h3
theorem Val.sign {s:Bool} {m:Nat} {e n:Int} (h:Val s m e n):n=sg s n.natAbs:=by
  have h1:=h.all (-e).toNat (by omega)
  rw [sg_mul] at h1
  have hp:=pow_pos (-e).toNat
  have hq:=pow_pos (e+((-e).toNat:Int)).toNat
  have h0 : 0≤(m:Int) * 2 ^ (e+((-e).toNat:Int)).toNat:=Int.mul_nonneg (by omega) (Int.le_of_lt hq)
  cases s
  · simp only [sg,Bool.false_eq_true,if_false] at h1 ⊢
    have : 0≤n:=by
      rcases Int.lt_or_le n 0 with k | k
      · have:=Int.mul_neg_of_neg_of_pos k hp; omega
      · exact k
    omega
  · simp only [sg,if_true] at h1 ⊢
    have:n≤0:=by
      rcases Int.lt_or_le 0 n with k | k
      · have:=Int.mul_pos k hp; omega
      · exact k
    omega
theorem Val.of {s:Bool} {m:Nat} {e n:Int} (h:m * 2 ^ e.toNat=n.natAbs * 2 ^ (-e).toNat) (hs:n=sg s n.natAbs):Val s m e n:=by
  refine ⟨(-e).toNat,by omega,?_⟩
  have h2:(e+((-e).toNat:Int)).toNat=e.toNat:=by omega
  rw [h2,sg_mul]
  have h3:(m:Int) * 2 ^ e.toNat=(n.natAbs:Int) * 2 ^ (-e).toNat:=by exact_mod_cast h
  rw [h3,← sg_mul,← hs]
def F (b:Nat) (n:Int):Prop:=∃ s m e,double.read b = .number s m e∧Val s m e n
def Sm (n:Int):Prop:=n.natAbs<9007199254740992
theorem cut_exact {way:Toward} {s:Bool} {k d:Nat} (h0:k ≠ 0∨d=0):way.cut s (k * 2 ^ d) d=k:=by
  unfold Toward.cut
  have hl:min d ((k * 2 ^ d).log2+2)=d:=by
    rcases h0 with h0 | h0
    · have:d≤(k * 2 ^ d).log2:=(Nat.le_log2 (Nat.mul_ne_zero h0 (Nat.ne_of_gt (Nat.two_pow_pos d)))).2 (Nat.le_mul_of_pos_left _ (by omega))
      omega
    · omega
  have hg : 1 <<< min d ((k * 2 ^ d).log2+2)=2 ^ d:=by rw [hl,Nat.one_shiftLeft]
  simp only [hg]
  have h1:k * 2 ^ d / 2 ^ d=k:=Nat.mul_div_cancel _ (Nat.two_pow_pos d)
  have h2:k * 2 ^ d % 2 ^ d=0:=Nat.mul_mod_left _ _
  have hp:=Nat.two_pow_pos d
  rw [h1,h2]
  have h3:¬ (2 ^ d<2 * 0):=by omega
  have h4:(2 ^ d == 2 * 0)=false:=by simp
  cases way <;> simp [h4]
theorem read_word {s:Bool} {r:Nat} (h:r<9223372036854775808):double.word s r / double.signWeight % 2=(if s then 1 else 0)∧double.word s r % double.signWeight=r:=by
  have hw:double.signWeight=9223372036854775808:=by decide
  unfold Format.word
  rw [hw]
  cases s
  · simp only [Bool.false_eq_true,if_false]; omega
  · simp only [if_true]; omega
theorem F_nearest {s:Bool} {m:Nat} {e n:Int} (h:Val s m e n) (hn:Sm n):F (double.nearest s m e) n:=by
  have hlp:double.leastPlace = -1074:=by decide
  have hfb:double.fractionBits=52:=rfl
  have hbi:double.binade=4503599627370496:=by decide
  have hin:double.infRung=9218868437227405312:=by decide
  have hsz:=h.size
  have hsg:=h.sign
  unfold Format.nearest
  by_cases hm:m=0
  · rw [if_pos hm]
    subst hm
    have hz:n=0:=by
      have hp:=Nat.two_pow_pos (-e).toNat
      rw [Nat.zero_mul] at hsz
      have:=Nat.mul_eq_zero.1 hsz.symm
      omega
    have hr:=read_word (s:=s) (r:=0) (by decide)
    refine ⟨s,0, -1074,?_,?_⟩
    · unfold Format.read
      dsimp only
      rw [hr.1,hr.2,hbi,hlp]
      cases s <;> rfl
    · subst hz
      exact ⟨1074,by decide,by rw [show sg s ((0:Nat):Int)=0 by cases s <;> rfl,Int.zero_mul,Int.zero_mul]⟩
  rw [if_neg hm]
  have hn0:n.natAbs ≠ 0:=by
    intro h0
    rw [h0,Nat.zero_mul] at hsz
    have:=Nat.two_pow_pos e.toNat
    have:=Nat.mul_ne_zero hm (Nat.ne_of_gt this)
    omega

  have hL1:=Nat.log2_self_le hm
  have hL2:=Nat.lt_log2_self (n:=m)
  generalize hL:m.log2=L at *

  have he0 : 0≤e+L:=by
    rcases Int.lt_or_le (e+L) 0 with k | k
    · have he:e.toNat=0:=by omega
      rw [he,Nat.pow_zero,Nat.mul_one] at hsz
      have : 2 ^ (L+1)≤2 ^ (-e).toNat:=Nat.pow_le_pow_right (by decide) (by omega)
      have : 2 ^ (-e).toNat≤n.natAbs * 2 ^ (-e).toNat:=Nat.le_mul_of_pos_left _ (by omega)
      omega
    · exact k
  have he1:e+L≤52:=by
    rcases Int.lt_or_le 52 (e+L) with k | k
    · have h1 : 2 ^ L * 2 ^ e.toNat≤m * 2 ^ e.toNat:=Nat.mul_le_mul_right _ hL1
      rw [hsz,← Nat.pow_add] at h1
      have h2 : 2 ^ (53+(-e).toNat)≤2 ^ (L+e.toNat):=Nat.pow_le_pow_right (by decide) (by omega)
      rw [Nat.pow_add] at h2
      have h3:n.natAbs * 2 ^ (-e).toNat<2 ^ 53 * 2 ^ (-e).toNat:=Nat.mul_lt_mul_of_pos_right hn (Nat.two_pow_pos _)
      omega
    · exact k
  have hlast:max (e+(L:Int) - (52:Nat)) (-1074)=e+L - 52:=by omega
  rw [hfb,hlp,hlast]

  have hkept:∃ q:Nat,Toward.even.cut s (m <<< (e - (e+(L:Int) - 52)).toNat) ((e+(L:Int) - 52) - e).toNat=q∧2 ^ 52≤q∧q<2 ^ 53∧Val s q (e+L - 52) n:=by
    by_cases hL52:L≤52
    · refine ⟨m * 2 ^ (52 - L),?_,?_,?_,?_⟩
      · rw [show (e - (e+(L:Int) - 52)).toNat=52 - L by omega,show ((e+(L:Int) - 52) - e).toNat=0 by omega,Nat.shiftLeft_eq]
        have:=cut_exact (way:=.even) (s:=s) (k:=m * 2 ^ (52 - L)) (d:=0) (.inr rfl)
        rwa [Nat.pow_zero,Nat.mul_one] at this
      · have : 2 ^ L * 2 ^ (52 - L)≤m * 2 ^ (52 - L):=Nat.mul_le_mul_right _ hL1
        rw [← Nat.pow_add,show L+(52 - L)=52 by omega] at this
        exact this
      · have:m * 2 ^ (52 - L)<2 ^ (L+1) * 2 ^ (52 - L):=Nat.mul_lt_mul_of_pos_right hL2 (Nat.two_pow_pos _)
        rw [← Nat.pow_add,show L+1+(52 - L)=53 by omega] at this
        exact this
      · obtain ⟨K,hK,hv⟩:=h
        refine ⟨K+52,by omega,?_⟩
        rw [show (e+(L:Int) - 52+((K+52:Nat):Int)).toNat=(e+K).toNat+L by omega]
        have:((m * 2 ^ (52 - L):Nat):Int)=(m:Int) * 2 ^ (52 - L):=by push_cast; rfl
        rw [this,← sg_mul,Int.pow_add,Int.pow_add]
        have h52:(2:Int) ^ (52 - L) * 2 ^ L=2 ^ 52:=by rw [← Int.pow_add]; congr 1; omega
        calc sg s ↑m * 2 ^ (52 - L) * (2 ^ (e + ↑K).toNat * 2 ^ L) = (sg s ↑m * 2 ^ (e + ↑K).toNat) * (2 ^ (52 - L) * 2 ^ L) := by
              simp only [Int.mul_assoc,Int.mul_left_comm,Int.mul_comm]
          _=n * (2 ^ K * 2 ^ 52):=by rw [hv,h52,Int.mul_assoc]
    ·
      have hd:(L - 52)≤(-e).toNat:=by omega
      have he':e.toNat=0:=by omega
      rw [he',Nat.pow_zero,Nat.mul_one] at hsz
      have hm2:m=(n.natAbs * 2 ^ ((-e).toNat - (L - 52))) * 2 ^ (L - 52):=by
        rw [hsz,Nat.mul_assoc,← Nat.pow_add]; congr 2; omega
      refine ⟨n.natAbs * 2 ^ ((-e).toNat - (L - 52)),?_,?_,?_,?_⟩
      · rw [show (e - (e+(L:Int) - 52)).toNat=0 by omega,show ((e+(L:Int) - 52) - e).toNat=L - 52 by omega,Nat.shiftLeft_zero]
        conv=>lhs; rw [hm2]
        exact cut_exact (.inl (Nat.mul_ne_zero hn0 (Nat.ne_of_gt (Nat.two_pow_pos _))))
      · have : 2 ^ 52 * 2 ^ (L - 52)≤m:=by rw [← Nat.pow_add,show 52+(L - 52)=L by omega]; exact hL1
        rw [hm2] at this
        exact Nat.le_of_mul_le_mul_right this (Nat.two_pow_pos _)
      · have:m<2 ^ 53 * 2 ^ (L - 52):=by rw [← Nat.pow_add,show 53+(L - 52)=L+1 by omega]; exact hL2
        rw [hm2] at this
        exact Nat.lt_of_mul_lt_mul_right this
      · refine Val.of ?_ hsg
        rw [show (e+(L:Int) - 52).toNat=0 by omega,Nat.pow_zero,Nat.mul_one]
        congr 2; omega
  obtain ⟨q,hq,hq1,hq2,hv⟩:=hkept
  dsimp only
  rw [hq,hbi,hin]
  have hp52:(2:Nat) ^ 52=4503599627370496:=by decide
  have hp53:(2:Nat) ^ 53=9007199254740992:=by decide
  rw [hp52] at hq1; rw [hp53] at hq2
  generalize hp:(e+(L:Int) - 52 - -1074).toNat=p
  have hp1:p≤1074:=by omega
  rw [Nat.min_eq_left (by omega)]
  have hr:=read_word (s:=s) (r:=p * 4503599627370496+q) (by omega)
  refine ⟨s,q,e+L - 52,?_,hv⟩
  unfold Format.read
  dsimp only
  rw [hr.1,hr.2,hbi,hin,hlp,if_neg (by omega),if_pos (by omega)]
  have a1:(p * 4503599627370496+q) % 4503599627370496=q - 4503599627370496:=by omega
  have a2:(p * 4503599627370496+q) / 4503599627370496=p+1:=by omega
  rw [a1,a2,show 4503599627370496+(q - 4503599627370496)=q by omega]
  have a3:(-1074:Int)+((p+1 - 1:Nat):Int)=e+L - 52:=by omega
  rw [a3]
  cases s <;> rfl
theorem signed_eq {s:Bool} {m u:Nat}:signed s m u=sg s m * 2 ^ u:=by
  unfold signed sg
  rw [Nat.shiftLeft_eq]
  cases s <;> simp [Int.neg_mul]
theorem Val.at_base {s:Bool} {m:Nat} {e n b:Int} (h:Val s m e n) (hb:b≤e) (K:Nat) (hK : 0≤b+K):signed s m (e - b).toNat * 2 ^ (b+K).toNat=n * 2 ^ K:=by
  rw [signed_eq,Int.mul_assoc,← Int.pow_add,← h.all K (by omega)]
  congr 2; omega
theorem Val.opp {s:Bool} {m:Nat} {e n:Int} (h:Val s m e n):Val (!s) m e (-n):=by
  obtain ⟨K,hK,h⟩:=h
  refine ⟨K,hK,?_⟩
  rw [Int.neg_mul,← h]
  cases s <;> simp [sg,Int.neg_mul]
theorem val_sum {s t:Bool} {m k:Nat} {i j a b:Int} (h:Val s m i a) (g:Val t k j b):∃ u q,(Datum.number s m i).sum (.number t k j)=some (.number u q (min i j))∧Val u q (min i j) (a+b):=by
  refine ⟨_,_,rfl,?_⟩
  generalize htot:signed s m (i - min i j).toNat+signed t k (j - min i j).toNat=tot
  refine ⟨(-(min i j)).toNat,by omega,?_⟩
  have h1:=h.at_base (b:=min i j) (by omega) (-(min i j)).toNat (by omega)
  have h2:=g.at_base (b:=min i j) (by omega) (-(min i j)).toNat (by omega)
  have h3:sg (if tot=0 then s && t else decide (tot<0)) (tot.natAbs:Int)=tot:=by
    by_cases h0:tot=0
    · subst h0; unfold sg; split <;> simp
    · rw [if_neg h0]
      by_cases hlt:tot<0
      · simp only [hlt,decide_true,sg,if_true]; omega
      · simp only [hlt,decide_false,sg,Bool.false_eq_true,if_false]; omega
  rw [h3,← htot,Int.add_mul,h1,h2,Int.add_mul]
theorem F_add {x y:Nat} {a b:Int} (h:F x a) (g:F y b) (hn:Sm (a+b)):∃ z,FloatKind.f64.format.add x y=some z∧F z (a+b):=by
  obtain ⟨s,m,e,h1,h2⟩:=h
  obtain ⟨t,k,j,g1,g2⟩:=g
  obtain ⟨u,q,h3,h4⟩:=val_sum h2 g2
  refine ⟨double.nearest u q (min e j),?_,F_nearest h4 hn⟩
  show Option.map double.write ((double.read x).sum (double.read y))=_
  rw [h1,g1,h3]
  rfl
theorem F_sub {x y:Nat} {a b:Int} (h:F x a) (g:F y b) (hn:Sm (a - b)):∃ z,FloatKind.f64.format.sub x y=some z∧F z (a - b):=by
  obtain ⟨s,m,e,h1,h2⟩:=h
  obtain ⟨t,k,j,g1,g2⟩:=g
  obtain ⟨u,q,h3,h4⟩:=val_sum h2 g2.opp
  rw [← Int.sub_eq_add_neg] at h4
  refine ⟨double.nearest u q (min e j),?_,F_nearest h4 hn⟩
  show Option.map double.write ((double.read x).sum (double.read y).opposite)=_
  rw [h1,g1]
  show Option.map double.write ((Datum.number s m e).sum (.number (!t) k j))=_
  rw [h3]
  rfl
theorem F_mul {x y:Nat} {a b:Int} (h:F x a) (g:F y b) (hn:Sm (a * b)):∃ z,FloatKind.f64.format.mul x y=some z∧F z (a * b):=by
  obtain ⟨s,m,e,h1,h2⟩:=h
  obtain ⟨t,k,j,g1,g2⟩:=g
  refine ⟨double.nearest (s ^^ t) (m * k) (e+j),?_,F_nearest ?_ hn⟩
  · show Option.map double.write ((double.read x).product (double.read y))=_
    rw [h1,g1]
    rfl
  · refine ⟨(-e).toNat+(-j).toNat,by omega,?_⟩
    have q1:=h2.all (-e).toNat (by omega)
    have q2:=g2.all (-j).toNat (by omega)
    have hs:sg (s ^^ t) ((m * k:Nat):Int)=sg s m * sg t k:=by cases s <;> cases t <;> simp [sg,Int.neg_mul,Int.mul_neg]
    rw [hs,show (e+j+(((-e).toNat+(-j).toNat:Nat):Int)).toNat=(e+((-e).toNat:Int)).toNat+(j+((-j).toNat:Int)).toNat by omega,Int.pow_add,Int.pow_add]
    calc sg s ↑m * sg t ↑k * (2 ^ (e + ((-e).toNat : Int)).toNat * 2 ^ (j + ((-j).toNat : Int)).toNat) = (sg s ↑m * 2 ^ (e + ((-e).toNat : Int)).toNat) * (sg t ↑k * 2 ^ (j + ((-j).toNat : Int)).toNat) := by
            simp only [Int.mul_assoc,Int.mul_left_comm,Int.mul_comm]
      _=a * b * (2 ^ (-e).toNat * 2 ^ (-j).toNat):=by rw [q1,q2]; simp only [Int.mul_assoc,Int.mul_left_comm]
theorem F_int {n:Int} (hn:Sm n):F (FloatKind.f64.nearest n) n:=by
  refine F_nearest (s:=decide (n<0)) ?_ hn
  refine ⟨0,by decide,?_⟩
  have:sg (decide (n<0)) (n.natAbs:Int)=n:=by
    unfold sg
    by_cases h:n<0
    · simp only [h,decide_true,if_true]; omega
    · simp only [h,decide_false,Bool.false_eq_true,if_false]; omega
  rw [this]
  rfl
theorem toInt_of {x:Nat} {n:Int} (h:F x n):(FloatKind.f64.decode x).toInt .zero=some n:=by
  obtain ⟨s,m,e,h1,h2⟩:=h
  have hz:=h2.size
  have hs:=h2.sign
  show (double.read x).toInt .zero=_
  rw [h1]
  show some (signed s (Toward.zero.cut s (m <<< e.toNat) (-e).toNat) 0)=_
  have:Toward.zero.cut s (m <<< e.toNat) (-e).toNat=n.natAbs:=by
    rw [Nat.shiftLeft_eq,hz]
    by_cases h0:n.natAbs=0
    · rw [h0,Nat.zero_mul]
      unfold Toward.cut
      simp
    · exact cut_exact (.inl h0)
  rw [this,signed_eq,Int.pow_zero,Int.mul_one,← hs]
theorem F_neg {x:Nat} {n:Int} (h:F x n):F (Op.negFloat .f64 x) (-n):=by
  obtain ⟨s,m,e,h1,h2⟩:=h
  refine ⟨!s,m,e,?_,h2.opp⟩
  have hw:double.signWeight=2 ^ 63:=by decide
  have a1:(x ^^^ 2 ^ 63) % 2 ^ 63=x % 2 ^ 63:=by
    rw [Nat.xor_mod_two_pow,Nat.mod_self,Nat.xor_zero]
  have a2:(x ^^^ 2 ^ 63) / 2 ^ 63 % 2=(x / 2 ^ 63 % 2) ^^^ 1:=by
    rw [Nat.xor_div_two_pow,show 2 ^ 63 / 2 ^ 63=1 from by decide]
    have:=Nat.xor_mod_two_pow (a:=x / 2 ^ 63) (b:=1) (n:=1)
    simpa using this
  show double.read (x ^^^ 2 ^ 63)=_
  have hx:x / 2 ^ 63 % 2=0∨x / 2 ^ 63 % 2=1:=by omega
  unfold Format.read at h1 ⊢
  dsimp only at h1 ⊢
  rw [hw] at h1 ⊢
  rw [a1,a2]
  split at h1
  · rename_i k
    rw [if_pos k]
    cases h1
    rcases hx with hx | hx <;> rw [hx] <;> rfl
  · rename_i k
    rw [if_neg k]
    split at h1
    · rename_i k'
      rw [if_pos k']
      cases h1
      rcases hx with hx | hx <;> rw [hx] <;> rfl
    · split at h1 <;> cases h1
end Go.Fl

