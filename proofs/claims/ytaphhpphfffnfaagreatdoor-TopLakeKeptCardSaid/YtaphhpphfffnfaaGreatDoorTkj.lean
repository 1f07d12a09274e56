/- Contracts: the greatest common divisor of wide numbers; ratios. No condition. -/
import Derived.Test.YtaphhpphfffnfaaGreatDoorTki
set_option linter.unusedSimpArgs false
namespace Go.DI
open Go.Proofs Go.RowKit
def ratio (q:Rat):IV:=.agg [.int .i64 q.num.sign,.slc 1 ((digs q.num.natAbs).map (.int .i64)),.int .i64 (q.den:Int).sign,.slc 1 ((digs (q.den:Int).natAbs).map (.int .i64))]
theorem c_wideSize {z:Int}:Contract Tryz.prog 335 [wide z] (wide z.natAbs):=by
  have sz:=sign_cases z
  refine contract_run Tryz.func335 k335 rfl ?_
  simp only [wide,body335,b335,res335,b335k0, ↓reduceIte,reduceCtorEq,Nat.reduceEqDiff,Nat.reduceAdd,Nat.reduceMul,Nat.reduceSub,Nat.reduceLeDiff,Nat.reduceBEq,Int.reduceToNat,Int.reduceLE,Int.reduceLT,Int.reduceEq,Int.reduceNe,di]
  split
  · rename_i h
    refine calls_of c_WideNeg ?_
    have e : -z=(z.natAbs:Int):=by omega
    rw [e]
    simp only [wide,res335,b335k0, ↓reduceIte,reduceCtorEq,Nat.reduceEqDiff,Nat.reduceAdd,Nat.reduceMul,Nat.reduceSub,Nat.reduceLeDiff,Nat.reduceBEq,Int.reduceToNat,Int.reduceLE,Int.reduceLT,Int.reduceEq,Int.reduceNe,di]
  · rename_i h
    have e:z=(z.natAbs:Int):=by omega
    generalize z.natAbs=n at *
    subst e
    rfl
theorem few_le {x y:Int} (h:x.natAbs≤y.natAbs) (hy:Few y):Few x:=Nat.le_trans (digs_mono h) hy
theorem c_wideGcd {x y:Int} (hx:Few x) (hy:Few y):Contract Tryz.prog 328 [wide x,wide y] (wide (Int.gcd x y:Int)):=by
  refine contract_run Tryz.func328 k328 rfl ?_
  simp only [wide,body328,b328,res328,b328k0,b328k1, ↓reduceIte,reduceCtorEq,Nat.reduceEqDiff,Nat.reduceAdd,Nat.reduceMul,Nat.reduceSub,Nat.reduceLeDiff,Nat.reduceBEq,Int.reduceToNat,Int.reduceLE,Int.reduceLT,Int.reduceEq,Int.reduceNe,di]
  refine calls_of c_wideSize ?_; simp only [wide,ratio,res328,b328k0,b328k1, ↓reduceIte,reduceCtorEq,Nat.reduceEqDiff,Nat.reduceAdd,Nat.reduceMul,Nat.reduceSub,Nat.reduceLeDiff,Nat.reduceBEq,Int.reduceToNat,Int.reduceLE,Int.reduceLT,Int.reduceEq,Int.reduceNe,di]
  refine calls_of c_wideSize ?_; simp only [wide,ratio,res328,b328k0,b328k1, ↓reduceIte,reduceCtorEq,Nat.reduceEqDiff,Nat.reduceAdd,Nat.reduceMul,Nat.reduceSub,Nat.reduceLeDiff,Nat.reduceBEq,Int.reduceToNat,Int.reduceLE,Int.reduceLT,Int.reduceEq,Int.reduceNe,di]
  refine loop_keep (α:=Nat × Nat) rfl (fun s=>s.2)
    (fun s=>Few s.1∧Few s.2∧Nat.gcd s.1 s.2=Int.gcd x y)
    (fun s=>[(2,.ref 2 0),(3,.ref 3 0),(4,.ref 4 0)])
    (fun s=>[(2,.box [.imm (.int .i64 (s.1:Int).sign),.imm (.slc 1 ((digs (s.1:Int).natAbs).map (.int .i64)))]),(3,.box [.imm (.int .i64 (s.2:Int).sign),.imm (.slc 1 ((digs (s.2:Int).natAbs).map (.int .i64)))]),(4,.box [.imm (.int .i64 0),.imm (.slc 1 [])])])
    (x.natAbs,y.natAbs) ⟨hx,hy,rfl⟩ (by simp only [↓reduceIte,reduceCtorEq,Nat.reduceEqDiff,Nat.reduceAdd,Nat.reduceMul,Nat.reduceSub,Nat.reduceLeDiff,Nat.reduceBEq,Int.reduceToNat,Int.reduceLE,Int.reduceLT,Int.reduceEq,Int.reduceNe,di]) ?_
  rintro ⟨a,b⟩ ⟨ha,hb,hg⟩ ih
  dsimp only at ha hb hg
  have sb:=sign_cases (b:Int)
  simp only [res328,b328k0,b328k1, ↓reduceIte,reduceCtorEq,Nat.reduceEqDiff,Nat.reduceAdd,Nat.reduceMul,Nat.reduceSub,Nat.reduceLeDiff,Nat.reduceBEq,Int.reduceToNat,Int.reduceLE,Int.reduceLT,Int.reduceEq,Int.reduceNe,di]
  refine calls_of c_WideSign ?_; simp only [wide,ratio,res328,b328k0,b328k1, ↓reduceIte,reduceCtorEq,Nat.reduceEqDiff,Nat.reduceAdd,Nat.reduceMul,Nat.reduceSub,Nat.reduceLeDiff,Nat.reduceBEq,Int.reduceToNat,Int.reduceLE,Int.reduceLT,Int.reduceEq,Int.reduceNe,di]
  split
  · rename_i h
    have hb0:b=0:=by omega
    subst hb0
    rw [← hg]
    simp
  · rename_i h
    have hb0 : 0<(b:Int):=by omega
    have hd:((a:Int) / b).natAbs≤(a:Int).natAbs:=by
      have:=Int.ediv_le_self (b:Int) (show 0≤(a:Int) by omega)
      have:=Int.ediv_nonneg (show 0≤(a:Int) by omega) (show 0≤(b:Int) by omega)
      omega
    have hd2:(a:Int) / b * b≤a:=Int.ediv_mul_le _ (by omega)
    have hd3 : 0≤(a:Int) / b * b:=Int.mul_nonneg (Int.ediv_nonneg (by omega) (by omega)) (by omega)
    refine calls_of (c_WideFloor ha hb hb0) ?_; simp only [wide,ratio,res328,b328k0,b328k1, ↓reduceIte,reduceCtorEq,Nat.reduceEqDiff,Nat.reduceAdd,Nat.reduceMul,Nat.reduceSub,Nat.reduceLeDiff,Nat.reduceBEq,Int.reduceToNat,Int.reduceLE,Int.reduceLT,Int.reduceEq,Int.reduceNe,di]
    refine calls_of (c_WideMul (few_le hd ha) hb) ?_; simp only [wide,ratio,res328,b328k0,b328k1, ↓reduceIte,reduceCtorEq,Nat.reduceEqDiff,Nat.reduceAdd,Nat.reduceMul,Nat.reduceSub,Nat.reduceLeDiff,Nat.reduceBEq,Int.reduceToNat,Int.reduceLE,Int.reduceLT,Int.reduceEq,Int.reduceNe,di]
    refine calls_of (c_WideSub ha (few_le (by omega) ha)) ?_; simp only [wide,ratio,res328,b328k0,b328k1, ↓reduceIte,reduceCtorEq,Nat.reduceEqDiff,Nat.reduceAdd,Nat.reduceMul,Nat.reduceSub,Nat.reduceLeDiff,Nat.reduceBEq,Int.reduceToNat,Int.reduceLE,Int.reduceLT,Int.reduceEq,Int.reduceNe,di]
    have e:(a:Int) - a / b * b=((a % b:Nat):Int):=by
      have:=Int.ediv_mul_add_emod (a:Int) b
      omega
    rw [e]
    have hlt:a % b<b:=Nat.mod_lt _ (by omega)
    refine ih (b,a % b) _ _ hlt ⟨hb,few_le (by dsimp only; omega) hb,?_⟩ (by simp only [↓reduceIte,reduceCtorEq,Nat.reduceEqDiff,Nat.reduceAdd,Nat.reduceMul,Nat.reduceSub,Nat.reduceLeDiff,Nat.reduceBEq,Int.reduceToNat,Int.reduceLE,Int.reduceLT,Int.reduceEq,Int.reduceNe,di])
    dsimp only
    rw [← hg,Nat.gcd_comm,← Nat.gcd_rec,Nat.gcd_comm]
theorem div_gcd (n d:Int) (h:d ≠ 0) : 0<(Int.gcd n d:Int):=by
  have:=Int.gcd_pos_of_ne_zero_right n h
  omega
theorem divInt_parts {n d:Int} (h : 0<d):(Rat.divInt n d).num=n / (Int.gcd n d:Int)∧((Rat.divInt n d).den:Int)=d / (Int.gcd n d:Int):=by
  rw [Rat.num_divInt,Rat.den_divInt,if_neg (by omega),Int.sign_eq_one_of_pos h,Int.one_mul,Int.gcd_comm d n]
  refine ⟨rfl,?_⟩
  rw [Int.natCast_ediv]
  congr 1
  omega
theorem few_one:Few 1:=few_of 1 (by omega) (by decide)
theorem ediv_natAbs_le (n g:Int) (hg : 0<g) (hd:g ∣ n):(n / g).natAbs≤n.natAbs:=by
  obtain ⟨k,rfl⟩:=hd
  rw [Int.mul_ediv_cancel_left _ (by omega),Int.natAbs_mul]
  exact Nat.le_mul_of_pos_left _ (by omega)
theorem c_RatioMake {n d:Int} (hn:Few n) (hd:Few d) (h0:d ≠ 0):Contract Tryz.prog 311 [wide n,wide d] (ratio (Rat.divInt n d)):=by
  have sd:=sign_cases d
  have key:∀ (n d:Int),Few n→Few d→0<d →
      run Tryz.prog b311k1 [] (d311.post (ratio (Rat.divInt n d))) (mkS [(2,.ref 2 0),(3,.ref 3 0),(4,.ref 4 0)]
      [(2,.box [.imm (.int .i64 n.sign),.imm (.slc 1 ((digs n.natAbs).map (.int .i64)))]),(3,.box [.imm (.int .i64 d.sign),.imm (.slc 1 ((digs d.natAbs).map (.int .i64)))]),(4,.box [.imm (.int .i64 0),.imm (.slc 1 []),.imm (.int .i64 0),.imm (.slc 1 [])])]):=by
    intro n d hn hd h0
    simp only [res311,b311k0,b311k1, ↓reduceIte,reduceCtorEq,Nat.reduceEqDiff,Nat.reduceAdd,Nat.reduceMul,Nat.reduceSub,Nat.reduceLeDiff,Nat.reduceBEq,Int.reduceToNat,Int.reduceLE,Int.reduceLT,Int.reduceEq,Int.reduceNe,di]
    refine calls_of (c_wideGcd hn hd) ?_; simp only [wide,ratio,res311,b311k0,b311k1, ↓reduceIte,reduceCtorEq,Nat.reduceEqDiff,Nat.reduceAdd,Nat.reduceMul,Nat.reduceSub,Nat.reduceLeDiff,Nat.reduceBEq,Int.reduceToNat,Int.reduceLE,Int.reduceLT,Int.reduceEq,Int.reduceNe,di]
    refine calls_of (c_WideOf (by omega) (by omega)) ?_; simp only [wide,ratio,res311,b311k0,b311k1, ↓reduceIte,reduceCtorEq,Nat.reduceEqDiff,Nat.reduceAdd,Nat.reduceMul,Nat.reduceSub,Nat.reduceLeDiff,Nat.reduceBEq,Int.reduceToNat,Int.reduceLE,Int.reduceLT,Int.reduceEq,Int.reduceNe,di]
    have hg0:=div_gcd n d (by omega)
    have hgn:(Int.gcd n d:Int) ∣ n:=Int.gcd_dvd_left n d
    have hgd:(Int.gcd n d:Int) ∣ d:=Int.gcd_dvd_right n d
    obtain ⟨p1,p2⟩:=divInt_parts (n:=n) h0
    rw [p1,p2]
    generalize (Int.gcd n d:Int)=g at *
    have hgf:Few g:=few_le (by have:=Int.le_of_dvd h0 hgd; omega) hd
    refine calls_of (c_WideCmp hgf few_one) ?_; simp only [wide,ratio,res311,b311k0,b311k1, ↓reduceIte,reduceCtorEq,Nat.reduceEqDiff,Nat.reduceAdd,Nat.reduceMul,Nat.reduceSub,Nat.reduceLeDiff,Nat.reduceBEq,Int.reduceToNat,Int.reduceLE,Int.reduceLT,Int.reduceEq,Int.reduceNe,di]
    have sg:=sign_cases (g - 1)
    split
    · rename_i h1
      have:g=1:=by omega
      subst this
      simp only [Int.ediv_one]
    · rename_i h1
      refine calls_of (c_WideFloor hn hgf hg0) ?_; simp only [wide,ratio,res311,b311k0,b311k1, ↓reduceIte,reduceCtorEq,Nat.reduceEqDiff,Nat.reduceAdd,Nat.reduceMul,Nat.reduceSub,Nat.reduceLeDiff,Nat.reduceBEq,Int.reduceToNat,Int.reduceLE,Int.reduceLT,Int.reduceEq,Int.reduceNe,di]
      refine calls_of (c_WideFloor hd hgf hg0) ?_; simp only [wide,ratio,res311,b311k0,b311k1, ↓reduceIte,reduceCtorEq,Nat.reduceEqDiff,Nat.reduceAdd,Nat.reduceMul,Nat.reduceSub,Nat.reduceLeDiff,Nat.reduceBEq,Int.reduceToNat,Int.reduceLE,Int.reduceLT,Int.reduceEq,Int.reduceNe,di]
  refine contract_run Tryz.func311 k311 rfl ?_
  simp only [wide,body311,b311,res311, ↓reduceIte,reduceCtorEq,Nat.reduceEqDiff,Nat.reduceAdd,Nat.reduceMul,Nat.reduceSub,Nat.reduceLeDiff,Nat.reduceBEq,Int.reduceToNat,Int.reduceLE,Int.reduceLT,Int.reduceEq,Int.reduceNe,di]
  refine calls_of c_WideSign ?_; simp only [wide,ratio,res311, ↓reduceIte,reduceCtorEq,Nat.reduceEqDiff,Nat.reduceAdd,Nat.reduceMul,Nat.reduceSub,Nat.reduceLeDiff,Nat.reduceBEq,Int.reduceToNat,Int.reduceLE,Int.reduceLT,Int.reduceEq,Int.reduceNe,di]
  split
  · rename_i h
    refine calls_of c_WideNeg ?_; simp only [wide,ratio,res311, ↓reduceIte,reduceCtorEq,Nat.reduceEqDiff,Nat.reduceAdd,Nat.reduceMul,Nat.reduceSub,Nat.reduceLeDiff,Nat.reduceBEq,Int.reduceToNat,Int.reduceLE,Int.reduceLT,Int.reduceEq,Int.reduceNe,di]
    refine calls_of c_WideNeg ?_; simp only [wide,ratio,res311, ↓reduceIte,reduceCtorEq,Nat.reduceEqDiff,Nat.reduceAdd,Nat.reduceMul,Nat.reduceSub,Nat.reduceLeDiff,Nat.reduceBEq,Int.reduceToNat,Int.reduceLE,Int.reduceLT,Int.reduceEq,Int.reduceNe,di]
    have:=key (-n) (-d) (few_neg hn) (few_neg hd) (by omega)
    rw [Rat.neg_divInt_neg] at this
    exact this
  · rename_i h
    exact key n d hn hd (by omega)
theorem c_RatioOf {n d:Int} (n1 : -9223372036854775807≤n) (n2:n≤9223372036854775807) (d1 : -9223372036854775807≤d) (d2:d≤9223372036854775807) (h0:d ≠ 0) :
    Contract Tryz.prog 275 [.int .i64 n,.int .i64 d] (ratio (Rat.divInt n d)):=by
  refine contract_run Tryz.func275 k275 rfl ?_
  simp only [body275,b275,res275, ↓reduceIte,reduceCtorEq,Nat.reduceEqDiff,Nat.reduceAdd,Nat.reduceMul,Nat.reduceSub,Nat.reduceLeDiff,Nat.reduceBEq,Int.reduceToNat,Int.reduceLE,Int.reduceLT,Int.reduceEq,Int.reduceNe,di]
  refine calls_of (c_WideOf n1 n2) ?_; simp only [res275, ↓reduceIte,reduceCtorEq,Nat.reduceEqDiff,Nat.reduceAdd,Nat.reduceMul,Nat.reduceSub,Nat.reduceLeDiff,Nat.reduceBEq,Int.reduceToNat,Int.reduceLE,Int.reduceLT,Int.reduceEq,Int.reduceNe,di]
  refine calls_of (c_WideOf d1 d2) ?_; simp only [res275, ↓reduceIte,reduceCtorEq,Nat.reduceEqDiff,Nat.reduceAdd,Nat.reduceMul,Nat.reduceSub,Nat.reduceLeDiff,Nat.reduceBEq,Int.reduceToNat,Int.reduceLE,Int.reduceLT,Int.reduceEq,Int.reduceNe,di]
  refine calls_of (c_RatioMake (few_of 3 (by omega) (by omega)) (few_of 3 (by omega) (by omega)) h0) ?_; simp only [wide,ratio,res275, ↓reduceIte,reduceCtorEq,Nat.reduceEqDiff,Nat.reduceAdd,Nat.reduceMul,Nat.reduceSub,Nat.reduceLeDiff,Nat.reduceBEq,Int.reduceToNat,Int.reduceLE,Int.reduceLT,Int.reduceEq,Int.reduceNe,di]
def Fw (k:Nat) (q:Rat):Prop:=q.num.natAbs<1000000000 ^ k∧q.den<1000000000 ^ k
theorem Fw.num {k:Nat} {q:Rat} (h:Fw k q) (hk:k≤100000):Few q.num:=few_of k hk h.1
theorem Fw.den {k:Nat} {q:Rat} (h:Fw k q) (hk:k≤100000):Few (q.den:Int):=few_of k hk h.2
theorem Fw.le {k m:Nat} {q:Rat} (h:Fw k q) (hk:k≤m):Fw m q:=by
  have:=Nat.pow_le_pow_right (show 1000000000 > 0 by omega) hk
  exact ⟨Nat.lt_of_lt_of_le h.1 this,Nat.lt_of_lt_of_le h.2 this⟩
theorem fw_divInt {k:Nat} {n d:Int} (h1:n.natAbs<1000000000 ^ k) (h2:d.natAbs<1000000000 ^ k) (h0:d ≠ 0):Fw k (Rat.divInt n d):=by
  have key:∀ (n d:Int),n.natAbs<1000000000 ^ k→d.natAbs<1000000000 ^ k→0<d→Fw k (Rat.divInt n d):=by
    intro n d h1 h2 h0
    obtain ⟨p1,p2⟩:=divInt_parts (n:=n) h0
    have hg0:=div_gcd n d (by omega)
    have a1:=ediv_natAbs_le n _ hg0 (Int.gcd_dvd_left n d)
    have a2:=ediv_natAbs_le d _ hg0 (Int.gcd_dvd_right n d)
    exact ⟨by rw [p1]; omega,by omega⟩
  rcases Int.lt_or_lt_of_ne h0 with h | h
  · have:=key (-n) (-d) (by omega) (by omega) (by omega)
    rwa [Rat.neg_divInt_neg] at this
  · exact key n d h1 h2 h
theorem pow_mul_lt {a b i j:Nat} (h1:a<1000000000 ^ i) (h2:b<1000000000 ^ j):a * b<1000000000 ^ (i+j):=by
  rw [Nat.pow_add]; exact Nat.mul_lt_mul'' h1 h2
def cmpR (p q:Rat):Int:=(p.num * q.den - q.num * p.den).sign
theorem cmpR_neg {p q:Rat}:cmpR p q<0↔p<q:=by
  unfold cmpR
  rw [Rat.lt_iff]
  have:=sign_cases (p.num * q.den - q.num * p.den)
  omega
theorem c_RatioCmp {p q:Rat} {i j:Nat} (hp:Fw i p) (hq:Fw j q) (h:i+j≤90000):Contract Tryz.prog 213 [ratio p,ratio q] (.int .i64 (cmpR p q)):=by
  have k1:(p.num * q.den).natAbs<1000000000 ^ (i+j):=by rw [Int.natAbs_mul]; exact pow_mul_lt hp.1 hq.2
  have k2:(q.num * p.den).natAbs<1000000000 ^ (i+j):=by rw [Int.natAbs_mul,Nat.add_comm i j]; exact pow_mul_lt hq.1 hp.2
  refine contract_run Tryz.func213 k213 rfl ?_
  simp only [ratio,body213,b213,res213, ↓reduceIte,reduceCtorEq,Nat.reduceEqDiff,Nat.reduceAdd,Nat.reduceMul,Nat.reduceSub,Nat.reduceLeDiff,Nat.reduceBEq,Int.reduceToNat,Int.reduceLE,Int.reduceLT,Int.reduceEq,Int.reduceNe,di]
  refine calls_of (c_WideMul (hp.num (by omega)) (hq.den (by omega))) ?_; simp only [wide,ratio,res213, ↓reduceIte,reduceCtorEq,Nat.reduceEqDiff,Nat.reduceAdd,Nat.reduceMul,Nat.reduceSub,Nat.reduceLeDiff,Nat.reduceBEq,Int.reduceToNat,Int.reduceLE,Int.reduceLT,Int.reduceEq,Int.reduceNe,di]
  refine calls_of (c_WideMul (hq.num (by omega)) (hp.den (by omega))) ?_; simp only [wide,ratio,res213, ↓reduceIte,reduceCtorEq,Nat.reduceEqDiff,Nat.reduceAdd,Nat.reduceMul,Nat.reduceSub,Nat.reduceLeDiff,Nat.reduceBEq,Int.reduceToNat,Int.reduceLE,Int.reduceLT,Int.reduceEq,Int.reduceNe,di]
  refine calls_of (c_WideCmp (few_of _ (by omega) k1) (few_of _ (by omega) k2)) ?_; simp only [wide,ratio,res213, ↓reduceIte,reduceCtorEq,Nat.reduceEqDiff,Nat.reduceAdd,Nat.reduceMul,Nat.reduceSub,Nat.reduceLeDiff,Nat.reduceBEq,Int.reduceToNat,Int.reduceLE,Int.reduceLT,Int.reduceEq,Int.reduceNe,di]
  rfl
end Go.DI

