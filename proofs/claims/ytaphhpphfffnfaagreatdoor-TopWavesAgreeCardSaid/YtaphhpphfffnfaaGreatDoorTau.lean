/- The statement WaveStrings: what it computes. No condition. -/
import Derived.Test.YtaphhpphfffnfaaGreatDoorTas
set_option linter.unusedSimpArgs false
set_option maxRecDepth 100000
namespace Go.DI
open Go.Proofs Go.RowKit Go.Lib
theorem pipeP_word {p:Pp} (h1 : 0≤p.1∧p.1≤999) (h2 : 0≤p.2∧p.2≤999):pipeP (bs (pipeW p))=some p:=by
 have e:cutS 120 (bs (pipeW p))=[itoaB p.1,itoaB p.2]:=by
  unfold cutS pipeW
  rw [bs_toList,cutB_sep (itoa_free (by decide)),cutB_free (itoa_free (by decide))]
  rfl
 unfold pipeP
 rw [e]
 show (match okW 3 (itoaB p.1),okW 3 (itoaB p.2) with | some m,some n=>some (m,n) | _,_=>none)=_
 rw [okW_itoa (k:=2) h1.1 (Int.lt_of_le_of_lt h1.2 (by decide)),okW_itoa (k:=2) h2.1 (Int.lt_of_le_of_lt h2.2 (by decide))]
theorem cut_line {x:Ln} (h : 0<x.pp.length):cutS 32 (fmtLn x)=(wordsTo x x.pp.length).map bs:=by
 unfold cutS fmtLn
 obtain ⟨k,hk⟩ : ∃ k,x.pp.length=k+1:=⟨x.pp.length - 1,by omega⟩
 rw [bs_toList,cutB_join (by
  intro e
  have:=wordsTo_len (x:=x) k
  rw [hk] at e
  rw [e] at this
  simp at this) (wordsTo_free _)]
theorem words_getD {l:List (List UInt8)} {i:Nat} {w:List UInt8} (h:l[i]? = some w):wAt (l.map bs) i=bs w:=by
 unfold wAt
 rw [List.getD_eq_getElem?_getD,List.getElem?_map,h]
 rfl
theorem line_words {x:Ln} (hx:LineOk x):∀ k,k+1≤x.pp.length→goodTo ((wordsTo x x.pp.length).map bs) (2 * k+1)=true∧pipesTo ((wordsTo x x.pp.length).map bs) (2 * k+1)=x.pp.take (k+1) ∧
  areasTo ((wordsTo x x.pp.length).map bs) (2 * k+1)=x.ar.take k:=by
 have hars:=hx.ars
 have pipe:∀ k,k<x.pp.length→pipeP (wAt ((wordsTo x x.pp.length).map bs) (2 * k))=some (x.pp.getD k (0,0)):=by
  intro k hk
  rw [words_getD (words_pipe hk)]
  have hp:=hx.pip _ (getD_mem (l:=x.pp) (i:=k) (d:=(0,0)) hk)
  exact pipeP_word ⟨by omega,by omega⟩ ⟨by omega,by omega⟩
 have area:∀ k,k+1<x.pp.length→okW 3 (wAt ((wordsTo x x.pp.length).map bs) (2 * k+1))=some (x.ar.getD k 0):=by
  intro k hk
  rw [words_getD (words_area hk)]
  have hp:=hx.are _ (getD_mem (l:=x.ar) (i:=k) (d:=0) (by omega))
  exact okW_itoa (k:=2) (by omega) (Int.lt_of_le_of_lt hp.2 (by decide))
 generalize (wordsTo x x.pp.length).map bs=w at *
 have step:∀ k,k<x.pp.length→goodTo w (2 * k)=true→pipesTo w (2 * k)=x.pp.take k→areasTo w (2 * k)=x.ar.take k→goodTo w (2 * k+1)=true∧pipesTo w (2 * k+1)=x.pp.take (k+1)∧areasTo w (2 * k+1)=x.ar.take k:=by
  intro k hk g1 g2 g3
  have hp:=pipe k hk
  have e:¬ 2 * k % 2=1:=by omega
  refine ⟨?_,?_,?_⟩
  ·show (goodTo w (2 * k) && goodAt w (2 * k))=true
   unfold goodAt
   rw [g1,if_neg e,hp]; rfl
  ·show (if 2 * k % 2=1 then pipesTo w (2 * k) else pipesTo w (2 * k) ++ [(pipeP (wAt w (2 * k))).getD (0,0)])=_
   rw [if_neg e,g2,hp,List.take_add_one,List.getElem?_eq_getElem hk,List.getD_eq_getElem?_getD,List.getElem?_eq_getElem hk]
   rfl
  ·show (if 2 * k % 2=1 then areasTo w (2 * k) ++ [(okW 3 (wAt w (2 * k))).getD 0] else areasTo w (2 * k))=_
   rw [if_neg e,g3]
 intro k
 induction k with
 | zero =>
  intro h
  exact step 0 (by omega) rfl rfl (by simp [areasTo])
 | succ k ih =>
  intro h
  obtain ⟨g1,g2,g3⟩:=ih (by omega)
  have ha:=area k (by omega)
  have e:(2 * k+1) % 2=1:=by omega
  have hk:k<x.ar.length:=by omega
  have b1:goodTo w (2 * (k+1))=true:=by
   show (goodTo w (2 * k+1) && goodAt w (2 * k+1))=true
   unfold goodAt
   rw [g1,if_pos e,ha]; rfl
  have b2:pipesTo w (2 * (k+1))=x.pp.take (k+1):=by
   show (if (2 * k+1) % 2=1 then pipesTo w (2 * k+1) else _)=_
   rw [if_pos e,g2]
  have b3:areasTo w (2 * (k+1))=x.ar.take (k+1):=by
   show (if (2 * k+1) % 2=1 then areasTo w (2 * k+1) ++ [(okW 3 (wAt w (2 * k+1))).getD 0] else _)=_
   rw [if_pos e,g3,ha,List.take_add_one,List.getElem?_eq_getElem hk,List.getD_eq_getElem?_getD,List.getElem?_eq_getElem hk]
   rfl
  exact step (k+1) (by omega) b1 b2 b3
theorem parse_line {x:Ln} (hx:LineOk x):parseLn (cutS 32 (fmtLn x))=(x,0):=by
 have hlen:=hx.len
 have hars:=hx.ars
 obtain ⟨k,hk⟩ : ∃ k,x.pp.length=k+1:=⟨x.pp.length - 1,by omega⟩
 obtain ⟨g1,g2,g3⟩:=line_words hx k (by omega)
 have hl:((wordsTo x x.pp.length).map bs).length=2 * k+1:=by
  rw [List.length_map,hk]
  exact wordsTo_len k
 rw [cut_line (by omega)]
 unfold parseLn
 rw [hl,if_pos ⟨by omega,g1⟩,g2,g3,List.take_of_length_le (by omega),List.take_of_length_le (by omega),if_pos (chkL_ok.2 hx)]
theorem fmt_size {x:Ln} (hx:LineOk x) (hb:LnB x):(fmtLn x).size≤1000:=by
 have h1:=join_len (c:=32) (word_len hb x.pp.length (Nat.le_refl _))
 have h2:=words_len (x:=x) (i:=x.pp.length)
 have:=hx.len
 unfold fmtLn
 rw [bs_size]
 omega
theorem eq_get {α:Type} (d : α) {l m:List α} (h:l.length=m.length) (k:∀ j,j<l.length→l.getD j d=m.getD j d):l=m:=by
 refine List.ext_getElem h fun i h1 h2 => ?_
 have:=k i h1
 simpa [List.getD_eq_getElem?_getD,h1,h2] using this
theorem ln_eq {a b:Ln}:a=b↔a.pp=b.pp∧a.ar=b.ar:=by
 cases a; cases b; simp
theorem r_SameLine {a b:Ln} (ha:Few a):Contract Tryz.prog 17 [lnI a,lnI b] (.bool (decide (a=b))):=by
 obtain ⟨ha1,ha2⟩:=ha
 refine contract_run Tryz.func17 k17 rfl ?_
 simp only [body17,b17,res17,b17k0,b17k1,b17k2,b17k3,vaE, ↓reduceIte,reduceCtorEq,Nat.reduceEqDiff,Nat.reduceAdd,Nat.reduceMul,Nat.reduceSub,Nat.reduceLeDiff,Nat.reduceBEq,Int.reduceToNat,Int.reduceLE,Int.reduceLT,Int.reduceEq,Int.reduceNe,di]
 by_cases hl:a.pp.length=b.pp.length
 rotate_left
 ·rw [if_neg (by omega),decide_eq_false (fun k=>hl (by rw [k]))]
 rw [if_pos (by omega)]
 refine calls_of (c_Ints (a:=a.ar) (b:=b.ar) (by omega)) ?_; simp only [vaE,res17,b17k0,b17k1,b17k2,b17k3, ↓reduceIte,reduceCtorEq,Nat.reduceEqDiff,Nat.reduceAdd,Nat.reduceMul,Nat.reduceSub,Nat.reduceLeDiff,Nat.reduceBEq,Int.reduceToNat,Int.reduceLE,Int.reduceLT,Int.reduceEq,Int.reduceNe,di]
 by_cases ha:a.ar=b.ar
 rotate_left
 ·simp only [ha,vaE, ↓reduceIte,reduceCtorEq,Nat.reduceEqDiff,Nat.reduceAdd,Nat.reduceMul,Nat.reduceSub,Nat.reduceLeDiff,Nat.reduceBEq,Int.reduceToNat,Int.reduceLE,Int.reduceLT,Int.reduceEq,Int.reduceNe,di]
  rw [decide_eq_false (fun k=>ha (by rw [k]))]
 simp only [ha,vaE, ↓reduceIte,reduceCtorEq,Nat.reduceEqDiff,Nat.reduceAdd,Nat.reduceMul,Nat.reduceSub,Nat.reduceLeDiff,Nat.reduceBEq,Int.reduceToNat,Int.reduceLE,Int.reduceLT,Int.reduceEq,Int.reduceNe,di]
 refine loop_keep (α:=Nat) rfl (fun i=>a.pp.length - i) (fun i=>i≤a.pp.length∧∀ j,j<i→a.pp.getD j default=b.pp.getD j default)
  (fun i=>[(2,.ref 2 0),(3,.ref 3 0),(5,.imm (.int .i64 i))]) (fun _=>[(2,.box [.imm (.slc 2 (a.pp.map ppI)),.imm (nI b.ar)]),(3,.box [.imm (.slc 2 (b.pp.map ppI)),.imm (nI b.ar)])]) 0 ⟨Nat.zero_le _,fun j hj=>by omega⟩ (by simp only [vaE, ↓reduceIte,reduceCtorEq,Nat.reduceEqDiff,Nat.reduceAdd,Nat.reduceMul,Nat.reduceSub,Nat.reduceLeDiff,Nat.reduceBEq,Int.reduceToNat,Int.reduceLE,Int.reduceLT,Int.reduceEq,Int.reduceNe,di] <;> rfl) ?_
 rintro i ⟨hi,he⟩ ih
 simp only [res17,b17k0,b17k1,b17k2,b17k3,vaE, ↓reduceIte,reduceCtorEq,Nat.reduceEqDiff,Nat.reduceAdd,Nat.reduceMul,Nat.reduceSub,Nat.reduceLeDiff,Nat.reduceBEq,Int.reduceToNat,Int.reduceLE,Int.reduceLT,Int.reduceEq,Int.reduceNe,di]
 split
 ·rename_i h
  repeat (refine And.intro (by omega) ?_)
  split
  ·rename_i h2
   have:¬ a=b:=fun k=>by subst k; simp at h2
   rw [decide_eq_false this]
  ·rename_i h2
   have h3:a.pp.getD i default=b.pp.getD i default:=by
    simp only [Bool.not_eq_false,Bool.and_eq_true,decide_eq_true_eq] at h2
    exact Prod.ext h2.1 h2.2
   rw [wrapS (by omega) (by omega)]
   refine ih (i+1) _ _ (by omega) ⟨by omega,fun j hj => ?_⟩ (by simp only [vaE, ↓reduceIte,reduceCtorEq,Nat.reduceEqDiff,Nat.reduceAdd,Nat.reduceMul,Nat.reduceSub,Nat.reduceLeDiff,Nat.reduceBEq,Int.reduceToNat,Int.reduceLE,Int.reduceLT,Int.reduceEq,Int.reduceNe,di] <;> rfl)
   by_cases e:j=i
   ·subst e; exact h3
   ·exact he j (by omega)
 ·rename_i h
  have hp:a.pp=b.pp:=eq_get default hl (fun j hj=>he j (by omega))
  rw [decide_eq_true (ln_eq.2 ⟨hp,ha⟩)]
end Go.DI

