/- Normal: the normal form of a clause, by insertion (the reference) and by sorting (the program). -/
import Derived.Test.YtpkhmndpeipfmaaKUn21
import Derived.Test.YtpkhmndpeipfmaaKUn24
import Derived.Test.YtpkhmndpeipfmaaKUn5
import Derived.Test.YtpkhmndpeipfmaaKUn6
set_option linter.unusedVariables false
set_option linter.unusedSimpArgs false
namespace Go.Proofs.Ytpkhmndpeipfmaa
open Go.RowKit
def insF (x:Int):List Int→Option (List Int)
 | []=>some [x]
 |y::r=>if vr y<vr x then(insF x r).map (y:: ·) else if y= -x then none else if y=x then some (y::r) else some (x::y::r)
def G7 (x:Int):Bool:=decide (x≠0)&&decide (-1073741824≤x)&&decide (x≤1073741824)
def nrm:List Int→List Int→Option (List Int)
 |acc,[]=>some acc
 |acc,x::l=>if G7 x=true then(insF x acc).bind fun o=>nrm o l else none
def normF (l:List Int):List Int×Bool:=match nrm [] l with
 |some o=>(o,true)
 |none=>([],false)
def Inc (l:List Int):Prop:=l.Pairwise fun x y=>vr x<vr y
theorem insF_spec {x:Int} (hx:x≠0):∀{acc:List Int},Inc acc→match insF x acc with
  |some o=>Inc o∧(∀z,z∈o↔z=x∨z∈acc)∧o.length≤acc.length+1
  |none=> -x∈acc
 | [],_=>by simp[insF,Inc]
 |y::r,h=>by
  have h':=List.pairwise_cons.1 h
  unfold insF
  by_cases h1:vr y<vr x
  ·rw[if_pos h1]
   have ih:=insF_spec hx h'.2
   cases hi:insF x r with
   |none=>rw[hi] at ih;simp only[Option.map_none];exact List.mem_cons_of_mem _ ih
   |some o=>
    rw[hi] at ih
    simp only[Option.map_some]
    refine⟨List.pairwise_cons.2 ⟨fun z hz=>?_,ih.1⟩,fun z=>?_,by simp only[List.length_cons];omega⟩
    ·rcases(ih.2.1 z).1 hz with rfl|hz
     ·exact h1
     exact h'.1 z hz
    simp only[List.mem_cons,ih.2.1 z]
    constructor
    ·rintro(rfl|rfl|h)<;>simp_all
    rintro(rfl|rfl|h)<;>simp_all
  rw[if_neg h1]
  by_cases h2:y= -x
  ·rw[if_pos h2];simp[h2]
  rw[if_neg h2]
  by_cases h3:y=x
  ·rw[if_pos h3];exact⟨h,by intro z;simp[h3],by simp⟩
  rw[if_neg h3]
  have h4:vr x<vr y:=by
   by_cases h:vr x<vr y
   ·exact h
   have:vr y=vr x:=by omega
   rcases vr_eq.1 this with e|e
   ·exact absurd e h3
   exact absurd e h2
  refine⟨List.pairwise_cons.2 ⟨fun z hz=>?_,h⟩,by intro z;simp,by simp⟩
  rcases List.mem_cons.1 hz with rfl|hz
  ·exact h4
  exact Int.lt_trans h4 (h'.1 z hz)
theorem Inc.noOpp {o:List Int} (h:Inc o) {x:Int} (hx:x∈o) (hn: -x∈o) (h0:x≠0):False:=by
 induction o with
 |nil=>simp at hx
 |cons y r ih=>
  have h':=List.pairwise_cons.1 h
  rcases List.mem_cons.1 hx with rfl|hx<;>rcases List.mem_cons.1 hn with hn|hn
  ·omega
  ·have:=h'.1 _ hn;rw[lL] at this;omega
  ·have:=h'.1 _ hx;rw[←hn,lL] at this;omega
  exact ih h'.2 hx hn
theorem aI9:∀(l acc:List Int),Inc acc→(∀x∈acc,x≠0)→match nrm acc l with
  |some o=>Inc o∧(∀z,z∈o↔z∈acc∨z∈l)∧(∀x∈l,G7 x=true)∧o.length≤acc.length+l.length
  |none=>(∃x∈l,G7 x=false)∨∃x,x≠0∧(x∈acc∨x∈l)∧(-x∈acc∨ -x∈l)
 | [],acc,h,_=>⟨h,by simp,by simp,by simp⟩
 |x::l,acc,h,h0=>by
  unfold nrm
  by_cases hr:G7 x=true
  ·rw[if_pos hr]
   have hx:x≠0:=by unfold G7 at hr;simp only[Bool.and_eq_true,decide_eq_true_eq] at hr;exact hr.1.1
   have hi:=insF_spec hx h
   cases hf:insF x acc with
   |none=>
    rw[hf] at hi
    simp only[Option.bind_none]
    exact Or.inr ⟨x,hx,Or.inr (List.mem_cons_self ..),Or.inl hi⟩
   |some o=>
    rw[hf] at hi
    simp only[Option.bind_some]
    have ih:=aI9 l o hi.1 (fun z hz=>by
     rcases(hi.2.1 z).1 hz with rfl|hz
     ·exact hx
     exact h0 z hz)
    cases hn:nrm o l with
    |none=>
     rw[hn] at ih
     simp only at ih⊢
     rcases ih with⟨z,hz,h1⟩|⟨z,hz,h1,h2⟩
     ·exact Or.inl ⟨z,List.mem_cons_of_mem _ hz,h1⟩
     refine Or.inr ⟨z,hz,?_,?_⟩
     ·rcases h1 with h1|h1
      ·rcases(hi.2.1 z).1 h1 with rfl|h1
       ·exact Or.inr (List.mem_cons_self ..)
       exact Or.inl h1
      exact Or.inr (List.mem_cons_of_mem _ h1)
     rcases h2 with h1|h1
     ·rcases(hi.2.1 _).1 h1 with e|h1
      ·exact Or.inr (e▸List.mem_cons_self ..)
      exact Or.inl h1
     exact Or.inr (List.mem_cons_of_mem _ h1)
    |some q=>
     rw[hn] at ih
     simp only at ih⊢
     refine⟨ih.1,fun z=>?_,fun z hz=>?_,by simp only[List.length_cons];omega⟩
     ·rw[ih.2.1 z,hi.2.1 z];simp only[List.mem_cons]
      constructor
      ·rintro((rfl|h)|h)<;>simp_all
      rintro(h|rfl|h)<;>simp_all
     rcases List.mem_cons.1 hz with rfl|hz
     ·exact hr
     exact ih.2.2.1 z hz
  rw[if_neg hr]
  exact Or.inl ⟨x,List.mem_cons_self ..,by simpa using hr⟩
theorem nrm_eq {l o:List Int} (h1:Inc o) (h2:∀z,z∈o↔z∈l) (h3:∀x∈l,G7 x=true):nrm [] l=some o:=by
 have h:=aI9 l [] List.Pairwise.nil (by simp)
 cases hn:nrm [] l with
 |none=>
  rw[hn] at h
  simp only at h
  rcases h with⟨x,hx,e⟩|⟨x,h0,hx,hy⟩
  ·rw[h3 x hx] at e;cases e
  simp only[List.not_mem_nil,false_or] at hx hy
  exact(h1.noOpp ((h2 _).2 hx) ((h2 _).2 hy) h0).elim
 |some q=>
  rw[hn] at h
  simp only at h
  congr 1
  exact rising_ext (r:=fun x y=>vr x<vr y) (fun a=>by omega) (fun a b c h1 h2=>by omega) h.1 h1 (fun x=>by rw[h.2.1,h2];simp)
theorem nrm_none {l:List Int} {x:Int} (h:(x∈l∧G7 x=false)∨(x≠0∧x∈l∧ -x∈l)):nrm [] l=none:=by
 have h':=aI9 l [] List.Pairwise.nil (by simp)
 cases hn:nrm [] l with
 |none=>rfl
 |some q=>
  rw[hn] at h'
  simp only at h'
  rcases h with⟨h1,h2⟩|⟨h0,h1,h2⟩
  ·rw[h'.2.2.1 x h1] at h2;cases h2
  exact(h'.1.noOpp ((h'.2.1 _).2 (Or.inr h1)) ((h'.2.1 _).2 (Or.inr h2)) h0).elim
theorem aJ2 {x:Int} (h:G7 x=true):x≠0∧ -1073741824≤x∧x≤1073741824:=by
 unfold G7 at h;simp only[Bool.and_eq_true,decide_eq_true_eq] at h;exact⟨h.1.1,h.1.2,h.2⟩
theorem J7 {x y:Int}:ltN x y=true↔vr x<vr y∨vr x=vr y∧x<y:=by unfold ltN;simp
theorem ltN_irr (x:Int):¬ltN x x=true:=by rw[J7];omega
theorem ltN_trans {x y z:Int} (h1:ltN x y=true) (h2:ltN y z=true):ltN x z=true:=by
 rw[J7] at*;omega
theorem ltN_tri {x y:Int} (h1:¬ltN x y=true) (h2:¬ltN y x=true):x=y:=by
 rw[J7] at*
 have:vr x=vr y:=by omega
 omega
theorem sortN_pair (l:List Int):(l.mergeSort fun x y=> !ltN y x).Pairwise fun x y=>¬ltN y x=true:=by
 have key:∀x y,(!ltN y x)=true↔¬ltN y x=true:=fun x y=>by cases ltN y x<;>simp
 have:=List.pairwise_mergeSort (le:=fun x y=> !ltN y x) (fun a b c h1 h2=>by
  rw[key] at*
  rw[J7] at*
  omega) (fun a b=>by
  rw[Bool.or_eq_true,key,key]
  by_cases h:ltN b a=true
  ·right;intro h2;exact ltN_irr _ (ltN_trans h h2)
  left;exact h) l
 exact this.imp fun h=>(key _ _).1 h
open Go.Lib in
theorem V3 {d:List Int} (hs:d.Pairwise fun x y=>¬ltN y x=true):∀m,m≤d.length→(compactUpTo d.toArray m).Pairwise (fun x y=>ltN x y=true)∧(∀x,x∈compactUpTo d.toArray m↔x∈d.take m)
 |0,_=>by simp[compactUpTo]
 |m+1,hm=>by
  obtain⟨ih1,ih2⟩:=V3 hs m (by omega)
  obtain⟨b,hb⟩:=bK (show m<d.length by omega)
  have hdm:d.toArray[m]! =b:=by
   have hlt:=dB hb
   rw[getElem!_pos _ _ (by simpa using hlt)]
   have:=(List.getElem?_eq_some_iff.1 hb).2
   simpa using this
  have hle:∀i a,i<m→d[i]?=some a→¬ltN b a=true:=fun i a hi ha=>by
   have h1:=(List.getElem?_eq_some_iff.1 ha)
   have h2:=(List.getElem?_eq_some_iff.1 hb)
   have:=List.pairwise_iff_getElem.1 hs i m h1.1 h2.1 hi
   rw[h1.2,h2.2] at this
   exact this
  rw[compactUpTo_succ,fA hb,hdm]
  by_cases hk:keeps d.toArray m=true
  ·rw[if_pos hk]
   refine⟨List.pairwise_append.2 ⟨ih1,List.pairwise_singleton _ _,fun x hx y hy=>?_⟩,fun x=>by simp[ih2]⟩
   obtain rfl:=List.mem_singleton.1 hy
   have hx2:=(ih2 x).1 hx
   obtain⟨i,hi⟩:=List.getElem?_of_mem hx2
   rw[List.getElem?_take] at hi
   split at hi
   ·rename_i him
    have h1:=hle i x him hi
    cases h2:ltN x y with
    |true=>rfl
    |false=>
     exfalso
     have e:x=y:=ltN_tri (by rw[h2];simp) h1
     subst e
     obtain⟨c,hc⟩:=bK (show m-1<d.length by omega)
     have hcm:d.toArray[m-1]! =c:=by
      rw[getElem!_pos _ _ (by simp;omega)]
      have:=(List.getElem?_eq_some_iff.1 hc).2
      simpa using this
     have h3:c=x:=by
      apply ltN_tri
      ·by_cases him':i=m-1
       ·subst him';rw[hi] at hc;obtain rfl:=Option.some.inj hc;exact ltN_irr _
       have q1:=(List.getElem?_eq_some_iff.1 hi)
       have q2:=(List.getElem?_eq_some_iff.1 hc)
       have:=List.pairwise_iff_getElem.1 hs i (m-1) q1.1 q2.1 (by omega)
       rw[q1.2,q2.2] at this
       exact this
      exact hle (m-1) c (by omega) hc
     unfold keeps at hk
     simp only[decide_eq_true_eq,hdm,hcm,h3] at hk
     rcases hk with hk|hk
     ·omega
     exact hk rfl
   cases hi
  rw[if_neg hk,List.append_nil]
  refine⟨ih1,fun x=>?_⟩
  rw[ih2,List.mem_append,List.mem_singleton]
  constructor
  ·exact Or.inl
  rintro(h|rfl)
  ·exact h
  unfold keeps at hk
  simp only[decide_eq_true_eq,not_or,ne_eq,Decidable.not_not,hdm] at hk
  obtain⟨c,hc⟩:=bK (show m-1<d.length by omega)
  have hcm:d.toArray[m-1]! =c:=by
   rw[getElem!_pos _ _ (by simp;omega)]
   have:=(List.getElem?_eq_some_iff.1 hc).2
   simpa using this
  rw[hcm] at hk
  rw[hk.2]
  refine List.mem_of_getElem? (i:=m-1) ?_
  rw[List.getElem?_take,if_pos (by omega)];exact hc
theorem mem_litOk {l:List Int} (h:∀x∈l,-1099511627776≤x∧x≤1099511627776):litOk l=true:=by
 unfold litOk
 simp only[List.all_eq_true,decide_eq_true_eq]
 intro x hx
 have:=h x hx
 omega
theorem compactLen_le (l:List Int):(Lib.compact l).length≤l.length:=by
 unfold Lib.compact Lib.compactUpTo
 rw[List.length_map]
 have:=List.length_filter_le (Lib.keeps l.toArray) (List.range l.length)
 rw[List.length_range] at this
 exact this
theorem compact_ok {l:List Int} (hl:l.length≤1073741824) (hr:∀x∈l,G7 x=true):∃o,((aA3 l).bind wH)=some o∧o.Pairwise (fun x y=>ltN x y=true)∧(∀x,x∈o↔x∈l)∧o.length≤l.length:=by
 have h1:aA3 l=some (l.mergeSort fun x y=> !ltN y x):=by
  unfold aA3
  rw[if_pos ⟨by omega,mem_litOk fun x hx=>by have:=aJ2 (hr x hx);omega⟩]
 obtain⟨h2,h3⟩:=V3 (sortN_pair l) l.length (by simp)
 refine⟨Lib.compact (l.mergeSort fun x y=> !ltN y x),?_,?_,fun x=>?_,?_⟩
 ·rw[h1]
  show wH _=_
  unfold wH
  rw[if_pos (by simp;omega)]
 ·unfold Lib.compact
  rw[List.length_mergeSort];exact h2
 ·unfold Lib.compact
  rw[List.length_mergeSort,h3,List.take_of_length_le (by simp),List.mem_mergeSort]
 have:=compactLen_le (l.mergeSort fun x y=> !ltN y x)
 rw[List.length_mergeSort] at this
 exact this
theorem Inc.of_strict {o:List Int} (hs:o.Pairwise fun x y=>ltN x y=true) (hn:∀x∈o,-x∈o→x=0) (h0:∀x∈o,x≠0):Inc o:=by
 unfold Inc
 induction o with
 |nil=>exact List.Pairwise.nil
 |cons y r ih=>
  have h:=List.pairwise_cons.1 hs
  refine List.pairwise_cons.2 ⟨fun z hz=>?_,ih h.2 (fun x hx hx'=>hn x (List.mem_cons_of_mem _ hx) (List.mem_cons_of_mem _ hx')) (fun x hx=>h0 x (List.mem_cons_of_mem _ hx))⟩
  have:=h.1 z hz
  rw[J7] at this
  rcases this with h1|⟨h1,h2⟩
  ·exact h1
  rcases vr_eq.1 h1 with e|e
  ·omega
  exfalso
  exact h0 y (List.mem_cons_self ..) (hn y (List.mem_cons_self ..) (by rw[e,Int.neg_neg];exact List.mem_cons_of_mem _ hz))
def adjF:Int→List Int→Bool
 |_,[]=>false
 |t,x::r=>decide (t= -x)||adjF x r
theorem adjF_yes:∀{r:List Int} {y:Int},adjF y r=true→∃x,x∈y::r∧ -x∈y::r
 | [],_,h=>by cases h
 |x::r,y,h=>by
  unfold adjF at h
  simp only[Bool.or_eq_true,decide_eq_true_eq] at h
  rcases h with rfl|h
  ·exact⟨x,by simp,by simp⟩
  obtain⟨z,h1,h2⟩:=adjF_yes h
  exact⟨z,List.mem_cons_of_mem _ h1,List.mem_cons_of_mem _ h2⟩
theorem adjF_no:∀{r:List Int} {y:Int},(y::r).Pairwise (fun x y=>ltN x y=true)→adjF y r=false→∀x∈y::r,-x∈y::r→x=0
 | [],y,_,_,x,hx,hn=>by
  rw[List.mem_singleton] at hx hn;omega
 |z::r,y,hs,h,x,hx,hn=>by
  unfold adjF at h
  simp only[Bool.or_eq_false_iff,decide_eq_false_iff_not] at h
  have hp:=List.pairwise_cons.1 hs
  have key:∀w,w∈z::r→w= -y→False:=by
   intro w hw e
   have h1:=hp.1 z (List.mem_cons_self ..)
   have h2:z=w∨ltN z w=true:=by
    rcases List.mem_cons.1 hw with e|hw
    ·exact Or.inl e.symm
    exact Or.inr ((List.pairwise_cons.1 hp.2).1 w hw)
   have h4:vr w=vr y:=by rw[e,lL]
   rw[J7] at h1
   rcases h2 with h2|h2
   ·exact h.1 (by omega)
   rw[J7] at h2
   have h5:vr z=vr y:=by omega
   rcases vr_eq.1 h5 with e2|e2
   ·omega
   exact h.1 (by omega)
  rcases List.mem_cons.1 hx with rfl|hx'<;>rcases List.mem_cons.1 hn with hn|hn'
  ·omega
  ·exact(key _ hn' rfl).elim
  ·exact(key _ hx' (by omega)).elim
  exact adjF_no hp.2 h.2 x hx' hn'
def stAdj (x t:Int):Step Int (Out Unit (List Int×Bool)):=if(decide (t= -x))=true then .done (.ret ([],false)) else .next x
theorem runL_adj:∀(r:List Int) (t:Int),J9 stAdj (fun _=>Out.brk ()) r t=if adjF t r=true then Out.ret ([],false) else Out.brk ()
 | [],t=>rfl
 |x::r,t=>by
  unfold J9 stAdj adjF
  by_cases h:t= -x
  ·simp[h]
  simp only[h,decide_false,Bool.false_eq_true,if_false,Bool.false_or]
  exact runL_adj r x
theorem cnf_Normal {l:List Int} (hl:l.length≤1073741824):vJ l=some (normF l):=by
 unfold vJ
 refine D6 l (fun x=> !G7 x) (Out.ret ([],false)) (Out.brk ()) ?_ ?_ ?_
 ·intro k a hk
  have hkl:=dB hk
  simp only[sZ,ltB hkl,if_true,dA hk,bsm,jA hkl (show l.length≤9223372036854775807 by omega)]
  have e:(((decide (a=0))||(decide (a<(-1073741824))))||(decide (1073741824<a)))= !G7 a:=by
   unfold G7
   rw[Bool.eq_iff_iff]
   simp only[Bool.or_eq_true,decide_eq_true_eq,Bool.not_eq_true',Bool.and_eq_false_iff,decide_eq_false_iff_not]
   omega
  rw[e]
  cases G7 a<;>rfl
 ·simp only[sZ,rY,if_false,Bool.false_eq_true]
 by_cases ha:l.any (fun x=> !G7 x)=true
 ·rw[if_pos ha]
  obtain⟨x,hx,h⟩:=List.any_eq_true.1 ha
  unfold normF
  rw[nrm_none (Or.inl ⟨hx,by simpa using h⟩)]
 rw[if_neg ha]
 have hr:∀x∈l,G7 x=true:=fun x hx=>by
  cases h:G7 x with
  |true=>rfl
  |false=>exact absurd (List.any_eq_true.2 ⟨x,hx,by simp[h]⟩) ha
 obtain⟨o,h1,h2,h3,h4⟩:=compact_ok hl hr
 obtain⟨q,hq,ho⟩:=Option.bind_eq_some_iff.1 h1
 have happ:app [] l=some l:=by rw[oV (by simp;omega)];rfl
 show((app [] l).bind fun x3=>_)=_
 rw[happ,bsm,hq,bsm,ho,bsm]
 have hor:∀x∈o,G7 x=true:=fun x hx=>hr x ((h3 x).1 hx)
 have hloop:dC (fun s=>nN o s) 1=some (match o with| []=>Out.brk ()|y::r=>if adjF y r=true then Out.ret ([],false) else Out.brk ()):=by
  cases o with
  |nil=>
   refine eF ?_
   simp[nN]
  |cons y r=>
   simp only
   rw[←runL_adj]
   refine loopL (body:=fun s=>nN (y::r) s) r (fun k t=>((k+1:Nat):Int)) stAdj (fun _=>Out.brk ()) (fun k t=>(y::r)[k]?=some t) (t0:=y) rfl rfl ?_ ?_
   ·intro k a t hk ht
    have hk2:(y::r)[k+1]?=some a:=by rw[List.getElem?_cons_succ];exact hk
    have hkl:=dB hk2
    constructor
    ·have e1:inK .i64 (((k+1:Nat):Int)-1)=some (k:Int):=by rw[gW ⟨by omega,by omega⟩];congr 1;omega
     have hb:=aJ2 (hor a (bQ hk2))
     have e2:inK .i64 (0-a)=some (-a):=by rw[gW ⟨by omega,by omega⟩];congr 1;omega
     simp only[nN,ltB hkl,if_true,e1,bsm,dA ht,dA hk2,e2,jA hkl (show(y::r).length≤9223372036854775807 by omega),stAdj]
     by_cases h:t= -a<;>simp[h]
    intro t' ht'
    unfold stAdj at ht'
    split at ht'
    ·cases ht'
    obtain rfl:=Step.next.inj ht';exact hk2
   intro t ht
   have e:(((r.length+1:Nat):Int))=((y::r).length:Int):=rfl
   simp only[nN,e,rY,if_false,Bool.false_eq_true]
 rw[hloop,bsm]
 cases o with
 |nil=>
  simp only
  unfold normF
  rw[nrm_eq (o:=[]) List.Pairwise.nil h3 hr]
 |cons y r=>
  simp only
  unfold normF
  by_cases hc:adjF y r=true
  ·rw[if_pos hc]
   obtain⟨x,hx,hx'⟩:=adjF_yes hc
   rw[nrm_none (Or.inr ⟨(aJ2 (hor x hx)).1,(h3 _).1 hx,(h3 _).1 hx'⟩)]
  rw[if_neg hc]
  have hi:=Inc.of_strict h2 (adjF_no h2 (by simpa using hc)) (fun x hx=>(aJ2 (hor x hx)).1)
  rw[nrm_eq hi h3 hr]
def phi (n:Nat) (st:List Int):Nat→Nat
 |0=>0
 |t+1=>phi n st t+if(t:Int)∈st then 0 else 2 ^ (n-1-t)
theorem yS (n:Nat) (st:List Int) (t:Nat):phi n st (t+1)=phi n st t+if(t:Int)∈st then 0 else 2 ^ (n-1-t):=rfl
theorem phi_lt {n:Nat} {st:List Int}:∀t,t≤n→phi n st t+2 ^ (n-t)≤2 ^ n
 |0,_=>by simp[phi]
 |t+1,h=>by
  have ih:=phi_lt (n:=n) (st:=st) t (by omega)
  have e:n-t=(n-1-t)+1:=by omega
  have e2:n-(t+1)=n-1-t:=by omega
  rw[e,Nat.pow_succ] at ih
  rw[yS,e2]
  split<;>omega
theorem phi_mono {n:Nat} {st:List Int} {t u:Nat} (h:t≤u):phi n st t≤phi n st u:=by
 induction h with
 |refl=>exact Nat.le_refl _
 |step _ ih=>exact Nat.le_trans ih (by rw[yS];omega)
theorem phi_congr {n:Nat} {st su:List Int}:∀t,(∀i:Nat,i<t→((i:Int)∈st↔(i:Int)∈su))→phi n st t=phi n su t
 |0,_=>rfl
 |t+1,h=>by
  have h1:=h t (by omega)
  rw[yS,yS,phi_congr t fun i hi=>h i (by omega)]
  by_cases e:(t:Int)∈su
  ·rw[if_pos e,if_pos (h1.2 e)]
  rw[if_neg e,if_neg (fun e'=>e (h1.1 e'))]
theorem phi_dec {n:Nat} {st:List Int} {b:Nat} (hb:(b:Int)∈st):∀t,b<t→t≤n→phi n st t+2 ^ (n-t)≤phi n st b+2 ^ (n-1-b)
 |0,h,_=>by omega
 |t+1,h,hn=>by
  by_cases e:t=b
  ·subst e
   rw[yS,if_pos hb,show n-(t+1)=n-1-t by omega]
   omega
  have ih:=phi_dec (n:=n) hb t (by omega) (by omega)
  have e1:n-t=(n-1-t)+1:=by omega
  have e2:n-(t+1)=n-1-t:=by omega
  rw[e1,Nat.pow_succ] at ih
  rw[yS,e2]
  have:(if(t:Int)∈st then 0 else 2 ^ (n-1-t))≤2 ^ (n-1-t):=by split<;>omega
  omega
theorem phi_back {n:Nat} {st su:List Int} {b t:Nat} (hb:(b:Int)∈st) (ht:b<t) (hn:t≤n) (hs:∀i:Nat,i<b→((i:Int)∈st↔(i:Int)∈su)) (hbu:(b:Int)∉su):phi n st t+1≤phi n su (b+1):=by
 have h1:=phi_dec hb t ht hn
 have h2:0<2 ^ (n-t):=Nat.pow_pos (by decide)
 rw[phi_congr b hs] at h1
 rw[yS,if_neg hbu]
 omega
theorem clF_of_inc {n:Int}:∀(c:List Int) (t:Int),Inc c→(∀y∈c,t<vr y∧vr y≤n)→clF n t c=true
 | [],_,_,_=>rfl
 |x::c,t,hi,h=>by
  have h1:=h x (List.mem_cons_self ..)
  have h2:=oI.1 h1.2
  obtain⟨i1,i2⟩:=List.pairwise_cons.1 hi
  unfold clF
  rw[clF_of_inc c (vr x) i2 (fun y hy=>⟨i1 y hy,(h y (List.mem_cons_of_mem _ hy)).2⟩)]
  simp only[Bool.and_true,Bool.and_eq_true,decide_eq_true_eq]
  exact⟨⟨h2.1,h2.2⟩,h1.1⟩
theorem inc_len {n:Int}:∀(c:List Int) (t:Int),t≤n→Inc c→(∀y∈c,t<vr y∧vr y≤n)→(c.length:Int)≤n-t
 | [],t,ht,_,_=>by simp;omega
 |x::c,t,_,hi,h=>by
  have h1:=h x (List.mem_cons_self ..)
  obtain⟨i1,i2⟩:=List.pairwise_cons.1 hi
  have:=inc_len c (vr x) h1.2 i2 (fun y hy=>⟨i1 y hy,(h y (List.mem_cons_of_mem _ hy)).2⟩)
  simp only[List.length_cons]
  omega
theorem normal_of {n:Int} (hn:0≤n∧n≤65536) {q:List Int} (hl:∀y∈q,y≠0∧vr y≤n) (ho:∀y∈q,-y∉q):∃o,normF q=(o,true)∧(∀z,z∈o↔z∈q)∧clF n 0 o=true∧(o.length:Int)≤n:=by
 have h:=aI9 q [] List.Pairwise.nil (by simp)
 have hr:∀x∈q,G7 x=true:=fun x hx=>by
  have h1:=hl x hx
  have h2:=oI.1 h1.2
  unfold G7
  simp only[Bool.and_eq_true,decide_eq_true_eq]
  exact⟨⟨h1.1,by omega⟩,by omega⟩
 unfold normF
 cases hq:nrm [] q with
 |none=>
  rw[hq] at h
  simp only at h
  rcases h with⟨x,hx,e⟩|⟨x,h0,hx,hy⟩
  ·rw[hr x hx] at e;cases e
  simp only[List.not_mem_nil,false_or] at hx hy
  exact absurd hy (ho x hx)
 |some o=>
  rw[hq] at h
  simp only at h
  have hm:∀z,z∈o↔z∈q:=fun z=>by rw[h.2.1];simp
  have hb:∀y∈o,(0:Int)<vr y∧vr y≤n:=fun y hy=>by
   have h1:=hl y ((hm y).1 hy)
   have h2:=jP y
   have h3:vr y≠0:=fun e=>h1.1 (qC.1 e)
   exact⟨by omega,h1.2⟩
  have:=inc_len o 0 hn.1 h.1 hb
  exact⟨o,rfl,hm,clF_of_inc o 0 h.1 hb,by omega⟩
section
variable {n:Int} {F:List (List Int)} {st:List Int} {D:Nat→Int→Prop} {val lev:List Int} {rea:List (Option Nat)} {trail:List Int} {ws:List (List Nat)} {cl:List (List Int)}
theorem negs_mono {q o:List Int} (h:∀z,z∈q↔z∈o) {G:List (List Int)} (hf:Fails G (xG q)):Fails G (xG o):=
 hf.mono (fun _ h=>h) fun x hx=>by
  have:=(h _).1 (aA5 hx)
  have h2:=V6.2 this
  rwa [Int.neg_neg] at h2
theorem clash_zero (h:Cor n F [] D val lev rea trail ws cl) {id:Nat} (hc:Clash [] trail cl id):Fails F []:=by
 obtain⟨c,h1,h2,_⟩:=hc.ex
 obtain⟨o,ho,k1,k2⟩:=h.eng.src id c h1
 refine Or.inr ⟨o,(mem_big.1 ho).1,fun y hy=>?_⟩
 have hyc:y∈c:=Classical.byContradiction fun hn=>by have:=k2 y hy hn;simp at this
 obtain⟨k,hk⟩:=List.getElem?_of_mem (h2 y hyc)
 exact h.up0 k hk rfl
structure Ahead (n:Int) (st trail q:List Int) (k:Nat) (b d:Int):Prop where
 q0:q[0]?=some (-d)
 open_:d∉trail.take b.toNat∧ -d∉trail.take b.toNat
 lit:∀y∈q,y≠0∧vr y≤n
 rest:∀(j:Nat) (y:Int),1≤j→q[j]?=some y→ -y∈trail.take b.toNat
 q1:1<q.length→∃(y:Int) (i:Nat),q[1]?=some y∧(trail.take b.toNat)[i]?=some (-y)∧lvl (st.take k) i=k∧∀c∈st.take k,c≤(i:Int)
theorem Learned.ahead (h:Cor n F st D val lev rea trail ws cl) {q:List Int} {k:Nat} {b:Int} (hL:Learned n F st trail q k) (hk:st[k]?=some b):∃d,Ahead n st trail q k b d:=by
 obtain⟨d,bd,h1,h2,h3,h4⟩:=hL.hd
 have hb:=h.stb b (bQ hk)
 have hkl:=dB hk
 have lt_of:∀i:Nat,lvl st i≤(k:Int)→i<b.toNat:=fun i hi=>by
  rcases Nat.lt_or_ge i b.toNat with h5|h5
  ·exact h5
  have:=lvl_ge h.sts hk (show b≤(i:Int) by omega)
  omega
 have mem_take:∀(i:Nat) (x:Int),trail[i]?=some x→i<b.toNat→(trail.take b.toNat)[i]?=some x:=fun i x hx hi=>by
  rw[List.getElem?_take,if_pos hi];exact hx
 have hdn:∀x:Int,vr x=vr d→x∉trail.take b.toNat:=fun x hx hm=>by
  obtain⟨i,hi⟩:=List.getElem?_of_mem hm
  rw[List.getElem?_take] at hi
  split at hi
  ·rename_i hib
   have e:=h.at_ hi h1 hx
   subst e
   have:=lvl_lt' h.sts hk (show(i:Int)<b by omega)
   omega
  cases hi
 refine⟨d,h4,⟨hdn d rfl,hdn (-d) (lL d)⟩,fun y hy=>⟨(hL.lit y hy).1,(hL.lit y hy).2.1⟩,fun j y hj hy=>?_,fun hq=>?_⟩
 ·obtain⟨i,i1,i2⟩:=hL.lo j y hj hy
  exact bQ (mem_take i _ i1 (lt_of i i2))
 obtain⟨y,i,i0,i1,i2⟩:=hL.hi hq
 have hib:=lt_of i (by omega)
 refine⟨y,i,i0,mem_take i _ i1 hib,by rw[←lvl_lt h.sts hk (show(i:Int)<b by omega)];exact i2,fun c hc=>?_⟩
 obtain⟨j,hj⟩:=List.getElem?_of_mem hc
 rw[List.getElem?_take] at hj
 split at hj
 ·rename_i hjk
  rcases Int.lt_or_le (i:Int) c with h5|h5
  ·have:=lvl_lt' h.sts hj h5
   omega
  exact h5
 cases hj
theorem Cor.learnt {k:Nat} (h:Cor n F (st.take k) (fun _ w=> -w∈trail) val lev rea trail ws cl) {tr0 q o:List Int} {b d:Int} (hA:Ahead n st tr0 q k b d) (htr:trail=tr0.take b.toNat) (hkl:k≤st.length) (hq:1<q.length) (hnd:q.Nodup) (ho:∀z,z∈q↔z∈o) (ho2:2≤o.length) {Ra Rb:List Nat} {a2:Int} (hq1:q[1]?=some a2) (hra:ws[ixL (-d)]?=some Ra) (hrb:ws[ixL a2]?=some Rb):
  Cor n (F++[o]) (st.take k) (fun _ w=> -w∈trail) (val.set (vr (-d)).toNat (-d)) (lev.set (vr (-d)).toNat ((st.take k).length:Int)) (rea.set (vr (-d)).toNat (some cl.length)) (trail++[-d]) ((ws.set (ixL (-d)) (Ra++[cl.length])).set (ixL a2) (Rb++[cl.length])) (cl++[q]):=by
 have hp:Pair q (-d) a2:=Or.inl ⟨hA.q0,hq1⟩
 obtain⟨y,i,y1,i1,i2,i3⟩:=hA.q1 hq
 obtain rfl:=Option.some.inj (hq1.symm.trans y1)
 rw[←htr] at i1
 have hop:=hA.open_
 rw[←htr] at hop
 have hdl:=hA.lit _ (bQ hA.q0)
 have h1:=h.addW (q:=o) (d:=q) ho2 hA.q0 hq1 hnd hA.lit ho hra hrb (fun c hc w p hpw hw=>by
  exfalso
  rcases hp.other hpw with⟨rfl,_⟩|⟨rfl,_⟩
  ·rw[Int.neg_neg] at hw
   exact hop.1 (List.mem_of_mem_take hw)
  obtain⟨j,hj⟩:=List.getElem?_of_mem hw
  rw[List.getElem?_take] at hj
  split at hj
  ·have e:=nY h.eng.nd hj i1
   have:=i3 c hc
   have:=h.stb c hc
   omega
  cases hj)
 have hz:gv val (-d)=some 0:=by
  rcases h.eng.cases hdl.1 hdl.2 with⟨_,hm⟩|⟨_,hm⟩|⟨hz,_⟩
  ·exact absurd hm hop.2
  ·rw[Int.neg_neg] at hm;exact absurd hm hop.1
  exact hz
 have hnew:(cl++[q])[cl.length]?=some q:=by rw[List.getElem?_append_right (Nat.le_refl _)];simp
 have hlk:((st.take k).length:Int)=k:=by rw[List.length_take,Nat.min_eq_left hkl]
 have hne:a2≠ -d:=fun e=>by subst e;have:=nY hnd hq1 hA.q0;omega
 have h2:=h1.hold hdl.1 hdl.2 hz (r:=some cl.length) ⟨q,hnew,bQ hA.q0,fun z hz hne=>by
  rw[List.take_length]
  obtain⟨j,hj⟩:=List.getElem?_of_mem hz
  have:j≠0:=fun e=>by subst e;exact hne (Option.some.inj (hj.symm.trans hA.q0))
  rw[htr]
  exact hA.rest j z (by omega) hj,a2,bQ hq1,hne,i,i1,by rw[i2,h.top (Nat.le_refl _),hlk]⟩ (fun id e=>by rw[←Option.some.inj e,List.length_append];simp)
 refine h2.more fun id c w p hc hpw hw=>?_
 by_cases e:id=cl.length
 ·subst e
  obtain rfl:=Option.some.inj (hnew.symm.trans hc)
  rcases hp.other hpw with⟨rfl,_⟩|⟨rfl,rfl⟩
  ·have hw: - -d∈trail:=hw
   rw[Int.neg_neg] at hw
   exact absurd hw hop.1
  simp
 exact h2.eng.pr id c w p hc hpw ⟨hw,e⟩
theorem Cor.learnt1 (h:Cor n F (st.take 0) (fun _ w=> -w∈trail) val lev rea trail ws cl) {tr0 q o:List Int} {b d:Int} (hA:Ahead n st tr0 q 0 b d) (htr:trail=tr0.take b.toNat) (ho:o=[-d]):
  Cor n (F++[o]) (st.take 0) (fun _ w=> -w∈trail) (val.set (vr (-d)).toNat (-d)) (lev.set (vr (-d)).toNat ((st.take 0).length:Int)) (rea.set (vr (-d)).toNat none) (trail++[-d]) ws cl:=by
 have hop:=hA.open_
 rw[←htr] at hop
 have hdl:=hA.lit _ (bQ hA.q0)
 have hz:gv val (-d)=some 0:=by
  rcases h.eng.cases hdl.1 hdl.2 with⟨_,hm⟩|⟨_,hm⟩|⟨hz,_⟩
  ·exact absurd hm hop.2
  ·rw[Int.neg_neg] at hm;exact absurd hm hop.1
  exact hz
 subst ho
 have h1:=h.addU (q:=[-d]) (by simp)
 exact h1.hold hdl.1 hdl.2 hz (r:=none) (Or.inr ⟨rfl,.unit (List.mem_append_right _ (List.mem_singleton.2 rfl)) (by simp) fun y hy hne=>absurd (List.mem_singleton.1 hy) hne⟩) (fun id e=>by cases e)
end
theorem accP_snoc:∀{p F:List (List Int)} {c:List Int},Q8 F (p++[c])↔Q8 F p∧Fails (F++p) (xG c)
 | [],F,c=>by simp[Q8]
 |q::p,F,c=>by
  have ih:= @accP_snoc p (F++[q]) c
  rw[List.append_assoc] at ih
  show Fails F (xG q)∧Q8 (F++[q]) (p++[c])↔(Fails F (xG q)∧Q8 (F++[q]) p)∧Fails (F++q::p) (xG c)
  rw[ih]
  exact⟨fun⟨a,b,c⟩=>⟨⟨a,b⟩,c⟩,fun⟨⟨a,b⟩,c⟩=>⟨a,b,c⟩⟩
def fJ (n:Int) (F0:List (List Int)) (m:List Int):Prop:=(m.length:Int)=n∧MdL m∧∀c∈F0,uD m c=true
def uZ (n:Int) (F0 P:List (List Int)):Prop:=P.getLast?=some []∧Q8 F0 P∧(∀q∈P,clF n 0 q=true)∧oZ P≤1048576∧P.length≤65537
structure RInv (n:Int) (F0:List (List Int)) (c:Nat) (s:Sol):Prop where
 inv:SInv n (F0++s.proof) s
 pl:s.proof.length=c
 acc:Q8 F0 s.proof
 pcl:∀q∈s.proof,clF n 0 q=true
 li:s.literals=(oZ s.proof:Int)
 l2:oZ s.proof≤c*n.toNat
 l3:oZ s.proof≤1048576
 ph:c≤phi n.toNat s.starts s.trail.length
abbrev RunS:=Int×Int×Int×Bool×List Int×List Int×List (Option Nat)×List Int×(List (List Nat)×List (List Int))×List Int×List Int×List Int×List Bool×List (List Int)
def zU (c:Int) (s:Sol):RunS:=(c,s.head,s.literals,s.broken,s.value,s.level,s.reason,s.saved,s.watches,s.trail,s.starts,s.queue.list,s.queue.isin,s.proof)
noncomputable def J8 (p:Int) (s:RunS):=fP p s.1 s.2.1 s.2.2.1 s.2.2.2.1 s.2.2.2.2.1 s.2.2.2.2.2.1 s.2.2.2.2.2.2.1 s.2.2.2.2.2.2.2.1 s.2.2.2.2.2.2.2.2.1 s.2.2.2.2.2.2.2.2.2.1 s.2.2.2.2.2.2.2.2.2.2.1 s.2.2.2.2.2.2.2.2.2.2.2.1 s.2.2.2.2.2.2.2.2.2.2.2.2.1 s.2.2.2.2.2.2.2.2.2.2.2.2.2
theorem aI7 (p:List (List Int)) (q:List Int):oZ (p++[q])=oZ p+q.length:=by rw[litN_app];simp[oZ]
theorem note_ok {s:Sol} {q o:List Int} (hq:q.length≤1073741824) (ho:normF q=(o,true)) (hp:s.proof.length≤1000000) (hol:o.length≤100000) {k:Nat} (hli:s.literals=(k:Int)) (hk:k≤1048576):
  lU s q=some (decide (((k+o.length:Nat):Int)≤1048576),Sol.mk s.value s.level s.reason s.saved s.watches s.trail s.starts s.head s.queue (s.proof++[o]) ((k+o.length:Nat):Int) s.broken):=by
 unfold lU
 rw[cnf_Normal hq,ho,bsm,oV (by simp;omega),bsm,hli]
 simp only
 rw[oM (show(k:Int)+(o.length:Int)=((k+o.length:Nat):Int) by omega) ⟨by omega,by omega⟩,bsm]
section
variable {n:Int} {F0:List (List Int)}
theorem model_of {F:List (List Int)} {st:List Int} {val lev:List Int} {rea:List (Option Nat)} {trail:List Int} {ws:List (List Nat)} {cl:List (List Int)} (h:Cor n F st (fun _ w=> -w∈trail) val lev rea trail ws cl) (hn:0≤n∧n≤65536) (hall:∀v:Int,1≤v→v≤n→val[v.toNat]?≠some 0) (hu:∀l,[l]∈F→l∈trail) (he: []∉F) (hF:∀c∈F,∀y∈c,y≠0∧vr y≤n):fJ n F (val.drop 1):=by
 have hlen:=h.eng.vo.len
 have hget:∀(i:Nat) x,(val.drop 1)[i]?=some x→x=(i:Int)+1∨x= -((i:Int)+1):=fun i x hx=>by
  rw[List.getElem?_drop] at hx
  have hl:=dB hx
  rcases h.eng.vo.own _ x hx with rfl|⟨_,e⟩
  ·exact absurd (by rw[show(((1+i:Nat):Int)).toNat=1+i by omega];exact hx) (hall ((1+i:Nat):Int) (by omega) (by omega))
  have:=H6 x
  omega
 refine⟨by rw[List.length_drop];omega,hget,fun c hc=>?_⟩
 have sat:∀y∈c,gv val y=some y→uD (val.drop 1) c=true:=fun y hy hg=>by
  unfold uD
  rw[List.any_eq_true]
  refine⟨y,hy,?_⟩
  have h1:=hF c hc y hy
  have h2:=jP y
  have h3:vr y≠0:=fun e=>h1.1 (qC.1 e)
  rw[decide_eq_true_eq,List.getElem?_drop,show 1+(vr y-1).toNat=(vr y).toNat by omega]
  exact hg
 have tru:∀y,y∈trail→gv val y=some y:=fun y hy=>((h.eng.tr y).1 hy).2
 match c,hc,sat with
 | [],hc,_=>exact absurd hc he
 | [x],hc,sat=>exact sat x (by simp) (tru x (hu x hc))
 |x::y::r,hc,sat=>
  rcases h.eng.closed (fun id w hw=>hw) (x::y::r) (mem_big.2 ⟨hc,by simp⟩) with⟨z,hz,hg⟩|⟨z,hz,_,_,_,hg,_⟩
  ·exact sat z hz hg
  have h1:=hF _ hc z hz
  have h2:=jP z
  have h3:vr z≠0:=fun e=>h1.1 (qC.1 e)
  exact absurd hg (hall (vr z) (by omega) h1.2)
theorem RInv.lt {c:Nat} {s:Sol} (h:RInv n F0 c s) (hn:0≤n):c+1≤2 ^ n.toNat:=by
 have h1:=h.inv.cor.eng.trailLen hn
 have h2:=phi_lt (n:=n.toNat) (st:=s.starts) s.trail.length (by omega)
 have h3:0<2 ^ (n.toNat-s.trail.length):=Nat.pow_pos (by decide)
 have:=h.ph
 omega
end
section
variable {n:Int} {F0:List (List Int)}
theorem clF_lits {F0 P:List (List Int)} (h0:∀c∈F0,uM n c) (hp:∀q∈P,clF n 0 q=true):∀c∈F0++P,uM n c:=fun c hc=>by
 rcases List.mem_append.1 hc with hc|hc
 ·exact h0 c hc
 exact clF_ok (hp c hc)
theorem step_decide {c:Nat} {val lev:List Int} {rea:List (Option Nat)} {sav:List Int} {W:List (List Nat)×List (List Int)} {tr st:List Int} {hd:Int} {q:Que} {pf:List (List Int)} {li:Int} {br:Bool} (hn:0≤n∧n≤65536) (h:RInv n F0 c (Sol.mk val lev rea sav W tr st hd q pf li br)) (hbr:br=false)
  {v2 l2 v3 l3:List Int} {r2 r3:List (Option Nat)} {ext:List Int} {W':List (List Nat)×List (List Int)} {q':Que} {x:Int} (hWl:W'.2.length=W.2.length)
  (hC:Cor n (F0++pf) (st++[((tr++ext).length:Int)]) (fun _ w=> -w∈tr++ext) v3 l3 r3 ((tr++ext)++[x]) W'.1 W'.2) (hst:∀b∈st,b<tr.length) (hq:QOk n q') (hu:Unq n v3 q'.list):
  RInv n F0 c (Sol.mk v3 l3 r3 sav W' ((tr++ext)++[x]) (st++[((tr++ext).length:Int)]) ((tr++ext).length:Int) q' pf li br):=by
 have hI:=h.inv
 have hpre:∀(k:Nat) (l:Int),tr[k]?=some l→((tr++ext)++[x])[k]?=some l:=fun k l hk=>by
  rw[List.append_assoc,List.getElem?_append_left (dB hk)];exact hk
 refine⟨⟨?_,⟨by show(0:Int)≤((tr++ext).length:Int);omega,by show((tr++ext).length:Int)≤(((tr++ext)++[x]).length:Int);rw[@List.length_append _ (tr++ext) _];omega,fun b hb=>?_⟩,hq,hu,hI.sv,fun _ l hl=>?_,hI.emp,hI.brk,by show W'.2.length≤_;rw[hWl];exact hI.cll⟩,h.pl,h.acc,h.pcl,h.li,h.l2,h.l3,?_⟩
 ·show Cor n (F0++pf) _ (fun _ w=> -w∈((tr++ext)++[x]).take ((tr++ext).length:Int).toNat) _ _ _ _ _ _
  rw[Int.toNat_natCast,List.take_left' rfl]
  exact hC
 ·have hb:b∈st++[((tr++ext).length:Int)]:=hb
  rw[List.mem_append,List.mem_singleton] at hb
  show b≤((tr++ext).length:Int)
  rcases hb with hb|hb
  ·have:=hst b hb
   rw[List.length_append];omega
  omega
 ·obtain⟨k,hk,hk2⟩:=hI.unit hbr l hl
  refine⟨k,hpre k l hk,?_⟩
  have hkl:=dB hk
  show lvl (st++[((tr++ext).length:Int)]) k=0
  rw[lvl_snoc (by rw[List.length_append];have:k<tr.length:=hkl;omega)]
  exact hk2
 have h1:=h.ph
 show c≤phi n.toNat (st++[((tr++ext).length:Int)]) ((tr++ext)++[x]).length
 have h2:phi n.toNat (st++[((tr++ext).length:Int)]) tr.length=phi n.toNat st tr.length:=phi_congr _ fun i hi=>by
  rw[List.mem_append,List.mem_singleton]
  exact⟨fun h=>h.resolve_right (by rw[List.length_append];omega),Or.inl⟩
 have h3:phi n.toNat (st++[((tr++ext).length:Int)]) tr.length≤phi n.toNat (st++[((tr++ext).length:Int)]) ((tr++ext)++[x]).length:=phi_mono (by simp)
 have h4:c≤phi n.toNat st tr.length:=h1
 omega
theorem step_learn {c:Nat} {val lev:List Int} {rea:List (Option Nat)} {sav:List Int} {W:List (List Nat)×List (List Int)} {tr st:List Int} {hd:Int} {q:Que} {pf:List (List Int)} {li:Int} {br:Bool} (hn:0≤n∧n≤65536) (h:RInv n F0 c (Sol.mk val lev rea sav W tr st hd q pf li br)) (hbr:br=false)
  {ext:List Int} {D:Nat→Int→Prop} {v2 l2:List Int} {r2:List (Option Nat)} {W2:List (List Nat)×List (List Int)} (hC0:Cor n (F0++pf) st D v2 l2 r2 (tr++ext) W2.1 W2.2) (hW2:W2.2.length=W.2.length)
  {qc o:List Int} {k:Nat} {b d:Int} (hL:Learned n (F0++pf) st (tr++ext) qc k) (hk:st[k]?=some b) (hA:Ahead n st (tr++ext) qc k b d) (ho:∀z,z∈o↔z∈qc) (hoc:clF n 0 o=true) (hol:(o.length:Int)≤n) (hl3:oZ pf+o.length≤1048576)
  {v3 l3:List Int} {r3:List (Option Nat)} {W3:List (List Nat)×List (List Int)} {sv3:List Int} {q3:Que} {x:Option Nat}
  (hC:Cor n ((F0++pf)++[o]) (st.take k) (fun _ w=> -w∈(tr++ext).take b.toNat) (v3.set (vr (-d)).toNat (-d)) l3 r3 ((tr++ext).take b.toNat++[-d]) W3.1 W3.2) (hW3:W3.2.length≤W2.2.length+1) (hs3:SvOk n sv3) (hq3:QOk n q3) (hu3:Unq n v3 q3.list):
  RInv n F0 (c+1) (Sol.mk (v3.set (vr (-d)).toNat (-d)) l3 r3 sv3 W3 ((tr++ext).take b.toNat++[-d]) (st.take k) b q3 (pf++[o]) ((oZ pf+o.length:Nat):Int) br):=by
 have hI:=h.inv
 have hb:=hC0.stb b (bQ hk)
 have hkl:=dB hk
 have hd0:=hA.lit _ (bQ hA.q0)
 have htl:=hC0.eng.trailLen hn.1
 have htk:((tr++ext).take b.toNat).length=b.toNat:=by rw[List.length_take];omega
 have sb:∀e∈st.take k,e<b:=fun e he=>by
  obtain⟨j,hj⟩:=List.getElem?_of_mem he
  rw[List.getElem?_take] at hj
  split at hj
  ·rename_i hjk
   have hjl:=dB hj
   have:=List.pairwise_iff_getElem.1 hC0.sts j k hjl hkl hjk
   rw[List.getElem?_eq_getElem hjl] at hj
   rw[List.getElem?_eq_getElem hkl] at hk
   rw[Option.some.inj hj,Option.some.inj hk] at this
   exact this
  cases hj
 have sb2:∀e∈st,e∉st.take k→b≤e:=fun e he hne=>by
  rw[←List.take_append_drop k st,List.mem_append] at he
  obtain⟨j,hj⟩:=List.getElem?_of_mem (he.resolve_left hne)
  rw[List.getElem?_drop] at hj
  by_cases e0:j=0
  ·subst e0
   rw[Nat.add_zero,hk] at hj
   rw[Option.some.inj hj];exact Int.le_refl _
  have hjl:=dB hj
  have:=List.pairwise_iff_getElem.1 hC0.sts k (k+j) hkl hjl (by omega)
  rw[List.getElem?_eq_getElem hjl] at hj
  rw[List.getElem?_eq_getElem hkl] at hk
  rw[Option.some.inj hj,Option.some.inj hk] at this
  omega
 have htake:((tr++ext).take b.toNat++[-d]).take b.toNat=(tr++ext).take b.toNat:=List.take_left' htk
 refine⟨⟨?_,⟨hb.1,?_,fun e he=>?_⟩,hq3,fun v hv1 hv2 hv0=>?_,hs3,fun _ l hl=>?_,fun _ hm=>?_,fun e=>?_,?_⟩,?_,?_,fun p hp=>?_,?_,?_,?_,?_⟩
 ·show Cor n (F0++(pf++[o])) (st.take k) (fun _ w=> -w∈((tr++ext).take b.toNat++[-d]).take b.toNat) _ _ _ _ _ _
  rw[htake,←List.append_assoc]
  exact hC
 ·show b≤(((tr++ext).take b.toNat++[-d]).length:Int)
  rw[List.length_append,htk];omega
 ·have:=sb e he
  show e≤b
  omega
 ·have hv0:(v3.set (vr (-d)).toNat (-d))[v.toNat]?=some 0:=hv0
  rcases dX hv0 with⟨_,e⟩|⟨_,hv0⟩
  ·exact absurd e.symm hd0.1
  exact hu3 v hv1 hv2 hv0
 ·have hl: [l]∈F0++(pf++[o]):=hl
  show ∃i:Nat,((tr++ext).take b.toNat++[-d])[i]?=some l∧lvl (st.take k) i=0
  rw[←List.append_assoc,List.mem_append,List.mem_singleton] at hl
  rcases hl with hl|hl
  ·obtain⟨i,hi,hi2⟩:=hI.unit hbr l hl
   have hi:tr[i]?=some l:=hi
   have hi2:lvl st i=0:=hi2
   have hib:i<b.toNat:=by
    rcases Nat.lt_or_ge i b.toNat with h5|h5
    ·exact h5
    have:=lvl_ge hC0.sts hk (show b≤(i:Int) by omega)
    omega
   refine⟨i,?_,?_⟩
   ·rw[List.getElem?_append_left (by omega),List.getElem?_take,if_pos hib,List.getElem?_append_left (dB hi)]
    exact hi
   rw[←lvl_lt hC0.sts hk (show(i:Int)<b by omega)]
   exact hi2
  have hqm:∀z,z∈qc↔z=l:=fun z=>by rw[←ho,←hl];simp
  have hql:qc.length≤1:=by
   rcases Nat.lt_or_ge 1 qc.length with h5|h5
   ·obtain⟨y1,hy1⟩:=bK h5
    have e1:=(hqm _).1 (bQ hy1)
    have e0:=(hqm _).1 (bQ hA.q0)
    have:=nY hL.nd (hy1.trans (congrArg some e1)) (hA.q0.trans (congrArg some e0))
    omega
   exact h5
  have hk0:=hL.one hql
  have e0:=(hqm _).1 (bQ hA.q0)
  refine⟨b.toNat,?_,?_⟩
  ·rw[List.getElem?_append_right (by omega),htk,Nat.sub_self,←e0];rfl
  have:k=0:=by omega
  subst this
  rfl
 ·have hm: []∈F0++(pf++[o]):=hm
  rw[←List.append_assoc,List.mem_append,List.mem_singleton] at hm
  rcases hm with hm|hm
  ·exact hI.emp hbr hm
  have:=(ho (-d)).2 (bQ hA.q0)
  rw[←hm] at this
  simp at this
 ·have e:br=true:=e
  rw[hbr] at e;cases e
 ·show W3.2.length≤(F0++(pf++[o])).length
  have h1:W.2.length≤(F0++pf).length:=hI.cll
  rw[←List.append_assoc,List.length_append,List.length_singleton]
  omega
 ·show(pf++[o]).length=c+1
  have h1:pf.length=c:=h.pl
  rw[List.length_append,h1];rfl
 ·exact accP_snoc.2 ⟨h.acc,negs_mono (fun z=>(ho z).symm) hL.rup⟩
 ·have hp:p∈pf++[o]:=hp
  rw[List.mem_append,List.mem_singleton] at hp
  rcases hp with hp|rfl
  ·exact h.pcl p hp
  exact hoc
 ·show((oZ pf+o.length:Nat):Int)=(oZ (pf++[o]):Int)
  rw[aI7]
 ·show oZ (pf++[o])≤(c+1)*n.toNat
  have h1:oZ pf≤c*n.toNat:=h.l2
  rw[aI7,Nat.add_mul]
  omega
 ·show oZ (pf++[o])≤1048576
  rw[aI7];exact hl3
 show c+1≤phi n.toNat (st.take k) ((tr++ext).take b.toNat++[-d]).length
 have h1:c≤phi n.toNat st tr.length:=h.ph
 have h2:phi n.toNat st tr.length≤phi n.toNat st (tr++ext).length:=phi_mono (by simp)
 have h3:=phi_back (n:=n.toNat) (st:=st) (su:=st.take k) (b:=b.toNat) (t:=(tr++ext).length) (by rw[Int.toNat_of_nonneg hb.1];exact bQ hk) (by omega) (by omega) (fun i hi=>by
  constructor
  ·intro hm
   apply Classical.byContradiction
   intro hne
   have:=sb2 _ hm hne
   omega
  ·intro hm
   exact List.mem_of_mem_take hm) (fun hm=>by
  have:=sb _ hm
  omega)
 rw[List.length_append,htk]
 exact Nat.le_trans (Nat.succ_le_succ (Nat.le_trans h1 h2)) h3
end
theorem two_of:∀{o:List Int} {a b:Int},a∈o→b∈o→a≠b→2≤o.length
 | [],_,_,h,_,_=>by simp at h
 | [z],_,_,h1,h2,hne=>absurd ((List.mem_singleton.1 h1).trans (List.mem_singleton.1 h2).symm) hne
 |z::w::t,_,_,_,_,_=>by simp
theorem one_of:∀{o:List Int} {a:Int},a∈o→o.Nodup→(∀z∈o,z=a)→o=[a]
 | [],_,h,_,_=>by simp at h
 | [z],_,_,_,hz=>by rw[hz z (by simp)]
 |z::w::t,a,_,hnd,hz=>by
  have e1:=hz z (by simp)
  have e2:=hz w (by simp)
  rw[e1,e2] at hnd
  simp at hnd
section
variable {n:Int} {F0:List (List Int)}
def ConfOut (n:Int) (F0:List (List Int)) (c:Nat) (o:Option (Step RunS (Out (Int×Int×Bool×List Int×List Int×List (Option Nat)×List Int×(List (List Nat)×List (List Int))×List Int×List Int×List Int×List Bool×List (List Int)) Answer))):Prop:=
 (∃P,o=some (.done (.ret (Answer.mk 1 [] P ((c+1:Nat):Int))))∧uZ n F0 P)∨(o=some (.done (.ret (Answer.mk 2 [] [] ((c+1:Nat):Int))))∧1048576<(c+1)*n.toNat)∨(∃s',o=some (.next (zU ((c+1:Nat):Int) s'))∧RInv n F0 (c+1) s')
theorem proof_end {c:Nat} {pf:List (List Int)} (hacc:Q8 F0 pf) (hpc:∀q∈pf,clF n 0 q=true) (hl:oZ pf≤1048576) (hpl:pf.length≤65536) (hf:Fails (F0++pf) []):uZ n F0 (pf++[[]]):=by
 refine⟨by simp,accP_snoc.2 ⟨hacc,hf⟩,fun q hq=>?_,by rw[aI7];simpa using hl,by simp;omega⟩
 rw[List.mem_append,List.mem_singleton] at hq
 rcases hq with hq|rfl
 ·exact hpc q hq
 rfl
set_option maxHeartbeats 2000000 in
theorem run_step (hn:0≤n∧n≤65536) (hF0:F0.length≤800000) (hcl:∀c∈F0,uM n c) {c:Nat} (hc:c≤65536) {s:Sol} (h:RInv n F0 c s):
  (∃s',(∀p,J8 p (zU (c:Int) s)=some (.next (zU (c:Int) s')))∧RInv n F0 c s'∧s.trail.length<s'.trail.length)∨
  (∃m,(∀p,J8 p (zU (c:Int) s)=some (.done (.ret (Answer.mk 0 m [] (c:Int)))))∧fJ n F0 m)∨
  (∃o,(∀p,J8 p (zU (c:Int) s)=if(decide ((c:Int)=p))=true then some (.done (.ret (Answer.mk 2 [] [] (c:Int)))) else o)∧ConfOut n F0 c o):=by
 obtain⟨val,lev,rea,sav,W,tr,st,hd,⟨ql,qi⟩,pf,li,br⟩:=s
 have hI:=h.inv
 have hlits:∀c∈F0++pf,uM n c:=clF_lits hcl h.pcl
 have hpl:pf.length=c:=h.pl
 have hli:li=(oZ pf:Int):=h.li
 have hl3:oZ pf≤1048576:=h.l3
 have hcll:W.2.length≤(F0++pf).length:=hI.cll
 have hFl:(F0++pf).length≤900000:=by rw[List.length_append];omega
 obtain⟨hdn,rfl⟩:∃k:Nat,hd=k:=⟨hd.toNat,by have:0≤hd:=hI.hd.1;omega⟩
 have hhd:hdn≤tr.length:=by have:(hdn:Int)≤tr.length:=hI.hd.2.1;omega
 have hstb:∀b∈st,b≤(hdn:Int):=hI.hd.2.2
 have hcor:Cor n (F0++pf) st (fun _ w=> -w∈tr.take hdn) val lev rea tr W.1 W.2:=by
  have:=hI.cor
  simpa only[Int.toNat_natCast] using this
 obtain⟨r,v1,l1,r1,ext,W1,h1,e1,hW1,hcase⟩:=spropagate_ok (s:=Sol.mk val lev rea sav W tr st (hdn:Int) (Que.mk ql qi) pf li br) (h:=hdn) hn (by show W.2.length≤_;omega) rfl rfl hstb hcor hhd
 simp only at e1 hW1 hcase
 have hsv:SvOk n sav:=hI.sv
 have hq:QOk n (Que.mk ql qi):=hI.q
 have hun1:Unq n v1 ql:=by
  have key:∀{D:Nat→Int→Prop},Cor n (F0++pf) st D v1 l1 r1 (tr++ext) W1.1 W1.2→Unq n v1 ql:=fun hC v hv1 hv2 hv0=>by
   refine hI.un v hv1 hv2 ?_
   show val[v.toNat]?=some 0
   obtain⟨y,hy⟩:=bK (show v.toNat<val.length by have:=hcor.eng.vo.len;omega)
   rcases hcor.eng.vo.own _ y hy with rfl|⟨hy0,hyv⟩
   ·exact hy
   have hg:gv val y=some y:=by unfold gv;rw[show(vr y).toNat=v.toNat by omega];exact hy
   have hm:y∈tr:=(hcor.eng.tr y).2 ⟨hy0,hg⟩
   have h2:=((hC.eng.tr y).1 (List.mem_append_left ext hm)).2
   unfold gv at h2
   rw[show(vr y).toNat=v.toNat by omega,hv0] at h2
   exact absurd (Option.some.inj h2).symm hy0
  rcases hcase with⟨_,_,hC⟩|⟨_,_,_,D,hC⟩
  ·exact key hC
  exact key hC
 by_cases hA:r=none∧br=false
 ·
  obtain⟨rfl,rfl⟩:=hA
  obtain⟨_,rfl,hC⟩:none=none∧h1=((tr++ext).length:Int)∧Cor n (F0++pf) st (fun _ w=> -w∈tr++ext) v1 l1 r1 (tr++ext) W1.1 W1.2:=by
   rcases hcase with h|⟨id,e,_⟩
   ·exact h
   cases e
  rcases sdecide_ok (s:=Sol.mk v1 l1 r1 sav W1 (tr++ext) st ((tr++ext).length:Int) (Que.mk ql qi) pf li false) hC hn hsv hq hun1 with⟨v3,l3,r3,q3,x,e2,hC3,hq3,hu3⟩|⟨q3,e2,hall⟩
  ·simp only at e2 hC3
   refine Or.inl ⟨Sol.mk v3 l3 r3 sav W1 ((tr++ext)++[x]) (st++[((tr++ext).length:Int)]) ((tr++ext).length:Int) q3 pf li false,fun p=>?_,step_decide hn h rfl hW1 hC3 (fun b hb=>(hcor.stb b hb).2) hq3 hu3 (v2:=v1) (l2:=l1) (r2:=r1),by show tr.length<((tr++ext)++[x]).length;simp⟩
   unfold J8 zU fP
   simp only
   rw[e1,bsm]
   simp only
   rw[if_pos (show((none:Option Nat).isNone&& !false)=true from rfl),e2,bsm]
   simp only
   rw[if_pos trivial,bsm]
  simp only at e2 hall
  have hmo:=model_of hC hn hall (fun l hl=>by
   obtain⟨k,hk,_⟩:=hI.unit rfl l hl
   exact List.mem_append_left _ (bQ hk)) (hI.emp rfl) (fun c hc=>(hlits c hc).1)
  refine Or.inr (Or.inl ⟨v1.drop 1,fun p=>?_,hmo.1,hmo.2.1,fun c hc=>hmo.2.2 c (List.mem_append_left _ hc)⟩)
  have hvl:=hC.eng.vo.len
  have hs:sub v1 1 (v1.length:Int)=some (v1.drop 1):=by rw[yV (by decide) (by omega) (by omega),Int.toNat_natCast,List.take_length];rfl
  unfold J8 zU fP
  simp only
  rw[e1,bsm]
  simp only
  rw[if_pos (show((none:Option Nat).isNone&& !false)=true from rfl),e2,bsm]
  simp only
  rw[if_neg (by decide),hs,bsm,oV (by simp;omega),bsm,List.nil_append,bsm]
 refine Or.inr (Or.inr ?_)
 have hif:¬((r.isNone&& !br)=true):=by
  intro e
  rw[Bool.and_eq_true] at e
  refine hA ⟨by cases r with|none=>rfl|some _=>exact absurd e.1 (by simp),by cases br with|false=>rfl|true=>exact absurd e.2 (by simp)⟩
 have hup:inK .i64 ((c:Int)+1)=some ((c+1:Nat):Int):=oM rfl ⟨by omega,by omega⟩
 by_cases hB:br=true∨st=[]
 ·
  have hf:Fails (F0++pf) []:=by
   rcases hB with hB|hB
   ·exact hI.brk hB
   subst hB
   rcases hcase with⟨rfl,_⟩|⟨id,rfl,hcl2,D,hC⟩
   ·cases br with
    |false=>exact absurd ⟨rfl,rfl⟩ hA
    |true=>exact hI.brk rfl
   exact clash_zero hC hcl2
  refine⟨_,fun p=>?_,Or.inl ⟨pf++[[]],rfl,proof_end (c:=c) h.acc h.pcl hl3 (by omega) hf⟩⟩
  have hnt:=note_ok (s:=Sol.mk v1 l1 r1 sav W1 (tr++ext) st h1 (Que.mk ql qi) pf li br) (q:=[]) (o:=[]) (by simp) rfl (by show pf.length≤_;omega) (by simp) hli hl3
  unfold J8 zU fP
  simp only
  rw[e1,bsm]
  simp only
  rw[if_neg hif]
  by_cases hcp:(decide ((c:Int)=p))=true
  ·rw[if_pos hcp,if_pos hcp,bsm]
  rw[if_neg hcp,if_neg hcp,hup,bsm,if_pos (by
   rcases hB with hB|hB
   ·rw[hB];rfl
   rw[hB];simp),hnt,bsm,bsm]
 have hbr:br=false:=by cases br with|false=>rfl|true=>exact absurd (Or.inl rfl) hB
 subst hbr
 have hst:st≠[]:=fun e=>hB (Or.inr e)
 obtain⟨id,rfl,hclash,D,hC⟩:∃id,r=some id∧Clash st (tr++ext) W1.2 id∧∃D,Cor n (F0++pf) st D v1 l1 r1 (tr++ext) W1.1 W1.2:=by
  rcases hcase with⟨rfl,_⟩|h
  ·exact absurd ⟨rfl,rfl⟩ hA
  exact h
 obtain⟨qc,back,e2,hL⟩:=slearn_ok hC hn (p0:=Sol.mk v1 l1 r1 sav W1 (tr++ext) st h1 (Que.mk ql qi) pf li false) rfl rfl rfl rfl rfl hst hclash
 obtain⟨k,rfl⟩:∃k:Nat,back=k:=⟨back.toNat,by have:=hL.bk.1;omega⟩
 obtain⟨b,hk⟩:=bK (show k<st.length by have:=hL.bk.2;omega)
 obtain⟨d,hAh⟩:=hL.ahead hC hk
 have hlq:∀y∈qc,y≠0∧vr y≤n:=fun y hy=>⟨(hL.lit y hy).1,(hL.lit y hy).2.1⟩
 obtain⟨o,ho1,ho2,ho3,ho4⟩:=normal_of hn hlq (fun y hy hm=>hC.eng.opp (hL.lit _ hm).2.2 (by rw[Int.neg_neg];have:=(hL.lit _ hy).2.2;exact(hC.eng.opp this (by rw[Int.neg_neg];have:=(hL.lit _ hm).2.2;rwa [Int.neg_neg] at this)).elim))
 have hqcl:qc.length≤131074:=uM.len ⟨hlq,hL.nd⟩ hn
 have hnt:=note_ok (s:=Sol.mk v1 l1 r1 sav W1 (tr++ext) st h1 (Que.mk ql qi) pf li false) (q:=qc) (o:=o) (by omega) ho1 (by show pf.length≤_;omega) (by omega) hli hl3
 simp only at hnt
 by_cases hov:oZ pf+o.length≤1048576
 ·obtain⟨v3,r3,sv3,q3,e3,hC3,hs3,hq3,hu3⟩:=sundo_ok (s:=Sol.mk v1 l1 r1 sav W1 (tr++ext) st h1 (Que.mk ql qi) (pf++[o]) ((oZ pf+o.length:Nat):Int) false) hC hn hsv hq hun1 hk
  simp only at e3 hC3
  have hdl:=hlq _ (bQ hAh.q0)
  have hdb:=oI.1 hdl.2
  have hlvk:((st.take k).length:Int)=((st.take k).length:Int):=rfl
  by_cases hql:1<qc.length
  ·
   obtain⟨a2,i,y1,i1,i2,i3⟩:=hAh.q1 hql
   have ha2:=hlq _ (bQ y1)
   have hab:=oI.1 ha2.2
   have hne: -d≠a2:=fun e=>by have:=nY hL.nd hAh.q0 (e▸y1);omega
   obtain⟨Ra,hRa⟩:=hC3.eng.rowAt hdl.2
   obtain⟨Rb,hRb⟩:=hC3.eng.rowAt ha2.2
   have hRal:=hC3.eng.rowLen hRa
   have hRbl:=hC3.eng.rowLen hRb
   have ho22:2≤o.length:=by
    have m1:=(ho2 _).2 (bQ hAh.q0)
    have m2:=(ho2 _).2 (bQ y1)
    exact two_of m1 m2 hne
   have hC4:=hC3.learnt hAh rfl (Nat.le_of_lt (dB hk)) hql hL.nd (fun z=>(ho2 z).symm) ho22 y1 hRa hRb
   have hsetW:(W1.2++[qc]).set W1.2.length qc=W1.2++[qc]:=set_self (by simp)
   have hwt:=swatch_ok (s:=Sol.mk v3 l1 r3 sv3 (W1.1,W1.2++[qc]) ((tr++ext).take b.toNat) (st.take k) b q3 (pf++[o]) ((oZ pf+o.length:Nat):Int) false) (id:=W1.2.length) (d:=qc) (by simp) hAh.q0 y1 hne ⟨by omega,by omega⟩ ⟨by omega,by omega⟩ hRa hRb (by omega) (by omega)
   simp only at hwt
   have hC3':Cor n (F0++pf) (st.take k) (fun _ w=> -w∈(tr++ext).take b.toNat) v3 l1 r3 ((tr++ext).take b.toNat) W1.1 W1.2:=hC3
   have hnewc:(W1.2++[qc])[W1.2.length]?=some qc:=by simp
   have hhold:=V9 (s:=Sol.mk v3 l1 r3 sv3 ((W1.1.set (ixL (-d)) (Ra++[W1.2.length])).set (ixL a2) (Rb++[W1.2.length]),W1.2++[qc]) ((tr++ext).take b.toNat) (st.take k) b q3 (pf++[o]) ((oZ pf+o.length:Nat):Int) false) hC3' hdl.2 hn.2 hn.1 (some W1.2.length) rfl rfl rfl rfl
   simp only at hhold
   refine⟨_,fun p=>?_,Or.inr (Or.inr ⟨_,rfl,step_learn hn h rfl hC hW1 hL hk hAh ho2 ho3 ho4 hov hC4 (W3:=((W1.1.set (ixL (-d)) (Ra++[W1.2.length])).set (ixL a2) (Rb++[W1.2.length]),W1.2++[qc])) (by simp) hs3 hq3 hu3 (x:=none)⟩)⟩
   unfold J8 zU fP
   simp only
   rw[e1,bsm]
   simp only
   rw[if_neg hif]
   by_cases hcp:(decide ((c:Int)=p))=true
   ·rw[if_pos hcp,if_pos hcp,bsm]
   rw[if_neg hcp,if_neg hcp,hup,bsm,if_neg (by simp;exact hst),e2,bsm]
   simp only
   rw[hnt,bsm]
   simp only
   rw[if_neg (by simp;omega),e3,bsm]
   simp only
   rw[if_pos (by rw[decide_eq_true_eq];omega),hC3.put,bsm,hC3.idsQ,bsm]
   simp only[hsetW]
   rw[hwt,bsm]
   simp only
   rw[hnewc,bsm,show idx qc 0=some (-d) from kE (by decide) hAh.q0,bsm,hhold,bsm,bsm]
  have hk0:k=0:=by have:=hL.one (by omega);omega
  subst hk0
  have hoe:o=[-d]:=by
   have hqe:∀z∈qc,z= -d:=fun z hz=>by
    obtain⟨j,hj⟩:=List.getElem?_of_mem hz
    have:j=0:=by have:=dB hj;omega
    subst this
    exact Option.some.inj (hj.symm.trans hAh.q0)
   have m1:=(ho2 _).2 (bQ hAh.q0)
   have hnd:=clF_nodup (Int.le_refl 0) ho3
   exact one_of m1 hnd fun z hz=>hqe z ((ho2 z).1 hz)
  have hC4:=hC3.learnt1 hAh rfl hoe
  have hhold:=V9 (s:=Sol.mk v3 l1 r3 sv3 W1 ((tr++ext).take b.toNat) (st.take 0) b q3 (pf++[o]) ((oZ pf+o.length:Nat):Int) false) hC3 hdl.2 hn.2 hn.1 none rfl rfl rfl rfl
  simp only at hhold
  refine⟨_,fun p=>?_,Or.inr (Or.inr ⟨_,rfl,step_learn hn h rfl hC hW1 hL hk hAh ho2 ho3 ho4 hov hC4 (W3:=W1) (by omega) hs3 hq3 hu3 (x:=none)⟩)⟩
  unfold J8 zU fP
  simp only
  rw[e1,bsm]
  simp only
  rw[if_neg hif]
  by_cases hcp:(decide ((c:Int)=p))=true
  ·rw[if_pos hcp,if_pos hcp,bsm]
  rw[if_neg hcp,if_neg hcp,hup,bsm,if_neg (by simp;exact hst),e2,bsm]
  simp only
  rw[hnt,bsm]
  simp only
  rw[if_neg (by simp;omega),e3,bsm]
  simp only
  rw[if_neg (by rw[decide_eq_true_eq];omega),show idx qc 0=some (-d) from kE (by decide) hAh.q0,bsm,hhold,bsm,bsm]
 have h2:oZ pf≤c*n.toNat:=h.l2
 refine⟨_,fun p=>?_,Or.inr (Or.inl ⟨rfl,by rw[Nat.add_mul];omega⟩)⟩
 unfold J8 zU fP
 simp only
 rw[e1,bsm]
 simp only
 rw[if_neg hif]
 by_cases hcp:(decide ((c:Int)=p))=true
 ·rw[if_pos hcp,if_pos hcp,bsm]
 rw[if_neg hcp,if_neg hcp,hup,bsm,if_neg (by simp;exact hst),e2,bsm]
 simp only
 rw[hnt,bsm]
 simp only
 rw[if_pos (by simp;omega),bsm]
end
def AOk (n:Int) (F0:List (List Int)) (p:Int) (a:Answer):Prop:=
 0≤a.conflicts∧a.conflicts≤p∧a.conflicts≤((2 ^ n.toNat:Nat):Int)∧((a.kind=0∧a.proof=[]∧fJ n F0 a.model)∨(a.kind=1∧a.model=[]∧uZ n F0 a.proof)∨(a.kind=2∧a.model=[]∧a.proof=[]∧((a.conflicts=p∧p<((2 ^ n.toNat:Nat):Int))∨1048576<a.conflicts.toNat*n.toNat)))
def ARel (a b:Answer):Prop:=(a.kind≠2→a=b)∧(a.kind=2→b.kind=2∨a.conflicts≤b.conflicts)∧(b.kind=2→a.kind=2)
section
variable {n:Int} {F0:List (List Int)}
theorem RInv.trl {c:Nat} {s:Sol} (h:RInv n F0 c s) (hn:0≤n):s.trail.length≤n.toNat:=by
 have:=h.inv.cor.eng.trailLen hn
 omega
theorem model_aok {c:Nat} {s:Sol} (h:RInv n F0 c s) (hn:0≤n∧n≤65536) {p:Int} (hcp:(c:Int)≤p) {m:List Int} (hm:fJ n F0 m):AOk n F0 p (Answer.mk 0 m [] (c:Int)):=by
 have:=h.lt hn.1
 exact⟨by show(0:Int)≤c;omega,hcp,by show(c:Int)≤_;omega,Or.inl ⟨rfl,rfl,hm⟩⟩
theorem budget_aok {c:Nat} {s:Sol} (h:RInv n F0 c s) (hn:0≤n∧n≤65536) {p:Int} (hcp:(c:Int)=p):AOk n F0 p (Answer.mk 2 [] [] (c:Int)):=by
 have:=h.lt hn.1
 exact⟨by show(0:Int)≤c;omega,by show(c:Int)≤p;omega,by show(c:Int)≤_;omega,Or.inr (Or.inr ⟨rfl,rfl,rfl,Or.inl ⟨hcp,by omega⟩⟩)⟩
theorem proof_aok {c:Nat} {s:Sol} (h:RInv n F0 c s) (hn:0≤n∧n≤65536) {p:Int} (hcp:((c+1:Nat):Int)≤p) {P:List (List Int)} (hP:uZ n F0 P):AOk n F0 p (Answer.mk 1 [] P ((c+1:Nat):Int)):=by
 have:=h.lt hn.1
 exact⟨by show(0:Int)≤((c+1:Nat):Int);omega,hcp,by show((c+1:Nat):Int)≤_;omega,Or.inr (Or.inl ⟨rfl,rfl,hP⟩)⟩
theorem over_aok {c:Nat} {s:Sol} (h:RInv n F0 c s) (hn:0≤n∧n≤65536) {p:Int} (hcp:((c+1:Nat):Int)≤p) (ho:1048576<(c+1)*n.toNat):AOk n F0 p (Answer.mk 2 [] [] ((c+1:Nat):Int)):=by
 have:=h.lt hn.1
 exact⟨by show(0:Int)≤((c+1:Nat):Int);omega,hcp,by show((c+1:Nat):Int)≤_;omega,Or.inr (Or.inr ⟨rfl,rfl,rfl,Or.inr (by show 1048576<(((c+1:Nat):Int)).toNat*n.toNat;rw[Int.toNat_natCast];exact ho)⟩)⟩
theorem mea_dec {P N c t t':Nat} (h:t<t') (h2:t'≤N):(P-c)*(N+2)+(N+1-t')<(P-c)*(N+2)+(N+1-t):=by omega
theorem mea_conf {P N c t t':Nat} (h:c<P):(P-(c+1))*(N+2)+(N+1-t')<(P-c)*(N+2)+(N+1-t):=by
 have e:P-c=(P-(c+1))+1:=by omega
 rw[e,Nat.add_mul]
 omega
theorem run1 (hn:0≤n∧n≤65536) (hF0:F0.length≤800000) (hcl:∀c∈F0,uM n c) {p:Int} (hp:p≤65536):∀(m c:Nat) (s:Sol),(p.toNat-c)*(n.toNat+2)+(n.toNat+1-s.trail.length)≤m→(c:Int)≤p→RInv n F0 c s→
  ∃a,dC (J8 p) (zU (c:Int) s)=some (.ret a)∧AOk n F0 p a∧(c:Int)≤a.conflicts:=by
 intro m
 induction m with
 |zero=>
  intro c s hm hcp h
  have:=h.trl hn.1
  omega
 |succ m ih=>
  intro c s hm hcp h
  rcases run_step hn hF0 hcl (show c≤65536 by omega) h with⟨s',h1,h2,h3⟩|⟨md,h1,h2⟩|⟨o,h1,h2⟩
  ·obtain⟨a,e1,e2⟩:=ih c s' (by have:=mea_dec (P:=p.toNat) (c:=c) h3 (h2.trl hn.1);omega) hcp h2
   exact⟨a,by rw[gJ (h1 p)];exact e1,e2⟩
  ·exact⟨_,eF (h1 p),model_aok h hn hcp h2,Int.le_refl _⟩
  by_cases hc:(c:Int)=p
  ·exact⟨_,eF (by rw[h1 p,if_pos (by simpa using hc)]),budget_aok h hn hc,Int.le_refl _⟩
  have h1':J8 p (zU (c:Int) s)=o:=by rw[h1 p,if_neg (by simpa using hc)]
  have hc1:((c+1:Nat):Int)≤p:=by omega
  rcases h2 with⟨P,rfl,hP⟩|⟨rfl,ho⟩|⟨s',rfl,hs'⟩
  ·exact⟨_,eF h1',proof_aok h hn hc1 hP,by show(c:Int)≤((c+1:Nat):Int);omega⟩
  ·exact⟨_,eF h1',over_aok h hn hc1 ho,by show(c:Int)≤((c+1:Nat):Int);omega⟩
  obtain⟨a,e1,e2,e3⟩:=ih (c+1) s' (by have:=mea_conf (P:=p.toNat) (N:=n.toNat) (c:=c) (t:=s.trail.length) (t':=s'.trail.length) (by omega);omega) hc1 hs'
  exact⟨a,by rw[gJ h1'];exact e1,e2,by omega⟩
theorem arel_rfl (a:Answer):ARel a a:=⟨fun _=>rfl,fun h=>Or.inl h,fun h=>h⟩
theorem run2 (hn:0≤n∧n≤65536) (hF0:F0.length≤800000) (hcl:∀c∈F0,uM n c) {p q:Int} (hpq:p≤q) (hq:q≤65536):∀(m c:Nat) (s:Sol),(q.toNat-c)*(n.toNat+2)+(n.toNat+1-s.trail.length)≤m→(c:Int)≤p→RInv n F0 c s→
  ∃a b,dC (J8 p) (zU (c:Int) s)=some (.ret a)∧dC (J8 q) (zU (c:Int) s)=some (.ret b)∧AOk n F0 p a∧AOk n F0 q b∧ARel a b:=by
 intro m
 induction m with
 |zero=>
  intro c s hm hcp h
  have:=h.trl hn.1
  omega
 |succ m ih=>
  intro c s hm hcp h
  have hcq:(c:Int)≤q:=by omega
  rcases run_step hn hF0 hcl (show c≤65536 by omega) h with⟨s',h1,h2,h3⟩|⟨md,h1,h2⟩|⟨o,h1,h2⟩
  ·obtain⟨a,b,e1,e2,e3⟩:=ih c s' (by have:=mea_dec (P:=q.toNat) (c:=c) h3 (h2.trl hn.1);omega) hcp h2
   exact⟨a,b,by rw[gJ (h1 p)];exact e1,by rw[gJ (h1 q)];exact e2,e3⟩
  ·exact⟨_,_,eF (h1 p),eF (h1 q),model_aok h hn hcp h2,model_aok h hn hcq h2,arel_rfl _⟩
  by_cases hc:(c:Int)=p
  ·obtain⟨b,e1,e2,e3⟩:=run1 hn hF0 hcl hq _ c s (Nat.le_refl _) hcq h
   exact⟨_,b,eF (by rw[h1 p,if_pos (by simpa using hc)]),e1,budget_aok h hn hc,e2,fun e=>absurd rfl e,fun _=>Or.inr e3,fun _=>rfl⟩
  have h1':J8 p (zU (c:Int) s)=o:=by rw[h1 p,if_neg (by simpa using hc)]
  have h2':J8 q (zU (c:Int) s)=o:=by rw[h1 q,if_neg (by simp;omega)]
  have hc1:((c+1:Nat):Int)≤p:=by omega
  have hc2:((c+1:Nat):Int)≤q:=by omega
  rcases h2 with⟨P,rfl,hP⟩|⟨rfl,ho⟩|⟨s',rfl,hs'⟩
  ·exact⟨_,_,eF h1',eF h2',proof_aok h hn hc1 hP,proof_aok h hn hc2 hP,arel_rfl _⟩
  ·exact⟨_,_,eF h1',eF h2',over_aok h hn hc1 ho,over_aok h hn hc2 ho,arel_rfl _⟩
  obtain⟨a,b,e1,e2,e3⟩:=ih (c+1) s' (by have:=mea_conf (P:=q.toNat) (N:=n.toNat) (c:=c) (t:=s.trail.length) (t':=s'.trail.length) (by omega);omega) hc1 hs'
  exact⟨a,b,by rw[gJ h1'];exact e1,by rw[gJ h2'];exact e2,e3⟩
theorem srun_ok (hn:0≤n∧n≤65536) (hF0:F0.length≤800000) (hcl:∀c∈F0,uM n c) {p q:Int} (hp:0≤p) (hpq:p≤q) (hq:q≤65536) {s:Sol} (h:RInv n F0 0 s):
  ∃a b,fZ s p=some a∧fZ s q=some b∧AOk n F0 p a∧AOk n F0 q b∧ARel a b:=by
 obtain⟨a,b,e1,e2,e3⟩:=run2 hn hF0 hcl hpq hq _ 0 s (Nat.le_refl _) (by omega) h
 refine⟨a,b,?_,?_,e3⟩
 ·have e1:dC (J8 p) (zU 0 s)=some (.ret a):=e1
  show(dC (J8 p) (zU 0 s)).bind _=_
  rw[e1,bsm]
 have e2:dC (J8 q) (zU 0 s)=some (.ret b):=e2
 show(dC (J8 q) (zU 0 s)).bind _=_
 rw[e2,bsm]
end
def fitsB (f:Formula) (l:List Int) (p:Int):Bool:=decide (0≤p)&&decide (p≤65536)&&iV f&&l.all (sOk f.vars)
theorem fits1_ok {f:Formula} (hv:0≤f.vars∧f.vars≤65536) (x:Int):rM x f=some (!sOk f.vars x):=by
 unfold rM sOk
 by_cases h0:x=0
 ·rw[if_pos (by simpa using h0),bsm];simp[h0]
 rw[if_neg (by simpa using h0),oM (show 0-f.vars= -f.vars by omega) ⟨by omega,by omega⟩,bsm,bsm]
 congr 1
 by_cases h1:x< -f.vars
 ·have:¬ -f.vars≤x:=by omega
  simp[h0,h1,this]
 by_cases h2:f.vars<x
 ·have:¬x≤f.vars:=by omega
  simp[h0,h1,h2,this]
 have a: -f.vars≤x:=by omega
 have b:x≤f.vars:=by omega
 simp[h0,h1,h2,a,b]
theorem fits_ok {f:Formula} {l:List Int} {p:Int} (hf:FLen f.clauses) (hl:l.length≤9223372036854775807):rU f l p=some (fitsB f l p):=by
 unfold rU fitsB
 by_cases hp:0≤p∧p≤65536
 ·have e1:(decide (0≤p)&&decide (p≤65536))=true:=by simp[hp]
  rw[if_pos e1,aA0 hf,bsm,bsm,e1,Bool.true_and]
  cases hv:iV f with
  |false=>rw[if_neg (by decide),bsm];rfl
  |true=>
   have hb:=mP hv
   rw[if_pos rfl]
   have hc:gI l f=some (l.any fun x=> !sOk f.vars x):=by
    unfold gI jM
    have h:=scan_loop (body:=fun s=>fV l f s) l (fun x=> !sOk f.vars x) (fun k _=>Out.ret (k:Int)) (Out.brk ()) (by
     intro k a hk
     simp only[fV,ltB (dB hk),if_true,dA hk,bsm,fits1_ok ⟨hb.1,hb.2.1⟩,jA (dB hk) hl]
     cases sOk f.vars a<;>rfl) (by simp only[fV,rY,if_false,Bool.false_eq_true])
    rcases h with⟨k,a,_,_,_,h2,_,e⟩|⟨_,h2,_,e⟩
    ·rw[e,h2];simp
    rw[e,h2];simp
   rw[hc,bsm,bsm,Bool.true_and,List.all_eq_not_any_not]
 have e1:¬(decide (0≤p)&&decide (p≤65536))=true:=by simp;omega
 rw[if_neg e1,bsm,if_neg (by decide),bsm,Bool.eq_false_iff.2 e1]
 rfl
theorem yF {f:Formula} {l:List Int} {p:Int}:fitsB f l p=true↔(0≤p∧p≤65536)∧iV f=true∧∀x∈l,sOk f.vars x=true:=by
 unfold fitsB
 simp only[Bool.and_eq_true,decide_eq_true_eq,List.all_eq_true]
 exact⟨fun⟨⟨a,b⟩,c⟩=>⟨a,b,c⟩,fun⟨a,b,c⟩=>⟨⟨a,b⟩,c⟩⟩
theorem with_ok {f:Formula} {c:List Int} (h:f.clauses.length+1≤4294967296):lS f c=some ⟨f.vars,f.clauses++[c]⟩:=by
 unfold lS
 rw[oV (by simpa using h),bsm]
theorem with28_ok {f:Formula} {l:List Int} (h:f.clauses.length+l.length≤4294967296):jV f l=some ⟨f.vars,f.clauses++ones l⟩:=by
 unfold jV
 obtain⟨b,hb,rfl⟩:=uA (body:=fun s:Int×Int×List (List Int)=>lH l s.1 s.2.1 s.2.2) (s0:=(0,f.vars,f.clauses)) l.length (fun k t=>((k:Int),f.vars,t)) (fun k t=>t=f.clauses++ones (l.take k)) (fun b=>b=(f.vars,f.clauses++ones l)) (t0:=f.clauses) rfl (by simp[ones]) (by
  rintro k t hk rfl
  obtain⟨x,hx⟩:=bK hk
  refine Or.inl ⟨f.clauses++ones (l.take (k+1)),?_,rfl⟩
  have hl:(f.clauses++ones (l.take k)).length+1≤4294967296:=by unfold ones;rw[List.length_append,List.length_map,List.length_take];omega
  simp only[lH,ltB hk,if_true,dA hx,bsm,with_ok (f:=⟨f.vars,f.clauses++ones (l.take k)⟩) hl,jA hk (show l.length≤9223372036854775807 by omega)]
  have e:ones (l.take (k+1))=ones (l.take k)++[[x]]:=by unfold ones;rw[fA hx,List.map_append];rfl
  rw[e,List.append_assoc]) (by
  rintro t rfl
  rw[List.take_length]
  exact⟨_,by simp only[lH,rY,if_false,Bool.false_eq_true],rfl⟩)
 rw[hb,bsm]
def kM (m:List Int) (x:Int):Bool:=decide (m[(vr x-1).toNat]?=some x)
def uY (n:Int) (l:List Int):Prop:=∀x∈l,x≠0∧vr x≤n
theorem sOk_iff {v x:Int}:sOk v x=true↔x≠0∧vr x≤v:=by
 unfold sOk
 simp only[Bool.and_eq_true,decide_eq_true_eq]
 rw[oI]
 exact⟨fun⟨⟨a,b⟩,c⟩=>⟨a,b,c⟩,fun⟨a,b,c⟩=>⟨⟨a,b⟩,c⟩⟩
theorem uY.at_ {n:Int} {l:List Int} (h:uY n l) (hn:n≤65536) {x:Int} (hx:x∈l):(-1099511627776≤x∧x≤1099511627776)∧0<vr x∧vr x≤n:=by
 have h1:=h x hx
 have h2:=oI.1 h1.2
 have h3:=jP x
 have h4:vr x≠0:=fun e=>h1.1 (qC.1 e)
 exact⟨⟨by omega,by omega⟩,by omega,h1.2⟩
def Q3 (a b:List Int):List Int→Bool
 | []=>false
 |x::r=>if kM a x=kM b x then Q3 a b r else kM b x
theorem lits_clok {n:Int} {l:List Int} (h:uY n l):∀c∈ones l,uM n c:=fun c hc=>by
 unfold ones at hc
 obtain⟨x,hx,rfl⟩:=List.mem_map.1 hc
 exact⟨fun y hy=>by rw[List.mem_singleton.1 hy];exact h x hx,by simp⟩
theorem proof_chk {f:Formula} {F0 P:List (List Int)} (hv:iV ⟨f.vars,F0⟩=true) (hP:uZ f.vars F0 P):chkB ⟨f.vars,F0⟩ P=true:=by
 rw[chk_acc hv (aA6.2 ⟨hP.2.2.1,hP.2.2.2.1⟩)]
 exact aI2.2 ⟨hP.1,hP.2.1⟩
theorem mdF_of {m:List Int} (h:MdL m):mdF 1 m=true:=by
 have key:∀(m:List Int) (i:Int),(∀(k:Nat) x,m[k]?=some x→x=i+k∨x= -(i+k))→mdF i m=true:=by
  intro m
  induction m with
  |nil=>intro i _;rfl
  |cons x r ih=>
   intro i h
   have h0:=h 0 x rfl
   unfold mdF
   rw[ih (i+1) (fun k y hy=>by have:=h (k+1) y (by rw[List.getElem?_cons_succ];exact hy);omega)]
   simp only[Bool.and_true,Bool.or_eq_true,decide_eq_true_eq]
   omega
 exact key m 1 fun k x hx=>by have:=h k x hx;omega
theorem wB {f:Formula} (hv:iV f=true) {m:List Int}:holdsB f m=true↔fJ f.vars f.clauses m:=by
 unfold holdsB fJ
 simp only[Bool.and_eq_true,decide_eq_true_eq,List.all_eq_true]
 exact⟨fun⟨⟨⟨_,a⟩,b⟩,c⟩=>⟨a,MdL.of b,c⟩,fun⟨a,b,c⟩=>⟨⟨⟨hv,a⟩,mdF_of b⟩,c⟩⟩
theorem con_iff {n:Int} {m:List Int} (hm:MdL m) (hl:(m.length:Int)=n) {x:Int}:uD m [x]=true↔kM m x=true:=by
 unfold uD kM
 simp
theorem aD5 {n:Int} {F:List (List Int)} {l m:List Int}:fJ n (F++ones l) m↔fJ n F m∧l.all (kM m)=true:=by
 unfold fJ
 constructor
 ·rintro⟨a,b,c⟩
  refine⟨⟨a,b,fun d hd=>c d (List.mem_append_left _ hd)⟩,?_⟩
  rw[List.all_eq_true]
  intro x hx
  exact(con_iff b a).1 (c [x] (List.mem_append_right _ (List.mem_map.2 ⟨x,hx,rfl⟩)))
 rintro⟨⟨a,b,c⟩,d⟩
 rw[List.all_eq_true] at d
 refine⟨a,b,fun e he=>?_⟩
 rcases List.mem_append.1 he with he|he
 ·exact c e he
 unfold ones at he
 obtain⟨x,hx,rfl⟩:=List.mem_map.1 he
 exact(con_iff b a).2 (d x hx)
theorem yT {n:Int} {F0 P:List (List Int)} (hP:uZ n F0 P) (m:List Int):¬fJ n F0 m:=fun⟨a,b,c⟩=>by
 have:=acc_sat b a P F0 c (fun q hq=>clF_ok (hP.2.2.1 q hq)) hP.2.1 [] (List.mem_of_getLast? hP.1)
 simp[uD] at this
theorem aD6 {f:Formula} {asX:List Int} {p q:Int} (hv:iV f=true) (hlo:uY f.vars asX) (hp:0≤p) (hpq:p≤q) (hq:q≤65536) (hl:f.clauses.length+asX.length≤300000):
  ∃s a b,oQ f asX=some s∧fZ s p=some a∧fZ s q=some b∧AOk f.vars (f.clauses++ones asX) p a∧AOk f.vars (f.clauses++ones asX) q b∧ARel a b:=by
 have hb:=mP hv
 have hcl:=X3 hv
 have hcl2:∀c∈f.clauses++ones asX,uM f.vars c:=fun c hc=>by
  rcases List.mem_append.1 hc with hc|hc
  ·exact hcl c hc
  exact lits_clok hlo c hc
 obtain⟨s,h1,h2,h3,h4,h5,h6⟩:=sopen_ok (f:=f) (asX:=asX) ⟨hb.1,hb.2.1⟩ (by omega) hcl hlo
 have hR:RInv f.vars (f.clauses++ones asX) 0 s:=by
  refine⟨by rw[h5,List.append_nil];exact h2,by rw[h5];rfl,by rw[h5];trivial,by rw[h5];simp,by rw[h5,h6];rfl,by rw[h5];simp[oZ],by rw[h5];simp[oZ],Nat.zero_le _⟩
 obtain⟨a,b,e1,e2,e3⟩:=srun_ok ⟨hb.1,hb.2.1⟩ (by unfold ones;rw[List.length_append,List.length_map];omega) hcl2 hp hpq hq hR
 exact⟨s,a,b,h1,e1,e2,e3⟩
theorem yX {f:Formula} (hv:iV f=true):FLen f.clauses:=by
 have hb:=mP hv
 exact⟨by omega,fun c hc=>by have:=(X3 hv c hc).len ⟨hb.1,hb.2.1⟩;omega⟩
theorem aJ3 {f:Formula} {asX:List Int} {p q:Int} (hf:fitsB f asX p=true) (hpq:p≤q) (hq:q≤65536) (hl:f.clauses.length+asX.length≤300000):
  ∃a b,iE f asX p=some (a,0)∧iE f asX q=some (b,0)∧AOk f.vars (f.clauses++ones asX) p a∧AOk f.vars (f.clauses++ones asX) q b∧ARel a b:=by
 obtain⟨hp,hv,ha⟩:=yF.1 hf
 have hlo:uY f.vars asX:=fun x hx=>sOk_iff.1 (ha x hx)
 have hFL:=yX hv
 obtain⟨s,a,b,h1,e1,e2,e3⟩:=aD6 hv hlo hp.1 hpq hq hl
 have hfq:fitsB f asX q=true:=yF.2 ⟨⟨by omega,hq⟩,hv,ha⟩
 refine⟨a,b,?_,?_,e3⟩
 ·unfold iE
  rw[fits_ok hFL (by omega),bsm,hf,if_neg (by decide),h1,bsm,e1,bsm]
 unfold iE
 rw[fits_ok hFL (by omega),bsm,hfq,if_neg (by decide),h1,bsm,e2,bsm]
theorem AOk.kind {n:Int} {F0:List (List Int)} {p:Int} {a:Answer} (h:AOk n F0 p a) (hn:0≤n∧n≤12) (hp:((2 ^ n.toNat:Nat):Int)≤p):a.kind≠2:=fun e=>by
 obtain⟨h1,h2,h3,h4⟩:=h
 rcases h4 with⟨k,_⟩|⟨k,_⟩|⟨_,_,_,k⟩
 ·rw[k] at e;cases e
 ·rw[k] at e;cases e
 rcases k with⟨_,k⟩|k
 ·omega
 have e1:n.toNat≤12:=by omega
 have e2:2 ^ n.toNat≤2 ^ 12:=Nat.pow_le_pow_right (by decide) e1
 have e3:a.conflicts.toNat≤2 ^ 12:=by omega
 have e4:a.conflicts.toNat*n.toNat≤2 ^ 12*12:=Nat.mul_le_mul e3 e1
 omega
def mdl:Nat→Nat→List Int
 |0,_=>[]
 |v+1,b=>mdl v (b / 2)++[if b % 2=1 then((v+1:Nat):Int) else -((v+1:Nat):Int)]
theorem zL:∀(v b:Nat),(mdl v b).length=v
 |0,_=>rfl
 |v+1,b=>by unfold mdl;rw[List.length_append,zL v];rfl
theorem mdl_get:∀(v b i:Nat),i<v→(mdl v b)[i]?=some (if(b / 2 ^ (v-1-i)) % 2=1 then((i+1:Nat):Int) else -((i+1:Nat):Int))
 |0,_,_,h=>by omega
 |v+1,b,i,h=>by
  unfold mdl
  by_cases e:i=v
  ·subst e
   rw[List.getElem?_append_right (by rw[zL];exact Nat.le_refl _),zL,Nat.sub_self,show i+1-1-i=0 by omega,Nat.pow_zero,Nat.div_one]
   rfl
  rw[List.getElem?_append_left (by rw[zL];omega),mdl_get v (b / 2) i (by omega),Nat.div_div_eq_div_mul,show v+1-1-i=(v-1-i)+1 by omega,Nat.pow_succ,Nat.mul_comm]
theorem mdl_inj:∀(v b c:Nat),b<2 ^ v→c<2 ^ v→mdl v b=mdl v c→b=c
 |0,b,c,hb,hc,_=>by simp at hb hc;omega
 |v+1,b,c,hb,hc,h=>by
  unfold mdl at h
  obtain⟨h1,h2⟩:=List.append_inj h (by rw[zL,zL])
  rw[Nat.pow_succ] at hb hc
  have:=mdl_inj v (b / 2) (c / 2) (by omega) (by omega) h1
  simp only[List.cons.injEq,and_true] at h2
  split at h2<;>split at h2<;>omega
theorem aI8:∀(v:Nat) (m:List Int),MdL m→m.length=v→∃b,b<2 ^ v∧mdl v b=m
 |0,m,_,h=>⟨0,by decide,(List.eq_nil_of_length_eq_zero h).symm⟩
 |v+1,m,hm,h=>by
  obtain⟨x,hx⟩:=bK (show v<m.length by omega)
  have hs:m=m.take v++[x]:=by
   have:=fA hx
   rwa [show v+1=m.length by omega,List.take_length] at this
  obtain⟨b,hb,e⟩:=aI8 v (m.take v) (fun i y hy=>by
   rw[List.getElem?_take] at hy
   split at hy
   ·exact hm i y hy
   cases hy) (by rw[List.length_take];omega)
  have hx2:=hm v x hx
  refine⟨2*b+(if 0<x then 1 else 0),by rw[Nat.pow_succ];split<;>omega,?_⟩
  unfold mdl
  rw[show(2*b+(if 0<x then 1 else 0)) / 2=b by split<;>omega,e]
  conv=>rhs;rw[hs]
  congr 2
  by_cases h0:0<x
  ·rw[if_pos h0,if_pos (by omega)];omega
  rw[if_neg h0,if_neg (by omega)];omega
theorem model_eq {v b:Nat} (hv:v≤12) (hb:b≤65536):nK (v:Int) (b:Int)=some (mdl v b):=by
 unfold nK
 obtain⟨m,hm,rfl⟩:=uA (body:=fun s:Int×List Int=>iZ (v:Int) (b:Int) s.1 s.2) (s0:=((1:Int),([]:List Int))) v (fun k t=>(((k+1:Nat):Int),t)) (fun k t=>t=(mdl v b).take k) (fun m=>m=mdl v b) (t0:=[]) rfl rfl (by
   rintro k t hk rfl
   have hg:=mdl_get v b k hk
   have e0:(decide (((k+1:Nat):Int)≤(v:Int)))=true:=by simp only[decide_eq_true_eq];omega
   have e1:inK .i64 ((v:Int)-((k+1:Nat):Int))=some ((v-1-k:Nat):Int):=oM (by omega) ⟨by omega,by omega⟩
   have e2:shrK .i64 (b:Int) ((v-1-k:Nat):Int)=some ((b / 2 ^ (v-1-k):Nat):Int):=by
    unfold shrK
    rw[if_neg (by omega),Int.toNat_natCast,show min (v-1-k) (IntKind.bits .i64)=v-1-k from Nat.min_eq_left (by show v-1-k≤64;omega)]
    congr 1
    rw[Int.fdiv_eq_ediv_of_nonneg _ (by exact Int.le_of_lt (Int.pow_pos (by decide)))]
    have:((2:Int) ^ (v-1-k))=((2 ^ (v-1-k):Nat):Int):=by simp
    rw[this];exact(Int.natCast_ediv _ _).symm
   have e3:remK ((b / 2 ^ (v-1-k):Nat):Int) 2=some ((b / 2 ^ (v-1-k) % 2:Nat):Int):=by
    generalize b / 2 ^ (v-1-k)=q
    rw[remK_pos (by omega) (by decide)];rfl
   have e4:inK .i64 (0-((k+1:Nat):Int))=some (-((k+1:Nat):Int)):=oM (by omega) ⟨by omega,by omega⟩
   have e5:inK .i64 (((k+1:Nat):Int)+1)=some ((k+1+1:Nat):Int):=oM rfl ⟨by omega,by omega⟩
   have hl:((mdl v b).take k).length≤12:=by rw[List.length_take,zL];omega
   refine Or.inl ⟨(mdl v b).take (k+1),?_,rfl⟩
   rw[fA hg]
   by_cases hx:b / 2 ^ (v-1-k) % 2=1
   ·have hx':((b / 2 ^ (v-1-k) % 2:Nat):Int)=1:=by omega
    rw[if_pos hx]
    simp only[iZ,e0,if_true,e1,bsm,e2,e3,hx',decide_true,oV (show((mdl v b).take k).length+[((k+1:Nat):Int)].length≤4294967296 by simp only[List.length_singleton];omega),e5]
   ·have hx':¬((b / 2 ^ (v-1-k) % 2:Nat):Int)=1:=by omega
    rw[if_neg hx]
    simp only[iZ,e0,if_true,e1,bsm,e2,e3,hx',decide_false,Bool.false_eq_true,if_false,e4,oV (show((mdl v b).take k).length+[-((k+1:Nat):Int)].length≤4294967296 by simp only[List.length_singleton];omega),e5]) (by
   rintro t rfl
   have e0:¬(decide (((v+1:Nat):Int)≤(v:Int)))=true:=by simp only[decide_eq_true_eq];omega
   rw[List.take_of_length_le (by rw[zL];exact Nat.le_refl _)]
   exact⟨_,by simp only[iZ,e0,if_false,Bool.false_eq_true],rfl⟩)
 rw[hm,bsm]
theorem shl_eq:∀k:Nat,k≤12→shlK .i64 1 (k:Int)=some ((2 ^ k:Nat):Int):=by decide+kernel
theorem pow_bnd {v:Nat} (hv:v≤12):2 ^ v≤4096:=Nat.pow_le_pow_right (by decide) hv
theorem models_ok {f:Formula} (hv:iV f=true) (hn:f.vars≤12) {B:List (List Int)} (hB:B.Nodup) (hm:∀m,m∈B↔fJ f.vars f.clauses m):mF f=some (B.length:Int):=by
 have hb:=mP hv
 have hFL:FLen f.clauses:=⟨by omega,fun c hc=>by have:=(X3 hv c hc).len ⟨hb.1,hb.2.1⟩;omega⟩
 obtain⟨v,hv2⟩:∃v:Nat,f.vars=v:=⟨f.vars.toNat,by omega⟩
 have hp:=pow_bnd (show v≤12 by omega)
 let g:Nat→Bool:=fun b=>holdsB f (mdl v b)
 unfold mF
 obtain⟨r,hr,rfl⟩:=uA (body:=fun s:Int×Int=>jU f s.1 s.2) (s0:=((0:Int),(0:Int))) (2 ^ v) (fun k (t:Int)=>(t,(k:Int))) (fun k t=>t=(((List.range k).filter g).length:Int)) (fun r=>r=(((List.range (2 ^ v)).filter g).length:Int)) (t0:=0) rfl rfl (by
  rintro k t hk rfl
  have e0:(decide ((k:Int)<((2 ^ v:Nat):Int)))=true:=ltB hk
  have hup:=jA hk (show 2 ^ v≤9223372036854775807 by omega)
  have hle:((List.range k).filter g).length≤k:=Nat.le_trans (List.length_filter_le _ _) (by rw[List.length_range];exact Nat.le_refl _)
  simp only[jU,hv2,shl_eq v (by omega),bsm,e0,if_true,model_eq (show v≤12 by omega) (show k≤65536 by omega),ref_holds hFL]
  have hr1:(List.range (k+1)).filter g=(List.range k).filter g++if g k=true then [k] else []:=by
   rw[List.range_succ,List.filter_append]
   cases hg:g k<;>simp[hg]
  cases hg:holdsB f (mdl v k) with
  |true=>
   have hg:g k=true:=hg
   simp only[if_true,oM (show(((List.range k).filter g).length:Int)+1=((((List.range k).filter g).length+1:Nat):Int) by omega) ⟨by omega,by omega⟩,bsm,hup]
   exact Or.inl ⟨_,rfl,by rw[hr1,if_pos hg,List.length_append];rfl⟩
  |false=>
   have hg:g k=false:=hg
   simp only[Bool.false_eq_true,if_false,bsm,hup]
   exact Or.inl ⟨_,rfl,by rw[hr1,hg];simp⟩) (by
  rintro t rfl
  exact⟨_,by simp only[jU,hv2,shl_eq v (by omega),bsm,rY,if_false,Bool.false_eq_true],rfl⟩)
 rw[hr,bsm]
 congr 2
 have hnd:(((List.range (2 ^ v)).filter g).map (mdl v)).Nodup:=by
  unfold List.Nodup
  rw[List.pairwise_map]
  have h1:((List.range (2 ^ v)).filter g).Nodup:=List.nodup_range.sublist List.filter_sublist
  refine List.Pairwise.imp_of_mem (fun{a b} ha hb hne he=>hne ?_) h1
  rw[List.mem_filter,List.mem_range] at ha hb
  exact mdl_inj v a b ha.1 hb.1 he
 have hmem:∀m,m∈((List.range (2 ^ v)).filter g).map (mdl v)↔m∈B:=fun m=>by
  rw[hm,List.mem_map]
  constructor
  ·rintro⟨b,hb1,rfl⟩
   rw[List.mem_filter] at hb1
   exact(wB hv).1 hb1.2
  intro hx
  obtain⟨b,hb1,rfl⟩:=aI8 v m hx.2.1 (by have:=hx.1;omega)
  exact⟨b,by rw[List.mem_filter,List.mem_range];exact⟨hb1,(wB hv).2 hx⟩,rfl⟩
 have:=((List.perm_ext_iff_of_nodup hnd hB).2 hmem).length_eq
 rw[List.length_map] at this
 exact this
end Go.Proofs.Ytpkhmndpeipfmaa
