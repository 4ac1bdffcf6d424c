/- Valid of the reference: it says the same. -/
import Derived.Test.YtopnldfjcciieaaGreatKFo26
import Derived.Test.YtopnldfjcciieaaGreatKFo3
import Derived.Test.YtopnldfjcciieaaGreatKFo4
import Derived.Test.YtopnldfjcciieaaGreatKFo6
set_option linter.unusedVariables false
set_option linter.unusedSimpArgs false
namespace Go.Proofs.YtopnldfjcciieaaGreat
open Go.RowKit
theorem rvloop (nx ny:Nat) (l:List Opn) (x y:List Span) (hx:x.length=nx) (hy:y.length=ny) (hnx:nx≤100000) (hl:l.length≤9223372036854775807) (hw:∀o∈l,I64 o.a∧I64 o.b):
  ∃r,dV (fun s=>kT l x y s.1 s.2.1 s.2.2.1 s.2.2.2) (0,-1,0,List.replicate ny false)=some r∧
   ((r= .ret false∧¬(Scr nx ny l∧nx≤l.length))∨∃(c:Int) (m:List Bool),r= .brk (c,m)∧((c≠nx∧¬(Scr nx ny l∧nx≤l.length))∨(c=nx∧Scr nx ny l∧nx≤l.length∧Mk ny l m))):=by
 refine zS (fun s=>∃i:Nat,s.2.2.1=(i:Int)∧i≤l.length∧0≤s.1∧s.2.2.2.length=ny∧ -1≤s.2.1∧
   (((∀j q,j<i→l[j]?=some q→OkO nx ny (l.take j) q)∧La nx (l.take i) s.2.1∧s.1=((min i nx:Nat):Int)∧Mk ny (l.take i) s.2.2.2)∨(¬Scr nx ny l∧s.1<(i:Int)∧s.1<(nx:Int)))) (fun s=>l.length-s.2.2.1.toNat) _ ?_ _
  ⟨0,rfl,Nat.zero_le _,Int.le_refl _,by simp,by simp only;omega,Or.inl ⟨fun j q h=>by omega,⟨by simp,by simp,Or.inl rfl⟩,by simp,by rw[List.take_zero];exact Mk.nil ny⟩⟩
 rintro⟨c,z,_,m⟩ ⟨i,rfl,hi,hc0,hml,hz1,hmode⟩
 simp only at hc0 hml hz1 hmode
 by_cases hlt:i<l.length
 ·obtain⟨o,ho⟩:=fB hlt
  have hwo:=hw o (List.mem_of_getElem? ho)
  unfold I64 at hwo
  have hti:(l.take i).length=i:=by rw[List.length_take];omega
  have hnext:inK .i64 ((i:Int)+1)=some ((i+1:Nat):Int):=by rw[mW (by omega)];rfl
  have hsc:¬OkO nx ny (l.take i) o→¬(Scr nx ny l∧nx≤l.length):=fun h hS=>h (hS.1 i o ho)
  have hcb:c≤100000:=by rcases hmode with⟨_,_,h,_⟩|⟨_,_,h⟩<;>omega
  have hcn:inK .i64 (c+1)=some (c+1):=mW (by omega)
  have hmark:0≤o.b→o.b<ny→∃v,idx m o.b=some v:=fun h0 h1=>by
   obtain⟨v,hv⟩:=fB (show o.b.toNat<m.length by omega)
   exact⟨v,uN h0 hv⟩
  simp only[kT]
  rw[if_pos (by simp;omega),fE ho,bsn]
  by_cases ha:0≤o.a
  ·rw[if_pos (by simpa using ha)]
   by_cases hc:o.a=i∧o.a<nx∧ -1≤o.b∧o.b<ny
   ·obtain⟨c1,c2,c3,c4⟩:=hc
    rw[if_neg (by rw[hx,hy];simp only[Bool.or_eq_true,Bool.not_eq_true',decide_eq_true_eq,decide_eq_false_iff_not];omega),hcn,bsn]
    have hok:(0≤o.b→∀q∈l.take i,q.b≠o.b)→OkO nx ny (l.take i) o:=fun hj=>⟨fun h=>by rw[hti];exact c1,fun h=>by rw[hti] at h;omega,c3,c4,hj⟩
    have step:∀m':List Bool,(0≤o.b→∀q∈l.take i,q.b≠o.b)→m'.length=ny→(Mk ny (l.take i) m→Mk ny (l.take (i+1)) m')→
      ∃i':Nat,(((i+1:Nat):Int))=(i':Int)∧i'≤l.length∧0≤c+1∧m'.length=ny∧ -1≤z∧(((∀j q,j<i'→l[j]?=some q→OkO nx ny (l.take j) q)∧La nx (l.take i') z∧c+1=((min i' nx:Nat):Int)∧Mk ny (l.take i') m')∨(¬Scr nx ny l∧c+1<(i':Int)∧c+1<(nx:Int))):=fun m' hj h1 h2=>by
     refine⟨i+1,rfl,by omega,by omega,h1,hz1,?_⟩
     rcases hmode with⟨g1,g2,g3,g4⟩|⟨g1,g2,g3⟩
     ·exact Or.inl ⟨Scr.take g1 ho (hok hj),by rw[iO ho];exact g2.fst (by omega),by omega,h2 g4⟩
     exact Or.inr ⟨g1,by omega,by omega⟩
    by_cases hb:0≤o.b
    ·rw[if_pos (by simpa using hb)]
     obtain⟨v,hv⟩:=hmark hb c4
     rw[hv,bsn]
     cases v with
     |true=>
      rw[if_pos rfl]
      refine Or.inr ⟨_,rfl,Or.inl ⟨rfl,?_⟩⟩
      rcases hmode with⟨g1,g2,g3,g4⟩|⟨g1,g2,g3⟩
      ·obtain⟨v',hv',hvi⟩:=g4.get hb c4
       rw[hv] at hv';cases hv'
       obtain⟨q,hq,e⟩:=hvi.1 rfl
       exact hsc fun h=>h.inj hb q hq e
      exact fun h=>g1 h.1
     |false=>
      rw[if_neg (by simp),bsn,hnext,bsn]
      refine Or.inl ⟨_,rfl,?_,by simp;omega⟩
      by_cases hno:∀q∈l.take i,q.b≠o.b
      ·exact step _ (fun _=>hno) (by simp[hml]) fun g=>by rw[iO ho];exact g.mark hb c4
      rcases hmode with⟨g1,g2,g3,g4⟩|⟨g1,g2,g3⟩
      ·obtain⟨v',hv',hvi⟩:=g4.get hb c4
       rw[hv] at hv';cases hv'
       exact absurd (fun q hq e=>by have:=hvi.2 ⟨q,hq,e⟩;cases this) hno
      exact⟨i+1,rfl,by omega,by simp only;omega,by simp[hml],hz1,Or.inr ⟨g1,by simp only;omega,by simp only;omega⟩⟩
    rw[if_neg (by simpa using hb),hnext,bsn]
    refine Or.inl ⟨_,rfl,?_,by simp;omega⟩
    exact step m (fun h=>absurd h hb) hml fun g=>by rw[iO ho];exact g.skip (by omega)
   rw[if_pos (by rw[hx,hy];simp only[Bool.or_eq_true,Bool.not_eq_true',decide_eq_true_eq,decide_eq_false_iff_not];omega)]
   refine Or.inr ⟨_,rfl,Or.inl ⟨rfl,hsc fun h=>hc ?_⟩⟩
   have k1:=h.fst;have k2:=h.snd
   rw[hti] at k1 k2
   rcases Nat.lt_or_ge i nx with e|e
   ·have:=k1 e;exact⟨this,by omega,h.lo,h.hi⟩
   have:=(k2 e).1;omega
  rw[if_neg (by simpa using ha)]
  by_cases hc:o.a= -1∧z<o.b∧o.b<ny
  ·obtain⟨c1,c2,c3⟩:=hc
   have hb:0≤o.b:=by omega
   rw[if_neg (by rw[hy];simp only[Bool.or_eq_true,Bool.not_eq_true',decide_eq_true_eq,decide_eq_false_iff_not];omega),if_pos (by simpa using hb)]
   obtain⟨v,hv⟩:=hmark hb c3
   rw[hv,bsn]
   cases v with
   |true=>
    rw[if_pos rfl]
    refine Or.inr ⟨_,rfl,Or.inl ⟨rfl,?_⟩⟩
    rcases hmode with⟨g1,g2,g3,g4⟩|⟨g1,g2,g3⟩
    ·obtain⟨v',hv',hvi⟩:=g4.get hb c3
     rw[hv] at hv';cases hv'
     obtain⟨q,hq,e⟩:=hvi.1 rfl
     exact hsc fun h=>h.inj hb q hq e
    exact fun h=>g1 h.1
   |false=>
    rw[if_neg (by simp),bsn,hnext,bsn]
    refine Or.inl ⟨_,rfl,⟨i+1,rfl,by omega,hc0,by simp[hml],by simp only;omega,?_⟩,by simp;omega⟩
    rcases hmode with⟨g1,g2,g3,g4⟩|⟨g1,g2,g3⟩
    ·by_cases hin:i<nx
     ·have hm1:min i nx=i:=Nat.min_eq_left (by omega)
      rw[hm1] at g3
      refine Or.inr ⟨fun hS=>?_,by simp only;omega,by simp only;omega⟩
      have:=(hS i o ho).fst
      rw[hti] at this
      have:=this hin
      omega
     obtain⟨v',hv',hvi⟩:=g4.get hb c3
     rw[hv] at hv';cases hv'
     exact Or.inl ⟨Scr.take g1 ho ⟨fun h=>by rw[hti] at h;omega,fun _=>⟨c1,(g2.iff o.b).1 c2⟩,by omega,c3,fun _ q hq e=>by have:=hvi.2 ⟨q,hq,e⟩;cases this⟩,by rw[iO ho];exact g2.snd (by omega) c2,by simp only;rw[g3,Nat.min_eq_right (by omega),Nat.min_eq_right (by omega)],by rw[iO ho];exact g4.mark hb c3⟩
    exact Or.inr ⟨g1,by simp only;omega,g3⟩
  rw[if_pos (by rw[hy];simp only[Bool.or_eq_true,Bool.not_eq_true',decide_eq_true_eq,decide_eq_false_iff_not];omega)]
  refine Or.inr ⟨_,rfl,Or.inl ⟨rfl,?_⟩⟩
  rcases hmode with⟨g1,g2,g3,g4⟩|⟨g1,g2,g3⟩
  ·refine hsc fun h=>hc ?_
   have k1:=h.fst;have k2:=h.snd
   rw[hti] at k1 k2
   rcases Nat.lt_or_ge i nx with e|e
   ·have:=k1 e;omega
   exact⟨(k2 e).1,(g2.iff o.b).2 (k2 e).2,h.hi⟩
  exact fun h=>g1 h.1
 simp only[kT]
 rw[if_neg (by simp;omega)]
 refine Or.inr ⟨_,rfl,Or.inr ⟨c,m,rfl,?_⟩⟩
 rcases hmode with⟨g1,g2,g3,g4⟩|⟨g1,g2,g3⟩
 ·rw[List.take_of_length_le (by omega)] at g4
  by_cases hln:nx≤l.length
  ·exact Or.inr ⟨by omega,fun j q hq=>g1 j q (by have:=(List.getElem?_eq_some_iff.1 hq).1;omega) hq,hln,g4⟩
  exact Or.inl ⟨by omega,fun h=>hln h.2⟩
 exact Or.inl ⟨by omega,fun h=>g1 h.1⟩
theorem X9 {nx ny:Nat} {l:List Opn} (h:Scr nx ny l):l.length≤nx+ny:=by
 have key:∀(k:Nat) (o:Opn),l[nx+k]?=some o→(k:Int)≤o.b:=by
  intro k
  induction k with
  |zero=>
   intro o ho
   have hk:=(List.getElem?_eq_some_iff.1 ho).1
   have:=((h _ o ho).snd (by rw[List.length_take];omega)).2.1
   omega
  |succ k ih=>
   intro o ho
   have hk:=(List.getElem?_eq_some_iff.1 ho).1
   obtain⟨q,hq⟩:=fB (show nx+k<l.length by omega)
   have h1:=ih q hq
   have h2:=((h _ o ho).snd (by rw[List.length_take];omega)).2.2 q (List.mem_of_getElem? (i:=k) (by rw[List.getElem?_drop,List.getElem?_take,if_pos (by omega)];exact hq))
   omega
 apply Classical.byContradiction
 intro hc
 obtain⟨o,ho⟩:=fB (show nx+ny<l.length by omega)
 have:=key ny o ho
 have:=(h _ o ho).hi
 omega
theorem prs_iff {nx ny:Nat} {sx sy:Nat→Nat} {l:List Opn} (hS:Scr nx ny l) (hl:nx≤l.length):l.Pairwise (PrO sx sy)↔∀i k q o,i<k→k<nx→l[i]?=some q→l[k]?=some o→0≤q.b→0≤o.b→q.b<o.b∧((k:Int)<i+sx i↔o.b<q.b+sy q.b.toNat):=by
 have ea:∀j q,j<nx→l[j]?=some q→q.a=j:=fun j q hj hq=>by
  have hk:=(List.getElem?_eq_some_iff.1 hq).1
  have:=(hS j q hq).fst (by rw[List.length_take];omega)
  rw[List.length_take] at this
  omega
 rw[List.pairwise_iff_getElem]
 constructor
 ·intro h i k q o hik hk hq ho h1 h2
  have:=h i k (by omega) (by omega) hik
  rw[(List.getElem?_eq_some_iff.1 hq).2,(List.getElem?_eq_some_iff.1 ho).2] at this
  have e1:=ea i q (by omega) hq
  have e2:=ea k o hk ho
  have:=this (by omega) h1 (by omega) h2
  rw[e1,e2] at this
  simpa using this
 intro h i k hi hk hik h1 h2 h3 h4
 rcases Nat.lt_or_ge k nx with e|e
 ·have:=h i k l[i] l[k] hik e (List.getElem?_eq_getElem hi) (List.getElem?_eq_getElem hk) h2 h4
  rw[ea i _ (by omega) (List.getElem?_eq_getElem hi),ea k _ e (List.getElem?_eq_getElem hk)]
  simpa using this
 have:=((hS k _ (List.getElem?_eq_getElem hk)).snd (by rw[List.length_take];omega)).1
 omega
theorem spn_at (n:Node) (i:Nat) (h:i<bW n):∃s:Span,((prN n 0 (-1)).map spn)[i]?=some s∧s.last=((i+szp (prN n 0 (-1)) i:Nat):Int):=by
 obtain⟨m,q,a1,a2,a3⟩:=szp_le n i h
 exact⟨spn (m,q,i),by rw[List.getElem?_map,a1];rfl,by rw[a2];rfl⟩
theorem rploop (a b:Node) (ha:bW a≤100000) (hb:bW b≤100000) (l:List Opn) (hS:Scr (bW a) (bW b) l) (hl:bW a≤l.length):
  (¬l.Pairwise (PrO (szp (prN a 0 (-1))) (szp (prN b 0 (-1))))∧dV (fun s=>iJ l ((prN a 0 (-1)).map spn) ((prN b 0 (-1)).map spn) s) 0=some (.ret false))∨
  (l.Pairwise (PrO (szp (prN a 0 (-1))) (szp (prN b 0 (-1))))∧dV (fun s=>iJ l ((prN a 0 (-1)).map spn) ((prN b 0 (-1)).map spn) s) 0=some (.brk ())):=by
 rw[prs_iff hS hl]
 have la:((prN a 0 (-1)).map spn).length=bW a:=by rw[List.length_map,tK.1]
 have hpw:=List.pairwise_iff_getElem.1 (scr_pw hS)
 have hsa:=spn_at a
 have hsb:=spn_at b
 generalize szp (prN a 0 (-1))=sx at hsa⊢
 generalize szp (prN b 0 (-1))=sy at hsb⊢
 generalize (prN a 0 (-1)).map spn=X at la hsa⊢
 generalize (prN b 0 (-1)).map spn=Y at hsb⊢
 let bad (i k:Nat):Prop:=∃q o,l[i]?=some q∧l[k]?=some o∧0≤q.b∧0≤o.b∧¬(q.b<o.b∧((k:Int)<i+sx i↔o.b<q.b+sy q.b.toNat))
 have main:=up_loop (body:=fun s=>iJ l X Y s) (fun i=>∃k,i<k∧k<bW a∧bad i k) (.ret false) (.brk ()) (bW a) (bW a) 0 (by omega) (fun i _ hi=>by
  obtain⟨q,hq⟩:=fB (show i<l.length by omega)
  have hqr:=D6 hS q (List.mem_of_getElem? hq)
  simp only[iJ]
  rw[if_pos (by rw[la];simp;omega),gU (by omega),bsn]
  have inner:=up_loop (body:=fun s=>kV l X Y (i:Int) s) (fun k=>bad i k) (.ret false) (.brk ()) (bW a) (bW a-(i+1)) (i+1) (by omega) (fun k h1 h2=>by
   obtain⟨o,ho⟩:=fB (show k<l.length by omega)
   have hor:=D6 hS o (List.mem_of_getElem? ho)
   have hne:=hpw i k (by omega) (by omega) (by omega)
   rw[(List.getElem?_eq_some_iff.1 hq).2,(List.getElem?_eq_some_iff.1 ho).2] at hne
   simp only[kV]
   rw[if_pos (by rw[la];simp;omega),fE hq,bsn,fE ho,bsn]
   have hb':bad i k↔0≤q.b∧0≤o.b∧¬(q.b<o.b∧((k:Int)<i+sx i↔o.b<q.b+sy q.b.toNat)):=by
    constructor
    ·rintro⟨q',o',e1,e2,e3⟩
     rw[hq] at e1;rw[ho] at e2;cases e1;cases e2;exact e3
    intro h;exact⟨q,o,hq,ho,h⟩
   by_cases h0:0≤q.b∧0≤o.b
   ·obtain⟨s,hs,e1⟩:=hsa i hi
    obtain⟨t,ht,e2⟩:=hsb q.b.toNat (by omega)
    have hc:((if((decide (0≤q.b))&&(decide (0≤o.b)))=true then((if(decide (o.b<q.b))=true then some true else(idx X (i:Int)).bind fun x20=>(idx Y q.b).bind fun x21=>some (!((decide ((k:Int)<x20.last))==(decide (o.b<x21.last))))):Option Bool).bind fun m2=>some m2 else some false):Option Bool)=some (decide (¬(q.b<o.b∧((k:Int)<i+sx i↔o.b<q.b+sy q.b.toNat)))):=by
     rw[if_pos (by simp[h0])]
     by_cases h3:o.b<q.b
     ·rw[if_pos (by simpa using h3),bsn,decide_eq_true (by omega)]
     rw[if_neg (by simpa using h3),fE hs,bsn,uN h0.1 ht,bsn,bsn,e1,e2]
     congr 1
     have:=hne.2 h0.2
     rw[Bool.eq_iff_iff]
     simp only[Bool.not_eq_true',beq_eq_false_iff_ne,ne_eq,decide_eq_decide,decide_eq_true_eq]
     omega
    rw[hc,bsn]
    by_cases hg:q.b<o.b∧((k:Int)<i+sx i↔o.b<q.b+sy q.b.toNat)
    ·rw[if_neg (by rw[decide_eq_true_eq];exact fun h=>h hg),gU (by omega)]
     exact Or.inr ⟨fun h=>(hb'.1 h).2.2 hg,rfl⟩
    rw[if_pos (by rw[decide_eq_true_eq];exact hg)]
    exact Or.inl ⟨hb'.2 ⟨h0.1,h0.2,hg⟩,rfl⟩
   ·rw[if_neg (by simp only[Bool.and_eq_true,decide_eq_true_eq];exact h0),bsn,if_neg (by simp),gU (by omega)]
    exact Or.inr ⟨fun h=>h0 ⟨(hb'.1 h).1,(hb'.1 h).2.1⟩,rfl⟩) (by
   simp only[kV]
   rw[if_neg (by rw[la];simp)])
  rcases inner with⟨⟨k,h1,h2,hg⟩,e⟩|⟨hall,e⟩
  ·rw[e,bsn]
   exact Or.inl ⟨⟨k,h1,h2,hg⟩,rfl⟩
  ·rw[e,bsn]
   exact Or.inr ⟨fun⟨k,h1,h2,hg⟩=>hall k h1 h2 hg,rfl⟩) (by
  simp only[iJ]
  rw[if_neg (by rw[la];simp)])
 rcases main with⟨⟨i,_,hi,k,h1,h2,q,o,hq,ho,h3,h4,hg⟩,e⟩|⟨hall,e⟩
 ·exact Or.inl ⟨fun h=>hg (h i k q o h1 h2 hq ho h3 h4),e⟩
 exact Or.inr ⟨fun i k q o h1 h2 hq ho h3 h4=>Classical.byContradiction fun hg=>hall i (Nat.zero_le _) (by omega) ⟨k,h1,h2,q,o,hq,ho,h3,h4,hg⟩,e⟩
open Classical in
theorem rvalid_m (a b:Node) (ha:bW a≤100000) (hb:bW b≤100000) (l:List Opn) (hl:l.length≤9223372036854775807) (hw:∀o∈l,I64 o.a∧I64 o.b):oJ a b l=some (decide (Va a b l)):=by
 unfold oJ
 have la:((prN a 0 (-1)).map spn).length=bW a:=by rw[List.length_map,tK.1]
 have lb:((prN b 0 (-1)).map spn).length=bW b:=by rw[List.length_map,tK.1]
 rw[aF8 a ha,bsn,aF8 b hb,bsn,la,lb,mW (by omega),bsn]
 by_cases h0:bW a+bW b<l.length
 ·rw[if_pos (by simp;omega),decide_eq_false fun h=>by have:=X9 h.scr;omega]
 rw[if_neg (by simp;omega),mkc_ok (by omega),bsn,Int.toNat_natCast]
 obtain⟨r,hr,hp⟩:=rvloop (bW a) (bW b) l _ _ la lb ha hl hw
 rw[hr,bsn]
 rcases hp with⟨rfl,hn⟩|⟨c,m,rfl,⟨hc,hn⟩|⟨hc,hS,hlen,hM⟩⟩
 ·simp only
  rw[decide_eq_false fun h=>hn ⟨h.scr,h.len⟩]
 ·simp only
  rw[if_pos (by simpa using hc),decide_eq_false fun h=>hn ⟨h.scr,h.len⟩]
 simp only
 rw[if_neg (by simpa using hc)]
 have h2:=any_loop (body:=fun s=>kU ((prN b 0 (-1)).map spn) (c,m) s) m (fun x=> !x) (.ret false) (.brk ()) (fun k x hx=>by
  have hk:=(List.getElem?_eq_some_iff.1 hx).1
  rw[hM.1] at hk
  simp only[kU]
  rw[if_pos (by rw[lb];simp;omega),fE hx,bsn,gU (by omega),bsn]
  cases x<;>rfl) (by
  simp only[kU]
  rw[if_neg (by rw[lb,hM.1];simp)])
 rw[h2,bsn]
 have hall:=hM.all
 by_cases hm:false∈m
 ·rw[if_pos (by simpa using hm)]
  simp only
  rw[decide_eq_false fun h=>hall.2 h.sur hm]
 rw[if_neg (by simpa using hm)]
 simp only
 rcases rploop a b ha hb l hS hlen with⟨hn,e⟩|⟨hy,e⟩
 ·rw[e,bsn]
  simp only
  rw[decide_eq_false fun h=>hn h.prs]
 rw[e,bsn]
 simp only
 rw[decide_eq_true ⟨hS,hlen,hall.1 hm,hy⟩]
def lN (P:List (Node×Int×Nat)) (i:Nat):Int:=match P[i]? with
 |none=> -1
 |some x=>x.2.1
def xP (P:List (Node×Int×Nat)) (i:Nat):Int×ByteArray:=match P[i]? with
 |none=>(0,ByteArray.empty)
 |some x=>(x.1.kind,x.1.text)
theorem at_Q (n:Node) (k:Nat) (h:k<bW n):∃m,(prN n 0 (-1))[k]?=some (m,lN (prN n 0 (-1)) k,k)∧ -1≤lN (prN n 0 (-1)) k∧lN (prN n 0 (-1)) k<k∧xP (prN n 0 (-1)) k=(m.kind,m.text)∧szp (prN n 0 (-1)) k=bW m∧k+bW m≤bW n:=by
 obtain⟨m,q,a1,a2,a3⟩:=szp_le n k h
 have hp:=(pr_at.1 n 0 (-1) k m q k a1).2.2
 have e:lN (prN n 0 (-1)) k=q:=by unfold lN;rw[a1]
 rw[e]
 refine⟨m,a1,by omega,by omega,by unfold xP;rw[a1],a2,a3⟩
theorem aG4 (n:Node) (k:Nat) (h:k<bW n):(nmb (prN n 0 (-1))).parent[k]?=some (lN (prN n 0 (-1)) k):=by
 obtain⟨m,e,_⟩:=at_Q n k h
 simp[nmb,e]
theorem J7 (n:Node) (k:Nat) (h:k<bW n):((prN n 0 (-1)).map spn)[k]?=some ⟨(xP (prN n 0 (-1)) k).1,(xP (prN n 0 (-1)) k).2,((k+szp (prN n 0 (-1)) k:Nat):Int),lN (prN n 0 (-1)) k⟩:=by
 obtain⟨m,e,_,_,e1,e2,_⟩:=at_Q n k h
 rw[List.getElem?_map,e,e1,e2];rfl
theorem nod_get (n:Node) (k:Nat) (h:k<bW n):∃m,(nmb (prN n 0 (-1))).nodes[k]?=some m∧xP (prN n 0 (-1)) k=(m.kind,m.text):=by
 obtain⟨m,e,_,_,e1,_⟩:=at_Q n k h
 exact⟨m,by simp[nmb,e],e1⟩
def ctO (P Q:List (Node×Int×Nat)) (o:Opn):Bool:=decide (o.a<0)||decide (o.b<0)|| !decide (xP P o.a.toNat=xP Q o.b.toNat)
theorem cost_loop (a b:Node) (ha:bW a≤100000) (hb:bW b≤100000) (l:List Opn) (hl:l.length≤200000) (hr:∀o∈l,o.a<bW a∧o.b<bW b):
  dV (fun s=>sZ l (nmb (prN a 0 (-1))) (nmb (prN b 0 (-1))) s.1 s.2) (0,0)=some (l.countP (ctO (prN a 0 (-1)) (prN b 0 (-1))):Int)∧
  dV (fun s=>lT l ((prN a 0 (-1)).map spn) ((prN b 0 (-1)).map spn) s.1 s.2) (0,0)=some (l.countP (ctO (prN a 0 (-1)) (prN b 0 (-1))):Int):=by
 have hc:∀(i:Nat) (o:Opn),l[i]?=some o→(l.take (i+1)).countP (ctO (prN a 0 (-1)) (prN b 0 (-1)))=(l.take i).countP (ctO (prN a 0 (-1)) (prN b 0 (-1)))+if ctO (prN a 0 (-1)) (prN b 0 (-1)) o=true then 1 else 0:=fun i o ho=>by
  rw[iO ho,List.countP_append,List.countP_singleton]
 have hle:∀i,(l.take i).countP (ctO (prN a 0 (-1)) (prN b 0 (-1)))≤200000:=fun i=>by
  have:=List.countP_le_length (p:=ctO (prN a 0 (-1)) (prN b 0 (-1))) (l:=l.take i)
  rw[List.length_take] at this;omega
 constructor
 ·refine wX (fun i=>(((l.take i).countP (ctO (prN a 0 (-1)) (prN b 0 (-1))):Int),(i:Int))) l.length (by simp) (fun i hi=>?_) (by simp only[sZ];rw[if_neg (by simp),List.take_of_length_le (Nat.le_refl _)])
  obtain⟨o,ho⟩:=fB hi
  obtain⟨h1,h2⟩:=hr o (List.mem_of_getElem? ho)
  have h3:=hle i
  simp only[sZ]
  rw[if_pos (by simp;omega),fE ho,bsn]
  have e:((if((decide (o.a<0))||(decide (o.b<0)))=true then some true else(idx (nmb (prN a 0 (-1))).nodes o.a).bind fun x5=>(idx (nmb (prN b 0 (-1))).nodes o.b).bind fun x6=>(lK x5 x6).bind fun x7=>some (!x7)):Option Bool)=some (ctO (prN a 0 (-1)) (prN b 0 (-1)) o):=by
   unfold ctO
   by_cases h:o.a<0∨o.b<0
   ·rw[if_pos (by simpa using h)]
    congr 1
    rcases h with h|h<;>simp[h]
   rw[if_neg (by simpa using h)]
   obtain⟨m,e1,e2⟩:=nod_get a o.a.toNat (by omega)
   obtain⟨q,e3,e4⟩:=nod_get b o.b.toNat (by omega)
   rw[uN (by omega) e1,bsn,uN (by omega) e3,bsn,e2,e4]
   unfold lK
   rw[bsn,decide_eq_false (p:=o.a<0) (by omega),decide_eq_false (p:=o.b<0) (by omega)]
   simp[Prod.mk.injEq]
  rw[e,bsn,hc i o ho]
  cases ctO (prN a 0 (-1)) (prN b 0 (-1)) o with
  |true=>rw[if_pos rfl,if_pos rfl,mW (by omega),bsn,gU (by omega),bsn];rfl
  |false=>rw[if_neg (by simp),if_neg (by simp),gU (by omega),bsn];rfl
 refine wX (fun i=>(((l.take i).countP (ctO (prN a 0 (-1)) (prN b 0 (-1))):Int),(i:Int))) l.length (by simp) (fun i hi=>?_) (by simp only[lT];rw[if_neg (by simp),List.take_of_length_le (Nat.le_refl _)])
 obtain⟨o,ho⟩:=fB hi
 obtain⟨h1,h2⟩:=hr o (List.mem_of_getElem? ho)
 have h3:=hle i
 simp only[lT]
 rw[if_pos (by simp;omega),fE ho,bsn,hc i o ho,show(if ctO (prN a 0 (-1)) (prN b 0 (-1)) o=true then 1 else 0:Nat)=if(decide (o.a<0)||decide (o.b<0)|| !decide (xP (prN a 0 (-1)) o.a.toNat=xP (prN b 0 (-1)) o.b.toNat))=true then 1 else 0 from rfl]
 by_cases h:o.a<0∨o.b<0
 ·rw[if_pos (by simpa using h),bsn,if_pos rfl,bsn,if_pos rfl,mW (by omega),bsn,gU (by omega),bsn,if_pos (by rcases h with h|h<;>simp[h])];rfl
 rw[if_neg (by simpa using h),uN (by omega) (J7 a o.a.toNat (by omega)),bsn,uN (by omega) (J7 b o.b.toNat (by omega)),bsn,bsn]
 simp only
 by_cases hk:(xP (prN a 0 (-1)) o.a.toNat).1=(xP (prN b 0 (-1)) o.b.toNat).1
 ·rw[if_neg (by simpa using hk),bsn,bsn,bsn]
  simp only
  by_cases ht:(xP (prN a 0 (-1)) o.a.toNat).2=(xP (prN b 0 (-1)) o.b.toNat).2
  ·rw[if_neg (by simpa using ht),gU (by omega),bsn,if_neg (by simp only[Bool.or_eq_true,decide_eq_true_eq,Bool.not_eq_true',decide_eq_false_iff_not,not_or,Decidable.not_not];exact⟨by omega,Prod.ext hk ht⟩)];rfl
  rw[if_pos (by simpa using ht),mW (by omega),bsn,gU (by omega),bsn,if_pos (by simp only[Bool.or_eq_true,decide_eq_true_eq,Bool.not_eq_true',decide_eq_false_iff_not];exact Or.inr fun e=>ht (congrArg Prod.snd e))];rfl
 rw[if_pos (by simpa using hk),bsn,if_pos rfl,mW (by omega),bsn,gU (by omega),bsn,if_pos (by simp only[Bool.or_eq_true,decide_eq_true_eq,Bool.not_eq_true',decide_eq_false_iff_not];exact Or.inr fun e=>hk (congrArg Prod.fst e))];rfl
def cstO (a b:Node) (l:List Opn):Nat:=l.countP (ctO (prN a 0 (-1)) (prN b 0 (-1)))
open Classical in
theorem cost_m (a b:Node) (ha:bW a≤100000) (hb:bW b≤100000) (l:List Opn) (hl:l.length≤9223372036854775807) (hw:∀o∈l,I64 o.a∧I64 o.b):wY a b l=some (if Va a b l then((cstO a b l:Int),0) else(0,1)):=by
 unfold wY
 rw[valid_m a b ha hb l hl hw,bsn]
 by_cases h:Va a b l
 ·rw[decide_eq_true h,if_neg (by simp),if_pos h,aB1 a ha,bsn,aB1 b hb,bsn,(cost_loop a b ha hb l (by have:=X9 h.scr;omega) (D6 h.scr)).1];rfl
 rw[decide_eq_false h,if_pos (by rfl),if_neg h]
theorem rcost_m (a b:Node) (ha:bW a≤100000) (hb:bW b≤100000) (l:List Opn) (h:Va a b l):pI a b l=some (cstO a b l:Int):=by
 unfold pI
 rw[aF8 a ha,bsn,aF8 b hb,bsn,(cost_loop a b ha hb l (by have:=X9 h.scr;omega) (D6 h.scr)).2];rfl
def prt (l:List Opn) (n:Int):Int×Bool:=match l.find? (fun o=>decide (o.a=n)) with
 |none=>(0,false)
 |some o=>if n<0∨o.b<0 then(0,false) else(o.b,true)
theorem find_of {α:Type} {l:List α} {p:α→Bool} {k:Nat} {x:α} (hx:l[k]?=some x) (hp:p x=true) (hj:∀j b,j<k→l[j]?=some b→p b=false):l.find? p=some x:=by
 obtain⟨h1,h2⟩:=List.getElem?_eq_some_iff.1 hx
 rw[List.find?_eq_some_iff_getElem]
 exact⟨hp,k,h1,h2,fun j h=>by rw[hj j _ h (List.getElem?_eq_getElem (by omega))];rfl⟩
theorem partner_m (l:List Opn) (n:Int) (hl:l.length≤9223372036854775807):qC l n=some (prt l n):=by
 unfold qC jC prt
 rcases aG7 (body:=fun s=>gI l n s) l (fun o=>decide (o.a=n)) (fun k _=> .ret (k:Int)) (.brk ()) (fun k x hx=>by
  have:=(List.getElem?_eq_some_iff.1 hx).1
  simp only[gI,vI]
  rw[if_pos (by simp;omega),fE hx,bsn,bsn,mW (by omega),bsn]
  by_cases h:x.a=n<;>simp[h]) (by
  simp only[gI]
  rw[if_neg (by simp)]) with⟨k,x,hx,hp,hj,_,_,e⟩|⟨hall,_,_,e⟩
 ·rw[e,bsn]
  simp only
  rw[bsn,find_of hx hp hj]
  simp only
  by_cases hn:n<0
  ·rw[if_pos (by simp[hn]),bsn,if_pos rfl,if_pos (Or.inl hn)]
  rw[if_neg (by simp;omega),fE hx,bsn,bsn]
  by_cases hb:x.b<0
  ·rw[if_pos (by simpa using hb),if_pos (Or.inr hb)]
  rw[if_neg (by simpa using hb),if_neg (by omega),bsn]
 rw[e,bsn]
 simp only
 rw[bsn,if_pos (by simp),bsn,if_pos rfl,List.find?_eq_none.2 fun x hx=>by rw[hall x hx];simp]
theorem rpartner_m (l:List Opn) (n:Int) (hl:l.length≤9223372036854775807):mG l n=some (prt l n):=by
 unfold mG prt
 rcases aG7 (body:=fun s=>jU l n s) l (fun o=>decide (o.a=n)&&decide (0≤n)) (fun _ o=> .ret (if o.b<0 then(0,false) else(o.b,true))) (.brk ()) (fun k x hx=>by
  have:=(List.getElem?_eq_some_iff.1 hx).1
  simp only[jU]
  rw[if_pos (by simp;omega),fE hx,bsn,bsn]
  by_cases h:x.a=n∧0≤n
  ·have h':(decide (x.a=n)&&decide (0≤n))=true:=by simpa using h
   rw[h']
   by_cases hb:x.b<0<;>simp[hb]
  ·rw[if_neg (by simpa using h),if_neg (by simpa using h),mW (by omega)];rfl) (by
  simp only[jU]
  rw[if_neg (by simp)]) with⟨k,x,hx,hp,hj,_,_,e⟩|⟨hall,_,_,e⟩
 ·rw[e,bsn]
  simp only[Bool.and_eq_true,decide_eq_true_eq] at hp
  rw[find_of (p:=fun o=>decide (o.a=n)) hx (decide_eq_true hp.1) (fun j b h1 h2=>by have:=hj j b h1 h2;simpa[hp.2] using this)]
  simp only
  by_cases hb:x.b<0
  ·rw[if_pos hb,if_pos (Or.inr hb)]
  rw[if_neg hb,if_neg (by omega)]
 rw[e,bsn]
 simp only
 congr 1
 split
 ·rfl
 rename_i o ho
 have h1:=List.find?_some ho
 have:=hall o (List.mem_of_find?_eq_some ho)
 simp only[decide_eq_true_eq] at h1
 rw[if_pos (by simp[h1] at this;omega)]
def nr (Q:List (Node×Int×Nat)) (T:List Bool):Nat→Int→Int
 |0,p=>p
 |f+1,p=>if p<0 then p else if T[p.toNat]?=some true then p else nr Q T f (lN Q p.toNat)
def near (Q:List (Node×Int×Nat)) (T:List Bool) (s:Nat):Int:=nr Q T (s+1) (lN Q s)
def nc (f:Nat→Bool) (n:Nat):Nat:=(List.range n).countP f
theorem nc_0 (f:Nat→Bool):nc f 0=0:=rfl
theorem nc_succ (f:Nat→Bool) (n:Nat):nc f (n+1)=nc f n+if f n=true then 1 else 0:=by
 unfold nc;rw[List.range_succ,List.countP_append,List.countP_singleton]
theorem nc_le (f:Nat→Bool) (n:Nat):nc f n≤n:=by
 unfold nc
 have:=List.countP_le_length (p:=f) (l:=List.range n)
 rwa [List.length_range] at this
theorem nc_ext {f:Nat→Bool} {e:Nat}:∀(n:Nat),e≤n→(∀s,e≤s→s<n→f s=false)→nc f n=nc f e
 |0,h,_=>by rw[show e=0 by omega]
 |n+1,h,h2=>by
  rcases Nat.lt_or_ge n e with h3|h3
  ·rw[show e=n+1 by omega]
  rw[nc_succ,h2 n h3 (by omega),nc_ext n h3 fun s a b=>h2 s a (by omega)];simp
theorem nc_zero {f:Nat→Bool} {n:Nat} (h:∀s,s<n→f s=false):nc f n=0:=by
 rw[nc_ext (e:=0) n (by omega) fun s _ b=>h s b];rfl
theorem near_loop (n:Node) (T:List Bool) (hT:T.length=bW n):∀(f:Nat) (p:Int),p<f→p<bW n→ -1≤p→
  dV (fun s=>fC (nmb (prN n 0 (-1))) T s) p=some (nr (prN n 0 (-1)) T f p)∧dV (fun s=>gZ ((prN n 0 (-1)).map spn) T s) p=some (nr (prN n 0 (-1)) T f p)
 |0,p,h0,h1,h2=>by
  unfold nr
  constructor
  ·refine kC ?_
   simp only[fC]
   rw[if_neg (by simp;omega),bsn,if_neg (by simp)]
  refine kC ?_
  simp only[gZ]
  rw[if_neg (by simp;omega),bsn,if_neg (by simp)]
 |f+1,p,h0,h1,h2=>by
  unfold nr
  by_cases hp:p<0
  ·rw[if_pos hp]
   constructor
   ·refine kC ?_
    simp only[fC]
    rw[if_neg (by simp;omega),bsn,if_neg (by simp)]
   refine kC ?_
   simp only[gZ]
   rw[if_neg (by simp;omega),bsn,if_neg (by simp)]
  rw[if_neg hp]
  obtain⟨t,ht⟩:=fB (show p.toNat<T.length by omega)
  rw[ht]
  obtain⟨_,_,g1,g2,_⟩:=at_Q n p.toNat (by omega)
  cases t with
  |true=>
   rw[if_pos rfl]
   constructor
   ·refine kC ?_
    simp only[fC]
    rw[if_pos (by simp;omega),uN (by omega) ht,bsn,bsn,if_neg (by simp)]
   refine kC ?_
   simp only[gZ]
   rw[if_pos (by simp;omega),uN (by omega) ht,bsn,bsn,if_neg (by simp)]
  |false=>
   rw[if_neg (by simp)]
   obtain⟨e1,e2⟩:=near_loop n T hT f (lN (prN n 0 (-1)) p.toNat) (by omega) (by omega) g1
   constructor
   ·rw[wL (s':=lN (prN n 0 (-1)) p.toNat) ?_,e1]
    simp only[fC]
    rw[if_pos (by simp;omega),uN (by omega) ht,bsn,bsn,if_pos (by rfl),uN (by omega) (aG4 n p.toNat (by omega))];rfl
   rw[wL (s':=lN (prN n 0 (-1)) p.toNat) ?_,e2]
   simp only[gZ]
   rw[if_pos (by simp;omega),uN (by omega) ht,bsn,bsn,if_pos (by rfl),uN (by omega) (J7 n p.toNat (by omega))];rfl
theorem near_m (n:Node) (T:List Bool) (hT:T.length=bW n) (s:Nat) (hs:s<bW n):
  dV (fun s=>fC (nmb (prN n 0 (-1))) T s) (lN (prN n 0 (-1)) s)=some (near (prN n 0 (-1)) T s)∧mJ ((prN n 0 (-1)).map spn) T (s:Int)=some (near (prN n 0 (-1)) T s):=by
 obtain⟨_,_,g1,g2,_⟩:=at_Q n s hs
 obtain⟨e1,e2⟩:=near_loop n T hT (s+1) (lN (prN n 0 (-1)) s) (by omega) (by omega) g1
 refine⟨e1,?_⟩
 unfold mJ
 rw[fE (J7 n s hs),bsn,e2];rfl
def kdB (Q:List (Node×Int×Nat)) (T:List Bool) (k s:Nat):Bool:=(T[s]?==some true)&&(decide (lN Q k<0)||(decide (lN Q k<s)&&decide ((s:Int)<lN Q k+szp Q (lN Q k).toNat)))&&decide (near Q T s=lN Q k)
def insC (Q:List (Node×Int×Nat)) (T:List Bool) (k:Nat):Chg:=
 ⟨2,lN Q k,(nc (fun s=>kdB Q T k s&&decide (s<k)) Q.length:Int),(nc (fun s=>kdB Q T k s&&decide (k<s)&&decide (s<k+szp Q k)) Q.length:Int),(xP Q k).1,(xP Q k).2⟩
theorem insertion_m (n:Node) (hn:bW n≤100000) (T:List Bool) (hT:T.length=bW n) (k:Nat) (hk:k<bW n) (hlo:∀s,s<k→T[s]?=some true):
  kD (nmb (prN n 0 (-1))) (k:Int) T=some (insC (prN n 0 (-1)) T k):=by
 obtain⟨m,g0,g1,g2,g3,g4,g5⟩:=at_Q n k hk
 obtain⟨m',n1,n2⟩:=nod_get n k hk
 have hlen:=tK.1 n 0 (-1)
 unfold kD
 rw[fE n1,bsn,bsn]
 have hnode:dV (fun s=>fZ (nmb (prN n 0 (-1))) (k:Int) T s.1 s.2) (0,(-1))=some (lN (prN n 0 (-1)) k):=by
  by_cases hp:lN (prN n 0 (-1)) k<0
  ·refine wX (fun i=>((i:Int),-1)) T.length rfl (fun i hi=>?_) ?_
   ·obtain⟨t,ht⟩:=fB hi
    simp only[fZ]
    rw[if_pos (by simp;omega),fE ht,bsn,fE (aG4 n k hk),bsn,if_neg (by simp;omega)]
    have e:((if t=true then some (decide (0≤lN (prN n 0 (-1)) k)) else some false):Option Bool)=some false:=by
     cases t
     ·rfl
     rw[if_pos rfl,decide_eq_false (by omega)]
    rw[bsn,e,bsn,if_neg (by simp),gU (by omega)];rfl
   simp only[fZ]
   rw[if_neg (by simp),show lN (prN n 0 (-1)) k= -1 by omega]
  refine wX (fun i=>((i:Int),(i:Int)-1)) (lN (prN n 0 (-1)) k).toNat (by simp) (fun i hi=>?_) ?_
  ·simp only[fZ]
   rw[if_pos (by simp;omega),fE (hlo i (by omega)),bsn,fE (aG4 n k hk),bsn,if_neg (by simp;omega),if_pos rfl,bsn,bsn,if_pos (by simp;omega),mW (by omega),bsn,gU (by omega),bsn]
   simp only[Option.some.injEq,Step.next.injEq,Prod.mk.injEq,true_and]
   omega
  obtain⟨t,ht⟩:=fB (show(lN (prN n 0 (-1)) k).toNat<T.length by omega)
  simp only[fZ]
  rw[if_pos (by simp;omega),fE ht,bsn,fE (aG4 n k hk),bsn,if_pos (by simp;omega),mW (by omega),bsn]
  simp only[Option.some.injEq,Step.done.injEq]
  omega
 rw[hnode,bsn]
 have hcnt:dV (fun s=>iU (nmb (prN n 0 (-1))) (k:Int) T s.1 s.2.1 s.2.2) (0,0,0)=some ((nc (fun s=>kdB (prN n 0 (-1)) T k s&&decide (s<k)) (bW n):Int),(nc (fun s=>kdB (prN n 0 (-1)) T k s&&decide (k<s)&&decide (s<k+szp (prN n 0 (-1)) k)) (bW n):Int)):=by
  refine wX (fun i=>((i:Int),(nc (fun s=>kdB (prN n 0 (-1)) T k s&&decide (s<k)) i:Int),(nc (fun s=>kdB (prN n 0 (-1)) T k s&&decide (k<s)&&decide (s<k+szp (prN n 0 (-1)) k)) i:Int))) (bW n) (by simp[nc_0]) (fun i hi=>?_) (by simp only[iU];rw[if_neg (by rw[hT];simp)])
  obtain⟨t,ht⟩:=fB (show i<T.length by omega)
  have b1:=nc_le (fun s=>kdB (prN n 0 (-1)) T k s&&decide (s<k)) i
  have b2:=nc_le (fun s=>kdB (prN n 0 (-1)) T k s&&decide (k<s)&&decide (s<k+szp (prN n 0 (-1)) k)) i
  simp only[iU]
  rw[if_pos (by rw[hT];simp;omega),fE ht,bsn,nc_succ,nc_succ,fE (aG4 n k hk),bsn,bsn,fE (aG4 n i hi),bsn,(near_m n T hT i hi).1,bsn,bsn]
  have hin:inK .i64 ((i:Int)+1)=some ((i+1:Nat):Int):=gU (by omega)
  have hab:0≤lN (prN n 0 (-1)) k→eY (nmb (prN n 0 (-1))) (lN (prN n 0 (-1)) k) (i:Int)=some (decide (lN (prN n 0 (-1)) k<i∧(i:Int)<lN (prN n 0 (-1)) k+szp (prN n 0 (-1)) (lN (prN n 0 (-1)) k).toNat)):=fun h=>above_m n hn _ _ h (by omega)
  have hak:=above_m n hn (k:Int) (i:Int) (by omega) (by omega)
  rw[Int.toNat_natCast] at hak
  have hkd:kdB (prN n 0 (-1)) T k i=(t&&(decide (lN (prN n 0 (-1)) k<0)||(decide (lN (prN n 0 (-1)) k<i)&&decide ((i:Int)<lN (prN n 0 (-1)) k+szp (prN n 0 (-1)) (lN (prN n 0 (-1)) k).toNat)))&&decide (near (prN n 0 (-1)) T i=lN (prN n 0 (-1)) k)):=by
   unfold kdB;rw[ht];cases t<;>simp
  rw[hkd]
  generalize near (prN n 0 (-1)) T i=nv
  generalize hpk:lN (prN n 0 (-1)) k=pk at*
  generalize szp (prN n 0 (-1)) k=sk at*
  generalize szp (prN n 0 (-1)) pk.toNat=sp at*
  have e1:((if(!t)=true then some true else(if(decide (0≤pk))=true then(eY (nmb (prN n 0 (-1))) pk (i:Int)).bind fun x13=>some (!x13) else some false).bind fun m3=>some m3):Option Bool)=some (!(t&&(decide (pk<0)||(decide (pk<i)&&decide ((i:Int)<pk+sp))))):=by
   cases t with
   |false=>rfl
   |true=>
    rw[if_neg (by simp)]
    by_cases h:0≤pk
    ·rw[if_pos (by simpa using h),hab h,bsn,bsn,decide_eq_false (p:=pk<0) (by omega)]
     congr 1
     by_cases h3:pk<i<;>by_cases h4:(i:Int)<pk+sp<;>simp[h3,h4]
    rw[if_neg (by simpa using h),bsn,decide_eq_true (p:=pk<0) (by omega)];simp
  rw[e1,bsn]
  by_cases hc:(t&&(decide (pk<0)||(decide (pk<i)&&decide ((i:Int)<pk+sp))))=true
  ·rw[hc,if_neg (by simp)]
   by_cases hnv:nv=pk
   ·rw[if_neg (by simp[hnv]),decide_eq_true hnv]
    by_cases h3:i<k
    ·rw[if_pos (by simp;omega),mW (by omega),bsn,bsn,hin,bsn,decide_eq_true h3,decide_eq_false (p:=k<i) (by omega)]
     simp
    rw[if_neg (by simp;omega),hak,bsn,decide_eq_false h3]
    by_cases h4:k<i∧i<k+sk
    ·rw[if_pos (by rw[decide_eq_true_eq];omega),mW (by omega),bsn,bsn,hin,bsn,decide_eq_true h4.1,decide_eq_true h4.2]
     simp
    rw[if_neg (by rw[decide_eq_true_eq];omega),bsn,hin,bsn,if_neg (by simp),if_neg (by simp;omega)]
    simp
   rw[if_pos (by simp[hnv]),bsn,hin,bsn,decide_eq_false hnv]
   simp
  rw[Bool.not_eq_true] at hc
  rw[hc,if_pos (by rfl),bsn,hin,bsn]
  simp
 rw[hcnt,bsn]
 unfold insC
 rw[n2,hlen]
theorem rins_m (n:Node) (hn:bW n≤100000) (T:List Bool) (hT:T.length=bW n) (k:Nat) (hk:k<bW n) (hnk:T[k]?=some false):
  dV (fun s=>jT ((prN n 0 (-1)).map spn) (k:Int) T (if lN (prN n 0 (-1)) k<0 then(bW n:Int) else lN (prN n 0 (-1)) k+szp (prN n 0 (-1)) (lN (prN n 0 (-1)) k).toNat) s.1 s.2.1 s.2.2) (lN (prN n 0 (-1)) k+1,0,0)=some ((insC (prN n 0 (-1)) T k).index,(insC (prN n 0 (-1)) T k).count):=by
 obtain⟨m,g0,g1,g2,g3,g4,g5⟩:=at_Q n k hk
 have hlen:=tK.1 n 0 (-1)
 obtain⟨lo,hlo⟩:∃lo:Nat,lN (prN n 0 (-1)) k+1=(lo:Int):=⟨(lN (prN n 0 (-1)) k+1).toNat,by omega⟩
 obtain⟨e,he,he2⟩:∃e:Nat,(if lN (prN n 0 (-1)) k<0 then(bW n:Int) else lN (prN n 0 (-1)) k+szp (prN n 0 (-1)) (lN (prN n 0 (-1)) k).toNat)=(e:Int)∧e≤bW n:=by
  by_cases h:lN (prN n 0 (-1)) k<0
  ·rw[if_pos h];exact⟨bW n,rfl,Nat.le_refl _⟩
  rw[if_neg h]
  obtain⟨m',h0,h1,h2,h3,h4,h5⟩:=at_Q n (lN (prN n 0 (-1)) k).toNat (by omega)
  exact⟨(lN (prN n 0 (-1)) k).toNat+szp (prN n 0 (-1)) (lN (prN n 0 (-1)) k).toNat,by omega,by omega⟩
 have hloe:lo≤e∨e<lo:=by omega
 have hin:∀s:Nat,(decide (lN (prN n 0 (-1)) k<0)||(decide (lN (prN n 0 (-1)) k<s)&&decide ((s:Int)<lN (prN n 0 (-1)) k+szp (prN n 0 (-1)) (lN (prN n 0 (-1)) k).toNat)))=decide (lo≤s∧s<e)∨bW n≤s:=fun s=>by
  rcases Nat.lt_or_ge s (bW n) with hs|hs
  ·left
   by_cases h:lN (prN n 0 (-1)) k<0
   ·rw[if_pos h] at he
    rw[decide_eq_true h,decide_eq_true (p:=lo≤s∧s<e) (by omega)];rfl
   rw[if_neg h] at he
   rw[decide_eq_false h,Bool.false_or,Bool.eq_iff_iff]
   simp only[Bool.and_eq_true,decide_eq_true_eq]
   omega
  exact Or.inr hs
 rw[he,hlo]
 have hk0:∀s,kdB (prN n 0 (-1)) T k s=true→lo≤s∧s<e:=fun s h=>by
  have h':=h
  unfold kdB at h
  rw[Bool.and_eq_true,Bool.and_eq_true] at h
  rcases hin s with h2|h2
  ·rw[h2] at h;exact of_decide_eq_true h.1.2
  have:=h.1.1
  rw[List.getElem?_eq_none (by omega)] at this;simp at this
 have hidx:(insC (prN n 0 (-1)) T k).index=(nc (fun s=>kdB (prN n 0 (-1)) T k s&&decide (s<k)) (max lo e):Int)∧(insC (prN n 0 (-1)) T k).count=(nc (fun s=>kdB (prN n 0 (-1)) T k s&&decide (k<s)&&decide (s<k+szp (prN n 0 (-1)) k)) (max lo e):Int):=by
  unfold insC
  rw[hlen]
  have hz:∀f:Nat→Bool,(∀s,f s=true→kdB (prN n 0 (-1)) T k s=true)→nc f (bW n)=nc f (max lo e):=fun f hf=>by
   have hs:∀s,e≤s→f s=false:=fun s h1=>by
    cases h:f s with
    |false=>rfl
    |true=>have:=hk0 s (hf s h);omega
   rw[nc_ext (e:=e) (bW n) he2 fun s a _=>hs s a,nc_ext (e:=e) (max lo e) (by omega) fun s a _=>hs s a]
  constructor
  ·exact congrArg Nat.cast (hz _ fun s h=>by rw[Bool.and_eq_true] at h;exact h.1)
  exact congrArg Nat.cast (hz _ fun s h=>by rw[Bool.and_eq_true,Bool.and_eq_true] at h;exact h.1.1)
 rw[hidx.1,hidx.2]
 refine wX (fun i=>(((lo+i:Nat):Int),(nc (fun s=>kdB (prN n 0 (-1)) T k s&&decide (s<k)) (lo+i):Int),(nc (fun s=>kdB (prN n 0 (-1)) T k s&&decide (k<s)&&decide (s<k+szp (prN n 0 (-1)) k)) (lo+i):Int))) (e-lo) ?_ (fun i hi=>?_) ?_
 ·rw[Nat.add_zero,nc_zero (n:=lo) fun s hs=>by
   cases h:kdB (prN n 0 (-1)) T k s with
   |false=>rfl
   |true=>have:=hk0 s h;omega,nc_zero (n:=lo) fun s hs=>by
   cases h:kdB (prN n 0 (-1)) T k s with
   |false=>rfl
   |true=>have:=hk0 s h;omega]
  rfl
 ·have hs:lo+i<bW n:=by omega
  obtain⟨t,ht⟩:=fB (show lo+i<T.length by omega)
  have b1:=nc_le (fun s=>kdB (prN n 0 (-1)) T k s&&decide (s<k)) (lo+i)
  have b2:=nc_le (fun s=>kdB (prN n 0 (-1)) T k s&&decide (k<s)&&decide (s<k+szp (prN n 0 (-1)) k)) (lo+i)
  simp only[jT]
  rw[if_pos (by rw[decide_eq_true_eq];omega),fE ht,bsn,show lo+(i+1)=(lo+i)+1 by omega,nc_succ,nc_succ,(near_m n T hT (lo+i) hs).2,bsn,fE (J7 n k hk),bsn,bsn]
  have hkd:kdB (prN n 0 (-1)) T k (lo+i)=(t&&decide (near (prN n 0 (-1)) T (lo+i)=lN (prN n 0 (-1)) k)):=by
   unfold kdB
   rw[ht,(hin (lo+i)).resolve_right (by omega),decide_eq_true (p:=lo≤lo+i∧lo+i<e) (by omega)]
   cases t<;>simp
  have hne:t=true→lo+i≠k:=fun e1 e2=>by rw[e2,hnk] at ht;cases ht;cases e1
  have hinS:inK .i64 (((lo+i:Nat):Int)+1)=some ((lo+i+1:Nat):Int):=gU (by omega)
  rw[hkd]
  simp only
  generalize near (prN n 0 (-1)) T (lo+i)=nv at*
  have e1:((if t=true then some (decide (nv=lN (prN n 0 (-1)) k)) else some false):Option Bool)=some (t&&decide (nv=lN (prN n 0 (-1)) k)):=by cases t<;>rfl
  rw[e1,bsn]
  by_cases hc:(t&&decide (nv=lN (prN n 0 (-1)) k))=true
  ·have hne':=hne (by rw[Bool.and_eq_true] at hc;exact hc.1)
   rw[hc,if_pos rfl]
   by_cases h3:lo+i<k
   ·rw[if_pos (by rw[decide_eq_true_eq];omega),mW (by omega),bsn,hinS,bsn,decide_eq_true h3,decide_eq_false (p:=k<lo+i) (by omega)]
    simp
   rw[if_neg (by rw[decide_eq_true_eq];omega),decide_eq_false h3,decide_eq_true (p:=k<lo+i) (by omega)]
   by_cases h4:lo+i<k+szp (prN n 0 (-1)) k
   ·rw[if_pos (by rw[decide_eq_true_eq];omega),mW (by omega),bsn,hinS,bsn,decide_eq_true h4]
    simp
   rw[if_neg (by rw[decide_eq_true_eq];omega),hinS,bsn,decide_eq_false h4]
   simp
  rw[Bool.not_eq_true] at hc
  rw[hc,if_neg (by simp),hinS,bsn]
  simp
 simp only[jT]
 rw[if_neg (by rw[decide_eq_true_eq];omega),show lo+(e-lo)=max lo e by omega]
theorem reverse_m (l:List Chg) (h:l.length≤1000000):rV l=some l.reverse:=by
 unfold rV
 rw[mW (by omega),bsn]
 obtain⟨r,h1,rfl⟩:=zS (body:=fun s=>oK s.1 s.2.1 s.2.2) (fun s=>∃i:Nat,s.1=(i:Int)∧s.2.1=(l.length:Int)-1-i∧2*i≤l.length∧s.2.2.length=l.length∧∀j:Nat,j<l.length→s.2.2[j]?=if j<i∨l.length-i≤j then l[l.length-1-j]? else l[j]?) (fun s=>l.length-s.1.toNat)
  (fun r=>r=l.reverse)
  (by
   rintro⟨a,b,L⟩ ⟨i,e1,e2,hi,hl,hg⟩
   simp only at e1 e2 hl hg
   subst e1
   by_cases hlt:(i:Int)<b
   ·obtain⟨j,hj⟩:∃j:Nat,b=(j:Int):=⟨b.toNat,by omega⟩
    subst hj
    obtain⟨x,hx⟩:=fB (show i<L.length by omega)
    obtain⟨y,hy⟩:=fB (show j<L.length by omega)
    left
    refine⟨(((i+1:Nat):Int),(j:Int)-1,(L.set i y).set j x),?_,⟨i+1,rfl,by simp only;omega,by omega,by simp[hl],fun k hk=>?_⟩,by simp;omega⟩
    ·simp only[oK]
     rw[if_pos (by simpa using hlt),fE hy,bsn,fE hx,bsn,bsn,Int.toNat_natCast,fE (a:=y) (by rw[List.getElem?_set_ne (by omega)];exact hy),bsn,gU (by omega),bsn,mW (by omega),bsn,Int.toNat_natCast]
    have gx:=hg i (by omega)
    have gy:=hg j (by omega)
    rw[hx,if_neg (by omega)] at gx
    rw[hy,if_neg (by omega)] at gy
    simp only
    rw[List.getElem?_set,List.getElem?_set,List.length_set,hg k hk]
    by_cases k1:j=k
    ·rw[if_pos k1,if_pos (by omega),if_pos (by omega),gx];congr 1;omega
    rw[if_neg k1]
    by_cases k2:i=k
    ·rw[if_pos k2,if_pos (by omega),if_pos (by omega),gy];congr 1;omega
    rw[if_neg k2]
    by_cases k3:k<i∨l.length-i≤k
    ·rw[if_pos k3,if_pos (by omega)]
    rw[if_neg k3,if_neg (by omega)]
   right
   refine⟨L,by simp only[oK];rw[if_neg (by simpa using hlt)],List.ext_getElem? fun k=>?_⟩
   rcases Nat.lt_or_ge k l.length with hk|hk
   ·rw[hg k hk,List.getElem?_reverse hk]
    by_cases k3:k<i∨l.length-i≤k
    ·rw[if_pos k3]
    rw[if_neg k3];congr 1;omega
   rw[List.getElem?_eq_none (by omega),List.getElem?_eq_none (by simpa using hk)]) (0,(l.length:Int)-1,l) ⟨0,rfl,by simp only;omega,by omega,rfl,fun j hj=>by rw[if_neg (by omega)]⟩
 rw[h1];rfl
theorem concat_m (A B C:List Chg) (h:A.length+B.length+C.length≤1000000):tJ [A,B,C]=some (A++B++C):=by
 unfold tJ
 refine xZ (fun i=>((match i with
  |0=>0
  |1=>(A.length:Int)
  |2=>(A.length:Int)+B.length
  |_=>(A.length:Int)+B.length+C.length),(i:Int))) 3 ((A.length:Int)+B.length+C.length) rfl (fun i hi=>?_) rfl ?_
 ·simp only[wM]
  match i,hi with
  |0,_=>rw[if_pos (by simp),fE (a:=A) rfl,bsn];simp only;rw[Int.zero_add,mW (by omega),bsn,if_neg (by simp),gU (by omega),bsn]
  |1,_=>rw[if_pos (by simp),fE (a:=B) rfl,bsn];simp only;rw[mW (by omega),bsn,if_neg (by simp;omega),gU (by omega),bsn]
  |2,_=>rw[if_pos (by simp),fE (a:=C) rfl,bsn];simp only;rw[mW (by omega),bsn,if_neg (by simp;omega),gU (by omega),bsn]
 rw[show m_grow ((A.length:Int)+B.length+C.length)=some [] by unfold m_grow;rw[if_pos (by omega)],bsn]
 refine xZ (fun i=>((i:Int),(match i with
  |0=>[]
  |1=>A
  |2=>A++B
  |_=>A++B++C))) 3 (A++B++C) rfl (fun i hi=>?_) rfl rfl
 simp only[wO]
 match i,hi with
 |0,_=>rw[if_pos (by simp),fE (a:=A) rfl,bsn];simp only;rw[yV (by simp;omega),bsn,gU (by omega),bsn];rfl
 |1,_=>rw[if_pos (by simp),fE (a:=B) rfl,bsn];simp only;rw[yV (by omega),bsn,gU (by omega),bsn]
 |2,_=>rw[if_pos (by simp),fE (a:=C) rfl,bsn];simp only;rw[yV (by simp;omega),bsn,gU (by omega),bsn]
def wW (P Q:List (Node×Int×Nat)) (o:Opn):Option Chg:=if 0≤o.a∧0≤o.b∧xP P o.a.toNat≠xP Q o.b.toNat then some ⟨0,o.a,0,0,(xP Q o.b.toNat).1,(xP Q o.b.toNat).2⟩ else none
def E5 (o:Opn):Option Chg:=if o.b<0 then some ⟨1,o.a,0,0,0,ByteArray.empty⟩ else none
def thB (l:List Opn) (s:Nat):Bool:=l.any fun q=>decide (0≤q.a)&&decide (q.b=(s:Int))
def TK (l:List Opn) (ny k:Nat):List Bool:=(List.range ny).map fun s=>decide (s<k)||thB l s
def insL (Q:List (Node×Int×Nat)) (l:List Opn) (ks:List Nat):List Chg:=ks.map fun k=>insC Q (TK l Q.length k) k
def chgL (P Q:List (Node×Int×Nat)) (l:List Opn):List Chg:=l.filterMap (wW P Q)++(l.filterMap E5).reverse++insL Q l ((List.range Q.length).filter fun s=> !thB l s)
theorem TK_get (l:List Opn) (ny k s:Nat) (h:s<ny):(TK l ny k)[s]?=some (decide (s<k)||thB l s):=by
 unfold TK;rw[List.getElem?_map,List.getElem?_range h];rfl
theorem TK_len (l:List Opn) (ny k:Nat):(TK l ny k).length=ny:=by simp[TK]
theorem thB_iff (l:List Opn) (s:Nat):thB l s=true↔∃q∈l,0≤q.a∧q.b=s:=by simp[thB]
theorem mZ {α β:Type} (f:α→Option β) {l:List α} {i:Nat} {x:α} (h:l[i]?=some x):(l.take (i+1)).filterMap f=(l.take i).filterMap f++(f x).toList:=by
 rw[iO h,List.filterMap_append]
 cases hf:f x<;>simp[hf]
theorem vT {α:Type} (f:α→Bool) {l:List α} {i:Nat} {x:α} (h:l[i]?=some x):(l.take (i+1)).filter f=(l.take i).filter f++if f x=true then [x] else []:=by
 rw[iO h,List.filter_append]
 congr 1
 cases hf:f x<;>simp[hf]
theorem S9 {nx ny:Nat} {l:List Opn} (h:Scr nx ny l) {j:Nat} {q:Opn} (hq:l[j]?=some q):(j<nx→q.a=j)∧(nx≤j→q.a= -1∧0≤q.b):=by
 have hk:=(List.getElem?_eq_some_iff.1 hq).1
 have t:(l.take j).length=j:=by rw[List.length_take];omega
 have h1:=(h j q hq).fst
 have h2:=(h j q hq).snd
 rw[t] at h1 h2
 exact⟨h1,fun e=>⟨(h2 e).1,(h2 e).2.1⟩⟩
theorem scr_lt {nx ny:Nat} {l:List Opn} (h:Scr nx ny l) {i j:Nat} {q o:Opn} (hq:l[i]?=some q) (ho:l[j]?=some o) (h1:nx≤i) (h2:i<j):q.b<o.b:=by
 have hk:=(List.getElem?_eq_some_iff.1 ho).1
 refine((h j o ho).snd (by rw[List.length_take];omega)).2.2 q (List.mem_of_getElem? (i:=i-nx) ?_)
 rw[List.getElem?_drop,List.getElem?_take,if_pos (by omega),show nx+(i-nx)=i by omega];exact hq
theorem TK_of {nx ny:Nat} {sx sy:Nat→Nat} {l:List Opn} (hV:Vd nx ny sx sy l) {i:Nat} {o:Opn} (ho:l[i]?=some o) (hi:nx≤i) {T:List Bool} (hT:Mk ny (l.filter (fun q=>decide (0≤q.a))++(l.take i).filter fun q=>decide (q.a<0)) T):T=TK l ny o.b.toNat:=by
 have hob:=(S9 hV.scr ho).2 hi
 refine List.ext_getElem? fun s=>?_
 rcases Nat.lt_or_ge s ny with hs|hs
 ·obtain⟨v,hv⟩:=fB (show s<T.length by rw[hT.1];exact hs)
  have h1:=hT.2 s hs
  rw[hv] at h1
  rw[hv,TK_get l ny _ s hs]
  congr 1
  rw[Bool.eq_iff_iff]
  rw[show(v=true)↔(some v=some true) by simp,h1,Bool.or_eq_true,decide_eq_true_eq,thB_iff]
  constructor
  ·rintro⟨q,hq,e⟩
   rcases List.mem_append.1 hq with h|h
   ·rw[List.mem_filter] at h
    exact Or.inr ⟨q,h.1,of_decide_eq_true h.2,e⟩
   rw[List.mem_filter] at h
   obtain⟨j,hj⟩:=List.mem_iff_getElem?.1 h.1
   have hji:j<i:=by have:=(List.getElem?_eq_some_iff.1 hj).1;rw[List.length_take] at this;omega
   rw[List.getElem?_take,if_pos hji] at hj
   have ha:=of_decide_eq_true h.2
   have hjn:nx≤j:=Nat.le_of_not_lt fun e=>by have:=(S9 hV.scr hj).1 e;omega
   have:=scr_lt hV.scr hj ho hjn hji
   exact Or.inl (by omega)
  rintro(h|⟨q,hq,ha,e⟩)
  ·obtain⟨q,hq,e⟩:=hV.sur s hs
   obtain⟨j,hj⟩:=List.mem_iff_getElem?.1 hq
   refine⟨q,?_,e⟩
   rw[List.mem_append,List.mem_filter,List.mem_filter]
   by_cases ha:0≤q.a
   ·exact Or.inl ⟨hq,decide_eq_true ha⟩
   have hjn:nx≤j:=Nat.le_of_not_lt fun e=>by have:=(S9 hV.scr hj).1 e;omega
   have hji:j<i:=by
    apply Classical.byContradiction
    intro hc
    rcases Nat.lt_or_ge i j with h2|h2
    ·have:=scr_lt hV.scr ho hj hi h2;omega
    obtain rfl:i=j:=by omega
    rw[ho] at hj;cases hj;omega
   exact Or.inr ⟨List.mem_of_getElem? (i:=j) (by rw[List.getElem?_take,if_pos hji];exact hj),decide_eq_true (by omega)⟩
  exact⟨q,by rw[List.mem_append,List.mem_filter];exact Or.inl ⟨hq,decide_eq_true ha⟩,e⟩
 rw[List.getElem?_eq_none (by rw[hT.1];exact hs),List.getElem?_eq_none (by rw[TK_len];exact hs)]
theorem ins_eq {nx ny:Nat} {sx sy:Nat→Nat} {l:List Opn} (hV:Vd nx ny sx sy l):(l.filter fun q=>decide (q.a<0)).map (fun o=>o.b.toNat)=(List.range ny).filter fun s=> !thB l s:=by
 have hpos:∀q∈l,q.a<0→∃j,l[j]?=some q∧nx≤j∧0≤q.b:=fun q hq ha=>by
  obtain⟨j,hj⟩:=List.mem_iff_getElem?.1 hq
  have hjn:nx≤j:=Nat.le_of_not_lt fun e=>by have:=(S9 hV.scr hj).1 e;omega
  exact⟨j,hj,hjn,((S9 hV.scr hj).2 hjn).2⟩
 refine rising_ext (r:=fun a b:Nat=>a<b) (fun a=>Nat.lt_irrefl a) (fun a b c=>Nat.lt_trans) ?_ (List.Pairwise.filter _ (List.pairwise_lt_range)) fun s=>?_
 ·rw[List.pairwise_map,List.pairwise_filter,List.pairwise_iff_getElem]
  intro i j hi hj hij h1 h2
  have h1:=of_decide_eq_true h1
  have h2:=of_decide_eq_true h2
  have hjn:nx≤i:=Nat.le_of_not_lt fun e=>by have:=(S9 hV.scr (List.getElem?_eq_getElem hi)).1 e;omega
  have h3:=scr_lt hV.scr (List.getElem?_eq_getElem hi) (List.getElem?_eq_getElem hj) hjn hij
  have h4:=((S9 hV.scr (List.getElem?_eq_getElem hi)).2 hjn).2
  omega
 rw[List.mem_map,List.mem_filter,List.mem_range]
 constructor
 ·rintro⟨q,hq,e⟩
  rw[List.mem_filter] at hq
  have ha:=of_decide_eq_true hq.2
  obtain⟨j,hj,hjn,hb⟩:=hpos q hq.1 ha
  have hr:=D6 hV.scr q hq.1
  refine⟨by omega,?_⟩
  rw[Bool.not_eq_true',←Bool.not_eq_true,thB_iff]
  rintro⟨q',hq',ha',e'⟩
  obtain⟨j',hj'⟩:=List.mem_iff_getElem?.1 hq'
  have hj2:j'<nx:=Nat.lt_of_not_le fun e=>by have:=((S9 hV.scr hj').2 e).1;omega
  have:=List.pairwise_iff_getElem.1 (scr_pw hV.scr) j' j (List.getElem?_eq_some_iff.1 hj').1 (List.getElem?_eq_some_iff.1 hj).1 (by omega)
  rw[(List.getElem?_eq_some_iff.1 hj').2,(List.getElem?_eq_some_iff.1 hj).2] at this
  exact this.2 hb (by omega)
 rintro⟨hs,hn⟩
 rw[Bool.not_eq_true',←Bool.not_eq_true,thB_iff] at hn
 obtain⟨q,hq,e⟩:=hV.sur s hs
 have ha:q.a<0:=by
  apply Classical.byContradiction
  intro h;exact hn ⟨q,hq,by omega,e⟩
 exact⟨q,by rw[List.mem_filter];exact⟨hq,decide_eq_true ha⟩,by omega⟩
theorem few_r:∀(f:Nat) (n:Node),SizeOf.sizeOf n<f→∀(left:Int),left≤1000→ -1≤left→∃r,jQ f n left=some r∧ -1≤r∧r≤1000∧(0≤r→(bW n:Int)+r=left):=by
 intro f
 induction f with
 |zero=>intro n h;omega
 |succ f ih=>
  intro n hsz left hl hl0
  have hcnt:=yY n
  unfold jQ oV
  split
  ·exact⟨-1,rfl,by omega,by omega,fun h=>by omega⟩
  rename_i hc
  have hl1:1≤left:=by
   apply Classical.byContradiction
   intro hn
   apply hc
   rw[Bool.or_eq_true]
   exact Or.inl (decide_eq_true (by omega))
  rw[mW (by omega)]
  simp only[Option.bind_some]
  obtain⟨r,hr,h1,h2,h3⟩:=zS (body:=fun s=>jF n (jQ f) s.1 s.2) (fun s=>∃i:Nat,s.2=(i:Int)∧i≤n.kids.length∧ -1≤s.1∧s.1≤1000∧(0≤s.1→(qI (n.kids.take i):Int)+s.1=left-1)) (fun s=>n.kids.length-s.2.toNat)
   (fun r=> -1≤r∧r≤1000∧(0≤r→(bW n:Int)+r=left))
   (by
    rintro⟨l,z⟩ ⟨i,e,hi,h1,h2,h3⟩
    simp only at e h1 h2 h3
    subst e
    by_cases hlt:i<n.kids.length∧0≤l
    ·left
     obtain⟨x,hx⟩:=fB hlt.1
     obtain⟨r,hr,g1,g2,g3⟩:=ih x (by have:=node_sz hx;omega) l h2 h1
     have e1:=aA0 hx
     have e2:=D9 (n.kids.take i)
     rw[List.length_take] at e2
     have e3:=h3 hlt.2
     refine⟨(r,((i+1:Nat):Int)),?_,⟨i+1,rfl,by omega,g1,g2,fun h=>?_⟩,by simp;omega⟩
     ·simp only[jF]
      rw[if_pos (by simp;omega),fE hx]
      simp only[Option.bind_some]
      rw[hr]
      simp only[Option.bind_some]
      rw[gU (by omega)]
      rfl
     have:=g3 h
     simp only
     rw[e1];omega
    right
    refine⟨l,?_,h1,h2,fun h=>?_⟩
    ·simp only[jF]
     rw[if_neg (by
      rw[Bool.and_eq_true,decide_eq_true_eq,decide_eq_true_eq]
      omega)]
    have h4:=h3 h
    rw[List.take_of_length_le (by omega)] at h4
    omega) (left-1,0) ⟨0,rfl,Nat.zero_le _,by simp only;omega,by simp only;omega,fun _=>by simp[qI]⟩
  rw[hr]
  exact⟨r,rfl,h1,h2,h3⟩
theorem Few_m (n:Node) (k:Int) (h:k≤1000) (h0:0≤k):∃b,nO n k=some b∧(b=true→(bW n:Int)≤k):=by
 obtain⟨r,hr,h1,h2,h3⟩:=few_r (SizeOf.sizeOf n+1) n (by omega) k h (by omega)
 unfold nO xI
 rw[hr]
 refine⟨_,rfl,fun e=>?_⟩
 have:=h3 (by simpa using e)
 have:=of_decide_eq_true e
 omega
theorem few_m (a b:Node) (k:Int) (h:k≤1000) (h0:0≤k):∃r,qH a b k=some r∧(r=true→(bW a:Int)≤k∧(bW b:Int)≤k):=by
 obtain⟨x,hx,h1⟩:=Few_m a k h h0
 obtain⟨y,hy,h2⟩:=Few_m b k h h0
 unfold qH
 rw[hx,hy]
 simp only[Option.bind_some]
 cases x with
 |true=>exact⟨y,by simp,fun e=>⟨h1 rfl,h2 e⟩⟩
 |false=>exact⟨false,by simp,fun e=>by cases e⟩
set_option maxRecDepth 100000 in
set_option maxHeartbeats 4000000 in
theorem awake_ok:qZ=some true:=by kernel_rfl
theorem aE7 {α β:Type} (f:α→Option β) (l:List α):(l.filterMap f).length≤l.length:=List.length_filterMap_le f l
theorem lbl_loop (a b:Node) (ha:bW a≤100000) (hb:bW b≤100000) (l:List Opn) (hV:Va a b l):
  ∃T,dV (fun s=>nM l (nmb (prN a 0 (-1))) (nmb (prN b 0 (-1))) s.1 s.2.1 s.2.2.1 s.2.2.2) (0,[],[],List.replicate (bW b) false)=some (l.filterMap (wW (prN a 0 (-1)) (prN b 0 (-1))),l.filterMap E5,T)∧Mk (bW b) (l.filter fun q=>decide (0≤q.a)) T:=by
 have hlen:=X9 hV.scr
 obtain⟨r,h1,T,rfl,hT⟩:=zS (body:=fun s=>nM l (nmb (prN a 0 (-1))) (nmb (prN b 0 (-1))) s.1 s.2.1 s.2.2.1 s.2.2.2)
  (fun s=>∃(i:Nat) (T:List Bool),s=((i:Int),(l.take i).filterMap (wW (prN a 0 (-1)) (prN b 0 (-1))),(l.take i).filterMap E5,T)∧i≤l.length∧Mk (bW b) ((l.take i).filter fun q=>decide (0≤q.a)) T) (fun s=>l.length-s.1.toNat)
  (fun r=>∃T,r=(l.filterMap (wW (prN a 0 (-1)) (prN b 0 (-1))),l.filterMap E5,T)∧Mk (bW b) (l.filter fun q=>decide (0≤q.a)) T)
  (by
   rintro _ ⟨i,T,rfl,hi,hT⟩
   by_cases hlt:i<l.length
   ·obtain⟨o,ho⟩:=fB hlt
    obtain⟨r1,r2⟩:=D6 hV.scr o (List.mem_of_getElem? ho)
    have b1:=aE7 (wW (prN a 0 (-1)) (prN b 0 (-1))) (l.take i)
    have b2:=aE7 E5 (l.take i)
    rw[List.length_take] at b1 b2
    have hnext:inK .i64 ((i:Int)+1)=some ((i+1:Nat):Int):=gU (by omega)
    left
    simp only[nM]
    rw[if_pos (by simp;omega),fE ho,bsn]
    by_cases hob:o.b<0
    ·rw[if_pos (by simpa using hob),yV (by simp;omega),bsn,hnext,bsn]
     refine⟨_,rfl,⟨i+1,T,?_,by omega,?_⟩,by simp;omega⟩
     ·rw[mZ _ ho,mZ _ ho,show wW (prN a 0 (-1)) (prN b 0 (-1)) o=none by unfold wW;rw[if_neg (by omega)],show E5 o=some ⟨1,o.a,0,0,0,ByteArray.empty⟩ by unfold E5;rw[if_pos hob]]
      simp
     rw[vT _ ho]
     split
     ·exact hT.skip hob
     rw[List.append_nil];exact hT
    have hd:E5 o=none:=by unfold E5;rw[if_neg hob]
    rw[if_neg (by simpa using hob)]
    by_cases hoa:0≤o.a
    ·obtain⟨v,hv,_⟩:=hT.get (o:=o) (by omega) r2
     obtain⟨m,e1,e2⟩:=nod_get a o.a.toNat (by omega)
     obtain⟨q,e3,e4⟩:=nod_get b o.b.toNat (by omega)
     have hl1:((l.take i).filterMap (wW (prN a 0 (-1)) (prN b 0 (-1)))).length+1≤4294967296:=by omega
     have hM:Mk (bW b) ((l.take (i+1)).filter fun q=>decide (0≤q.a)) (T.set o.b.toNat true):=by
      rw[vT _ ho,if_pos (by simpa using hoa)];exact hT.mark (by omega) r2
     rw[if_pos (by simpa using hoa),hv,bsn,uN (by omega) e3,bsn,uN hoa e1,bsn]
     unfold lK
     rw[bsn]
     by_cases hs:xP (prN a 0 (-1)) o.a.toNat=xP (prN b 0 (-1)) o.b.toNat
     ·have hl:wW (prN a 0 (-1)) (prN b 0 (-1)) o=none:=by unfold wW;rw[if_neg (by simp[hs])]
      rw[e2,e4,Prod.mk.injEq] at hs
      rw[if_neg (by simp[hs]),hnext,bsn]
      refine⟨_,rfl,⟨i+1,_,?_,by omega,hM⟩,by simp;omega⟩
      rw[mZ _ ho,mZ _ ho,hl,hd];simp
     have hl:wW (prN a 0 (-1)) (prN b 0 (-1)) o=some ⟨0,o.a,0,0,q.kind,q.text⟩:=by unfold wW;rw[if_pos ⟨hoa,by omega,hs⟩,e4]
     rw[e2,e4,Prod.mk.injEq] at hs
     rw[if_pos (by
      rw[Bool.not_eq_true',←Bool.not_eq_true,Bool.and_eq_true,decide_eq_true_eq,decide_eq_true_eq]
      exact hs),yV (by simpa using hl1),bsn,hnext,bsn]
     refine⟨_,rfl,⟨i+1,_,?_,by omega,hM⟩,by simp;omega⟩
     rw[mZ _ ho,mZ _ ho,hl,hd];simp
    rw[if_neg (by simpa using hoa),hnext,bsn]
    refine⟨_,rfl,⟨i+1,T,?_,by omega,?_⟩,by simp;omega⟩
    ·rw[mZ _ ho,mZ _ ho,show wW (prN a 0 (-1)) (prN b 0 (-1)) o=none by unfold wW;rw[if_neg (by omega)],hd]
     simp
    rw[vT _ ho,if_neg (by simpa using hoa),List.append_nil];exact hT
   right
   rw[List.take_of_length_le (by omega)] at hT⊢
   exact⟨_,by simp only[nM];rw[if_neg (by simp;omega)],T,rfl,hT⟩) (0,[],[],List.replicate (bW b) false) ⟨0,_,rfl,Nat.zero_le _,by simp;exact Mk.nil _⟩
 exact⟨T,h1,hT⟩
theorem insl_loop (a b:Node) (ha:bW a≤100000) (hb:bW b≤100000) (l:List Opn) (hV:Va a b l) (T0:List Bool) (h0:Mk (bW b) (l.filter fun q=>decide (0≤q.a)) T0):
  ∃T,dV (fun s=>nN l (nmb (prN b 0 (-1))) s.1 s.2.1 s.2.2) (0,[],T0)=some (insL (prN b 0 (-1)) l ((List.range (bW b)).filter fun s=> !thB l s),T):=by
 have hlen:=X9 hV.scr
 have hQ:=tK.1 b 0 (-1)
 have hins:=ins_eq hV
 obtain⟨r,h1,T,rfl⟩:=zS (body:=fun s=>nN l (nmb (prN b 0 (-1))) s.1 s.2.1 s.2.2)
  (fun s=>∃(i:Nat) (T:List Bool),s=((i:Int),insL (prN b 0 (-1)) l (((l.take i).filter fun q=>decide (q.a<0)).map fun o=>o.b.toNat),T)∧i≤l.length∧Mk (bW b) ((l.filter fun q=>decide (0≤q.a))++(l.take i).filter fun q=>decide (q.a<0)) T) (fun s=>l.length-s.1.toNat)
  (fun r=>∃T,r=(insL (prN b 0 (-1)) l ((l.filter fun q=>decide (q.a<0)).map fun o=>o.b.toNat),T))
  (by
   rintro _ ⟨i,T,rfl,hi,hT⟩
   by_cases hlt:i<l.length
   ·obtain⟨o,ho⟩:=fB hlt
    obtain⟨r1,r2⟩:=D6 hV.scr o (List.mem_of_getElem? ho)
    have b1:(insL (prN b 0 (-1)) l (((l.take i).filter fun q=>decide (q.a<0)).map fun o=>o.b.toNat)).length≤l.length:=by
     unfold insL
     rw[List.length_map,List.length_map]
     have:=List.length_filter_le (fun q:Opn=>decide (q.a<0)) (l.take i)
     rw[List.length_take] at this;omega
    have hnext:inK .i64 ((i:Int)+1)=some ((i+1:Nat):Int):=gU (by omega)
    left
    simp only[nN]
    rw[if_pos (by simp;omega),fE ho,bsn]
    by_cases hoa:o.a<0
    ·have hi2:bW a≤i:=Nat.le_of_not_lt fun e=>by have:=(S9 hV.scr ho).1 e;omega
     have hob:=((S9 hV.scr ho).2 hi2).2
     have hTK:=TK_of hV ho hi2 hT
     obtain⟨v,hv,_⟩:=hT.get (o:=o) hob r2
     have hI:=insertion_m b hb T hT.1 o.b.toNat (by omega) (fun s hs=>by rw[hTK,TK_get l _ _ s (by omega),decide_eq_true hs];rfl)
     rw[show((o.b.toNat:Nat):Int)=o.b by omega] at hI
     rw[if_pos (by simpa using hoa),hI,bsn,yV (by simp;omega),bsn,hv,bsn,hnext,bsn]
     refine⟨_,rfl,⟨i+1,T.set o.b.toNat true,?_,by omega,?_⟩,by simp;omega⟩
     ·have e:insL (prN b 0 (-1)) l (((l.take (i+1)).filter fun q=>decide (q.a<0)).map fun o=>o.b.toNat)=insL (prN b 0 (-1)) l (((l.take i).filter fun q=>decide (q.a<0)).map fun o=>o.b.toNat)++[insC (prN b 0 (-1)) T o.b.toNat]:=by
       rw[vT _ ho,if_pos (by simpa using hoa),List.map_append,hTK]
       unfold insL
       rw[List.map_append,hQ];rfl
      rw[e]
     rw[vT _ ho,if_pos (by simpa using hoa),←List.append_assoc]
     exact hT.mark hob r2
    rw[if_neg (by simpa using hoa),hnext,bsn]
    refine⟨_,rfl,⟨i+1,T,?_,by omega,?_⟩,by simp;omega⟩
    ·rw[vT _ ho,if_neg (by simpa using hoa),List.append_nil]
    rw[vT _ ho,if_neg (by simpa using hoa),List.append_nil];exact hT
   right
   rw[List.take_of_length_le (by omega)]
   exact⟨_,by simp only[nN];rw[if_neg (by simp;omega)],T,rfl⟩) (0,[],T0) ⟨0,_,rfl,Nat.zero_le _,by simpa using h0⟩
 rw[hins] at h1
 exact⟨T,h1⟩
theorem aI1 (l:List Opn) (n:Nat):((List.range n).filter fun s=> !thB l s).length≤n:=by
 have:=List.length_filter_le (fun s=> !thB l s) (List.range n)
 rwa [List.length_range] at this
open Classical in
theorem changes_m (a b:Node) (ha:bW a≤100000) (hb:bW b≤100000) (l:List Opn) (hl:l.length≤9223372036854775807) (hw:∀o∈l,I64 o.a∧I64 o.b):rO a b l=some (if Va a b l then(chgL (prN a 0 (-1)) (prN b 0 (-1)) l,0) else([],1)):=by
 unfold rO
 rw[valid_m a b ha hb l hl hw,bsn]
 by_cases h:Va a b l
 ·have nb:(nmb (prN b 0 (-1))).nodes.length=bW b:=by unfold nmb;simp[tK.1]
  have hlen:=X9 h.scr
  have b1:=aE7 (wW (prN a 0 (-1)) (prN b 0 (-1))) l
  have b2:=aE7 E5 l
  have b3:=aI1 l (bW b)
  obtain⟨T,e1,hT⟩:=lbl_loop a b ha hb l h
  obtain⟨T2,e2⟩:=insl_loop a b ha hb l h T hT
  rw[decide_eq_true h,if_neg (by simp),if_pos h,aB1 a ha,bsn,aB1 b hb,bsn,nb,mkc_ok (by omega),bsn,Int.toNat_natCast,e1,bsn]
  simp only
  rw[e2,bsn]
  simp only
  rw[reverse_m _ (by omega),bsn,concat_m _ _ _ (by simp[insL];omega),bsn]
  unfold chgL
  rw[tK.1]
 rw[decide_eq_false h,if_pos (by rfl),if_neg h]
theorem drop_fm {nx ny:Nat} {sx sy:Nat→Nat} {l:List Opn} (hV:Vd nx ny sx sy l) (P Q:List (Node×Int×Nat)):l.filterMap (wW P Q)=(l.take nx).filterMap (wW P Q)∧l.filterMap E5=(l.take nx).filterMap E5:=by
 have h:∀q∈l.drop nx,wW P Q q=none∧E5 q=none:=fun q hq=>by
  obtain⟨j,hj⟩:=List.mem_iff_getElem?.1 hq
  rw[List.getElem?_drop] at hj
  have:=(S9 hV.scr hj).2 (by omega)
  exact⟨by unfold wW;rw[if_neg (by omega)],by unfold E5;rw[if_neg (by omega)]⟩
 constructor
 ·conv=>lhs;rw[←List.take_append_drop nx l,List.filterMap_append]
  rw[List.filterMap_eq_nil_iff.2 fun q hq=>(h q hq).1,List.append_nil]
 conv=>lhs;rw[←List.take_append_drop nx l,List.filterMap_append]
 rw[List.filterMap_eq_nil_iff.2 fun q hq=>(h q hq).2,List.append_nil]
theorem rchanges_m (a b:Node) (ha:bW a≤100000) (hb:bW b≤100000) (l:List Opn) (hV:Va a b l):mF a b l=some (chgL (prN a 0 (-1)) (prN b 0 (-1)) l):=by
 unfold mF
 have la:((prN a 0 (-1)).map spn).length=bW a:=by rw[List.length_map,tK.1]
 have lb:((prN b 0 (-1)).map spn).length=bW b:=by rw[List.length_map,tK.1]
 have hlen:=X9 hV.scr
 have hln:=hV.len
 obtain⟨d1,d2⟩:=drop_fm hV (prN a 0 (-1)) (prN b 0 (-1))
 have hfm:∀(f:Opn→Option Chg) i,((l.take i).filterMap f).length≤l.length:=fun f i=>by
  have:=aE7 f (l.take i)
  rw[List.length_take] at this;omega
 rw[aF8 a ha,bsn,aF8 b hb,bsn]
 refine xZ (fun i=>((i:Int),(l.take i).filterMap (wW (prN a 0 (-1)) (prN b 0 (-1))))) (bW a) _ (by simp) (fun i hi=>?_) (by simp only[mP];rw[if_neg (by rw[la];simp)]) ?_
 ·obtain⟨o,ho⟩:=fB (show i<l.length by omega)
  obtain⟨r1,r2⟩:=D6 hV.scr o (List.mem_of_getElem? ho)
  have hoa:=(S9 hV.scr ho).1 hi
  have b1:=hfm (wW (prN a 0 (-1)) (prN b 0 (-1))) i
  simp only[mP]
  rw[if_pos (by rw[la];simp;omega),fE ho,bsn,mZ _ ho]
  by_cases hob:0≤o.b
  ·rw[if_pos (by simpa using hob),fE (J7 a i hi),bsn,uN hob (J7 b o.b.toNat (by omega)),bsn,bsn,bsn]
   simp only
   by_cases hs:xP (prN a 0 (-1)) i=xP (prN b 0 (-1)) o.b.toNat
   ·have hl:wW (prN a 0 (-1)) (prN b 0 (-1)) o=none:=by unfold wW;rw[if_neg (by rw[hoa,Int.toNat_natCast];simp[hs])]
    rw[if_neg (by simp[hs]),bsn,bsn,if_neg (by simp[hs]),gU (by omega),bsn,hl];simp
   have hl:wW (prN a 0 (-1)) (prN b 0 (-1)) o=some ⟨0,o.a,0,0,(xP (prN b 0 (-1)) o.b.toNat).1,(xP (prN b 0 (-1)) o.b.toNat).2⟩:=by unfold wW;rw[if_pos ⟨by omega,hob,by rw[hoa,Int.toNat_natCast];exact hs⟩]
   have e:((if(!decide ((xP (prN a 0 (-1)) i).1=(xP (prN b 0 (-1)) o.b.toNat).1))=true then some true else some (!decide ((xP (prN a 0 (-1)) i).2=(xP (prN b 0 (-1)) o.b.toNat).2))):Option Bool)=some true:=by
    by_cases hk:(xP (prN a 0 (-1)) i).1=(xP (prN b 0 (-1)) o.b.toNat).1
    ·rw[if_neg (by simpa using hk),decide_eq_false fun ht=>hs (Prod.ext hk ht)];rfl
    rw[if_pos (by simpa using hk)]
   rw[e,bsn,bsn,if_pos rfl,bsn,bsn,yV (by simp;omega),bsn,gU (by omega),bsn,hl,hoa];rfl
  have hl:wW (prN a 0 (-1)) (prN b 0 (-1)) o=none:=by unfold wW;rw[if_neg (by omega)]
  rw[if_neg (by simpa using hob),bsn,if_neg (by simp),gU (by omega),bsn,hl];simp
 rw[la,mW (by omega),bsn]
 have b1:=hfm (wW (prN a 0 (-1)) (prN b 0 (-1))) (bW a)
 refine xZ (fun j=>((bW a:Int)-1-j,(l.take (bW a)).filterMap (wW (prN a 0 (-1)) (prN b 0 (-1)))++(((l.take (bW a)).drop (bW a-j)).filterMap E5).reverse)) (bW a) ((l.take (bW a)).filterMap (wW (prN a 0 (-1)) (prN b 0 (-1)))++((l.take (bW a)).filterMap E5).reverse) ?_ (fun j hj=>?_) (by simp only[mQ];rw[if_neg (by simp;omega),Nat.sub_self,List.drop_zero]) ?_
 ·rw[Nat.sub_zero,List.drop_eq_nil_of_le (by rw[List.length_take];omega)];simp
 ·obtain⟨o,ho⟩:=fB (show bW a-1-j<l.length by omega)
  have hoa:=(S9 hV.scr ho).1 (by omega)
  have hd:(l.take (bW a)).drop (bW a-(j+1))=o::(l.take (bW a)).drop (bW a-j):=by
   rw[show bW a-(j+1)=bW a-1-j by omega,drop_cons_of (a:=o) (by rw[List.getElem?_take,if_pos (by omega)];exact ho),show bW a-1-j+1=bW a-j by omega]
  have b2:=aE7 E5 ((l.take (bW a)).drop (bW a-j))
  rw[List.length_drop,List.length_take] at b2
  rw[hd]
  simp only[mQ]
  rw[if_pos (by simp;omega),uN (by omega) (by rw[show((bW a:Int)-1-j).toNat=bW a-1-j by omega];exact ho),bsn]
  by_cases hob:o.b<0
  ·rw[if_pos (by simpa using hob),yV (by simp;omega),bsn,mW (by omega),bsn,List.filterMap_cons_some (show E5 o=some ⟨1,o.a,0,0,0,ByteArray.empty⟩ by unfold E5;rw[if_pos hob])]
   rw[hoa]
   simp only[List.reverse_cons,List.append_assoc,Option.some.injEq,Step.next.injEq,Prod.mk.injEq]
   refine⟨by omega,?_⟩
   rw[show((bW a-1-j:Nat):Int)=(bW a:Int)-1-j by omega]
  rw[if_neg (by simpa using hob),mW (by omega),bsn,List.filterMap_cons_none (show E5 o=none by unfold E5;rw[if_neg hob])]
  simp only[Option.some.injEq,Step.next.injEq,Prod.mk.injEq,and_true]
  omega
 rw[lb,mkc_ok (by omega),bsn,Int.toNat_natCast]
 obtain⟨T,h3,hT⟩:=zS (body:=fun s=>jS l ((prN a 0 (-1)).map spn) s.1 s.2) (fun s=>∃(i:Nat),s.1=(i:Int)∧i≤bW a∧Mk (bW b) (l.take i) s.2) (fun s=>bW a-s.1.toNat) (fun T=>Mk (bW b) (l.take (bW a)) T)
  (by
   rintro⟨_,T⟩ ⟨i,rfl,hi,hT⟩
   simp only at hT
   by_cases hlt:i<bW a
   ·obtain⟨o,ho⟩:=fB (show i<l.length by omega)
    obtain⟨r1,r2⟩:=D6 hV.scr o (List.mem_of_getElem? ho)
    left
    simp only[jS]
    rw[if_pos (by rw[la];simp;omega),fE ho,bsn]
    by_cases hob:0≤o.b
    ·obtain⟨v,hv,_⟩:=hT.get (o:=o) hob r2
     rw[if_pos (by simpa using hob),bsn,hv,bsn,gU (by omega),bsn]
     exact⟨_,rfl,⟨i+1,rfl,by omega,by rw[iO ho];exact hT.mark hob r2⟩,by simp;omega⟩
    rw[if_neg (by simpa using hob),gU (by omega),bsn]
    exact⟨_,rfl,⟨i+1,rfl,by omega,by rw[iO ho];exact hT.skip (by omega)⟩,by simp;omega⟩
   right
   obtain rfl:i=bW a:=by omega
   exact⟨T,by simp only[jS];rw[if_neg (by rw[la];simp)],hT⟩) (0,List.replicate (bW b) false) ⟨0,rfl,Nat.zero_le _,by rw[List.take_zero];exact Mk.nil _⟩
 have hT0:T=TK l (bW b) 0:=by
  refine List.ext_getElem? fun s=>?_
  rcases Nat.lt_or_ge s (bW b) with hs|hs
  ·obtain⟨v,hv⟩:=fB (show s<T.length by rw[hT.1];exact hs)
   have h1:=hT.2 s hs
   rw[hv] at h1
   rw[hv,TK_get l _ _ s hs,decide_eq_false (by omega),Bool.false_or]
   congr 1
   rw[Bool.eq_iff_iff,show(v=true)↔(some v=some true) by simp,h1,thB_iff]
   constructor
   ·rintro⟨q,hq,e⟩
    obtain⟨j,hj⟩:=List.mem_iff_getElem?.1 hq
    have hjn:j<bW a:=by have:=(List.getElem?_eq_some_iff.1 hj).1;rw[List.length_take] at this;omega
    rw[List.getElem?_take,if_pos hjn] at hj
    exact⟨q,List.mem_of_getElem? hj,by rw[(S9 hV.scr hj).1 hjn];omega,e⟩
   rintro⟨q,hq,hqa,e⟩
   obtain⟨j,hj⟩:=List.mem_iff_getElem?.1 hq
   have hjn:j<bW a:=Nat.lt_of_not_le fun e=>by have:=((S9 hV.scr hj).2 e).1;omega
   exact⟨q,List.mem_of_getElem? (i:=j) (by rw[List.getElem?_take,if_pos hjn];exact hj),e⟩
  rw[List.getElem?_eq_none (by rw[hT.1];exact hs),List.getElem?_eq_none (by rw[TK_len];exact hs)]
 rw[h3,bsn,hT0]
 have b3:=hfm E5 (bW a)
 refine xZ (fun k=>((k:Int),TK l (bW b) k,((l.take (bW a)).filterMap (wW (prN a 0 (-1)) (prN b 0 (-1)))++((l.take (bW a)).filterMap E5).reverse)++insL (prN b 0 (-1)) l ((List.range k).filter fun s=> !thB l s))) (bW b) (TK l (bW b) (bW b),((l.take (bW a)).filterMap (wW (prN a 0 (-1)) (prN b 0 (-1)))++((l.take (bW a)).filterMap E5).reverse)++insL (prN b 0 (-1)) l ((List.range (bW b)).filter fun s=> !thB l s)) (by simp[insL]) (fun k hk=>?_) (by simp only[mV];rw[if_neg (by rw[lb];simp)]) ?_
 ·have b4:=aI1 l k
  have hTk:(TK l (bW b) k)[k]?=some (thB l k):=by rw[TK_get l _ _ k hk,decide_eq_false (by omega),Bool.false_or]
  have hsk:=J7 b k hk
  obtain⟨m,g0,g1,g2,_⟩:=at_Q b k hk
  have hend:((if(decide (0≤lN (prN b 0 (-1)) k))=true then(idx ((prN b 0 (-1)).map spn) (lN (prN b 0 (-1)) k)).bind fun x30=>some x30.last else some (((prN b 0 (-1)).map spn).length:Int)):Option Int)=some (if lN (prN b 0 (-1)) k<0 then(bW b:Int) else lN (prN b 0 (-1)) k+szp (prN b 0 (-1)) (lN (prN b 0 (-1)) k).toNat):=by
   by_cases h:lN (prN b 0 (-1)) k<0
   ·rw[if_neg (by simpa using h),if_pos h,lb]
   rw[if_pos (by simpa using h),if_neg h,uN (by omega) (J7 b (lN (prN b 0 (-1)) k).toNat (by omega)),bsn]
   congr 1
   simp only;omega
  simp only[mV]
  rw[if_pos (by rw[lb];simp;omega),fE hTk,bsn,List.range_succ,List.filter_append]
  cases hth:thB l k with
  |true=>
   rw[if_pos rfl,bsn,gU (by omega),bsn,show TK l (bW b) (k+1)=TK l (bW b) k from List.map_congr_left fun s hs=>by
    by_cases e:s=k
    ·subst e;simp[hth]
    congr 1;rw[Bool.eq_iff_iff];simp only[decide_eq_true_eq];omega]
   simp[hth]
  |false=>
   have hI:=rins_m b hb (TK l (bW b) k) (TK_len _ _ _) k hk (by rw[hTk,hth])
   have hl2:((l.take (bW a)).filterMap (wW (prN a 0 (-1)) (prN b 0 (-1)))).length+((l.take (bW a)).filterMap E5).length+((List.range k).filter fun s=> !thB l s).length+1≤4294967296:=by omega
   rw[if_neg (by simp),fE hsk]
   simp only[bsn]
   rw[hend,bsn,mW (by omega),bsn,hI,bsn,yV (by simp[insL];omega),bsn,bsn,gU (by omega),bsn,show(TK l (bW b) k).set (k:Int).toNat true=TK l (bW b) (k+1) from List.ext_getElem? fun s=>by
    rw[Int.toNat_natCast,List.getElem?_set,TK_len]
    rcases Nat.lt_or_ge s (bW b) with hs|hs
    ·rw[TK_get l _ _ s hs,TK_get l _ _ s hs]
     by_cases e:k=s
     ·rw[if_pos e,if_pos hk,decide_eq_true (by omega)];rfl
     rw[if_neg e]
     congr 2
     rw[Bool.eq_iff_iff,decide_eq_true_eq,decide_eq_true_eq];omega
    rw[if_neg (by omega),List.getElem?_eq_none (by rw[TK_len];exact hs),List.getElem?_eq_none (by rw[TK_len];exact hs)]]
   rw[List.filter_cons_of_pos (by simp[hth]),List.filter_nil]
   simp only[Option.some.injEq,Step.next.injEq,Prod.mk.injEq,true_and]
   unfold insL
   rw[List.map_append,List.append_assoc,List.append_assoc,List.append_assoc,tK.1]
   rfl
 simp only
 unfold chgL
 rw[d1,d2,tK.1]
theorem equal_refl (l:List Chg) (h:l.length≤1000000):lS l l=some true:=by
 unfold lS
 rw[if_neg (by simp)]
 refine xZ (fun i=>(i:Int)) l.length (.brk ()) rfl (fun i hi=>?_) (by simp only[oH];rw[if_neg (by simp)]) rfl
 obtain⟨x,hx⟩:=fB hi
 simp only[oH]
 rw[if_pos (by simp;omega),fE hx,bsn,bsn,if_neg (by simp),gU (by omega)];rfl
theorem chg_len (a b:Node) (l:List Opn) (hV:Va a b l):(chgL (prN a 0 (-1)) (prN b 0 (-1)) l).length≤2*(bW a+bW b)+bW b:=by
 have b1:=aE7 (wW (prN a 0 (-1)) (prN b 0 (-1))) l
 have b2:=aE7 E5 l
 have b3:=aI1 l (bW b)
 have b4:=X9 hV.scr
 unfold chgL insL
 rw[tK.1]
 simp only[List.length_append,List.length_reverse,List.length_map]
 omega
theorem opn_wf {l:List Opn} (h:LW (fun a:Opn=>I64 a.a∧I64 a.b) l):l.length≤9223372036854775807∧∀o∈l,I64 o.a∧I64 o.b:=⟨by have:=h.1;unfold maxLen at this;exact this,h.2⟩
open Classical in
theorem law_AlignForm (p0:Node) (p1:Node) (p2:(List Opn)) (p3:Int) (h0:NodeWf p0) (h1:NodeWf p1) (h2:LW (fun a:Opn=>I64 a.a∧I64 a.b) p2) (h3:(Lit.int .i64 p3).wf=true):oG p0 p1 p2 p3=some true:=by
 unfold oG
 rw[awake_ok,bsn,if_neg (by simp)]
 obtain⟨r,hr,hf⟩:=few_m p0 p1 15 (by omega) (by omega)
 rw[hr,bsn]
 cases r with
 |false=>rfl
 |true=>
  obtain⟨c0,c1⟩:=hf rfl
  by_cases hl:40<p2.length
  ·rw[if_pos (by simp;omega)]
  obtain⟨w1,w2⟩:=opn_wf h2
  rw[if_neg (by simp;omega),rvalid_m p0 p1 (by omega) (by omega) p2 w1 w2,bsn,partner_m p2 p3 w1,bsn,rpartner_m p2 p3 w1,bsn,cost_m p0 p1 (by omega) (by omega) p2 w1 w2,bsn,changes_m p0 p1 (by omega) (by omega) p2 w1 w2,bsn,valid_m p0 p1 (by omega) (by omega) p2 w1 w2,bsn,if_neg (by simp)]
  by_cases hV:Va p0 p1 p2
  ·have hcl:=chg_len p0 p1 p2 hV
   rw[decide_eq_true hV,if_neg (by simp),if_pos hV,if_pos hV,if_pos (by simp),rcost_m p0 p1 (by omega) (by omega) p2 hV,bsn,bsn,if_pos (by simp),rchanges_m p0 p1 (by omega) (by omega) p2 hV,bsn,equal_refl _ (by simp only;omega)];rfl
  rw[decide_eq_false hV,if_pos (by rfl),if_neg hV,if_neg hV];rfl
end Go.Proofs.YtopnldfjcciieaaGreat
