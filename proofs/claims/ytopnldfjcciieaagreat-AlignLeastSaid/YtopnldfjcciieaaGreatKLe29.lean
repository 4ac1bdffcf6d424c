/- Valid of the reference: it says the same. -/
import Derived.Test.YtopnldfjcciieaaGreatKLe28
import Derived.Test.YtopnldfjcciieaaGreatKLe3
import Derived.Test.YtopnldfjcciieaaGreatKLe4
import Derived.Test.YtopnldfjcciieaaGreatKLe27
set_option linter.unusedVariables false
set_option linter.unusedSimpArgs false
namespace Go.Proofs.YtopnldfjcciieaaGreat
open Go.RowKit
theorem rvloop (nx ny:Nat) (l:List Opn) (x y:List Span) (H:x.length=nx) (hy:y.length=ny) (hnx:nx≤100000) (hl:l.length≤9223372036854775807) (I:∀o∈l,I64 o.a∧I64 o.b):
  ∃r,dY (fun s=>mO l x y s.1 s.2.1 s.2.2.1 s.2.2.2) (0,-1,0,List.replicate ny false)=some r∧
   ((r= .ret false∧¬(Scr nx ny l∧nx≤l.length))∨∃(c:Int) (m:List Bool),r= .brk (c,m)∧((c≠nx∧¬(Scr nx ny l∧nx≤l.length))∨(c=nx∧Scr nx ny l∧nx≤l.length∧Mk ny l m))):=by
 refine aO0 (fun s=>∃i:Nat,s.2.2.1=(i:Int)∧i≤l.length∧0≤s.1∧s.2.2.2.length=ny∧ -1≤s.2.1∧
   (((∀j q,j<i→l[j]?=some q→OkO nx ny (l.take j) q)∧La nx (l.take i) s.2.1∧s.1=((min i nx:Nat):Int)∧Mk ny (l.take i) s.2.2.2)∨(¬Scr nx ny l∧s.1<(i:Int)∧s.1<(nx:Int)))) (fun s=>l.length-s.2.2.1.toNat) _ ?_ _
  ⟨0,O,Nat.zero_le _,Int.le_refl _,by simp,by simp only;omega,Or.inl ⟨fun j q h=>by omega,⟨by simp,by simp,Or.inl O⟩,by simp,by rw[List.take_zero];exact Mk.nil ny⟩⟩
 rintro⟨c,z,_,m⟩ ⟨i,rfl,hi,C,hml,hz1,hmode⟩
 simp only at C hml hz1 hmode
 by_cases hlt:i<l.length
 ·obtain⟨o,A⟩:=dE hlt
  have hwo:=I o (vL A)
  unfold I64 at hwo
  have hti:(l.take i).length=i:=by rw[vQ];omega
  have hnext:inK .i64 ((i:Int)+1)=some ((i+1:Nat):Int):=by rw[dI (by omega)];rfl
  have hsc:¬OkO nx ny (l.take i) o→¬(Scr nx ny l∧nx≤l.length):=fun h G=>h (G.1 i o A)
  have hcb:c≤100000:=by rcases hmode with⟨_,_,h,_⟩|⟨_,_,h⟩<;>omega
  have hcn:inK .i64 (c+1)=some (c+1):=dI (by omega)
  have hmark:0≤o.b→o.b<ny→∃v,idx m o.b=some v:=fun h0 h1=>by
   obtain⟨v,hv⟩:=dE (show o.b.toNat<m.length by omega)
   exact⟨v,V4 h0 hv⟩
  simp only[mO]
  rw[if_pos (by simp;omega),bC A,bsn]
  by_cases ha:0≤o.a
  ·rw[if_pos (by simpa using ha)]
   by_cases E:o.a=i∧o.a<nx∧ -1≤o.b∧o.b<ny
   ·obtain⟨c1,c2,c3,c4⟩:=E
    rw[if_neg (by rw[H,hy];simp only[Bool.or_eq_true,Bool.not_eq_true',decide_eq_true_eq,decide_eq_false_iff_not];omega),hcn,bsn]
    have hok:(0≤o.b→∀q∈l.take i,q.b≠o.b)→OkO nx ny (l.take i) o:=fun F=>⟨fun h=>by rw[hti];exact c1,fun h=>by rw[hti] at h;omega,c3,c4,F⟩
    have step:∀m':List Bool,(0≤o.b→∀q∈l.take i,q.b≠o.b)→m'.length=ny→(Mk ny (l.take i) m→Mk ny (l.take (i+1)) m')→
      ∃i':Nat,(((i+1:Nat):Int))=(i':Int)∧i'≤l.length∧0≤c+1∧m'.length=ny∧ -1≤z∧(((∀j q,j<i'→l[j]?=some q→OkO nx ny (l.take j) q)∧La nx (l.take i') z∧c+1=((min i' nx:Nat):Int)∧Mk ny (l.take i') m')∨(¬Scr nx ny l∧c+1<(i':Int)∧c+1<(nx:Int))):=fun m' F h1 h2=>by
     refine⟨i+1,O,by omega,by omega,h1,hz1,?_⟩
     rcases hmode with⟨g1,g2,g3,g4⟩|⟨g1,g2,g3⟩
     ·exact Or.inl ⟨Scr.take g1 A (hok F),by rw[jF A];exact g2.fst (by omega),by omega,h2 g4⟩
     exact Or.inr ⟨g1,by omega,by omega⟩
    by_cases hb:0≤o.b
    ·rw[if_pos (by simpa using hb)]
     obtain⟨v,hv⟩:=hmark hb c4
     rw[hv,bsn]
     cases v with
     |true=>
      rw[if_pos rfl]
      refine Or.inr ⟨_,O,Or.inl ⟨O,?_⟩⟩
      rcases hmode with⟨g1,g2,g3,g4⟩|⟨g1,g2,g3⟩
      ·obtain⟨v',hv',hvi⟩:=g4.get hb c4
       rw[hv] at hv';cases hv'
       obtain⟨q,hq,e⟩:=hvi.1 O
       exact hsc fun h=>h.inj hb q hq e
      exact fun h=>g1 h.1
     |false=>
      rw[if_neg (by simp),bsn,hnext,bsn]
      refine Or.inl ⟨_,O,?_,by simp;omega⟩
      by_cases hno:∀q∈l.take i,q.b≠o.b
      ·exact step _ (fun _=>hno) (by simp[hml]) fun g=>by rw[jF A];exact g.mark hb c4
      rcases hmode with⟨g1,g2,g3,g4⟩|⟨g1,g2,g3⟩
      ·obtain⟨v',hv',hvi⟩:=g4.get hb c4
       rw[hv] at hv';cases hv'
       exact absurd (fun q hq e=>by have:=hvi.2 ⟨q,hq,e⟩;cases this) hno
      exact⟨i+1,O,by omega,by simp only;omega,by simp[hml],hz1,Or.inr ⟨g1,by simp only;omega,by simp only;omega⟩⟩
    rw[if_neg (by simpa using hb),hnext,bsn]
    refine Or.inl ⟨_,O,?_,by simp;omega⟩
    exact step m (fun h=>absurd h hb) hml fun g=>by rw[jF A];exact g.skip (by omega)
   rw[if_pos (by rw[H,hy];simp only[Bool.or_eq_true,Bool.not_eq_true',decide_eq_true_eq,decide_eq_false_iff_not];omega)]
   refine Or.inr ⟨_,O,Or.inl ⟨O,hsc fun h=>E ?_⟩⟩
   have k1:=h.fst;have k2:=h.snd
   rw[hti] at k1 k2
   rcases xV i nx with e|e
   ·have:=k1 e;exact⟨this,by omega,h.lo,h.hi⟩
   have:=(k2 e).1;omega
  rw[if_neg (by simpa using ha)]
  by_cases E:o.a= -1∧z<o.b∧o.b<ny
  ·obtain⟨c1,c2,c3⟩:=E
   have hb:0≤o.b:=by omega
   rw[if_neg (by rw[hy];simp only[Bool.or_eq_true,Bool.not_eq_true',decide_eq_true_eq,decide_eq_false_iff_not];omega),if_pos (by simpa using hb)]
   obtain⟨v,hv⟩:=hmark hb c3
   rw[hv,bsn]
   cases v with
   |true=>
    rw[if_pos rfl]
    refine Or.inr ⟨_,O,Or.inl ⟨O,?_⟩⟩
    rcases hmode with⟨g1,g2,g3,g4⟩|⟨g1,g2,g3⟩
    ·obtain⟨v',hv',hvi⟩:=g4.get hb c3
     rw[hv] at hv';cases hv'
     obtain⟨q,hq,e⟩:=hvi.1 O
     exact hsc fun h=>h.inj hb q hq e
    exact fun h=>g1 h.1
   |false=>
    rw[if_neg (by simp),bsn,hnext,bsn]
    refine Or.inl ⟨_,O,⟨i+1,O,by omega,C,by simp[hml],by simp only;omega,?_⟩,by simp;omega⟩
    rcases hmode with⟨g1,g2,g3,g4⟩|⟨g1,g2,g3⟩
    ·by_cases hin:i<nx
     ·have hm1:min i nx=i:=Nat.min_eq_left (by omega)
      rw[hm1] at g3
      refine Or.inr ⟨fun G=>?_,by simp only;omega,by simp only;omega⟩
      have:=(G i o A).fst
      rw[hti] at this
      have:=this hin
      omega
     obtain⟨v',hv',hvi⟩:=g4.get hb c3
     rw[hv] at hv';cases hv'
     exact Or.inl ⟨Scr.take g1 A ⟨fun h=>by rw[hti] at h;omega,fun _=>⟨c1,(g2.iff o.b).1 c2⟩,by omega,c3,fun _ q hq e=>by have:=hvi.2 ⟨q,hq,e⟩;cases this⟩,by rw[jF A];exact g2.snd (by omega) c2,by simp only;rw[g3,Nat.min_eq_right (by omega),Nat.min_eq_right (by omega)],by rw[jF A];exact g4.mark hb c3⟩
    exact Or.inr ⟨g1,by simp only;omega,g3⟩
  rw[if_pos (by rw[hy];simp only[Bool.or_eq_true,Bool.not_eq_true',decide_eq_true_eq,decide_eq_false_iff_not];omega)]
  refine Or.inr ⟨_,O,Or.inl ⟨O,?_⟩⟩
  rcases hmode with⟨g1,g2,g3,g4⟩|⟨g1,g2,g3⟩
  ·refine hsc fun h=>E ?_
   have k1:=h.fst;have k2:=h.snd
   rw[hti] at k1 k2
   rcases xV i nx with e|e
   ·have:=k1 e;omega
   exact⟨(k2 e).1,(g2.iff o.b).2 (k2 e).2,h.hi⟩
  exact fun h=>g1 h.1
 simp only[mO]
 rw[if_neg (by simp;omega)]
 refine Or.inr ⟨_,O,Or.inr ⟨c,m,O,?_⟩⟩
 rcases hmode with⟨g1,g2,g3,g4⟩|⟨g1,g2,g3⟩
 ·rw[wN (by omega)] at g4
  by_cases hln:nx≤l.length
  ·exact Or.inr ⟨by omega,fun j q hq=>g1 j q (by have:=(uR.1 hq).1;omega) hq,hln,g4⟩
  exact Or.inl ⟨by omega,fun h=>hln h.2⟩
 exact Or.inl ⟨by omega,fun h=>g1 h.1⟩
theorem scr_len {nx ny:Nat} {l:List Opn} (h:Scr nx ny l):l.length≤nx+ny:=by
 have key:∀(k:Nat) (o:Opn),l[nx+k]?=some o→(k:Int)≤o.b:=by
  intro k
  induction k with
  |zero=>
   intro o A
   have hk:=(uR.1 A).1
   have:=((h _ o A).snd (by rw[vQ];omega)).2.1
   omega
  |succ k ih=>
   intro o A
   have hk:=(uR.1 A).1
   obtain⟨q,hq⟩:=dE (show nx+k<l.length by omega)
   have h1:=ih q hq
   have h2:=((h _ o A).snd (by rw[vQ];omega)).2.2 q (vL (i:=k) (by rw[yW,xD,if_pos (by omega)];exact hq))
   omega
 apply Classical.byContradiction
 intro hc
 obtain⟨o,A⟩:=dE (show nx+ny<l.length by omega)
 have:=key ny o A
 have:=(h _ o A).hi
 omega
theorem prs_iff {nx ny:Nat} {sx sy:Nat→Nat} {l:List Opn} (C:Scr nx ny l) (hl:nx≤l.length):l.Pairwise (PrO sx sy)↔∀i k q o,i<k→k<nx→l[i]?=some q→l[k]?=some o→0≤q.b→0≤o.b→q.b<o.b∧((k:Int)<i+sx i↔o.b<q.b+sy q.b.toNat):=by
 have ea:∀j q,j<nx→l[j]?=some q→q.a=j:=fun j q hj hq=>by
  have hk:=(uR.1 hq).1
  have:=(C j q hq).fst (by rw[vQ];omega)
  rw[vQ] at this
  omega
 rw[xS]
 constructor
 ·intro h i k q o hik hk hq A h1 h2
  have:=h i k (by omega) (by omega) hik
  rw[(uR.1 hq).2,(uR.1 A).2] at this
  have e1:=ea i q (by omega) hq
  have e2:=ea k o hk A
  have:=this (by omega) h1 (by omega) h2
  rw[e1,e2] at this
  simpa using this
 intro h i k hi hk hik h1 h2 h3 h4
 rcases xV k nx with e|e
 ·have:=h i k l[i] l[k] hik e (vB hi) (vB hk) h2 h4
  rw[ea i _ (by omega) (vB hi),ea k _ e (vB hk)]
  simpa using this
 have:=((C k _ (vB hk)).snd (by rw[vQ];omega)).1
 omega
theorem spn_at (n:Node) (i:Nat) (h:i<bK n):∃s:Span,((prN n 0 (-1)).map spn)[i]?=some s∧s.last=((i+szp (prN n 0 (-1)) i:Nat):Int):=by
 obtain⟨m,q,a1,a2,a3⟩:=szp_le n i h
 exact⟨spn (m,q,i),by rw[xF,a1];rfl,by rw[a2];rfl⟩
theorem rploop (a b:Node) (ha:bK a≤100000) (hb:bK b≤100000) (l:List Opn) (C:Scr (bK a) (bK b) l) (G:bK a≤l.length):
  (¬l.Pairwise (PrO (szp (prN a 0 (-1))) (szp (prN b 0 (-1))))∧dY (fun s=>iT l ((prN a 0 (-1)).map spn) ((prN b 0 (-1)).map spn) s) 0=some (.ret false))∨
  (l.Pairwise (PrO (szp (prN a 0 (-1))) (szp (prN b 0 (-1))))∧dY (fun s=>iT l ((prN a 0 (-1)).map spn) ((prN b 0 (-1)).map spn) s) 0=some (.brk ())):=by
 rw[prs_iff C G]
 have la:((prN a 0 (-1)).map spn).length=bK a:=by rw[List.length_map,zO.1]
 have hpw:=xS.1 (scr_pw C)
 have hsa:=spn_at a
 have hsb:=spn_at b
 generalize szp (prN a 0 (-1))=sx at hsa⊢
 generalize szp (prN b 0 (-1))=sy at hsb⊢
 generalize (prN a 0 (-1)).map spn=X at la hsa⊢
 generalize (prN b 0 (-1)).map spn=Y at hsb⊢
 let bad (i k:Nat):Prop:=∃q o,l[i]?=some q∧l[k]?=some o∧0≤q.b∧0≤o.b∧¬(q.b<o.b∧((k:Int)<i+sx i↔o.b<q.b+sy q.b.toNat))
 have main:=up_loop (body:=fun s=>iT l X Y s) (fun i=>∃k,i<k∧k<bK a∧bad i k) (.ret false) (.brk ()) (bK a) (bK a) 0 (by omega) (fun i _ hi=>by
  obtain⟨q,hq⟩:=dE (show i<l.length by omega)
  have hqr:=scr_rng C q (vL hq)
  simp only[iT]
  rw[if_pos (by rw[la];simp;omega),fF (by omega),bsn]
  have inner:=up_loop (body:=fun s=>mQ l X Y (i:Int) s) (fun k=>bad i k) (.ret false) (.brk ()) (bK a) (bK a-(i+1)) (i+1) (by omega) (fun k h1 h2=>by
   obtain⟨o,A⟩:=dE (show k<l.length by omega)
   have hor:=scr_rng C o (vL A)
   have hne:=hpw i k (by omega) (by omega) (by omega)
   rw[(uR.1 hq).2,(uR.1 A).2] at hne
   simp only[mQ]
   rw[if_pos (by rw[la];simp;omega),bC hq,bsn,bC A,bsn]
   have hb':bad i k↔0≤q.b∧0≤o.b∧¬(q.b<o.b∧((k:Int)<i+sx i↔o.b<q.b+sy q.b.toNat)):=by
    constructor
    ·rintro⟨q',o',e1,e2,e3⟩
     rw[hq] at e1;rw[A] at e2;cases e1;cases e2;exact e3
    intro h;exact⟨q,o,hq,A,h⟩
   by_cases h0:0≤q.b∧0≤o.b
   ·obtain⟨s,hs,e1⟩:=hsa i hi
    obtain⟨t,ht,e2⟩:=hsb q.b.toNat (by omega)
    have H:((if((decide (0≤q.b))&&(decide (0≤o.b)))=true then((if(decide (o.b<q.b))=true then some true else(idx X (i:Int)).bind fun F=>(idx Y q.b).bind fun E=>some (!((decide ((k:Int)<F.last))==(decide (o.b<E.last))))):Option Bool).bind fun m2=>some m2 else some false):Option Bool)=some (decide (¬(q.b<o.b∧((k:Int)<i+sx i↔o.b<q.b+sy q.b.toNat)))):=by
     rw[if_pos (by simp[h0])]
     by_cases h3:o.b<q.b
     ·rw[if_pos (by simpa using h3),bsn,decide_eq_true (by omega)]
     rw[if_neg (by simpa using h3),bC hs,bsn,V4 h0.1 ht,bsn,bsn,e1,e2]
     congr 1
     have:=hne.2 h0.2
     rw[Bool.eq_iff_iff]
     simp only[Bool.not_eq_true',beq_eq_false_iff_ne,ne_eq,decide_eq_decide,decide_eq_true_eq]
     omega
    rw[H,bsn]
    by_cases hg:q.b<o.b∧((k:Int)<i+sx i↔o.b<q.b+sy q.b.toNat)
    ·rw[if_neg (by rw[decide_eq_true_eq];exact fun h=>h hg),fF (by omega)]
     exact Or.inr ⟨fun h=>(hb'.1 h).2.2 hg,O⟩
    rw[if_pos (by rw[decide_eq_true_eq];exact hg)]
    exact Or.inl ⟨hb'.2 ⟨h0.1,h0.2,hg⟩,O⟩
   ·rw[if_neg (by simp only[Bool.and_eq_true,decide_eq_true_eq];exact h0),bsn,if_neg (by simp),fF (by omega)]
    exact Or.inr ⟨fun h=>h0 ⟨(hb'.1 h).1,(hb'.1 h).2.1⟩,rfl⟩) (by
   simp only[mQ]
   rw[if_neg (by rw[la];simp)])
  rcases inner with⟨⟨k,h1,h2,hg⟩,e⟩|⟨hall,e⟩
  ·rw[e,bsn]
   exact Or.inl ⟨⟨k,h1,h2,hg⟩,O⟩
  ·rw[e,bsn]
   exact Or.inr ⟨fun⟨k,h1,h2,hg⟩=>hall k h1 h2 hg,rfl⟩) (by
  simp only[iT]
  rw[if_neg (by rw[la];simp)])
 rcases main with⟨⟨i,_,hi,k,h1,h2,q,o,hq,A,h3,h4,hg⟩,e⟩|⟨hall,e⟩
 ·exact Or.inl ⟨fun h=>hg (h i k q o h1 h2 hq A h3 h4),e⟩
 exact Or.inr ⟨fun i k q o h1 h2 hq A h3 h4=>Classical.byContradiction fun hg=>hall i (Nat.zero_le _) (by omega) ⟨k,h1,h2,q,o,hq,A,h3,h4,hg⟩,e⟩
open Classical in
theorem rvalid_m (a b:Node) (ha:bK a≤100000) (hb:bK b≤100000) (l:List Opn) (I:l.length≤9223372036854775807) (G:∀o∈l,I64 o.a∧I64 o.b):qR a b l=some (decide (Va a b l)):=by
 unfold qR
 have la:((prN a 0 (-1)).map spn).length=bK a:=by rw[List.length_map,zO.1]
 have lb:((prN b 0 (-1)).map spn).length=bK b:=by rw[List.length_map,zO.1]
 rw[Spans_m a ha,bsn,Spans_m b hb,bsn,la,lb,dI (by omega),bsn]
 by_cases h0:bK a+bK b<l.length
 ·rw[if_pos (by simp;omega),decide_eq_false fun h=>by have:=scr_len h.scr;omega]
 rw[if_neg (by simp;omega),mkc_ok (by omega),bsn,xL]
 obtain⟨r,hr,H⟩:=rvloop (bK a) (bK b) l _ _ la lb ha I G
 rw[hr,bsn]
 rcases H with⟨rfl,hn⟩|⟨c,m,rfl,⟨C,hn⟩|⟨C,F,hlen,hM⟩⟩
 ·simp only
  rw[decide_eq_false fun h=>hn ⟨h.scr,h.len⟩]
 ·simp only
  rw[if_pos (by simpa using C),decide_eq_false fun h=>hn ⟨h.scr,h.len⟩]
 simp only
 rw[if_neg (by simpa using C)]
 have h2:=any_loop (body:=fun s=>mP ((prN b 0 (-1)).map spn) (c,m) s) m (fun x=> !x) (.ret false) (.brk ()) (fun k x E=>by
  have hk:=(uR.1 E).1
  rw[hM.1] at hk
  simp only[mP]
  rw[if_pos (by rw[lb];simp;omega),bC E,bsn,fF (by omega),bsn]
  cases x<;>rfl) (by
  simp only[mP]
  rw[if_neg (by rw[lb,hM.1];simp)])
 rw[h2,bsn]
 have hall:=hM.all
 by_cases A:false∈m
 ·rw[if_pos (by simpa using A)]
  simp only
  rw[decide_eq_false fun h=>hall.2 h.sur A]
 rw[if_neg (by simpa using A)]
 simp only
 rcases rploop a b ha hb l F hlen with⟨hn,e⟩|⟨hy,e⟩
 ·rw[e,bsn]
  simp only
  rw[decide_eq_false fun h=>hn h.prs]
 rw[e,bsn]
 simp only
 rw[decide_eq_true ⟨F,hlen,hall.1 A,hy⟩]
def parp (P:List (Node×Int×Nat)) (i:Nat):Int:=match P[i]? with
 |none=> -1
 |some x=>x.2.1
def labp (P:List (Node×Int×Nat)) (i:Nat):Int×ByteArray:=match P[i]? with
 |none=>(0,ByteArray.empty)
 |some x=>(x.1.kind,x.1.text)
theorem at_Q (n:Node) (k:Nat) (h:k<bK n):∃m,(prN n 0 (-1))[k]?=some (m,parp (prN n 0 (-1)) k,k)∧ -1≤parp (prN n 0 (-1)) k∧parp (prN n 0 (-1)) k<k∧labp (prN n 0 (-1)) k=(m.kind,m.text)∧szp (prN n 0 (-1)) k=bK m∧k+bK m≤bK n:=by
 obtain⟨m,q,a1,a2,a3⟩:=szp_le n k h
 have hp:=(pr_at.1 n 0 (-1) k m q k a1).2.2
 have e:parp (prN n 0 (-1)) k=q:=by unfold parp;rw[a1]
 rw[e]
 refine⟨m,a1,by omega,by omega,by unfold labp;rw[a1],a2,a3⟩
theorem spn_get (n:Node) (k:Nat) (h:k<bK n):((prN n 0 (-1)).map spn)[k]?=some ⟨(labp (prN n 0 (-1)) k).1,(labp (prN n 0 (-1)) k).2,((k+szp (prN n 0 (-1)) k:Nat):Int),parp (prN n 0 (-1)) k⟩:=by
 obtain⟨m,e,_,_,e1,e2,_⟩:=at_Q n k h
 rw[xF,e,e1,e2];rfl
theorem nod_get (n:Node) (k:Nat) (h:k<bK n):∃m,(nmb (prN n 0 (-1))).nodes[k]?=some m∧labp (prN n 0 (-1)) k=(m.kind,m.text):=by
 obtain⟨m,e,_,_,e1,_⟩:=at_Q n k h
 exact⟨m,by simp[nmb,e],e1⟩
def ctO (P Q:List (Node×Int×Nat)) (o:Opn):Bool:=decide (o.a<0)||decide (o.b<0)|| !decide (labp P o.a.toNat=labp Q o.b.toNat)
theorem cost_loop (a b:Node) (ha:bK a≤100000) (hb:bK b≤100000) (l:List Opn) (hl:l.length≤200000) (hr:∀o∈l,o.a<bK a∧o.b<bK b):
  dY (fun s=>vS l (nmb (prN a 0 (-1))) (nmb (prN b 0 (-1))) s.1 s.2) (0,0)=some (l.countP (ctO (prN a 0 (-1)) (prN b 0 (-1))):Int)∧
  dY (fun s=>vC l ((prN a 0 (-1)).map spn) ((prN b 0 (-1)).map spn) s.1 s.2) (0,0)=some (l.countP (ctO (prN a 0 (-1)) (prN b 0 (-1))):Int):=by
 have C:∀(i:Nat) (o:Opn),l[i]?=some o→(l.take (i+1)).countP (ctO (prN a 0 (-1)) (prN b 0 (-1)))=(l.take i).countP (ctO (prN a 0 (-1)) (prN b 0 (-1)))+if ctO (prN a 0 (-1)) (prN b 0 (-1)) o=true then 1 else 0:=fun i o A=>by
  rw[jF A,List.countP_append,List.countP_singleton]
 have hle:∀i,(l.take i).countP (ctO (prN a 0 (-1)) (prN b 0 (-1)))≤200000:=fun i=>by
  have:=List.countP_le_length (p:=ctO (prN a 0 (-1)) (prN b 0 (-1))) (l:=l.take i)
  rw[vQ] at this;omega
 constructor
 ·refine aG0 (fun i=>(((l.take i).countP (ctO (prN a 0 (-1)) (prN b 0 (-1))):Int),(i:Int))) l.length (by simp) (fun i hi=>?_) (by simp only[vS];rw[if_neg (by simp),wN (zP _)])
  obtain⟨o,A⟩:=dE hi
  obtain⟨h1,h2⟩:=hr o (vL A)
  have h3:=hle i
  simp only[vS]
  rw[if_pos (by simp;omega),bC A,bsn]
  have e:((if((decide (o.a<0))||(decide (o.b<0)))=true then some true else(idx (nmb (prN a 0 (-1))).nodes o.a).bind fun G=>(idx (nmb (prN b 0 (-1))).nodes o.b).bind fun F=>(nM G F).bind fun E=>some (!E)):Option Bool)=some (ctO (prN a 0 (-1)) (prN b 0 (-1)) o):=by
   unfold ctO
   by_cases h:o.a<0∨o.b<0
   ·rw[if_pos (by simpa using h)]
    congr 1
    rcases h with h|h<;>simp[h]
   rw[if_neg (by simpa using h)]
   obtain⟨m,e1,e2⟩:=nod_get a o.a.toNat (by omega)
   obtain⟨q,e3,e4⟩:=nod_get b o.b.toNat (by omega)
   rw[V4 (by omega) e1,bsn,V4 (by omega) e3,bsn,e2,e4]
   unfold nM
   rw[bsn,decide_eq_false (p:=o.a<0) (by omega),decide_eq_false (p:=o.b<0) (by omega)]
   simp[Prod.mk.injEq]
  rw[e,bsn,C i o A]
  cases ctO (prN a 0 (-1)) (prN b 0 (-1)) o with
  |true=>rw[if_pos rfl,if_pos rfl,dI (by omega),bsn,fF (by omega),bsn];rfl
  |false=>rw[if_neg (by simp),if_neg (by simp),fF (by omega),bsn];rfl
 refine aG0 (fun i=>(((l.take i).countP (ctO (prN a 0 (-1)) (prN b 0 (-1))):Int),(i:Int))) l.length (by simp) (fun i hi=>?_) (by simp only[vC];rw[if_neg (by simp),wN (zP _)])
 obtain⟨o,A⟩:=dE hi
 obtain⟨h1,h2⟩:=hr o (vL A)
 have h3:=hle i
 simp only[vC]
 rw[if_pos (by simp;omega),bC A,bsn,C i o A,show(if ctO (prN a 0 (-1)) (prN b 0 (-1)) o=true then 1 else 0:Nat)=if(decide (o.a<0)||decide (o.b<0)|| !decide (labp (prN a 0 (-1)) o.a.toNat=labp (prN b 0 (-1)) o.b.toNat))=true then 1 else 0 from rfl]
 by_cases h:o.a<0∨o.b<0
 ·rw[if_pos (by simpa using h),bsn,if_pos rfl,bsn,if_pos rfl,dI (by omega),bsn,fF (by omega),bsn,if_pos (by rcases h with h|h<;>simp[h])];rfl
 rw[if_neg (by simpa using h),V4 (by omega) (spn_get a o.a.toNat (by omega)),bsn,V4 (by omega) (spn_get b o.b.toNat (by omega)),bsn,bsn]
 simp only
 by_cases hk:(labp (prN a 0 (-1)) o.a.toNat).1=(labp (prN b 0 (-1)) o.b.toNat).1
 ·rw[if_neg (by simpa using hk),bsn,bsn,bsn]
  simp only
  by_cases ht:(labp (prN a 0 (-1)) o.a.toNat).2=(labp (prN b 0 (-1)) o.b.toNat).2
  ·rw[if_neg (by simpa using ht),fF (by omega),bsn,if_neg (by simp only[Bool.or_eq_true,decide_eq_true_eq,Bool.not_eq_true',decide_eq_false_iff_not,not_or,Decidable.not_not];exact⟨by omega,Prod.ext hk ht⟩)];rfl
  rw[if_pos (by simpa using ht),dI (by omega),bsn,fF (by omega),bsn,if_pos (by simp only[Bool.or_eq_true,decide_eq_true_eq,Bool.not_eq_true',decide_eq_false_iff_not];exact Or.inr fun e=>ht (congrArg Prod.snd e))];rfl
 rw[if_pos (by simpa using hk),bsn,if_pos rfl,dI (by omega),bsn,fF (by omega),bsn,if_pos (by simp only[Bool.or_eq_true,decide_eq_true_eq,Bool.not_eq_true',decide_eq_false_iff_not];exact Or.inr fun e=>hk (congrArg Prod.fst e))];rfl
def cstO (a b:Node) (l:List Opn):Nat:=l.countP (ctO (prN a 0 (-1)) (prN b 0 (-1)))
open Classical in
theorem cost_m (a b:Node) (ha:bK a≤100000) (hb:bK b≤100000) (l:List Opn) (C:l.length≤9223372036854775807) (A:∀o∈l,I64 o.a∧I64 o.b):zI a b l=some (if Va a b l then((cstO a b l:Int),0) else(0,1)):=by
 unfold zI
 rw[valid_m a b ha hb l C A,bsn]
 by_cases h:Va a b l
 ·rw[decide_eq_true h,if_neg (by simp),if_pos h,aG2 a ha,bsn,aG2 b hb,bsn,(cost_loop a b ha hb l (by have:=scr_len h.scr;omega) (scr_rng h.scr)).1];rfl
 rw[decide_eq_false h,if_pos (by rfl),if_neg h]
def alg (a b:Node) (D:List (List Int)) (P B:List Int):Alg:=⟨nmb (prN a 0 (-1)),nmb (prN b 0 (-1)),kM a 0,lefts 0 (po [toT a]),kM b 0,lefts 0 (po [toT b]),D,P,B⟩
section
variable {a b:Node} {D:List (List Int)} {P B:List Int} {ti tk:Tr} {i k:Nat}
theorem P9 (a:Node) {s:Nat} {u:Tr} (h:(po [toT a])[s]?=some u):(lefts 0 (po [toT a]))[s]?=some ((s+1-szT u:Nat):Int):=by
 have:=lefts_get 0 (po [toT a]) s u h
 rwa [Nat.zero_add] at this
theorem aI4 (a:Node) {s:Nat} {u:Tr} (h:(po [toT a])[s]?=some u):∃x:Nat,(kM a 0)[s]?=some (x:Int)∧x<bK a∧labp (prN a 0 (-1)) x=((labT u).kind,(labT u).text)∧szp (prN a 0 (-1)) x=szT u∧∃m,(nmb (prN a 0 (-1))).nodes[x]?=some m∧m.kind=(labT u).kind∧m.text=(labT u).text:=by
 have hs:=vI h
 rw[sO] at hs
 obtain⟨x,C⟩:=dE (l:=kM a 0) (k:=s) (by rw[xI];exact hs)
 obtain⟨m,r,h1,h2,h3⟩:=place_at.1 a 0 (-1) s u x h C
 obtain⟨j,A⟩:=List.mem_iff_getElem?.1 h1
 obtain⟨a1,a2,_⟩:=pr_at.1 a 0 (-1) j m r _ A
 have hlt:=(uR.1 A).1
 rw[zO.1] at hlt
 rw[Nat.zero_add] at a1
 rw[←a1] at A hlt
 have hlab:labT u=⟨m.kind,m.text⟩:=by rw[←h2,toT_eq];rfl
 refine⟨x.toNat,by rw[C];congr 1;omega,hlt,?_,?_,m,?_,?_⟩
 ·unfold labp;rw[A,hlab]
 ·unfold szp;rw[A];simp only;rw[←sO m,h2]
 ·unfold nmb;simp only;rw[xF,A];rfl
 rw[hlab];exact⟨rfl,rfl⟩
theorem relab_m {s t:Nat} {u v:Tr} (hu:(po [toT a])[s]?=some u) (hv:(po [toT b])[t]?=some v):jG (alg a b D P B) (s:Int) (t:Int)=some ((rl (labT u) (labT v):Nat):Int):=by
 obtain⟨x,H,_,_,_,m,G,F,E⟩:=aI4 a hu
 obtain⟨y,y1,_,_,_,n,y2,y3,y4⟩:=aI4 b hv
 unfold jG alg
 simp only
 rw[bC H,bsn,bC G,bsn,bC y1,bsn,bC y2,bsn]
 unfold nM
 rw[bsn,F,E,y3,y4]
 unfold rl
 by_cases h:labT u=labT v
 ·rw[if_pos (by simp[h]),if_pos h];rfl
 rw[if_neg ?_,if_neg h];rfl
 intro hh
 rw[Bool.and_eq_true,decide_eq_true_eq,decide_eq_true_eq] at hh
 apply h
 generalize labT u=A at hh⊢
 generalize labT v=C at hh⊢
 obtain⟨c,d⟩:=A
 obtain⟨e,f⟩:=C
 simp only at hh
 rw[hh.1,hh.2]
structure FQ (ti tk:Tr) (x y:Nat) (f:List (List Int)):Prop where
 rows:f.length=szT ti+1
 cols:∀x' r,x'<x→f[x']?=some r→r.length=szT tk+1
 val:∀x' y',y'≤szT tk→(x'<x∨x'=x∧y'<y)→at2 f x' y'=some ((fd (fr ti x') (fr tk y'):Nat):Int)
theorem FQ.at {x y:Nat} {f:List (List Int)} (h:FQ ti tk x y f) {x' y':Nat} (hy:y'≤szT tk) (A:x'<x∨x'=x∧y'<y):∃r,f[x']?=some r∧r[y']?=some ((fd (fr ti x') (fr tk y'):Nat):Int):=by
 have:=h.val x' y' hy A
 unfold at2 at this
 cases hr:f[x']? with
 |none=>rw[hr] at this;cases this
 |some r=>rw[hr] at this;exact⟨r,rfl,this⟩
variable (ha:bK a≤300) (hb:bK b≤300) (hi:(po [toT a])[i]?=some ti) (hk:(po [toT b])[k]?=some tk) (hD:SubOf a b D)
include ha hb hi hk hD
theorem cell_m {x y:Nat} (J:x≤szT ti) (hy:y≤szT tk) {f:List (List Int)} {X:List Int} (hX:X.length=szT tk+1) {R:List Int} (A:f[x]?=some R) (hRl:R.length=szT tk+1) (hf:FQ ti tk x y f):
  ∃f2 R2,jA (alg a b D P B) ((i+1-szT ti:Nat):Int) ((k+1-szT tk:Nat):Int) (x:Int) X (y:Int) f=some (.next (((y+1:Nat):Int),f2))∧f2[x]?=some R2∧R2.length=szT tk+1∧FQ ti tk x (y+1) f2:=by
 have hsi:=(kX [toT a] hi).1
 have hsk:=(kX [toT b] hk).1
 have hiT:=vI hi
 have hkT:=vI hk
 rw[sO] at hiT hkT
 have fin:∀v:Int,v=((fd (fr ti x) (fr tk y):Nat):Int)→(f.set x (R.set y v))[x]?=some (R.set y v)∧(R.set y v).length=szT tk+1∧FQ ti tk x (y+1) (f.set x (R.set y v)):=by
  intro v hv
  have hxl:=(uR.1 A).1
  refine⟨xT hxl,by rw[List.length_set];exact hRl,by rw[List.length_set];exact hf.rows,fun x' r h1 h2=>?_,fun x' y' h1 h2=>?_⟩
  ·rw[List.getElem?_set_ne (by omega)] at h2;exact hf.cols x' r h1 h2
  obtain⟨w,C⟩:=dE (l:=R) (k:=y) (by omega)
  rw[xP A C]
  split
  ·rename_i hh;obtain⟨rfl,rfl⟩:=hh;rw[hv]
  rename_i hh
  exact hf.val x' y' h1 (by omega)
 obtain⟨w,C⟩:=dE (l:=R) (k:=y) (by omega)
 have sm:∀x' y',x'≤szT ti→y'≤szT tk→fd (fr ti x') (fr tk y')≤x'+y':=fun x' y' h1 h2=>zT ti tk h1 h2
 simp only[jA]
 rw[if_pos (by simp;omega)]
 by_cases h0:x=0∨y=0
 ·rw[if_pos (by simp;omega),bC A,bsn,dI (by omega),bsn,bC C,bsn,fF (by omega),bsn]
  refine⟨_,_,O,fin _ ?_⟩
  rcases h0 with rfl|rfl
  ·rw[xQ,fd_r0,sz_fr tk hy];omega
  rw[xQ,fd_l0,sz_fr ti J];omega
 rw[if_neg (by simp;omega)]
 obtain⟨x,rfl⟩:∃x',x=x'+1:=⟨x-1,by omega⟩
 obtain⟨y,rfl⟩:∃y',y=y'+1:=⟨y-1,by omega⟩
 obtain⟨u,hu⟩:=dE (l:=po [ti]) (k:=x) (by rw[uD];omega)
 obtain⟨u',hu'⟩:=dE (l:=po [tk]) (k:=y) (by rw[uD];omega)
 have hA:(po [toT a])[i+1-szT ti+x]?=some u:=by rw[←aI7 hi (by omega)];exact hu
 have hB:(po [toT b])[k+1-szT tk+y]?=some u':=by rw[←aI7 hk (by omega)];exact hu'
 have su:=(kX [ti] hu).1
 have su':=(kX [tk] hu').1
 have pu:=pR u
 have pu':=pR u'
 have hcell:=fd_fr ti tk (x:=x) (y:=y) (by omega) (by omega) hu hu'
 obtain⟨r1,a1,a2⟩:=hf.at (x':=x) (y':=y+1) hy (Or.inl (by omega))
 obtain⟨r2,b1,b2⟩:=hf.at (x':=x+1) (y':=y) (by omega) (Or.inr ⟨O,by omega⟩)
 rw[A] at b1
 obtain rfl:=wD b1
 have s1:=sm x (y+1) (by omega) (by omega)
 have s2:=sm (x+1) y (by omega) (by omega)
 have s3:=sm x y (by omega) (by omega)
 have lA:=P9 a hA
 have lB:=P9 b hB
 have rel:=relab_m (D:=D) (P:=P) (B:=B) hA hB
 generalize hp:i+1-szT ti=p at*
 generalize hq:k+1-szT tk=q at*
 have ep:(p:Int)+((x+1:Nat):Int)=((p+x+1:Nat):Int):=by omega
 have eq:(q:Int)+((y+1:Nat):Int)=((q+y+1:Nat):Int):=by omega
 have ep0:((p+x+1:Nat):Int)-1=((p+x:Nat):Int):=by omega
 have eq0:((q+y+1:Nat):Int)-1=((q+y:Nat):Int):=by omega
 have I:((x+1:Nat):Int)-1=(x:Int):=by omega
 have ey0:((y+1:Nat):Int)-1=(y:Int):=by omega
 have eL:(alg a b D P B).leftA=lefts 0 (po [toT a]):=rfl
 have eR:(alg a b D P B).leftB=lefts 0 (po [toT b]):=rfl
 have hep:inK .i64 ((p:Int)+((x+1:Nat):Int))=some ((p+x+1:Nat):Int):=by rw[dI (by omega),ep]
 have heq:inK .i64 ((q:Int)+((y+1:Nat):Int))=some ((q+y+1:Nat):Int):=by rw[dI (by omega),eq]
 have hep0:inK .i64 (((p+x+1:Nat):Int)-1)=some ((p+x:Nat):Int):=by rw[dI (by omega),ep0]
 have heq0:inK .i64 (((q+y+1:Nat):Int)-1)=some ((q+y:Nat):Int):=by rw[dI (by omega),eq0]
 have hex0:inK .i64 (((x+1:Nat):Int)-1)=some (x:Int):=by rw[dI (by omega),I]
 have hey0:inK .i64 (((y+1:Nat):Int)-1)=some (y:Int):=by rw[dI (by omega),ey0]
 have hey1:inK .i64 (((y+1:Nat):Int)+1)=some ((y+1+1:Nat):Int):=fF (by omega)
 rw[hep,bsn,hep0,bsn,eL,bC lA,bsn]
 have hcond:((if(decide ((((p+x)+1-szT u:Nat):Int)=(p:Int)))=true then
   (inK .i64 ((q:Int)+((y+1:Nat):Int))).bind fun H=>(inK .i64 (H-1)).bind fun G=>(idx (alg a b D P B).leftB G).bind fun F=>some (decide (F=(q:Int)))
  else some false):Option Bool)=some (decide (szT u=x+1∧szT u'=y+1)):=by
  rw[heq,bsn,heq0,bsn,eR,bC lB,bsn]
  by_cases g1:szT u=x+1
  ·rw[if_pos (by simp;omega)]
   congr 1
   exact decide_eq_decide.2 (by omega)
  rw[if_neg (by simp;omega),decide_eq_false (by omega)]
 rw[hcond,bsn]
 by_cases E:szT u=x+1∧szT u'=y+1
 ·rw[if_pos (by simpa using E)]
  rw[if_pos E] at hcell
  obtain⟨r3,c1,c2⟩:=hf.at (x':=x) (y':=y) (by omega) (Or.inl (by omega))
  rw[a1] at c1
  obtain rfl:=wD c1
  have rle:=rl_le (labT u) (labT u')
  simp only[bsn,bC A,hex0,bC a1,bC a2,hey0,bC b2,bC c2,hep,hep0,heq,heq0,rel,bC C,hey1]
  rw[dI (by omega),bsn,dI (by omega),bsn,dI (by omega),bsn]
  exact⟨_,_,O,fin _ (by rw[hcell];omega)⟩
 rw[if_neg (by simpa using E)]
 rw[if_neg E] at hcell
 obtain⟨r3,c1,c2⟩:=hf.at (x':=x+1-szT u) (y':=y+1-szT u') (by omega) (Or.inl (by omega))
 obtain⟨n1,m1,m2,_⟩:=aI4 a hA
 obtain⟨n2,k1,k2,_⟩:=aI4 b hB
 have hv:=hD.val _ _ _ _ _ _ hA hB m1 k1
 rw[xL,xL] at hv
 obtain⟨r4,v4,d1,d2,d3,_⟩:=hD.dim.get m2 k2
 rw[d3] at hv
 have s4:=sm (x+1-szT u) (y+1-szT u') (by omega) (by omega)
 have s5:=aE6 [u] [] [] [u']
 simp only[List.append_nil,List.nil_append] at s5
 rw[fd_l0,fd_r0,H6,H6] at s5
 have hu1:inK .i64 (((p+x+1-szT u:Nat):Int)-(p:Int))=some ((x+1-szT u:Nat):Int):=by rw[dI (by omega)];congr 1;omega
 have hu2:inK .i64 (((q+y+1-szT u':Nat):Int)-(q:Int))=some ((y+1-szT u':Nat):Int):=by rw[dI (by omega)];congr 1;omega
 have eo:(alg a b D P B).orderA=kM a 0:=rfl
 have eo':(alg a b D P B).orderB=kM b 0:=rfl
 have ed:(alg a b D P B).distances=D:=rfl
 simp only[bsn,bC A,hex0,bC a1,bC a2,hey0,bC b2,hep,hep0,heq,heq0,bC lA,eR,bC lB,hu1,hu2,bC c1,bC c2,eo,eo',ed,bC m1,bC d1,bC k1,bC d2,wD hv,bC C,hey1]
 rw[dI (by omega),bsn,dI (by omega),bsn,dI (by omega),bsn]
 exact⟨_,_,O,fin _ (by rw[hcell];omega)⟩
theorem forests_m:∃f,oM (alg a b D P B) (i:Int) (k:Int)=some f∧FQ ti tk (szT ti+1) 0 f:=by
 have hsi:=(kX [toT a] hi).1
 have hsk:=(kX [toT b] hk).1
 have hiT:=vI hi
 have hkT:=vI hk
 rw[sO] at hiT hkT
 have eL:(alg a b D P B).leftA=lefts 0 (po [toT a]):=rfl
 have eR:(alg a b D P B).leftB=lefts 0 (po [toT b]):=rfl
 unfold oM
 rw[eL,bC (P9 a hi),bsn,eR,bC (P9 b hk),bsn,dI (by omega),bsn,dI (by omega),bsn,mkc_ok (by omega),bsn]
 rw[show((i:Int)-((i+1-szT ti:Nat):Int)+2).toNat=szT ti+1 by omega]
 obtain⟨f,h1,h2⟩:=mJ (body:=fun s=>kT (alg a b D P B) (k:Int) ((i+1-szT ti:Nat):Int) ((k+1-szT tk:Nat):Int) (List.replicate (szT ti+1) ([]:List Int)) s.1 s.2) (fun x s=>s.1=(x:Int)∧FQ ti tk x 0 s.2) (fun f=>FQ ti tk (szT ti+1) 0 f) (szT ti+1) 0 (0,List.replicate (szT ti+1) [])
  ⟨O,by simp,fun x' r h=>by omega,fun x' y' _ h=>by omega⟩
  (by
   rintro x ⟨e,f⟩ _ hx ⟨h1,h2⟩
   simp only at h1 h2
   subst h1
   obtain⟨r0,hr0⟩:=dE (l:=f) (k:=x) (by rw[h2.rows];omega)
   have hlt:=(uR.1 hr0).1
   simp only[kT]
   rw[if_pos (by simp;omega),dI (by omega),bsn,dI (by omega),bsn,mkc_ok (by omega),bsn,bC hr0,bsn]
   rw[show((k:Int)-((k+1-szT tk:Nat):Int)+2).toNat=szT tk+1 by omega,xL,bC (a:=List.replicate (szT tk+1) (0:Int)) (xT hlt),bsn]
   have h20:FQ ti tk x 0 (f.set x (List.replicate (szT tk+1) (0:Int))):=by
    refine⟨by rw[List.length_set];exact h2.rows,fun x' r g1 g2=>?_,fun x' y' g1 g2=>?_⟩
    ·rw[List.getElem?_set_ne (by omega)] at g2;exact h2.cols x' r g1 g2
    have:=h2.val x' y' g1 (by omega)
    unfold at2 at this⊢
    rw[List.getElem?_set_ne (by omega)];exact this
   obtain⟨f3,g1,g2,g3⟩:=mJ (body:=fun s=>jA (alg a b D P B) ((i+1-szT ti:Nat):Int) ((k+1-szT tk:Nat):Int) (x:Int) (List.replicate (szT tk+1) (0:Int)) s.1 s.2) (fun y s=>s.1=(y:Int)∧(∃R,s.2[x]?=some R∧R.length=szT tk+1)∧FQ ti tk x y s.2) (fun f=>(∃R,f[x]?=some R∧R.length=szT tk+1)∧FQ ti tk x (szT tk+1) f) (szT tk+1) 0 (0,f.set x (List.replicate (szT tk+1) (0:Int)))
    ⟨O,⟨_,xT hlt,by simp⟩,h20⟩
    (by
     rintro y ⟨e,g⟩ _ hy ⟨e1,⟨R,e2,e3⟩,e4⟩
     simp only at e1 e2 e3 e4
     subst e1
     obtain⟨f2,R2,k1,k2,k3,k4⟩:=cell_m (P:=P) (B:=B) ha hb hi hk hD (x:=x) (y:=y) (by omega) (by omega) (X:=List.replicate (szT tk+1) (0:Int)) (by simp) e2 e3 e4
     exact⟨_,k1,O,⟨R2,k2,k3⟩,k4⟩)
    (by
     rintro⟨e,g⟩ ⟨e1,e2,e4⟩
     simp only at e1 e2 e4
     rw[Nat.zero_add] at e1 e4
     subst e1
     refine⟨g,?_,e2,e4⟩
     simp only[jA]
     rw[if_neg (by simp)])
   obtain⟨R,g2,g4⟩:=g2
   rw[g1,bsn,fF (by omega),bsn]
   refine⟨_,O,O,g3.rows,fun x' r k1 k2=>?_,fun x' y' k1 k2=>g3.val x' y' k1 (by omega)⟩
   rcases xV x' x with k3|k3
   ·exact g3.cols x' r k3 k2
   rw[show x'=x by omega,g2] at k2
   rw[←wD k2];exact g4)
  (by
   rintro⟨e,f⟩ ⟨h1,h2⟩
   simp only at h1 h2
   rw[Nat.zero_add] at h1 h2
   subst h1
   refine⟨f,?_,h2⟩
   simp only[kT]
   rw[if_neg (by simp)])
 rw[h1]
 exact⟨f,O,h2⟩
end
def wr (L:List (Nat×Int)) (P:List Int):List Int:=L.foldl (fun P x=>P.set x.1 x.2) P
theorem wr_len:∀(L:List (Nat×Int)) (P:List Int),(wr L P).length=P.length
 | [],_=>rfl
 |x::L,P=>by
  have:=wr_len L (P.set x.1 x.2)
  rw[List.length_set] at this
  exact this
theorem wr_app (L M:List (Nat×Int)) (P:List Int):wr (L++M) P=wr M (wr L P):=by unfold wr;rw[List.foldl_append]
def nA (a:Node) (s:Nat):Int:=((kM a 0)[s]?).getD 0
def lbT (a:Node) (s:Nat):Lbl:=(((po [toT a])[s]?).map labT).getD ⟨0,ByteArray.empty⟩
def wP (a b:Node) (M:List (Nat×Nat)) (P:List Int):List Int:=wr (M.map fun m=>((nA a m.1).toNat,nA b m.2)) P
def wB (a b:Node) (M:List (Nat×Nat)) (P:List Int):List Int:=wr (M.map fun m=>((nA b m.2).toNat,nA a m.1)) P
theorem wP_len (a b:Node) (M:List (Nat×Nat)) (P:List Int):(wP a b M P).length=P.length:=wr_len _ _
theorem wB_len (a b:Node) (M:List (Nat×Nat)) (P:List Int):(wB a b M P).length=P.length:=wr_len _ _
theorem wP_app (a b:Node) (M N:List (Nat×Nat)) (P:List Int):wP a b (M++N) P=wP a b N (wP a b M P):=by unfold wP;rw[List.map_append,wr_app]
theorem wB_app (a b:Node) (M N:List (Nat×Nat)) (P:List Int):wB a b (M++N) P=wB a b N (wB a b M P):=by unfold wB;rw[List.map_append,wr_app]
def cs (a b:Node) (M:List (Nat×Nat)):Nat:=(M.map fun m=>rl (lbT a m.1) (lbT b m.2)).sum
theorem cs_app (a b:Node) (M N:List (Nat×Nat)):cs a b (M++N)=cs a b M+cs a b N:=by unfold cs;rw[List.map_append,List.sum_append]
def Cp (a b:Node) (m m':Nat×Nat):Prop:=m'.1<m.1∧m'.2<m.2∧(lf (toT a) m.1≤m'.1↔lf (toT b) m.2≤m'.2)
structure PM (a b:Node) (i k:Nat) (ti tk:Tr) (M:List (Nat×Nat)):Prop where
 rng:∀m∈M,i+1-szT ti≤lf (toT a) m.1∧m.1≤i∧k+1-szT tk≤lf (toT b) m.2∧m.2≤k
 pw:M.Pairwise (Cp a b)
 cost:fd [ti] [tk]+2*M.length=szT ti+szT tk+cs a b M
structure IM (a b:Node) (i k:Nat) (ti tk:Tr) (x y:Nat) (M:List (Nat×Nat)):Prop where
 rng:∀m∈M,i+1-szT ti≤lf (toT a) m.1∧i+1-szT ti+x≤m.1∧m.1≤i∧k+1-szT tk≤lf (toT b) m.2∧k+1-szT tk+y≤m.2∧m.2≤k∧
  ((lf (toT a) m.1≤i+1-szT ti∧lf (toT b) m.2≤k+1-szT tk)∨(i+1-szT ti+x≤lf (toT a) m.1∧k+1-szT tk+y≤lf (toT b) m.2))
 pw:M.Pairwise (Cp a b)
 cost:fd [ti] [tk]+2*M.length=fd (fr ti x) (fr tk y)+(szT ti-x)+(szT tk-y)+cs a b M
section
variable {a b:Node} {D:List (List Int)} {ti tk:Tr} {i k:Nat}
theorem lf_in {T:Tr} {u:Tr} {s m:Nat} (h:(po [T])[s]?=some u) (h1:s+1-szT u≤m) (h2:m≤s):s+1-szT u≤lf T m:=by
 have hs:=vI h
 rw[←yV h] at h1⊢
 rcases xV m s with h3|h3
 ·rcases laminar h3 hs with h4|h4<;>omega
 rw[show m=s by omega];exact zP _
theorem min3 {c p q d:Nat} (h:c=min (p+1) (min (q+1) d)) (h1:¬c=p+1) (h2:¬c=q+1):c=d:=by omega
set_option maxHeartbeats 1000000 in
theorem pair_r (ha:bK a≤300) (hb:bK b≤300) (hD:SubOf a b D):∀(f:Nat) (i k:Nat) (ti tk:Tr) (P B:List Int),(po [toT a])[i]?=some ti→(po [toT b])[k]?=some tk→i+k+1≤f→P.length=bK a→B.length=bK b→
  ∃M,jV f (alg a b D P B) (i:Int) (k:Int)=some (alg a b D (wP a b M P) (wB a b M B))∧PM a b i k ti tk M:=by
 intro f
 induction f with
 |zero=>intro i k ti tk P B _ _ h;omega
 |succ f ih=>
  intro i k ti tk P B hi hk hfu hP hB
  have hsi:=(kX [toT a] hi).1
  have hsk:=(kX [toT b] hk).1
  have hiT:=vI hi
  have hkT:=vI hk
  rw[sO] at hiT hkT
  have pti:=pR ti
  have ptk:=pR tk
  have eL:∀P B,(alg a b D P B).leftA=lefts 0 (po [toT a]):=fun _ _=>rfl
  have eR:∀P B,(alg a b D P B).leftB=lefts 0 (po [toT b]):=fun _ _=>rfl
  have eOA:∀P B,(alg a b D P B).orderA=kM a 0:=fun _ _=>rfl
  have eOB:∀P B,(alg a b D P B).orderB=kM b 0:=fun _ _=>rfl
  have ePt:∀P B,(alg a b D P B).partner=P:=fun _ _=>rfl
  have eBk:∀P B,(alg a b D P B).back=B:=fun _ _=>rfl
  have emk:∀P B P' B',Alg.mk (alg a b D P B).a (alg a b D P B).b (alg a b D P B).orderA (alg a b D P B).leftA (alg a b D P B).orderB (alg a b D P B).leftB (alg a b D P B).distances P' B'=alg a b D P' B':=fun _ _ _ _=>rfl
  obtain⟨F,hF,hq⟩:=forests_m (P:=P) (B:=B) ha hb hi hk hD
  obtain⟨R0,hR0,_⟩:=hq.at (x':=0) (y':=0) (Nat.zero_le _) (Or.inl (by omega))
  have hR0l:=hq.cols 0 R0 (by omega) hR0
  have cell:∀x y,x≤szT ti→y≤szT tk→∃r,F[x]?=some r∧r[y]?=some ((fd (fr ti x) (fr tk y):Nat):Int):=fun x y h1 h2=>hq.at h2 (Or.inl (by omega))
  have sm:∀x' y',x'≤szT ti→y'≤szT tk→fd (fr ti x') (fr tk y')≤x'+y':=fun x' y' h1 h2=>zT ti tk h1 h2
  obtain⟨r,h1,M,rfl,hM⟩:=aO0 (body:=fun s=>jO (alg a b D P B) (jV f) ((i+1-szT ti:Nat):Int) ((k+1-szT tk:Nat):Int) F s.1 s.2.1 s.2.2.1 s.2.2.2)
   (fun s=>∃(x y:Nat) (M:List (Nat×Nat)),s=((x:Int),(y:Int),wP a b M P,wB a b M B)∧x≤szT ti∧y≤szT tk∧IM a b i k ti tk x y M) (fun s=>s.1.toNat+s.2.1.toNat)
   (fun r=>∃M,r=(wP a b M P,wB a b M B)∧PM a b i k ti tk M)
   (by
    rintro _ ⟨x,y,M,rfl,R,hy,hM⟩
    by_cases h0:x=0∨y=0
    ·right
     refine⟨_,by simp only[jO];rw[if_neg (by simp;omega)],M,O,fun m A=>?_,hM.pw,?_⟩
     ·have:=hM.rng m A;omega
     have:=hM.cost
     rcases h0 with rfl|rfl
     ·rw[xQ,fd_r0,sz_fr tk hy] at this;omega
     rw[xQ,fd_l0,sz_fr ti R] at this;omega
    left
    obtain⟨x,rfl⟩:∃x',x=x'+1:=⟨x-1,by omega⟩
    obtain⟨y,rfl⟩:∃y',y=y'+1:=⟨y-1,by omega⟩
    obtain⟨u,hu⟩:=dE (l:=po [ti]) (k:=x) (by rw[uD];omega)
    obtain⟨u',hu'⟩:=dE (l:=po [tk]) (k:=y) (by rw[uD];omega)
    have hA:(po [toT a])[i+1-szT ti+x]?=some u:=by rw[←aI7 hi (by omega)];exact hu
    have hB':(po [toT b])[k+1-szT tk+y]?=some u':=by rw[←aI7 hk (by omega)];exact hu'
    have su:=(kX [ti] hu).1
    have su':=(kX [tk] hu').1
    have pu:=pR u
    have pu':=pR u'
    have hcell:=fun h1 h2=>min3 (fd_fr ti tk (x:=x) (y:=y) (by omega) (by omega) hu hu') h1 h2
    have rle:=rl_le (labT u) (labT u')
    obtain⟨r0,z1,z2⟩:=cell (x+1) (y+1) (by omega) (by omega)
    obtain⟨r1,a1,a2⟩:=cell x (y+1) (by omega) (by omega)
    obtain⟨r2,b1,b2⟩:=cell (x+1) y (by omega) (by omega)
    rw[z1] at b1
    obtain rfl:=wD b1
    obtain⟨r3,c1,c2⟩:=cell x y (by omega) (by omega)
    rw[a1] at c1
    obtain rfl:=wD c1
    have s1:=sm x (y+1) (by omega) (by omega)
    have s2:=sm (x+1) y (by omega) (by omega)
    have s3:=sm x y (by omega) (by omega)
    have lA:=P9 a hA
    have lB:=P9 b hB'
    have fA:=yV hA
    have fB:=yV hB'
    have rel:=relab_m (D:=D) (P:=wP a b M P) (B:=wB a b M B) hA hB'
    obtain⟨n1,m1,m2,_⟩:=aI4 a hA
    obtain⟨n2,k1,k2,_⟩:=aI4 b hB'
    have inA:=fun m h1 h2=>lf_in (m:=m) hA h1 h2
    have inB:=fun m h1 h2=>lf_in (m:=m) hB' h1 h2
    have hcs:cs a b [(i+1-szT ti+x,k+1-szT tk+y)]=rl (labT u) (labT u'):=by
     unfold cs lbT;simp only[List.map_cons,List.map_nil,List.sum_cons,List.sum_nil];rw[hA,hB'];rfl
    have hnA:nA a (i+1-szT ti+x)=(n1:Int):=by unfold nA;rw[m1];rfl
    have hnB:nA b (k+1-szT tk+y)=(n2:Int):=by unfold nA;rw[k1];rfl
    have hrng:=hM.rng
    have hcost:=hM.cost
    have ihr:=ih (i+1-szT ti+x) (k+1-szT tk+y) u u' (wP a b M P) (wB a b M B) hA hB'
    generalize hp:i+1-szT ti=p at*
    generalize hqq:k+1-szT tk=q at*
    have hep:inK .i64 ((p:Int)+((x+1:Nat):Int))=some ((p+x+1:Nat):Int):=by rw[dI (by omega)];congr 1
    have heq:inK .i64 ((q:Int)+((y+1:Nat):Int))=some ((q+y+1:Nat):Int):=by rw[dI (by omega)];congr 1
    have hep0:inK .i64 (((p+x+1:Nat):Int)-1)=some ((p+x:Nat):Int):=by rw[dI (by omega)];congr 1;omega
    have heq0:inK .i64 (((q+y+1:Nat):Int)-1)=some ((q+y:Nat):Int):=by rw[dI (by omega)];congr 1;omega
    have hex0:inK .i64 (((x+1:Nat):Int)-1)=some (x:Int):=by rw[dI (by omega)];congr 1;omega
    have hey0:inK .i64 (((y+1:Nat):Int)-1)=some (y:Int):=by rw[dI (by omega)];congr 1;omega
    simp only[jO]
    rw[if_pos (by simp),emk,hep,bsn,hep0,bsn,heq,bsn,heq0,bsn,eL,bC lA,bsn]
    have hcond:((if(decide ((((p+x)+1-szT u:Nat):Int)=(p:Int)))=true then(idx (alg a b D P B).leftB ((q+y:Nat):Int)).bind fun Q=>some (decide (Q=(q:Int))) else some false):Option Bool)=some (decide (szT u=x+1∧szT u'=y+1)):=by
     rw[eR,bC lB,bsn]
     by_cases g1:szT u=x+1
     ·rw[if_pos (by simp;omega)]
      congr 1
      exact decide_eq_decide.2 (by omega)
     rw[if_neg (by simp;omega),decide_eq_false (by omega)]
    rw[hcond,bsn]
    have hm2:((if decide (szT u=x+1∧szT u'=y+1)=true then(idx F ((x+1:Nat):Int)).bind fun N=>(idx N ((y+1:Nat):Int)).bind fun L=>(inK .i64 (((x+1:Nat):Int)-1)).bind fun K=>(idx F K).bind fun J=>(inK .i64 (((y+1:Nat):Int)-1)).bind fun I=>(idx J I).bind fun H=>(jG (alg a b D (wP a b M P) (wB a b M B)) ((p+x:Nat):Int) ((q+y:Nat):Int)).bind fun G=>(inK .i64 (H+G)).bind fun E=>some (decide (L=E)) else some false):Option Bool)=
      some (decide ((szT u=x+1∧szT u'=y+1)∧fd (fr ti (x+1)) (fr tk (y+1))=fd (fr ti x) (fr tk y)+rl (labT u) (labT u'))):=by
     by_cases C:szT u=x+1∧szT u'=y+1
     ·rw[if_pos (by simpa using C),bC z1,bsn,bC z2,bsn,hex0,bsn,bC a1,bsn,hey0,bsn,bC c2,bsn,rel,bsn,dI (by omega),bsn]
      congr 1
      exact decide_eq_decide.2 (by omega)
     rw[if_neg (by simpa using C),decide_eq_false (fun h=>C h.1)]
    rw[hm2,bsn]
    by_cases hmt:(szT u=x+1∧szT u'=y+1)∧fd (fr ti (x+1)) (fr tk (y+1))=fd (fr ti x) (fr tk y)+rl (labT u) (labT u')
    ·
     obtain⟨v1,w1⟩:=dE (l:=wP a b M P) (k:=n1) (by rw[wP_len,hP];exact m2)
     obtain⟨v2,w2⟩:=dE (l:=wB a b M B) (k:=n2) (by rw[wB_len,hB];exact k2)
     rw[if_pos (by simpa using hmt),eOA,bC m1,bsn,eOB,bC k1,bsn,bsn,bsn,bC w1,bsn,bC w2,bsn,hex0,bsn,hey0,bsn]
     refine⟨_,O,⟨x,y,M++[(p+x,q+y)],?_,by omega,by omega,⟨fun m A=>?_,?_,?_⟩⟩,by simp only;omega⟩
     ·rw[wP_app,wB_app]
      unfold wP wB wr
      simp only[List.map_cons,List.map_nil,List.foldl_cons,List.foldl_nil,hnA,hnB]
     ·rw[hp,hqq]
      rcases List.mem_append.1 A with A|A
      ·have:=hrng m A;omega
      rw[List.mem_singleton.1 A];simp only;omega
     ·rw[List.pairwise_append]
      refine⟨hM.pw,List.pairwise_singleton _ _,fun m A m' hm'=>?_⟩
      rw[List.mem_singleton.1 hm']
      have:=hrng m A
      refine⟨by simp only;omega,by simp only;omega,?_⟩
      simp only;omega
     rw[cs_app,hcs,uW,List.length_singleton];omega
    rw[if_neg (by simpa using hmt),bC z1,bsn,bC z2,bsn,hex0,bsn,bC a1,bsn,bC a2,bsn,dI (by omega),bsn]
    by_cases hd1:fd (fr ti (x+1)) (fr tk (y+1))=fd (fr ti x) (fr tk (y+1))+1
    ·rw[if_pos (by simp;omega),bsn]
     refine⟨_,O,⟨x,y+1,M,O,by omega,by omega,⟨fun m A=>?_,hM.pw,by omega⟩⟩,by simp only;omega⟩
     rw[hp,hqq]
     have:=hrng m A;omega
    rw[if_neg (by simp;omega)]
    simp only[bsn,bC z2,hey0,bC b2]
    rw[dI (by omega),bsn]
    by_cases hd2:fd (fr ti (x+1)) (fr tk (y+1))=fd (fr ti (x+1)) (fr tk y)+1
    ·rw[if_pos (by simp;omega)]
     refine⟨_,O,⟨x+1,y,M,O,by omega,by omega,⟨fun m A=>?_,hM.pw,by omega⟩⟩,by simp only;omega⟩
     rw[hp,hqq]
     have:=hrng m A;omega
    have hdef:=hcell hd1 hd2
    have hnw:¬(szT u=x+1∧szT u'=y+1):=fun C=>by
     rw[if_pos C] at hdef
     exact hmt ⟨C,hdef⟩
    rw[if_neg hnw] at hdef
    rw[if_neg (by simp;omega)]
    clear hcell hmt hd1 hd2 s1 s2 s3 rle hcs
    obtain⟨M',j1,j2⟩:=ihr (by
     rcases xV (p+x) i with h|h
     ·omega
     rcases xV (q+y) k with h'|h'
     ·omega
     exfalso
     have e1:p+x=i:=by omega
     have e2:q+y=k:=by omega
     rw[e1,hi] at hA
     rw[e2,hk] at hB'
     have:=wD hA
     have:=wD hB'
     subst ti tk
     omega) (by rw[wP_len,hP]) (by rw[wB_len,hB])
    rw[j1,bsn,dI (by omega),bsn,eR,bC lB,bsn,dI (by omega),bsn,ePt,eBk]
    have jr:=j2.rng
    have jc:=j2.cost
    refine⟨_,O,⟨x+1-szT u,y+1-szT u',M++M',?_,by omega,by omega,⟨fun m A=>?_,?_,?_⟩⟩,by simp only;omega⟩
    ·rw[wP_app,wB_app,show((p+x+1-szT u:Nat):Int)-(p:Int)=((x+1-szT u:Nat):Int) by omega,show((q+y+1-szT u':Nat):Int)-(q:Int)=((y+1-szT u':Nat):Int) by omega]
    ·rw[hp,hqq]
     clear hdef hcost jc
     rcases List.mem_append.1 A with A|A
     ·have:=hrng m A;omega
     have:=jr m A
     have g1:=lf_le (T:=toT a) (s:=m.1) (by rw[sO];omega)
     have g2:=lf_le (T:=toT b) (s:=m.2) (by rw[sO];omega)
     omega
    ·rw[List.pairwise_append]
     clear hdef hcost jc
     refine⟨hM.pw,j2.pw,fun m A m' hm'=>?_⟩
     have h1:=hrng m A
     have h2:=jr m' hm'
     have g1:=lf_le (T:=toT a) (s:=m'.1) (by rw[sO];omega)
     have g2:=lf_le (T:=toT b) (s:=m'.2) (by rw[sO];omega)
     exact⟨by omega,by omega,by omega⟩
    rw[cs_app,uW];omega)
   ((szT ti:Int),(szT tk:Int),P,B) ⟨szT ti,szT tk,[],O,zP _,zP _,⟨by simp,List.Pairwise.nil,by rw[fr_full,fr_full];simp[cs]⟩⟩
  refine⟨M,?_,hM⟩
  unfold jV qM
  rw[eL,bC (P9 a hi),bsn,eR,bC (P9 b hk),bsn,hF,bsn,dI (by rw[hq.rows];omega),bsn,show(0:Int)=((0:Nat):Int) from rfl,bC hR0,bsn,dI (by rw[hR0l];omega),bsn,hq.rows,hR0l,show((szT ti+1:Nat):Int)-1=(szT ti:Int) by omega,show((szT tk+1:Nat):Int)-1=(szT tk:Int) by omega,ePt,eBk,h1]
  rfl
end
def bfB (p q:Opn):Bool:=(decide (0≤p.a)&&(decide (q.a<0)||decide (p.a<q.a)))||(decide (p.a<0)&&decide (q.a<0)&&decide (p.b<q.b))
theorem bf_iff (p q:Opn):bfB p q=true↔(0≤p.a∧(q.a<0∨p.a<q.a))∨(p.a<0∧q.a<0∧p.b<q.b):=by
 simp[bfB,and_assoc]
theorem bn_iff (p q:Opn):bfB p q=false↔¬((0≤p.a∧(q.a<0∨p.a<q.a))∨(p.a<0∧q.a<0∧p.b<q.b)):=by
 rw[←bf_iff,Bool.not_eq_true]
def av (L:List Opn) (i:Nat):Opn:=(L[i]?).getD ⟨0,0⟩
structure Rg (L L':List Opn) (a b:Nat):Prop where
 len:L'.length=L.length
 perm:L'.Perm L
 out:∀t,t<a∨b≤t→av L' t=av L t
 pres:∀P:Opn→Prop,(∀t,a≤t→t<b→P (av L t))→∀t,a≤t→t<b→P (av L' t)
theorem Rg.tr {L L' L'':List Opn} {a b:Nat} (h1:Rg L L' a b) (h2:Rg L' L'' a b):Rg L L'' a b:=
 ⟨h2.len.trans h1.len,h2.perm.trans h1.perm,fun t h=>(h2.out t h).trans (h1.out t h),fun P h=>h2.pres P (h1.pres P h)⟩
theorem Rg.mono {L L':List Opn} {a b c d:Nat} (h:Rg L L' c d) (h1:a≤c) (h2:d≤b):Rg L L' a b:=
 ⟨h.len,h.perm,fun t ht=>h.out t (by omega),fun P A t h3 h4=>by
  by_cases ht:c≤t∧t<d
  ·exact h.pres P (fun s h5 h6=>A s (by omega) (by omega)) t ht.1 ht.2
  rw[h.out t (by omega)];exact A t h3 h4⟩
def Srt (L:List Opn) (a b:Nat):Prop:=∀s t,a≤s→s<t→t<b→bfB (av L t) (av L s)=false
theorem Srt.of {L L':List Opn} {a b:Nat} (h:Srt L a b) (e:∀t,a≤t→t<b→av L' t=av L t):Srt L' a b:=fun s t h1 h2 h3=>by
 rw[e s h1 (by omega),e t (by omega) h3];exact h s t h1 h2 h3
structure St (nx ny:Nat) (sx sy:Nat→Nat) (l:List Opn):Prop where
 rng:∀o∈l,-1≤o.a∧o.a<nx∧ -1≤o.b∧o.b<ny∧(0≤o.a∨0≤o.b)
 dis:l.Pairwise fun p q=>(0≤p.a→p.a≠q.a)∧(0≤p.b→p.b≠q.b)
 sua:∀c:Nat,c<nx→∃o∈l,o.a=c
 sub:∀c:Nat,c<ny→∃o∈l,o.b=c
 tr:∀p∈l,∀q∈l,0≤p.a→p.a<q.a→0≤p.b→0≤q.b→p.b<q.b∧(q.a<p.a+sx p.a.toNat↔q.b<p.b+sy p.b.toNat)
def Le (p q:Opn):Prop:=bfB q p=false
theorem pw_eq {R:Opn→Opn→Prop} {l:List Opn} (h:l.Pairwise R) {p q:Opn} (C:p∈l) (hq:q∈l):p=q∨R p q∨R q p:=by
 obtain⟨i,hi,rfl⟩:=List.mem_iff_getElem.1 C
 obtain⟨j,A,rfl⟩:=List.mem_iff_getElem.1 hq
 have h:=xS.1 h
 rcases Nat.lt_trichotomy i j with e|e|e
 ·exact Or.inr (Or.inl (h i j hi A e))
 ·subst e;exact Or.inl rfl
 exact Or.inr (Or.inr (h j i A hi e))
theorem St.ea {nx ny:Nat} {sx sy:Nat→Nat} {l:List Opn} (h:St nx ny sx sy l) {p q:Opn} (A:p∈l) (hq:q∈l) (h0:0≤p.a) (e:p.a=q.a):p=q:=by
 rcases pw_eq h.dis A hq with k|k|k
 ·exact k
 ·exact absurd e (k.1 h0)
 exact absurd e.symm (k.1 (by omega))
theorem St.eb {nx ny:Nat} {sx sy:Nat→Nat} {l:List Opn} (h:St nx ny sx sy l) {p q:Opn} (A:p∈l) (hq:q∈l) (h0:0≤p.b) (e:p.b=q.b):p=q:=by
 rcases pw_eq h.dis A hq with k|k|k
 ·exact k
 ·exact absurd e (k.2 h0)
 exact absurd e.symm (k.2 (by omega))
theorem St.perm {nx ny:Nat} {sx sy:Nat→Nat} {l m:List Opn} (h:St nx ny sx sy l) (p:m.Perm l):St nx ny sx sy m:=
 ⟨fun o E=>h.rng o (p.mem_iff.1 E),(List.Perm.pairwise_iff (fun{x y} h=>⟨fun h1 h2=>h.1 (by omega) h2.symm,fun h1 h2=>h.2 (by omega) h2.symm⟩) p).2 h.dis,fun c A=>by obtain⟨o,h1,h2⟩:=h.sua c A;exact⟨o,p.mem_iff.2 h1,h2⟩,
  fun c A=>by obtain⟨o,h1,h2⟩:=h.sub c A;exact⟨o,p.mem_iff.2 h1,h2⟩,fun x C y hy=>h.tr x (p.mem_iff.1 C) y (p.mem_iff.1 hy)⟩
def swO (o:Opn):Opn:=⟨o.b,o.a⟩
theorem St.swap {nx ny:Nat} {sx sy:Nat→Nat} {l:List Opn} (h:St nx ny sx sy l):St ny nx sy sx (l.map swO):=by
 refine⟨fun o E=>?_,?_,fun c C=>?_,fun c C=>?_,fun p A q hq h0 h1 h2 h3=>?_⟩
 ·obtain⟨q,hq,rfl⟩:=List.mem_map.1 E
  have:=h.rng q hq
  simp only[swO];omega
 ·rw[List.pairwise_map]
  exact h.dis.imp fun{p q} k=>⟨k.2,k.1⟩
 ·obtain⟨o,h1,h2⟩:=h.sub c C
  exact⟨swO o,List.mem_map_of_mem h1,h2⟩
 ·obtain⟨o,h1,h2⟩:=h.sua c C
  exact⟨swO o,List.mem_map_of_mem h1,h2⟩
 obtain⟨p,hp',rfl⟩:=List.mem_map.1 A
 obtain⟨q,hq',rfl⟩:=List.mem_map.1 hq
 replace A:=hp'
 replace hq:=hq'
 simp only[swO] at h0 h1 h2 h3⊢
 rcases Int.lt_trichotomy p.a q.a with k|k|k
 ·have:=h.tr p A q hq h2 k h0 (by omega)
  exact⟨k,this.2.symm⟩
 ·have:=h.ea A hq h2 k
  rw[this] at h1;omega
 have:=(h.tr q hq p A h3 k (by omega) h0).1
 omega
theorem Vd.st {nx ny:Nat} {sx sy:Nat→Nat} {l:List Opn} (h:Vd nx ny sx sy l):St nx ny sx sy l∧l.Pairwise Le:=by
 have hpos:∀(j:Nat) (o:Opn),l[j]?=some o→(j<nx∧o.a=j)∨(nx≤j∧o.a= -1∧0≤o.b):=fun j o C=>by
  have hk:=(uR.1 C).1
  have t:(l.take j).length=j:=by rw[vQ];omega
  have h1:=(h.scr j o C).fst
  have h2:=(h.scr j o C).snd
  rw[t] at h1 h2
  rcases xV j nx with e|e
  ·exact Or.inl ⟨e,h1 e⟩
  exact Or.inr ⟨e,(h2 e).1,(h2 e).2.1⟩
 have hpw:=xS.1 (scr_pw h.scr)
 have hprs:=xS.1 h.prs
 refine⟨⟨fun o C=>?_,?_,fun c hc=>?_,h.sur,fun p E q hq h0 h1 h2 h3=>?_⟩,?_⟩
 ·obtain⟨j,A⟩:=List.mem_iff_getElem?.1 C
  have:=(h.scr j o A).lo
  have:=(h.scr j o A).hi
  rcases hpos j o A with k|k<;>omega
 ·rw[xS]
  intro i j hi A hij
  have h1:=hpos i _ (vB hi)
  have h2:=hpos j _ (vB A)
  exact⟨fun _=>by omega,fun k e=>(hpw i j hi A hij).2 (by omega) e⟩
 ·have:=h.len
  obtain⟨o,C⟩:=dE (show c<l.length by omega)
  exact⟨o,vL C,by have:=hpos c o C;omega⟩
 ·obtain⟨i,hi,rfl⟩:=List.mem_iff_getElem.1 E
  obtain⟨j,A,rfl⟩:=List.mem_iff_getElem.1 hq
  have k1:=hpos i _ (vB hi)
  have k2:=hpos j _ (vB A)
  exact hprs i j hi A (by omega) h0 h2 (by omega) h3
 rw[xS]
 intro i j hi A hij
 have h1:=hpos i _ (vB hi)
 have h2:=hpos j _ (vB A)
 have hlt:nx≤i→l[i].b<l[j].b:=fun e=>by
  refine((h.scr j _ (vB A)).snd (by rw[vQ];omega)).2.2 _ (vL (i:=i-nx) ?_)
  rw[yW,xD,if_pos (by omega),show nx+(i-nx)=i by omega,vB hi]
 unfold Le
 rw[bn_iff]
 by_cases e:nx≤i
 ·have:=hlt e;omega
 omega
theorem aS0:∀(l:List Opn),l.Pairwise Le→l=l.filter (fun o=>decide (0≤o.a))++l.filter (fun o=>decide (o.a<0))
 | [],_=>rfl
 |o::l,h=>by
  obtain⟨h1,h2⟩:=List.pairwise_cons.1 h
  have ih:=aS0 l h2
  by_cases ha:0≤o.a
  ·rw[List.filter_cons_of_pos (by simpa using ha),List.filter_cons_of_neg (by simpa using ha),List.cons_append,←ih]
  have hn:l.filter (fun o=>decide (0≤o.a))=[]:=List.filter_eq_nil_iff.2 fun q hq=>by
   have:=h1 q hq
   unfold Le at this
   rw[bn_iff] at this
   simp only[decide_eq_true_eq]
   omega
  rw[hn] at ih
  rw[List.filter_cons_of_neg (by simpa using ha),List.filter_cons_of_pos (by simp;omega),hn,List.nil_append]
  rw[List.nil_append] at ih
  rw[←ih]
theorem St.vd {nx ny:Nat} {sx sy:Nat→Nat} {l:List Opn} (h:St nx ny sx sy l) (hs:l.Pairwise Le):Vd nx ny sx sy l:=by
 have hsp:=aS0 l hs
 have hF:(l.filter fun o=>decide (0≤o.a)).map (·.a)=(List.range nx).map fun i:Nat=>(i:Int):=by
  refine rising_int ?_ ?_ fun x=>?_
  ·rw[List.pairwise_map,List.pairwise_filter]
   refine(hs.and h.dis).imp fun{p q} k h1 h2=>?_
   have h1:=of_decide_eq_true h1
   have h2:=of_decide_eq_true h2
   have k1:=k.1
   unfold Le at k1
   rw[bn_iff] at k1
   have:=k.2.1 h1
   omega
  ·rw[List.pairwise_map]
   exact List.pairwise_lt_range.imp fun{a b} k=>by omega
  rw[List.mem_map,List.mem_map]
  constructor
  ·rintro⟨o,A,rfl⟩
   rw[List.mem_filter,decide_eq_true_eq] at A
   have:=h.rng o A.1
   exact⟨o.a.toNat,List.mem_range.2 (by omega),by omega⟩
  rintro⟨c,E,rfl⟩
  obtain⟨o,h1,h2⟩:=h.sua c (List.mem_range.1 E)
  exact⟨o,by rw[List.mem_filter,decide_eq_true_eq];exact⟨h1,by omega⟩,h2⟩
 have hFl:(l.filter fun o=>decide (0≤o.a)).length=nx:=by
  have:=congrArg List.length hF
  simpa using this
 have hpos:∀(j:Nat) (o:Opn),l[j]?=some o→(j<nx∧o.a=j)∨(nx≤j∧o.a<0):=fun j o A=>by
  rw[hsp] at A
  rcases xV j nx with e|e
  ·rw[vR (by omega)] at A
   have:=congrArg (fun m=>m[j]?) hF
   simp only[xF,A,List.getElem?_range e,Option.map_some,wA] at this
   exact Or.inl ⟨e,this⟩
  rw[vE (by omega)] at A
  have:=vL A
  rw[List.mem_filter,decide_eq_true_eq] at this
  exact Or.inr ⟨e,this.2⟩
 refine⟨fun j o A=>?_,?_,h.sub,?_⟩
 ·have hk:=(uR.1 A).1
  have t:(l.take j).length=j:=by rw[vQ];omega
  have hr:=h.rng o (vL A)
  have hp:=hpos j o A
  have hdis:=xS.1 h.dis
  have hle:=xS.1 hs
  have hmem:∀q∈l.take j,∃(i:Nat) (hi:i<l.length),i<j∧l[i]=q:=fun q hq=>by
   obtain⟨i,hi,e⟩:=List.mem_take_iff_getElem.1 hq
   exact⟨i,by omega,by omega,e⟩
  refine⟨fun e=>by rw[t] at e⊢;omega,fun e=>?_,by omega,by omega,fun hb q hq e=>?_⟩
  ·rw[t] at e
   refine⟨by omega,by omega,fun q hq=>?_⟩
   obtain⟨i,hi⟩:=List.mem_iff_getElem?.1 hq
   rw[yW,xD] at hi
   by_cases hij:nx+i<j
   ·rw[if_pos hij] at hi
    have hq2:=hpos _ q hi
    have k1:=hle (nx+i) j (uR.1 hi).1 hk hij
    have k2:=(hdis (nx+i) j (uR.1 hi).1 hk hij).2
    rw[(uR.1 hi).2,(uR.1 A).2] at k1 k2
    have hrq:=h.rng q (vL hi)
    have:=k2 (by omega)
    unfold Le at k1
    rw[bn_iff] at k1
    omega
   rw[if_neg hij] at hi;cases hi
  obtain⟨i,hi,hij,rfl⟩:=hmem q hq
  have:=(hdis i j hi hk hij).2
  rw[(uR.1 A).2] at this
  exact this (by omega) e
 ·have:=congrArg List.length hsp
  rw[uW,hFl] at this;omega
 rw[xS]
 intro i j hi C hij h1 h2 h3 h4
 have k1:=hpos i _ (vB hi)
 have k2:=hpos j _ (vB C)
 exact h.tr _ (List.getElem_mem hi) _ (List.getElem_mem C) h1 (by omega) h2 h4
theorem St.i64 {nx ny:Nat} {sx sy:Nat→Nat} {l:List Opn} (h:St nx ny sx sy l) (hx:nx≤100000) (hy:ny≤100000):∀o∈l,I64 o.a∧I64 o.b:=fun o A=>by
 have:=h.rng o A
 unfold I64;omega
theorem wr_not:∀(L:List (Nat×Int)) (P:List Int) (c:Nat),(∀x∈L,x.1≠c)→(wr L P)[c]?=P[c]?
 | [],_,_,_=>rfl
 |x::L,P,c,h=>by
  have:=wr_not L (P.set x.1 x.2) c fun y hy=>h y (List.mem_cons_of_mem _ hy)
  rw[List.getElem?_set_ne (h x (List.mem_cons_self ..))] at this
  exact this
theorem wr_at:∀(L:List (Nat×Int)) (P:List Int),L.Pairwise (fun x y=>x.1≠y.1)→∀x∈L,x.1<P.length→(wr L P)[x.1]?=some x.2
 | [],_,_,x,A,_=>by simp at A
 |y::L,P,hp,x,A,C=>by
  obtain⟨h1,h2⟩:=List.pairwise_cons.1 hp
  rcases List.mem_cons.1 A with rfl|A
  ·have:=wr_not L (P.set x.1 x.2) x.1 fun z hz=>(h1 z hz).symm
   rw[xT C] at this
   exact this
  exact wr_at L (P.set y.1 y.2) h2 x A (by rw[List.length_set];exact C)
theorem pw_eqM {α:Type} {R:α→α→Prop} {l:List α} (h:l.Pairwise R) {p q:α} (C:p∈l) (hq:q∈l):p=q∨R p q∨R q p:=by
 obtain⟨i,hi,rfl⟩:=List.mem_iff_getElem.1 C
 obtain⟨j,A,rfl⟩:=List.mem_iff_getElem.1 hq
 have h:=xS.1 h
 rcases Nat.lt_trichotomy i j with e|e|e
 ·exact Or.inr (Or.inl (h i j hi A e))
 ·subst e;exact Or.inl rfl
 exact Or.inr (Or.inr (h j i A hi e))
section
variable {a b:Node} {M:List (Nat×Nat)}
structure MOk (a b:Node) (M:List (Nat×Nat)):Prop where
 rng:∀m∈M,m.1<bK a∧m.2<bK b
 pw:M.Pairwise (Cp a b)
theorem nA_ok (a:Node) {s:Nat} (h:s<bK a):∃x:Nat,nA a s=(x:Int)∧x<bK a∧(kM a 0)[s]?=some (x:Int)∧∃u,(po [toT a])[s]?=some u∧labp (prN a 0 (-1)) x=((labT u).kind,(labT u).text)∧lbT a s=labT u∧szp (prN a 0 (-1)) x=szT u:=by
 obtain⟨u,hu⟩:=dE (l:=po [toT a]) (k:=s) (by rw[po_lenN];exact h)
 obtain⟨x,h1,h2,h3,h4,_⟩:=aI4 a hu
 refine⟨x,by unfold nA;rw[h1];rfl,h2,h1,u,hu,h3,by unfold lbT;rw[hu];rfl,h4⟩
theorem nA_inj (a:Node) {s t:Nat} (h:s<bK a) (h':t<bK a) (e:nA a s=nA a t):s=t:=by
 obtain⟨x,h1,_,h2,_⟩:=nA_ok a h
 obtain⟨y,h3,_,h4,_⟩:=nA_ok a h'
 rw[h1,h3] at e
 rw[e] at h2
 obtain⟨g1,g2⟩:=uR.1 h2
 obtain⟨g3,g4⟩:=uR.1 h4
 exact(List.getElem_inj (aM1 a 0)).1 (g2.trans g4.symm)
theorem X6 (a:Node) {s:Nat} (h:s<bK a):0≤nA a s∧nA a s<bK a:=by
 obtain⟨x,h1,h2,_⟩:=nA_ok a h
 omega
theorem mok_pw1 (h:MOk a b M):(M.map fun m=>((nA a m.1).toNat,nA b m.2)).Pairwise fun x y=>x.1≠y.1:=by
 rw[List.pairwise_map]
 refine(List.Pairwise.and_mem.1 h.pw).imp fun{m m'} k e=>?_
 have h1:=X6 a (h.rng m k.1).1
 have h2:=X6 a (h.rng m' k.2.1).1
 have:=nA_inj a (h.rng m k.1).1 (h.rng m' k.2.1).1 (by simp only at e;omega)
 have:=k.2.2.1
 omega
theorem mok_pw2 (h:MOk a b M):(M.map fun m=>((nA b m.2).toNat,nA a m.1)).Pairwise fun x y=>x.1≠y.1:=by
 rw[List.pairwise_map]
 refine(List.Pairwise.and_mem.1 h.pw).imp fun{m m'} k e=>?_
 have h1:=X6 b (h.rng m k.1).2
 have h2:=X6 b (h.rng m' k.2.1).2
 have:=nA_inj b (h.rng m k.1).2 (h.rng m' k.2.1).2 (by simp only at e;omega)
 have:=k.2.2.2.1
 omega
structure ArrM (a b:Node) (M:List (Nat×Nat)) (P B:List Int):Prop where
 pl:P.length=bK a
 bl:B.length=bK b
 p1:∀m∈M,P[(nA a m.1).toNat]?=some (nA b m.2)
 b1:∀m∈M,B[(nA b m.2).toNat]?=some (nA a m.1)
 p2:∀(c:Nat) v,P[c]?=some v→v= -1∨∃m∈M,(c:Int)=nA a m.1∧v=nA b m.2
 b2:∀(c:Nat) v,B[c]?=some v→v= -1∨∃m∈M,(c:Int)=nA b m.2∧v=nA a m.1
theorem arrM (h:MOk a b M):ArrM a b M (wP a b M (List.replicate (bK a) (-1))) (wB a b M (List.replicate (bK b) (-1))):=by
 refine⟨by rw[wP_len,List.length_replicate],by rw[wB_len,List.length_replicate],fun m C=>?_,fun m C=>?_,fun c v A=>?_,fun c v A=>?_⟩
 ·have:=X6 a (h.rng m C).1
  exact wr_at _ _ (mok_pw1 h) ((nA a m.1).toNat,nA b m.2) (List.mem_map_of_mem (f:=fun m=>((nA a m.1).toNat,nA b m.2)) C) (by rw[List.length_replicate];simp only;omega)
 ·have:=X6 b (h.rng m C).2
  exact wr_at _ _ (mok_pw2 h) ((nA b m.2).toNat,nA a m.1) (List.mem_map_of_mem (f:=fun m=>((nA b m.2).toNat,nA a m.1)) C) (by rw[List.length_replicate];simp only;omega)
 ·by_cases E:∃m∈M,(nA a m.1).toNat=c
  ·obtain⟨m,C,e⟩:=E
   have h1:=X6 a (h.rng m C).1
   have:=wr_at _ (List.replicate (bK a) (-1)) (mok_pw1 h) ((nA a m.1).toNat,nA b m.2) (List.mem_map_of_mem (f:=fun m=>((nA a m.1).toNat,nA b m.2)) C) (by rw[List.length_replicate];simp only;omega)
   rw[e] at this
   unfold wP at A
   rw[this] at A
   exact Or.inr ⟨m,C,by omega,(wD A).symm⟩
  unfold wP at A
  rw[wr_not _ _ _ fun x hx'=>by
   obtain⟨m,C,rfl⟩:=List.mem_map.1 hx'
   exact fun e=>E ⟨m,C,e⟩] at A
  rw[List.getElem?_replicate] at A
  split at A
  ·exact Or.inl (wD A).symm
  cases A
 by_cases E:∃m∈M,(nA b m.2).toNat=c
 ·obtain⟨m,C,e⟩:=E
  have h1:=X6 b (h.rng m C).2
  have:=wr_at _ (List.replicate (bK b) (-1)) (mok_pw2 h) ((nA b m.2).toNat,nA a m.1) (List.mem_map_of_mem (f:=fun m=>((nA b m.2).toNat,nA a m.1)) C) (by rw[List.length_replicate];simp only;omega)
  rw[e] at this
  unfold wB at A
  rw[this] at A
  exact Or.inr ⟨m,C,by omega,(wD A).symm⟩
 unfold wB at A
 rw[wr_not _ _ _ fun x hx'=>by
  obtain⟨m,C,rfl⟩:=List.mem_map.1 hx'
  exact fun e=>E ⟨m,C,e⟩] at A
 rw[List.getElem?_replicate] at A
 split at A
 ·exact Or.inl (wD A).symm
 cases A
def gI (P:List Int) (c:Nat):Int:=(P[c]?).getD (-1)
def opA (n:Nat) (P:List Int):List Opn:=(List.range n).map fun c:Nat=>⟨(c:Int),gI P c⟩
def opB (n:Nat) (B:List Int):List Opn:=((List.range n).filter fun c:Nat=>decide (gI B c<0)).map fun c:Nat=>⟨-1,(c:Int)⟩
theorem gI_at {P:List Int} {c:Nat} (h:c<P.length):P[c]?=some (gI P c):=by
 obtain⟨v,hv⟩:=dE h
 unfold gI;rw[hv];rfl
theorem opA_mem {P B:List Int} (h:MOk a b M) (hA:ArrM a b M P B) (o:Opn):o∈opA (bK a) P∧0≤o.b↔∃m∈M,o=⟨nA a m.1,nA b m.2⟩:=by
 unfold opA
 constructor
 ·rintro⟨h1,h2⟩
  obtain⟨c,C,rfl⟩:=List.mem_map.1 h1
  rw[List.mem_range] at C
  simp only at h2
  rcases hA.p2 c _ (gI_at (by rw[hA.pl];exact C)) with e|⟨m,A,e1,e2⟩
  ·omega
  exact⟨m,A,by rw[e1,e2]⟩
 rintro⟨m,A,rfl⟩
 have h1:=X6 a (h.rng m A).1
 have h2:=X6 b (h.rng m A).2
 refine⟨List.mem_map.2 ⟨(nA a m.1).toNat,List.mem_range.2 (by omega),?_⟩,h2.1⟩
 unfold gI
 rw[hA.p1 m A,show(((nA a m.1).toNat:Nat):Int)=nA a m.1 by omega];rfl
theorem mok_tr (h:MOk a b M) {m m':Nat×Nat} (E:m∈M) (hm':m'∈M) (hlt:nA a m.1<nA a m'.1):
  nA b m.2<nA b m'.2∧(nA a m'.1<nA a m.1+szp (prN a 0 (-1)) (nA a m.1).toNat↔nA b m'.2<nA b m.2+szp (prN b 0 (-1)) (nA b m.2).toNat):=by
 obtain⟨r1,r2⟩:=h.rng m E
 obtain⟨r3,r4⟩:=h.rng m' hm'
 obtain⟨x,C,x2,F,u,A,_,_,G⟩:=nA_ok a r1
 obtain⟨x',x1',x2',x3',u',x4',_,_,x5'⟩:=nA_ok a r3
 obtain⟨y,y1,y2,y3,v,y4,_,_,y5⟩:=nA_ok b r2
 obtain⟨y',y1',y2',y3',v',y4',_,_,y5'⟩:=nA_ok b r4
 obtain⟨p1,p2⟩:=aO4.1 a 0 m.1 m'.1 u u' x x' A x4' F x3'
 obtain⟨p3,p4⟩:=aO4.1 a 0 m'.1 m.1 u' u x' x x4' A x3' F
 obtain⟨q1,q2⟩:=aO4.1 b 0 m.2 m'.2 v v' y y' y4 y4' y3 y3'
 obtain⟨q3,q4⟩:=aO4.1 b 0 m'.2 m.2 v' v y' y y4' y4 y3' y3
 have su:=(kX [toT a] A).1
 have su':=(kX [toT a] x4').1
 have sv:=(kX [toT b] y4).1
 have sv':=(kX [toT b] y4').1
 have f1:=yV A
 have f2:=yV x4'
 have f3:=yV y4
 have f4:=yV y4'
 rw[C,x1',y1,y1',xL,xL,G,y5]
 rw[C,x1'] at hlt
 have hne:(y:Int)≠y':=fun e=>by
  have e2:=nA_inj b r2 r4 (by rw[y1,y1',e])
  rcases pw_eqM h.pw E hm' with k|k|k
  ·rw[k,x1'] at C;omega
  ·have:=k.2.1;omega
  have:=k.2.1;omega
 have hcp:(m.1<m'.1∧m.2<m'.2∧(lf (toT a) m'.1≤m.1↔lf (toT b) m'.2≤m.2))∨(m'.1<m.1∧m'.2<m.2∧(lf (toT a) m.1≤m'.1↔lf (toT b) m.2≤m'.2)):=by
  rcases pw_eqM h.pw E hm' with k|k|k
  ·rw[k,x1'] at C;omega
  ·exact Or.inr k
  exact Or.inl k
 rw[f1,f2,f3,f4] at hcp
 omega
end
end Go.Proofs.YtopnldfjcciieaaGreat
