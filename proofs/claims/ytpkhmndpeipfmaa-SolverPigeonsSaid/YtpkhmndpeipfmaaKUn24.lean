/- The solver: learn, the rounds. -/
import Derived.Test.YtpkhmndpeipfmaaKUn23
import Derived.Test.YtpkhmndpeipfmaaKUn5
import Derived.Test.YtpkhmndpeipfmaaKUn6
set_option linter.unusedVariables false
set_option linter.unusedSimpArgs false
namespace Go.Proofs.Ytpkhmndpeipfmaa
open Go.RowKit
structure Ana (n:Int) (F:List (List Int)) (st trail:List Int) (cl:List (List Int)) (c0:List Int) (a:Nat) (lits out:List Int) (m:List (Int×Bool)):Prop where
 al:a≤trail.length
 mks:Marks st trail out m
 lf:∀y∈lits,∃k:Nat,k<a∧trail[k]?=some (-y)
 ll:lits.length≤1000000
 cur:∃(k:Nat) (x:Int),k<a∧trail[k]?=some x∧lvl st k=st.length∧(sn m (vr x)∨ -x∈lits)
 don:∀(k:Nat) (x:Int),a≤k→trail[k]?=some x→lvl st k=st.length→sn m (vr x)→∃(id:Nat) (c:List Int),cl[id]?=some c∧x∈c∧∀y∈c,y≠x→∃j:Nat,j<k∧trail[j]?=some (-y)∧(lvl st j=0∨sn m (vr y)∨y∈lits)
 cf:∀y∈c0,∃j:Nat,trail[j]?=some (-y)∧(lvl st j=0∨sn m (vr y)∨y∈lits)
structure FinA (st trail:List Int) (cl:List (List Int)) (c0:List Int) (b:Nat) (d:Int) (out:List Int) (m:List (Int×Bool)):Prop where
 mks:Marks st trail out m
 at_:trail[b]?=some d
 dec:(b:Int)∈st
 lv:lvl st b=st.length
 don:∀(k:Nat) (x:Int),b<k→trail[k]?=some x→lvl st k=st.length→sn m (vr x)→∃(id:Nat) (c:List Int),cl[id]?=some c∧x∈c∧∀y∈c,y≠x→∃j:Nat,j<k∧trail[j]?=some (-y)∧(lvl st j=0∨sn m (vr y))
 cf:∀y∈c0,∃j:Nat,trail[j]?=some (-y)∧(lvl st j=0∨sn m (vr y))
section
variable {n:Int} {F:List (List Int)} {st:List Int} {D:Nat→Int→Prop} {val lev:List Int} {rea:List (Option Nat)} {trail:List Int} {ws:List (List Nat)} {cl:List (List Int)}
theorem round_parts (h:Cor n F st D val lev rea trail ws cl) (hn:0≤n∧n≤65536) {p0:Sol} (hlev:p0.level=lev) (hst:p0.starts=st) (htr:p0.trail=trail) (hrea:p0.reason=rea) (hcl:p0.watches.2=cl) (hs0:st≠[]) {c0:List Int} {a:Nat} {lits out:List Int} {m:List (Int×Bool)} (hA:Ana n F st trail cl c0 a lits out m):
  ∃(r1:List Int×List (Int×Bool)) (k:Nat) (x:Int) (r:Option Nat),
   dC (fun s:Int×List Int×List (Int×Bool)=>fU p0 lits s.1 s.2.1 s.2.2) (0,out,m)=some r1∧inK .i64 ((a:Int)-1)=some ((a:Int)-1)∧
   dC (fun s=>gX p0 r1 s) ((a:Int)-1)=some (k:Int)∧idx p0.trail (k:Int)=some x∧dN x=some (vr x)∧idx p0.reason (vr x)=some r∧k<a∧
   ((r=none∧FinA st trail cl c0 k x r1.1 r1.2)∨∃id c,r=some id∧p0.watches.2[id]?=some c∧c.length≤1000000∧Ana n F st trail cl c0 k (c.filter fun y=>decide (y≠x)) r1.1 r1.2):=by
 have htl:=h.eng.trailLen hn.1
 obtain⟨r1,e1,hM,hsn⟩:=mark_loop h hn hlev hst hA.ll (fun y hy=>by obtain⟨k,_,hk⟩:=hA.lf y hy;exact⟨k,hk⟩) hA.mks
 have hup:∀v,sn m v→sn r1.2 v:=fun v hv=>(hsn v).2 (Or.inl hv)
 have hlen0:(0:Int)<st.length:=by
  cases st with
  |nil=>exact absurd rfl hs0
  |cons b t=>simp
 have hseen:∀y∈lits,∀j:Nat,trail[j]?=some (-y)→lvl st j=0∨sn r1.2 (vr y):=fun y hy j hj=>by
  by_cases h0:lvl st j=0
  ·exact Or.inl h0
  exact Or.inr ((hsn _).2 (Or.inr ⟨y,hy,rfl,j,hj,h0⟩))
 obtain⟨kc,xc,hkc,hxc,hlc,hoc⟩:=hA.cur
 have hcs:sn r1.2 (vr xc):=by
  rcases hoc with h1|h1
  ·exact hup _ h1
  rcases hseen _ h1 kc (by rw[Int.neg_neg];exact hxc) with h2|h2
  ·omega
  rwa [lL] at h2
 have i1:inK .i64 ((a:Int)-1)=some ((a:Int)-1):=gW ⟨by omega,by have:=hA.al;omega⟩
 obtain⟨k,x,e2,hka,hx,hsx,hno⟩:=search_ok h hn htr (b3:=r1) a hA.al ⟨kc,xc,hkc,hxc,hcs⟩
 have hxl:=h.lit (bQ hx)
 have hxb:=oI.1 hxl.2
 have hkk:kc≤k:=by
  rcases Nat.lt_or_ge k kc with h1|h1
  ·exact absurd hcs (hno kc xc h1 hkc hxc)
  exact h1
 have hlk:lvl st k=st.length:=by
  have h1:=lvl_mono st hkk
  have h2:=lvl_le st k
  omega
 obtain⟨r,hr⟩:=bK (show(vr x).toNat<rea.length by have:=h.rl;have:=jP x;omega)
 have hwhy:=h.re k x r hx hr
 refine⟨r1,k,x,r,e1,i1,e2,by rw[htr];exact dA hx,wM ⟨by omega,by omega⟩,by rw[hrea];exact kE (jP x) hr,hka,?_⟩
 have don:∀(j:Nat) (z:Int),k<j→trail[j]?=some z→lvl st j=st.length→sn r1.2 (vr z)→∃(id:Nat) (c:List Int),cl[id]?=some c∧z∈c∧∀y∈c,y≠z→∃i:Nat,i<j∧trail[i]?=some (-y)∧(lvl st i=0∨sn r1.2 (vr y)):=fun j z h1 h2 h3 h4=>by
  rcases Nat.lt_or_ge j a with h5|h5
  ·exact absurd h4 (hno j z h1 h5 h2)
  have h6:sn m (vr z):=by
   rcases(hsn _).1 h4 with h6|⟨y,hy,h6,i,hi,_⟩
   ·exact h6
   obtain⟨q,hq,hq2⟩:=hA.lf y hy
   have:=h.at_ hq2 h2 (by rw[lL,h6])
   omega
  obtain⟨id,c,g1,g2,g3⟩:=hA.don j z h5 h2 h3 h6
  refine⟨id,c,g1,g2,fun y hy hne=>?_⟩
  obtain⟨i,i1,i2,i3⟩:=g3 y hy hne
  refine⟨i,i1,i2,?_⟩
  rcases i3 with i3|i3|i3
  ·exact Or.inl i3
  ·exact Or.inr (hup _ i3)
  exact hseen y i3 i i2
 have cf:∀y∈c0,∃j:Nat,trail[j]?=some (-y)∧(lvl st j=0∨sn r1.2 (vr y)):=fun y hy=>by
  obtain⟨j,j1,j2⟩:=hA.cf y hy
  refine⟨j,j1,?_⟩
  rcases j2 with j2|j2|j2
  ·exact Or.inl j2
  ·exact Or.inr (hup _ j2)
  exact hseen y j2 j j1
 cases r with
 |none=>
  refine Or.inl ⟨rfl,hM,hx,?_,hlk,don,cf⟩
  rcases hwhy with h1|⟨h1,_⟩
  ·exact h1
  omega
 |some id=>
  obtain⟨c,h1,h2,h3,y1,h4,h5,j1,h6,h7⟩:=hwhy
  have hcn:=h.eng.clLen hn h1
  refine Or.inr ⟨id,c,rfl,by rw[hcl];exact h1,by omega,by have:=hA.al;omega,hM,fun y hy=>?_,Nat.le_trans (List.length_filter_le _ _) (by omega),?_,fun j z g1 g2 g3 g4=>?_,fun y hy=>?_⟩
  ·rw[List.mem_filter] at hy
   obtain⟨i,hi⟩:=List.getElem?_of_mem (h3 y hy.1 (by simpa using hy.2))
   rw[List.getElem?_take] at hi
   split at hi
   ·exact⟨i,by assumption,hi⟩
   cases hi
  ·obtain⟨i,hi⟩:=List.getElem?_of_mem (h3 y1 h4 h5)
   rw[List.getElem?_take] at hi
   split at hi
   ·rename_i hik
    have e:i=j1:=h.at_ hi h6 rfl
    subst e
    exact⟨i,-y1,hik,hi,by rw[h7,hlk],Or.inr (by rw[Int.neg_neg,List.mem_filter];exact⟨h4,by simpa using h5⟩)⟩
   cases hi
  ·rcases Nat.lt_or_ge k j with g5|g5
   ·obtain⟨id',c',k1,k2,k3⟩:=don j z g5 g2 g3 g4
    refine⟨id',c',k1,k2,fun y hy hne=>?_⟩
    obtain⟨i,i1,i2,i3⟩:=k3 y hy hne
    exact⟨i,i1,i2,i3.elim Or.inl fun i3=>Or.inr (Or.inl i3)⟩
   have e:j=k:=by omega
   subst e
   obtain rfl:=Option.some.inj (g2.symm.trans hx)
   refine⟨id,c,h1,h2,fun y hy hne=>?_⟩
   obtain⟨i,hi⟩:=List.getElem?_of_mem (h3 y hy hne)
   rw[List.getElem?_take] at hi
   split at hi
   ·rename_i hij
    exact⟨i,hij,hi,Or.inr (Or.inr (by rw[List.mem_filter];exact⟨hy,by simpa using hne⟩))⟩
   cases hi
  obtain⟨j,j1,j2⟩:=cf y hy
  exact⟨j,j1,j2.elim Or.inl fun j2=>Or.inr (Or.inl j2)⟩
theorem lp5_eq (p0:Sol) (l:List Int) (i:Int) (o:List Int) (m:List (Int×Bool)):pK p0 l i o m=fU p0 l i o m:=rfl
theorem lp6_eq (p0:Sol) (b:List Int×List (Int×Bool)) (i:Int):pM p0 b i=gX p0 b i:=rfl
theorem lp7_eq (x:Int) (c:List Int) (i:Int) (o:List Int):pO x c i o=gY x c i o:=rfl
theorem round_ok (h:Cor n F st D val lev rea trail ws cl) (hn:0≤n∧n≤65536) {p0:Sol} (hlev:p0.level=lev) (hst:p0.starts=st) (htr:p0.trail=trail) (hrea:p0.reason=rea) (hcl:p0.watches.2=cl) (hs0:st≠[]) {c0:List Int} {a:Nat} {lits out:List Int} {m:List (Int×Bool)} (hA:Ana n F st trail cl c0 a lits out m):
  (∃(k:Nat) (l2 o2:List Int) (m2:List (Int×Bool)),gZ p0 (a:Int) lits out m=some (.next ((k:Int),l2,o2,m2))∧k<a∧Ana n F st trail cl c0 k l2 o2 m2)∨
  (∃(b:Nat) (d:Int) (o2:List Int) (m2:List (Int×Bool)),gZ p0 (a:Int) lits out m=some (.done (lits,o2.set (0:Int).toNat (-d),m2))∧FinA st trail cl c0 b d o2 m2):=by
 obtain⟨r1,k,x,r,e1,e2,e3,e4,e5,e6,hka,hcase⟩:=round_parts h hn hlev hst htr hrea hcl hs0 hA
 have hxl:=h.lit (bQ (show trail[k]?=some x by rw[htr] at e4;unfold idx at e4;rw[if_pos (by omega)] at e4;simpa using e4))
 have hxb:=oI.1 hxl.2
 unfold gZ
 simp only[lp5_eq,lp6_eq,lp7_eq]
 rw[e1,bsm,e2,bsm,e3,bsm,e4,bsm,e5,bsm,e6,bsm]
 rcases hcase with⟨rfl,hF⟩|⟨id,c,rfl,h1,h2,h3⟩
 ·obtain⟨rest,hrest⟩:=hF.mks.tl
  rw[if_pos (show(none:Option Nat).isNone=true from rfl),oM (show 0-x= -x by omega) ⟨by omega,by omega⟩,bsm,hrest,show idx (0::rest) 0=some 0 from rfl,bsm]
  rw[←hrest]
  exact Or.inr ⟨k,x,r1.1,r1.2,rfl,hF⟩
 rw[if_neg (by simp),bsm,e6,bsm,bsm,h1,bsm,others_loop h2,bsm]
 exact Or.inl ⟨k,_,_,_,rfl,hka,h3⟩
theorem rounds_ok (h:Cor n F st D val lev rea trail ws cl) (hn:0≤n∧n≤65536) {p0:Sol} (hlev:p0.level=lev) (hst:p0.starts=st) (htr:p0.trail=trail) (hrea:p0.reason=rea) (hcl:p0.watches.2=cl) (hs0:st≠[]) {c0:List Int} {a:Nat} {lits out:List Int} {m:List (Int×Bool)} (hA:Ana n F st trail cl c0 a lits out m):
  ∃r,dC (fun s:Int×List Int×List Int×List (Int×Bool)=>gZ p0 s.1 s.2.1 s.2.2.1 s.2.2.2) ((a:Int),lits,out,m)=some r∧∃(b:Nat) (d:Int) (o2:List Int) (m2:List (Int×Bool)),r.2=(o2.set (0:Int).toNat (-d),m2)∧FinA st trail cl c0 b d o2 m2:=by
 refine wC (body:=fun s:Int×List Int×List Int×List (Int×Bool)=>gZ p0 s.1 s.2.1 s.2.2.1 s.2.2.2) (fun s=>∃a:Nat,s.1=a∧Ana n F st trail cl c0 a s.2.1 s.2.2.1 s.2.2.2) (fun s=>s.1.toNat) _ ?_ _ ⟨a,rfl,hA⟩
 rintro⟨a',lits,out,m⟩ ⟨a,rfl,hA⟩
 rcases round_ok h hn hlev hst htr hrea hcl hs0 hA with⟨k,l2,o2,m2,h1,h2,h3⟩|⟨b,d,o2,m2,h1,h2⟩
 ·refine Or.inl ⟨_,h1,⟨k,rfl,h3⟩,?_⟩
  show((k:Int)).toNat<((a:Int)).toNat
  omega
 exact Or.inr ⟨_,h1,b,d,o2,m2,rfl,h2⟩
theorem first_ok (h:Cor n F st D val lev rea trail ws cl) (hn:0≤n∧n≤65536) {p0:Sol} (hlev:p0.level=lev) (hst:p0.starts=st) (htr:p0.trail=trail) (hrea:p0.reason=rea) (hcl:p0.watches.2=cl) (hs0:st≠[]) {id:Nat} (hc:Clash st trail cl id):
  ∃(c0:List Int) (b:Nat) (d:Int) (o2:List Int) (m2:List (Int×Bool)),cl[id]?=some c0∧FinA st trail cl c0 b d o2 m2∧kY p0 (some id)=(dC (fun s:Int×Int×List Int=>iC p0 s.1 s.2.1 s.2.2) (0,1,o2.set (0:Int).toNat (-d)):Option (Int×List Int)).bind fun b32=>some (b32.2,b32.1):=by
 obtain⟨c0,h1,h2,y0,h3,k0,h4,h5⟩:=hc.ex
 have hcn:=h.eng.clLen hn h1
 have hA:Ana n F st trail cl c0 trail.length c0 [0] []:=by
  refine⟨Nat.le_refl _,⟨⟨[],rfl⟩,fun v hv=>absurd hv (sn_nil v),by simp,by simp⟩,fun y hy=>?_,by omega,⟨k0,-y0,dB h4,h4,h5,Or.inr (by rw[Int.neg_neg];exact h3)⟩,fun k x hk hx=>(by rw[List.getElem?_eq_none hk] at hx;cases hx),fun y hy=>?_⟩
  ·obtain⟨k,hk⟩:=List.getElem?_of_mem (h2 y hy)
   exact⟨k,dB hk,hk⟩
  obtain⟨k,hk⟩:=List.getElem?_of_mem (h2 y hy)
  exact⟨k,hk,Or.inr (Or.inr hy)⟩
 obtain⟨r1,k,x,r,e1,e2,e3,e4,e5,e6,hka,hcase⟩:=round_parts h hn hlev hst htr hrea hcl hs0 hA
 have hxl:=h.lit (bQ (show trail[k]?=some x by rw[htr] at e4;unfold idx at e4;rw[if_pos (by omega)] at e4;simpa using e4))
 have hxb:=oI.1 hxl.2
 unfold kY
 rw[bsm,hcl,h1,bsm,e1,bsm,htr,e2,bsm,e3,bsm,←htr,e4,bsm,e5,bsm,e6,bsm]
 rcases hcase with⟨rfl,hF⟩|⟨id',c,rfl,g1,g2,g3⟩
 ·obtain⟨rest,hrest⟩:=hF.mks.tl
  rw[if_pos (show(none:Option Nat).isNone=true from rfl),oM (show 0-x= -x by omega) ⟨by omega,by omega⟩,bsm,hrest,show idx (0::rest) 0=some 0 from rfl,bsm,bsm]
  rw[←hrest]
  exact⟨c0,k,x,r1.1,r1.2,rfl,by rw[htr];exact hF,rfl⟩
 obtain⟨r,q1,b,d,o2,m2,q2,q3⟩:=rounds_ok h hn hlev hst htr hrea hcl hs0 g3
 rw[←hcl] at*
 rw[if_neg (by simp),bsm,e6,bsm,bsm,g1,bsm,others_loop g2,bsm,q1,bsm,bsm]
 refine⟨c0,b,d,o2,m2,rfl,by rw[htr];exact q3,?_⟩
 rw[q2]
end
structure Learned (n:Int) (F:List (List Int)) (st trail q:List Int) (back:Int):Prop where
 hd:∃(d:Int) (b:Nat),trail[b]?=some d∧(b:Int)∈st∧lvl st b=st.length∧q[0]?=some (-d)
 lit:∀y∈q,y≠0∧vr y≤n∧ -y∈trail
 nd:q.Nodup
 rup:Fails F (xG q)
 bk:0≤back∧back<st.length
 one:q.length≤1→back=0
 lo:∀(j:Nat) (y:Int),1≤j→q[j]?=some y→∃k:Nat,trail[k]?=some (-y)∧lvl st k≤back
 hi:1<q.length→∃(y:Int) (k:Nat),q[1]?=some y∧trail[k]?=some (-y)∧lvl st k=back
section
variable {n:Int} {F:List (List Int)} {st:List Int} {D:Nat→Int→Prop} {val lev:List Int} {rea:List (Option Nat)} {trail:List Int} {ws:List (List Nat)} {cl:List (List Int)}
theorem back_loop {p0:Sol} (hlev:p0.level=lev) {lf:Int→Int} {e:Int} {rest:List Int} (hlf:∀y∈e::rest,idx lev (vr y)=some (lf y)∧0<lf y∧ -1099511627776≤y∧y≤1099511627776) (hl:rest.length≤1000000):
  ∃r,dC (fun s:Int×Int×List Int=>iC p0 s.1 s.2.1 s.2.2) (0,1,e::rest)=some r∧r.2.Perm (e::rest)∧r.2[0]?=some e∧0≤r.1∧(rest=[]→r.1=0)∧(rest≠[]→∃y,r.2[1]?=some y∧lf y=r.1)∧∀(j:Nat) y,1≤j→r.2[j]?=some y→lf y≤r.1:=by
 refine uA (body:=fun s:Int×Int×List Int=>iC p0 s.1 s.2.1 s.2.2) rest.length (fun k (t:Int×List Int)=>(t.1,((k+1:Nat):Int),t.2))
  (fun k t=>t.2.Perm (e::rest)∧t.2[0]?=some e∧0≤t.1∧(k=0→t.1=0)∧(0<k→∃y,t.2[1]?=some y∧lf y=t.1)∧∀(j:Nat) y,1≤j→j≤k→t.2[j]?=some y→lf y≤t.1) _ (t0:=(0,e::rest)) rfl ⟨.refl _,rfl,Int.le_refl _,fun _=>rfl,fun h=>absurd h (by omega),fun j y h1 h2=>by omega⟩ ?_ ?_
 ·rintro k ⟨back,q⟩ hk ⟨hp,h0,hb,hz,h1,hle⟩
  simp only at hp h0 hb hz h1 hle
  have hql:q.length=rest.length+1:=by rw[hp.length_eq];rfl
  have hi:k+1<q.length:=by omega
  obtain⟨y,hy⟩:=bK hi
  obtain⟨y1,hy1⟩:=bK (show 1<q.length by omega)
  have hym:=hlf y (hp.mem_iff.1 (bQ hy))
  have hup:=jA hi (show q.length≤9223372036854775807 by omega)
  have hi1:idx q 1=some y1:=kE (by decide) hy1
  simp only[iC,ltB hi,if_true,dA hy,bsm,wM hym.2.2,hlev,hym.1]
  by_cases hlt:back<lf y
  ·have hset:(q.set 1 y)[k+1]?=some (if k=0 then y else y):=by
    by_cases e0:k=0
    ·subst e0;rw[if_pos rfl];exact dM hy1
    rw[if_neg e0,cZ (by omega)];exact hy
   have hset':(q.set 1 y)[k+1]?=some y:=by rw[hset];split<;>rfl
   have hset2:idx (q.set (1:Int).toNat y) ((k+1:Nat):Int)=some y:=dA hset'
   simp only[hlt,decide_true,if_true,hi1,bsm,hset2,hup]
   refine Or.inl ⟨(lf y,(q.set 1 y).set (k+1) y1),by rw[Int.toNat_natCast];rfl,?_,?_,by show 0≤lf y;omega,fun e=>absurd e (by omega),fun _=>?_,fun j z hj1 hj2 hz=>?_⟩
   ·obtain⟨g1,rfl⟩:=List.getElem?_eq_some_iff.1 hy1
    obtain⟨g2,rfl⟩:=List.getElem?_eq_some_iff.1 hy
    exact(List.set_set_perm g1 g2).trans hp
   ·show((q.set 1 y).set (k+1) y1)[0]?=some e
    rw[cZ (by omega),cZ (by omega)];exact h0
   ·show ∃z,((q.set 1 y).set (k+1) y1)[1]?=some z∧lf z=lf y
    by_cases e0:k=0
    ·subst e0
     obtain rfl:=Option.some.inj (hy1.symm.trans hy)
     exact⟨y1,dM hset',rfl⟩
    rw[cZ (by omega)]
    exact⟨y,dM hy1,rfl⟩
   have hz:((q.set 1 y).set (k+1) y1)[j]?=some z:=hz
   show lf z≤lf y
   by_cases ej:j=k+1
   ·subst ej
    rw[dM hset'] at hz
    obtain rfl:=Option.some.inj hz
    by_cases e0:k=0
    ·subst e0
     obtain rfl:=Option.some.inj (hy1.symm.trans hy)
     exact Int.le_refl _
    obtain⟨z,g1,g2⟩:=h1 (by omega)
    obtain rfl:=Option.some.inj (hy1.symm.trans g1)
    omega
   rw[cZ ej] at hz
   by_cases e1:j=1
   ·subst e1
    rw[dM hy1] at hz
    obtain rfl:=Option.some.inj hz
    exact Int.le_refl _
   rw[cZ e1] at hz
   have:=hle j z hj1 (by omega) hz
   omega
  simp only[hlt,decide_false,if_false,Bool.false_eq_true,hup,bsm]
  refine Or.inl ⟨(back,q),rfl,hp,h0,hb,fun e=>absurd e (by omega),fun _=>?_,fun j z hj1 hj2 hz=>?_⟩
  ·by_cases e0:k=0
   ·have:=hz e0
    omega
   exact h1 (by omega)
  by_cases ej:j=k+1
  ·subst ej
   obtain rfl:=Option.some.inj (hy.symm.trans hz)
   show lf y≤back
   omega
  exact hle j z hj1 (by omega) hz
 rintro⟨back,q⟩ ⟨hp,h0,hb,hz,h1,hle⟩
 simp only at hp h0 hb hz h1 hle
 have hql:q.length=rest.length+1:=by rw[hp.length_eq];rfl
 refine⟨(back,q),?_,hp,h0,hb,fun e=>hz (by rw[e];rfl),fun hne=>h1 (List.length_pos_iff.2 hne),fun j y hj hy=>hle j y hj (by have:j<q.length:=dB hy;omega) hy⟩
 simp only[iC]
 rw[if_neg (by rw[hql];simp)]
theorem slearn_ok (h:Cor n F st D val lev rea trail ws cl) (hn:0≤n∧n≤65536) {p0:Sol} (hlev:p0.level=lev) (hst:p0.starts=st) (htr:p0.trail=trail) (hrea:p0.reason=rea) (hcl:p0.watches.2=cl) (hs0:st≠[]) {id:Nat} (hc:Clash st trail cl id):
  ∃q back,kY p0 (some id)=some (q,back)∧Learned n F st trail q back:=by
 obtain⟨c0,b,d,o2,m2,h1,hF,h2⟩:=first_ok h hn hlev hst htr hrea hcl hs0 hc
 rw[h2]
 obtain⟨rest,hrest⟩:=hF.mks.tl
 have hset:o2.set (0:Int).toNat (-d)= -d::rest:=by rw[hrest];rfl
 rw[hset]
 have hlen:=hF.mks.len h hn
 rw[hrest] at hlen
 have htlr:o2.tail=rest:=by rw[hrest];rfl
 have hpos:(0:Int)<st.length:=by
  cases st with
  |nil=>exact absurd rfl hs0
  |cons b t=>simp
 have hdl:=h.lit (bQ hF.at_)
 have hrl:∀y∈rest,∃k:Nat,trail[k]?=some (-y)∧lvl st k≠0∧lvl st k≠st.length∧sn m2 (vr y):=fun y hy=>hF.mks.b y (by rw[htlr];exact hy)
 have hall:∀y∈ -d::rest,∃k:Nat,trail[k]?=some (-y)∧0<lvl st k∧(y∈rest→lvl st k<st.length):=fun y hy=>by
  rcases List.mem_cons.1 hy with rfl|hy
  ·exact⟨b,by rw[Int.neg_neg];exact hF.at_,by rw[hF.lv];exact hpos,fun hm=>by
    obtain⟨k,k1,k2,k3,_⟩:=hrl _ hm
    rw[Int.neg_neg] at k1
    have:=h.at_ k1 hF.at_ rfl
    subst this
    exact absurd hF.lv k3⟩
  obtain⟨k,k1,k2,k3,_⟩:=hrl y hy
  refine⟨k,k1,?_,fun _=>?_⟩
  ·have:=lvl_nn st k;omega
  have:=lvl_le st k;omega
 have hdr: -d∉rest:=fun hm=>by
  obtain⟨k,k1,k2,k3,_⟩:=hrl _ hm
  rw[Int.neg_neg] at k1
  have:=h.at_ k1 hF.at_ rfl
  subst this
  exact k3 hF.lv
 have hnd:(-d::rest).Nodup:=by
  refine List.nodup_cons.2 ⟨hdr,?_⟩
  have h3:=hF.mks.nd
  rw[hrest,List.map_cons,List.nodup_cons] at h3
  have h4:=h3.2
  unfold List.Nodup at h4⊢
  rw[List.pairwise_map] at h4
  exact List.Pairwise.imp (fun{a b} hne he=>hne (by rw[he])) h4
 let lf:Int→Int:=fun y=>(idx lev (vr y)).getD 0
 have hlfk:∀y k,trail[k]?=some (-y)→lf y=lvl st k:=fun y k hk=>by show(idx lev (vr y)).getD 0=_;rw[h.lvAt hk];rfl
 obtain⟨⟨back,q⟩,e1,hp,hq0,hb0,hbz,hb1,hble⟩:=back_loop (p0:=p0) hlev (lf:=lf) (e:= -d) (rest:=rest) (fun y hy=>by
  obtain⟨k,k1,k2,_⟩:=hall y hy
  have hyl:=h.lit (bQ k1)
  rw[lL] at hyl
  have:=oI.1 hyl.2
  exact⟨by rw[hlfk y k k1];exact h.lvAt k1,by rw[hlfk y k k1];exact k2,by omega,by omega⟩) (by simp at hlen;omega)
 simp only at hp hq0 hb0 hbz hb1 hble
 rw[e1,bsm]
 have hqn:q.Nodup:=hp.nodup_iff.2 hnd
 have hqm:∀y,y∈q↔y∈ -d::rest:=fun y=>hp.mem_iff
 have hql:q.length=rest.length+1:=by rw[hp.length_eq];rfl
 have htail:∀(j:Nat) y,1≤j→q[j]?=some y→y∈rest:=fun j y hj hy=>by
  rcases List.mem_cons.1 ((hqm y).1 (bQ hy)) with rfl|hm
  ·have:=nY hqn hy hq0;omega
  exact hm
 refine⟨q,back,rfl,⟨d,b,hF.at_,hF.dec,hF.lv,hq0⟩,fun y hy=>?_,hqn,?_,⟨hb0,?_⟩,fun h1=>hbz (List.eq_nil_of_length_eq_zero (by omega)),fun j y hj hy=>?_,fun h1=>?_⟩
 ·obtain⟨k,k1,_⟩:=hall y ((hqm y).1 hy)
  have hyl:=h.lit (bQ k1)
  rw[lL] at hyl
  exact⟨by omega,hyl.2,bQ k1⟩
 ·
  have up:∀(k:Nat) (x:Int),trail[k]?=some x→(lvl st k=0∨sn m2 (vr x))→UP F (xG q) x:=by
   intro k
   induction k using Nat.strongRecOn with
   |ind k ih=>
    intro x hx hor
    rcases hor with h0|hs
    ·exact(h.up0 k hx h0).mono (fun _ h=>h) (by simp)
    by_cases hcur:lvl st k=st.length
    ·rcases Nat.lt_trichotomy k b with hkb|hkb|hkb
     ·
      have:=lvl_mono st (Nat.le_of_lt hkb)
      obtain⟨i,hi⟩:=List.getElem?_of_mem hF.dec
      have h3:=lvl_lt' h.sts hi (show(k:Int)<(b:Int) by omega)
      have:=dB hi
      omega
     ·subst hkb
      obtain rfl:=Option.some.inj (hx.symm.trans hF.at_)
      refine .start ?_
      have:=V6.2 ((hqm _).2 (List.mem_cons_self ..))
      rwa [Int.neg_neg] at this
     obtain⟨id',c,g1,g2,g3⟩:=hF.don k x hkb hx hcur hs
     obtain⟨o,ho,k1,k2⟩:=h.eng.src id' c g1
     refine .unit (mem_big.1 ho).1 (k1 x g2) fun y hy hne=>?_
     have hyc:y∈c:=Classical.byContradiction fun hn=>by have:=k2 y hy hn;simp at this
     obtain⟨j,j1,j2,j3⟩:=g3 y hyc hne
     exact ih j j1 (-y) j2 (by rw[lL];exact j3)
    obtain⟨k',x',g1,g2,g3,g4⟩:=hF.mks.a _ hs
    have e:=h.at_ g1 hx g2
    subst e
    obtain rfl:=Option.some.inj (g1.symm.trans hx)
    have h5:=g4 hcur
    rw[htlr] at h5
    refine .start ?_
    have:=V6.2 ((hqm _).2 (List.mem_cons_of_mem _ h5))
    rwa [Int.neg_neg] at this
  obtain⟨o,ho,k1,k2⟩:=h.eng.src id c0 h1
  refine Or.inr ⟨o,(mem_big.1 ho).1,fun y hy=>?_⟩
  have hyc:y∈c0:=Classical.byContradiction fun hn=>by have:=k2 y hy hn;simp at this
  obtain⟨j,j1,j2⟩:=hF.cf y hyc
  exact up j (-y) j1 (by rw[lL];exact j2)
 ·by_cases hr:rest=[]
  ·rw[hbz hr];exact hpos
  obtain⟨y,y1,y2⟩:=hb1 hr
  have hm:=htail 1 y (by omega) y1
  obtain⟨k,k1,k2,k3⟩:=hall y (List.mem_cons_of_mem _ hm)
  rw[←y2,hlfk y k k1]
  exact k3 hm
 ·have hm:=htail j y hj hy
  obtain⟨k,k1,k2,k3⟩:=hall y (List.mem_cons_of_mem _ hm)
  exact⟨k,k1,by rw[←hlfk y k k1];exact hble j y hj hy⟩
 have hr:rest≠[]:=fun e=>by rw[e] at hql;simp at hql;omega
 obtain⟨y,y1,y2⟩:=hb1 hr
 obtain⟨k,k1,_⟩:=hall y ((hqm y).1 (bQ y1))
 exact⟨y,k,y1,k1,by rw[←hlfk y k k1];exact y2⟩
end
theorem swap_ok {q:Que} {i j:Nat} (hi:i<q.list.length) (hj:j<q.list.length):∃l',iJ q (i:Int) (j:Int)=some (Que.mk l' q.isin)∧l'.Perm q.list:=by
 obtain⟨a,ha⟩:=bK hi
 obtain⟨b,hb⟩:=bK hj
 have h3:(q.list.set i b)[j]?=some (if j=i then b else b):=by
  by_cases e:j=i
  ·subst e;rw[if_pos rfl];exact dM hb
  rw[if_neg e,cZ e];exact hb
 have h3':(q.list.set i b)[j]?=some b:=by rw[h3];split<;>rfl
 unfold iJ
 rw[dA hb,bsm,dA ha,bsm,bsm,Int.toNat_natCast,dA h3',bsm,Int.toNat_natCast]
 refine⟨_,rfl,?_⟩
 obtain⟨g1,rfl⟩:=List.getElem?_eq_some_iff.1 ha
 obtain⟨g2,rfl⟩:=List.getElem?_eq_some_iff.1 hb
 exact List.set_set_perm g1 g2
theorem less_ok {q:Que} {i j:Nat} (hi:i<q.list.length) (hj:j<q.list.length):∃b,jG q (i:Int) (j:Int)=some b:=by
 obtain⟨a,ha⟩:=bK hi
 obtain⟨b,hb⟩:=bK hj
 unfold jG
 rw[dA ha,bsm,dA hb,bsm]
 exact⟨_,rfl⟩
theorem up_ok {l:List Int} {isin:List Bool} {j:Nat} (hj:j<l.length) (hl:l.length≤1000000):∃l',F8 (Que.mk l isin) (j:Int)=some (Que.mk l' isin)∧l'.Perm l:=by
 unfold F8
 obtain⟨b,hb,hp,hi⟩:=wC (body:=fun s:Int×List Int×List Bool=>wJ s.1 s.2.1 s.2.2) (fun s=>∃j:Nat,s.1=j∧j<s.2.1.length∧s.2.1.Perm l∧s.2.2=isin) (fun s=>s.1.toNat) (fun b=>b.1.Perm l∧b.2=isin) (by
  rintro⟨j',l1,in1⟩ ⟨j,rfl,hj,hp,rfl⟩
  simp only at hj hp
  have hl1:l1.length≤1000000:=by rw[hp.length_eq];exact hl
  unfold wJ
  simp only
  rw[gW ⟨by omega,by omega⟩,bsm]
  by_cases h0:j=0
  ·subst h0
   have e:quoK .i64 (((0:Nat):Int)-1) 2=some 0:=by decide+kernel
   rw[e,bsm,if_pos (show decide ((0:Int)=((0:Nat):Int))=true from rfl),bsm,if_pos (show true=true from rfl)]
   exact Or.inr ⟨_,rfl,hp,rfl⟩
  have e:quoK .i64 ((j:Int)-1) 2=some (((j-1) / 2:Nat):Int):=by
   rw[quoK_pos (by omega) (by decide) (by omega)]
   congr 1
   omega
  rw[e,bsm,if_neg (by simp;omega)]
  obtain⟨b,hb⟩:=less_ok (q:=Que.mk l1 in1) (i:=j) (j:=(j-1) / 2) hj (show(j-1) / 2<l1.length by omega)
  rw[hb,bsm,bsm]
  cases b with
  |false=>
   rw[if_pos (show(!false)=true from rfl)]
   exact Or.inr ⟨_,rfl,hp,rfl⟩
  |true=>
   rw[if_neg (by decide)]
   obtain⟨l',h1,h2⟩:=swap_ok (q:=Que.mk l1 in1) (i:=(j-1) / 2) (j:=j) (show(j-1) / 2<l1.length by omega) hj
   rw[h1,bsm]
   refine Or.inl ⟨_,rfl,⟨(j-1) / 2,rfl,?_,h2.trans hp,rfl⟩,?_⟩
   ·show(j-1) / 2<l'.length
    rw[h2.length_eq]
    show(j-1) / 2<l1.length
    omega
   show((((j-1) / 2:Nat):Int)).toNat<((j:Int)).toNat
   omega) ((j:Int),l,isin) ⟨j,rfl,hj,.refl _,rfl⟩
 simp only
 rw[hb,bsm]
 exact⟨b.1,by rw[hi],hp⟩
theorem down_ok {l:List Int} {isin:List Bool} {m:Nat} (hm:m≤l.length) (hl:l.length≤1000000):∃b l',wX (Que.mk l isin) 0 (m:Int)=some (b,Que.mk l' isin)∧l'.Perm l∧∀j,m≤j→l'[j]?=l[j]?:=by
 unfold wX
 obtain⟨b,hb,hp,hi,hk⟩:=wC (body:=fun s:Int×List Int×List Bool=>uI (m:Int) s.1 s.2.1 s.2.2) (fun s=>∃i:Nat,s.1=i∧i≤m∧s.2.1.Perm l∧s.2.2=isin∧∀j,m≤j→s.2.1[j]?=l[j]?) (fun s=>((m:Int)-s.1).toNat) (fun b=>b.2.1.Perm l∧b.2.2=isin∧∀j,m≤j→b.2.1[j]?=l[j]?) (by
  rintro⟨i',l1,in1⟩ ⟨i,rfl,hi,hp,rfl,hk⟩
  simp only at hi hp hk
  have hl1:l1.length=l.length:=hp.length_eq
  unfold uI
  simp only
  rw[gW ⟨by omega,by omega⟩,bsm,gW ⟨by omega,by omega⟩,bsm]
  by_cases h0:(m:Int)≤2*(i:Int)+1
  ·rw[if_pos (by simp;omega)]
   exact Or.inr ⟨_,rfl,hp,rfl,hk⟩
  rw[if_neg (by simp;omega),oM (show 2*(i:Int)+1+1=((2*i+2:Nat):Int) by omega) ⟨by omega,by omega⟩,bsm]
  rw[show(2*(i:Int)+1)=((2*i+1:Nat):Int) by omega]
  obtain⟨j1,hj1,hjl,hji⟩:∃j1:Nat,(((if(decide (((2*i+2:Nat):Int)<(m:Int)))=true then
    (jG (Que.mk l1 in1) ((2*i+2:Nat):Int) ((2*i+1:Nat):Int)).bind fun x4=>some x4
   else some false):Option Bool).bind fun m1=>((if m1=true then some ((2*i+2:Nat):Int) else some ((2*i+1:Nat):Int)):Option Int))=some (j1:Int)∧j1<m∧i<j1:=by
   by_cases h1:(2*i+2:Nat)<m
   ·obtain⟨b,hb⟩:=less_ok (q:=Que.mk l1 in1) (i:=2*i+2) (j:=2*i+1) (show 2*i+2<l1.length by omega) (show 2*i+1<l1.length by omega)
    rw[if_pos (by rw[decide_eq_true_eq];omega),hb,bsm,bsm]
    cases b with
    |true=>exact⟨2*i+2,by rw[if_pos rfl],h1,by omega⟩
    |false=>exact⟨2*i+1,by rw[if_neg (by decide)],by omega,by omega⟩
   rw[if_neg (by rw[decide_eq_true_eq];omega),bsm,if_neg (by decide)]
   exact⟨2*i+1,rfl,by omega,by omega⟩
  obtain⟨m1,e1,e2⟩:=bnd hj1
  rw[e1,bsm,e2,bsm]
  obtain⟨b,hb⟩:=less_ok (q:=Que.mk l1 in1) (i:=j1) (j:=i) (show j1<l1.length by omega) (show i<l1.length by omega)
  rw[hb,bsm]
  cases b with
  |false=>
   rw[if_pos (show(!false)=true from rfl)]
   exact Or.inr ⟨_,rfl,hp,rfl,hk⟩
  |true=>
   rw[if_neg (by decide)]
   have hs:∃l',iJ (Que.mk l1 in1) (i:Int) (j1:Int)=some (Que.mk l' in1)∧l'.Perm l1∧∀j,m≤j→l'[j]?=l1[j]?:=by
    obtain⟨a,ha⟩:=bK (show i<l1.length by omega)
    obtain⟨b,hb⟩:=bK (show j1<l1.length by omega)
    have h3:(l1.set i b)[j1]?=some b:=by rw[cZ (by omega)];exact hb
    unfold iJ
    simp only
    rw[dA hb,bsm,dA ha,bsm,bsm,Int.toNat_natCast,dA h3,bsm,Int.toNat_natCast]
    refine⟨_,rfl,?_,fun j hj=>by rw[cZ (by omega),cZ (by omega)]⟩
    obtain⟨g1,rfl⟩:=List.getElem?_eq_some_iff.1 ha
    obtain⟨g2,rfl⟩:=List.getElem?_eq_some_iff.1 hb
    exact List.set_set_perm g1 g2
   obtain⟨l',h1,h2,h3⟩:=hs
   rw[h1,bsm]
   refine Or.inl ⟨_,rfl,⟨j1,rfl,by omega,h2.trans hp,rfl,fun j hj=>(h3 j hj).trans (hk j hj)⟩,?_⟩
   show((m:Int)-(j1:Int)).toNat<((m:Int)-(i:Int)).toNat
   omega) ((0:Int),l,isin) ⟨0,rfl,Nat.zero_le _,.refl _,rfl,fun _ _=>rfl⟩
 simp only
 rw[hb,bsm]
 exact⟨_,b.2.1,by rw[hi],hp,hk⟩
structure QOk (n:Int) (q:Que):Prop where
 il:(q.isin.length:Int)=n+1
 nd:q.list.Nodup
 rng:∀v∈q.list,1≤v∧v≤n
 ii:∀(v:Nat),q.isin[v]?=some true↔(v:Int)∈q.list
theorem QOk.len {n:Int} {q:Que} (h:QOk n q) (hn:0≤n):(q.list.length:Int)≤n:=by
 have h1:=wY n.toNat (q.list.map fun x=>x.toNat-1) (by
  unfold List.Nodup
  rw[List.pairwise_map]
  refine List.Pairwise.imp_of_mem (fun{a b} ha hb hne he=>hne ?_) h.nd
  have:=h.rng a ha
  have:=h.rng b hb
  omega) (fun x hx=>by
  obtain⟨y,hy,rfl⟩:=List.mem_map.1 hx
  have:=h.rng y hy
  omega)
 rw[List.length_map] at h1
 omega
theorem push_ok {n:Int} {q:Que} (h:QOk n q) (hn:0≤n∧n≤65536) {v:Int} (hv:1≤v∧v≤n) (hnew:v∉q.list):∃q',uT q v=some q'∧QOk n q'∧∀x,x∈q'.list↔x=v∨x∈q.list:=by
 have hlen:=h.len hn.1
 obtain⟨b,hb⟩:=bK (show v.toNat<q.isin.length by have:=h.il;omega)
 unfold uT qJ
 rw[kE (by omega) hb,bsm,oV (by simp;omega),bsm,bsm]
 unfold jX
 rw[bsm]
 simp only
 rw[oM (m:=(q.list.length:Int)) (by simp) ⟨by omega,by omega⟩,bsm]
 obtain⟨l',h1,h2⟩:=up_ok (l:=q.list++[v]) (isin:=q.isin.set v.toNat true) (j:=q.list.length) (by simp) (by simp;omega)
 rw[h1,bsm]
 have hm:∀x,x∈l'↔x=v∨x∈q.list:=fun x=>by
  rw[h2.mem_iff,List.mem_append,List.mem_singleton]
  exact⟨fun h=>h.elim Or.inr Or.inl,fun h=>h.elim Or.inr Or.inl⟩
 refine⟨_,rfl,⟨by show((q.isin.set v.toNat true).length:Int)=_;rw[List.length_set];exact h.il,?_,fun x hx=>?_,fun x=>?_⟩,hm⟩
 ·refine h2.nodup_iff.2 ?_
  rw[List.nodup_append]
  exact⟨h.nd,by simp,fun a ha b hb=>by rw[List.mem_singleton] at hb;subst hb;exact fun e=>hnew (e▸ha)⟩
 ·rcases(hm x).1 hx with rfl|hx
  ·exact hv
  exact h.rng x hx
 show(q.isin.set v.toNat true)[x]?=some true↔(x:Int)∈l'
 rw[hm]
 by_cases e:x=v.toNat
 ·subst e
  rw[dM hb]
  exact⟨fun _=>Or.inl (by omega),fun _=>rfl⟩
 rw[cZ e,h.ii]
 exact⟨Or.inr,fun h=>h.resolve_left (by omega)⟩
theorem pop_ok {n:Int} {q:Que} (h:QOk n q) (hn:0≤n∧n≤65536) (hne:q.list≠[]):∃v q',yQ q=some (v,q')∧v∈q.list∧QOk n q'∧q'.list.length<q.list.length∧∀x,x∈q'.list↔x≠v∧x∈q.list:=by
 have hlen:=h.len hn.1
 have hpos:0<q.list.length:=List.length_pos_iff.2 hne
 unfold yQ jX
 rw[bsm,oM (show(q.list.length:Int)-1=((q.list.length-1:Nat):Int) by omega) ⟨by omega,by omega⟩,bsm]
 obtain⟨l1,h1,h2⟩:=swap_ok (q:=q) (i:=0) (j:=q.list.length-1) hpos (by omega)
 rw[show(0:Int)=((0:Nat):Int) from rfl,h1,bsm]
 have hl1:=h2.length_eq
 obtain⟨b,l2,h3,h4,h5⟩:=down_ok (l:=l1) (isin:=q.isin) (m:=q.list.length-1) (by omega) (by omega)
 rw[show((0:Nat):Int)=0 from rfl,h3,bsm]
 have hl2:=h4.length_eq
 unfold rF
 simp only
 obtain⟨v,hv⟩:=bK (show q.list.length-1<l2.length by omega)
 have hperm:l2.Perm q.list:=h4.trans h2
 have hvm:v∈q.list:=hperm.mem_iff.1 (bQ hv)
 have hvr:=h.rng v hvm
 obtain⟨c,hc⟩:=bK (show v.toNat<q.isin.length by have:=h.il;omega)
 rw[oM (show(l2.length:Int)-1=((q.list.length-1:Nat):Int) by omega) ⟨by omega,by omega⟩,bsm,dA hv,bsm,yV (by decide) (by omega) (by omega),bsm,kE (by omega) hc,bsm,bsm]
 have hsplit:l2=l2.take (q.list.length-1)++[v]:=by
  have:=fA hv
  rw[show q.list.length-1+1=l2.length by omega,List.take_length] at this
  exact this
 have hnd2:(l2.take (q.list.length-1)++[v]).Nodup:=by rw[←hsplit];exact hperm.nodup_iff.2 h.nd
 rw[List.nodup_append] at hnd2
 have hm:∀x,x∈l2.take (q.list.length-1)↔x≠v∧x∈q.list:=fun x=>by
  rw[←hperm.mem_iff]
  conv=>rhs;rw[hsplit]
  rw[List.mem_append,List.mem_singleton]
  exact⟨fun hx=>⟨fun e=>hnd2.2.2 x hx v (by simp) e,Or.inl hx⟩,fun⟨h1,h2⟩=>h2.resolve_right h1⟩
 have e0:(List.take (((q.list.length-1:Nat):Int)).toNat l2).drop (0:Int).toNat=l2.take (q.list.length-1):=by rw[Int.toNat_natCast];rfl
 rw[e0]
 refine⟨v,_,rfl,hvm,⟨by show((q.isin.set v.toNat false).length:Int)=_;rw[List.length_set];exact h.il,hnd2.1,fun x hx=>h.rng x ((hm x).1 hx).2,fun x=>?_⟩,by show(l2.take _).length<_;rw[List.length_take];omega,hm⟩
 show(q.isin.set v.toNat false)[x]?=some true↔(x:Int)∈l2.take (q.list.length-1)
 rw[hm]
 by_cases e:x=v.toNat
 ·subst e
  rw[dM hc]
  exact⟨fun h=>(by cases h),fun h=>absurd (by omega) h.1⟩
 rw[cZ e,h.ii]
 exact⟨fun h=>⟨by omega,h⟩,fun h=>h.2⟩
theorem Why.more {F G:List (List Int)} {st trail:List Int} {cl:List (List Int)} {d:List Int} {i:Nat} {x:Int} {r:Option Nat} (hF:∀c∈F,c∈G) (h:Why F st trail cl i x r):Why G st trail (cl++[d]) i x r:=by
 cases r with
 |none=>exact h.imp id fun h=>⟨h.1,h.2.mono hF (fun _ h=>h)⟩
 |some k=>
  obtain⟨c,h1,h2⟩:=h
  exact⟨c,by rw[List.getElem?_append_left (dB h1)];exact h1,h2⟩
theorem Why.grow {F G:List (List Int)} {st trail:List Int} {cl:List (List Int)} {i:Nat} {x:Int} {r:Option Nat} (hF:∀c∈F,c∈G) (h:Why F st trail cl i x r):Why G st trail cl i x r:=by
 cases r with
 |none=>exact h.imp id fun h=>⟨h.1,h.2.mono hF (fun _ h=>h)⟩
 |some k=>exact h
section
variable {n:Int} {F:List (List Int)} {st:List Int} {D:Nat→Int→Prop} {val lev:List Int} {rea:List (Option Nat)} {trail:List Int} {ws:List (List Nat)} {cl:List (List Int)}
theorem Cor.addU (h:Cor n F st D val lev rea trail ws cl) {q:List Int} (hq:¬2≤q.length):Cor n (F++[q]) st D val lev rea trail ws cl:=
 {h with
  eng:=by rw[big_snoc' F hq];exact h.eng
  re:=fun i x r hx hr=>(h.re i x r hx hr).grow fun c hc=>List.mem_append_left _ hc}
theorem Cor.addW (h:Cor n F st D val lev rea trail ws cl) {q d:List Int} {a b:Int} {Ra Rb:List Nat} (hq:2≤q.length) (ha:d[0]?=some a) (hb:d[1]?=some b) (hnd:d.Nodup) (hlit:∀y∈d,y≠0∧vr y≤n) (hsub:∀y,y∈d↔y∈q)
  (hra:ws[ixL a]?=some Ra) (hrb:ws[ixL b]?=some Rb) (hbas:∀c∈st,∀w o,Pair d w o→ -w∈trail.take c.toNat→o∈trail.take c.toNat):
  Cor n (F++[q]) st (fun i w=>D i w∧i≠cl.length) val lev rea trail ((ws.set (ixL a) (Ra++[cl.length])).set (ixL b) (Rb++[cl.length])) (cl++[d]):=by
 have hF:∀c∈F,c∈F++[q]:=fun c hc=>List.mem_append_left _ hc
 refine{h with eng:=?_,re:=fun i x r hx hr=>(h.re i x r hx hr).more hF,rid:=fun id hid=>?_,bas:=fun c hc id e w o he hp hw=>?_}
 ·rw[big_snoc F hq]
  exact h.eng.addW ha hb hnd hlit hsub hra hrb
 ·have:=h.rid id hid
  rw[List.length_append];omega
 rw[List.getElem?_append] at he
 split at he
 ·exact h.bas c hc id e w o he hp hw
 have hs: [d][id-cl.length]?=some e:=he
 have:e=d:=by
  have:=bQ hs
  simpa using this
 subst this
 exact hbas c hc w o hp hw
theorem watch_round {x1:Nat} {x3:List Int} {k:Nat} {l:Int} {W:List (List Nat)×List (List Int)} {R:List Nat} (hk:x3[k]?=some l) (hkl:x3.length≤1000) (hl: -1099511627776≤l∧l≤1099511627776) (hR:W.1[ixL l]?=some R) (hRl:R.length≤1000000000):
  kS x1 x3 (k:Int) W=some (.next (((k+1:Nat):Int),(W.1.set (ixL l) (R++[x1]),W.2))):=by
 have hlt:=dB hk
 unfold kS
 rw[if_pos (ltB hlt),dA hk,bsm,aA9 hl,bsm,bsm,dA hR,bsm,oV (by simp;omega),bsm,pV,bsm,jA hlt (by omega),bsm]
 rfl
theorem swatch_ok {s:Sol} {id:Nat} {d:List Int} {a b:Int} {Ra Rb:List Nat} (hd:s.watches.2[id]?=some d) (ha:d[0]?=some a) (hb:d[1]?=some b) (hab:a≠b) (hla: -1099511627776≤a∧a≤1099511627776) (hlb: -1099511627776≤b∧b≤1099511627776)
  (hRa:s.watches.1[ixL a]?=some Ra) (hRb:s.watches.1[ixL b]?=some Rb) (hRal:Ra.length≤1000000000) (hRbl:Rb.length≤1000000000):
  kZ s (some id)=some (Sol.mk s.value s.level s.reason s.saved ((s.watches.1.set (ixL a) (Ra++[id])).set (ixL b) (Rb++[id]),s.watches.2) s.trail s.starts s.head s.queue s.proof s.literals s.broken):=by
 have hix:ixL b≠ixL a:=fun e=>hab (sW e).symm
 have hlen:=dB hb
 have e2:sub d 0 2=some [a,b]:=by
  rw[yV (by decide) (by omega) (by omega)]
  match d,ha,hb with
  |x::y::r,ha,hb=>
   simp only[List.getElem?_cons_zero,List.getElem?_cons_succ,Option.some.injEq] at ha hb
   subst ha hb
   rfl
 unfold kZ
 rw[bsm,hd,bsm,e2,bsm]
 have r0:=watch_round (x1:=id) (x3:=[a,b]) (k:=0) (W:=s.watches) rfl (by simp) hla hRa hRal
 have r1:=watch_round (x1:=id) (x3:=[a,b]) (k:=1) (W:=(s.watches.1.set (ixL a) (Ra++[id]),s.watches.2)) rfl (by simp) hlb (by show(s.watches.1.set _ _)[ixL b]?=_;rw[cZ hix];exact hRb) hRbl
 rw[gJ r0,gJ r1,eF (b:=((s.watches.1.set (ixL a) (Ra++[id])).set (ixL b) (Rb++[id]),s.watches.2)) (by simp[kS]),bsm]
 simp only
 rw[set_self hd]
def SvOk (n:Int) (sv:List Int):Prop:=(sv.length:Int)=n+1∧∀(v:Nat) x,1≤v→sv[v]?=some x→x=v∨x= -(v:Int)
theorem SvOk.set {sv:List Int} (h:SvOk n sv) {x:Int} (hx:x≠0):SvOk n (sv.set (vr x).toNat x):=by
 refine⟨by rw[List.length_set];exact h.1,fun v y hv hy=>?_⟩
 rcases dX hy with⟨rfl,rfl⟩|⟨_,hy⟩
 ·have:=H6 y
  have:=jP y
  omega
 exact h.2 v y hv hy
set_option maxHeartbeats 1000000 in
theorem undo_loop (hn:0≤n∧n≤65536) {dr sv:List Int} {q:Que} (hd:∀x∈dr,vr x≤n∧x≠0) (hdl:dr.length≤1000000) (hv:(val.length:Int)=n+1) (hr:(rea.length:Int)=n+1) (hs:SvOk n sv) (hq:QOk n q):
  ∃r,dC (fun s:Int×List Int×List (Option Nat)×List Int×List Int×List Bool=>jF dr s.1 s.2.1 s.2.2.1 s.2.2.2.1 s.2.2.2.2.1 s.2.2.2.2.2) (0,val,rea,sv,q.list,q.isin)=some r∧
   r.1.length=val.length∧(∀(v:Nat),(∃x∈dr,(vr x).toNat=v)→r.1[v]?=some 0∨val.length≤v)∧(∀(v:Nat),(∀x∈dr,(vr x).toNat≠v)→r.1[v]?=val[v]?)∧
   r.2.1.length=rea.length∧(∀(v:Nat) o,r.2.1[v]?=some o→o=none∨rea[v]?=some o)∧(∀(v:Nat),(∀x∈dr,(vr x).toNat≠v)→r.2.1[v]?=rea[v]?)∧
   SvOk n r.2.2.1∧QOk n (Que.mk r.2.2.2.1 r.2.2.2.2)∧(∀x∈q.list,x∈r.2.2.2.1)∧∀x∈dr,vr x∈r.2.2.2.1:=by
 refine uA (body:=fun s:Int×List Int×List (Option Nat)×List Int×List Int×List Bool=>jF dr s.1 s.2.1 s.2.2.1 s.2.2.2.1 s.2.2.2.2.1 s.2.2.2.2.2) dr.length (fun k (t:List Int×List (Option Nat)×List Int×List Int×List Bool)=>((k:Int),t))
  (fun k r=>r.1.length=val.length∧(∀(v:Nat),(∃x∈dr.take k,(vr x).toNat=v)→r.1[v]?=some 0∨val.length≤v)∧(∀(v:Nat),(∀x∈dr.take k,(vr x).toNat≠v)→r.1[v]?=val[v]?)∧
   r.2.1.length=rea.length∧(∀(v:Nat) o,r.2.1[v]?=some o→o=none∨rea[v]?=some o)∧(∀(v:Nat),(∀x∈dr.take k,(vr x).toNat≠v)→r.2.1[v]?=rea[v]?)∧
   SvOk n r.2.2.1∧QOk n (Que.mk r.2.2.2.1 r.2.2.2.2)∧(∀x∈q.list,x∈r.2.2.2.1)∧∀x∈dr.take k,vr x∈r.2.2.2.1) _ (t0:=(val,rea,sv,q.list,q.isin)) rfl
  ⟨rfl,fun v ⟨x,hx,_⟩=>by simp at hx,fun v _=>rfl,rfl,fun v o h=>Or.inr h,fun v _=>rfl,hs,hq,fun x h=>h,fun x hx=>by simp at hx⟩ ?_ ?_
 ·rintro k ⟨v',r',s',ql,qi⟩ hk ⟨h1,h2,h3,g1,g2,g3,hs',hq',hqo,hqn⟩
  simp only at h1 h2 h3 g1 g2 g3 hs' hq' hqo hqn
  obtain⟨x,hx⟩:=bK hk
  obtain⟨hxn,hx0⟩:=hd x (bQ hx)
  have hxb:=oI.1 hxn
  have hx1:=jP x
  have hx2:vr x≠0:=fun e=>hx0 (qC.1 e)
  have htk:=fA hx
  obtain⟨y1,e1⟩:=bK (show(vr x).toNat<v'.length by omega)
  obtain⟨y2,e2⟩:=bK (show(vr x).toNat<r'.length by omega)
  obtain⟨y3,e3⟩:=bK (show(vr x).toNat<s'.length by have:=hs'.1;omega)
  obtain⟨y4,e4⟩:=bK (show(vr x).toNat<qi.length by have:(qi.length:Int)=n+1:=hq'.il;omega)
  have hup:=jA hk (show dr.length≤9223372036854775807 by omega)
  have a1:(v'.set (vr x).toNat 0).length=val.length:=by rw[List.length_set];exact h1
  have a2:∀(v:Nat),(∃z∈dr.take (k+1),(vr z).toNat=v)→(v'.set (vr x).toNat 0)[v]?=some 0∨val.length≤v:=fun v hv'=>by
   rw[htk] at hv'
   obtain⟨z,hz,rfl⟩:=hv'
   by_cases e:(vr z).toNat=(vr x).toNat
   ·rw[e];exact Or.inl (dM e1)
   rw[cZ e]
   rw[List.mem_append,List.mem_singleton] at hz
   rcases hz with hz|rfl
   ·exact h2 _ ⟨z,hz,rfl⟩
   exact absurd rfl e
  have a3:∀(v:Nat),(∀z∈dr.take (k+1),(vr z).toNat≠v)→(v'.set (vr x).toNat 0)[v]?=val[v]?:=fun v hv'=>by
   rw[htk] at hv'
   rw[cZ (fun e=>hv' x (by simp) e.symm)]
   exact h3 v fun z hz=>hv' z (List.mem_append_left _ hz)
  have b1:(r'.set (vr x).toNat none).length=rea.length:=by rw[List.length_set];exact g1
  have b2:∀(v:Nat) o,(r'.set (vr x).toNat none)[v]?=some o→o=none∨rea[v]?=some o:=fun v o ho=>by
   rcases dX ho with⟨_,rfl⟩|⟨_,ho⟩
   ·exact Or.inl rfl
   exact g2 v o ho
  have b3:∀(v:Nat),(∀z∈dr.take (k+1),(vr z).toNat≠v)→(r'.set (vr x).toNat none)[v]?=rea[v]?:=fun v hv'=>by
   rw[htk] at hv'
   rw[cZ (fun e=>hv' x (by simp) e.symm)]
   exact g3 v fun z hz=>hv' z (List.mem_append_left _ hz)
  have c1:=hs'.set (n:=n) hx0
  simp only[jF,ltB hk,if_true,dA hx,bsm,wM (show -1099511627776≤x∧x≤1099511627776 by omega),kE hx1 e1,kE hx1 e2,kE hx1 e3,kE hx1 e4]
  cases y4 with
  |true=>
   simp only[Bool.not_true,Bool.false_eq_true,if_false,hup,bsm]
   refine Or.inl ⟨(v'.set (vr x).toNat 0,r'.set (vr x).toNat none,s'.set (vr x).toNat x,ql,qi),rfl,a1,a2,a3,b1,b2,b3,c1,hq',hqo,fun z hz=>?_⟩
   rw[htk,List.mem_append,List.mem_singleton] at hz
   rcases hz with hz|rfl
   ·exact hqn z hz
   have:=(hq'.ii (vr z).toNat).1 e4
   rwa [Int.toNat_of_nonneg hx1] at this
  |false=>
   have hnew:vr x∉ql:=fun hm=>by
    have:=(hq'.ii (vr x).toNat).2 (by rw[Int.toNat_of_nonneg hx1];exact hm)
    have h5:qi[(vr x).toNat]?=some true:=this
    rw[e4] at h5
    cases h5
   obtain⟨q2,p1,p2,p3⟩:=push_ok hq' hn (v:=vr x) ⟨by omega,hxn⟩ hnew
   simp only[Bool.not_false,if_true,p1,hup,bsm]
   refine Or.inl ⟨(v'.set (vr x).toNat 0,r'.set (vr x).toNat none,s'.set (vr x).toNat x,q2.list,q2.isin),rfl,a1,a2,a3,b1,b2,b3,c1,p2,fun z hz=>(p3 z).2 (Or.inr (hqo z hz)),fun z hz=>?_⟩
   rw[htk,List.mem_append,List.mem_singleton] at hz
   rcases hz with hz|rfl
   ·exact(p3 _).2 (Or.inr (hqn z hz))
   exact(p3 _).2 (Or.inl rfl)
 rintro⟨v',r',s',ql,qi⟩ hI
 rw[List.take_length] at hI
 refine⟨(v',r',s',ql,qi),?_,hI⟩
 simp only[jF,rY,if_false,Bool.false_eq_true]
end
def Unq (n:Int) (val:List Int) (l:List Int):Prop:=∀v:Int,1≤v→v≤n→val[v.toNat]?=some 0→v∈l
section
variable {n:Int} {F:List (List Int)} {st:List Int} {D:Nat→Int→Prop}
theorem sundo_ok {s:Sol} (h:Cor n F s.starts D s.value s.level s.reason s.trail s.watches.1 s.watches.2) (hn:0≤n∧n≤65536) (hs:SvOk n s.saved) (hq:QOk n s.queue) (hu:Unq n s.value s.queue.list) {k:Nat} {b:Int} (hk:s.starts[k]?=some b):
  ∃v' r' sv' q',nX s (k:Int)=some (Sol.mk v' s.level r' sv' s.watches (s.trail.take b.toNat) (s.starts.take k) b q' s.proof s.literals s.broken)∧Cor n F (s.starts.take k) (fun _ w=> -w∈s.trail.take b.toNat) v' s.level r' (s.trail.take b.toNat) s.watches.1 s.watches.2∧SvOk n sv'∧QOk n q'∧Unq n v' q'.list:=by
 have hkl:=dB hk
 have hb:=h.stb b (bQ hk)
 have htl:=h.eng.trailLen hn.1
 obtain⟨r,e1,a1,a2,a3,b1,b2,b3,c1,c2,c3,c4⟩:=undo_loop (n:=n) (val:=s.value) (rea:=s.reason) hn (dr:=s.trail.drop b.toNat) (sv:=s.saved) (q:=s.queue) (fun x hx=>by
  have:=h.lit (List.mem_of_mem_drop hx);exact⟨this.2,this.1⟩) (by rw[List.length_drop];omega) h.eng.vo.len h.rl hs hq
 unfold nX
 have s1:sub s.trail b (s.trail.length:Int)=some (s.trail.drop b.toNat):=by
  rw[yV hb.1 (by omega) (by omega),Int.toNat_natCast,List.take_length]
 have s2:sub s.trail 0 b=some (s.trail.take b.toNat):=by rw[yV (by decide) hb.1 (by omega)];rfl
 have s3:sub s.starts 0 (k:Int)=some (s.starts.take k):=by rw[yV (by decide) (by omega) (by omega),Int.toNat_natCast];rfl
 rw[if_neg (by simp;omega),dA hk,bsm,s1,bsm,e1,bsm,s2,bsm,s3,bsm]
 refine⟨r.1,r.2.1,r.2.2.1,Que.mk r.2.2.2.1 r.2.2.2.2,rfl,h.undo hk a1 b1 a2 a3 b2 b3,c1,c2,fun v hv1 hv2 hv0=>?_⟩
 by_cases hx:∃x∈s.trail.drop b.toNat,(vr x).toNat=v.toNat
 ·obtain⟨x,hx,e⟩:=hx
  have:=c4 x hx
  have h1:=jP x
  rwa [show vr x=v by omega] at this
 have:∀x∈s.trail.drop b.toNat,(vr x).toNat≠v.toNat:=fun x h1 h2=>hx ⟨x,h1,h2⟩
 rw[a3 _ this] at hv0
 exact c3 v (hu v hv1 hv2 hv0)
theorem sdecide_ok {s:Sol} (h:Cor n F s.starts (fun _ w=> -w∈s.trail) s.value s.level s.reason s.trail s.watches.1 s.watches.2) (hn:0≤n∧n≤65536) (hs:SvOk n s.saved) (hq:QOk n s.queue) (hu:Unq n s.value s.queue.list):
  (∃v' l' r' q' x,kH s=some (true,Sol.mk v' l' r' s.saved s.watches (s.trail++[x]) (s.starts++[(s.trail.length:Int)]) s.head q' s.proof s.literals s.broken)∧Cor n F (s.starts++[(s.trail.length:Int)]) (fun _ w=> -w∈s.trail) v' l' r' (s.trail++[x]) s.watches.1 s.watches.2∧QOk n q'∧Unq n v' q'.list)∨
  (∃q',kH s=some (false,Sol.mk s.value s.level s.reason s.saved s.watches s.trail s.starts s.head q' s.proof s.literals s.broken)∧∀v:Int,1≤v→v≤n→s.value[v.toNat]?≠some 0):=by
 have htl:=h.eng.trailLen hn.1
 obtain⟨b,hb,hp⟩:=wC (body:=fun t:List Int×List Bool=>mM s t.1 t.2) (fun t=>QOk n (Que.mk t.1 t.2)∧Unq n s.value t.1) (fun t=>t.1.length)
  (fun b=>(∃v' l' r' q' x,b= .ret (true,Sol.mk v' l' r' s.saved s.watches (s.trail++[x]) (s.starts++[(s.trail.length:Int)]) s.head q' s.proof s.literals s.broken)∧Cor n F (s.starts++[(s.trail.length:Int)]) (fun _ w=> -w∈s.trail) v' l' r' (s.trail++[x]) s.watches.1 s.watches.2∧QOk n q'∧Unq n v' q'.list)∨
   (∃t,b= .brk t∧∀v:Int,1≤v→v≤n→s.value[v.toNat]?≠some 0)) (by
  rintro⟨ql,qi⟩ ⟨hq,hu⟩
  simp only at hq hu
  unfold mM jX
  rw[bsm]
  by_cases hne:ql=[]
  ·subst hne
   rw[if_neg (by simp)]
   exact Or.inr ⟨_,rfl,Or.inr ⟨_,rfl,fun v h1 h2 h3=>by have:=hu v h1 h2 h3;simp at this⟩⟩
  obtain⟨v,q',p1,p2,p3,p4,p5⟩:=pop_ok hq hn hne
  have hv:=hq.rng v p2
  obtain⟨y,hy⟩:=bK (show v.toNat<s.value.length by have:=h.eng.vo.len;omega)
  rw[if_pos (by simp;exact List.length_pos_iff.2 hne),p1,bsm,kE (by omega) hy,bsm]
  by_cases h0:y=0
  ·subst h0
   obtain⟨x,hx⟩:=bK (show v.toNat<s.saved.length by have:=hs.1;omega)
   have hx2:=hs.2 v.toNat x (by omega) hx
   have hvx:vr x=v:=by unfold vr;omega
   have hstl:s.starts.length≤s.trail.length:=by
    have h1:=wY s.trail.length (s.starts.map Int.toNat) (by
     unfold List.Nodup
     rw[List.pairwise_map]
     refine List.Pairwise.imp_of_mem (fun{a b} ha hb hlt=>?_) h.sts
     have:=h.stb a ha
     have:=h.stb b hb
     omega) (fun z hz=>by
     obtain⟨b,hb,rfl⟩:=List.mem_map.1 hz
     have:=h.stb b hb
     omega)
    rwa [List.length_map] at h1
   have hz:gv s.value x=some 0:=by unfold gv;rw[hvx];exact hy
   rw[if_pos (by simp),oV (by simp;omega),bsm,kE (by omega) hx,bsm]
   dsimp only
   rw[V9 (s:=Sol.mk s.value s.level s.reason s.saved s.watches s.trail (s.starts++[(s.trail.length:Int)]) s.head q' s.proof s.literals s.broken) h (by rw[hvx];omega) hn.2 hn.1 none rfl rfl rfl rfl,bsm]
   refine Or.inr ⟨_,rfl,Or.inl ⟨_,_,_,q',x,rfl,?_,p3,fun w h1 h2 h3=>(p5 w).2 ?_⟩⟩
   ·have hlen:((s.starts++[(s.trail.length:Int)]).length:Int)=(s.starts.length:Int)+1:=by simp
    simp only[hlen]
    exact h.decide (by omega) (by rw[hvx];omega) hz
   rcases dX h3 with⟨e,e0⟩|⟨hne,h3⟩
   ·omega
   exact⟨fun e=>hne (by rw[hvx,e]),hu w h1 h2 h3⟩
  rw[if_neg (by simpa using h0)]
  refine Or.inl ⟨_,rfl,⟨p3,fun w h1 h2 h3=>(p5 w).2 ⟨fun e=>?_,hu w h1 h2 h3⟩⟩,p4⟩
  subst e
  exact h0 (Option.some.inj (hy.symm.trans h3))) (s.queue.list,s.queue.isin) ⟨hq,hu⟩
 unfold kH
 rw[hb,bsm]
 rcases hp with⟨v',l',r',q',x,rfl,h1⟩|⟨t,rfl,h1⟩
 ·exact Or.inl ⟨v',l',r',q',x,rfl,h1⟩
 exact Or.inr ⟨_,rfl,h1⟩
end
structure SInv (n:Int) (F:List (List Int)) (s:Sol):Prop where
 cor:Cor n F s.starts (fun _ w=> -w∈s.trail.take s.head.toNat) s.value s.level s.reason s.trail s.watches.1 s.watches.2
 hd:0≤s.head∧s.head≤s.trail.length∧∀b∈s.starts,b≤s.head
 q:QOk n s.queue
 un:Unq n s.value s.queue.list
 sv:SvOk n s.saved
 unit:s.broken=false→∀l,[l]∈F→∃k:Nat,s.trail[k]?=some l∧lvl s.starts k=0
 emp:s.broken=false→[]∉F
 brk:s.broken=true→Fails F []
 cll:s.watches.2.length≤F.length
section
variable {n:Int} {F:List (List Int)}
theorem Cor.idsQ {st:List Int} {D:Nat→Int→Prop} {val lev:List Int} {rea:List (Option Nat)} {trail:List Int} {ws:List (List Nat)} {cl:List (List Int)} (h:Cor n F st D val lev rea trail ws cl):guardQ cl.length rea=some ():=by
 unfold guardQ idsOkQ
 rw[if_pos]
 rw[List.all_eq_true]
 intro o ho
 cases o with
 |none=>rfl
 |some i=>simpa using h.rid i ho
theorem Cor.put {st:List Int} {D:Nat→Int→Prop} {val lev:List Int} {rea:List (Option Nat)} {trail:List Int} {ws:List (List Nat)} {cl:List (List Int)} (h:Cor n F st D val lev rea trail ws cl) (c:List Int):arPut cl ws c=some (cl++[c]):=by
 unfold arPut;rw[if_pos h.eng.ids]
theorem sadd_ok (hn:0≤n∧n≤65536) (hF:F.length≤1000000) {s:Sol} (h:SInv n F s) (hst:s.starts=[]) (hh:s.head=0) {q:List Int} (hq:uM n q):
  ∃v l r W t br,mO s q=some (Sol.mk v l r s.saved W t s.starts s.head s.queue s.proof s.literals br)∧SInv n (F++[q]) (Sol.mk v l r s.saved W t s.starts s.head s.queue s.proof s.literals br):=by
 have hC:=h.cor
 have hFm:∀c∈F,c∈F++[q]:=fun c hc=>List.mem_append_left _ hc
 have hqm:q∈F++[q]:=List.mem_append_right _ (List.mem_singleton.2 rfl)
 have hlv0:∀k:Nat,lvl s.starts k=0:=fun k=>by rw[hst];rfl
 have hql:=hq.len hn
 have hun2:∀{s':Sol},s'.broken=true→∀c:List Int,c∈F++[q]→s'.broken=false→False:=fun hb c _ hf=>by rw[hb] at hf;cases hf
 unfold mO
 by_cases h0:q.length=0
 ·have:q=[]:=List.eq_nil_of_length_eq_zero h0
  subst this
  rw[if_pos (by simp)]
  exact⟨_,_,_,_,_,true,rfl,hC.addU (by simp),h.hd,h.q,h.un,h.sv,fun e=>(by cases e),fun e=>(by cases e),fun _=>Or.inr ⟨[],hqm,by simp⟩,by show s.watches.2.length≤_;rw[List.length_append];have:=h.cll;omega⟩
 rw[if_neg (by simpa using h0)]
 by_cases h1:q.length=1
 ·obtain⟨x,rfl⟩:=List.length_eq_one_iff.1 h1
  have hx:=hq.1 x (by simp)
  rw[if_pos (by simp),show idx [x] 0=some x from rfl,bsm]
  obtain⟨r,hr,hcase⟩:=sof_ok hC.eng hx.1 hx.2 hn.2 (s:=s) rfl
  have hux:UP (F++[[x]]) [] x:= .unit hqm (by simp) fun y hy hne=>absurd (List.mem_singleton.1 hy) hne
  have hCU:=hC.addU (q:=[x]) (by simp)
  have hcll:s.watches.2.length≤(F++[[x]]).length:=by rw[List.length_append];have:=h.cll;omega
  rw[hr,bsm]
  rcases hcase with⟨rfl,hm⟩|⟨rfl,hm⟩|⟨rfl,hz,hm,hm'⟩
  ·
   rw[if_neg (by decide),if_neg (by decide)]
   refine⟨_,_,_,_,_,s.broken,rfl,hCU,h.hd,h.q,h.un,h.sv,fun e l hl=>?_,fun e hm2=>?_,fun e=>(h.brk e).mono hFm (fun _ h=>h),hcll⟩
   ·rcases List.mem_append.1 hl with hl|hl
    ·exact h.unit e l hl
    simp only[List.mem_singleton,List.cons.injEq,and_true] at hl
    subst hl
    obtain⟨k,hk⟩:=List.getElem?_of_mem hm
    exact⟨k,hk,hlv0 k⟩
   rcases List.mem_append.1 hm2 with hm2|hm2
   ·exact h.emp e hm2
   simp at hm2
  ·
   rw[if_pos (by decide)]
   obtain⟨k,hk⟩:=List.getElem?_of_mem hm
   refine⟨_,_,_,_,_,true,rfl,hCU,h.hd,h.q,h.un,h.sv,fun e=>(by cases e),fun e=>(by cases e),fun _=>Or.inl ⟨x,hux,(hC.up0 k hk (hlv0 k)).mono hFm (fun _ h=>h)⟩,hcll⟩
  rw[if_neg (by decide),if_pos (by decide),bsm,V9 hC hx.2 hn.2 hn.1 none rfl rfl rfl rfl,bsm]
  have hw:Why (F++[[x]]) s.starts s.trail s.watches.2 s.trail.length x none:=Or.inr ⟨hlv0 _,hux⟩
  have h2:=hCU.hold hx.1 hx.2 hz hw (fun id e=>by cases e)
  have htk:(s.trail++[x]).take s.head.toNat=s.trail.take s.head.toNat:=List.take_append_of_le_length (by have:=h.hd;omega)
  refine⟨_,_,_,_,_,s.broken,rfl,?_,⟨h.hd.1,by show s.head≤((s.trail++[x]).length:Int);rw[List.length_append];have:=h.hd;omega,h.hd.2.2⟩,h.q,fun v hv1 hv2 hv0=>?_,h.sv,fun e l hl=>?_,fun e hm2=>?_,fun e=>(h.brk e).mono hFm (fun _ h=>h),hcll⟩
  ·show Cor n (F++[[x]]) s.starts (fun _ w=> -w∈(s.trail++[x]).take s.head.toNat) _ _ _ (s.trail++[x]) s.watches.1 s.watches.2
   rw[htk];exact h2
  ·rcases dX hv0 with⟨_,e⟩|⟨_,hv0⟩
   ·exact absurd e.symm hx.1
   exact h.un v hv1 hv2 hv0
  ·show ∃k:Nat,(s.trail++[x])[k]?=some l∧lvl s.starts k=0
   rcases List.mem_append.1 hl with hl|hl
   ·obtain⟨k,hk,hk2⟩:=h.unit e l hl
    exact⟨k,by rw[List.getElem?_append_left (dB hk)];exact hk,hk2⟩
   simp only[List.mem_singleton,List.cons.injEq,and_true] at hl
   subst hl
   exact⟨s.trail.length,by simp,hlv0 _⟩
  rcases List.mem_append.1 hm2 with hm2|hm2
  ·exact h.emp e hm2
  simp at hm2
 rw[if_neg (by simp;omega)]
 have h2:2≤q.length:=by omega
 obtain⟨a,ha⟩:=bK (show 0<q.length by omega)
 obtain⟨b,hb⟩:=bK (show 1<q.length by omega)
 have hla:=hq.1 a (bQ ha)
 have hlb:=hq.1 b (bQ hb)
 have hab:a≠b:=fun e=>by subst e;have:=nY hq.2 ha hb;omega
 obtain⟨Ra,hRa⟩:=hC.eng.rowAt hla.2
 obtain⟨Rb,hRb⟩:=hC.eng.rowAt hlb.2
 have hRal:=hC.eng.rowLen hRa
 have hRbl:=hC.eng.rowLen hRb
 have hcll:=h.cll
 have hva:=oI.1 hla.2
 have hvb:=oI.1 hlb.2
 rw[oV (by simp;omega),bsm,List.nil_append,hC.put,bsm,hC.idsQ,bsm]
 have hset:(s.watches.2++[q]).set s.watches.2.length q=s.watches.2++[q]:=set_self (by simp)
 rw[swatch_ok (s:=Sol.mk s.value s.level s.reason s.saved ((s.watches.1,s.watches.2++[q]).1,(s.watches.1,s.watches.2++[q]).2.set s.watches.2.length q) s.trail s.starts s.head s.queue s.proof s.literals s.broken) (d:=q) (by simp only[hset];simp) ha hb hab ⟨by omega,by omega⟩ ⟨by omega,by omega⟩ hRa hRb (by omega) (by omega),bsm]
 simp only[hset]
 refine⟨_,_,_,_,_,s.broken,rfl,?_,h.hd,h.q,h.un,h.sv,fun e l hl=>?_,fun e hm2=>?_,fun e=>(h.brk e).mono hFm (fun _ h=>h),by simp;omega⟩
 ·have h3:=hC.addW (q:=q) (d:=q) h2 ha hb hq.2 hq.1 (fun _=>Iff.rfl) hRa hRb (fun c hc=>by rw[hst] at hc;simp at hc)
  refine h3.more fun id c w o _ _ hd=>?_
  have hd: -w∈s.trail.take s.head.toNat:=hd
  rw[hh] at hd
  simp at hd
 ·rcases List.mem_append.1 hl with hl|hl
  ·exact h.unit e l hl
  simp only[List.mem_singleton] at hl
  rw[←hl] at h1
  simp at h1
 rcases List.mem_append.1 hm2 with hm2|hm2
 ·exact h.emp e hm2
 simp only[List.mem_singleton] at hm2
 rw[←hm2] at h2
 simp at h2
end
theorem normal_ok {c:List Int} {v:Int} (hv:0≤v∧v≤1099511627776) (hc:c.length≤9223372036854775807):sK c v=some (clF v 0 c):=by
 unfold sK
 have w:∀x:Int,-1099511627776≤x∧x≤1099511627776→IntKind.wrap .i64 (0-x)= -x:=fun x hx=>by rw[IntKind.wrap_i64];omega
 have h:=loopL (body:=fun s:Int×Int=>pI c v s.1 s.2) (s0:=((0:Int),(0:Int))) c (fun k t=>(t,(k:Int)))
  (stCl v) (fun _=>Out.brk ()) (fun _ _=>True) (t0:=(0:Int)) rfl trivial ?_ ?_
 ·rw[h,bsm,←runL_clF (Int.le_refl 0)]
  generalize J9 (stCl v) (fun _=>Out.brk ()) c 0=o
  cases o<;>rfl
 ·intro k a t hk _
  refine⟨?_,fun _ _=>trivial⟩
  simp only[pI,stCl]
  rw[if_pos (ltB (dB hk)),dA hk,bsm,w v (by omega)]
  by_cases h1:(decide (a< -v)||decide (v<a))=true
  ·simp[h1]
  have h1':(decide (a< -v)||decide (v<a))=false:=by simpa using h1
  simp only[Bool.or_eq_true,decide_eq_true_eq,not_or] at h1
  rw[w a (by omega),show max a (-a)=vr a by unfold vr;omega]
  simp only[h1',Bool.false_or]
  by_cases h2:vr a≤t
  ·simp[h2]
  simp[h2,jA (dB hk) hc]
 intro t _
 simp only[pI]
 rw[if_neg rY]
def oZ (p:List (List Int)):Nat:=(p.map List.length).sum
theorem litN_take {p:List (List Int)} {k:Nat} {c:List Int} (h:p[k]?=some c):oZ (p.take (k+1))=oZ (p.take k)+c.length:=by
 unfold oZ;rw[fA h];simp
theorem litN_app (p q:List (List Int)):oZ (p++q)=oZ p+oZ q:=by unfold oZ;simp
theorem litN_mono (p:List (List Int)) (k:Nat):oZ (p.take k)≤oZ p:=by
 have:=litN_app (p.take k) (p.drop k)
 rw[List.take_append_drop] at this;omega
def provB (v:Int) (p:List (List Int)):Bool:=p.all (clF v 0)&&decide (oZ p≤1048576)
theorem aA6 {v:Int} {p:List (List Int)}:provB v p=true↔(∀c∈p,clF v 0 c=true)∧oZ p≤1048576:=by
 unfold provB;rw[Bool.and_eq_true,List.all_eq_true,decide_eq_true_eq]
def PLen (p:List (List Int)):Prop:=p.length≤400000∧∀c∈p,c.length≤400000
theorem PLen.lit {p:List (List Int)} (h:PLen p) (k:Nat):oZ (p.take k)≤k*400000:=by
 induction k with
 |zero=>simp[oZ]
 |succ k ih=>
  by_cases hk:k<p.length
  ·obtain⟨c,hc⟩:=bK hk
   have:=h.2 c (bQ hc)
   rw[litN_take hc];omega
  have e1:p.take k=p:=List.take_of_length_le (by omega)
  have e2:p.take (k+1)=p:=List.take_of_length_le (by omega)
  have e3:=congrArg oZ e1
  have e4:=congrArg oZ e2
  omega
theorem PLen.all {p:List (List Int)} (h:PLen p):oZ p≤160000000000:=by
 have h1:=h.lit p.length
 rw[List.take_length] at h1
 have h2:p.length*400000≤400000*400000:=Nat.mul_le_mul_right _ h.1
 omega
theorem valid_ok {p:List (List Int)} {v:Int} (hv:0≤v∧v≤1099511627776) (hp:PLen p):uC p v=some (provB v p):=by
 unfold uC
 obtain⟨b,hb,h⟩:=uA (body:=fun s:Int×Int=>pX p v s.1 s.2) (s0:=((0:Int),(0:Int))) p.length (fun k (t:Nat)=>((t:Int),(k:Int)))
  (fun k t=>t=oZ (p.take k)∧t≤1048576∧∀c∈p.take k,clF v 0 c=true) (fun b=>match b with| .brk _=>provB v p=true| .ret r=>r=false∧provB v p=false) (t0:=0) rfl ⟨by simp[oZ],by omega,by simp⟩ (by
   rintro k t hk ⟨rfl,h1,h2⟩
   obtain⟨c,hc⟩:=bK hk
   have hcl:=hp.2 c (bQ hc)
   have hlt:=litN_take hc
   have e1:inK .i64 ((oZ (p.take k):Int)+(c.length:Int))=some ((oZ (p.take (k+1)):Nat):Int):=oM (by omega) ⟨by omega,by omega⟩
   simp only[pX,ltB hk,if_true,dA hc,bsm,e1,normal_ok hv (show c.length≤9223372036854775807 by omega)]
   by_cases h3:((!clF v 0 c)||decide (1048576<((oZ (p.take (k+1)):Nat):Int)))=true
   ·refine Or.inr ⟨.ret false,by rw[if_pos h3],rfl,?_⟩
    cases hpb:provB v p with
    |false=>rfl
    |true=>
     have:=aA6.1 hpb
     have h4:=this.1 c (bQ hc)
     have h5:=litN_mono p (k+1)
     rw[h4] at h3
     simp at h3
     omega
   ·rw[if_neg h3,jA hk (by have:=hp.1;omega),bsm]
    simp only[Bool.or_eq_true,Bool.not_eq_true',decide_eq_true_eq,not_or,Bool.not_eq_false] at h3
    refine Or.inl ⟨oZ (p.take (k+1)),rfl,rfl,by omega,fun d hd=>?_⟩
    rw[fA hc,List.mem_append,List.mem_singleton] at hd
    rcases hd with hd|rfl
    ·exact h2 d hd
    exact h3.1) (by
   rintro t ⟨rfl,h1,h2⟩
   rw[List.take_length] at h1 h2
   exact⟨.brk (),by simp only[pX,rY,if_false,Bool.false_eq_true],aA6.2 ⟨h2,h1⟩⟩)
 rw[hb,bsm]
 cases b with
 |brk _=>simp only;rw[h]
 |ret r=>simp only;rw[h.1,h.2]
noncomputable def chkB (f:Formula) (p:List (List Int)):Bool:=iV f&&provB f.vars p&&accB f.clauses p
theorem X3 {f:Formula} (h:iV f=true):∀c∈f.clauses,uM f.vars c:=fun c hc=>clF_ok ((mP h).2.2.2 c hc)
theorem prov_cl {v:Int} {p:List (List Int)} (h:provB v p=true):∀c∈p,uM v c:=fun c hc=>clF_ok ((aA6.1 h).1 c hc)
theorem check_ok {f:Formula} {p:List (List Int)} (hf:FLen f.clauses) (hp:PLen p):mD f p=some (chkB f p):=by
 unfold mD chkB
 rw[aA0 hf,bsm]
 cases hv:iV f with
 |false=>simp
 |true=>
  have hb:=mP hv
  rw[if_pos rfl,valid_ok (by omega) hp,bsm,bsm]
  cases hpr:provB f.vars p with
  |false=>simp
  |true=>
   rw[if_pos rfl,accepted_ok ⟨hb.1,hb.2.1⟩ (by have:=hp.1;omega) (X3 hv) (prov_cl hpr),bsm,bsm]
   simp
theorem PLen.erase {p:List (List Int)} (h:PLen p) (i:Nat):PLen (p.eraseIdx i):=
 ⟨Nat.le_trans (List.length_eraseIdx_le ..) h.1,fun c hc=>h.2 c (List.mem_of_mem_eraseIdx hc)⟩
theorem chk_acc {f:Formula} {p:List (List Int)} (hv:iV f=true) (hp:provB f.vars p=true):chkB f p=accB f.clauses p:=by unfold chkB;rw[hv,hp];simp
open Go.RowKit Go.Lib
def MdL (m:List Int):Prop:=∀(i:Nat) x,m[i]?=some x→x=(i:Int)+1∨x= -((i:Int)+1)
theorem MdL.at {m:List Int} (h:MdL m) {x:Int} (hx:x∈m):x≠0∧m[(vr x-1).toNat]?=some x:=by
 obtain⟨i,hi⟩:=List.getElem?_of_mem hx
 have h1:=h i x hi
 have h2:vr x=(i:Int)+1:=by unfold vr;omega
 refine⟨by omega,?_⟩
 rw[h2,show((i:Int)+1-1).toNat=i by omega];exact hi
theorem MdL.opp {m:List Int} (h:MdL m) {x:Int} (hx:x∈m) (hn: -x∈m):False:=by
 have h1:=h.at hx
 have h2:=(h.at hn).2
 rw[lL,h1.2] at h2
 simp only[Option.some.injEq] at h2
 omega
theorem mdF_at:∀{m:List Int} {i:Int},mdF i m=true→∀(k:Nat) x,m[k]?=some x→x=i+k∨x= -(i+k)
 | [],_,_,k,x,hx=>by simp at hx
 |a::m,i,h,0,x,hx=>by
  unfold mdF at h
  simp only[Bool.and_eq_true,Bool.or_eq_true,decide_eq_true_eq] at h
  simp only[List.getElem?_cons_zero,Option.some.injEq] at hx
  omega
 |a::m,i,h,k+1,x,hx=>by
  unfold mdF at h
  simp only[Bool.and_eq_true] at h
  rw[List.getElem?_cons_succ] at hx
  have:=mdF_at h.2 k x hx
  omega
theorem MdL.of {m:List Int} (h:mdF 1 m=true):MdL m:=fun i x hx=>by
 have:=mdF_at h i x hx
 omega
theorem sat_mem {m c:List Int} (h:uD m c=true):∃y∈c,y∈m:=by
 unfold uD at h
 rw[List.any_eq_true] at h
 obtain⟨y,hy,h⟩:=h
 exact⟨y,hy,bQ (by simpa using h)⟩
theorem model_up {F:List (List Int)} {S m:List Int} (hm:MdL m) (hS:∀x∈S,x∈m) (hF:∀c∈F,uD m c=true):∀{x},UP F S x→x∈m:=by
 intro x hx
 induction hx with
 |start h=>exact hS _ h
 | @unit c x hc hxc _ ih=>
  obtain⟨y,hy,hym⟩:=sat_mem (hF c hc)
  by_cases e:y=x
  ·rw[←e];exact hym
  exact absurd (ih y hy e) (fun hn=>hm.opp hym hn)
theorem model_ok {F:List (List Int)} {S m:List Int} (hm:MdL m) (hS:∀x∈S,x∈m) (hF:∀c∈F,uD m c=true):¬Fails F S:=by
 rintro(⟨l,h1,h2⟩|⟨c,hc,hy⟩)
 ·exact hm.opp (model_up hm hS hF h1) (model_up hm hS hF h2)
 obtain⟨y,hyc,hym⟩:=sat_mem (hF c hc)
 exact hm.opp hym (model_up hm hS hF (hy y hyc))
theorem fails_sat {n:Int} {F:List (List Int)} {m c:List Int} (hm:MdL m) (hn:(m.length:Int)=n) (hF:∀c∈F,uD m c=true) (hc:uM n c) (h:Fails F (xG c)):uD m c=true:=by
 cases hs:uD m c with
 |true=>rfl
 |false=>
  refine absurd h (model_ok hm (fun x hx=>?_) hF)
  have hx2:=aA5 hx
  obtain⟨h1,h2⟩:=hc.1 _ hx2
  rw[lL] at h2
  have h3:=jP x
  have h4:vr x≠0:=fun e=>h1 (by have:=qC.1 e;omega)
  obtain⟨y,hy⟩:=bK (show(vr x-1).toNat<m.length by omega)
  have h5:=hm _ y hy
  have h6:y=x∨y= -x:=by
   have:=H6 x
   omega
  rcases h6 with rfl|rfl
  ·exact bQ hy
  unfold uD at hs
  rw[List.any_eq_false] at hs
  exact absurd (by rw[lL,hy];simp) (hs (-x) hx2)
theorem acc_sat {n:Int} {m:List Int} (hm:MdL m) (hn:(m.length:Int)=n):∀(p F:List (List Int)),(∀c∈F,uD m c=true)→(∀c∈p,uM n c)→Q8 F p→∀c∈p,uD m c=true
 | [],F,_,_,_,c,hc=>by simp at hc
 |q::p,F,hF,hp,h,c,hc=>by
  have h1:=fails_sat hm hn hF (hp q (List.mem_cons_self ..)) h.1
  rcases List.mem_cons.1 hc with rfl|hc
  ·exact h1
  refine acc_sat hm hn p (F++[q]) (fun d hd=>?_) (fun d hd=>hp d (List.mem_cons_of_mem _ hd)) h.2 c hc
  rcases List.mem_append.1 hd with hd|hd
  ·exact hF d hd
  rw[List.mem_singleton.1 hd];exact h1
theorem get_rep {α:Type} {n v:Nat} {a x:α} (h:(List.replicate n a)[v]?=some x):x=a:=List.eq_of_mem_replicate (List.mem_of_getElem? h)
theorem Cor.start {n:Int} (h0:0≤n):Cor n [] [] (fun _ w=> -w∈([]:List Int)) (List.replicate (n+1).toNat 0) (List.replicate (n+1).toNat 0) (List.replicate (n+1).toNat none) [] (List.replicate (2*n+2).toNat []) []:=by
 refine{eng:=(Eng.start h0).assume (allL n),ll:=by rw[List.length_replicate];omega,rl:=by rw[List.length_replicate];omega,lv:=fun i x h=>by simp at h,re:=fun i x r h=>by simp at h,rid:=fun id h=>?_,bas:=fun b h=>by simp at h,sts:=List.Pairwise.nil,stb:=fun b h=>by simp at h}
 have:=List.eq_of_mem_replicate h
 cases this
theorem open_loop1 {n:Int} (hn:0≤n∧n≤65536):
  ∃r,dC (fun s:Int×List Int×List Bool×List Int=>oG (n+1) s.1 s.2.1 s.2.2.1 s.2.2.2) (1,[],List.replicate (n+1).toNat false,List.replicate (n+1).toNat 0)=some r∧QOk n (Que.mk r.1 r.2.1)∧(∀v:Int,1≤v→v≤n→v∈r.1)∧SvOk n r.2.2:=by
 refine uA (body:=fun s:Int×List Int×List Bool×List Int=>oG (n+1) s.1 s.2.1 s.2.2.1 s.2.2.2) n.toNat (fun k (t:List Int×List Bool×List Int)=>(((k+1:Nat):Int),t.1,t.2.1,t.2.2))
  (fun k t=>QOk n (Que.mk t.1 t.2.1)∧(∀v:Int,v∈t.1↔1≤v∧v≤k)∧(t.2.2.length:Int)=n+1∧∀(v:Nat) x,1≤v→v≤k→t.2.2[v]?=some x→x=v∨x= -(v:Int)) _ (t0:=([],List.replicate (n+1).toNat false,List.replicate (n+1).toNat 0)) rfl
  ⟨⟨by show((List.replicate (n+1).toNat false).length:Int)=_;rw[List.length_replicate];omega,List.nodup_nil,fun v h=>by simp at h,fun v=>?_⟩,fun v=>?_,by rw[List.length_replicate];omega,fun v x h1 h2=>by omega⟩ ?_ ?_
 ·show(List.replicate (n+1).toNat false)[v]?=some true↔(v:Int)∈[]
  exact⟨fun h=>(by have:=get_rep h;cases this),fun h=>by simp at h⟩
 ·exact⟨fun h=>by simp at h,fun h=>by have:=h.1;have:=h.2;omega⟩
 ·rintro k ⟨ql,qi,sv⟩ hk ⟨hq,hm,hl,hs⟩
  simp only at hq hm hl hs
  obtain⟨y,hy⟩:=bK (show k+1<sv.length by omega)
  have i1:inK .i64 (0-((k+1:Nat):Int))=some (-((k+1:Nat):Int)):=oM (by omega) ⟨by omega,by omega⟩
  have i2:inK .i64 (((k+1:Nat):Int)+1)=some ((k+1+1:Nat):Int):=oM rfl ⟨by omega,by omega⟩
  obtain⟨q',p1,p2,p3⟩:=push_ok hq hn (v:=((k+1:Nat):Int)) ⟨by omega,by omega⟩ (fun h=>by have:=(hm _).1 h;omega)
  have e0:decide (((k+1:Nat):Int)<n+1)=true:=by rw[decide_eq_true_eq];omega
  simp only[oG,e0,if_true,i1,bsm,dA hy,p1,i2]
  refine Or.inl ⟨(q'.list,q'.isin,sv.set (k+1) (-((k+1:Nat):Int))),rfl,p2,fun v=>?_,by rw[List.length_set];exact hl,fun v x h1 h2 hx=>?_⟩
  ·rw[p3,hm]
   constructor
   ·rintro(rfl|h)<;>omega
   intro h
   by_cases e:v=((k+1:Nat):Int)
   ·exact Or.inl e
   exact Or.inr (by omega)
  rcases dX hx with⟨rfl,rfl⟩|⟨hne,hx⟩
  ·exact Or.inr rfl
  exact hs v x h1 (by omega) hx
 rintro⟨ql,qi,sv⟩ ⟨hq,hm,hl,hs⟩
 simp only at hq hm hl hs
 have e0:¬decide (((n.toNat+1:Nat):Int)<n+1)=true:=by rw[decide_eq_true_eq];omega
 refine⟨(ql,qi,sv),by simp only[oG,e0,if_false,Bool.false_eq_true],hq,fun v h1 h2=>(hm v).2 ⟨h1,by omega⟩,hl,fun v x h1 hx=>hs v x h1 (by have:v<sv.length:=dB hx;omega) hx⟩
def ones (l:List Int):List (List Int):=l.map fun x=>[x]
theorem sopen_ok {f:Formula} {asX:List Int} (hn:0≤f.vars∧f.vars≤65536) (hl:f.clauses.length+asX.length≤900000) (hF:∀c∈f.clauses,uM f.vars c) (ha:∀x∈asX,x≠0∧vr x≤f.vars):
  ∃s,oQ f asX=some s∧SInv f.vars (f.clauses++ones asX) s∧s.starts=[]∧s.head=0∧s.proof=[]∧s.literals=0:=by
 unfold oQ
 obtain⟨b5,e5,q1,q2,q3⟩:=open_loop1 hn
 rw[gW ⟨by omega,by omega⟩,bsm,mkc_ok ⟨by omega,by omega,by omega⟩,bsm,bsm,mkc_ok ⟨by omega,by omega,by omega⟩,bsm,bsm,gW ⟨by omega,by omega⟩,bsm,mkc_ok ⟨by omega,by omega,by omega⟩,bsm,mkc_ok ⟨by omega,by omega,by omega⟩,bsm,e5,bsm]
 have e22:(2*(f.vars+1)).toNat=(2*f.vars+2).toNat:=by congr 1;omega
 rw[e22]
 obtain⟨b7,e7,h7⟩:=uA (body:=fun s:Int×List Int×Int×Int×Bool×(List (List Nat)×List (List Int))×List (Option Nat)×List Int×List Int=>pY f b5 s.1 s.2.1 s.2.2.1 s.2.2.2.1 s.2.2.2.2.1 s.2.2.2.2.2.1 s.2.2.2.2.2.2.1 s.2.2.2.2.2.2.2.1 s.2.2.2.2.2.2.2.2)
  (s0:=(0,[],0,0,false,(List.replicate (2*f.vars+2).toNat [],[]),List.replicate (f.vars+1).toNat none,List.replicate (f.vars+1).toNat 0,List.replicate (f.vars+1).toNat 0)) f.clauses.length
  (fun k (t:List Int×Bool×(List (List Nat)×List (List Int))×List (Option Nat)×List Int×List Int)=>((k:Int),t.1,0,0,t.2.1,t.2.2.1,t.2.2.2.1,t.2.2.2.2.1,t.2.2.2.2.2))
  (fun k t=>SInv f.vars (f.clauses.take k) (Sol.mk t.2.2.2.2.2 t.2.2.2.2.1 t.2.2.2.1 b5.2.2 t.2.2.1 t.1 [] 0 (Que.mk b5.1 b5.2.1) [] 0 t.2.1))
  (fun b=>∃t br W r l v,b=(t,0,0,br,W,r,l,v)∧SInv f.vars f.clauses (Sol.mk v l r b5.2.2 W t [] 0 (Que.mk b5.1 b5.2.1) [] 0 br))
  (t0:=([],false,(List.replicate (2*f.vars+2).toNat [],[]),List.replicate (f.vars+1).toNat none,List.replicate (f.vars+1).toNat 0,List.replicate (f.vars+1).toNat 0)) rfl
  (by
   rw[List.take_zero]
   exact⟨Cor.start hn.1,⟨Int.le_refl _,Int.le_refl _,fun b h=>by simp at h⟩,q1,fun v h1 h2 _=>q2 v h1 h2,q3,fun _ l h=>by simp at h,fun _ h=>by simp at h,fun h=>(by cases h),Nat.le_refl _⟩) (by
  rintro k ⟨t,br,W,r,l,v⟩ hk hI
  simp only at hI
  obtain⟨c,hc⟩:=bK hk
  have hlk:(f.clauses.take k).length≤1000000:=by rw[List.length_take];omega
  obtain⟨v',l',r',W',t',br',h1,h2⟩:=sadd_ok hn hlk hI rfl rfl (hF c (bQ hc))
  simp only at h1 h2
  refine Or.inl ⟨(t',br',W',r',l',v'),?_,by rw[fA hc];exact h2⟩
  simp only[pY,ltB hk,if_true,dA hc,bsm,h1,jA hk (show f.clauses.length≤9223372036854775807 by omega)]) (by
  rintro⟨t,br,W,r,l,v⟩ hI
  rw[List.take_length] at hI
  refine⟨(t,0,0,br,W,r,l,v),?_,t,br,W,r,l,v,rfl,hI⟩
  simp only[pY,rY,if_false,Bool.false_eq_true])
 obtain⟨t,br,W,r,l,v,rfl,hI⟩:=h7
 rw[e7,bsm]
 simp only
 obtain⟨b9,e9,h9⟩:=uA (body:=fun s:Int×List Int×Int×Int×Bool×(List (List Nat)×List (List Int))×List (Option Nat)×List Int×List Int=>qA asX b5 s.1 s.2.1 s.2.2.1 s.2.2.2.1 s.2.2.2.2.1 s.2.2.2.2.2.1 s.2.2.2.2.2.2.1 s.2.2.2.2.2.2.2.1 s.2.2.2.2.2.2.2.2)
  (s0:=(0,t,0,0,br,W,r,l,v)) asX.length
  (fun k (t:List Int×Bool×(List (List Nat)×List (List Int))×List (Option Nat)×List Int×List Int)=>((k:Int),t.1,0,0,t.2.1,t.2.2.1,t.2.2.2.1,t.2.2.2.2.1,t.2.2.2.2.2))
  (fun k t=>SInv f.vars (f.clauses++ones (asX.take k)) (Sol.mk t.2.2.2.2.2 t.2.2.2.2.1 t.2.2.2.1 b5.2.2 t.2.2.1 t.1 [] 0 (Que.mk b5.1 b5.2.1) [] 0 t.2.1))
  (fun b=>∃t br W r l v,b=(t,0,0,br,W,r,l,v)∧SInv f.vars (f.clauses++ones asX) (Sol.mk v l r b5.2.2 W t [] 0 (Que.mk b5.1 b5.2.1) [] 0 br))
  (t0:=(t,br,W,r,l,v)) rfl (by simpa[ones] using hI) (by
  rintro k ⟨t,br,W,r,l,v⟩ hk hI
  simp only at hI
  obtain⟨c,hc⟩:=bK hk
  have hlk:(f.clauses++ones (asX.take k)).length≤1000000:=by unfold ones;rw[List.length_append,List.length_map,List.length_take];omega
  have hq:uM f.vars [c]:=⟨fun y hy=>by rw[List.mem_singleton.1 hy];exact ha c (bQ hc),by simp⟩
  obtain⟨v',l',r',W',t',br',h1,h2⟩:=sadd_ok hn hlk hI rfl rfl hq
  simp only at h1 h2
  refine Or.inl ⟨(t',br',W',r',l',v'),?_,?_⟩
  ·simp only[qA,ltB hk,if_true,dA hc,bsm,h1,jA hk (show asX.length≤9223372036854775807 by omega)]
  ·have e:ones (asX.take (k+1))=ones (asX.take k)++[[c]]:=by unfold ones;rw[fA hc,List.map_append];rfl
   rw[e,←List.append_assoc]
   exact h2) (by
  rintro⟨t,br,W,r,l,v⟩ hI
  rw[List.take_length] at hI
  refine⟨(t,0,0,br,W,r,l,v),?_,t,br,W,r,l,v,rfl,hI⟩
  simp only[qA,rY,if_false,Bool.false_eq_true])
 obtain⟨t,br,W,r,l,v,rfl,hI⟩:=h9
 rw[e9,bsm]
 exact⟨_,rfl,hI,rfl,rfl,rfl,rfl⟩
end Go.Proofs.Ytpkhmndpeipfmaa
