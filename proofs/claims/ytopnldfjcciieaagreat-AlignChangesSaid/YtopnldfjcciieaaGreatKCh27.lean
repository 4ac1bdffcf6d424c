/- The tables of two subtrees are filled in: what they hold. -/
import Derived.Test.YtopnldfjcciieaaGreatKCh26
import Derived.Test.YtopnldfjcciieaaGreatKCh6
import Derived.Test.YtopnldfjcciieaaGreatKCh3
import Derived.Test.YtopnldfjcciieaaGreatKCh24
import Derived.Test.YtopnldfjcciieaaGreatKCh4
import Derived.Test.YtopnldfjcciieaaGreatKCh25
set_option linter.unusedVariables false
set_option linter.unusedSimpArgs false
namespace Go.Proofs.YtopnldfjcciieaaGreat
open Go.RowKit
def lf (T:Tr) (s:Nat):Nat:=match (po [T])[s]? with|some u=>s+1-szT u|none=>0
theorem I7 {T:Tr} {s:Nat} {u:Tr} (h:(po [T])[s]?=some u):lf T s=s+1-szT u:=by unfold lf;rw[h]
theorem at_lt {T:Tr} {s:Nat} (h:s<szT T):∃u,(po [T])[s]?=some u∧szT u≤s+1:=by
 obtain⟨u,hu⟩:=dD (l:=po [T]) (k:=s) (by rw[vI];exact h)
 exact⟨u,hu,(pF [T] hu).1⟩
theorem zA {T:Tr} {s:Nat} {u:Tr} (h:(po [T])[s]?=some u):s<szT T:=by
 have:=(List.getElem?_eq_some_iff.1 h).1
 rw[vI] at this;exact this
theorem sub_at {T:Tr} {i:Nat} {t:Tr} (h:(po [T])[i]?=some t) {x:Nat} (hx:x<szT t):(po [t])[x]?=(po [T])[i+1-szT t+x]?:=by
 obtain⟨h1,h2⟩:=pF [T] h
 rw[←h2,List.getElem?_drop,List.getElem?_take,if_pos (by omega)]
structure ArrOf (c:DFlat) (T:Tr):Prop where
 lab:c.labels=(po [T]).map labT
 left:∀s,s<szT T→c.left[s]?=some ((lf T s:Nat):Int)
 leftn:c.left.length=szT T
section
variable {c0 c1:DFlat} {T T' ti tk:Tr} {i k:Nat}
structure FI (ti tk:Tr) (x y:Nat) (f:List (List Int)):Prop where
 dim:Dim f (szT ti+1) (szT tk+1)
 val:∀x' y',x'≤szT ti→y'≤szT tk→(x'≤x∨y'=0∨x'=x+1∧y'≤y)→at2 f x' y'=some ((fd (fr ti x') (fr tk y'):Nat):Int)
def come (p q Y x y s t:Nat):Prop:=p≤s∧q≤t∧t<q+Y∧(s<p+x∨s=p+x∧t<q+y)
structure DI (T T':Tr) (p q Y x y:Nat) (D D':List (List Int)):Prop where
 dim:Dim D' (szT T) (szT T')
 new:∀s t u u',(po [T])[s]?=some u→(po [T'])[t]?=some u'→come p q Y x y s t→lf T s=p→lf T' t=q→at2 D' s t=some ((fd [u] [u']:Nat):Int)
 old:∀s t,¬(come p q Y x y s t∧lf T s=p∧lf T' t=q)→at2 D' s t=at2 D s t
theorem aB2 (t t':Tr) {x y:Nat} (A:x≤szT t) (hy:y≤szT t'):fd (fr t x) (fr t' y)≤x+y:=by
 have h:=aE1 (fr t x) [] [] (fr t' y)
 simp only[List.append_nil,List.nil_append] at h
 rw[fd_l0,fd_r0,sz_fr t A,sz_fr t' hy] at h
 exact h
theorem inner_m (h0:ArrOf c0 T) (h1:ArrOf c1 T') (hT:szT T≤100000) (hT':szT T'≤100000) (hi:(po [T])[i]?=some ti) (hk:(po [T'])[k]?=some tk) {D:List (List Int)}
  (need:∀s t u u',i+1-szT ti≤s→s≤i→k+1-szT tk≤t→t≤k→(po [T])[s]?=some u→(po [T'])[t]?=some u'→¬(lf T s=i+1-szT ti∧lf T' t=k+1-szT tk)→at2 D s t=some ((fd [u] [u']:Nat):Int))
  {x y:Nat} (F:x<szT ti) (hy:y<szT tk) {f D':List (List Int)} (hf:FI ti tk x y f) (hd:DI T T' (i+1-szT ti) (k+1-szT tk) (szT tk) x y D D'):
  ∃f2 D2,kP (k:Int) c0 c1 ((i+1-szT ti:Nat):Int) ((k+1-szT tk:Nat):Int) ((i+1-szT ti+x:Nat):Int) ((k+1-szT tk+y:Nat):Int) f D'=some (.next (((k+1-szT tk+(y+1):Nat):Int),f2,D2))∧FI ti tk x (y+1) f2∧DI T T' (i+1-szT ti) (k+1-szT tk) (szT tk) x (y+1) D D2:=by
 have hsi:=(pF [T] hi).1
 have hsk:=(pF [T'] hk).1
 have hiT:=zA hi
 have hkT:=zA hk
 generalize hp:i+1-szT ti=p at*
 generalize hq:k+1-szT tk=q at*
 obtain⟨u,hu⟩:=dD (l:=po [ti]) (k:=x) (by rw[vI];exact F)
 obtain⟨u',hu'⟩:=dD (l:=po [tk]) (k:=y) (by rw[vI];exact hy)
 have hA:(po [T])[p+x]?=some u:=by rw[←hp,←sub_at hi F];exact hu
 have hB:(po [T'])[q+y]?=some u':=by rw[←hq,←sub_at hk hy];exact hu'
 have su:=(pF [ti] hu).1
 have su':=(pF [tk] hu').1
 have pu:=sW u
 have pu':=sW u'
 have eA:=I7 hA
 have eB:=I7 hB
 have hcell:=fd_fr ti tk F hy hu hu'
 obtain⟨r1,v1,a1,a2,a3,_⟩:=hf.dim.get (s:=x) (t:=y+1) (by omega) (by omega)
 obtain⟨r2,v2,b1,b2,b3,b4⟩:=hf.dim.get (s:=x+1) (t:=y) (by omega) (by omega)
 obtain⟨r4,v4,d1,d2,d3,_⟩:=hf.dim.get (s:=x+1) (t:=y+1) (by omega) (by omega)
 rw[b1] at d1
 obtain rfl:=Option.some.inj d1
 have e1:v1=((fd (fr ti x) (fr tk (y+1)):Nat):Int):=by
  have:=hf.val x (y+1) (by omega) (by omega) (Or.inl (Nat.le_refl _));rw[a3] at this;exact Option.some.inj this
 have e2:v2=((fd (fr ti (x+1)) (fr tk y):Nat):Int):=by
  have:=hf.val (x+1) y (by omega) (by omega) (Or.inr (Or.inr ⟨O,Nat.le_refl _⟩));rw[b3] at this;exact Option.some.inj this
 have s1:=aB2 ti tk (x:=x) (y:=y+1) (by omega) (by omega)
 have s2:=aB2 ti tk (x:=x+1) (y:=y) (by omega) (by omega)
 have s3:=aB2 ti tk (x:=x) (y:=y) (by omega) (by omega)
 have hlab0:c0.labels[p+x]?=some (labT u):=by rw[h0.lab,List.getElem?_map,hA];rfl
 have hlab1:c1.labels[q+y]?=some (labT u'):=by rw[h1.lab,List.getElem?_map,hB];rfl
 have I:=h0.left (p+x) (by omega)
 have E:=h1.left (q+y) (by omega)
 have fin:∀v:Int,v=((fd (fr ti (x+1)) (fr tk (y+1)):Nat):Int)→FI ti tk x (y+1) (f.set (x+1) (r2.set (y+1) v)):=by
  intro v hv
  refine⟨hf.dim.set b1 v,fun x' y' h1 h2 h3=>?_⟩
  rw[aA0 b1 d2]
  split
  ·rename_i hh;obtain⟨rfl,rfl⟩:=hh;rw[hv]
  rename_i hh
  refine hf.val x' y' h1 h2 ?_
  rcases h3 with h3|h3|⟨h3,h4⟩
  ·exact Or.inl h3
  ·exact Or.inr (Or.inl h3)
  refine Or.inr (Or.inr ⟨h3,?_⟩)
  have:¬y'=y+1:=fun e=>hh ⟨h3,e⟩
  omega
 simp only[kP]
 rw[if_pos (by simp;omega)]
 rw[dX (by omega)]
 simp only[Option.bind_some]
 rw[dX (by omega)]
 simp only[Option.bind_some]
 rw[dX (by omega)]
 simp only[Option.bind_some]
 rw[dX (by omega)]
 simp only[Option.bind_some]
 rw[dX (by omega)]
 simp only[Option.bind_some]
 have ex:((p+x:Nat):Int)-(p:Int)+1=((x+1:Nat):Int):=by omega
 have ey:((q+y:Nat):Int)-(q:Int)+1=((y+1:Nat):Int):=by omega
 have K:((x+1:Nat):Int)-1=(x:Int):=by omega
 have ey0:((y+1:Nat):Int)-1=(y:Int):=by omega
 rw[ex,K,ey,aZ a1]
 simp only[Option.bind_some]
 rw[aZ a2]
 simp only[Option.bind_some]
 rw[aZ b1]
 simp only[Option.bind_some]
 rw[dX (by omega),ey0]
 simp only[Option.bind_some]
 rw[aZ b2]
 simp only[Option.bind_some]
 rw[dX (by omega)]
 simp only[Option.bind_some]
 rw[aZ I]
 simp only[Option.bind_some]
 have hcond:((if(!decide (((lf T (p+x):Nat):Int)=(p:Int)))=true then some true else(idx c1.left ((q+y:Nat):Int)).bind fun H=>some (!decide (H=(q:Int)))):Option Bool)=some (!decide (szT u=x+1∧szT u'=y+1)):=by
  rw[aZ E]
  simp only[Option.bind_some]
  rw[eA,eB]
  by_cases g1:szT u=x+1
  ·rw[if_neg (by simp;omega)]
   congr 2
   exact decide_eq_decide.2 (by omega)
  rw[if_pos (by simp;omega),decide_eq_false (by omega)];rfl
 rw[hcond]
 simp only[Option.bind_some]
 by_cases hb:szT u=x+1∧szT u'=y+1
 ·
  rw[if_neg (by simp[hb])]
  rw[if_pos hb] at hcell
  rw[dX (by omega)]
  simp only[Option.bind_some]
  obtain⟨r3,v3,c1',c2',c3',_⟩:=hf.dim.get (s:=x) (t:=y) (by omega) (by omega)
  have e3:v3=((fd (fr ti x) (fr tk y):Nat):Int):=by
   have:=hf.val x y (by omega) (by omega) (Or.inl (Nat.le_refl _));rw[c3'] at this;exact Option.some.inj this
  obtain⟨rd,vd,g1,g2,g3,_⟩:=hd.dim.get (s:=p+x) (t:=q+y) (by omega) (by omega)
  rw[a1] at c1'
  obtain rfl:=Option.some.inj c1'
  rw[aZ c2']
  simp only[Option.bind_some]
  rw[aZ hlab0,aZ hlab1]
  simp only[Option.bind_some]
  have L:((if(!(decide ((labT u).kind=(labT u').kind)&&decide ((labT u).text=(labT u').text)))=true then(inK .i64 (v3+1)).bind fun G=>some G else some v3):Option Int)=some (v3+((rl (labT u) (labT u'):Nat):Int)):=by
   unfold rl
   by_cases h:labT u=labT u'
   ·rw[if_pos h,if_neg (by simp[h])];simp
   rw[if_neg h,if_pos,dX (by omega)]
   ·rfl
   have:¬((labT u).kind=(labT u').kind∧(labT u).text=(labT u').text):=fun hh=>h (by
    generalize labT u=A at hh⊢
    generalize labT u'=B at hh⊢
    obtain⟨a,b⟩:=A
    obtain⟨c,d⟩:=B
    simp only at hh
    rw[hh.1,hh.2])
   rw[Bool.not_eq_true',Bool.and_eq_false_iff]
   by_cases hk1:(labT u).kind=(labT u').kind
   ·exact Or.inr (decide_eq_false fun h2=>this ⟨hk1,h2⟩)
   exact Or.inl (decide_eq_false hk1)
  rw[L]
  simp only[Option.bind_some]
  rw[aZ d2]
  simp only[Option.bind_some]
  rw[aZ g1]
  simp only[Option.bind_some,Int.toNat_natCast]
  have hv:min (min v1 v2+1) (v3+((rl (labT u) (labT u'):Nat):Int))=((fd (fr ti (x+1)) (fr tk (y+1)):Nat):Int):=by rw[hcell,e1,e2,e3];omega
  rw[hv]
  have hnew:(f.set (x+1) (r2.set (y+1) ((fd (fr ti (x+1)) (fr tk (y+1)):Nat):Int)))[x+1]?=some (r2.set (y+1) ((fd (fr ti (x+1)) (fr tk (y+1)):Nat):Int)):=List.getElem?_set_self (by rw[hf.dim.rows];omega)
  have hnew2:(r2.set (y+1) ((fd (fr ti (x+1)) (fr tk (y+1)):Nat):Int))[y+1]?=some ((fd (fr ti (x+1)) (fr tk (y+1)):Nat):Int):=List.getElem?_set_self (by rw[b4];omega)
  rw[aZ hnew]
  simp only[Option.bind_some]
  rw[aZ hnew2]
  simp only[Option.bind_some]
  rw[aZ g2]
  simp only[Option.bind_some]
  refine⟨_,_,by rw[show((q+y:Nat):Int)+1=((q+(y+1):Nat):Int) by omega],fin _ O,?_⟩
  have hfull:fd (fr ti (x+1)) (fr tk (y+1))=fd [u] [u']:=by
   have z1:=(fr_succ ti F hu).2.1
   have z2:=(fr_succ tk hy hu').2.1
   rw[hb.1,Nat.sub_self,G7] at z1
   rw[hb.2,Nat.sub_self,G7] at z2
   rw[z1,z2]
  refine⟨hd.dim.set g1 _,fun s t w w' C hw' J l1 l2=>?_,fun s t hn=>?_⟩
  ·rw[aA0 g1 g2]
   split
   ·rename_i hh
    obtain⟨rfl,rfl⟩:=hh
    rw[hA] at C;rw[hB] at hw'
    rw[←Option.some.inj C,←Option.some.inj hw',hfull]
   rename_i hh
   refine hd.new s t w w' C hw' ?_ l1 l2
   unfold come at J⊢
   omega
  rw[aA0 g1 g2]
  split
  ·rename_i hh
   exfalso
   apply hn
   obtain⟨rfl,rfl⟩:=hh
   refine⟨?_,by rw[eA];omega,by rw[eB];omega⟩
   unfold come;omega
  rename_i hh
  refine hd.old s t fun h3=>hn ⟨?_,h3.2⟩
  have:=h3.1
  unfold come at this⊢
  omega
 rw[if_pos (by simp[hb])]
 rw[if_neg hb] at hcell
 obtain⟨r3,v3,c1',c2',c3',_⟩:=hf.dim.get (s:=x+1-szT u) (t:=y+1-szT u') (by omega) (by omega)
 have e3:v3=((fd (fr ti (x+1-szT u)) (fr tk (y+1-szT u')):Nat):Int):=by
  have:=hf.val (x+1-szT u) (y+1-szT u') (by omega) (by omega) (Or.inl (by omega));rw[c3'] at this;exact Option.some.inj this
 obtain⟨rd,vd,g1,g2,g3,_⟩:=hd.dim.get (s:=p+x) (t:=q+y) (by omega) (by omega)
 have e4:vd=((fd [u] [u']:Nat):Int):=by
  have h5:=hd.old (p+x) (q+y) (fun h=>by have:=h.1;unfold come at this;omega)
  have h6:=need (p+x) (q+y) u u' (by omega) (by omega) (by omega) (by omega) hA hB (fun h=>hb (by rw[eA,eB] at h;omega))
  rw[h6,g3] at h5
  exact Option.some.inj h5
 have s4:=aB2 ti tk (x:=x+1-szT u) (y:=y+1-szT u') (by omega) (by omega)
 have s5:fd [u] [u']≤szT u+szT u':=by
  have h:=aE1 [u] [] [] [u']
  simp only[List.append_nil,List.nil_append] at h
  rw[fd_l0,fd_r0,P9,P9] at h
  exact h
 rw[dX (by rw[eA];omega)]
 simp only[Option.bind_some]
 rw[show((lf T (p+x):Nat):Int)-(p:Int)=((x+1-szT u:Nat):Int) by rw[eA];omega,aZ c1']
 simp only[Option.bind_some]
 rw[aZ E]
 simp only[Option.bind_some]
 rw[dX (by rw[eB];omega)]
 simp only[Option.bind_some]
 rw[show((lf T' (q+y):Nat):Int)-(q:Int)=((y+1-szT u':Nat):Int) by rw[eB];omega,aZ c2']
 simp only[Option.bind_some]
 rw[aZ g1]
 simp only[Option.bind_some]
 rw[aZ g2]
 simp only[Option.bind_some]
 rw[dX (by omega)]
 simp only[Option.bind_some]
 rw[aZ d2]
 simp only[Option.bind_some,Int.toNat_natCast]
 rw[dX (by omega)]
 simp only[Option.bind_some]
 refine⟨_,_,by rw[show((q+y:Nat):Int)+1=((q+(y+1):Nat):Int) by omega],fin _ (by rw[hcell,e1,e2,e3,e4];omega),?_⟩
 refine⟨hd.dim,fun s t w w' C hw' J l1 l2=>?_,fun s t hn=>?_⟩
 ·refine hd.new s t w w' C hw' ?_ l1 l2
  have:¬(s=p+x∧t=q+y):=fun h=>by
   obtain⟨rfl,rfl⟩:=h
   rw[eA] at l1;rw[eB] at l2
   exact hb (by omega)
  unfold come at J⊢
  omega
 refine hd.old s t fun h3=>hn ⟨?_,h3.2⟩
 have:=h3.1
 unfold come at this⊢
 omega
end
section
variable {c0 c1:DFlat} {T T' ti tk:Tr} {i k:Nat}
theorem FI.row {x:Nat} {f:List (List Int)} (h:FI ti tk x (szT tk) f):FI ti tk (x+1) 0 f:=by
 refine⟨h.dim,fun x' y' h1 h2 h3=>h.val x' y' h1 h2 ?_⟩
 omega
theorem DI.row {p q Y x:Nat} {D D':List (List Int)} (h:DI T T' p q Y x Y D D'):DI T T' p q Y (x+1) 0 D D':=by
 refine⟨h.dim,fun s t u u' hu hu' hc l1 l2=>h.new s t u u' hu hu' ?_ l1 l2,fun s t hn=>h.old s t fun hh=>hn ⟨?_,hh.2⟩⟩
 ·unfold come at*;omega
 have:=hh.1
 unfold come at*;omega
theorem DI.start {p q Y:Nat} {D:List (List Int)} (h:Dim D (szT T) (szT T')):DI T T' p q Y 0 0 D D:=
 ⟨h,fun s t u u' hu hu' A l1 l2=>by unfold come at A;omega,fun s t _=>rfl⟩
theorem row_m (h0:ArrOf c0 T) (h1:ArrOf c1 T') (C:szT T≤100000) (hT':szT T'≤100000) (hi:(po [T])[i]?=some ti) (hk:(po [T'])[k]?=some tk) {D:List (List Int)}
  (need:∀s t u u',i+1-szT ti≤s→s≤i→k+1-szT tk≤t→t≤k→(po [T])[s]?=some u→(po [T'])[t]?=some u'→¬(lf T s=i+1-szT ti∧lf T' t=k+1-szT tk)→at2 D s t=some ((fd [u] [u']:Nat):Int))
  {x:Nat} (A:x<szT ti) {f D':List (List Int)} (hf:FI ti tk x 0 f) (hd:DI T T' (i+1-szT ti) (k+1-szT tk) (szT tk) x 0 D D'):
  ∃r,dZ (fun s=>kP (k:Int) c0 c1 ((i+1-szT ti:Nat):Int) ((k+1-szT tk:Nat):Int) ((i+1-szT ti+x:Nat):Int) s.1 s.2.1 s.2.2) (((k+1-szT tk:Nat):Int),f,D')=some r∧FI ti tk (x+1) 0 r.1∧DI T T' (i+1-szT ti) (k+1-szT tk) (szT tk) (x+1) 0 D r.2:=by
 have hsk:=(pF [T'] hk).1
 refine uG (fun y s=>s.1=((k+1-szT tk+y:Nat):Int)∧FI ti tk x y s.2.1∧DI T T' (i+1-szT ti) (k+1-szT tk) (szT tk) x y D s.2.2) _ (szT tk) 0 _ ⟨O,hf,hd⟩ ?_ ?_
 ·rintro y ⟨a,f,D'⟩ _ hy ⟨e,hf,hd⟩
  simp only at e hf hd
  subst e
  obtain⟨f2,D2,h,a1,a2⟩:=inner_m h0 h1 C hT' hi hk need A (by omega) hf hd
  exact⟨_,h,O,a1,a2⟩
 rintro⟨a,f,D'⟩ ⟨e,hf,hd⟩
 simp only at e hf hd
 rw[Nat.zero_add] at e hf hd
 subst e
 refine⟨(f,D'),?_,hf.row,hd.row⟩
 simp only[kP]
 rw[if_neg (by simp;omega)]
theorem rows_m (h0:ArrOf c0 T) (h1:ArrOf c1 T') (A:szT T≤100000) (hT':szT T'≤100000) (hi:(po [T])[i]?=some ti) (hk:(po [T'])[k]?=some tk) {D:List (List Int)} (hD:Dim D (szT T) (szT T'))
  (need:∀s t u u',i+1-szT ti≤s→s≤i→k+1-szT tk≤t→t≤k→(po [T])[s]?=some u→(po [T'])[t]?=some u'→¬(lf T s=i+1-szT ti∧lf T' t=k+1-szT tk)→at2 D s t=some ((fd [u] [u']:Nat):Int))
  {f:List (List Int)} (hf:FI ti tk 0 0 f):
  ∃r,dZ (fun s=>nM (i:Int) (k:Int) c0 c1 ((i+1-szT ti:Nat):Int) ((k+1-szT tk:Nat):Int) s.1 s.2.1 s.2.2) (((i+1-szT ti:Nat):Int),f,D)=some r∧DI T T' (i+1-szT ti) (k+1-szT tk) (szT tk) (szT ti) 0 D r.2:=by
 have hsi:=(pF [T] hi).1
 have hiT:=zA hi
 refine uG (fun x s=>s.1=((i+1-szT ti+x:Nat):Int)∧FI ti tk x 0 s.2.1∧DI T T' (i+1-szT ti) (k+1-szT tk) (szT tk) x 0 D s.2.2) _ (szT ti) 0 _ ⟨O,hf,DI.start hD⟩ ?_ ?_
 ·rintro x ⟨a,f,D'⟩ _ hx ⟨e,hf,hd⟩
  simp only at e hf hd
  subst e
  obtain⟨r,h,a1,a2⟩:=row_m h0 h1 A hT' hi hk need (x:=x) (by omega) hf hd
  refine⟨(((i+1-szT ti+(x+1):Nat):Int),r.1,r.2),?_,O,a1,a2⟩
  simp only[nM]
  rw[if_pos (by simp;omega),h]
  simp only[Option.bind_some]
  rw[dX (by omega)]
  rfl
 rintro⟨a,f,D'⟩ ⟨e,hf,hd⟩
 simp only at e hf hd
 rw[Nat.zero_add] at e hf hd
 subst e
 refine⟨(f,D'),?_,hd⟩
 simp only[nM]
 rw[if_neg (by simp;omega)]
theorem border_m {N M:Nat} (hN:N≤4294967296) (hM:M≤4294967296) (hN0:0<N) {f:List (List Int)} (hf:Dim f N M) (hM0:0<M):
  ∃g,dZ (fun s=>kM f s.1 s.2) (0,f)=some g∧Dim g N M∧(∀x,x<N→at2 g x 0=some (x:Int))∧∃r0,idx g 0=some r0∧r0.length=M∧
   ∃g',dZ (fun s=>kN r0 s.1 s.2) (0,g)=some g'∧Dim g' N M∧(∀x,x<N→at2 g' x 0=some (x:Int))∧(∀y,y<M→at2 g' 0 y=some (y:Int)):=by
 obtain⟨g,hg,hd,hv⟩:=uG (body:=fun s=>kM f s.1 s.2) (fun k s=>s.1=(k:Int)∧Dim s.2 N M∧∀x,x<k→at2 s.2 x 0=some (x:Int)) (fun g=>Dim g N M∧∀x,x<N→at2 g x 0=some (x:Int)) N 0 (0,f) ⟨O,hf,fun x h=>by omega⟩
  (by
   rintro x ⟨a,f'⟩ _ C ⟨e,hd,hv⟩
   simp only at e hd hv
   subst e
   obtain⟨r,v,a1,a2,_,a4⟩:=hd.get (s:=x) (t:=0) (by omega) hM0
   refine⟨(((x+1:Nat):Int),f'.set x (r.set 0 (x:Int))),?_,O,hd.set a1 _,fun x' hx'=>?_⟩
   ·simp only[kM]
    rw[if_pos (by simp[hf.rows];omega),aZ a1]
    simp only[Option.bind_some]
    rw[show(0:Int)=((0:Nat):Int) from rfl,aZ a2]
    simp only[Option.bind_some,Int.toNat_natCast]
    rw[fC (by omega)]
    rfl
   simp only
   rw[aA0 a1 a2]
   split
   ·rename_i hh;rw[hh.1]
   rename_i hh
   exact hv x' (by omega))
  (by
   rintro⟨a,f'⟩ ⟨e,hd,hv⟩
   simp only at e hd hv
   subst e
   refine⟨f',?_,hd,fun x C=>hv x (by omega)⟩
   simp only[kM]
   rw[if_neg (by simp[hf.rows])])
 obtain⟨r0,v0,b1,b2,_,b4⟩:=hd.get (s:=0) (t:=0) hN0 hM0
 refine⟨g,hg,hd,hv,r0,aZ (k:=0) b1,b4,?_⟩
 obtain⟨g',hg',hd',hv',hw'⟩:=uG (body:=fun s=>kN r0 s.1 s.2) (fun k s=>s.1=(k:Int)∧Dim s.2 N M∧(∀x,x<N→at2 s.2 x 0=some (x:Int))∧∀y,y<k→at2 s.2 0 y=some (y:Int)) (fun g=>Dim g N M∧(∀x,x<N→at2 g x 0=some (x:Int))∧∀y,y<M→at2 g 0 y=some (y:Int)) M 0 (0,g) ⟨O,hd,hv,fun x h=>by omega⟩
  (by
   rintro y ⟨a,f'⟩ _ hy ⟨e,hd,hv,A⟩
   simp only at e hd hv A
   subst e
   obtain⟨r,v,a1,a2,_,a4⟩:=hd.get (s:=0) (t:=y) (by omega) (by omega)
   refine⟨(((y+1:Nat):Int),f'.set 0 (r.set y (y:Int))),?_,O,hd.set a1 _,fun x' hx'=>?_,fun y' hy'=>?_⟩
   ·simp only[kN]
    rw[if_pos (by simp[b4];omega),show(0:Int)=((0:Nat):Int) from rfl,aZ a1]
    simp only[Option.bind_some]
    rw[aZ a2]
    simp only[Option.bind_some,Int.toNat_natCast]
    rw[fC (by omega)]
    rfl
   ·simp only
    rw[aA0 a1 a2]
    split
    ·rename_i hh;rw[hh.1,←hh.2]
    exact hv x' hx'
   simp only
   rw[aA0 a1 a2]
   split
   ·rename_i hh;rw[hh.2]
   rename_i hh
   exact A y' (by omega))
  (by
   rintro⟨a,f'⟩ ⟨e,hd,hv,A⟩
   simp only at e hd hv A
   subst e
   refine⟨f',?_,hd,hv,fun y hy=>A y (by omega)⟩
   simp only[kN]
   rw[if_neg (by simp[b4])])
 exact⟨g',hg',hd',hv',hw'⟩
theorem filler_m (h0:ArrOf c0 T) (h1:ArrOf c1 T') (E:szT T≤100000) (hT':szT T'≤100000) (hi:(po [T])[i]?=some ti) (hk:(po [T'])[k]?=some tk) {D:List (List Int)} (hD:Dim D (szT T) (szT T'))
  (need:∀s t u u',i+1-szT ti≤s→s≤i→k+1-szT tk≤t→t≤k→(po [T])[s]?=some u→(po [T'])[t]?=some u'→¬(lf T s=i+1-szT ti∧lf T' t=k+1-szT tk)→at2 D s t=some ((fd [u] [u']:Nat):Int)):
  ∃D',oK (i:Int) (k:Int) c0 c1 D=some D'∧DI T T' (i+1-szT ti) (k+1-szT tk) (szT tk) (szT ti) 0 D D':=by
 have hsi:=(pF [T] hi).1
 have hsk:=(pF [T'] hk).1
 have hiT:=zA hi
 have hkT:=zA hk
 unfold oK
 rw[aZ (h0.left i hiT)]
 simp only[Option.bind_some]
 rw[aZ (h1.left k hkT)]
 simp only[Option.bind_some]
 rw[I7 hi,I7 hk,dX (by omega)]
 simp only[Option.bind_some]
 rw[dX (by omega)]
 simp only[Option.bind_some]
 rw[dX (by omega)]
 simp only[Option.bind_some]
 rw[dX (by omega)]
 simp only[Option.bind_some]
 rw[show(i:Int)-((i+1-szT ti:Nat):Int)+2=((szT ti+1:Nat):Int) by omega,show(k:Int)-((k+1-szT tk:Nat):Int)+2=((szT tk+1:Nat):Int) by omega]
 obtain⟨f,hf,hfd,_⟩:=table_m (szT ti+1) (szT tk+1) (by omega) (by omega)
 rw[hf]
 simp only[Option.bind_some]
 obtain⟨g,hg,hgd,hgv,r0,hr0,C,g',hg',hd',hv',hw'⟩:=border_m (by omega) (by omega) (by omega) hfd (by omega)
 rw[hg]
 simp only[Option.bind_some]
 rw[hr0]
 simp only[Option.bind_some]
 rw[hg']
 simp only[Option.bind_some]
 have hFI:FI ti tk 0 0 g':=by
  refine⟨hd',fun x' y' a1 a2 a3=>?_⟩
  by_cases A:x'=0
  ·subst A
   rw[hw' y' (by omega),G7,fd_r0,sz_fr tk a2]
  have:y'=0:=by omega
  subst this
  rw[hv' x' (by omega),G7,fd_l0,sz_fr ti a1]
 obtain⟨r,hr,hdi⟩:=rows_m h0 h1 E hT' hi hk hD need hFI
 rw[hr]
 exact⟨_,O,hdi⟩
end
mutual
def toT:Node→Tr
 |⟨k,t,_,_,kids⟩=> .node ⟨k,t⟩ (toR kids)
def toR:List Node→List Tr
 | []=>[]
 |n::l=>toR l++[toT n]
end
theorem toT_eq (n:Node):toT n= .node ⟨n.kind,n.text⟩ (toR n.kids):=by obtain⟨a,b,c,d,k⟩:=n;rw[toT]
theorem aJ1:toR []=[]:=by rw[toR]
theorem aM3 (n:Node) (l:List Node):toR (n::l)=toR l++[toT n]:=by rw[toR]
theorem toR_app:∀(l m:List Node),toR (l++m)=toR m++toR l
 | [],m=>by simp[aJ1]
 |n::l,m=>by rw[List.cons_append,aM3,toR_app l m,aM3,List.append_assoc]
theorem toR_snoc (l:List Node) (n:Node):toR (l++[n])=toT n::toR l:=by rw[toR_app,aM3,aJ1];rfl
theorem toR_take {l:List Node} {i:Nat} {n:Node} (h:l[i]?=some n):toR (l.take (i+1))=toT n::toR (l.take i):=by
 rw[lL h,toR_snoc]
mutual
theorem uO:∀n,szT (toT n)=aU n
 |⟨a,b,c,d,k⟩=>by rw[toT,szT,aU,aA8 k];omega
theorem aA8:∀l,szL (toR l)=dQ l
 | []=>by rw[toR,szL,dQ]
 |n::l=>by rw[toR,wG,P9,dQ,aA8 l,uO n];omega
end
mutual
def kY:Node→Nat→List Int
 |⟨_,_,_,_,kids⟩,c=>numsL kids (c+1)++[(c:Int)]
def numsL:List Node→Nat→List Int
 | [],_=>[]
 |n::l,c=>kY n c++numsL l (c+aU n)
end
theorem aG8 (n:Node) (c:Nat):kY n c=numsL n.kids (c+1)++[(c:Int)]:=by obtain⟨a,b,e,d,k⟩:=n;rw[kY]
theorem numsL_app:∀(l m:List Node) (c:Nat),numsL (l++m) c=numsL l c++numsL m (c+dQ l)
 | [],m,c=>by simp[numsL,dQ]
 |n::l,m,c=>by rw[List.cons_append,numsL,numsL,numsL_app l m,dQ,List.append_assoc,Nat.add_assoc]
theorem numsL_take {l:List Node} {i:Nat} {n:Node} (h:l[i]?=some n) (c:Nat):numsL (l.take (i+1)) c=numsL (l.take i) c++kY n (c+dQ (l.take i)):=by
 rw[lL h,numsL_app,numsL,numsL,List.append_nil]
mutual
theorem xX:∀n c,(kY n c).length=aU n
 |⟨a,b,e,d,k⟩,c=>by rw[kY,List.length_append,uM k,aU];simp;omega
theorem uM:∀l c,(numsL l c).length=dQ l
 | [],c=>by rw[numsL,dQ];rfl
 |n::l,c=>by rw[numsL,List.length_append,xX n,uM l,dQ]
end
mutual
theorem nums_memN:∀n c x,x∈kY n c↔(c:Int)≤x∧x<((c+aU n:Nat):Int)
 |⟨a,b,e,d,k⟩,c,x=>by
  rw[kY,List.mem_append,aI3 k,aU,List.mem_singleton];omega
theorem aI3:∀l c x,x∈numsL l c↔(c:Int)≤x∧x<((c+dQ l:Nat):Int)
 | [],c,x=>by rw[numsL,dQ];simp
 |n::l,c,x=>by
  rw[numsL,List.mem_append,nums_memN n,aI3 l,dQ];omega
end
mutual
theorem aG9:∀n c,(kY n c).Nodup
 |⟨a,b,e,d,k⟩,c=>by
  rw[kY,List.nodup_append]
  refine⟨nums_nodupL k _,by simp,fun x A y hy=>?_⟩
  rw[aI3] at A
  rw[List.mem_singleton] at hy
  omega
theorem nums_nodupL:∀l c,(numsL l c).Nodup
 | [],c=>by rw[numsL];exact List.nodup_nil
 |n::l,c=>by
  rw[numsL,List.nodup_append]
  refine⟨aG9 n _,nums_nodupL l _,fun x A y hy=>?_⟩
  rw[nums_memN] at A
  rw[aI3] at hy
  omega
end
def lefts:Nat→List Tr→List Int
 |_,[]=>[]
 |b,u::l=>((b+1-szT u:Nat):Int)::lefts (b+1) l
theorem aB9:∀(b:Nat) (l m:List Tr),lefts b (l++m)=lefts b l++lefts (b+l.length) m
 |b,[],m=>rfl
 |b,u::l,m=>by
  rw[List.cons_append,lefts,lefts,aB9 (b+1) l m,List.length_cons,List.cons_append]
  congr 3;omega
theorem Q8:∀(b:Nat) (l:List Tr),(lefts b l).length=l.length
 |b,[]=>rfl
 |b,u::l=>by rw[lefts,List.length_cons,Q8,List.length_cons]
theorem lefts_get:∀(b:Nat) (l:List Tr) (s:Nat) (u:Tr),l[s]?=some u→(lefts b l)[s]?=some ((b+s+1-szT u:Nat):Int)
 |b,u::l,0,v,h=>by simp only[List.getElem?_cons_zero,Option.some.injEq] at h;subst h;rfl
 |b,u::l,s+1,v,h=>by
  simp only[List.getElem?_cons_succ] at h
  rw[lefts,List.getElem?_cons_succ,lefts_get (b+1) l s v h,show b+1+s=b+(s+1) by omega]
theorem walk_m:∀(f:Nat) (n:Node),SizeOf.sizeOf n<f→∀(c B:Nat) (g:DFlat),g.labels.length=B→g.left.length=B→g.numbers.length=B→B+aU n≤100000→c+aU n≤100000→
  lI f n (c:Int) g=some (((c+aU n:Nat):Int),⟨g.labels++(po [toT n]).map labT,g.left++lefts B (po [toT n]),g.numbers++kY n c⟩):=by
 intro f
 induction f with
 |zero=>intro n h;omega
 |succ f ih=>
  intro n hsz c B g h1 h2 h3 hB hc
  have hcnt:=fO n
  unfold lI pK
  rw[fC (by omega)]
  simp only[Option.bind_some]
  refine yP (fun i=>((i:Int),((c+1+dQ (n.kids.take i):Nat):Int),g.labels++(po (toR (n.kids.take i))).map labT,g.left++lefts B (po (toR (n.kids.take i))),g.numbers++numsL (n.kids.take i) (c+1))) n.kids.length
   (((c+1+dQ n.kids:Nat):Int),g.labels++(po (toR n.kids)).map labT,g.left++lefts B (po (toR n.kids)),g.numbers++numsL n.kids (c+1)) ?_ ?_ ?_ ?_
  ·simp[aJ1,po_nil,lefts,numsL,dQ]
  ·intro i hi
   obtain⟨x,A⟩:=dD hi
   have e1:=xQ A
   have e2:=aA1 n.kids (i+1)
   have e4:=uA n.kids
   simp only[mG]
   rw[if_pos (by simp;omega),aZ A]
   simp only[Option.bind_some]
   rw[ih x (by have:=aI2 A;omega) (c+1+dQ (n.kids.take i)) (B+dQ (n.kids.take i)) _ (by simp[O4,aA8,h1]) (by simp[Q8,O4,aA8,h2]) (by simp[uM,h3]) (by omega) (by omega)]
   simp only[Option.bind_some]
   rw[fC (by omega)]
   simp only[Option.bind_some]
   rw[toR_take A,po_cons (toT x) (toR (n.kids.take i)),numsL_take A,List.map_append,aB9,O4,aA8,e1]
   simp only[List.append_assoc,Nat.add_assoc]
  ·simp only[mG]
   rw[if_neg (by simp),List.take_of_length_le (Nat.le_refl _)]
  have l1:(g.labels++(po (toR n.kids)).map labT).length=B+dQ n.kids:=by simp[O4,aA8,h1]
  have l2:(g.left++lefts B (po (toR n.kids))).length=B+dQ n.kids:=by simp[Q8,O4,aA8,h2]
  have l3:(g.numbers++numsL n.kids (c+1)).length=B+dQ n.kids:=by simp[uM,h3]
  simp only
  rw[wI (by rw[l1];simp;omega)]
  simp only[Option.bind_some]
  rw[wI (by rw[l2];simp;omega)]
  simp only[Option.bind_some]
  rw[wI (by rw[l3];simp;omega)]
  simp only[Option.bind_some]
  have e3:=uO n
  rw[aI8,aB9,O4,toT_eq,aG8]
  simp only[I4,labT,List.map_append,List.map_cons,List.map_nil,List.append_assoc,lefts]
  rw[←toT_eq,e3,aA8,h1]
  congr 3
  ·omega
  congr 3;omega
theorem flatten_m (n:Node) (h:aU n≤100000):qA n=some ⟨(po [toT n]).map labT,lefts 0 (po [toT n]),kY n 0⟩:=by
 unfold qA xH
 have:=walk_m (SizeOf.sizeOf n+1) n (by omega) 0 0 ⟨[],[],[]⟩ O O O (by omega) (by omega)
 simp only[Nat.zero_add,List.nil_append] at this
 rw[show((0:Nat):Int)=0 from rfl] at this
 rw[this]
 rfl
theorem arrOf (n:Node):ArrOf ⟨(po [toT n]).map labT,lefts 0 (po [toT n]),kY n 0⟩ (toT n):=by
 refine⟨O,fun s hs=>?_,by simp[Q8,vI]⟩
 obtain⟨u,hu,_⟩:=at_lt hs
 rw[I7 hu]
 have:=lefts_get 0 (po [toT n]) s u hu
 rw[Nat.zero_add] at this
 exact this
def V8 (T:Tr) (i:Nat):Prop:=i<szT T∧∀j,i<j→j<szT T→lf T j≠lf T i
theorem root_of (T:Tr):∀(m s:Nat),s<szT T→szT T-s≤m→∃r,V8 T r∧lf T r=lf T s∧s≤r
 |0,s,h,h2=>by omega
 |m+1,s,h,h2=>by
  by_cases hr:V8 T s
  ·exact⟨s,hr,O,Nat.le_refl _⟩
  unfold V8 at hr
  have:∃j,s<j∧j<szT T∧lf T j=lf T s:=by
   apply Classical.byContradiction
   intro hn
   exact hr ⟨h,fun j h1 h3 e=>hn ⟨j,h1,h3,e⟩⟩
  obtain⟨j,h1,h3,e⟩:=this
  obtain⟨r,a1,a2,a3⟩:=root_of T m j h3 (by omega)
  exact⟨r,a1,a2.trans e,by omega⟩
theorem root_uniq {T:Tr} {i j:Nat} (hi:V8 T i) (A:V8 T j) (e:lf T i=lf T j):i=j:=by
 rcases Nat.lt_trichotomy i j with h|h|h
 ·exact absurd e.symm (hi.2 j h A.1)
 ·exact h
 exact absurd e (A.2 i h hi.1)
theorem lf_le {T:Tr} {s:Nat} (h:s<szT T):lf T s≤s:=by
 obtain⟨u,hu,h2⟩:=at_lt h
 have:=sW u
 rw[I7 hu];omega
theorem laminar {T:Tr} {i j:Nat} (h:i<j) (C:j<szT T):lf T j≤lf T i∨i<lf T j:=by
 obtain⟨t,ht,h2⟩:=at_lt C
 have pt:=sW t
 by_cases A:i<lf T j
 ·exact Or.inr A
 left
 rw[I7 ht] at A⊢
 obtain⟨u,hu,h3⟩:=at_lt (T:=T) (s:=i) (by omega)
 have e:=sub_at ht (x:=i-(j+1-szT t)) (by omega)
 rw[show j+1-szT t+(i-(j+1-szT t))=i by omega,hu] at e
 have:=(pF [t] e).1
 have pu:=sW u
 rw[I7 hu];omega
theorem root_in {T:Tr} {i s r:Nat} (hi:V8 T i) (h1:lf T i≤s) (h2:s≤i) (hr:V8 T r) (e:lf T r=lf T s):r≤i:=by
 apply Classical.byContradiction
 intro hn
 have hs:=lf_le (T:=T) (s:=s) (by have:=hi.1;omega)
 have a:=laminar (T:=T) (i:=i) (j:=r) (by omega) hr.1
 have b:lf T i≤lf T s:=by
  rcases Nat.lt_or_ge s i with h|h
  ·rcases laminar h hi.1 with h3|h3<;>omega
  rw[show s=i by omega];exact Nat.le_refl _
 exact hi.2 r (by omega) hr.1 (by omega)
theorem mem_mget {κ β:Type} [DecidableEq κ] {l:List (κ×β)} (hn:(l.map (·.1)).Nodup) {a:κ} {b:β}:(a,b)∈l↔jL l a=some b:=by
 constructor
 ·intro h
  obtain⟨j,C⟩:=List.getElem?_of_mem h
  exact mget_at hn C
 intro h
 unfold jL at h
 obtain⟨p,A,e⟩:=Option.map_eq_some_iff.1 h
 have h1:=List.mem_of_find?_eq_some A
 have h2:=List.find?_some A
 simp only[decide_eq_true_eq] at h2
 obtain⟨x,y⟩:=p
 simp only at h2 e
 subst h2;subst e;exact h1
theorem sortedN {l:List Int} (h:l.Nodup):(l.mergeSort fun x y=>decide (x≤y)).Pairwise (· < ·):=by
 have h1:(l.mergeSort fun x y=>decide (x≤y)).Pairwise fun a b=>decide (a≤b)=true:=List.pairwise_mergeSort (fun a b c h k=>by simp at*;omega) (fun a b=>by simp;omega) l
 have h2:(l.mergeSort fun x y=>decide (x≤y)).Nodup:=(List.mergeSort_perm l _).nodup_iff.2 h
 exact(h1.and h2).imp fun h=>by
  have:=h.1
  simp at this
  have:=h.2
  omega
structure Roots (T:Tr) (R:List Nat):Prop where
 rise:R.Pairwise (· < ·)
 mem:∀i,i∈R↔V8 T i
theorem roots_m {c:DFlat} {T:Tr} (h:ArrOf c T) (hT:szT T≤100000):∃R,kF c=some (R.map fun i:Nat=>(i:Int))∧Roots T R∧R.length≤szT T:=by
 unfold kF
 obtain⟨l,F,hn,hg,hlen⟩:=uG (body:=fun s=>lN c s.1 s.2) (fun k s=>s.1=(k:Int)∧(s.2.map (·.1)).Nodup∧(∀a b,jL s.2 a=some b↔∃i:Nat,i<k∧b=(i:Int)∧a=((lf T i:Nat):Int)∧∀j,i<j→j<k→lf T j≠lf T i)∧s.2.length≤k)
  (fun l=>(l.map (·.1)).Nodup∧(∀a b,jL l a=some b↔∃i:Nat,i<szT T∧b=(i:Int)∧a=((lf T i:Nat):Int)∧∀j,i<j→j<szT T→lf T j≠lf T i)∧l.length≤szT T) (szT T) 0 (0,[])
  ⟨O,List.nodup_nil,fun a b=>by simp[jL],Nat.le_refl _⟩
  (by
   rintro k ⟨x,l⟩ _ hk ⟨e,hn,hg,hlen⟩
   simp only at e hn hg hlen
   subst e
   refine⟨(((k+1:Nat):Int),I9 l ((lf T k:Nat):Int) (k:Int)),?_,O,mput_nodup hn _ _,fun a b=>?_,?_⟩
   ·simp only[lN]
    rw[if_pos (by simp[h.leftn];omega),aZ (h.left k (by omega))]
    simp only[Option.bind_some]
    rw[fC (by omega)]
    rfl
   ·simp only
    rw[mget_put]
    split
    ·rename_i ha
     subst ha
     constructor
     ·intro hb
      exact⟨k,by omega,(Option.some.inj hb).symm,O,fun j h1 h2=>by omega⟩
     rintro⟨i,h1,rfl,h3,h4⟩
     by_cases hik:i=k
     ·rw[hik]
     exact absurd (by omega) (h4 k (by omega) (by omega))
    rename_i ha
    rw[hg]
    constructor
    ·rintro⟨i,h1,h2,h3,h4⟩
     refine⟨i,by omega,h2,h3,fun j a1 a2=>?_⟩
     by_cases hjk:j=k
     ·subst hjk;intro e;apply ha;rw[h3,e]
     exact h4 j a1 (by omega)
    rintro⟨i,h1,h2,h3,h4⟩
    have hik:i≠k:=fun e=>by subst e;exact ha h3
    exact⟨i,by omega,h2,h3,fun j a1 a2=>h4 j a1 (by omega)⟩
   have:=mput_len2 l ((lf T k:Nat):Int) (k:Int)
   simp only;omega)
  (by
   rintro⟨x,l⟩ ⟨e,hn,hg,hlen⟩
   simp only at e hn hg hlen
   rw[Nat.zero_add] at e hg hlen
   subst e
   refine⟨l,?_,hn,hg,hlen⟩
   simp only[lN]
   rw[if_neg (by simp[h.leftn])])
 rw[F]
 simp only[Option.bind_some]
 have hmem:∀p∈l,∃i:Nat,i<szT T∧p=(((lf T i:Nat):Int),(i:Int))∧∀j,i<j→j<szT T→lf T j≠lf T i:=fun p A=>by
  obtain⟨i,a1,a2,a3,a4⟩:=(hg p.1 p.2).1 ((mem_mget hn).1 A)
  exact⟨i,a1,by rw[←a2,←a3],a4⟩
 unfold P6
 rw[if_pos ⟨List.all_eq_true.2 fun p A=>by
  obtain⟨i,a1,rfl,_⟩:=hmem p A
  have:=lf_le a1
  simp only[Bool.and_eq_true,decide_eq_true_eq]
  omega,by omega⟩]
 simp only[Option.bind_some]
 have hnd:(l.map (·.2)).Nodup:=by
  rw[List.nodup_iff_pairwise_ne,List.pairwise_map]
  rw[List.nodup_iff_pairwise_ne,List.pairwise_map] at hn
  refine List.Pairwise.imp_of_mem (fun{p q} A hq hne=>?_) hn
  obtain⟨i,a1,rfl,_⟩:=hmem p A
  obtain⟨j,b1,rfl,_⟩:=hmem q hq
  simp only at hne⊢
  intro e
  apply hne
  have:i=j:=by omega
  rw[this]
 have hs:=sortedN hnd
 have C:∀x,x∈((l.map (·.2)).mergeSort fun x y=>decide (x≤y))↔∃i:Nat,x=(i:Int)∧V8 T i:=fun x=>by
  rw[List.mem_mergeSort,List.mem_map]
  constructor
  ·rintro⟨p,A,rfl⟩
   obtain⟨i,a1,rfl,a3⟩:=hmem p A
   exact⟨i,O,a1,a3⟩
  rintro⟨i,rfl,h1,h2⟩
  exact⟨(((lf T i:Nat):Int),(i:Int)),(mem_mget hn).2 ((hg _ _).2 ⟨i,h1,O,O,h2⟩),O⟩
 rw[isort_eq]
 have hvl:((l.map (·.2)).mergeSort fun x y=>decide (x≤y)).length≤szT T:=by rw[List.length_mergeSort,List.length_map];exact hlen
 generalize (l.map (·.2)).mergeSort (fun x y=>decide (x≤y))=V at hs C hvl⊢
 refine⟨V.map Int.toNat,?_,⟨?_,fun i=>?_⟩,by rw[List.length_map];exact hvl⟩
 ·rw[List.map_map]
  have:V.map ((fun i:Nat=>(i:Int))∘Int.toNat)=V.map id:=List.map_congr_left fun x E=>by
   obtain⟨i,rfl,_⟩:=(C x).1 E
   simp
  rw[this,List.map_id]
 ·rw[List.pairwise_map]
  refine List.Pairwise.imp_of_mem (fun{a b} ha hb hab=>?_) hs
  obtain⟨i,rfl,_⟩:=(C a).1 ha
  obtain⟨j,rfl,_⟩:=(C b).1 hb
  omega
 rw[List.mem_map]
 constructor
 ·rintro⟨x,E,rfl⟩
  obtain⟨j,rfl,h2⟩:=(C x).1 E
  simpa using h2
 intro hi
 exact⟨(i:Int),(C _).2 ⟨i,O,hi⟩,by simp⟩
structure Good (T T':Tr) (R R':List Nat) (a b:Nat) (D:List (List Int)):Prop where
 dim:Dim D (szT T) (szT T')
 val:∀s t u u' r r',(po [T])[s]?=some u→(po [T'])[t]?=some u'→V8 T r→lf T r=lf T s→V8 T' r'→lf T' r'=lf T' t→
  (r∈R.take a∨R[a]?=some r∧r'∈R'.take b)→at2 D s t=some ((fd [u] [u']:Nat):Int)
theorem rise_before {R:List Nat} (h:R.Pairwise (· < ·)) {a i r:Nat} (ha:R[a]?=some i) (hr:r∈R) (hlt:r<i):r∈R.take a:=by
 obtain⟨j,A⟩:=List.getElem?_of_mem hr
 obtain⟨h1,h2⟩:=List.getElem?_eq_some_iff.1 A
 obtain⟨h3,h4⟩:=List.getElem?_eq_some_iff.1 ha
 rw[List.pairwise_iff_getElem] at h
 have:j<a:=by
  rcases Nat.lt_trichotomy j a with hh|hh|hh
  ·exact hh
  ·subst hh;omega
  have:=h a j h3 h1 hh;omega
 exact List.mem_of_getElem? (i:=j) (by rw[List.getElem?_take,if_pos this];exact A)
theorem rise_take {R:List Nat} {a i r:Nat} (ha:R[a]?=some i):r∈R.take (a+1)↔r∈R.take a∨r=i:=by
 rw[lL ha,List.mem_append,List.mem_singleton]
theorem pair_m {c0 c1:DFlat} {T T':Tr} {R R':List Nat} (h0:ArrOf c0 T) (h1:ArrOf c1 T') (C:szT T≤100000) (hT':szT T'≤100000) (A:Roots T R) (hR':Roots T' R') {a b i k:Nat} (ha:R[a]?=some i) (hb:R'[b]?=some k) {D:List (List Int)} (hD:Good T T' R R' a b D):
  ∃D',oK (i:Int) (k:Int) c0 c1 D=some D'∧Good T T' R R' a (b+1) D':=by
 have ri:=(A.mem i).1 (List.mem_of_getElem? ha)
 have rk:=(hR'.mem k).1 (List.mem_of_getElem? hb)
 obtain⟨ti,hti,si⟩:=at_lt ri.1
 obtain⟨tk,htk,sk⟩:=at_lt rk.1
 have pi:=sW ti
 have pk:=sW tk
 have ei:=I7 hti
 have ek:=I7 htk
 obtain⟨D',hD',hd⟩:=filler_m h0 h1 C hT' hti htk hD.dim (fun s t u u' a1 a2 a3 a4 hu hu' hne=>by
  have ls:=zA hu
  have lt:=zA hu'
  obtain⟨r,b1,b2,b3⟩:=root_of T _ s ls (Nat.le_refl _)
  obtain⟨r',c1,c2,c3⟩:=root_of T' _ t lt (Nat.le_refl _)
  have d1:=root_in ri (by rw[ei];exact a1) a2 b1 b2
  have d2:=root_in rk (by rw[ek];exact a3) a4 c1 c2
  refine hD.val s t u u' r r' hu hu' b1 b2 c1 c2 ?_
  rcases Nat.lt_or_ge r i with h|h
  ·exact Or.inl (rise_before A.rise ha ((A.mem r).2 b1) h)
  have:r=i:=by omega
  subst this
  refine Or.inr ⟨ha,rise_before hR'.rise hb ((hR'.mem r').2 c1) ?_⟩
  rcases Nat.lt_or_ge r' k with h2|h2
  ·exact h2
  have:r'=k:=by omega
  subst this
  exact absurd ⟨by rw[←b2,ei],by rw[←c2,ek]⟩ hne)
 refine⟨D',hD',hd.dim,fun s t u u' r r' hu hu' b1 b2 c1 c2 hr=>?_⟩
 have ls:=zA hu
 have lt:=zA hu'
 by_cases hik:r=i∧r'=k
 ·obtain⟨rfl,rfl⟩:=hik
  refine hd.new s t u u' hu hu' ?_ (by rw[←b2,ei]) (by rw[←c2,ek])
  have e1:=lf_le ls
  have e2:=lf_le lt
  have f1:s≤r:=by
   apply Classical.byContradiction
   intro hn
   exact b1.2 s (by omega) ls b2.symm
  have f2:t≤r':=by
   apply Classical.byContradiction
   intro hn
   exact c1.2 t (by omega) lt c2.symm
  unfold come
  omega
 rw[hd.old s t (fun hh=>hik ⟨root_uniq b1 ri (by rw[b2,hh.2.1,ei]),root_uniq c1 rk (by rw[c2,hh.2.2,ek])⟩)]
 refine hD.val s t u u' r r' hu hu' b1 b2 c1 c2 ?_
 rcases hr with hr|⟨hr,hr2⟩
 ·exact Or.inl hr
 rcases(rise_take hb).1 hr2 with h|h
 ·exact Or.inr ⟨hr,h⟩
 rw[ha] at hr
 exact absurd ⟨(Option.some.inj hr).symm,h⟩ hik
theorem pairs_m {c0 c1:DFlat} {T T':Tr} {R R':List Nat} (h0:ArrOf c0 T) (h1:ArrOf c1 T') (C:szT T≤100000) (hT':szT T'≤100000) (A:Roots T R) (hR':Roots T' R') (hroots:kF c1=some (R'.map fun i:Nat=>(i:Int)))
  (hl:R.length≤100000) (hl':R'.length≤100000) {D:List (List Int)} (hD:Dim D (szT T) (szT T')):
  ∃D',dZ (fun s=>nN c0 c1 (R.map fun i:Nat=>(i:Int)) s.1 s.2) (0,D)=some D'∧Dim D' (szT T) (szT T')∧∀s t u u',(po [T])[s]?=some u→(po [T'])[t]?=some u'→at2 D' s t=some ((fd [u] [u']:Nat):Int):=by
 refine uG (fun a s=>s.1=(a:Int)∧Good T T' R R' a 0 s.2) _ R.length 0 _ ⟨O,hD,fun s t u u' r r' _ _ _ _ _ _ h=>by simp at h⟩ ?_ ?_
 ·rintro a ⟨x,D⟩ _ ha ⟨e,hg⟩
  simp only at e hg
  subst e
  obtain⟨i,hi⟩:=dD (l:=R) (k:=a) (by omega)
  obtain⟨D',hD',hg'⟩:=uG (body:=fun s=>nO c0 c1 (i:Int) (R'.map fun i:Nat=>(i:Int)) s.1 s.2) (fun b s=>s.1=(b:Int)∧Good T T' R R' a b s.2) (fun D=>Good T T' R R' (a+1) 0 D) R'.length 0 (0,D) ⟨O,hg⟩
   (by
    rintro b ⟨x,D⟩ _ hb ⟨e,hg⟩
    simp only at e hg
    subst e
    obtain⟨k,hk⟩:=dD (l:=R') (k:=b) (by omega)
    obtain⟨D',hD',hg'⟩:=pair_m h0 h1 C hT' A hR' hi hk hg
    refine⟨(((b+1:Nat):Int),D'),?_,O,hg'⟩
    simp only[nO]
    rw[if_pos (by simp;omega),aZ (by rw[List.getElem?_map,hk];rfl)]
    simp only[Option.bind_some]
    rw[hD']
    simp only[Option.bind_some]
    rw[fC (by omega)]
    rfl)
   (by
    rintro⟨x,D⟩ ⟨e,hg⟩
    simp only at e hg
    rw[Nat.zero_add] at e hg
    subst e
    refine⟨D,?_,hg.dim,fun s t u u' r r' hu hu' b1 b2 c1 c2 hr=>?_⟩
    ·simp only[nO]
     rw[if_neg (by simp)]
    refine hg.val s t u u' r r' hu hu' b1 b2 c1 c2 ?_
    rcases hr with hr|hr
    ·rcases(rise_take hi).1 hr with h|h
     ·exact Or.inl h
     subst h
     exact Or.inr ⟨hi,by rw[List.take_of_length_le (Nat.le_refl _)];exact(hR'.mem r').2 c1⟩
    simp at hr)
  refine⟨(((a+1:Nat):Int),D'),?_,O,hg'⟩
  simp only[nN]
  rw[if_pos (by simp;omega),aZ (by rw[List.getElem?_map,hi];rfl)]
  simp only[Option.bind_some]
  rw[hroots]
  simp only[Option.bind_some]
  rw[hD']
  simp only[Option.bind_some]
  rw[fC (by omega)]
  rfl
 rintro⟨x,D⟩ ⟨e,hg⟩
 simp only at e hg
 rw[Nat.zero_add] at e hg
 subst e
 refine⟨D,?_,hg.dim,fun s t u u' hu hu'=>?_⟩
 ·simp only[nN]
  rw[if_neg (by simp)]
 obtain⟨r,b1,b2,b3⟩:=root_of T _ s (zA hu) (Nat.le_refl _)
 obtain⟨r',c1,c2,c3⟩:=root_of T' _ t (zA hu') (Nat.le_refl _)
 exact hg.val s t u u' r r' hu hu' b1 b2 c1 c2 (Or.inl (by rw[List.take_of_length_le (Nat.le_refl _)];exact(A.mem r).2 b1))
structure Nums (ns:List Int) (N:Nat):Prop where
 len:ns.length=N
 rng:∀x∈ns,0≤x∧x<(N:Int)
 nodup:ns.Nodup
theorem nums_of (n:Node):Nums (kY n 0) (aU n):=⟨xX n 0,fun x A=>by have:=(nums_memN n 0 x).1 A;omega,aG9 n 0⟩
theorem Nums.inj {ns:List Int} {N:Nat} (h:Nums ns N) {s t:Nat} {x y:Int} (hs:ns[s]?=some x) (ht:ns[t]?=some y) (e:x.toNat=y.toNat):s=t:=by
 have h1:=h.rng x (List.mem_of_getElem? hs)
 have h2:=h.rng y (List.mem_of_getElem? ht)
 have:x=y:=by omega
 subst this
 exact(List.getElem?_inj (List.getElem?_eq_some_iff.1 hs).1 h.nodup).1 (hs.trans ht.symm)
structure Wrote (D:List (List Int)) (ns ns':List Int) (N N' i k:Nat) (out:List (List Int)):Prop where
 dim:Dim out N N'
 val:∀s t x y d,ns[s]?=some x→ns'[t]?=some y→at2 D s t=some d→(s<i∨s=i∧t<k)→at2 out x.toNat y.toNat=some d
theorem Wrote.step {D:List (List Int)} {ns ns':List Int} {N N' i k:Nat} {out:List (List Int)} (hn:Nums ns N) (hn':Nums ns' N') (h:Wrote D ns ns' N N' i k out) {x y d d0:Int} {r:List Int} (C:ns[i]?=some x) (hy:ns'[k]?=some y) (hd:at2 D i k=some d)
  (hr:out[x.toNat]?=some r) (hd0:r[y.toNat]?=some d0):Wrote D ns ns' N N' i (k+1) (out.set x.toNat (r.set y.toNat d)):=by
 refine⟨h.dim.set hr d,fun s t x' y' d' hx' hy' hd' A=>?_⟩
 rw[aA0 hr hd0]
 split
 ·rename_i hh
  have e1:=hn.inj hx' C hh.1
  have e2:=hn'.inj hy' hy hh.2
  subst e1;subst e2
  rw[hd] at hd';exact hd'
 rename_i hh
 refine h.val s t x' y' d' hx' hy' hd' ?_
 rcases A with h1|⟨h1,h2⟩
 ·exact Or.inl h1
 subst h1
 refine Or.inr ⟨O,?_⟩
 rcases Nat.lt_or_ge t k with h3|h3
 ·exact h3
 have:t=k:=by omega
 subst this
 rw[C] at hx';rw[hy] at hy'
 exact absurd ⟨by rw[Option.some.inj hx'],by rw[Option.some.inj hy']⟩ hh
theorem write_m {c0 c1:DFlat} {D:List (List Int)} {N N':Nat} (hN:N≤100000) (hN':N'≤100000) (hD:Dim D N N') (hn:Nums c0.numbers N) (hn':Nums c1.numbers N') {out:List (List Int)} (F:Dim out N N'):
  ∃out',dZ (fun s=>nP c0 c1 D s.1 s.2) (0,out)=some out'∧Wrote D c0.numbers c1.numbers N N' N 0 out':=by
 refine uG (fun i s=>s.1=(i:Int)∧Wrote D c0.numbers c1.numbers N N' i 0 s.2) _ N 0 _ ⟨O,F,fun s t x y d _ _ _ h=>by omega⟩ ?_ ?_
 ·rintro i ⟨z,out⟩ _ hi ⟨e,A⟩
  simp only at e A
  subst e
  obtain⟨row,hrow⟩:=dD (l:=D) (k:=i) (by rw[hD.rows];omega)
  have hrl:=hD.cols row (List.mem_of_getElem? hrow)
  obtain⟨x,C⟩:=dD (l:=c0.numbers) (k:=i) (by rw[hn.len];omega)
  have rx:=hn.rng x (List.mem_of_getElem? C)
  obtain⟨o2,h2,hw2⟩:=uG (body:=fun s=>nR c0 c1 (i:Int) row s.1 s.2) (fun k s=>s.1=(k:Int)∧Wrote D c0.numbers c1.numbers N N' i k s.2) (fun o=>Wrote D c0.numbers c1.numbers N N' (i+1) 0 o) N' 0 (0,out) ⟨O,A⟩
   (by
    rintro k ⟨z,out⟩ _ hk ⟨e,A⟩
    simp only at e A
    subst e
    obtain⟨d,hd⟩:=dD (l:=row) (k:=k) (by rw[hrl];omega)
    obtain⟨y,hy⟩:=dD (l:=c1.numbers) (k:=k) (by rw[hn'.len];omega)
    have ry:=hn'.rng y (List.mem_of_getElem? hy)
    obtain⟨r,v,a1,a2,_,_⟩:=A.dim.get (s:=x.toNat) (t:=y.toNat) (by omega) (by omega)
    refine⟨(((k+1:Nat):Int),out.set x.toNat (r.set y.toNat d)),?_,O,A.step hn hn' C hy (by unfold at2;rw[hrow];exact hd) a1 a2⟩
    simp only[nR]
    rw[if_pos (by simp[hrl];omega),aZ hd]
    simp only[Option.bind_some]
    rw[aZ C]
    simp only[Option.bind_some]
    rw[yB rx.1 a1]
    simp only[Option.bind_some]
    rw[aZ hy]
    simp only[Option.bind_some]
    rw[yB ry.1 a2]
    simp only[Option.bind_some]
    rw[fC (by omega)]
    rfl)
   (by
    rintro⟨z,out⟩ ⟨e,A⟩
    simp only at e A
    rw[Nat.zero_add] at e A
    subst e
    refine⟨out,?_,A.dim,fun s t x y d C hy hd E=>A.val s t x y d C hy hd ?_⟩
    ·simp only[nR]
     rw[if_neg (by simp[hrl])]
    have:=(List.getElem?_eq_some_iff.1 hy).1
    rw[hn'.len] at this
    omega)
  refine⟨(((i+1:Nat):Int),o2),?_,O,hw2⟩
  simp only[nP]
  rw[if_pos (by simp[hD.rows];omega),aZ hrow]
  simp only[Option.bind_some]
  rw[h2]
  simp only[Option.bind_some]
  rw[fC (by omega)]
  rfl
 rintro⟨z,out⟩ ⟨e,A⟩
 simp only at e A
 rw[Nat.zero_add] at e A
 subst e
 refine⟨out,?_,A⟩
 simp only[nP]
 rw[if_neg (by simp[hD.rows])]
structure SubOf (a b:Node) (out:List (List Int)):Prop where
 dim:Dim out (aU a) (aU b)
 val:∀(s t:Nat) (u u':Tr) (x y:Int),(po [toT a])[s]?=some u→(po [toT b])[t]?=some u'→(kY a 0)[s]?=some x→(kY b 0)[t]?=some y→at2 out x.toNat y.toNat=some ((fd [u] [u']:Nat):Int)
def td (a b:Node):Nat:=fd [toT a] [toT b]
theorem po_last (n:Node):(po [toT n])[aU n-1]?=some (toT n)∧(kY n 0)[aU n-1]?=some 0:=by
 have h:=fO n
 rw[aI8,aG8]
 have hk:I4 (toT n)=toR n.kids:=by rw[toT_eq];rfl
 rw[hk]
 have l1:(po (toR n.kids)).length=dQ n.kids:=by rw[O4,aA8]
 have l2:(numsL n.kids (0+1)).length=dQ n.kids:=uM _ _
 constructor
 ·rw[List.getElem?_append_right (by omega),l1]
  simp[show aU n-1-dQ n.kids=0 by omega]
 rw[List.getElem?_append_right (by omega),l2]
 simp[show aU n-1-dQ n.kids=0 by omega]
theorem subtrees_m (a b:Node) (ha:aU a≤100000) (hb:aU b≤100000):∃out,rH a b=some out∧SubOf a b out:=by
 unfold rH
 rw[flatten_m a ha]
 simp only[Option.bind_some]
 rw[flatten_m b hb]
 simp only[Option.bind_some]
 have h0:=arrOf a
 have h1:=arrOf b
 have sa:=uO a
 have sb:=uO b
 have na:Nums (DFlat.mk ((po [toT a]).map labT) (lefts 0 (po [toT a])) (kY a 0)).numbers (aU a):=nums_of a
 have nb:Nums (DFlat.mk ((po [toT b]).map labT) (lefts 0 (po [toT b])) (kY b 0)).numbers (aU b):=nums_of b
 have qa:((po [toT a]).map labT).length=aU a:=by simp[vI,sa]
 have qb:((po [toT b]).map labT).length=aU b:=by simp[vI,sb]
 have la:(DFlat.mk ((po [toT a]).map labT) (lefts 0 (po [toT a])) (kY a 0)).labels.length=aU a:=by simp[vI,sa]
 have lb:(DFlat.mk ((po [toT b]).map labT) (lefts 0 (po [toT b])) (kY b 0)).labels.length=aU b:=by simp[vI,sb]
 have ea:(DFlat.mk ((po [toT a]).map labT) (lefts 0 (po [toT a])) (kY a 0)).numbers=kY a 0:=rfl
 have eb:(DFlat.mk ((po [toT b]).map labT) (lefts 0 (po [toT b])) (kY b 0)).numbers=kY b 0:=rfl
 generalize DFlat.mk ((po [toT a]).map labT) (lefts 0 (po [toT a])) (kY a 0)=c0 at*
 generalize DFlat.mk ((po [toT b]).map labT) (lefts 0 (po [toT b])) (kY b 0)=c1 at*
 simp only[qa,qb]
 obtain⟨D,hD,hdim,_⟩:=table_m (aU a) (aU b) (by omega) (by omega)
 rw[hD]
 simp only[Option.bind_some,wF]
 obtain⟨R,F,hr,hrl⟩:=roots_m h0 (by omega)
 obtain⟨R',hR',hr',hrl'⟩:=roots_m h1 (by omega)
 rw[F]
 simp only[Option.bind_some]
 obtain⟨D',hD',hdim',hval⟩:=pairs_m h0 h1 (by omega) (by omega) hr hr' hR' (by omega) (by omega) (by rw[sa,sb];exact hdim)
 rw[hD']
 simp only[Option.bind_some]
 rw[sa,sb] at hdim'
 obtain⟨out,E,A⟩:=write_m ha hb hdim' na nb hdim
 rw[E]
 refine⟨out,O,A.dim,fun s t u u' x y hu hu' C hy=>?_⟩
 refine A.val s t x y _ (by rw[ea];exact C) (by rw[eb];exact hy) (hval s t u u' hu hu') (Or.inl ?_)
 have:=zA hu
 omega
theorem large1_m (n:Node) (h:aU n≤100000):rV n=some (decide (256<aU n)):=by
 unfold rV aA2
 rw[if_pos (by omega)]
 simp only[Option.bind_some]
 congr 1
 exact decide_eq_decide.2 (by omega)
theorem large_m (l:List Node) (h:∀n∈l,aU n≤100000) (hl:l.length≤100000):uJ l=some (l.any fun n=>decide (256<aU n)):=by
 unfold uJ iM jA
 rcases scan_loop (body:=fun s=>gB l s) l (fun n=>decide (256<aU n)) (fun k _=>Out.ret (k:Int)) (Out.brk ())
  (fun k n hk=>by
   have:=(List.getElem?_eq_some_iff.1 hk).1
   simp only[gB]
   rw[if_pos (by simp;omega),aZ hk]
   simp only[Option.bind_some]
   rw[large1_m n (h n (List.mem_of_getElem? hk))]
   simp only[Option.bind_some]
   split
   ·rfl
   rw[fC (by omega)];rfl)
  (by simp only[gB];rw[if_neg (by simp)]) with⟨k,n,_,_,_,h1,_,e⟩|⟨_,h1,_,e⟩
 ·rw[e,h1];simp
 rw[e,h1];simp
theorem not_large {l:List Node} (h:∀n∈l,aU n≤256):(l.any fun n=>decide (256<aU n))=false:=by
 rw[List.any_eq_false]
 intro n hn
 have:=h n hn
 simp;omega
theorem Subtrees_m (a b:Node) (ha:aU a≤256) (hb:aU b≤256):∃out,rG a b=some (out,0)∧SubOf a b out:=by
 unfold rG
 have h:∀n∈[a,b],aU n≤256:=by simp[ha,hb]
 rw[large_m _ (fun n hn=>by have:=h n hn;omega) (by simp),not_large h]
 obtain⟨out,A,hs⟩:=subtrees_m a b (by omega) (by omega)
 simp only[Option.bind_some]
 rw[if_neg (by simp),A]
 exact⟨out,O,hs⟩
theorem po_node (n:Node):po [toT n]=po (toR n.kids)++[toT n]:=by rw[aI8,toT_eq];rfl
theorem aI7 (l:List Node):(po (toR l)).length=dQ l:=by rw[O4,aA8]
theorem po_lenN (n:Node):(po [toT n]).length=aU n:=by rw[vI,uO]
theorem po_consR (n:Node) (r:List Node):po (toR (n::r))=po [toT n]++po (toR r):=by rw[aM3,po_app]
theorem numsL_cons (n:Node) (r:List Node) (z:Nat):numsL (n::r) z=kY n z++numsL r (z+aU n):=by rw[numsL]
theorem place_at:(∀(n:Node) (z:Nat) (q:Int) (s:Nat) (u:Tr) (x:Int),(po [toT n])[s]?=some u→(kY n z)[s]?=some x→∃m r,(m,r,x.toNat)∈prN n z q∧toT m=u∧0≤x)∧
  ∀(l:List Node) (z:Nat) (q:Int) (s:Nat) (u:Tr) (x:Int),(po (toR l))[s]?=some u→(numsL l z)[s]?=some x→∃m r,(m,r,x.toNat)∈prL l z q∧toT m=u∧0≤x:=by
 refine qN (fun n h z q s u x hu A=>?_) (fun z q s u x hu _=>by rw[aJ1,po_nil] at hu;simp at hu) (fun n r h1 h2 z q s u x hu A=>?_)
 ·have l1:=aI7 n.kids
  have l2:=uM n.kids (z+1)
  rw[po_node] at hu
  rw[aG8] at A
  rw[rJ]
  rcases Nat.lt_or_ge s (dQ n.kids) with hs|hs
  ·rw[List.getElem?_append_left (by omega)] at hu A
   obtain⟨m,r,a1,a2⟩:=h (z+1) z s u x hu A
   exact⟨m,r,List.mem_cons_of_mem _ a1,a2⟩
  rw[List.getElem?_append_right (by omega)] at hu A
  rw[l1] at hu
  rw[l2] at A
  have h0:s-dQ n.kids=0:=by
   have:=(List.getElem?_eq_some_iff.1 A).1
   simp only[List.length_singleton] at this
   omega
  rw[h0] at hu A
  simp only[List.getElem?_cons_zero,Option.some.injEq] at hu A
  subst hu A
  exact⟨n,q,by simp,O,by omega⟩
 have l1:=po_lenN n
 have l2:=xX n z
 rw[po_consR] at hu
 rw[numsL_cons] at A
 rw[pU]
 rcases Nat.lt_or_ge s (aU n) with hs|hs
 ·rw[List.getElem?_append_left (by omega)] at hu A
  obtain⟨m,r,a1,a2⟩:=h1 z q s u x hu A
  exact⟨m,r,List.mem_append_left _ a1,a2⟩
 rw[List.getElem?_append_right (by omega),l1] at hu
 rw[List.getElem?_append_right (by omega),l2] at A
 obtain⟨m,r,a1,a2⟩:=h2 _ q _ u x hu A
 exact⟨m,r,List.mem_append_right _ a1,a2⟩
theorem aC2:(∀(n:Node) (z s:Nat) (u:Tr) (x:Int),(po [toT n])[s]?=some u→(kY n z)[s]?=some x→(z:Int)≤x∧x+szT u≤z+aU n)∧
  ∀(l:List Node) (z s:Nat) (u:Tr) (x:Int),(po (toR l))[s]?=some u→(numsL l z)[s]?=some x→(z:Int)≤x∧x+szT u≤z+dQ l:=by
 constructor
 ·intro n z s u x hu A
  obtain⟨m,r,h1,h2,h3⟩:=place_at.1 n z 0 s u x hu A
  obtain⟨j,C⟩:=List.mem_iff_getElem?.1 h1
  obtain⟨a1,a2,_⟩:=aC3.1 n z 0 j m r _ C
  have:=uO m
  rw[h2] at this
  omega
 intro n z s u x hu A
 obtain⟨m,r,h1,h2,h3⟩:=place_at.2 n z 0 s u x hu A
 obtain⟨j,C⟩:=List.mem_iff_getElem?.1 h1
 obtain⟨a1,a2,_⟩:=aC3.2 n z 0 j m r _ C
 have:=uO m
 rw[h2] at this
 omega
theorem aI6:(∀(n:Node) (z s t:Nat) (u v:Tr) (x y:Int),(po [toT n])[s]?=some u→(po [toT n])[t]?=some v→(kY n z)[s]?=some x→(kY n z)[t]?=some y→((x<y∧y<x+szT u)↔(t<s∧s<t+szT u))∧(x+szT u≤y→s<t))∧
  ∀(n:List Node) (z s t:Nat) (u v:Tr) (x y:Int),(po (toR n))[s]?=some u→(po (toR n))[t]?=some v→(numsL n z)[s]?=some x→(numsL n z)[t]?=some y→((x<y∧y<x+szT u)↔(t<s∧s<t+szT u))∧(x+szT u≤y→s<t):=by
 refine qN (fun n h z s t u v x y hu hv A hy=>?_) (fun z s t u v x y hu _ _ _=>by rw[aJ1,po_nil] at hu;simp at hu) (fun n r h1 h2 z s t u v x y hu hv A hy=>?_)
 ·have l1:=aI7 n.kids
  have l2:=uM n.kids (z+1)
  have hc:=fO n
  have pu:=sW u
  have bs:s≤dQ n.kids:=by have:=(List.getElem?_eq_some_iff.1 A).1;rw[xX] at this;omega
  have bt:t≤dQ n.kids:=by have:=(List.getElem?_eq_some_iff.1 hy).1;rw[xX] at this;omega
  rw[po_node] at hu hv
  rw[aG8] at A hy
  have hroot:∀(s:Nat) (u:Tr) (x:Int),s=dQ n.kids→(po (toR n.kids)++[toT n])[s]?=some u→(numsL n.kids (z+1)++[(z:Int)])[s]?=some x→u=toT n∧x=z:=fun s u x e h1 h2=>by
   rw[List.getElem?_append_right (by omega),l1,e,Nat.sub_self] at h1
   rw[List.getElem?_append_right (by omega),l2,e,Nat.sub_self] at h2
   simp only[List.getElem?_cons_zero,Option.some.injEq] at h1 h2
   exact⟨h1.symm,h2.symm⟩
  have hsn:=uO n
  rcases Nat.lt_or_ge s (dQ n.kids) with hs|hs
  ·rw[List.getElem?_append_left (by omega)] at hu A
   have b1:=aC2.2 n.kids (z+1) s u x hu A
   rcases Nat.lt_or_ge t (dQ n.kids) with ht|ht
   ·rw[List.getElem?_append_left (by omega)] at hv hy
    exact h (z+1) s t u v x y hu hv A hy
   obtain⟨e1,e2⟩:=hroot t v y (by omega) hv hy
   omega
  obtain⟨e1,e2⟩:=hroot s u x (by omega) hu A
  rw[e1] at*
  rcases Nat.lt_or_ge t (dQ n.kids) with ht|ht
  ·rw[List.getElem?_append_left (by omega)] at hv hy
   have b1:=aC2.2 n.kids (z+1) t v y hv hy
   have pv:=sW v
   omega
  obtain⟨e3,e4⟩:=hroot t v y (by omega) hv hy
  omega
 have l1:=po_lenN n
 have l2:=xX n z
 rw[po_consR] at hu hv
 rw[numsL_cons] at A hy
 rcases Nat.lt_or_ge s (aU n) with hs|hs
 ·rw[List.getElem?_append_left (by omega)] at hu A
  have b1:=aC2.1 n z s u x hu A
  rcases Nat.lt_or_ge t (aU n) with ht|ht
  ·rw[List.getElem?_append_left (by omega)] at hv hy
   exact h1 z s t u v x y hu hv A hy
  rw[List.getElem?_append_right (by omega),l1] at hv
  rw[List.getElem?_append_right (by omega),l2] at hy
  have b2:=aC2.2 r _ _ v y hv hy
  omega
 rw[List.getElem?_append_right (by omega),l1] at hu
 rw[List.getElem?_append_right (by omega),l2] at A
 have b1:=aC2.2 r _ _ u x hu A
 have pu:=sW u
 rcases Nat.lt_or_ge t (aU n) with ht|ht
 ·rw[List.getElem?_append_left (by omega)] at hv hy
  have b2:=aC2.1 n z t v y hv hy
  have pv:=sW v
  have:=(pF (toR r) hu).1
  omega
 rw[List.getElem?_append_right (by omega),l1] at hv
 rw[List.getElem?_append_right (by omega),l2] at hy
 have:=h2 _ _ _ u v x y hu hv A hy
 omega
theorem post_r (X:Nmb):∀(f:Nat) (n:Node) (z:Nat) (q:Int) (O L:List Int),aU n≤f→z+aU n≤100000→O.length+aU n≤100000→O.length=L.length→(∀j m,(prN n z q)[j]?=some m→X.sizes[z+j]?=some (aU m.1:Int))→
  jF f (z:Int) O X L=some (O++kY n z,L++lefts O.length (po [toT n])):=by
 intro f
 induction f with
 |zero=>intro n z q O L h;have:=fO n;omega
 |succ f ih=>
  intro n z q O L hf hz hO hOL hs
  have hc:=fO n
  have hl:=uA n.kids
  have h0:X.sizes[z]?=some (aU n:Int):=hs 0 (n,q,z) (by rw[rJ];rfl)
  unfold jF mX
  rw[fC (by omega),bsn]
  refine yP (fun i=>(((z+1+dQ (n.kids.take i):Nat):Int),O++numsL (n.kids.take i) (z+1),L++lefts O.length (po (toR (n.kids.take i))))) n.kids.length (O++numsL n.kids (z+1),L++lefts O.length (po (toR n.kids))) ?_ (fun i hi=>?_) ?_ ?_
  ·simp[aJ1,po_nil,lefts,numsL,dQ]
  ·obtain⟨x,A⟩:=dD hi
   have e1:=xQ A
   have e2:=aA1 n.kids (i+1)
   have e3:=fO x
   have hxs:∀j m,(prN x (z+1+dQ (n.kids.take i)) z)[j]?=some m→X.sizes[z+1+dQ (n.kids.take i)+j]?=some (aU m.1:Int):=fun j m C=>by
    have:=hs (1+dQ (n.kids.take i)+j) m (by
     have t:=prL_take A (z+1) z
     have hlt:=(List.getElem?_eq_some_iff.1 C).1
     have l1:=nD.2 (n.kids.take i) (z+1) z
     have l2:=nD.1 x (z+1+dQ (n.kids.take i)) z
     rw[rJ,show 1+dQ (n.kids.take i)+j=(dQ (n.kids.take i)+j)+1 by omega,List.getElem?_cons_succ]
     have e:prL n.kids (z+1) z=prL (n.kids.take (i+1)) (z+1) z++prL (n.kids.drop (i+1)) (z+1+dQ (n.kids.take (i+1))) z:=by
      rw[←prL_app,List.take_append_drop]
     rw[e,t,List.getElem?_append_left (by rw[List.length_append,l1];omega),List.getElem?_append_right (by omega),l1,Nat.add_sub_cancel_left]
     exact C)
    rw[←this];congr 1;omega
   have h1:X.sizes[z+1+dQ (n.kids.take i)]?=some (aU x:Int):=hxs 0 (x,z,z+1+dQ (n.kids.take i)) (by rw[rJ];rfl)
   simp only[kH]
   rw[aZ h0,bsn,dX (by omega),bsn,if_pos (by simp;omega),ih x _ z _ _ (by omega) (by omega) (by simp[uM];omega) (by simp[uM,Q8,aI7,hOL]) hxs,bsn,aZ h1,bsn]
   simp only
   rw[dX (by omega),bsn,toR_take A,po_cons (toT x) (toR (n.kids.take i)),numsL_take A,aB9,aI7,e1]
   simp only[List.append_assoc,List.length_append,uM]
   rw[show((z+1+dQ (n.kids.take i):Nat):Int)+(aU x:Int)=((z+1+(dQ (n.kids.take i)+aU x):Nat):Int) by omega]
  ·simp only[kH]
   rw[aZ h0,bsn,dX (by omega),bsn,List.take_of_length_le (Nat.le_refl _),if_neg (by simp;omega)]
  simp only
  rw[wI (by simp[uM];omega),bsn,wI (by simp[Q8,aI7];omega),bsn,po_node,aB9,aI7,aG8]
  have hsn:=uO n
  simp only[List.append_assoc,lefts]
  rw[show O.length+dQ n.kids+1-szT (toT n)=O.length by omega]
theorem post_m (n:Node) (h:aU n≤100000):mM (nmb (prN n 0 (-1)))=some (kY n 0,lefts 0 (po [toT n])):=by
 unfold mM uI
 have A:(nmb (prN n 0 (-1))).sizes.length=aU n:=by unfold nmb;simp[nD.1]
 have:=post_r (nmb (prN n 0 (-1))) (aU n+1) n 0 (-1) [] [] (by omega) (by omega) (by simpa using h) O (fun j m C=>by
  unfold nmb
  simp only[Nat.zero_add]
  rw[List.getElem?_map,C];rfl)
 rw[show((0:Nat):Int)=0 from rfl] at this
 rw[A,this];simp
theorem repeat_m (n:Nat) (h0:1≤n) (h:n≤20):mP ([(-1)]:List Int) (n:Int)=some (List.replicate n (-1)):=
 match n,h0,h with
 |1,_,_=>by kernel_rfl
 |2,_,_=>by kernel_rfl
 |3,_,_=>by kernel_rfl
 |4,_,_=>by kernel_rfl
 |5,_,_=>by kernel_rfl
 |6,_,_=>by kernel_rfl
 |7,_,_=>by kernel_rfl
 |8,_,_=>by kernel_rfl
 |9,_,_=>by kernel_rfl
 |10,_,_=>by kernel_rfl
 |11,_,_=>by kernel_rfl
 |12,_,_=>by kernel_rfl
 |13,_,_=>by kernel_rfl
 |14,_,_=>by kernel_rfl
 |15,_,_=>by kernel_rfl
 |16,_,_=>by kernel_rfl
 |17,_,_=>by kernel_rfl
 |18,_,_=>by kernel_rfl
 |19,_,_=>by kernel_rfl
 |20,_,_=>by kernel_rfl
 |n+21,_,h=>by omega
def alg (a b:Node) (D:List (List Int)) (P B:List Int):Alg:=⟨nmb (prN a 0 (-1)),nmb (prN b 0 (-1)),kY a 0,lefts 0 (po [toT a]),kY b 0,lefts 0 (po [toT b]),D,P,B⟩
section
variable {a b:Node} {D:List (List Int)} {P B:List Int} {ti tk:Tr} {i k:Nat}
theorem I5 (a:Node) {s:Nat} {u:Tr} (h:(po [toT a])[s]?=some u):(lefts 0 (po [toT a]))[s]?=some ((s+1-szT u:Nat):Int):=by
 have:=lefts_get 0 (po [toT a]) s u h
 rwa [Nat.zero_add] at this
theorem aE3 (a:Node) {s:Nat} {u:Tr} (h:(po [toT a])[s]?=some u):∃x:Nat,(kY a 0)[s]?=some (x:Int)∧x<aU a∧kC (prN a 0 (-1)) x=((labT u).kind,(labT u).text)∧szp (prN a 0 (-1)) x=szT u∧∃m,(nmb (prN a 0 (-1))).nodes[x]?=some m∧m.kind=(labT u).kind∧m.text=(labT u).text:=by
 have hs:=zA h
 rw[uO] at hs
 obtain⟨x,C⟩:=dD (l:=kY a 0) (k:=s) (by rw[xX];exact hs)
 obtain⟨m,r,h1,h2,h3⟩:=place_at.1 a 0 (-1) s u x h C
 obtain⟨j,A⟩:=List.mem_iff_getElem?.1 h1
 obtain⟨a1,a2,_⟩:=aC3.1 a 0 (-1) j m r _ A
 have hlt:=(List.getElem?_eq_some_iff.1 A).1
 rw[nD.1] at hlt
 rw[Nat.zero_add] at a1
 rw[←a1] at A hlt
 have hlab:labT u=⟨m.kind,m.text⟩:=by rw[←h2,toT_eq];rfl
 refine⟨x.toNat,by rw[C];congr 1;omega,hlt,?_,?_,m,?_,?_⟩
 ·unfold kC;rw[A,hlab]
 ·unfold szp;rw[A];simp only;rw[←uO m,h2]
 ·unfold nmb;simp only;rw[List.getElem?_map,A];rfl
 rw[hlab];exact⟨rfl,rfl⟩
theorem relab_m {s t:Nat} {u v:Tr} (hu:(po [toT a])[s]?=some u) (hv:(po [toT b])[t]?=some v):iV (alg a b D P B) (s:Int) (t:Int)=some ((rl (labT u) (labT v):Nat):Int):=by
 obtain⟨x,H,_,_,_,m,G,F,E⟩:=aE3 a hu
 obtain⟨y,y1,_,_,_,n,y2,y3,y4⟩:=aE3 b hv
 unfold iV alg
 simp only
 rw[aZ H,bsn,aZ G,bsn,aZ y1,bsn,aZ y2,bsn]
 unfold kJ
 rw[bsn,F,E,y3,y4]
 unfold rl
 by_cases h:labT u=labT v
 ·rw[if_pos (by simp[h]),if_pos h];rfl
 rw[if_neg ?_,if_neg h];rfl
 intro hh
 rw[Bool.and_eq_true,decide_eq_true_eq,decide_eq_true_eq] at hh
 apply h
 generalize labT u=A at hh⊢
 generalize labT v=C at hh⊢
 obtain⟨c,d⟩:=A
 obtain⟨e,f⟩:=C
 simp only at hh
 rw[hh.1,hh.2]
structure FQ (ti tk:Tr) (x y:Nat) (f:List (List Int)):Prop where
 rows:f.length=szT ti+1
 cols:∀x' r,x'<x→f[x']?=some r→r.length=szT tk+1
 val:∀x' y',y'≤szT tk→(x'<x∨x'=x∧y'<y)→at2 f x' y'=some ((fd (fr ti x') (fr tk y'):Nat):Int)
theorem FQ.at {x y:Nat} {f:List (List Int)} (h:FQ ti tk x y f) {x' y':Nat} (hy:y'≤szT tk) (A:x'<x∨x'=x∧y'<y):∃r,f[x']?=some r∧r[y']?=some ((fd (fr ti x') (fr tk y'):Nat):Int):=by
 have:=h.val x' y' hy A
 unfold at2 at this
 cases hr:f[x']? with
 |none=>rw[hr] at this;cases this
 |some r=>rw[hr] at this;exact⟨r,rfl,this⟩
variable (ha:aU a≤300) (hb:aU b≤300) (hi:(po [toT a])[i]?=some ti) (hk:(po [toT b])[k]?=some tk) (hD:SubOf a b D)
include ha hb hi hk hD
theorem cell_m {x y:Nat} (J:x≤szT ti) (hy:y≤szT tk) {f:List (List Int)} {X:List Int} (hX:X.length=szT tk+1) {R:List Int} (A:f[x]?=some R) (hRl:R.length=szT tk+1) (hf:FQ ti tk x y f):
  ∃f2 R2,iR (alg a b D P B) ((i+1-szT ti:Nat):Int) ((k+1-szT tk:Nat):Int) (x:Int) X (y:Int) f=some (.next (((y+1:Nat):Int),f2))∧f2[x]?=some R2∧R2.length=szT tk+1∧FQ ti tk x (y+1) f2:=by
 have hsi:=(pF [toT a] hi).1
 have hsk:=(pF [toT b] hk).1
 have hiT:=zA hi
 have hkT:=zA hk
 rw[uO] at hiT hkT
 have fin:∀v:Int,v=((fd (fr ti x) (fr tk y):Nat):Int)→(f.set x (R.set y v))[x]?=some (R.set y v)∧(R.set y v).length=szT tk+1∧FQ ti tk x (y+1) (f.set x (R.set y v)):=by
  intro v hv
  have hxl:=(List.getElem?_eq_some_iff.1 A).1
  refine⟨List.getElem?_set_self hxl,by rw[List.length_set];exact hRl,by rw[List.length_set];exact hf.rows,fun x' r h1 h2=>?_,fun x' y' h1 h2=>?_⟩
  ·rw[List.getElem?_set_ne (by omega)] at h2;exact hf.cols x' r h1 h2
  obtain⟨w,C⟩:=dD (l:=R) (k:=y) (by omega)
  rw[aA0 A C]
  split
  ·rename_i hh;obtain⟨rfl,rfl⟩:=hh;rw[hv]
  rename_i hh
  exact hf.val x' y' h1 (by omega)
 obtain⟨w,C⟩:=dD (l:=R) (k:=y) (by omega)
 have sm:∀x' y',x'≤szT ti→y'≤szT tk→fd (fr ti x') (fr tk y')≤x'+y':=fun x' y' h1 h2=>aB2 ti tk h1 h2
 simp only[iR]
 rw[if_pos (by simp;omega)]
 by_cases h0:x=0∨y=0
 ·rw[if_pos (by simp;omega),aZ A,bsn,dX (by omega),bsn,aZ C,bsn,fC (by omega),bsn]
  refine⟨_,_,O,fin _ ?_⟩
  rcases h0 with rfl|rfl
  ·rw[G7,fd_r0,sz_fr tk hy];omega
  rw[G7,fd_l0,sz_fr ti J];omega
 rw[if_neg (by simp;omega)]
 obtain⟨x,rfl⟩:∃x',x=x'+1:=⟨x-1,by omega⟩
 obtain⟨y,rfl⟩:∃y',y=y'+1:=⟨y-1,by omega⟩
 obtain⟨u,hu⟩:=dD (l:=po [ti]) (k:=x) (by rw[vI];omega)
 obtain⟨u',hu'⟩:=dD (l:=po [tk]) (k:=y) (by rw[vI];omega)
 have hA:(po [toT a])[i+1-szT ti+x]?=some u:=by rw[←sub_at hi (by omega)];exact hu
 have hB:(po [toT b])[k+1-szT tk+y]?=some u':=by rw[←sub_at hk (by omega)];exact hu'
 have su:=(pF [ti] hu).1
 have su':=(pF [tk] hu').1
 have pu:=sW u
 have pu':=sW u'
 have hcell:=fd_fr ti tk (x:=x) (y:=y) (by omega) (by omega) hu hu'
 obtain⟨r1,a1,a2⟩:=hf.at (x':=x) (y':=y+1) hy (Or.inl (by omega))
 obtain⟨r2,b1,b2⟩:=hf.at (x':=x+1) (y':=y) (by omega) (Or.inr ⟨O,by omega⟩)
 rw[A] at b1
 obtain rfl:=Option.some.inj b1
 have s1:=sm x (y+1) (by omega) (by omega)
 have s2:=sm (x+1) y (by omega) (by omega)
 have s3:=sm x y (by omega) (by omega)
 have lA:=I5 a hA
 have lB:=I5 b hB
 have rel:=relab_m (D:=D) (P:=P) (B:=B) hA hB
 generalize hp:i+1-szT ti=p at*
 generalize hq:k+1-szT tk=q at*
 have ep:(p:Int)+((x+1:Nat):Int)=((p+x+1:Nat):Int):=by omega
 have eq:(q:Int)+((y+1:Nat):Int)=((q+y+1:Nat):Int):=by omega
 have ep0:((p+x+1:Nat):Int)-1=((p+x:Nat):Int):=by omega
 have eq0:((q+y+1:Nat):Int)-1=((q+y:Nat):Int):=by omega
 have I:((x+1:Nat):Int)-1=(x:Int):=by omega
 have ey0:((y+1:Nat):Int)-1=(y:Int):=by omega
 have eL:(alg a b D P B).leftA=lefts 0 (po [toT a]):=rfl
 have eR:(alg a b D P B).leftB=lefts 0 (po [toT b]):=rfl
 have hep:inK .i64 ((p:Int)+((x+1:Nat):Int))=some ((p+x+1:Nat):Int):=by rw[dX (by omega),ep]
 have heq:inK .i64 ((q:Int)+((y+1:Nat):Int))=some ((q+y+1:Nat):Int):=by rw[dX (by omega),eq]
 have hep0:inK .i64 (((p+x+1:Nat):Int)-1)=some ((p+x:Nat):Int):=by rw[dX (by omega),ep0]
 have heq0:inK .i64 (((q+y+1:Nat):Int)-1)=some ((q+y:Nat):Int):=by rw[dX (by omega),eq0]
 have hex0:inK .i64 (((x+1:Nat):Int)-1)=some (x:Int):=by rw[dX (by omega),I]
 have hey0:inK .i64 (((y+1:Nat):Int)-1)=some (y:Int):=by rw[dX (by omega),ey0]
 have hey1:inK .i64 (((y+1:Nat):Int)+1)=some ((y+1+1:Nat):Int):=fC (by omega)
 rw[hep,bsn,hep0,bsn,eL,aZ lA,bsn]
 have hcond:((if(decide ((((p+x)+1-szT u:Nat):Int)=(p:Int)))=true then
   (inK .i64 ((q:Int)+((y+1:Nat):Int))).bind fun H=>(inK .i64 (H-1)).bind fun G=>(idx (alg a b D P B).leftB G).bind fun F=>some (decide (F=(q:Int)))
  else some false):Option Bool)=some (decide (szT u=x+1∧szT u'=y+1)):=by
  rw[heq,bsn,heq0,bsn,eR,aZ lB,bsn]
  by_cases g1:szT u=x+1
  ·rw[if_pos (by simp;omega)]
   congr 1
   exact decide_eq_decide.2 (by omega)
  rw[if_neg (by simp;omega),decide_eq_false (by omega)]
 rw[hcond,bsn]
 by_cases E:szT u=x+1∧szT u'=y+1
 ·rw[if_pos (by simpa using E)]
  rw[if_pos E] at hcell
  obtain⟨r3,c1,c2⟩:=hf.at (x':=x) (y':=y) (by omega) (Or.inl (by omega))
  rw[a1] at c1
  obtain rfl:=Option.some.inj c1
  have rle:=rl_le (labT u) (labT u')
  simp only[bsn,aZ A,hex0,aZ a1,aZ a2,hey0,aZ b2,aZ c2,hep,hep0,heq,heq0,rel,aZ C,hey1]
  rw[dX (by omega),bsn,dX (by omega),bsn,dX (by omega),bsn]
  exact⟨_,_,O,fin _ (by rw[hcell];omega)⟩
 rw[if_neg (by simpa using E)]
 rw[if_neg E] at hcell
 obtain⟨r3,c1,c2⟩:=hf.at (x':=x+1-szT u) (y':=y+1-szT u') (by omega) (Or.inl (by omega))
 obtain⟨n1,m1,m2,_⟩:=aE3 a hA
 obtain⟨n2,k1,k2,_⟩:=aE3 b hB
 have hv:=hD.val _ _ _ _ _ _ hA hB m1 k1
 rw[Int.toNat_natCast,Int.toNat_natCast] at hv
 obtain⟨r4,v4,d1,d2,d3,_⟩:=hD.dim.get m2 k2
 rw[d3] at hv
 have s4:=sm (x+1-szT u) (y+1-szT u') (by omega) (by omega)
 have s5:=aE1 [u] [] [] [u']
 simp only[List.append_nil,List.nil_append] at s5
 rw[fd_l0,fd_r0,P9,P9] at s5
 have hu1:inK .i64 (((p+x+1-szT u:Nat):Int)-(p:Int))=some ((x+1-szT u:Nat):Int):=by rw[dX (by omega)];congr 1;omega
 have hu2:inK .i64 (((q+y+1-szT u':Nat):Int)-(q:Int))=some ((y+1-szT u':Nat):Int):=by rw[dX (by omega)];congr 1;omega
 have eo:(alg a b D P B).orderA=kY a 0:=rfl
 have eo':(alg a b D P B).orderB=kY b 0:=rfl
 have ed:(alg a b D P B).distances=D:=rfl
 simp only[bsn,aZ A,hex0,aZ a1,aZ a2,hey0,aZ b2,hep,hep0,heq,heq0,aZ lA,eR,aZ lB,hu1,hu2,aZ c1,aZ c2,eo,eo',ed,aZ m1,aZ d1,aZ k1,aZ d2,Option.some.inj hv,aZ C,hey1]
 rw[dX (by omega),bsn,dX (by omega),bsn,dX (by omega),bsn]
 exact⟨_,_,O,fin _ (by rw[hcell];omega)⟩
theorem forests_m:∃f,nJ (alg a b D P B) (i:Int) (k:Int)=some f∧FQ ti tk (szT ti+1) 0 f:=by
 have hsi:=(pF [toT a] hi).1
 have hsk:=(pF [toT b] hk).1
 have hiT:=zA hi
 have hkT:=zA hk
 rw[uO] at hiT hkT
 have eL:(alg a b D P B).leftA=lefts 0 (po [toT a]):=rfl
 have eR:(alg a b D P B).leftB=lefts 0 (po [toT b]):=rfl
 unfold nJ
 rw[eL,aZ (I5 a hi),bsn,eR,aZ (I5 b hk),bsn,dX (by omega),bsn,dX (by omega),bsn,mkc_ok (by omega),bsn]
 rw[show((i:Int)-((i+1-szT ti:Nat):Int)+2).toNat=szT ti+1 by omega]
 obtain⟨f,h1,h2⟩:=uG (body:=fun s=>kG (alg a b D P B) (k:Int) ((i+1-szT ti:Nat):Int) ((k+1-szT tk:Nat):Int) (List.replicate (szT ti+1) ([]:List Int)) s.1 s.2) (fun x s=>s.1=(x:Int)∧FQ ti tk x 0 s.2) (fun f=>FQ ti tk (szT ti+1) 0 f) (szT ti+1) 0 (0,List.replicate (szT ti+1) [])
  ⟨O,by simp,fun x' r h=>by omega,fun x' y' _ h=>by omega⟩
  (by
   rintro x ⟨e,f⟩ _ hx ⟨h1,h2⟩
   simp only at h1 h2
   subst h1
   obtain⟨r0,hr0⟩:=dD (l:=f) (k:=x) (by rw[h2.rows];omega)
   have hlt:=(List.getElem?_eq_some_iff.1 hr0).1
   simp only[kG]
   rw[if_pos (by simp;omega),dX (by omega),bsn,dX (by omega),bsn,mkc_ok (by omega),bsn,aZ hr0,bsn]
   rw[show((k:Int)-((k+1-szT tk:Nat):Int)+2).toNat=szT tk+1 by omega,Int.toNat_natCast,aZ (a:=List.replicate (szT tk+1) (0:Int)) (List.getElem?_set_self hlt),bsn]
   have h20:FQ ti tk x 0 (f.set x (List.replicate (szT tk+1) (0:Int))):=by
    refine⟨by rw[List.length_set];exact h2.rows,fun x' r g1 g2=>?_,fun x' y' g1 g2=>?_⟩
    ·rw[List.getElem?_set_ne (by omega)] at g2;exact h2.cols x' r g1 g2
    have:=h2.val x' y' g1 (by omega)
    unfold at2 at this⊢
    rw[List.getElem?_set_ne (by omega)];exact this
   obtain⟨f3,g1,g2,g3⟩:=uG (body:=fun s=>iR (alg a b D P B) ((i+1-szT ti:Nat):Int) ((k+1-szT tk:Nat):Int) (x:Int) (List.replicate (szT tk+1) (0:Int)) s.1 s.2) (fun y s=>s.1=(y:Int)∧(∃R,s.2[x]?=some R∧R.length=szT tk+1)∧FQ ti tk x y s.2) (fun f=>(∃R,f[x]?=some R∧R.length=szT tk+1)∧FQ ti tk x (szT tk+1) f) (szT tk+1) 0 (0,f.set x (List.replicate (szT tk+1) (0:Int)))
    ⟨O,⟨_,List.getElem?_set_self hlt,by simp⟩,h20⟩
    (by
     rintro y ⟨e,g⟩ _ hy ⟨e1,⟨R,e2,e3⟩,e4⟩
     simp only at e1 e2 e3 e4
     subst e1
     obtain⟨f2,R2,k1,k2,k3,k4⟩:=cell_m (P:=P) (B:=B) ha hb hi hk hD (x:=x) (y:=y) (by omega) (by omega) (X:=List.replicate (szT tk+1) (0:Int)) (by simp) e2 e3 e4
     exact⟨_,k1,O,⟨R2,k2,k3⟩,k4⟩)
    (by
     rintro⟨e,g⟩ ⟨e1,e2,e4⟩
     simp only at e1 e2 e4
     rw[Nat.zero_add] at e1 e4
     subst e1
     refine⟨g,?_,e2,e4⟩
     simp only[iR]
     rw[if_neg (by simp)])
   obtain⟨R,g2,g4⟩:=g2
   rw[g1,bsn,fC (by omega),bsn]
   refine⟨_,O,O,g3.rows,fun x' r k1 k2=>?_,fun x' y' k1 k2=>g3.val x' y' k1 (by omega)⟩
   rcases Nat.lt_or_ge x' x with k3|k3
   ·exact g3.cols x' r k3 k2
   rw[show x'=x by omega,g2] at k2
   rw[←Option.some.inj k2];exact g4)
  (by
   rintro⟨e,f⟩ ⟨h1,h2⟩
   simp only at h1 h2
   rw[Nat.zero_add] at h1 h2
   subst h1
   refine⟨f,?_,h2⟩
   simp only[kG]
   rw[if_neg (by simp)])
 rw[h1]
 exact⟨f,O,h2⟩
end
end Go.Proofs.YtopnldfjcciieaaGreat
