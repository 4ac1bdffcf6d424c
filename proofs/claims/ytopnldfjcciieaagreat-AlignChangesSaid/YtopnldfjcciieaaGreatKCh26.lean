/- An insertion among what stands. -/
import Derived.Test.YtopnldfjcciieaaGreatKCh25
import Derived.Test.YtopnldfjcciieaaGreatKCh24
import Derived.Test.YtopnldfjcciieaaGreatKCh4
import Derived.Test.YtopnldfjcciieaaGreatKCh3
set_option linter.unusedVariables false
set_option linter.unusedSimpArgs false
namespace Go.Proofs.YtopnldfjcciieaaGreat
open Go.RowKit
section
variable {Q:List (Node×Int×Nat)} {T:List Bool}
def UpIs (Q:List (Node×Int×Nat)) (T:List Bool) (p w:Int):Prop:=∀f:Nat,p<f→nr Q T f p=w
theorem up_neg {p:Int} (h:p<0):UpIs Q T p p:=fun f hf=>by
 cases f with
 |zero=>rfl
 |succ f=>unfold nr;rw[if_pos h]
theorem up_here {p:Int} (h:0≤p) (ht:T[p.toNat]?=some true):UpIs Q T p p:=fun f hf=>by
 cases f with
 |zero=>omega
 |succ f=>unfold nr;rw[if_neg (by omega),if_pos ht]
theorem up_next {p w:Int} (h:0≤p) (ht:T[p.toNat]?=some false) (hp:iP Q p.toNat<p) (hu:UpIs Q T (iP Q p.toNat) w):UpIs Q T p w:=fun f hf=>by
 cases f with
 |zero=>omega
 |succ f=>unfold nr;rw[if_neg (by omega),ht,if_neg (by simp)];exact hu f (by omega)
theorem near_of {s:Nat} {w:Int} (hp:iP Q s<s) (hu:UpIs Q T (iP Q s) w):near Q T s=w:=hu _ (by omega)
def tp (Q:List (Node×Int×Nat)) (T:List Bool) (S:Nat→Bool) (w:Int) (s:Nat):Bool:=S s&&decide (near Q T s=w)
theorem top_cnt (S:Nat→Bool) (g:Nat→Int×ByteArray):
  (∀(n:Node) (z:Nat) (r w:Int),(∀(j:Nat) x,(prN n z r)[j]?=some x→Q[z+j]?=some x)→(∀s,z≤s→s<z+aU n→T[s]?=some (S s))→r<z→w<z→UpIs Q T r w→(wN S g n z).length=(List.range' z (aU n)).countP (tp Q T S w)∧∀s,z≤s→s<z+aU n→near Q T s=w∨z≤near Q T s)∧
  ∀(l:List Node) (z:Nat) (r w:Int),(∀(j:Nat) x,(prL l z r)[j]?=some x→Q[z+j]?=some x)→(∀s,z≤s→s<z+dQ l→T[s]?=some (S s))→r<z→w<z→UpIs Q T r w→(wL S g l z).length=(List.range' z (dQ l)).countP (tp Q T S w)∧∀s,z≤s→s<z+dQ l→near Q T s=w∨z≤near Q T s:=by
 refine qN (fun n h z r w hQ C hr F hu=>?_) (fun z r w _ _ _ _ _=>⟨by rw[aE7,dQ];rfl,fun s a b=>by rw[dQ] at b;omega⟩) (fun n l h1 h2 z r w hQ C hr F hu=>?_)
 ·have E:=fO n
  have hz:Q[z]?=some (n,r,z):=hQ 0 _ (by rw[rJ];rfl)
  have hpz:iP Q z=r:=by unfold iP;rw[hz]
  have hnz:near Q T z=w:=near_of (by omega) (by rw[hpz];exact hu)
  have hTz:=C z (Nat.le_refl _) (by omega)
  have hQk:∀(j:Nat) x,(prL n.kids (z+1) (z:Int))[j]?=some x→Q[z+1+j]?=some x:=fun j x B=>by
   rw[show z+1+j=z+(j+1) by omega]
   exact hQ (j+1) x (by rw[rJ,List.getElem?_cons_succ];exact B)
  have hTk:∀s,z+1≤s→s<z+1+dQ n.kids→T[s]?=some (S s):=fun s a b=>C s (by omega) (by omega)
  rw[N7,E,Nat.add_comm 1,List.range'_succ,List.countP_cons]
  by_cases A:S z=true
  ·rw[A] at hTz
   have k:=h (z+1) z z hQk hTk (by omega) (by omega) (up_here (by omega) (by simpa using hTz))
   rw[if_pos A]
   refine⟨?_,fun s a b=>?_⟩
   ·rw[List.countP_eq_zero.2 fun s hs=>?_]
    ·have:tp Q T S w z=true:=by unfold tp;rw[A,decide_eq_true hnz];rfl
     rw[if_pos this];rfl
    have:=List.mem_range'_1.1 hs
    have:=k.2 s (by omega) (by omega)
    unfold tp
    rw[decide_eq_false (by omega),Bool.and_false];simp
   rcases Nat.lt_or_ge z s with e|e
   ·have:=k.2 s (by omega) (by omega)
    exact Or.inr (by omega)
   rw[show s=z by omega];exact Or.inl hnz
  rw[if_neg A]
  rw[Bool.not_eq_true] at A
  rw[A] at hTz
  have k:=h (z+1) z w hQk hTk (by omega) (by omega) (up_next (by omega) (by simpa using hTz) (by simp only[Int.toNat_natCast];omega) (by simp only[Int.toNat_natCast];rw[hpz];exact hu))
  refine⟨?_,fun s a b=>?_⟩
  ·have:tp Q T S w z=false:=by unfold tp;rw[A];rfl
   rw[k.1,this];rfl
  rcases Nat.lt_or_ge z s with e|e
  ·have:=k.2 s (by omega) (by omega)
   rcases this with h|h
   ·exact Or.inl h
   exact Or.inr (by omega)
  rw[show s=z by omega];exact Or.inl hnz
 have E:=dW n l
 have k1:=h1 z r w (fun j x B=>hQ j x (by rw[pU,List.getElem?_append_left (List.getElem?_eq_some_iff.1 B).1];exact B)) (fun s a b=>C s a (by omega)) hr F hu
 have k2:=h2 (z+aU n) r w (fun j x B=>by
  rw[Nat.add_assoc]
  exact hQ (aU n+j) x (by rw[pU,List.getElem?_append_right (by rw[nD.1];omega),nD.1,Nat.add_sub_cancel_left];exact B)) (fun s a b=>C s (by omega) (by omega)) (by omega) (by omega) hu
 rw[wH,List.length_append,k1.1,k2.1,E,←List.range'_append_1,List.countP_append]
 refine⟨O,fun s a b=>?_⟩
 rcases Nat.lt_or_ge s (z+aU n) with e|e
 ·exact k1.2 s a e
 rcases k2.2 s e (by omega) with h|h
 ·exact Or.inl h
 exact Or.inr (by omega)
end
theorem kid_of:(∀(n:Node) (z:Nat) (p:Int) (j:Nat) (m:Node) (q:Int) (k:Nat),(prN n z p)[j]?=some (m,q,k)→0<j→∃mq r i,(prN n z p)[q.toNat-z]?=some (mq,r,q.toNat)∧(z:Int)≤q∧mq.kids[i]?=some m∧k=q.toNat+1+dQ (mq.kids.take i))∧
  ∀(l:List Node) (z:Nat) (p:Int) (j:Nat) (m:Node) (q:Int) (k:Nat),(prL l z p)[j]?=some (m,q,k)→(q=p∧∃i,l[i]?=some m∧k=z+dQ (l.take i))∨((z:Int)≤q∧∃mq r i,(prL l z p)[q.toNat-z]?=some (mq,r,q.toNat)∧mq.kids[i]?=some m∧k=q.toNat+1+dQ (mq.kids.take i)):=by
 refine qN (fun n h z p j m q k A h0=>?_) (fun z p j m q k A=>by rw[zS] at A;simp at A) (fun n l h1 h2 z p j m q k A=>?_)
 ·obtain⟨j,rfl⟩:∃j',j=j'+1:=⟨j-1,by omega⟩
  rw[rJ,List.getElem?_cons_succ] at A
  rcases h (z+1) z j m q k A with⟨e,i,e1,e2⟩|⟨e,mq,r,i,e1,e2,e3⟩
  ·refine⟨n,p,i,?_,by omega,e1,by omega⟩
   rw[show q.toNat-z=0 by omega,rJ,show q.toNat=z by omega];rfl
  refine⟨mq,r,i,?_,by omega,e2,e3⟩
  rw[rJ,show q.toNat-z=(q.toNat-(z+1))+1 by omega,List.getElem?_cons_succ];exact e1
 rw[pU] at A⊢
 have B:=nD.1 n z p
 rcases Nat.lt_or_ge j (prN n z p).length with hh|hh
 ·rw[List.getElem?_append_left hh] at A
  rcases Nat.eq_zero_or_pos j with h0|h0
  ·subst h0
   rw[rJ,List.getElem?_cons_zero] at A
   simp only[Option.some.injEq,Prod.mk.injEq] at A
   obtain⟨rfl,rfl,rfl⟩:=A
   exact Or.inl ⟨O,0,O,by simp[dQ]⟩
  obtain⟨mq,r,i,e1,e2,e3,e4⟩:=h1 z p j m q k A h0
  exact Or.inr ⟨e2,mq,r,i,by rw[List.getElem?_append_left (List.getElem?_eq_some_iff.1 e1).1];exact e1,e3,e4⟩
 rw[List.getElem?_append_right hh] at A
 rcases h2 (z+aU n) p _ m q k A with⟨e,i,e1,e2⟩|⟨e,mq,r,i,e1,e2,e3⟩
 ·refine Or.inl ⟨e,i+1,by simpa using e1,?_⟩
  rw[List.take_succ_cons,dW];omega
 refine Or.inr ⟨by omega,mq,r,i,?_,e2,e3⟩
 rw[List.getElem?_append_right (by omega),B,show q.toNat-z-aU n=q.toNat-(z+aU n) by omega]
 exact e1
theorem insK_at (A B C:List Node) (o n:Int) (k:Int) (t:ByteArray):zG (A++(B++C)) ⟨o,n,(A.length:Int),(B.length:Int),k,t⟩=some (A++(⟨k,t,0,0,B⟩::C)):=by
 unfold zG
 rw[if_neg (by simp only[List.length_append];omega)]
 simp only[Int.toNat_natCast]
 congr 1
 rw[List.take_left,List.drop_left,List.take_left,←List.drop_drop,List.drop_left,List.drop_left]
theorem pr_seg:(∀(n:Node) (z:Nat) (p:Int) (j:Nat) (m:Node) (r:Int) (k:Nat),(prN n z p)[j]?=some (m,r,k)→∀(i:Nat) x,(prN m k r)[i]?=some x→(prN n z p)[j+i]?=some x)∧
  ∀(n:List Node) (z:Nat) (p:Int) (j:Nat) (m:Node) (r:Int) (k:Nat),(prL n z p)[j]?=some (m,r,k)→∀(i:Nat) x,(prN m k r)[i]?=some x→(prL n z p)[j+i]?=some x:=by
 refine qN (fun n h z p j m r k A i x B=>?_) (fun z p j m r k A=>by rw[zS] at A;simp at A) (fun n l h1 h2 z p j m r k A i x B=>?_)
 ·cases j with
  |zero=>
   rw[rJ,List.getElem?_cons_zero] at A
   simp only[Option.some.injEq,Prod.mk.injEq] at A
   obtain⟨rfl,rfl,rfl⟩:=A
   rw[Nat.zero_add];exact B
  |succ j=>
   rw[rJ] at A⊢
   rw[List.getElem?_cons_succ] at A
   rw[show j+1+i=(j+i)+1 by omega,List.getElem?_cons_succ]
   exact h (z+1) z j m r k A i x B
 rw[pU] at A⊢
 rcases Nat.lt_or_ge j (prN n z p).length with hh|hh
 ·rw[List.getElem?_append_left hh] at A
  have:=h1 z p j m r k A i x B
  rw[List.getElem?_append_left (List.getElem?_eq_some_iff.1 this).1];exact this
 rw[List.getElem?_append_right hh] at A
 rw[List.getElem?_append_right (by omega),show j+i-(prN n z p).length=j-(prN n z p).length+i by omega]
 exact h2 _ p _ m r k A i x B
theorem fm_len {α β:Type} (f:α→Option β) (l:List α):(l.filterMap f).length≤l.length:=List.length_filterMap_le f l
theorem lbl_loop (a b:Node) (ha:aU a≤100000) (hb:aU b≤100000) (l:List Opn) (F:Va a b l):
  ∃T,dZ (fun s=>oH l (nmb (prN a 0 (-1))) (nmb (prN b 0 (-1))) s.1 s.2.1 s.2.2.1 s.2.2.2) (0,[],[],List.replicate (aU b) false)=some (l.filterMap (yH (prN a 0 (-1)) (prN b 0 (-1))),l.filterMap O1,T)∧Mk (aU b) (l.filter fun q=>decide (0≤q.a)) T:=by
 have hlen:=aJ0 F.scr
 obtain⟨r,h1,T,rfl,B⟩:=D7 (body:=fun s=>oH l (nmb (prN a 0 (-1))) (nmb (prN b 0 (-1))) s.1 s.2.1 s.2.2.1 s.2.2.2)
  (fun s=>∃(i:Nat) (T:List Bool),s=((i:Int),(l.take i).filterMap (yH (prN a 0 (-1)) (prN b 0 (-1))),(l.take i).filterMap O1,T)∧i≤l.length∧Mk (aU b) ((l.take i).filter fun q=>decide (0≤q.a)) T) (fun s=>l.length-s.1.toNat)
  (fun r=>∃T,r=(l.filterMap (yH (prN a 0 (-1)) (prN b 0 (-1))),l.filterMap O1,T)∧Mk (aU b) (l.filter fun q=>decide (0≤q.a)) T)
  (by
   rintro _ ⟨i,T,rfl,hi,B⟩
   by_cases hlt:i<l.length
   ·obtain⟨o,A⟩:=dD hlt
    obtain⟨r1,r2⟩:=scr_rng F.scr o (List.mem_of_getElem? A)
    have b1:=fm_len (yH (prN a 0 (-1)) (prN b 0 (-1))) (l.take i)
    have b2:=fm_len O1 (l.take i)
    rw[List.length_take] at b1 b2
    have hnext:inK .i64 ((i:Int)+1)=some ((i+1:Nat):Int):=fC (by omega)
    left
    simp only[oH]
    rw[if_pos (by simp;omega),aZ A,bsn]
    by_cases hob:o.b<0
    ·rw[if_pos (by simpa using hob),wI (by simp;omega),bsn,hnext,bsn]
     refine⟨_,O,⟨i+1,T,?_,by omega,?_⟩,by simp;omega⟩
     ·rw[mO _ A,mO _ A,show yH (prN a 0 (-1)) (prN b 0 (-1)) o=none by unfold yH;rw[if_neg (by omega)],show O1 o=some ⟨1,o.a,0,0,0,ByteArray.empty⟩ by unfold O1;rw[if_pos hob]]
      simp
     rw[wM _ A]
     split
     ·exact B.skip hob
     rw[List.append_nil];exact B
    have hd:O1 o=none:=by unfold O1;rw[if_neg hob]
    rw[if_neg (by simpa using hob)]
    by_cases hoa:0≤o.a
    ·obtain⟨v,hv,_⟩:=B.get (o:=o) (by omega) r2
     obtain⟨m,e1,e2⟩:=nod_get a o.a.toNat (by omega)
     obtain⟨q,e3,e4⟩:=nod_get b o.b.toNat (by omega)
     have C:((l.take i).filterMap (yH (prN a 0 (-1)) (prN b 0 (-1)))).length+1≤4294967296:=by omega
     have hM:Mk (aU b) ((l.take (i+1)).filter fun q=>decide (0≤q.a)) (T.set o.b.toNat true):=by
      rw[wM _ A,if_pos (by simpa using hoa)];exact B.mark (by omega) r2
     rw[if_pos (by simpa using hoa),hv,bsn,yB (by omega) e3,bsn,yB hoa e1,bsn]
     unfold kJ
     rw[bsn]
     by_cases hs:kC (prN a 0 (-1)) o.a.toNat=kC (prN b 0 (-1)) o.b.toNat
     ·have E:yH (prN a 0 (-1)) (prN b 0 (-1)) o=none:=by unfold yH;rw[if_neg (by simp[hs])]
      rw[e2,e4,Prod.mk.injEq] at hs
      rw[if_neg (by simp[hs]),hnext,bsn]
      refine⟨_,O,⟨i+1,_,?_,by omega,hM⟩,by simp;omega⟩
      rw[mO _ A,mO _ A,E,hd];simp
     have E:yH (prN a 0 (-1)) (prN b 0 (-1)) o=some ⟨0,o.a,0,0,q.kind,q.text⟩:=by unfold yH;rw[if_pos ⟨hoa,by omega,hs⟩,e4]
     rw[e2,e4,Prod.mk.injEq] at hs
     rw[if_pos (by
      rw[Bool.not_eq_true',←Bool.not_eq_true,Bool.and_eq_true,decide_eq_true_eq,decide_eq_true_eq]
      exact hs),wI (by simpa using C),bsn,hnext,bsn]
     refine⟨_,O,⟨i+1,_,?_,by omega,hM⟩,by simp;omega⟩
     rw[mO _ A,mO _ A,E,hd];simp
    rw[if_neg (by simpa using hoa),hnext,bsn]
    refine⟨_,O,⟨i+1,T,?_,by omega,?_⟩,by simp;omega⟩
    ·rw[mO _ A,mO _ A,show yH (prN a 0 (-1)) (prN b 0 (-1)) o=none by unfold yH;rw[if_neg (by omega)],hd]
     simp
    rw[wM _ A,if_neg (by simpa using hoa),List.append_nil];exact B
   right
   rw[List.take_of_length_le (by omega)] at B⊢
   exact⟨_,by simp only[oH];rw[if_neg (by simp;omega)],T,O,B⟩) (0,[],[],List.replicate (aU b) false) ⟨0,_,O,Nat.zero_le _,by simp;exact Mk.nil _⟩
 exact⟨T,h1,B⟩
theorem insl_loop (a b:Node) (ha:aU a≤100000) (hb:aU b≤100000) (l:List Opn) (B:Va a b l) (T0:List Bool) (h0:Mk (aU b) (l.filter fun q=>decide (0≤q.a)) T0):
  ∃T,dZ (fun s=>oI l (nmb (prN b 0 (-1))) s.1 s.2.1 s.2.2) (0,[],T0)=some (insL (prN b 0 (-1)) l ((List.range (aU b)).filter fun s=> !thB l s),T):=by
 have hlen:=aJ0 B.scr
 have hQ:=nD.1 b 0 (-1)
 have hins:=ins_eq B
 obtain⟨r,h1,T,rfl⟩:=D7 (body:=fun s=>oI l (nmb (prN b 0 (-1))) s.1 s.2.1 s.2.2)
  (fun s=>∃(i:Nat) (T:List Bool),s=((i:Int),insL (prN b 0 (-1)) l (((l.take i).filter fun q=>decide (q.a<0)).map fun o=>o.b.toNat),T)∧i≤l.length∧Mk (aU b) ((l.filter fun q=>decide (0≤q.a))++(l.take i).filter fun q=>decide (q.a<0)) T) (fun s=>l.length-s.1.toNat)
  (fun r=>∃T,r=(insL (prN b 0 (-1)) l ((l.filter fun q=>decide (q.a<0)).map fun o=>o.b.toNat),T))
  (by
   rintro _ ⟨i,T,rfl,hi,C⟩
   by_cases hlt:i<l.length
   ·obtain⟨o,A⟩:=dD hlt
    obtain⟨r1,r2⟩:=scr_rng B.scr o (List.mem_of_getElem? A)
    have b1:(insL (prN b 0 (-1)) l (((l.take i).filter fun q=>decide (q.a<0)).map fun o=>o.b.toNat)).length≤l.length:=by
     unfold insL
     rw[List.length_map,List.length_map]
     have:=List.length_filter_le (fun q:Opn=>decide (q.a<0)) (l.take i)
     rw[List.length_take] at this;omega
    have hnext:inK .i64 ((i:Int)+1)=some ((i+1:Nat):Int):=fC (by omega)
    left
    simp only[oI]
    rw[if_pos (by simp;omega),aZ A,bsn]
    by_cases hoa:o.a<0
    ·have hi2:aU a≤i:=Nat.le_of_not_lt fun e=>by have:=(aC5 B.scr A).1 e;omega
     have hob:=((aC5 B.scr A).2 hi2).2
     have hTK:=TK_of B A hi2 C
     obtain⟨v,hv,_⟩:=C.get (o:=o) hob r2
     have hI:=insertion_m b hb T C.1 o.b.toNat (by omega) (fun s hs=>by rw[hTK,TK_get l _ _ s (by omega),decide_eq_true hs];rfl)
     rw[show((o.b.toNat:Nat):Int)=o.b by omega] at hI
     rw[if_pos (by simpa using hoa),hI,bsn,wI (by simp;omega),bsn,hv,bsn,hnext,bsn]
     refine⟨_,O,⟨i+1,T.set o.b.toNat true,?_,by omega,?_⟩,by simp;omega⟩
     ·have e:insL (prN b 0 (-1)) l (((l.take (i+1)).filter fun q=>decide (q.a<0)).map fun o=>o.b.toNat)=insL (prN b 0 (-1)) l (((l.take i).filter fun q=>decide (q.a<0)).map fun o=>o.b.toNat)++[H8 (prN b 0 (-1)) T o.b.toNat]:=by
       rw[wM _ A,if_pos (by simpa using hoa),List.map_append,hTK]
       unfold insL
       rw[List.map_append,hQ];rfl
      rw[e]
     rw[wM _ A,if_pos (by simpa using hoa),←List.append_assoc]
     exact C.mark hob r2
    rw[if_neg (by simpa using hoa),hnext,bsn]
    refine⟨_,O,⟨i+1,T,?_,by omega,?_⟩,by simp;omega⟩
    ·rw[wM _ A,if_neg (by simpa using hoa),List.append_nil]
    rw[wM _ A,if_neg (by simpa using hoa),List.append_nil];exact C
   right
   rw[List.take_of_length_le (by omega)]
   exact⟨_,by simp only[oI];rw[if_neg (by simp;omega)],T,O⟩) (0,[],T0) ⟨0,_,O,Nat.zero_le _,by simpa using h0⟩
 rw[hins] at h1
 exact⟨T,h1⟩
theorem filter_len (l:List Opn) (n:Nat):((List.range n).filter fun s=> !thB l s).length≤n:=by
 have:=List.length_filter_le (fun s=> !thB l s) (List.range n)
 rwa [List.length_range] at this
open Classical in
theorem changes_m (a b:Node) (ha:aU a≤100000) (hb:aU b≤100000) (l:List Opn) (B:l.length≤9223372036854775807) (A:∀o∈l,I64 o.a∧I64 o.b):sK a b l=some (if Va a b l then(chgL (prN a 0 (-1)) (prN b 0 (-1)) l,0) else([],1)):=by
 unfold sK
 rw[valid_m a b ha hb l B A,bsn]
 by_cases h:Va a b l
 ·have nb:(nmb (prN b 0 (-1))).nodes.length=aU b:=by unfold nmb;simp[nD.1]
  have hlen:=aJ0 h.scr
  have b1:=fm_len (yH (prN a 0 (-1)) (prN b 0 (-1))) l
  have b2:=fm_len O1 l
  have b3:=filter_len l (aU b)
  obtain⟨T,e1,C⟩:=lbl_loop a b ha hb l h
  obtain⟨T2,e2⟩:=insl_loop a b ha hb l h T C
  rw[decide_eq_true h,if_neg (by simp),if_pos h,J3 a ha,bsn,J3 b hb,bsn,nb,mkc_ok (by omega),bsn,Int.toNat_natCast,e1,bsn]
  simp only
  rw[e2,bsn]
  simp only
  rw[reverse_m _ (by omega),bsn,concat_m _ _ _ (by simp[insL];omega),bsn]
  unfold chgL
  rw[nD.1]
 rw[decide_eq_false h,if_pos (by rfl),if_neg h]
theorem drop_fm {nx ny:Nat} {sx sy:Nat→Nat} {l:List Opn} (B:Vd nx ny sx sy l) (P Q:List (Node×Int×Nat)):l.filterMap (yH P Q)=(l.take nx).filterMap (yH P Q)∧l.filterMap O1=(l.take nx).filterMap O1:=by
 have h:∀q∈l.drop nx,yH P Q q=none∧O1 q=none:=fun q hq=>by
  obtain⟨j,A⟩:=List.mem_iff_getElem?.1 hq
  rw[List.getElem?_drop] at A
  have:=(aC5 B.scr A).2 (by omega)
  exact⟨by unfold yH;rw[if_neg (by omega)],by unfold O1;rw[if_neg (by omega)]⟩
 constructor
 ·conv=>lhs;rw[←List.take_append_drop nx l,List.filterMap_append]
  rw[List.filterMap_eq_nil_iff.2 fun q hq=>(h q hq).1,List.append_nil]
 conv=>lhs;rw[←List.take_append_drop nx l,List.filterMap_append]
 rw[List.filterMap_eq_nil_iff.2 fun q hq=>(h q hq).2,List.append_nil]
theorem nc_seg {f h:Nat→Bool} (x n N:Nat) (hN:x+n≤N) (out:∀s,s<x∨x+n≤s→f s=false) (inn:∀s,x≤s→s<x+n→f s=h s):nc f N=(List.range' x n).countP h:=by
 unfold nc
 rw[List.range_eq_range',show N=x+(n+(N-x-n)) by omega,←List.range'_append_1,←List.range'_append_1,List.countP_append,List.countP_append,Nat.zero_add,List.countP_eq_zero.2 fun s hs=>?_,List.countP_eq_zero (l:=List.range' (x+n) _) |>.2 fun s hs=>?_,Nat.zero_add,Nat.add_zero]
 ·exact List.countP_congr fun s hs=>by
   have:=List.mem_range'_1.1 hs
   rw[inn s this.1 this.2]
 ·have:=List.mem_range'_1.1 hs
  rw[out s (Or.inr (by omega))];simp
 have:=List.mem_range'_1.1 hs
 rw[out s (Or.inl (by omega))];simp
def Sk (l:List Opn) (k s:Nat):Bool:=decide (s<k)||thB l s
theorem aD4 {l:List Opn} {k s:Nat} (h:s≠k):Sk l (k+1) s=Sk l k s:=by
 unfold Sk
 congr 1
 rw[decide_eq_decide];omega
theorem ins_step (b:Node) (l:List Opn) (k:Nat) (hk:k<aU b) (hn:thB l k=false):
  chg1 (wL (Sk l k) (kC (prN b 0 (-1))) [b] 0) (H8 (prN b 0 (-1)) (TK l (aU b) k) k)=(0,wL (Sk l (k+1)) (kC (prN b 0 (-1))) [b] 0):=by
 obtain⟨m,g0,g1,g2,g3,g4,g5⟩:=at_Q b k hk
 have hQl:=nD.1 b 0 (-1)
 have B:∀s,s<aU b→(TK l (aU b) k)[s]?=some (Sk l k s):=fun s hs=>TK_get l (aU b) k s hs
 have hSk:Sk l k k=false:=by unfold Sk;rw[hn,decide_eq_false (by omega)];rfl
 have hSk':Sk l (k+1) k=true:=by unfold Sk;rw[decide_eq_true (by omega)];rfl
 have hkid:=kid_of.1 b 0 (-1) k m _ k g0
 have hat:=(aC3.1 b 0 (-1) k m _ k g0).2.2
 have hcm:=fO m
 have hQB:∀(j:Nat) x,(prL m.kids (k+1) (k:Int))[j]?=some x→(prN b 0 (-1))[k+1+j]?=some x:=fun j x A=>by
  rw[show k+1+j=k+(j+1) by omega]
  exact pr_seg.1 b 0 (-1) k m _ k g0 (j+1) x (by rw[rJ,List.getElem?_cons_succ];exact A)
 have hlen:∀w:Int,UpIs (prN b 0 (-1)) (TK l (aU b) k) (iP (prN b 0 (-1)) k) w→w<k→(wL (Sk l k) (kC (prN b 0 (-1))) m.kids (k+1)).length=(List.range' (k+1) (dQ m.kids)).countP (tp (prN b 0 (-1)) (TK l (aU b) k) (Sk l k) w):=fun w hu hw=>by
  refine(top_cnt (Sk l k) (kC (prN b 0 (-1))) |>.2 m.kids (k+1) k w hQB (fun s h1 h2=>B s (by omega)) (by omega) (by omega) ?_).1
  exact up_next (by omega) (by rw[Int.toNat_natCast,B k hk,hSk]) (by rw[Int.toNat_natCast];exact g2) (by rw[Int.toNat_natCast];exact hu)
 generalize hQ:prN b 0 (-1)=Q at*
 generalize hTT:TK l (aU b) k=T at*
 have hkd:∀s,s<aU b→kdB Q T k s=(Sk l k s&&(decide (iP Q k<0)||(decide (iP Q k<s)&&decide ((s:Int)<iP Q k+szp Q (iP Q k).toNat)))&&decide (near Q T s=iP Q k)):=fun s hs=>by
  unfold kdB;rw[B s hs];cases Sk l k s<;>simp
 have hout:∀s,aU b≤s→kdB Q T k s=false:=fun s hs=>by
  unfold kdB
  rw[List.getElem?_eq_none (by rw[←hTT,TK_len];exact hs)];rfl
 have hcc:(H8 Q T k).count=((List.range' (k+1) (dQ m.kids)).countP (tp Q T (Sk l k) (iP Q k)):Int)∨¬(∀s,k<s→s<k+aU m→iP Q k<0∨(iP Q k<s∧(s:Int)<iP Q k+szp Q (iP Q k).toNat)):=by
  by_cases hy:∀s,k<s→s<k+aU m→iP Q k<0∨(iP Q k<s∧(s:Int)<iP Q k+szp Q (iP Q k).toNat)
  ·left
   unfold H8
   simp only
   rw[hQl,nc_seg (h:=tp Q T (Sk l k) (iP Q k)) (k+1) (dQ m.kids) (aU b) (by omega) (fun s hs=>?_) fun s h1 h2=>?_]
   ·rw[g4]
    rcases hs with hs|hs
    ·rw[decide_eq_false (p:=k<s) (by omega)];simp
    rw[decide_eq_false (p:=s<k+aU m) (by omega)];simp
   rw[hkd s (by omega),g4,decide_eq_true (p:=k<s) (by omega),decide_eq_true (p:=s<k+aU m) (by omega)]
   have:=hy s (by omega) (by omega)
   unfold tp
   have e:(decide (iP Q k<0)||(decide (iP Q k<s)&&decide ((s:Int)<iP Q k+szp Q (iP Q k).toNat)))=true:=by
    rw[Bool.or_eq_true,Bool.and_eq_true,decide_eq_true_eq,decide_eq_true_eq,decide_eq_true_eq];exact this
   rw[e];simp
  exact Or.inr hy
 by_cases hq:iP Q k<0
 ·have hq1:iP Q k= -1:=by omega
  have hk0:k=0:=by omega
  subst hk0
  have hmb:m=b:=by
   rcases hat with h|h
   ·exact h.2.2
   omega
  subst hmb
  have hB:=hlen (-1) (by rw[hq1];exact up_neg (by omega)) (by omega)
  have C:(H8 Q T 0).count=((wL (Sk l 0) (kC Q) m.kids (0+1)).length:Int):=by
   rcases hcc with h|h
   ·rw[h,hB,hq1]
   exact absurd (fun s _ _=>Or.inl hq) h
  have hi:(H8 Q T 0).index=0:=by
   unfold H8
   simp only
   rw[nc_zero fun s hs=>by rw[decide_eq_false (p:=s<0) (by omega)];simp];rfl
  have e1:H8 Q T 0=⟨2,-1,(([]:List Node).length:Int),((wL (Sk l 0) (kC Q) m.kids (0+1)).length:Int),(kC Q 0).1,(kC Q 0).2⟩:=by
   have e2:H8 Q T 0=⟨2,iP Q 0,(H8 Q T 0).index,(H8 Q T 0).count,(kC Q 0).1,(kC Q 0).2⟩:=rfl
   rw[e2,hq1,C,hi];rfl
  have e3:=insK_at [] (wL (Sk l 0) (kC Q) m.kids (0+1)) [] 2 (-1) (kC Q 0).1 (kC Q 0).2
  rw[List.append_nil,List.nil_append,List.nil_append] at e3
  rw[aE8,aE8,N7,hSk,if_neg (by simp),N7,hSk',if_pos rfl,e1]
  unfold chg1
  rw[if_pos (by simp[fieldsB]),if_neg (by simp),if_pos rfl,e3]
  simp only
  rw[yJ.2 m.kids (0+1) fun s h1 h2=>⟨aD4 (by omega),rfl⟩]
 obtain⟨mq,r,i,a1,a2,a3,a4⟩:=hkid (by omega)
 rw[Nat.sub_zero] at a1
 have hqn:((iP Q k).toNat:Int)=iP Q k:=by omega
 have b1:=aC3.1 b 0 (-1) (iP Q k).toNat mq r _ (by rw[hQ];exact a1)
 have hcq:=fO mq
 have c1:=xQ a3
 have c2:=aA1 mq.kids (i+1)
 have hszq:szp Q (iP Q k).toNat=aU mq:=by unfold szp;rw[a1]
 have hseg:∀(j:Nat) x,(prL mq.kids ((iP Q k).toNat+1) ((iP Q k).toNat:Int))[j]?=some x→Q[(iP Q k).toNat+1+j]?=some x:=fun j x A=>by
  rw[show(iP Q k).toNat+1+j=(iP Q k).toNat+(j+1) by omega,←hQ]
  exact pr_seg.1 b 0 (-1) _ mq r _ (by rw[hQ];exact a1) (j+1) x (by rw[rJ,List.getElem?_cons_succ];exact A)
 generalize hqq:(iP Q k).toNat=qn at*
 have hSq:Sk l k qn=true:=by unfold Sk;rw[decide_eq_true (by omega)];rfl
 have hup:UpIs Q T (iP Q k) (iP Q k):=up_here (by omega) (by rw[hqq,B qn (by omega),hSq])
 have hup':UpIs Q T (qn:Int) (iP Q k):=by rw[hqn];exact hup
 have hX:=(top_cnt (Sk l k) (kC Q) |>.2 (mq.kids.take i) (qn+1) qn (iP Q k) (fun j x A=>hseg j x (by
  have e:prL mq.kids (qn+1) (qn:Int)=prL (mq.kids.take i) (qn+1) qn++prL (mq.kids.drop i) (qn+1+dQ (mq.kids.take i)) qn:=by rw[←prL_app,List.take_append_drop]
  rw[e,List.getElem?_append_left (List.getElem?_eq_some_iff.1 A).1];exact A)) (fun s h1 h2=>B s (by omega)) (by omega) (by omega) hup').1
 have hB:=hlen (iP Q k) hup (by omega)
 have C:(H8 Q T k).count=((wL (Sk l k) (kC Q) m.kids (k+1)).length:Int):=by
  rcases hcc with h|h
  ·rw[h,hB]
  exact absurd (fun s h1 h2=>Or.inr (by rw[hszq];omega)) h
 have hi:(H8 Q T k).index=((wL (Sk l k) (kC Q) (mq.kids.take i) (qn+1)).length:Int):=by
  unfold H8
  simp only
  rw[hQl,nc_seg (h:=tp Q T (Sk l k) (iP Q k)) (qn+1) (dQ (mq.kids.take i)) (aU b) (by omega) (fun s hs=>?_) (fun s h1 h2=>?_),hX]
  ·rcases hs with hs|hs
   ·rw[hkd s (by omega),decide_eq_false (p:=iP Q k<0) hq,decide_eq_false (p:=iP Q k<(s:Int)) (by omega)];simp
   rw[decide_eq_false (p:=s<k) (by omega)];simp
  rw[hkd s (by omega),hszq,decide_eq_true (p:=s<k) (by omega),decide_eq_true (p:=iP Q k<(s:Int)) (by omega),decide_eq_true (p:=(s:Int)<iP Q k+(aU mq:Nat)) (by omega)]
  unfold tp;simp
 have hsplit:mq.kids=mq.kids.take i++(m::mq.kids.drop (i+1)):=by
  rw[←drop_cons_of a3,List.take_append_drop]
 have w1:wL (Sk l k) (kC Q) mq.kids (qn+1)=wL (Sk l k) (kC Q) (mq.kids.take i) (qn+1)++(wL (Sk l k) (kC Q) m.kids (k+1)++wL (Sk l k) (kC Q) (mq.kids.drop (i+1)) (k+aU m)):=by
  conv=>lhs;rw[hsplit]
  rw[wL_app,wH,←a4,N7,hSk,if_neg (by simp)]
 have w2:wL (Sk l (k+1)) (kC Q) mq.kids (qn+1)=wL (Sk l k) (kC Q) (mq.kids.take i) (qn+1)++(⟨(kC Q k).1,(kC Q k).2,0,0,wL (Sk l k) (kC Q) m.kids (k+1)⟩::wL (Sk l k) (kC Q) (mq.kids.drop (i+1)) (k+aU m)):=by
  conv=>lhs;rw[hsplit]
  rw[wL_app,wH,←a4,N7,hSk',if_pos rfl,yJ.2 (mq.kids.take i) (qn+1) fun s h1 h2=>⟨aD4 (by omega),rfl⟩,yJ.2 m.kids (k+1) fun s h1 h2=>⟨aD4 (by omega),rfl⟩,yJ.2 (mq.kids.drop (i+1)) (k+aU m) fun s h1 h2=>⟨aD4 (by omega),rfl⟩]
  rfl
 have hins:zG (wL (Sk l k) (kC Q) mq.kids (qn+1)) (H8 Q T k)=some (wL (Sk l (k+1)) (kC Q) mq.kids (qn+1)):=by
  have e2:H8 Q T k=⟨2,iP Q k,(H8 Q T k).index,(H8 Q T k).count,(kC Q k).1,(kC Q k).2⟩:=rfl
  rw[e2,C,hi,w1,w2]
  exact insK_at _ _ _ _ _ _ _
 obtain⟨n1,n2⟩:=(w_rp (S:=Sk l k) (S':=Sk l (k+1)) (g:=kC Q) (g':=kC Q)).1 b 0 (-1) qn mq r qn (by rw[hQ];exact a1) hSq fun s hs=>⟨aD4 (by omega),O⟩
 rw[Nat.sub_zero,cS_all 0 qn fun s h1 h2=>by unfold Sk;rw[decide_eq_true (by omega)];rfl] at n1 n2
 have hop:(H8 Q T k).op=2:=rfl
 have hnode:(H8 Q T k).node=iP Q k:=rfl
 have hSq':Sk l (k+1) qn=true:=by rw[aD4 (by omega)];exact hSq
 rw[aE8,aE8]
 unfold chg1
 rw[if_pos (by simp[fieldsB,hop]),hnode,hop,if_neg (by omega),if_neg (by omega),hqq,n1]
 simp only
 rw[if_pos (by unfold okN;simp only;rw[hins];simp),n2 (chF (H8 Q T k))]
 unfold chF
 rw[hop,if_neg (by simp),if_neg (by simp),N7,hSq',if_pos rfl]
 simp only
 rw[hins];rfl
def bfB (p q:Opn):Bool:=(decide (0≤p.a)&&(decide (q.a<0)||decide (p.a<q.a)))||(decide (p.a<0)&&decide (q.a<0)&&decide (p.b<q.b))
theorem bf_iff (p q:Opn):bfB p q=true↔(0≤p.a∧(q.a<0∨p.a<q.a))∨(p.a<0∧q.a<0∧p.b<q.b):=by
 simp[bfB,and_assoc]
theorem bn_iff (p q:Opn):bfB p q=false↔¬((0≤p.a∧(q.a<0∨p.a<q.a))∨(p.a<0∧q.a<0∧p.b<q.b)):=by
 rw[←bf_iff,Bool.not_eq_true]
def av (L:List Opn) (i:Nat):Opn:=(L[i]?).getD ⟨0,0⟩
structure Rg (L L':List Opn) (a b:Nat):Prop where
 len:L'.length=L.length
 perm:L'.Perm L
 out:∀t,t<a∨b≤t→av L' t=av L t
 pres:∀P:Opn→Prop,(∀t,a≤t→t<b→P (av L t))→∀t,a≤t→t<b→P (av L' t)
theorem Rg.tr {L L' L'':List Opn} {a b:Nat} (h1:Rg L L' a b) (h2:Rg L' L'' a b):Rg L L'' a b:=
 ⟨h2.len.trans h1.len,h2.perm.trans h1.perm,fun t h=>(h2.out t h).trans (h1.out t h),fun P h=>h2.pres P (h1.pres P h)⟩
theorem Rg.mono {L L':List Opn} {a b c d:Nat} (h:Rg L L' c d) (h1:a≤c) (h2:d≤b):Rg L L' a b:=
 ⟨h.len,h.perm,fun t ht=>h.out t (by omega),fun P A t h3 h4=>by
  by_cases ht:c≤t∧t<d
  ·exact h.pres P (fun s h5 h6=>A s (by omega) (by omega)) t ht.1 ht.2
  rw[h.out t (by omega)];exact A t h3 h4⟩
def Srt (L:List Opn) (a b:Nat):Prop:=∀s t,a≤s→s<t→t<b→bfB (av L t) (av L s)=false
theorem Srt.of {L L':List Opn} {a b:Nat} (h:Srt L a b) (e:∀t,a≤t→t<b→av L' t=av L t):Srt L' a b:=fun s t h1 h2 h3=>by
 rw[e s h1 (by omega),e t (by omega) h3];exact h s t h1 h2 h3
structure St (nx ny:Nat) (sx sy:Nat→Nat) (l:List Opn):Prop where
 rng:∀o∈l,-1≤o.a∧o.a<nx∧ -1≤o.b∧o.b<ny∧(0≤o.a∨0≤o.b)
 dis:l.Pairwise fun p q=>(0≤p.a→p.a≠q.a)∧(0≤p.b→p.b≠q.b)
 sua:∀c:Nat,c<nx→∃o∈l,o.a=c
 sub:∀c:Nat,c<ny→∃o∈l,o.b=c
 tr:∀p∈l,∀q∈l,0≤p.a→p.a<q.a→0≤p.b→0≤q.b→p.b<q.b∧(q.a<p.a+sx p.a.toNat↔q.b<p.b+sy p.b.toNat)
def Le (p q:Opn):Prop:=bfB q p=false
theorem pw_eq {R:Opn→Opn→Prop} {l:List Opn} (h:l.Pairwise R) {p q:Opn} (B:p∈l) (hq:q∈l):p=q∨R p q∨R q p:=by
 obtain⟨i,hi,rfl⟩:=List.mem_iff_getElem.1 B
 obtain⟨j,A,rfl⟩:=List.mem_iff_getElem.1 hq
 have h:=List.pairwise_iff_getElem.1 h
 rcases Nat.lt_trichotomy i j with e|e|e
 ·exact Or.inr (Or.inl (h i j hi A e))
 ·subst e;exact Or.inl rfl
 exact Or.inr (Or.inr (h j i A hi e))
theorem St.ea {nx ny:Nat} {sx sy:Nat→Nat} {l:List Opn} (h:St nx ny sx sy l) {p q:Opn} (A:p∈l) (hq:q∈l) (h0:0≤p.a) (e:p.a=q.a):p=q:=by
 rcases pw_eq h.dis A hq with k|k|k
 ·exact k
 ·exact absurd e (k.1 h0)
 exact absurd e.symm (k.1 (by omega))
theorem St.eb {nx ny:Nat} {sx sy:Nat→Nat} {l:List Opn} (h:St nx ny sx sy l) {p q:Opn} (A:p∈l) (hq:q∈l) (h0:0≤p.b) (e:p.b=q.b):p=q:=by
 rcases pw_eq h.dis A hq with k|k|k
 ·exact k
 ·exact absurd e (k.2 h0)
 exact absurd e.symm (k.2 (by omega))
theorem St.perm {nx ny:Nat} {sx sy:Nat→Nat} {l m:List Opn} (h:St nx ny sx sy l) (p:m.Perm l):St nx ny sx sy m:=
 ⟨fun o C=>h.rng o (p.mem_iff.1 C),(List.Perm.pairwise_iff (fun{x y} h=>⟨fun h1 h2=>h.1 (by omega) h2.symm,fun h1 h2=>h.2 (by omega) h2.symm⟩) p).2 h.dis,fun c A=>by obtain⟨o,h1,h2⟩:=h.sua c A;exact⟨o,p.mem_iff.2 h1,h2⟩,
  fun c A=>by obtain⟨o,h1,h2⟩:=h.sub c A;exact⟨o,p.mem_iff.2 h1,h2⟩,fun x B y hy=>h.tr x (p.mem_iff.1 B) y (p.mem_iff.1 hy)⟩
def swO (o:Opn):Opn:=⟨o.b,o.a⟩
theorem St.swap {nx ny:Nat} {sx sy:Nat→Nat} {l:List Opn} (h:St nx ny sx sy l):St ny nx sy sx (l.map swO):=by
 refine⟨fun o C=>?_,?_,fun c B=>?_,fun c B=>?_,fun p A q hq h0 h1 h2 h3=>?_⟩
 ·obtain⟨q,hq,rfl⟩:=List.mem_map.1 C
  have:=h.rng q hq
  simp only[swO];omega
 ·rw[List.pairwise_map]
  exact h.dis.imp fun{p q} k=>⟨k.2,k.1⟩
 ·obtain⟨o,h1,h2⟩:=h.sub c B
  exact⟨swO o,List.mem_map_of_mem h1,h2⟩
 ·obtain⟨o,h1,h2⟩:=h.sua c B
  exact⟨swO o,List.mem_map_of_mem h1,h2⟩
 obtain⟨p,hp',rfl⟩:=List.mem_map.1 A
 obtain⟨q,hq',rfl⟩:=List.mem_map.1 hq
 replace A:=hp'
 replace hq:=hq'
 simp only[swO] at h0 h1 h2 h3⊢
 rcases Int.lt_trichotomy p.a q.a with k|k|k
 ·have:=h.tr p A q hq h2 k h0 (by omega)
  exact⟨k,this.2.symm⟩
 ·have:=h.ea A hq h2 k
  rw[this] at h1;omega
 have:=(h.tr q hq p A h3 k (by omega) h0).1
 omega
theorem Vd.st {nx ny:Nat} {sx sy:Nat→Nat} {l:List Opn} (h:Vd nx ny sx sy l):St nx ny sx sy l∧l.Pairwise Le:=by
 have hpos:∀(j:Nat) (o:Opn),l[j]?=some o→(j<nx∧o.a=j)∨(nx≤j∧o.a= -1∧0≤o.b):=fun j o B=>by
  have hk:=(List.getElem?_eq_some_iff.1 B).1
  have t:(l.take j).length=j:=by rw[List.length_take];omega
  have h1:=(h.scr j o B).fst
  have h2:=(h.scr j o B).snd
  rw[t] at h1 h2
  rcases Nat.lt_or_ge j nx with e|e
  ·exact Or.inl ⟨e,h1 e⟩
  exact Or.inr ⟨e,(h2 e).1,(h2 e).2.1⟩
 have hpw:=List.pairwise_iff_getElem.1 (scr_pw h.scr)
 have hprs:=List.pairwise_iff_getElem.1 h.prs
 refine⟨⟨fun o B=>?_,?_,fun c hc=>?_,h.sur,fun p C q hq h0 h1 h2 h3=>?_⟩,?_⟩
 ·obtain⟨j,A⟩:=List.mem_iff_getElem?.1 B
  have:=(h.scr j o A).lo
  have:=(h.scr j o A).hi
  rcases hpos j o A with k|k<;>omega
 ·rw[List.pairwise_iff_getElem]
  intro i j hi A hij
  have h1:=hpos i _ (List.getElem?_eq_getElem hi)
  have h2:=hpos j _ (List.getElem?_eq_getElem A)
  exact⟨fun _=>by omega,fun k e=>(hpw i j hi A hij).2 (by omega) e⟩
 ·have:=h.len
  obtain⟨o,B⟩:=dD (show c<l.length by omega)
  exact⟨o,List.mem_of_getElem? B,by have:=hpos c o B;omega⟩
 ·obtain⟨i,hi,rfl⟩:=List.mem_iff_getElem.1 C
  obtain⟨j,A,rfl⟩:=List.mem_iff_getElem.1 hq
  have k1:=hpos i _ (List.getElem?_eq_getElem hi)
  have k2:=hpos j _ (List.getElem?_eq_getElem A)
  exact hprs i j hi A (by omega) h0 h2 (by omega) h3
 rw[List.pairwise_iff_getElem]
 intro i j hi A hij
 have h1:=hpos i _ (List.getElem?_eq_getElem hi)
 have h2:=hpos j _ (List.getElem?_eq_getElem A)
 have hlt:nx≤i→l[i].b<l[j].b:=fun e=>by
  refine((h.scr j _ (List.getElem?_eq_getElem A)).snd (by rw[List.length_take];omega)).2.2 _ (List.mem_of_getElem? (i:=i-nx) ?_)
  rw[List.getElem?_drop,List.getElem?_take,if_pos (by omega),show nx+(i-nx)=i by omega,List.getElem?_eq_getElem hi]
 unfold Le
 rw[bn_iff]
 by_cases e:nx≤i
 ·have:=hlt e;omega
 omega
theorem aM1:∀(l:List Opn),l.Pairwise Le→l=l.filter (fun o=>decide (0≤o.a))++l.filter (fun o=>decide (o.a<0))
 | [],_=>rfl
 |o::l,h=>by
  obtain⟨h1,h2⟩:=List.pairwise_cons.1 h
  have ih:=aM1 l h2
  by_cases ha:0≤o.a
  ·rw[List.filter_cons_of_pos (by simpa using ha),List.filter_cons_of_neg (by simpa using ha),List.cons_append,←ih]
  have hn:l.filter (fun o=>decide (0≤o.a))=[]:=List.filter_eq_nil_iff.2 fun q hq=>by
   have:=h1 q hq
   unfold Le at this
   rw[bn_iff] at this
   simp only[decide_eq_true_eq]
   omega
  rw[hn] at ih
  rw[List.filter_cons_of_neg (by simpa using ha),List.filter_cons_of_pos (by simp;omega),hn,List.nil_append]
  rw[List.nil_append] at ih
  rw[←ih]
theorem St.vd {nx ny:Nat} {sx sy:Nat→Nat} {l:List Opn} (h:St nx ny sx sy l) (hs:l.Pairwise Le):Vd nx ny sx sy l:=by
 have hsp:=aM1 l hs
 have hF:(l.filter fun o=>decide (0≤o.a)).map (·.a)=(List.range nx).map fun i:Nat=>(i:Int):=by
  refine rising_int ?_ ?_ fun x=>?_
  ·rw[List.pairwise_map,List.pairwise_filter]
   refine(hs.and h.dis).imp fun{p q} k h1 h2=>?_
   have h1:=of_decide_eq_true h1
   have h2:=of_decide_eq_true h2
   have k1:=k.1
   unfold Le at k1
   rw[bn_iff] at k1
   have:=k.2.1 h1
   omega
  ·rw[List.pairwise_map]
   exact List.pairwise_lt_range.imp fun{a b} k=>by omega
  rw[List.mem_map,List.mem_map]
  constructor
  ·rintro⟨o,A,rfl⟩
   rw[List.mem_filter,decide_eq_true_eq] at A
   have:=h.rng o A.1
   exact⟨o.a.toNat,List.mem_range.2 (by omega),by omega⟩
  rintro⟨c,C,rfl⟩
  obtain⟨o,h1,h2⟩:=h.sua c (List.mem_range.1 C)
  exact⟨o,by rw[List.mem_filter,decide_eq_true_eq];exact⟨h1,by omega⟩,h2⟩
 have hFl:(l.filter fun o=>decide (0≤o.a)).length=nx:=by
  have:=congrArg List.length hF
  simpa using this
 have hpos:∀(j:Nat) (o:Opn),l[j]?=some o→(j<nx∧o.a=j)∨(nx≤j∧o.a<0):=fun j o A=>by
  rw[hsp] at A
  rcases Nat.lt_or_ge j nx with e|e
  ·rw[List.getElem?_append_left (by omega)] at A
   have:=congrArg (fun m=>m[j]?) hF
   simp only[List.getElem?_map,A,List.getElem?_range e,Option.map_some,Option.some.injEq] at this
   exact Or.inl ⟨e,this⟩
  rw[List.getElem?_append_right (by omega)] at A
  have:=List.mem_of_getElem? A
  rw[List.mem_filter,decide_eq_true_eq] at this
  exact Or.inr ⟨e,this.2⟩
 refine⟨fun j o A=>?_,?_,h.sub,?_⟩
 ·have hk:=(List.getElem?_eq_some_iff.1 A).1
  have t:(l.take j).length=j:=by rw[List.length_take];omega
  have hr:=h.rng o (List.mem_of_getElem? A)
  have hp:=hpos j o A
  have hdis:=List.pairwise_iff_getElem.1 h.dis
  have hle:=List.pairwise_iff_getElem.1 hs
  have hmem:∀q∈l.take j,∃(i:Nat) (hi:i<l.length),i<j∧l[i]=q:=fun q hq=>by
   obtain⟨i,hi,e⟩:=List.mem_take_iff_getElem.1 hq
   exact⟨i,by omega,by omega,e⟩
  refine⟨fun e=>by rw[t] at e⊢;omega,fun e=>?_,by omega,by omega,fun hb q hq e=>?_⟩
  ·rw[t] at e
   refine⟨by omega,by omega,fun q hq=>?_⟩
   obtain⟨i,hi⟩:=List.mem_iff_getElem?.1 hq
   rw[List.getElem?_drop,List.getElem?_take] at hi
   by_cases hij:nx+i<j
   ·rw[if_pos hij] at hi
    have hq2:=hpos _ q hi
    have k1:=hle (nx+i) j (List.getElem?_eq_some_iff.1 hi).1 hk hij
    have k2:=(hdis (nx+i) j (List.getElem?_eq_some_iff.1 hi).1 hk hij).2
    rw[(List.getElem?_eq_some_iff.1 hi).2,(List.getElem?_eq_some_iff.1 A).2] at k1 k2
    have hrq:=h.rng q (List.mem_of_getElem? hi)
    have:=k2 (by omega)
    unfold Le at k1
    rw[bn_iff] at k1
    omega
   rw[if_neg hij] at hi;cases hi
  obtain⟨i,hi,hij,rfl⟩:=hmem q hq
  have:=(hdis i j hi hk hij).2
  rw[(List.getElem?_eq_some_iff.1 A).2] at this
  exact this (by omega) e
 ·have:=congrArg List.length hsp
  rw[List.length_append,hFl] at this;omega
 rw[List.pairwise_iff_getElem]
 intro i j hi B hij h1 h2 h3 h4
 have k1:=hpos i _ (List.getElem?_eq_getElem hi)
 have k2:=hpos j _ (List.getElem?_eq_getElem B)
 exact h.tr _ (List.getElem_mem hi) _ (List.getElem_mem B) h1 (by omega) h2 h4
theorem St.i64 {nx ny:Nat} {sx sy:Nat→Nat} {l:List Opn} (h:St nx ny sx sy l) (hx:nx≤100000) (hy:ny≤100000):∀o∈l,I64 o.a∧I64 o.b:=fun o A=>by
 have:=h.rng o A
 unfold I64;omega
theorem st_all (g:Nat→Int×ByteArray) (S:Nat→Bool):
  (∀(n:Node) (z:Nat) (q:Int),(∀(j:Nat) (m:Node) (r:Int) (k:Nat),(prN n z q)[j]?=some (m,r,k)→S k=true∧g k=(m.kind,m.text))→wN S g n z=[stN n])∧
  ∀(l:List Node) (z:Nat) (q:Int),(∀(j:Nat) (m:Node) (r:Int) (k:Nat),(prL l z q)[j]?=some (m,r,k)→S k=true∧g k=(m.kind,m.text))→wL S g l z=stL l:=by
 refine qN (fun n h z q hs=>?_) (fun z q _=>by rw[aE7,stL_nil]) (fun n r h1 h2 z q hs=>?_)
 ·have h0:=hs 0 n q z (by rw[rJ];rfl)
  rw[N7,if_pos h0.1,h0.2,E8,h (z+1) z fun j m r k A=>hs (j+1) m r k (by rw[rJ,List.getElem?_cons_succ];exact A)]
 rw[wH,vO,h1 z q fun j m r' k A=>hs j m r' k (by rw[pU,List.getElem?_append_left (List.getElem?_eq_some_iff.1 A).1];exact A),h2 _ q fun j m r' k A=>hs (aU n+j) m r' k (by rw[pU,List.getElem?_append_right (by rw[nD.1];omega),nD.1,Nat.add_sub_cancel_left];exact A)];rfl
theorem st_whole (b:Node) (S:Nat→Bool) (g:Nat→Int×ByteArray) (h:∀s,s<aU b→S s=true∧g s=kC (prN b 0 (-1)) s):wL S g [b] 0=[stN b]:=by
 rw[aE8]
 refine(st_all g S).1 b 0 (-1) fun j m r k A=>?_
 have hlt:=(List.getElem?_eq_some_iff.1 A).1
 rw[nD.1] at hlt
 obtain⟨a1,_⟩:=aC3.1 b 0 (-1) j m r k A
 rw[Nat.zero_add] at a1
 subst a1
 have:=h k hlt
 exact⟨this.1,by rw[this.2];unfold kC;rw[A]⟩
section
variable {a b:Node} {l:List Opn}
def pb (l:List Opn) (s:Nat):Int:=((l[s]?).map (·.b)).getD (-1)
theorem pb_at (B:Va a b l) {s:Nat} (h:s<aU a):l[s]?=some ⟨(s:Int),pb l s⟩:=by
 obtain⟨o,A⟩:=dD (l:=l) (k:=s) (by have:=B.len;omega)
 have h1:=(aC5 B.scr A).1 h
 unfold pb
 rw[A]
 obtain⟨x,y⟩:=o
 simp only at h1
 rw[h1];rfl
theorem pb_rng (A:Va a b l) {s:Nat} (h:s<aU a): -1≤pb l s∧pb l s<aU b:=by
 have:=A.st.1.rng _ (List.mem_of_getElem? (pb_at A h))
 simp only at this;omega
theorem pb_tr (A:Va a b l) {r s:Nat} (hs:s<aU a) (h:r<s) (h1:0≤pb l r) (h2:0≤pb l s):pb l r<pb l s∧(s<r+szp (prN a 0 (-1)) r↔pb l s<pb l r+szp (prN b 0 (-1)) (pb l r).toNat):=by
 have:=A.st.1.tr _ (List.mem_of_getElem? (pb_at A (show r<aU a by omega))) _ (List.mem_of_getElem? (pb_at A hs)) (by simp only;omega) (by simp only;omega) h1 h2
 simp only[Int.toNat_natCast] at this
 refine⟨this.1,?_⟩
 rw[←this.2];omega
theorem thB_pb (A:Va a b l) (t:Nat):thB l t=true↔∃s,s<aU a∧pb l s=(t:Int):=by
 rw[thB_iff]
 constructor
 ·rintro⟨q,hq,h0,e⟩
  obtain⟨j,B⟩:=List.mem_iff_getElem?.1 hq
  have hjn:j<aU a:=Nat.lt_of_not_le fun e=>by have:=(aC5 A.scr B).2 e;omega
  refine⟨j,hjn,?_⟩
  have:=pb_at A hjn
  rw[B] at this
  have:=congrArg Opn.b (Option.some.inj this)
  simp only at this
  omega
 rintro⟨s,hs,e⟩
 exact⟨_,List.mem_of_getElem? (pb_at A hs),by simp only;omega,e⟩
def gk (a b:Node) (l:List Opn) (i s:Nat):Int×ByteArray:=if s<i∧0≤pb l s then kC (prN b 0 (-1)) (pb l s).toNat else kC (prN a 0 (-1)) s
def tt (_:Nat):Bool:=true
theorem lab_step (hV:Va a b l) {i:Nat} (hi:i<aU a):rn (wL tt (gk a b l i) [a] 0) (yH (prN a 0 (-1)) (prN b 0 (-1)) ⟨(i:Int),pb l i⟩).toList=some (wL tt (gk a b l (i+1)) [a] 0):=by
 have hne:∀s,s≠i→gk a b l (i+1) s=gk a b l i s:=fun s hs=>by
  unfold gk
  by_cases h:s<i∧0≤pb l s
  ·rw[if_pos h,if_pos (by omega)]
  rw[if_neg h,if_neg (by omega)]
 have hgi:gk a b l i i=kC (prN a 0 (-1)) i:=by unfold gk;rw[if_neg (by omega)]
 have hsame:gk a b l (i+1) i=gk a b l i i→wL tt (gk a b l (i+1)) [a] 0=wL tt (gk a b l i) [a] 0:=fun e=>yJ.2 [a] 0 fun s _ _=>⟨O,by
  by_cases hs:s=i
  ·rw[hs,e]
  exact hne s hs⟩
 unfold yH
 simp only[Int.toNat_natCast]
 by_cases h:0≤(i:Int)∧0≤pb l i∧kC (prN a 0 (-1)) i≠kC (prN b 0 (-1)) (pb l i).toNat
 ·rw[if_pos h]
  obtain⟨m,e1,_⟩:=at_Q a i hi
  obtain⟨n1,n2⟩:=(w_rp (S:=tt) (S':=tt) (g:=gk a b l i) (g':=gk a b l (i+1))).1 a 0 (-1) i m _ i e1 O fun s hs=>⟨O,hne s (by have:=fO m;omega)⟩
  rw[Nat.sub_zero,cS_all (S:=tt) 0 i fun s _ _=>rfl] at n1 n2
  refine rn_one ?_
  rw[aE8,aE8]
  unfold chg1
  rw[if_pos (by simp[fieldsB]),if_neg (by simp only;omega),if_neg (by simp only;omega)]
  simp only[Int.toNat_natCast]
  rw[n1]
  simp only
  rw[if_pos (by simp[okN]),n2]
  have hg':gk a b l (i+1) i=kC (prN b 0 (-1)) (pb l i).toNat:=by unfold gk;rw[if_pos ⟨by omega,h.2.1⟩]
  unfold chF
  rw[if_pos rfl,N7,if_pos (show tt i=true from rfl),yJ.2 m.kids (i+1) fun s h1 h2=>⟨rfl,hne s (by omega)⟩,hg']
 rw[if_neg h,hsame ?_]
 ·rfl
 rw[hgi]
 unfold gk
 by_cases h0:0≤pb l i
 ·rw[if_pos ⟨by omega,h0⟩]
  exact(Classical.byContradiction fun e=>h ⟨by omega,h0,fun e2=>e e2.symm⟩)
 rw[if_neg (by omega)]
theorem labs_run (A:Va a b l):∀i,i≤aU a→rn (wL tt (gk a b l 0) [a] 0) ((l.take i).filterMap (yH (prN a 0 (-1)) (prN b 0 (-1))))=some (wL tt (gk a b l i) [a] 0)
 |0,_=>rfl
 |i+1,h=>by
  rw[mO _ (pb_at A (show i<aU a by omega)),rn_app,labs_run A i (by omega)]
  exact lab_step A (by omega)
def Dk (l:List Opn) (j s:Nat):Bool:= !(decide (j≤s)&&decide (pb l s<0))
theorem del_step (hV:Va a b l) (g:Nat→Int×ByteArray) {i:Nat} (hi:i<aU a):rn (wL (Dk l (i+1)) g [a] 0) (O1 ⟨(i:Int),pb l i⟩).toList=some (wL (Dk l i) g [a] 0):=by
 have hne:∀s,s≠i→Dk l i s=Dk l (i+1) s:=fun s hs=>by
  unfold Dk
  congr 2
  rw[decide_eq_decide];omega
 have hSi:Dk l (i+1) i=true:=by unfold Dk;rw[decide_eq_false (by omega)];rfl
 unfold O1
 simp only
 by_cases h:pb l i<0
 ·rw[if_pos h]
  have hSi':Dk l i i=false:=by unfold Dk;rw[decide_eq_true (by omega),decide_eq_true h];rfl
  obtain⟨m,e1,_⟩:=at_Q a i hi
  obtain⟨n1,n2⟩:=(w_rp (S:=Dk l (i+1)) (S':=Dk l i) (g:=g) (g':=g)).1 a 0 (-1) i m _ i e1 hSi fun s hs=>⟨hne s (by have:=fO m;omega),O⟩
  rw[Nat.sub_zero,cS_all 0 i fun s h1 h2=>by unfold Dk;rw[decide_eq_false (by omega)];rfl] at n1 n2
  refine rn_one ?_
  rw[aE8,aE8]
  unfold chg1
  rw[if_pos (by simp[fieldsB]),if_neg (by simp only;omega),if_neg (by simp only;omega)]
  simp only[Int.toNat_natCast]
  rw[n1]
  simp only
  rw[if_pos (by simp[okN]),n2]
  unfold chF
  rw[if_neg (by simp),if_pos rfl,N7,hSi',if_neg (by simp),yJ.2 m.kids (i+1) fun s h1 h2=>⟨hne s (by omega),rfl⟩]
 rw[if_neg h,←(yJ (S:=Dk l (i+1)) (S':=Dk l i)).2 [a] 0 fun s _ _=>⟨?_,rfl⟩]
 ·rfl
 by_cases hs:s=i
 ·subst hs
  rw[hSi];unfold Dk;rw[decide_eq_false h,Bool.and_false];rfl
 exact hne s hs
theorem dels_run (A:Va a b l) (g:Nat→Int×ByteArray):∀i,i≤aU a→rn (wL (Dk l i) g [a] 0) ((l.take i).filterMap O1).reverse=some (wL (Dk l 0) g [a] 0)
 |0,_=>rfl
 |i+1,h=>by
  have e:∀o:Option Chg,o.toList.reverse=o.toList:=fun o=>by cases o<;>rfl
  rw[mO _ (pb_at A (show i<aU a by omega)),List.reverse_append,e,rn_app,del_step A g (by omega)]
  exact dels_run A g i (by omega)
theorem szp_of (a:Node) (q:Int) (j:Nat) (m:Node) (r:Int) (k:Nat) (h:(prL [a] 0 q)[j]?=some (m,r,k)):szp (prN a 0 (-1)) k=aU m:=by
 rw[pU,zS,List.append_nil] at h
 have e:=congrArg (fun l=>l[j]?) (pr_par.1 a 0 q (-1))
 simp only[List.getElem?_map,h,Option.map_some] at e
 cases h':(prN a 0 (-1))[j]? with
 |none=>rw[h'] at e;cases e
 |some x=>
  obtain⟨m',r',k'⟩:=x
  rw[h'] at e
  simp only[Option.map_some,Option.some.injEq,Prod.mk.injEq] at e
  obtain⟨rfl,rfl⟩:=e
  obtain⟨a1,_⟩:=aC3.1 a 0 (-1) j m r' k h'
  rw[Nat.zero_add] at a1
  subst a1
  unfold szp;rw[h']
theorem rise_map (A:Va a b l) (p q:Nat→Bool) (n n':Nat) (hn:n≤aU a) (h1:∀s,s<n→p s=true→0≤pb l s) (h2:∀s,s<n→p s=true→(pb l s).toNat<n'∧q (pb l s).toNat=true) (h3:∀t,t<n'→q t=true→∃s,s<n∧p s=true∧pb l s=t):
  (List.range' 0 n').filter q=((List.range' 0 n).filter p).map fun s=>(pb l s).toNat:=by
 refine aE4 (r:=fun a b:Nat=>a<b) (fun a=>Nat.lt_irrefl a) (fun a b c=>Nat.lt_trans) ?_ ?_ fun t=>?_
 ·rw[←List.range_eq_range']
  exact List.Pairwise.filter _ List.pairwise_lt_range
 ·rw[List.pairwise_map,←List.range_eq_range']
  refine(List.Pairwise.and_mem.1 (List.Pairwise.filter p (List.pairwise_lt_range (n:=n)))).imp fun{r s} k=>?_
  have k1:=List.mem_filter.1 k.1
  have k2:=List.mem_filter.1 k.2.1
  have m1:=List.mem_range.1 k1.1
  have m2:=List.mem_range.1 k2.1
  have:=(pb_tr A (show s<aU a by omega) k.2.2 (h1 r m1 k1.2) (h1 s m2 k2.2)).1
  have:=h1 r m1 k1.2
  omega
 rw[List.mem_filter,List.mem_map,List.mem_range'_1]
 constructor
 ·rintro⟨a1,a2⟩
  obtain⟨s,b1,b2,b3⟩:=h3 t (by omega) a2
  exact⟨s,by rw[List.mem_filter,List.mem_range'_1];exact⟨by omega,b2⟩,by omega⟩
 rintro⟨s,hs,rfl⟩
 rw[List.mem_filter,List.mem_range'_1] at hs
 have:=h2 s (by omega) hs.2
 exact⟨by omega,this.2⟩
theorem Dk0 (s:Nat):Dk l 0 s=true↔0≤pb l s:=by
 unfold Dk
 rw[decide_eq_true (Nat.zero_le s),Bool.true_and,Bool.not_eq_true',decide_eq_false_iff_not];omega
theorem Sk0 (t:Nat):Sk l 0 t=thB l t:=by unfold Sk;rw[decide_eq_false (by omega),Bool.false_or]
theorem left_there (A:Va a b l):wL (Dk l 0) (gk a b l (aU a)) [a] 0=wL (Sk l 0) (kC (prN b 0 (-1))) [b] 0:=by
 have h:=dp_inj (wL (Dk l 0) (gk a b l (aU a)) [a] 0) (wL (Sk l 0) (kC (prN b 0 (-1))) [b] 0) 0 ?_
 ·rwa [bare_w.2,bare_w.2] at h
 rw[(dp_w _ _ (szp (prN a 0 (-1)))).2 [a] 0 0 (szp_of a),(dp_w _ _ (szp (prN b 0 (-1)))).2 [b] 0 0 (szp_of b)]
 have ca:dQ [a]=aU a:=by rw[dW,yG,Nat.add_zero]
 have cb:dQ [b]=aU b:=by rw[dW,yG,Nat.add_zero]
 have hth:∀t,Sk l 0 t=true→∃s,s<aU a∧Dk l 0 s=true∧pb l s=t:=fun t ht=>by
  rw[Sk0,thB_pb A] at ht
  obtain⟨s,h1,h2⟩:=ht
  exact⟨s,h1,(Dk0 s).2 (by omega),h2⟩
 have hht:∀s,s<aU a→Dk l 0 s=true→(pb l s).toNat<aU b∧Sk l 0 (pb l s).toNat=true:=fun s hs hd=>by
  have h0:=(Dk0 s).1 hd
  have h1:=pb_rng A hs
  exact⟨by omega,by rw[Sk0,thB_pb A];exact⟨s,hs,by omega⟩⟩
 rw[ca,cb,rise_map A (Dk l 0) (Sk l 0) (aU a) (aU b) (Nat.le_refl _) (fun s _ h=>(Dk0 s).1 h) hht (fun t _ h=>hth t h),List.map_map]
 refine List.map_congr_left fun s hs=>?_
 rw[List.mem_filter,List.mem_range'_1] at hs
 have hsa:s<aU a:=by omega
 have h0:=(Dk0 s).1 hs.2
 simp only[Function.comp,Nat.zero_add]
 congr 1
 ·unfold gk;rw[if_pos ⟨hsa,h0⟩]
 unfold aS
 rw[Nat.sub_zero,Nat.sub_zero,List.countP_eq_length_filter,List.countP_eq_length_filter]
 rw[rise_map A (fun r=>Dk l 0 r&&decide (s<r+szp (prN a 0 (-1)) r)) (fun r=>Sk l 0 r&&decide ((pb l s).toNat<r+szp (prN b 0 (-1)) r)) s (pb l s).toNat (by omega) (fun r _ h=>?_) (fun r hr h=>?_) (fun t ht h=>?_),List.length_map]
 ·rw[Bool.and_eq_true] at h;exact(Dk0 r).1 h.1
 ·rw[Bool.and_eq_true,decide_eq_true_eq] at h
  have h1:=(Dk0 r).1 h.1
  have h2:=pb_tr A hsa hr h1 h0
  have h3:=h2.2.1 h.2
  refine⟨by omega,?_⟩
  rw[Bool.and_eq_true,decide_eq_true_eq]
  exact⟨(hht r (by omega) h.1).2,by omega⟩
 rw[Bool.and_eq_true,decide_eq_true_eq] at h
 obtain⟨r,h1,h2,h3⟩:=hth t h.1
 have h4:=(Dk0 r).1 h2
 have hrs:r<s:=by
  rcases Nat.lt_trichotomy r s with e|e|e
  ·exact e
  ·subst e;omega
  have:=(pb_tr A h1 e h0 h4).1;omega
 have h5:=pb_tr A hsa hrs h4 h0
 refine⟨r,hrs,?_,h3⟩
 rw[Bool.and_eq_true,decide_eq_true_eq]
 refine⟨h2,h5.2.2 ?_⟩
 have:(pb l r).toNat=t:=by omega
 rw[this];omega
theorem inss_run (A:Va a b l):∀k,k≤aU b→rn (wL (Sk l 0) (kC (prN b 0 (-1))) [b] 0) (insL (prN b 0 (-1)) l ((List.range k).filter fun s=> !thB l s))=some (wL (Sk l k) (kC (prN b 0 (-1))) [b] 0)
 |0,_=>rfl
 |k+1,h=>by
  have hQ:=nD.1 b 0 (-1)
  have e:insL (prN b 0 (-1)) l ((List.range (k+1)).filter fun s=> !thB l s)=insL (prN b 0 (-1)) l ((List.range k).filter fun s=> !thB l s)++if thB l k=true then [] else [H8 (prN b 0 (-1)) (TK l (aU b) k) k]:=by
   unfold insL
   rw[List.range_succ,List.filter_append,List.map_append,hQ]
   congr 1
   cases hk:thB l k<;>simp[hk]
  rw[e,rn_app,inss_run A k (by omega),bsm]
  cases hk:thB l k with
  |true=>
   rw[if_pos rfl,←(yJ (S:=Sk l k) (S':=Sk l (k+1))).2 [b] 0 fun s _ _=>⟨?_,rfl⟩]
   ·rfl
   by_cases hs:s=k
   ·subst hs;unfold Sk;rw[hk,Bool.or_true,Bool.or_true]
   exact aD4 hs
  |false=>
   rw[if_neg (by simp)]
   exact rn_one (ins_step b l k (by omega) hk)
theorem changes_run (A:Va a b l):rn [stN a] (chgL (prN a 0 (-1)) (prN b 0 (-1)) l)=some [stN b]:=by
 obtain⟨d1,d2⟩:=drop_fm A (prN a 0 (-1)) (prN b 0 (-1))
 have h0: [stN a]=wL tt (gk a b l 0) [a] 0:=(st_whole a tt (gk a b l 0) fun s _=>⟨O,by unfold gk;rw[if_neg (by omega)]⟩).symm
 have h1:wL tt (gk a b l (aU a)) [a] 0=wL (Dk l (aU a)) (gk a b l (aU a)) [a] 0:=yJ.2 [a] 0 fun s _ hs=>⟨by
  rw[dW,yG] at hs
  unfold Dk tt;rw[decide_eq_false (by omega)];rfl,O⟩
 have h2: [stN b]=wL (Sk l (aU b)) (kC (prN b 0 (-1))) [b] 0:=(st_whole b _ _ fun s hs=>⟨by unfold Sk;rw[decide_eq_true hs];rfl,O⟩).symm
 unfold chgL
 rw[rn_app,rn_app,d1,d2,h0,labs_run A (aU a) (Nat.le_refl _),bsm,h1,dels_run A _ (aU a) (Nat.le_refl _),bsm,left_there A,nD.1,inss_run A (aU b) (Nat.le_refl _),h2]
theorem chg_node (E:Va a b l) (ha:aU a≤100000) (hb:aU b≤100000):∀c∈chgL (prN a 0 (-1)) (prN b 0 (-1)) l,I64 c.node:=fun c A=>by
 have C:=E.st.1.i64 ha hb
 unfold chgL at A
 rcases List.mem_append.1 A with A|A
 ·rcases List.mem_append.1 A with A|A
  ·obtain⟨o,B,e⟩:=List.mem_filterMap.1 A
   unfold yH at e
   split at e
   ·cases e;exact(C o B).1
   cases e
  obtain⟨o,B,e⟩:=List.mem_filterMap.1 (List.mem_reverse.1 A)
  unfold O1 at e
  split at e
  ·cases e;exact(C o B).1
  cases e
 unfold insL at A
 obtain⟨k,hk,rfl⟩:=List.mem_map.1 A
 rw[List.mem_filter,List.mem_range,nD.1] at hk
 obtain⟨_,_,h1,h2,_⟩:=at_Q b k hk.1
 unfold H8 I64
 simp only;omega
theorem chg_cost (B:Va a b l):(chgL (prN a 0 (-1)) (prN b 0 (-1)) l).length=cstO a b l:=by
 have hn:∀o∈l,0≤o.a∨0≤o.b:=fun o C=>(B.st.1.rng o C).2.2.2.2
 have hins:((List.range (prN b 0 (-1)).length).filter fun s=> !thB l s).length=(l.filter fun q=>decide (q.a<0)).length:=by
  rw[nD.1,←ins_eq B,List.length_map]
 unfold chgL cstO
 rw[List.length_append,List.length_append,List.length_reverse,insL,List.length_map,hins]
 clear hins
 have:∀m:List Opn,(∀o∈m,0≤o.a∨0≤o.b)→(m.filterMap (yH (prN a 0 (-1)) (prN b 0 (-1)))).length+(m.filterMap O1).length+(m.filter fun q=>decide (q.a<0)).length=m.countP (ctO (prN a 0 (-1)) (prN b 0 (-1))):=by
  intro m
  induction m with
  |nil=>intro _;rfl
  |cons o m ih=>
   intro A
   have h:=A o (List.mem_cons_self ..)
   rw[List.countP_cons,←ih fun q hq=>A q (List.mem_cons_of_mem _ hq)]
   by_cases h1:o.a<0
   ·have l1:yH (prN a 0 (-1)) (prN b 0 (-1)) o=none:=by unfold yH;rw[if_neg (by omega)]
    have l2:O1 o=none:=by unfold O1;rw[if_neg (by omega)]
    have l3:ctO (prN a 0 (-1)) (prN b 0 (-1)) o=true:=by unfold ctO;rw[decide_eq_true h1];rfl
    rw[List.filterMap_cons_none l1,List.filterMap_cons_none l2,List.filter_cons_of_pos (by simpa using h1),l3,if_pos rfl,List.length_cons];omega
   by_cases h2:o.b<0
   ·have l1:yH (prN a 0 (-1)) (prN b 0 (-1)) o=none:=by unfold yH;rw[if_neg (by omega)]
    have l2:O1 o=some ⟨1,o.a,0,0,0,ByteArray.empty⟩:=by unfold O1;rw[if_pos h2]
    have l3:ctO (prN a 0 (-1)) (prN b 0 (-1)) o=true:=by unfold ctO;rw[decide_eq_true h2,Bool.or_true];rfl
    rw[List.filterMap_cons_none l1,List.filterMap_cons_some l2,List.filter_cons_of_neg (by simpa using h1),l3,if_pos rfl,List.length_cons];omega
   have l2:O1 o=none:=by unfold O1;rw[if_neg h2]
   have l3:ctO (prN a 0 (-1)) (prN b 0 (-1)) o= !decide (kC (prN a 0 (-1)) o.a.toNat=kC (prN b 0 (-1)) o.b.toNat):=by unfold ctO;rw[decide_eq_false h1,decide_eq_false h2];rfl
   rw[List.filterMap_cons_none l2,List.filter_cons_of_neg (by simpa using h1),l3]
   by_cases h3:kC (prN a 0 (-1)) o.a.toNat=kC (prN b 0 (-1)) o.b.toNat
   ·have l1:yH (prN a 0 (-1)) (prN b 0 (-1)) o=none:=by unfold yH;rw[if_neg (by simp[h3])]
    rw[List.filterMap_cons_none l1,decide_eq_true h3,if_neg (by simp)];omega
   have l1:yH (prN a 0 (-1)) (prN b 0 (-1)) o=some ⟨0,o.a,0,0,(kC (prN b 0 (-1)) o.b.toNat).1,(kC (prN b 0 (-1)) o.b.toNat).2⟩:=by unfold yH;rw[if_pos ⟨by omega,by omega,h3⟩]
   rw[List.filterMap_cons_some l1,decide_eq_false h3,if_pos (show(!false)=true from rfl),List.length_cons];omega
 exact this l hn
theorem changes_apply (A:Va a b l) (ha:aU a≤1000) (hb:aU b≤1000):∃us,aI1 [a] (chgL (prN a 0 (-1)) (prN b 0 (-1)) l)=some (us,0)∧stL us=stL [b]∧dQ us≤100000:=by
 have hr:=changes_run A
 rw[←stL_one a,rn_st] at hr
 cases hu:rn [a] (chgL (prN a 0 (-1)) (prN b 0 (-1)) l) with
 |none=>rw[hu] at hr;cases hr
 |some us=>
  rw[hu,Option.map_some] at hr
  have hlen:=aJ0 A.scr
  have hc:cstO a b l≤l.length:=List.countP_le_length
  have hcl:=chg_cost A
  have ca:dQ [a]=aU a:=by rw[dW,yG,Nat.add_zero]
  obtain⟨h1,h2⟩:=rn_chgs _ [a] us (chg_node A (by omega) (by omega)) (by omega) hu
  refine⟨us,?_,by rw[stL_one];exact Option.some.inj hr,by omega⟩
  unfold aI1
  rw[if_pos ⟨by omega,by omega⟩,h1]
end
inductive Tr where
 |node (l:Lbl) (ks:List Tr)
mutual
def szT:Tr→Nat
 | .node _ ks=>szL ks+1
def szL:List Tr→Nat
 | []=>0
 |t::ts=>szT t+szL ts
end
theorem wG:∀(F G:List Tr),szL (F++G)=szL F+szL G
 | [],G=>by simp[szL]
 |t::F,G=>by simp[szL,wG F G];omega
def rl (a b:Lbl):Nat:=if a=b then 0 else 1
theorem rl_le (a b:Lbl):rl a b≤1:=by unfold rl;split<;>omega
def fd:List Tr→List Tr→Nat
 | [],[]=>0
 | .node a ks::F,[]=>fd (ks++F) []+1
 | [],.node b ls::G=>fd [] (ls++G)+1
 | .node a ks::F,.node b ls::G=>min (fd (ks++F) (.node b ls::G)+1) (min (fd (.node a ks::F) (ls++G)+1) (fd F G+fd ks ls+rl a b))
termination_by F G=>szL F+szL G
decreasing_by all_goals (simp only[szL,szT,wG];omega)
theorem fd_nil:fd [] []=0:=by rw[fd]
theorem fd_l (a:Lbl) (ks F:List Tr):fd (.node a ks::F) []=fd (ks++F) []+1:=by rw[fd]
theorem fd_r (b:Lbl) (ls G:List Tr):fd [] (.node b ls::G)=fd [] (ls++G)+1:=by rw[fd]
theorem fd_c (a b:Lbl) (ks F ls G:List Tr):fd (.node a ks::F) (.node b ls::G)=min (fd (ks++F) (.node b ls::G)+1) (min (fd (.node a ks::F) (ls++G)+1) (fd F G+fd ks ls+rl a b)):=by rw[fd]
theorem fd_del (a:Lbl) (ks F G:List Tr):fd (.node a ks::F) G≤fd (ks++F) G+1:=by
 cases G with
 |nil=>rw[fd_l];exact Nat.le_refl _
 |cons g G=>obtain⟨b,ls⟩:=g;rw[fd_c];exact Nat.min_le_left _ _
theorem fd_ins (b:Lbl) (ls F G:List Tr):fd F (.node b ls::G)≤fd F (ls++G)+1:=by
 cases F with
 |nil=>rw[fd_r];exact Nat.le_refl _
 |cons f F=>obtain⟨a,ks⟩:=f;rw[fd_c];exact Nat.le_trans (Nat.min_le_right _ _) (Nat.min_le_left _ _)
theorem fd_match (a b:Lbl) (ks F ls G:List Tr):fd (.node a ks::F) (.node b ls::G)≤fd F G+fd ks ls+rl a b:=by
 rw[fd_c];exact Nat.le_trans (Nat.min_le_right _ _) (Nat.min_le_right _ _)
theorem fd_cases (a b:Lbl) (ks F ls G:List Tr):fd (.node a ks::F) (.node b ls::G)=fd (ks++F) (.node b ls::G)+1∨fd (.node a ks::F) (.node b ls::G)=fd (.node a ks::F) (ls++G)+1∨fd (.node a ks::F) (.node b ls::G)=fd F G+fd ks ls+rl a b:=by
 rw[fd_c (a:=a)]
 omega
theorem fd_l0:∀F,fd F []=szL F
 | []=>by rw[fd_nil];rfl
 | .node a ks::F=>by
  rw[fd_l,fd_l0 (ks++F),wG];simp only[szL,szT];omega
termination_by F=>szL F
decreasing_by simp only[szL,szT,wG];omega
theorem fd_r0:∀G,fd [] G=szL G
 | []=>by rw[fd_nil];rfl
 | .node a ks::F=>by
  rw[fd_r,fd_r0 (ks++F),wG];simp only[szL,szT];omega
termination_by F=>szL F
decreasing_by simp only[szL,szT,wG];omega
theorem aE1 (A B F G:List Tr):fd (A++F) (B++G)≤fd A B+fd F G:=by
 match A,B with
 | [],[]=>simp[fd_nil]
 | .node a ks::A,[]=>
  have h:=aE1 (ks++A) [] F G
  have h2:=fd_del a ks (A++F) G
  rw[fd_l]
  simp only[List.append_assoc,List.nil_append,List.cons_append] at h h2⊢
  omega
 | [],.node b ls::B=>
  have h:=aE1 [] (ls++B) F G
  have h2:=fd_ins b ls F (B++G)
  rw[fd_r]
  simp only[List.append_assoc,List.nil_append,List.cons_append] at h h2⊢
  omega
 | .node a ks::A,.node b ls::B=>
  rcases fd_cases a b ks A ls B with h|h|h
  ·have h1:=aE1 (ks++A) (.node b ls::B) F G
   have h2:=fd_del a ks (A++F) (.node b ls::B++G)
   simp only[List.append_assoc,List.cons_append] at h1 h2⊢
   omega
  ·have h1:=aE1 (.node a ks::A) (ls++B) F G
   have h2:=fd_ins b ls (.node a ks::A++F) (B++G)
   simp only[List.append_assoc,List.cons_append] at h1 h2⊢
   omega
  have h1:=aE1 A B F G
  have h2:=fd_match a b ks (A++F) ls (B++G)
  simp only[List.cons_append] at h2⊢
  omega
termination_by szL A+szL B
decreasing_by all_goals (simp only[szL,szT,wG];omega)
theorem fd_tab (a b:Lbl) (ks F ls G:List Tr):fd (.node a ks::F) (.node b ls::G)=min (fd (ks++F) (.node b ls::G)+1) (min (fd (.node a ks::F) (ls++G)+1) (fd F G+fd [.node a ks] [.node b ls])):=by
 have h1:=aE1 [.node a ks] [.node b ls] F G
 have h2:=fd_match a b ks [] ls []
 have h3:=fd_cases a b ks F ls G
 have h4:=fd_del a ks F (.node b ls::G)
 have h5:=fd_ins b ls (.node a ks::F) G
 rw[fd_nil] at h2
 simp only[List.cons_append,List.nil_append] at h1
 omega
def I4:Tr→List Tr
 | .node _ ks=>ks
def labT:Tr→Lbl
 | .node l _=>l
theorem J4 (t:Tr):szT t=szL (I4 t)+1:=by obtain⟨l,ks⟩:=t;rfl
theorem sW (t:Tr):0<szT t:=by rw[J4];omega
theorem P9 (t:Tr):szL [t]=szT t:=by simp[szL]
def rp:List Tr→List Tr
 | []=>[]
 | .node a ks::F=> .node a ks::rp (ks++F)
termination_by F=>szL F
decreasing_by simp only[szL,szT,wG];omega
theorem rp_nil:rp []=[]:=by rw[rp]
theorem rp_cons (t:Tr) (F:List Tr):rp (t::F)=t::rp (I4 t++F):=by obtain⟨a,ks⟩:=t;rw[rp];rfl
theorem rpt_app (F G:List Tr):rp (F++G)=rp F++rp G:=by
 match F with
 | []=>simp[rp_nil]
 |t::F=>
  have:=rpt_app (I4 t++F) G
  rw[List.cons_append,rp_cons,rp_cons,←List.append_assoc,this];rfl
termination_by szL F
decreasing_by simp only[szL,wG,J4];omega
theorem rp_len (F:List Tr):(rp F).length=szL F:=by
 match F with
 | []=>simp[rp_nil,szL]
 |t::F=>
  have:=rp_len (I4 t++F)
  rw[rp_cons,List.length_cons,this,wG];simp only[szL,J4];omega
termination_by szL F
decreasing_by simp only[szL,wG,J4];omega
def po (F:List Tr):List Tr:=(rp F).reverse
theorem po_nil:po []=[]:=by simp[po,rp_nil]
theorem po_app (F G:List Tr):po (F++G)=po G++po F:=by simp[po,rpt_app]
theorem O4 (F:List Tr):(po F).length=szL F:=by simp[po,rp_len]
theorem aI8 (t:Tr):po [t]=po (I4 t)++[t]:=by simp[po,rp_cons]
theorem po_cons (t:Tr) (F:List Tr):po (t::F)=po F++po [t]:=po_app [t] F
theorem vI (t:Tr):(po [t]).length=szT t:=by rw[O4,P9]
theorem pF (F:List Tr) {i:Nat} {t:Tr} (h:(po F)[i]?=some t):szT t≤i+1∧((po F).take (i+1)).drop (i+1-szT t)=po [t]:=by
 match F with
 | []=>simp[po_nil] at h
 |u::F=>
  have e:po (u::F)=po F++(po (I4 u)++[u]):=by rw[po_cons,aI8]
  rw[e] at h⊢
  have l1:=O4 F
  have l2:=O4 (I4 u)
  rcases Nat.lt_or_ge i (szL F) with h1|h1
  ·rw[List.getElem?_append_left (by omega)] at h
   have:=pF F h
   refine⟨this.1,?_⟩
   rw[List.take_append_of_le_length (by omega)]
   exact this.2
  rw[List.getElem?_append_right (by omega)] at h
  rw[List.take_append,List.take_of_length_le (by omega),l1]
  rcases Nat.lt_or_ge (i-szL F) (szL (I4 u)) with h2|h2
  ·rw[List.getElem?_append_left (by omega),l1] at h
   have:=pF (I4 u) h
   refine⟨by omega,?_⟩
   rw[List.drop_append,l1,List.drop_of_length_le (by omega),List.nil_append,List.take_append_of_le_length (by omega),←this.2]
   congr 1
   ·omega
   congr 1;omega
  have hi:i-szL F=szL (I4 u):=by
   have:=(List.getElem?_eq_some_iff.1 h).1
   simp only[List.length_append,l2,List.length_singleton] at this
   omega
  rw[l1,hi,List.getElem?_append_right (by omega),l2,Nat.sub_self] at h
  simp only[List.getElem?_cons_zero,Option.some.injEq] at h
  subst h
  have hs:=J4 u
  refine⟨by omega,?_⟩
  rw[List.take_of_length_le (by simp[l2];omega),show i+1-szT u=(po F).length by omega,List.drop_left,aI8]
termination_by szL F
decreasing_by all_goals (simp only[szL,J4];omega)
def cut:Nat→List Tr→List Tr
 |0,E=>E
 |_+1,[]=>[]
 |r+1,t::F=>cut r (I4 t++F)
theorem cut_nil:∀r,cut r []=[]
 |0=>rfl
 |_+1=>rfl
theorem rp_cut:∀(r:Nat) (E:List Tr),rp (cut r E)=(rp E).drop r
 |0,E=>rfl
 |r+1,[]=>by simp[cut,rp_nil]
 |r+1,t::F=>by rw[cut,rp_cut r,rp_cons,List.drop_succ_cons]
theorem cut_add:∀(r q:Nat) (E:List Tr),cut (r+q) E=cut q (cut r E)
 |0,q,E=>by rw[Nat.zero_add];rfl
 |r+1,q,[]=>by rw[cut_nil,cut_nil,cut_nil]
 |r+1,q,t::F=>by rw[show r+1+q=(r+q)+1 by omega,cut,cut,cut_add r q]
theorem cut_all (A F:List Tr):cut (szL A) (A++F)=F:=by
 match A with
 | []=>rfl
 |t::A=>
  have:=cut_all (I4 t++A) F
  rw[show szL (t::A)=szL (I4 t++A)+1 by simp only[szL,wG,J4];omega,List.cons_append,cut,←List.append_assoc,this]
termination_by szL A
decreasing_by simp only[szL,wG,J4];omega
def fr (t:Tr) (x:Nat):List Tr:=cut (szT t-x) [t]
theorem po_fr (t:Tr) {x:Nat} (h:x≤szT t):po (fr t x)=(po [t]).take x:=by
 unfold po fr
 rw[rp_cut,List.reverse_drop,rp_len,P9]
 congr 1;omega
theorem sz_fr (t:Tr) {x:Nat} (h:x≤szT t):szL (fr t x)=x:=by
 rw[←O4,po_fr t h,List.length_take,vI];omega
theorem fr_full (t:Tr):fr t (szT t)=[t]:=by unfold fr;rw[Nat.sub_self];rfl
theorem G7 (t:Tr):fr t 0=[]:=by
 unfold fr
 have:=cut_all [t] []
 rw[List.append_nil,P9] at this
 rw[Nat.sub_zero];exact this
theorem fr_succ (t:Tr) {x:Nat} (h:x<szT t) {u:Tr} (hu:(po [t])[x]?=some u):szT u≤x+1∧fr t (x+1)=u::fr t (x+1-szT u)∧fr t x=I4 u++fr t (x+1-szT u):=by
 have hsz:=sz_fr t (x:=x+1) (by omega)
 have hpo:=po_fr t (x:=x+1) (by omega)
 cases he:fr t (x+1) with
 |nil=>rw[he] at hsz;simp[szL] at hsz
 |cons v F=>
  rw[he] at hsz hpo
  have hv:v=u:=by
   rw[po_cons,aI8] at hpo
   have h1:=congrArg List.getLast? hpo
   rw[←List.append_assoc,List.getLast?_concat,List.getLast?_take] at h1
   rw[if_neg (by omega),show x+1-1=x by omega,hu] at h1
   simpa using h1
  subst hv
  simp only[szL] at hsz
  have hcut:cut (szT t-(x+1)) [t]=v::F:=he
  have hF:fr t (x+1-szT v)=F:=by
   unfold fr
   rw[show szT t-(x+1-szT v)=(szT t-(x+1))+szT v by omega,cut_add,hcut]
   have:=cut_all [v] F
   rw[P9] at this;exact this
  refine⟨by omega,by rw[hF],?_⟩
  rw[hF]
  unfold fr
  rw[show szT t-x=(szT t-(x+1))+1 by omega,cut_add,hcut]
  rfl
theorem fd_fr (t t':Tr) {x y:Nat} (A:x<szT t) (hy:y<szT t') {u u':Tr} (hu:(po [t])[x]?=some u) (hu':(po [t'])[y]?=some u'):
  fd (fr t (x+1)) (fr t' (y+1))=min (fd (fr t x) (fr t' (y+1))+1) (min (fd (fr t (x+1)) (fr t' y)+1) (if szT u=x+1∧szT u'=y+1 then fd (fr t x) (fr t' y)+rl (labT u) (labT u') else fd (fr t (x+1-szT u)) (fr t' (y+1-szT u'))+fd [u] [u'])):=by
 obtain⟨h1,h2,h3⟩:=fr_succ t A hu
 obtain⟨k1,k2,k3⟩:=fr_succ t' hy hu'
 split
 ·rename_i hh
  obtain⟨e1,e2⟩:=hh
  rw[e1,Nat.sub_self,G7] at h2 h3
  rw[e2,Nat.sub_self,G7] at k2 k3
  rw[h2,h3,k2,k3]
  obtain⟨a,ks⟩:=u
  obtain⟨b,ls⟩:=u'
  rw[fd_c,fd_nil,Nat.zero_add]
  simp only[I4,labT,List.append_nil]
 rw[h2,h3,k2,k3]
 obtain⟨a,ks⟩:=u
 obtain⟨b,ls⟩:=u'
 rw[fd_tab]
 rfl
theorem uG {σ β:Type} {body:σ→Option (Step σ β)} (I:Nat→σ→Prop) (Post:β→Prop):∀(n k:Nat) (s:σ),I k s→(∀j s,k≤j→j<k+n→I j s→∃s',body s=some (.next s')∧I (j+1) s')→(∀s,I (k+n) s→∃b,body s=some (.done b)∧Post b)→∃b,dZ body s=some b∧Post b
 |0,k,s,h0,_,h2=>by
  obtain⟨b,hb,A⟩:=h2 s h0
  exact⟨b,kD hb,A⟩
 |n+1,k,s,h0,h1,h2=>by
  obtain⟨s',hs,hi⟩:=h1 k s (Nat.le_refl _) (by omega) h0
  obtain⟨b,hb,A⟩:=uG I Post n (k+1) s' hi (fun j s hj hlt hij=>h1 j s (by omega) (by omega) hij) (fun s hs=>h2 s (by rw[show k+(n+1)=k+1+n by omega];exact hs))
  exact⟨b,by rw[vG hs];exact hb,A⟩
def at2 (D:List (List Int)) (s t:Nat):Option Int:=(D[s]?).bind fun r=>r[t]?
structure Dim (D:List (List Int)) (N M:Nat):Prop where
 rows:D.length=N
 cols:∀r∈D,r.length=M
section
variable {D:List (List Int)} {N M:Nat}
theorem Dim.get (h:Dim D N M) {s t:Nat} (hs:s<N) (ht:t<M):∃r v,D[s]?=some r∧r[t]?=some v∧at2 D s t=some v∧r.length=M:=by
 obtain⟨r,hr⟩:=dD (l:=D) (k:=s) (by rw[h.rows];exact hs)
 have A:=h.cols r (List.mem_of_getElem? hr)
 obtain⟨v,hv⟩:=dD (l:=r) (k:=t) (by rw[A];exact ht)
 exact⟨r,v,hr,hv,by unfold at2;rw[hr];exact hv,A⟩
theorem Dim.set (h:Dim D N M) {s t:Nat} {r:List Int} (hr:D[s]?=some r) (v:Int):Dim (D.set s (r.set t v)) N M:=by
 refine⟨by rw[List.length_set];exact h.rows,fun q hq=>?_⟩
 rcases List.mem_or_eq_of_mem_set hq with hq|rfl
 ·exact h.cols q hq
 rw[List.length_set];exact h.cols r (List.mem_of_getElem? hr)
theorem aA0 {s t:Nat} {r:List Int} (hr:D[s]?=some r) {v0:Int} (ht:r[t]?=some v0) (v:Int) (s' t':Nat):at2 (D.set s (r.set t v)) s' t'=if s'=s∧t'=t then some v else at2 D s' t':=by
 have hs:=(List.getElem?_eq_some_iff.1 hr).1
 have hlt:=(List.getElem?_eq_some_iff.1 ht).1
 unfold at2
 by_cases h1:s'=s
 ·subst h1
  rw[List.getElem?_set_self hs,hr]
  simp only[Option.bind_some,true_and]
  by_cases h2:t'=t
  ·subst h2;rw[if_pos rfl,List.getElem?_set_self hlt]
  rw[if_neg h2,List.getElem?_set_ne (fun e=>h2 e.symm)]
 rw[if_neg (fun e=>h1 e.1),List.getElem?_set_ne (fun e=>h1 e.symm)]
end
theorem table_m (N M:Nat) (hN:N≤4294967296) (hM:M≤4294967296):∃D,qB (N:Int) (M:Int)=some D∧Dim D N M∧∀s t,s<N→t<M→at2 D s t=some 0:=by
 unfold qB
 rw[mkc_ok (by omega)]
 simp only[Option.bind_some,Int.toNat_natCast]
 obtain⟨D,hD,C⟩:=uG (body:=fun s=>qL (M:Int) (List.replicate N ([]:List Int)) s.1 s.2) (fun k s=>s.1=(k:Int)∧s.2.length=N∧∀j,j<k→s.2[j]?=some (List.replicate M 0)) (fun D=>D.length=N∧∀j,j<N→D[j]?=some (List.replicate M 0)) N 0 (0,List.replicate N []) ⟨O,by simp,fun j A=>by omega⟩
  (by
   rintro k ⟨i,D⟩ _ hk ⟨e,B,A⟩
   simp only at e B A
   subst e
   obtain⟨r,hr⟩:=dD (l:=D) (k:=k) (by omega)
   refine⟨((k+1:Nat),D.set k (List.replicate M 0)),?_,O,by simp[B],fun j hjk=>?_⟩
   ·simp only[qL]
    rw[if_pos (by simp;omega),mkc_ok (by omega)]
    simp only[Option.bind_some,Int.toNat_natCast]
    rw[aZ hr]
    simp only[Option.bind_some]
    rw[fC (by omega)]
    rfl
   simp only
   by_cases h:j=k
   ·subst h;rw[List.getElem?_set_self (by omega)]
   rw[List.getElem?_set_ne (fun e=>h e.symm)];exact A j (by omega))
  (by
   rintro⟨i,D⟩ ⟨e,B,A⟩
   simp only at e B A
   subst e
   refine⟨D,?_,B,fun j h=>A j (by omega)⟩
   simp only[qL]
   rw[if_neg (by simp)])
 refine⟨D,by rw[hD];rfl,⟨C.1,fun r hr=>?_⟩,fun s t hs ht=>?_⟩
 ·obtain⟨j,A⟩:=List.getElem?_of_mem hr
  have hlt:=(List.getElem?_eq_some_iff.1 A).1
  rw[C.2 j (by omega)] at A
  rw[←Option.some.inj A];simp
 unfold at2
 rw[C.2 s hs]
 simp[ht]
end Go.Proofs.YtopnldfjcciieaaGreat
