/- The stable sort of a script: insertion sort and merges. -/
import Derived.Test.YtopnldfjcciieaaGreatKCo25
import Derived.Test.YtopnldfjcciieaaGreatKCo4
import Derived.Test.YtopnldfjcciieaaGreatKCo3
import Derived.Test.YtopnldfjcciieaaGreatKCo6
set_option linter.unusedVariables false
set_option linter.unusedSimpArgs false
namespace Go.Proofs.YtopnldfjcciieaaGreat
open Go.RowKit
theorem bss {α β:Type} (a:α) (f:α→Option β):(some a).bind f=f a:=rfl
def bfB (p q:Opn):Bool:=(decide (0≤p.a)&&(decide (q.a<0)||decide (p.a<q.a)))||(decide (p.a<0)&&decide (q.a<0)&&decide (p.b<q.b))
theorem Q9 (p q:Opn):bfB p q=true↔(0≤p.a∧(q.a<0∨p.a<q.a))∨(p.a<0∧q.a<0∧p.b<q.b):=by
 simp[bfB,and_assoc]
theorem Y2 (p q:Opn):bfB p q=false↔¬((0≤p.a∧(q.a<0∨p.a<q.a))∨(p.a<0∧q.a<0∧p.b<q.b)):=by
 rw[←Q9,Bool.not_eq_true]
theorem bf_le {p q:Opn} (h:bfB p q=true):bfB q p=false:=by rw[Q9] at h;rw[Y2];omega
theorem le_tr {p q r:Opn} (h1:bfB q p=false) (h2:bfB r q=false):bfB r p=false:=by rw[Y2] at*;omega
theorem le_lt {p q r:Opn} (h1:bfB q p=false) (h2:bfB q r=true):bfB p r=true:=by rw[Y2] at h1;rw[Q9] at*;omega
theorem lt_le {p q r:Opn} (h1:bfB p q=true) (h2:bfB r q=false):bfB p r=true:=by rw[Y2] at h2;rw[Q9] at*;omega
theorem cmp_m (p q:Opn):∃c,lW p q=some c∧decide (c<0)=bfB p q:=by
 have A:∀x y:Int,nV x y=some (if x<y then -1 else if y<x then 1 else 0):=fun x y=>by
  unfold nV sK
  simp only[bss,decide_true,Bool.not_true]
  rw[if_neg (by simp),if_neg (by simp)]
  by_cases h1:x<y
  ·rw[if_pos (by simpa using h1),if_pos h1]
  rw[if_neg (by simpa using h1),if_neg h1]
  by_cases h2:y<x
  ·rw[if_pos (by simpa using h2),if_pos h2]
  rw[if_neg (by simpa using h2),if_neg h2]
 have hd:∀x y:Int,decide ((if x<y then(-1:Int) else if y<x then 1 else 0)<0)=decide (x<y):=fun x y=>by
  by_cases h1:x<y
  ·rw[if_pos h1,decide_eq_true h1];rfl
  rw[if_neg h1,decide_eq_false h1]
  by_cases h2:y<x
  ·rw[if_pos h2];rfl
  rw[if_neg h2];rfl
 unfold lW
 by_cases h1:0≤p.a∧0≤q.a
 ·rw[if_pos (by simpa using h1),A,bss]
  refine⟨_,O,?_⟩
  rw[hd,Bool.eq_iff_iff,Q9,decide_eq_true_eq];omega
 rw[if_neg (by simpa using h1)]
 by_cases h2:p.a<0∧q.a<0
 ·rw[if_pos (by simpa using h2),A,bss]
  refine⟨_,O,?_⟩
  rw[hd,Bool.eq_iff_iff,Q9,decide_eq_true_eq];omega
 rw[if_neg (by simpa using h2)]
 by_cases h3:0≤p.a
 ·rw[if_pos (by simpa using h3)]
  exact⟨_,O,by rw[Bool.eq_iff_iff,Q9,decide_eq_true_eq];omega⟩
 rw[if_neg (by simpa using h3)]
 exact⟨_,O,by rw[Bool.eq_iff_iff,Q9,decide_eq_true_eq];omega⟩
def av (L:List Opn) (i:Nat):Opn:=(L[i]?).getD ⟨0,0⟩
theorem qL {L:List Opn} {i:Nat} (h:i<L.length):idx L (i:Int)=some (av L i):=by
 obtain⟨x,A⟩:=iV h
 rw[mM A];unfold av;rw[A];rfl
theorem av_set {L:List Opn} {i:Nat} {x:Opn} (t:Nat) (h:i<L.length):av (L.set i x) t=if i=t then x else av L t:=by
 unfold av
 rw[List.getElem?_set]
 by_cases e:i=t
 ·rw[if_pos e,if_pos e,if_pos h];rfl
 rw[if_neg e,if_neg e]
structure Rg (L L':List Opn) (a b:Nat):Prop where
 len:L'.length=L.length
 perm:L'.Perm L
 out:∀t,t<a∨b≤t→av L' t=av L t
 pres:∀P:Opn→Prop,(∀t,a≤t→t<b→P (av L t))→∀t,a≤t→t<b→P (av L' t)
theorem Rg.rfl' (L:List Opn) (a b:Nat):Rg L L a b:=⟨O,.refl _,fun _ _=>rfl,fun _ h=>h⟩
theorem Rg.tr {L L' L'':List Opn} {a b:Nat} (h1:Rg L L' a b) (h2:Rg L' L'' a b):Rg L L'' a b:=
 ⟨h2.len.trans h1.len,h2.perm.trans h1.perm,fun t h=>(h2.out t h).trans (h1.out t h),fun P h=>h2.pres P (h1.pres P h)⟩
theorem Rg.mono {L L':List Opn} {a b c d:Nat} (h:Rg L L' c d) (h1:a≤c) (h2:d≤b):Rg L L' a b:=
 ⟨h.len,h.perm,fun t ht=>h.out t (by omega),fun P A t h3 h4=>by
  by_cases ht:c≤t∧t<d
  ·exact h.pres P (fun s h5 h6=>A s (by omega) (by omega)) t ht.1 ht.2
  rw[h.out t (by omega)];exact A t h3 h4⟩
def swp (L:List Opn) (i j:Nat):List Opn:=(L.set i (av L j)).set j (av L i)
theorem swp_len (L:List Opn) (i j:Nat):(swp L i j).length=L.length:=by simp[swp]
theorem aA0 {L:List Opn} {i j:Nat} (hi:i<L.length) (A:j<L.length) (t:Nat):av (swp L i j) t=if j=t then av L i else if i=t then av L j else av L t:=by
 unfold swp
 rw[av_set t (by simpa using A),av_set t hi]
theorem swp_rg {L:List Opn} {a b i j:Nat} (h1:a≤i) (h2:i<b) (h3:a≤j) (h4:j<b) (hb:b≤L.length):Rg L (swp L i j) a b:=by
 refine⟨swp_len L i j,?_,fun t ht=>?_,fun P A t h5 h6=>?_⟩
 ·have:=List.set_set_perm (show i<L.length by omega) (show j<L.length by omega)
  unfold swp av
  rw[vA (by omega),vA (by omega)]
  exact this
 ·rw[aA0 (by omega) (by omega),if_neg (by omega),if_neg (by omega)]
 rw[aA0 (by omega) (by omega)]
 split
 ·exact A i h1 h2
 split
 ·exact A j h3 h4
 exact A t h5 h6
def Srt (L:List Opn) (a b:Nat):Prop:=∀s t,a≤s→s<t→t<b→bfB (av L t) (av L s)=false
theorem Srt.of {L L':List Opn} {a b:Nat} (h:Srt L a b) (e:∀t,a≤t→t<b→av L' t=av L t):Srt L' a b:=fun s t h1 h2 h3=>by
 rw[e s h1 (by omega),e t (by omega) h3];exact h s t h1 h2 h3
theorem swap_step {L:List Opn} {i j:Nat} (hi:i<L.length) (A:j<L.length) {β:Type} (f:Opn→Option β) (g:List Opn→Option β):((idx L (j:Int)).bind fun x=>(idx L (i:Int)).bind fun y=>(idx L (i:Int)).bind fun _=>(idx (L.set (i:Int).toNat x) (j:Int)).bind fun _=>g ((L.set (i:Int).toNat x).set (j:Int).toNat y))=g (swp L i j):=by
 rw[qL A,bss,qL hi,bss,bss,xD,qL (by simpa using A),bss,xD];rfl
theorem ins_inner (L0:List Opn) (a i:Nat) (hl:L0.length≤100000) (ha:a≤i) (hi:i<L0.length) (D:Srt L0 a i):
  ∃L,fH (fun s=>eY (a:Int) s.1 s.2) ((i:Int),L0)=some L∧Rg L0 L a (i+1)∧Srt L a (i+1):=by
 refine oP (body:=fun s=>eY (a:Int) s.1 s.2)
  (fun s=>∃j:Nat,s.1=(j:Int)∧a≤j∧j≤i∧Rg L0 s.2 a (i+1)∧(∀x y,a≤x→x<y→y≤i→x≠j→y≠j→bfB (av s.2 y) (av s.2 x)=false)∧(∀y,j<y→y≤i→bfB (av s.2 y) (av s.2 j)=false)) (fun s=>s.1.toNat)
  (fun L=>Rg L0 L a (i+1)∧Srt L a (i+1)) ?_ ((i:Int),L0) ⟨i,O,ha,yW _,Rg.rfl' _ _ _,fun x y h1 h2 h3 h4 h5=>D x y h1 h2 (by omega),fun y h1 h2=>by omega⟩
 rintro⟨_,L⟩ ⟨j,rfl,h1,h2,h3,h4,h5⟩
 simp only at h3 h4 h5
 have hL:=h3.len
 simp only[eY]
 by_cases B:a<j
 ·have e1:inK .i64 ((j:Int)-1)=some ((j-1:Nat):Int):=by rw[jM (by omega)];congr 1;omega
  obtain⟨c,C,hcb⟩:=cmp_m (av L j) (av L (j-1))
  rw[if_pos (by simpa using B),qL (by omega),bss,e1,bss,qL (by omega),bss,C,bss,bss,hcb]
  cases hb:bfB (av L j) (av L (j-1)) with
  |true=>
   rw[if_pos rfl,bss,bss]
   left
   refine⟨(((j-1:Nat):Int),swp L j (j-1)),?_,⟨j-1,O,by omega,by omega,h3.tr (swp_rg h1 (by omega) (by omega) (by omega) (by omega)),fun x y g1 g2 g3 g4 g5=>?_,fun y g1 g2=>?_⟩,by simp;omega⟩
   ·have:=swap_step (L:=L) (i:=j) (j:=j-1) (by omega) (by omega) (fun _=>none) (fun M=>(inK .i64 ((j:Int)-1)).bind fun A=>some (Step.next (β:=List Opn) (A,M)))
    rw[e1] at this
    rw[qL (by omega),bss,bss,bss,xD,qL (by simp;omega),bss,bss,xD];rfl
   ·simp only
    rw[aA0 (by omega) (by omega),aA0 (by omega) (by omega)]
    by_cases k1:j=y
    ·subst k1
     rw[if_neg (by omega),if_pos rfl,if_neg (by omega),if_neg (by omega)]
     exact h4 x (j-1) g1 (by omega) (by omega) (by omega) (by omega)
    rw[if_neg (by omega),if_neg k1,if_neg (by omega)]
    by_cases k2:j=x
    ·subst k2
     rw[if_pos rfl]
     exact h4 (j-1) y (by omega) (by omega) g3 (by omega) (by omega)
    rw[if_neg k2];exact h4 x y g1 g2 g3 (by omega) (by omega)
   simp only
   rw[aA0 (by omega) (by omega),aA0 (by omega) (by omega),if_neg (by omega),if_pos rfl]
   by_cases k1:j=y
   ·rw[if_pos k1];exact bf_le hb
   rw[if_neg k1];exact h5 y (by omega) g2
  |false=>
   rw[if_neg (by simp)]
   refine Or.inr ⟨L,O,h3,fun s t g1 g2 g3=>?_⟩
   by_cases k1:s=j
   ·subst k1;exact h5 t g2 (by omega)
   by_cases k2:t=j
   ·subst k2
    by_cases k3:s=t-1
    ·subst k3;exact hb
    exact le_tr (h4 s (t-1) g1 (by omega) (by omega) k1 (by omega)) hb
   exact h4 s t g1 g2 (by omega) k1 k2
 rw[if_neg (by simpa using B),bss,if_neg (by simp)]
 obtain rfl:j=a:=by omega
 refine Or.inr ⟨L,O,h3,fun s t g1 g2 g3=>?_⟩
 by_cases k1:s=j
 ·subst k1;exact h5 t g2 (by omega)
 exact h4 s t g1 g2 (by omega) k1 (by omega)
theorem insort_m (L0:List Opn) (a b:Nat) (hl:L0.length≤100000) (hb:b≤L0.length) (hab:a≤b):
  ∃L,eH L0 (a:Int) (b:Int)=some L∧Rg L0 L a b∧Srt L a b:=by
 unfold eH
 rw[iW (by omega),bss]
 obtain⟨L,h1,h2⟩:=oP (body:=fun s=>gJ (a:Int) (b:Int) s.1 s.2)
  (fun s=>∃i:Nat,s.1=(i:Int)∧a<i∧(i≤b∨i=a+1)∧Rg L0 s.2 a b∧(i≤b→Srt s.2 a i)) (fun s=>b-s.1.toNat) (fun L=>Rg L0 L a b∧Srt L a b) (by
  rintro⟨_,L⟩ ⟨i,rfl,g1,g2,g3,g4⟩
  simp only at g3 g4
  have hL:=g3.len
  simp only[gJ]
  by_cases hi:i<b
  ·obtain⟨L',e1,e2,e3⟩:=ins_inner L a i (by omega) (by omega) (by omega) (g4 (by omega))
   rw[if_pos (by simpa using hi),e1,bss,iW (by omega),bss]
   exact Or.inl ⟨_,O,⟨i+1,O,by omega,by omega,g3.tr (e2.mono (yW _) (by omega)),fun _=>e3⟩,by simp;omega⟩
  rw[if_neg (by simpa using hi)]
  refine Or.inr ⟨L,O,g3,?_⟩
  by_cases hib:i≤b
  ·obtain rfl:i=b:=by omega
   exact g4 hib
  intro s t h1 h2 h3;omega) (((a+1:Nat):Int),L0) ⟨a+1,rfl,by omega,Or.inr rfl,Rg.rfl' _ _ _,fun _ s t h1 h2 h3=>by omega⟩
 rw[h1]
 exact⟨L,O,h2⟩
def swI (a b n t:Nat):Nat:=if a≤t∧t<a+n then t-a+b else if b≤t∧t<b+n then t-b+a else t
def roI (a m b t:Nat):Nat:=if a≤t∧t<a+(b-m) then t+m-a else if a+(b-m)≤t∧t<b then t-(b-m) else t
theorem swr_m (L0:List Opn) (a b n:Nat) (hl:L0.length≤100000) (h1:a+n≤b) (h2:b+n≤L0.length):
  ∃L,eF L0 (a:Int) (b:Int) (n:Int)=some L∧Rg L0 L a (b+n)∧∀t,av L t=av L0 (swI a b n t):=by
 unfold eF
 obtain⟨L,e1,e2⟩:=oP (body:=fun s=>iE (a:Int) (b:Int) (n:Int) s.1 s.2)
  (fun s=>∃i:Nat,s.1=(i:Int)∧i≤n∧Rg L0 s.2 a (b+n)∧∀t,av s.2 t=av L0 (swI a b i t)) (fun s=>n-s.1.toNat)
  (fun L=>Rg L0 L a (b+n)∧∀t,av L t=av L0 (swI a b n t)) (by
  rintro⟨_,L⟩ ⟨i,rfl,g1,g2,g3⟩
  simp only at g2 g3
  have hL:=g2.len
  simp only[iE]
  by_cases hi:i<n
  ·have k1:inK .i64 ((a:Int)+i)=some ((a+i:Nat):Int):=by rw[jM (by omega)];rfl
   have k2:inK .i64 ((b:Int)+i)=some ((b+i:Nat):Int):=by rw[jM (by omega)];rfl
   rw[if_pos (by simpa using hi),k1,bss,k2,bss,bss,qL (by omega),bss,bss,qL (by omega),bss,bss,xD,qL (by simp;omega),bss,iW (by omega),bss,xD]
   left
   refine⟨(((i+1:Nat):Int),swp L (a+i) (b+i)),O,⟨i+1,O,by omega,g2.tr (swp_rg (by omega) (by omega) (by omega) (by omega) (by omega)),fun t=>?_⟩,by simp;omega⟩
   simp only
   rw[aA0 (by omega) (by omega),g3,g3,g3]
   have:swI a b (i+1) t=if b+i=t then swI a b i (a+i) else if a+i=t then swI a b i (b+i) else swI a b i t:=by
    simp only[swI]
    repeat' split
    all_goals omega
   rw[this]
   repeat' split
   all_goals rfl
  obtain rfl:i=n:=by omega
  rw[if_neg (by simp)]
  exact Or.inr ⟨L,O,g2,g3⟩) (0,L0) ⟨0,O,by omega,Rg.rfl' _ _ _,fun t=>by unfold swI;rw[if_neg (by omega),if_neg (by omega)]⟩
 rw[e1]
 exact⟨L,O,e2⟩
theorem rotate_m (L0:List Opn) (a m b:Nat) (hl:L0.length≤100000) (h1:a<m) (h2:m<b) (hb:b≤L0.length):
  ∃L,fU L0 (a:Int) (m:Int) (b:Int)=some L∧Rg L0 L a b∧∀t,av L t=av L0 (roI a m b t):=by
 unfold fU
 rw[jM (by omega),bss,jM (by omega),bss]
 obtain⟨⟨r,L⟩,e1,i,rfl,e2,e3,e4⟩:=oP (body:=fun s=>iL (m:Int) s.1 s.2.1 s.2.2)
  (fun s=>∃i j:Nat,s.1=(i:Int)∧s.2.1=(j:Int)∧0<i∧0<j∧a+i≤m∧m+j≤b∧Rg L0 s.2.2 a b∧∀t,av s.2.2 (roI (m-i) m (m+j) t)=av L0 (roI a m b t)) (fun s=>s.1.toNat+s.2.1.toNat)
  (fun r=>∃i:Nat,r.1=(i:Int)∧(0<i∧a+i≤m∧m+i≤b)∧Rg L0 r.2 a b∧∀t,av r.2 (roI (m-i) m (m+i) t)=av L0 (roI a m b t)) (by
  rintro⟨_,_,L⟩ ⟨i,j,rfl,rfl,g1,g2,g3,g4,g5,g6⟩
  simp only at g5 g6
  have A:=g5.len
  simp only[iL]
  by_cases hij:i=j
  ·subst hij
   rw[if_neg (by simp)]
   exact Or.inr ⟨_,O,i,O,⟨g1,g3,g4⟩,g5,g6⟩
  rw[if_pos (by simp;omega)]
  have c1:inK .i64 ((m:Int)-i)=some ((m-i:Nat):Int):=by rw[jM (by omega)];congr 1;omega
  by_cases hlt:j<i
  ·obtain⟨L',k1,k2,k3⟩:=swr_m L (m-i) m j (by omega) (by omega) (by omega)
   have c2:inK .i64 ((i:Int)-j)=some ((i-j:Nat):Int):=by rw[jM (by omega)];congr 1;omega
   rw[if_pos (by simpa using hlt),c1,bss,k1,bss,c2,bss]
   left
   refine⟨_,O,⟨i-j,j,O,O,by omega,g2,by omega,g4,g5.tr (k2.mono (by omega) (by omega)),fun t=>?_⟩,by simp;omega⟩
   simp only
   rw[←g6 t,k3]
   congr 1
   simp only[swI,roI]
   repeat' split
   all_goals omega
  obtain⟨L',k1,k2,k3⟩:=swr_m L (m-i) (m+j-i) i (by omega) (by omega) (by omega)
  have c2:inK .i64 ((m:Int)+j)=some ((m+j:Nat):Int):=by rw[jM (by omega)];rfl
  have c3:inK .i64 (((m+j:Nat):Int)-i)=some ((m+j-i:Nat):Int):=by rw[jM (by omega)];congr 1;omega
  have c4:inK .i64 ((j:Int)-i)=some ((j-i:Nat):Int):=by rw[jM (by omega)];congr 1;omega
  rw[if_neg (by simpa using hlt),c1,bss,c2,bss,c3,bss,k1,bss,c4,bss]
  left
  refine⟨_,O,⟨i,j-i,O,O,g1,by omega,g3,by omega,g5.tr (k2.mono (by omega) (by omega)),fun t=>?_⟩,by simp;omega⟩
  simp only
  rw[←g6 t,k3]
  congr 1
  simp only[swI,roI]
  repeat' split
  all_goals omega) ((m:Int)-a,(b:Int)-m,L0) ⟨m-a,b-m,by simp only;omega,by simp only;omega,by omega,by omega,by omega,by omega,Rg.rfl' _ _ _,fun t=>by rw[show m-(m-a)=a by omega,show m+(b-m)=b by omega]⟩
 have A:=e3.len
 simp only at A
 obtain⟨L',k1,k2,k3⟩:=swr_m L (m-i) m i (by omega) (by omega) (by omega)
 rw[e1,bss]
 simp only
 rw[jM (by omega),bss,show(m:Int)-i=((m-i:Nat):Int) by omega,k1,bss]
 refine⟨L',O,e3.tr (k2.mono (by omega) (by omega)),fun t=>?_⟩
 rw[←e4 t,k3]
 congr 1
 simp only[swI,roI]
 repeat' split
 all_goals omega
theorem half_m {β:Type} {i j:Nat} (h:i+j≤1000000) (f:Int→Option β):((inK .i64 ((i:Int)+j)).bind fun x=>(shrK .u64 (IntKind.wrap .u64 x) 1).bind fun y=>(inK .i64 y).bind f)=f (((i+j) / 2:Nat):Int):=by
 have e:IntKind.wrap .u64 ((i:Int)+j)=((i+j:Nat):Int):=by rw[IntKind.wrap_u64];omega
 have e2:shrK .u64 ((i+j:Nat):Int) 1=some (((i+j) / 2:Nat):Int):=by
  show some (((i+j:Nat):Int).fdiv 2)=_
  rw[Int.fdiv_eq_ediv_of_nonneg _ (by omega)];rfl
 rw[jM (by omega),bss,e,e2,bss,jM (by omega),bss]
theorem bsearch {body:Int×Int→Option (Step (Int×Int) Int)} (P:Nat→Bool) (lo hi:Nat) (h:lo≤hi)
  (h1:∀i j:Nat,lo≤i→i<j→j≤hi→body ((i:Int),(j:Int))=some (.next (if P ((i+j) / 2)=true then((((i+j) / 2+1:Nat):Int),(j:Int)) else((i:Int),(((i+j) / 2:Nat):Int)))))
  (h2:∀i:Nat,lo≤i→i≤hi→body ((i:Int),(i:Int))=some (.done (i:Int))):∃s:Nat,fH body ((lo:Int),(hi:Int))=some (s:Int)∧lo≤s∧s≤hi∧(s=lo∨P (s-1)=true)∧(s=hi∨P s=false):=by
 obtain⟨_,e,s,rfl,e2⟩:=oP (body:=body) (fun s=>∃i j:Nat,s=((i:Int),(j:Int))∧lo≤i∧i≤j∧j≤hi∧(i=lo∨P (i-1)=true)∧(j=hi∨P j=false)) (fun s=>s.2.toNat-s.1.toNat)
  (fun r=>∃s:Nat,r=(s:Int)∧lo≤s∧s≤hi∧(s=lo∨P (s-1)=true)∧(s=hi∨P s=false)) (by
  rintro _ ⟨i,j,rfl,g1,g2,g3,g4,g5⟩
  by_cases hij:i=j
  ·subst hij;exact Or.inr ⟨_,h2 i g1 g3,i,rfl,g1,g3,g4,g5⟩
  left
  refine⟨_,h1 i j g1 (by omega) g3,?_,?_⟩
  ·cases hP:P ((i+j) / 2) with
   |true=>rw[if_pos rfl];exact⟨_,_,rfl,by omega,by omega,g3,Or.inr (by rw[Nat.add_sub_cancel];exact hP),g5⟩
   |false=>rw[if_neg (by simp)];exact⟨_,_,rfl,g1,by omega,by omega,g4,Or.inr hP⟩
  cases P ((i+j) / 2) with
  |true=>rw[if_pos rfl];simp only[xD];omega
  |false=>rw[if_neg (by simp)];simp only[xD];omega) _ ⟨lo,hi,rfl,yW _,h,yW _,Or.inl rfl,Or.inl rfl⟩
 exact⟨s,e,e2⟩
def shU (a k t:Nat):Nat:=if a≤t∧t<k then t+1 else if t=k then a else t
def shD (m k t:Nat):Nat:=if k<t∧t≤m then t-1 else if t=k then m else t
theorem up_m (L0:List Opn) (a s:Nat) (hl:L0.length≤100000) (h1:a<s) (h2:s≤L0.length):
  ∃L,fH (fun x=>gK (s:Int) x.1 x.2) ((a:Int),L0)=some L∧Rg L0 L a s∧∀t,av L t=av L0 (shU a (s-1) t):=by
 refine oP (fun x=>∃k:Nat,x.1=(k:Int)∧a≤k∧k<s∧Rg L0 x.2 a s∧∀t,av x.2 t=av L0 (shU a k t)) (fun x=>s-x.1.toNat) _ ?_ _ ⟨a,O,yW _,h1,Rg.rfl' _ _ _,fun t=>by congr 1;unfold shU;(repeat' split)<;>omega⟩
 rintro⟨_,L⟩ ⟨k,rfl,g1,g2,g3,g4⟩
 simp only at g3 g4
 have hL:=g3.len
 simp only[gK]
 rw[jM (by omega),bss]
 by_cases hk:k+1<s
 ·rw[if_pos (by rw[decide_eq_true_eq];omega),iW (by omega),bss,bss,qL (by omega),bss,qL (by omega),bss,bss,xD,qL (by simp;omega),bss,bss,xD]
  left
  refine⟨(((k+1:Nat):Int),swp L k (k+1)),O,⟨k+1,O,by omega,hk,g3.tr (swp_rg g1 (by omega) (by omega) hk (by omega)),fun t=>?_⟩,by simp;omega⟩
  simp only
  rw[aA0 (by omega) (by omega),g4,g4,g4]
  have:shU a (k+1) t=if k+1=t then shU a k k else if k=t then shU a k (k+1) else shU a k t:=by
   unfold shU
   (repeat' split)<;>omega
  rw[this]
  repeat' split
  all_goals rfl
 rw[if_neg (by rw[decide_eq_true_eq];omega)]
 obtain rfl:k=s-1:=by omega
 exact Or.inr ⟨L,O,g3,g4⟩
theorem down_m (L0:List Opn) (m s:Nat) (hl:L0.length≤100000) (h1:s≤m) (h2:m<L0.length):
  ∃L,fH (fun x=>gQ (s:Int) x.1 x.2) ((m:Int),L0)=some L∧Rg L0 L s (m+1)∧∀t,av L t=av L0 (shD m s t):=by
 refine oP (fun x=>∃k:Nat,x.1=(k:Int)∧s≤k∧k≤m∧Rg L0 x.2 s (m+1)∧∀t,av x.2 t=av L0 (shD m k t)) (fun x=>x.1.toNat) _ ?_ _ ⟨m,O,h1,yW _,Rg.rfl' _ _ _,fun t=>by congr 1;unfold shD;(repeat' split)<;>omega⟩
 rintro⟨_,L⟩ ⟨k,rfl,g1,g2,g3,g4⟩
 simp only at g3 g4
 have hL:=g3.len
 simp only[gQ]
 by_cases hk:s<k
 ·have e1:inK .i64 ((k:Int)-1)=some ((k-1:Nat):Int):=by rw[jM (by omega)];congr 1;omega
  rw[if_pos (by rw[decide_eq_true_eq];omega),e1,bss,bss,qL (by omega),bss,qL (by omega),bss,bss,xD,qL (by simp;omega),bss,bss,xD]
  left
  refine⟨(((k-1:Nat):Int),swp L k (k-1)),O,⟨k-1,O,by omega,by omega,g3.tr (swp_rg g1 (by omega) (by omega) (by omega) (by omega)),fun t=>?_⟩,by simp;omega⟩
  simp only
  rw[aA0 (by omega) (by omega),g4,g4,g4]
  have:shD m (k-1) t=if k-1=t then shD m k k else if k=t then shD m k (k-1) else shD m k t:=by
   unfold shD
   (repeat' split)<;>omega
  rw[this]
  repeat' split
  all_goals rfl
 rw[if_neg (by rw[decide_eq_true_eq];omega)]
 obtain rfl:k=s:=by omega
 exact Or.inr ⟨L,O,g3,g4⟩
theorem sym_r:∀(f:Nat) (L:List Opn) (a m b:Nat),b-a<f→a<m→m<b→b≤L.length→L.length≤100000→Srt L a m→Srt L m b→
  ∃L',dP f L (a:Int) (m:Int) (b:Int)=some L'∧Rg L L' a b∧Srt L' a b:=by
 intro f
 induction f with
 |zero=>intro L a m b h;omega
 |succ f ih=>
  intro L a m b hf ham hmb hb F h1 h2
  unfold dP iF
  rw[jM (by omega),bss]
  by_cases hma:m=a+1
  ·subst hma
   rw[if_pos (by rw[decide_eq_true_eq];omega)]
   obtain⟨s,e,s1,s2,s3,s4⟩:=bsearch (body:=fun s=>fA L (a:Int) s.1 s.2) (fun t=>bfB (av L t) (av L a)) (a+1) b (by omega) (fun i j g1 g2 g3=>by
    simp only[fA]
    rw[if_pos (by simpa using g2),half_m (by omega),qL (by omega),bss,qL (by omega),bss]
    obtain⟨c,A,hcb⟩:=cmp_m (av L ((i+j) / 2)) (av L a)
    rw[A,bss,hcb]
    cases bfB (av L ((i+j) / 2)) (av L a) with
    |true=>rw[if_pos rfl,if_pos rfl,iW (by omega),bss]
    |false=>rw[if_neg (by simp),if_neg (by simp)]) (fun i g1 g2=>by
    simp only[fA]
    rw[if_neg (by simp)])
   obtain⟨L',k1,k2,k3⟩:=up_m L a s F (by omega) (by omega)
   rw[e,bss,k1,bss]
   refine⟨L',O,k2.mono (yW _) s2,fun x y g1 g2 g3=>?_⟩
   have hlow:∀t,a+1≤t→t<s→bfB (av L a) (av L t)=false:=fun t q1 q2=>by
    have hs:=s3.resolve_left (by omega)
    refine bf_le ?_
    rcases xS t (s-1) with q3|q3
    ·exact le_lt (h2 t (s-1) q1 q3 (by omega)) hs
    rwa [show t=s-1 by omega]
   have hhigh:∀t,s≤t→t<b→bfB (av L t) (av L a)=false:=fun t q1 q2=>by
    have hs:=s4.resolve_left (by omega)
    rcases xS s t with q3|q3
    ·exact le_tr hs (h2 s t (by omega) q3 q2)
    rwa [show t=s by omega]
   rw[k3,k3]
   unfold shU
   by_cases q1:y<s-1
   ·rw[if_pos (by omega),if_pos (by omega)];exact h2 _ _ (by omega) (by omega) (by omega)
   rw[if_neg (by omega:¬(a≤y∧y<s-1))]
   by_cases q2:y=s-1
   ·rw[if_pos q2,if_pos (by omega)];exact hlow _ (by omega) (by omega)
   rw[if_neg q2]
   by_cases q3:x<s-1
   ·rw[if_pos (by omega)];exact h2 _ _ (by omega) (by omega) g3
   rw[if_neg (by omega)]
   by_cases q4:x=s-1
   ·rw[if_pos q4];exact hhigh y (by omega) g3
   rw[if_neg q4];exact h2 _ _ (by omega) g2 g3
  rw[if_neg (by rw[decide_eq_true_eq];omega),jM (by omega),bss]
  by_cases hbm:b=m+1
  ·subst hbm
   rw[if_pos (by rw[decide_eq_true_eq];omega)]
   obtain⟨s,e,s1,s2,s3,s4⟩:=bsearch (body:=fun s=>fB L (m:Int) s.1 s.2) (fun t=> !(bfB (av L m) (av L t))) a m (by omega) (fun i j g1 g2 g3=>by
    simp only[fB]
    rw[if_pos (by simpa using g2),half_m (by omega),qL (by omega),bss,qL (by omega),bss]
    obtain⟨c,A,hcb⟩:=cmp_m (av L m) (av L ((i+j) / 2))
    rw[A,bss,hcb]
    cases bfB (av L m) (av L ((i+j) / 2)) with
    |true=>rw[if_neg (by simp),if_neg (by simp)]
    |false=>rw[if_pos (by rfl),if_pos (by rfl),iW (by omega),bss]) (fun i g1 g2=>by
    simp only[fB]
    rw[if_neg (by simp)])
   obtain⟨L',k1,k2,k3⟩:=down_m L m s F s2 (by omega)
   rw[e,bss,k1,bss]
   refine⟨L',O,k2.mono s1 (yW _),fun x y g1 g2 g3=>?_⟩
   have hlow:∀t,a≤t→t<s→bfB (av L m) (av L t)=false:=fun t q1 q2=>by
    have hs:=s3.resolve_left (by omega)
    rw[Bool.not_eq_true'] at hs
    rcases xS t (s-1) with q3|q3
    ·exact le_tr (h1 t (s-1) q1 q3 (by omega)) hs
    rwa [show t=s-1 by omega]
   have hhigh:∀t,s≤t→t<m→bfB (av L t) (av L m)=false:=fun t q1 q2=>by
    have hs:=s4.resolve_left (by omega)
    rw[Bool.not_eq_false'] at hs
    refine bf_le ?_
    rcases xS s t with q3|q3
    ·exact lt_le hs (h1 s t (by omega) q3 q2)
    rwa [show t=s by omega]
   rw[k3,k3]
   unfold shD
   by_cases q1:y<s
   ·rw[if_neg (by omega),if_neg (by omega),if_neg (by omega),if_neg (by omega)];exact h1 _ _ g1 g2 (by omega)
   by_cases q2:y=s
   ·rw[if_neg (by omega:¬(s<y∧y≤m)),if_pos q2,if_neg (by omega),if_neg (by omega)];exact hlow _ g1 (by omega)
   rw[if_pos (by omega:s<y∧y≤m)]
   by_cases q3:s<x
   ·rw[if_pos (by omega)];exact h1 _ _ (by omega) (by omega) (by omega)
   rw[if_neg (by omega)]
   by_cases q4:x=s
   ·rw[if_pos q4];exact hhigh _ (by omega) (by omega)
   rw[if_neg q4];exact h1 _ _ g1 (by omega) (by omega)
  rw[if_neg (by rw[decide_eq_true_eq];omega),half_m (by omega)]
  generalize hmid:(a+b) / 2=mid
  have hm1:a<mid∧mid<b∧a+b≤2*mid+1∧2*mid≤a+b:=by omega
  obtain⟨hm1,hm2,hm3,hm4⟩:=hm1
  have en:inK .i64 ((mid:Int)+m)=some ((mid+m:Nat):Int):=by rw[jM (by omega)];rfl
  have ep:inK .i64 (((mid+m:Nat):Int)-1)=some ((mid+m-1:Nat):Int):=by rw[jM (by omega)];congr 1;omega
  rw[en,bss]
  obtain⟨lo,hi,hlh,q0,q1,q2,q3,q4⟩:∃lo hi:Nat,((if(decide ((mid:Int)<m))=true then(inK .i64 (((mid+m:Nat):Int)-b)).bind fun E=>some (E,(mid:Int)) else some ((a:Int),(m:Int))):Option (Int×Int))=some ((lo:Int),(hi:Int))∧lo≤hi∧a≤lo∧hi≤m∧hi≤mid∧(∀c,lo≤c→c≤hi→m≤mid+m-c∧mid+m-c≤b∧c≤mid+m)∧((lo=a∧hi=m)∨(mid+m-lo=b∧mid+m-hi=m)):=by
   by_cases h:mid<m
   ·refine⟨mid+m-b,mid,?_,by omega,by omega,by omega,by omega,fun c g1 g2=>by omega,Or.inr (by omega)⟩
    rw[if_pos (by rw[decide_eq_true_eq];omega),jM (by omega),bss]
    congr 2;omega
   exact⟨a,m,by rw[if_neg (by rw[decide_eq_true_eq];omega)],by omega,by omega,by omega,by omega,fun c g1 g2=>by omega,Or.inl ⟨O,O⟩⟩
  obtain⟨q4,q5,q6⟩:hi≤mid∧(∀c,lo≤c→c≤hi→m≤mid+m-c∧mid+m-c≤b∧c≤mid+m)∧((lo=a∧hi=m)∨(mid+m-lo=b∧mid+m-hi=m)):=⟨q3,q4⟩
  rw[hlh,bss,ep,bss]
  simp only
  obtain⟨s,e,s1,s2,s3,s4⟩:=bsearch (body:=fun s=>fC L ((mid+m-1:Nat):Int) s.1 s.2) (fun c=> !(bfB (av L (mid+m-1-c)) (av L c))) lo hi q0 (fun i j g1 g2 g3=>by
   have hq:=q5 ((i+j) / 2) (by omega) (by omega)
   have ec:inK .i64 (((mid+m-1:Nat):Int)-(((i+j) / 2:Nat):Int))=some ((mid+m-1-(i+j) / 2:Nat):Int):=by rw[jM (by omega)];congr 1;omega
   simp only[fC]
   rw[if_pos (by simpa using g2),half_m (by omega),ec,bss,qL (by omega),bss,qL (by omega),bss]
   obtain⟨c,A,hcb⟩:=cmp_m (av L (mid+m-1-(i+j) / 2)) (av L ((i+j) / 2))
   rw[A,bss,hcb]
   cases bfB (av L (mid+m-1-(i+j) / 2)) (av L ((i+j) / 2)) with
   |true=>rw[if_neg (by simp),if_neg (by simp)]
   |false=>rw[if_pos (by rfl),if_pos (by rfl),iW (by omega),bss]) (fun i g1 g2=>by
   simp only[fC]
   rw[if_neg (by simp)])
  have hs:=q5 s s1 s2
  obtain⟨en',he⟩:∃e':Nat,e'=mid+m-s:=⟨_,O⟩
  have ee:inK .i64 (((mid+m:Nat):Int)-s)=some (en':Int):=by rw[jM (by omega)];congr 1;omega
  rw[e,bss,ee,bss]
  obtain⟨L1,r1,r2,r3⟩:∃L1,((if((decide ((s:Int)<m))&&(decide ((m:Int)<en')))=true then(fU L (s:Int) (m:Int) (en':Int)).bind fun D=>some D else some L):Option (List Opn))=some L1∧Rg L L1 a b∧∀t,av L1 t=av L (roI s m en' t):=by
   by_cases h:s<m∧m<en'
   ·obtain⟨L1,k1,k2,k3⟩:=rotate_m L s m en' F h.1 h.2 (by omega)
    exact⟨L1,by rw[if_pos (by rw[Bool.and_eq_true,decide_eq_true_eq,decide_eq_true_eq];omega),k1];rfl,k2.mono (by omega) (by omega),k3⟩
   refine⟨L,by rw[if_neg (by rw[Bool.and_eq_true,decide_eq_true_eq,decide_eq_true_eq];omega)],Rg.rfl' _ _ _,fun t=>?_⟩
   congr 1
   simp only[roI]
   repeat' split
   all_goals omega
  rw[r1,bss]
  have hL1:=r2.len
  have lowA:∀t,a≤t→t<s→av L1 t=av L t:=fun t _ _=>by rw[r3];congr 1;unfold roI;rw[if_neg (by omega),if_neg (by omega)]
  have lowB:∀t,s≤t→t<mid→av L1 t=av L (t+m-s):=fun t _ _=>by rw[r3];congr 1;unfold roI;rw[if_pos (by omega)]
  have higA:∀t,mid≤t→t<en'→av L1 t=av L (t-(en'-m)):=fun t _ _=>by rw[r3];congr 1;unfold roI;rw[if_neg (by omega),if_pos (by omega)]
  have higB:∀t,en'≤t→t<b→av L1 t=av L t:=fun t _ _=>by rw[r3];congr 1;unfold roI;rw[if_neg (by omega),if_neg (by omega)]
  have sA:Srt L1 a s:=fun x y g1 g2 g3=>by rw[lowA x g1 (by omega),lowA y (by omega) g3];exact h1 x y g1 g2 (by omega)
  have sB:Srt L1 s mid:=fun x y g1 g2 g3=>by rw[lowB x g1 (by omega),lowB y (by omega) g3];exact h2 _ _ (by omega) (by omega) (by omega)
  have sC:Srt L1 mid en':=fun x y g1 g2 g3=>by rw[higA x g1 (by omega),higA y (by omega) g3];exact h1 _ _ (by omega) (by omega) (by omega)
  have sD:Srt L1 en' b:=fun x y g1 g2 g3=>by rw[higB x g1 (by omega),higB y (by omega) g3];exact h2 x y (by omega) g2 g3
  have c1:∀x y,a≤x→x<s→en'≤y→y<b→bfB (av L y) (av L x)=false:=fun x y g1 g2 g3 g4=>by
   have hs3:=s3.resolve_left (by omega)
   rw[Bool.not_eq_true',show mid+m-1-(s-1)=en' by omega] at hs3
   have t1:bfB (av L en') (av L x)=false:=by
    rcases xS x (s-1) with k|k
    ·exact le_tr (h1 x (s-1) g1 k (by omega)) hs3
    rwa [show x=s-1 by omega]
   rcases xS en' y with k|k
   ·exact le_tr t1 (h2 en' y (by omega) k g4)
   rwa [show y=en' by omega]
  have c2:∀x y,m≤x→x<en'→s≤y→y<m→bfB (av L y) (av L x)=false:=fun x y g1 g2 g3 g4=>by
   have hs4:=s4.resolve_left (by omega)
   rw[Bool.not_eq_false',show mid+m-1-s=en'-1 by omega] at hs4
   refine bf_le ?_
   have t1:bfB (av L x) (av L s)=true:=by
    rcases xS x (en'-1) with k|k
    ·exact le_lt (h2 x (en'-1) g1 k (by omega)) hs4
    rwa [show x=en'-1 by omega]
   rcases xS s y with k|k
   ·exact lt_le t1 (h1 s y (by omega) k g4)
   rwa [show y=s by omega]
  have cross:∀x y,a≤x→x<mid→mid≤y→y<b→bfB (av L1 y) (av L1 x)=false:=fun x y g1 g2 g3 g4=>by
   by_cases k1:x<s
   ·rw[lowA x g1 k1]
    by_cases k2:y<en'
    ·rw[higA y g3 k2];exact h1 _ _ g1 (by omega) (by omega)
    rw[higB y (by omega) g4];exact c1 x y g1 k1 (by omega) g4
   rw[lowB x (by omega) g2]
   by_cases k2:y<en'
   ·rw[higA y g3 k2];exact c2 _ _ (by omega) (by omega) (by omega) (by omega)
   rw[higB y (by omega) g4];exact h2 _ _ (by omega) (by omega) g4
  obtain⟨L2,u1,u2,u3⟩:∃L2,((if((decide ((a:Int)<s))&&(decide ((s:Int)<mid)))=true then(dP f L1 (a:Int) (s:Int) (mid:Int)).bind fun C=>some C else some L1):Option (List Opn))=some L2∧Rg L1 L2 a mid∧Srt L2 a mid:=by
   by_cases h:a<s∧s<mid
   ·obtain⟨L2,k1,k2,k3⟩:=ih L1 a s mid (by omega) h.1 h.2 (by omega) (by omega) sA sB
    exact⟨L2,by rw[if_pos (by rw[Bool.and_eq_true,decide_eq_true_eq,decide_eq_true_eq];omega),k1];rfl,k2,k3⟩
   refine⟨L1,by rw[if_neg (by rw[Bool.and_eq_true,decide_eq_true_eq,decide_eq_true_eq];omega)],Rg.rfl' _ _ _,?_⟩
   by_cases k:s=a
   ·rw[k] at sB;exact sB
   rw[show s=mid by omega] at sA;exact sA
  rw[u1,bss]
  have hL2:=u2.len
  obtain⟨L3,v1,v2,v3⟩:∃L3,((if((decide ((mid:Int)<en'))&&(decide ((en':Int)<b)))=true then(dP f L2 (mid:Int) (en':Int) (b:Int)).bind fun B=>some B else some L2):Option (List Opn))=some L3∧Rg L2 L3 mid b∧Srt L3 mid b:=by
   have sC':Srt L2 mid en':=sC.of fun t g1 g2=>u2.out t (by omega)
   have sD':Srt L2 en' b:=sD.of fun t g1 g2=>u2.out t (by omega)
   by_cases h:mid<en'∧en'<b
   ·obtain⟨L3,k1,k2,k3⟩:=ih L2 mid en' b (by omega) h.1 h.2 (by omega) (by omega) sC' sD'
    exact⟨L3,by rw[if_pos (by rw[Bool.and_eq_true,decide_eq_true_eq,decide_eq_true_eq];omega),k1];rfl,k2,k3⟩
   refine⟨L2,by rw[if_neg (by rw[Bool.and_eq_true,decide_eq_true_eq,decide_eq_true_eq];omega)],Rg.rfl' _ _ _,?_⟩
   by_cases k:en'=b
   ·rw[k] at sC';exact sC'
   rw[show en'=mid by omega] at sD';exact sD'
  refine⟨L3,v1,(r2.tr (u2.mono (yW _) (by omega))).tr (v2.mono (by omega) (yW _)),fun x y g1 g2 g3=>?_⟩
  by_cases k1:y<mid
  ·rw[v2.out x (by omega),v2.out y (by omega)];exact u3 x y g1 g2 k1
  by_cases k2:mid≤x
  ·exact v3 x y k2 g2 g3
  rw[v2.out x (by omega)]
  refine v2.pres (fun z=>bfB z (av L2 x)=false) (fun t g4 g5=>?_) y (by omega) g3
  rw[u2.out t (by omega)]
  exact u2.pres (fun z=>bfB (av L1 t) z=false) (fun w g6 g7=>cross w t g6 g7 g4 g5) x g1 (by omega)
theorem sym_m (L:List Opn) (a m b:Nat) (ham:a<m) (hmb:m<b) (hb:b≤L.length) (A:L.length≤100000) (h1:Srt L a m) (h2:Srt L m b):
  ∃L',iT L (a:Int) (m:Int) (b:Int)=some L'∧Rg L L' a b∧Srt L' a b:=sym_r _ L a m b (by omega) ham hmb hb A h1 h2
theorem sorted_m (L:List Opn) (hl:L.length<40):∃L',oK L=some L'∧L'.Perm L∧Srt L' 0 L'.length:=by
 have key:∃L',iD L (L.length:Int)=some L'∧Rg L L' 0 L.length∧Srt L' 0 L.length:=by
  unfold iD
  by_cases h20:L.length<20
  ·rw[kP (b:=((0:Int),L)) (by simp only[gB];rw[if_neg (by rw[decide_eq_true_eq];omega)]),bss]
   simp only
   obtain⟨L1,k1,k2,k3⟩:=insort_m L 0 L.length (by omega) (yW _) (by omega)
   rw[show((0:Nat):Int)=0 from rfl] at k1
   rw[k1,bss,kP (b:=L1) (by simp only[fD];rw[if_neg (by rw[decide_eq_true_eq];omega)])]
   exact⟨L1,O,k2,k3⟩
  obtain⟨L1,k1,k2,k3⟩:=insort_m L 0 20 (by omega) (by omega) (by omega)
  have hL1:=k2.len
  obtain⟨L2,k4,k5,k6⟩:=insort_m L1 20 L.length (by omega) (by omega) (by omega)
  have hL2:=k5.len
  have hs:Srt L2 0 20:=k3.of fun t _ _=>k5.out t (by omega)
  rw[show((0:Nat):Int)=0 from rfl,show((20:Nat):Int)=20 from rfl] at k1
  rw[show((20:Nat):Int)=20 from rfl] at k4
  rw[vT (s':=((20:Int),(40:Int),L1)) (by
   simp only[gB]
   rw[if_pos (by rw[decide_eq_true_eq];omega),k1,bss,jM (by omega)];rfl),kP (b:=((20:Int),L1)) (by
   simp only[gB];rw[if_neg (by rw[decide_eq_true_eq];omega)]),bss]
  simp only
  rw[k4,bss]
  by_cases h:L.length=20
  ·rw[kP (b:=L2) (by simp only[fD];rw[if_neg (by rw[decide_eq_true_eq];omega)])]
   exact⟨L2,O,(k2.mono (yW _) (by omega)).tr (k5.mono (by omega) (yW _)),by rw[h];exact hs⟩
  obtain⟨L3,k7,k8,k9⟩:=sym_m L2 0 20 L.length (by omega) (by omega) (by omega) (by omega) hs k6
  rw[show((0:Nat):Int)=0 from rfl,show((20:Nat):Int)=20 from rfl] at k7
  rw[vT (s':=((40:Int),L3)) (by
   simp only[fD]
   rw[if_pos (by rw[decide_eq_true_eq];omega),jM (by omega),bss,kP (b:=((0:Int),L2)) (by
    simp only[jW];rw[if_neg (by rw[decide_eq_true_eq];omega)]),bss]
   simp only
   rw[jM (by omega),bss,if_pos (by rw[decide_eq_true_eq];omega),Int.zero_add,k7,bss,bss,jM (by omega)];rfl),kP (b:=L3) (by
   simp only[fD];rw[if_neg (by rw[decide_eq_true_eq];omega)])]
  exact⟨L3,O,((k2.mono (yW _) (by omega)).tr (k5.mono (by omega) (yW _))).tr k8,k9⟩
 obtain⟨L',k1,k2,k3⟩:=key
 unfold oK iY
 rw[k1]
 exact⟨L',O,k2.perm,by rw[k2.len];exact k3⟩
structure St (nx ny:Nat) (sx sy:Nat→Nat) (l:List Opn):Prop where
 rng:∀o∈l,-1≤o.a∧o.a<nx∧ -1≤o.b∧o.b<ny∧(0≤o.a∨0≤o.b)
 dis:l.Pairwise fun p q=>(0≤p.a→p.a≠q.a)∧(0≤p.b→p.b≠q.b)
 sua:∀c:Nat,c<nx→∃o∈l,o.a=c
 sub:∀c:Nat,c<ny→∃o∈l,o.b=c
 tr:∀p∈l,∀q∈l,0≤p.a→p.a<q.a→0≤p.b→0≤q.b→p.b<q.b∧(q.a<p.a+sx p.a.toNat↔q.b<p.b+sy p.b.toNat)
def Le (p q:Opn):Prop:=bfB q p=false
theorem pw_eq {R:Opn→Opn→Prop} {l:List Opn} (h:l.Pairwise R) {p q:Opn} (B:p∈l) (hq:q∈l):p=q∨R p q∨R q p:=by
 obtain⟨i,hi,rfl⟩:=List.mem_iff_getElem.1 B
 obtain⟨j,A,rfl⟩:=List.mem_iff_getElem.1 hq
 have h:=xF.1 h
 rcases Nat.lt_trichotomy i j with e|e|e
 ·exact Or.inr (Or.inl (h i j hi A e))
 ·subst e;exact Or.inl rfl
 exact Or.inr (Or.inr (h j i A hi e))
theorem St.ea {nx ny:Nat} {sx sy:Nat→Nat} {l:List Opn} (h:St nx ny sx sy l) {p q:Opn} (A:p∈l) (hq:q∈l) (h0:0≤p.a) (e:p.a=q.a):p=q:=by
 rcases pw_eq h.dis A hq with k|k|k
 ·exact k
 ·exact absurd e (k.1 h0)
 exact absurd e.symm (k.1 (by omega))
theorem St.eb {nx ny:Nat} {sx sy:Nat→Nat} {l:List Opn} (h:St nx ny sx sy l) {p q:Opn} (A:p∈l) (hq:q∈l) (h0:0≤p.b) (e:p.b=q.b):p=q:=by
 rcases pw_eq h.dis A hq with k|k|k
 ·exact k
 ·exact absurd e (k.2 h0)
 exact absurd e.symm (k.2 (by omega))
theorem St.perm {nx ny:Nat} {sx sy:Nat→Nat} {l m:List Opn} (h:St nx ny sx sy l) (p:m.Perm l):St nx ny sx sy m:=
 ⟨fun o C=>h.rng o (p.mem_iff.1 C),(List.Perm.pairwise_iff (fun{x y} h=>⟨fun h1 h2=>h.1 (by omega) h2.symm,fun h1 h2=>h.2 (by omega) h2.symm⟩) p).2 h.dis,fun c A=>by obtain⟨o,h1,h2⟩:=h.sua c A;exact⟨o,p.mem_iff.2 h1,h2⟩,
  fun c A=>by obtain⟨o,h1,h2⟩:=h.sub c A;exact⟨o,p.mem_iff.2 h1,h2⟩,fun x B y hy=>h.tr x (p.mem_iff.1 B) y (p.mem_iff.1 hy)⟩
theorem St.anti {nx ny:Nat} {sx sy:Nat→Nat} {l:List Opn} (h:St nx ny sx sy l) {p q:Opn} (A:p∈l) (hq:q∈l) (h1:Le p q) (h2:Le q p):p=q:=by
 unfold Le at h1 h2
 rw[Y2] at h1 h2
 have r1:=h.rng p A
 have r2:=h.rng q hq
 by_cases ha:0≤p.a
 ·exact h.ea A hq ha (by omega)
 exact h.eb A hq (by omega) (by omega)
def swO (o:Opn):Opn:=⟨o.b,o.a⟩
theorem St.swap {nx ny:Nat} {sx sy:Nat→Nat} {l:List Opn} (h:St nx ny sx sy l):St ny nx sy sx (l.map swO):=by
 refine⟨fun o C=>?_,?_,fun c B=>?_,fun c B=>?_,fun p A q hq h0 h1 h2 h3=>?_⟩
 ·obtain⟨q,hq,rfl⟩:=List.mem_map.1 C
  have:=h.rng q hq
  simp only[swO];omega
 ·rw[List.pairwise_map]
  exact h.dis.imp fun{p q} k=>⟨k.2,k.1⟩
 ·obtain⟨o,h1,h2⟩:=h.sub c B
  exact⟨swO o,List.mem_map_of_mem h1,h2⟩
 ·obtain⟨o,h1,h2⟩:=h.sua c B
  exact⟨swO o,List.mem_map_of_mem h1,h2⟩
 obtain⟨p,hp',rfl⟩:=List.mem_map.1 A
 obtain⟨q,hq',rfl⟩:=List.mem_map.1 hq
 replace A:=hp'
 replace hq:=hq'
 simp only[swO] at h0 h1 h2 h3⊢
 rcases Int.lt_trichotomy p.a q.a with k|k|k
 ·have:=h.tr p A q hq h2 k h0 (by omega)
  exact⟨k,this.2.symm⟩
 ·have:=h.ea A hq h2 k
  rw[this] at h1;omega
 have:=(h.tr q hq p A h3 k (by omega) h0).1
 omega
theorem Vd.st {nx ny:Nat} {sx sy:Nat→Nat} {l:List Opn} (h:Vd nx ny sx sy l):St nx ny sx sy l∧l.Pairwise Le:=by
 have hpos:∀(j:Nat) (o:Opn),l[j]?=some o→(j<nx∧o.a=j)∨(nx≤j∧o.a= -1∧0≤o.b):=fun j o B=>by
  have hk:=(uL.1 B).1
  have t:(l.take j).length=j:=by rw[vL];omega
  have h1:=(h.scr j o B).fst
  have h2:=(h.scr j o B).snd
  rw[t] at h1 h2
  rcases xS j nx with e|e
  ·exact Or.inl ⟨e,h1 e⟩
  exact Or.inr ⟨e,(h2 e).1,(h2 e).2.1⟩
 have hpw:=xF.1 (scr_pw h.scr)
 have hprs:=xF.1 h.prs
 refine⟨⟨fun o B=>?_,?_,fun c hc=>?_,h.sur,fun p C q hq h0 h1 h2 h3=>?_⟩,?_⟩
 ·obtain⟨j,A⟩:=List.mem_iff_getElem?.1 B
  have:=(h.scr j o A).lo
  have:=(h.scr j o A).hi
  rcases hpos j o A with k|k<;>omega
 ·rw[xF]
  intro i j hi A hij
  have h1:=hpos i _ (vA hi)
  have h2:=hpos j _ (vA A)
  exact⟨fun _=>by omega,fun k e=>(hpw i j hi A hij).2 (by omega) e⟩
 ·have:=h.len
  obtain⟨o,B⟩:=iV (show c<l.length by omega)
  exact⟨o,vE B,by have:=hpos c o B;omega⟩
 ·obtain⟨i,hi,rfl⟩:=List.mem_iff_getElem.1 C
  obtain⟨j,A,rfl⟩:=List.mem_iff_getElem.1 hq
  have k1:=hpos i _ (vA hi)
  have k2:=hpos j _ (vA A)
  exact hprs i j hi A (by omega) h0 h2 (by omega) h3
 rw[xF]
 intro i j hi A hij
 have h1:=hpos i _ (vA hi)
 have h2:=hpos j _ (vA A)
 have hlt:nx≤i→l[i].b<l[j].b:=fun e=>by
  refine((h.scr j _ (vA A)).snd (by rw[vL];omega)).2.2 _ (vE (i:=i-nx) ?_)
  rw[xT,wN,if_pos (by omega),show nx+(i-nx)=i by omega,vA hi]
 unfold Le
 rw[Y2]
 by_cases e:nx≤i
 ·have:=hlt e;omega
 omega
theorem aG4:∀(l:List Opn),l.Pairwise Le→l=l.filter (fun o=>decide (0≤o.a))++l.filter (fun o=>decide (o.a<0))
 | [],_=>rfl
 |o::l,h=>by
  obtain⟨h1,h2⟩:=List.pairwise_cons.1 h
  have ih:=aG4 l h2
  by_cases ha:0≤o.a
  ·rw[List.filter_cons_of_pos (by simpa using ha),List.filter_cons_of_neg (by simpa using ha),List.cons_append,←ih]
  have hn:l.filter (fun o=>decide (0≤o.a))=[]:=List.filter_eq_nil_iff.2 fun q hq=>by
   have:=h1 q hq
   unfold Le at this
   rw[Y2] at this
   simp only[decide_eq_true_eq]
   omega
  rw[hn] at ih
  rw[List.filter_cons_of_neg (by simpa using ha),List.filter_cons_of_pos (by simp;omega),hn,List.nil_append]
  rw[List.nil_append] at ih
  rw[←ih]
theorem St.vd {nx ny:Nat} {sx sy:Nat→Nat} {l:List Opn} (h:St nx ny sx sy l) (hs:l.Pairwise Le):Vd nx ny sx sy l:=by
 have hsp:=aG4 l hs
 have hF:(l.filter fun o=>decide (0≤o.a)).map (·.a)=(List.range nx).map fun i:Nat=>(i:Int):=by
  refine rising_int ?_ ?_ fun x=>?_
  ·rw[List.pairwise_map,List.pairwise_filter]
   refine(hs.and h.dis).imp fun{p q} k h1 h2=>?_
   have h1:=of_decide_eq_true h1
   have h2:=of_decide_eq_true h2
   have k1:=k.1
   unfold Le at k1
   rw[Y2] at k1
   have:=k.2.1 h1
   omega
  ·rw[List.pairwise_map]
   exact List.pairwise_lt_range.imp fun{a b} k=>by omega
  rw[List.mem_map,List.mem_map]
  constructor
  ·rintro⟨o,A,rfl⟩
   rw[List.mem_filter,decide_eq_true_eq] at A
   have:=h.rng o A.1
   exact⟨o.a.toNat,List.mem_range.2 (by omega),by omega⟩
  rintro⟨c,C,rfl⟩
  obtain⟨o,h1,h2⟩:=h.sua c (List.mem_range.1 C)
  exact⟨o,by rw[List.mem_filter,decide_eq_true_eq];exact⟨h1,by omega⟩,h2⟩
 have hFl:(l.filter fun o=>decide (0≤o.a)).length=nx:=by
  have:=congrArg List.length hF
  simpa using this
 have hpos:∀(j:Nat) (o:Opn),l[j]?=some o→(j<nx∧o.a=j)∨(nx≤j∧o.a<0):=fun j o A=>by
  rw[hsp] at A
  rcases xS j nx with e|e
  ·rw[vQ (by omega)] at A
   have:=congrArg (fun m=>m[j]?) hF
   simp only[wT,A,List.getElem?_range e,Option.map_some,vR] at this
   exact Or.inl ⟨e,this⟩
  rw[vD (by omega)] at A
  have:=vE A
  rw[List.mem_filter,decide_eq_true_eq] at this
  exact Or.inr ⟨e,this.2⟩
 refine⟨fun j o A=>?_,?_,h.sub,?_⟩
 ·have hk:=(uL.1 A).1
  have t:(l.take j).length=j:=by rw[vL];omega
  have hr:=h.rng o (vE A)
  have hp:=hpos j o A
  have hdis:=xF.1 h.dis
  have hle:=xF.1 hs
  have hmem:∀q∈l.take j,∃(i:Nat) (hi:i<l.length),i<j∧l[i]=q:=fun q hq=>by
   obtain⟨i,hi,e⟩:=List.mem_take_iff_getElem.1 hq
   exact⟨i,by omega,by omega,e⟩
  refine⟨fun e=>by rw[t] at e⊢;omega,fun e=>?_,by omega,by omega,fun hb q hq e=>?_⟩
  ·rw[t] at e
   refine⟨by omega,by omega,fun q hq=>?_⟩
   obtain⟨i,hi⟩:=List.mem_iff_getElem?.1 hq
   rw[xT,wN] at hi
   by_cases hij:nx+i<j
   ·rw[if_pos hij] at hi
    have hq2:=hpos _ q hi
    have k1:=hle (nx+i) j (uL.1 hi).1 hk hij
    have k2:=(hdis (nx+i) j (uL.1 hi).1 hk hij).2
    rw[(uL.1 hi).2,(uL.1 A).2] at k1 k2
    have hrq:=h.rng q (vE hi)
    have:=k2 (by omega)
    unfold Le at k1
    rw[Y2] at k1
    omega
   rw[if_neg hij] at hi;cases hi
  obtain⟨i,hi,hij,rfl⟩:=hmem q hq
  have:=(hdis i j hi hk hij).2
  rw[(uL.1 A).2] at this
  exact this (by omega) e
 ·have:=congrArg List.length hsp
  rw[uR,hFl] at this;omega
 rw[xF]
 intro i j hi B hij h1 h2 h3 h4
 have k1:=hpos i _ (vA hi)
 have k2:=hpos j _ (vA B)
 exact h.tr _ (List.getElem_mem hi) _ (List.getElem_mem B) h1 (by omega) h2 h4
theorem before_m (p q:Opn):mW p q=some (bfB p q):=by
 unfold mW
 by_cases h:0≤p.a∨0≤q.a
 ·rw[if_pos (by simpa using h)]
  congr 1
  rw[Bool.eq_iff_iff,Q9]
  simp only[Bool.and_eq_true,Bool.or_eq_true,decide_eq_true_eq]
  omega
 rw[if_neg (by simpa using h)]
 congr 1
 rw[Bool.eq_iff_iff,Q9,decide_eq_true_eq]
 omega
theorem rsorted_m (l:List Opn) (hl:l.length≤100000):∃r,jO l=some r∧r.Perm l∧r.Pairwise Le:=by
 unfold jO
 obtain⟨r,h1,h2⟩:=oP (body:=fun s=>kS l s.1 s.2) (fun s=>∃i:Nat,s.1=(i:Int)∧i≤l.length∧s.2.Perm (l.take i)∧s.2.Pairwise Le) (fun s=>l.length-s.1.toNat) (fun r=>r.Perm l∧r.Pairwise Le) (by
  rintro⟨_,out⟩ ⟨i,rfl,hi,B,hs⟩
  simp only at B hs
  by_cases hlt:i<l.length
  ·obtain⟨x,C⟩:=iV hlt
   have hol:out.length=i:=by rw[B.length_eq,vL];omega
   have hs':=xF.1 hs
   obtain⟨_,e,k,rfl,hk,k1,k2⟩:=oP (body:=fun s=>mV l (i:Int) out s) (fun s=>∃k:Nat,s=(k:Int)∧k≤out.length∧∀(j:Nat) (A:j<out.length),k≤j→bfB x out[j]=true) (fun s=>s.toNat)
    (fun s=>∃k:Nat,s=(k:Int)∧k≤out.length∧(∀(j:Nat) (A:j<out.length),k≤j→bfB x out[j]=true)∧(∀(j:Nat) (A:j<out.length),j<k→bfB x out[j]=false)) (by
    rintro _ ⟨k,rfl,g1,g2⟩
    simp only[mV]
    by_cases h0:0<k
    ·rw[if_pos (by simpa using h0),mM C,bss,jM (by omega),bss,show(k:Int)-1=((k-1:Nat):Int) by omega,mM (vA (show k-1<out.length by omega)),bss,before_m,bss,bss]
     cases hb:bfB x out[k-1] with
     |true=>
      rw[if_pos rfl,bss]
      refine Or.inl ⟨_,O,⟨k-1,O,by omega,fun j A hjk=>?_⟩,by simp;omega⟩
      rcases xS j k with e|e
      ·obtain rfl:j=k-1:=by omega
       exact hb
      exact g2 j A e
     |false=>
      rw[if_neg (by simp)]
      refine Or.inr ⟨_,O,k,O,g1,g2,fun j A hjk=>?_⟩
      rcases xS j (k-1) with e|e
      ·exact le_tr (hs' j (k-1) A (by omega) e) hb
      obtain rfl:j=k-1:=by omega
      exact hb
    rw[if_neg (by simpa using h0),bss,if_neg (by simp)]
    exact Or.inr ⟨_,O,k,O,g1,g2,fun j A hjk=>by omega⟩) (out.length:Int) ⟨out.length,O,yW _,fun j A h=>by omega⟩
   left
   simp only[kS]
   rw[if_pos (by simpa using hlt),e,bss,sub_ok (by omega) (by omega) (by omega),bss,H7 (by simp;omega),bss,mM C,bss,H7 (by simp;omega),bss,sub_ok (by omega) (by omega) (by omega),bss,H7 (by simp;omega),bss,iW (by omega),bss]
   refine⟨_,O,⟨i+1,O,by omega,?_,?_⟩,by simp;omega⟩
   ·simp only[xD,Int.toNat_zero,List.drop_zero,List.nil_append,wA (yW out.length)]
    rw[jF C]
    have:(out.take k++[x]++out.drop k).Perm (out++[x]):=by
     rw[vB]
     conv=>rhs;rw[←zE k out,vB]
     exact List.Perm.append_left _ List.perm_append_comm
    exact this.trans (B.append_right _)
   simp only[xD,Int.toNat_zero,List.drop_zero,List.nil_append,wA (yW out.length)]
   have hmt:∀q∈out.take k,bfB x q=false:=fun q hq=>by
    obtain⟨j,A,rfl⟩:=List.mem_take_iff_getElem.1 hq
    exact k2 j (by omega) (by omega)
   have hmd:∀q∈out.drop k,bfB x q=true:=fun q hq=>by
    obtain⟨j,A⟩:=List.mem_iff_getElem?.1 hq
    rw[xT] at A
    obtain⟨h3,rfl⟩:=uL.1 A
    exact k1 _ h3 (by omega)
   rw[vB,List.pairwise_append]
   refine⟨hs.sublist (List.take_sublist k out),List.pairwise_cons.2 ⟨fun q hq=>bf_le (hmd q hq),hs.sublist (List.drop_sublist k out)⟩,fun p hp' q hq=>?_⟩
   rcases List.mem_cons.1 hq with rfl|hq
   ·exact hmt p hp'
   exact le_tr (hmt p hp') (bf_le (hmd q hq))
  simp only[kS]
  rw[if_neg (by simpa using hlt)]
  rw[wA (by omega)] at B
  exact Or.inr ⟨out,O,B,hs⟩) (0,[]) ⟨0,O,Nat.zero_le _,by simp,List.Pairwise.nil⟩
 rw[h1]
 exact⟨r,O,h2⟩
theorem srt_pw {l:List Opn} (h:Srt l 0 l.length):l.Pairwise Le:=by
 rw[xF]
 intro i j hi A hij
 have:=h i j (Nat.zero_le _) hij A
 unfold av at this
 rw[vA hi,vA A] at this
 exact this
theorem sorts_m {nx ny:Nat} {sx sy:Nat→Nat} {l:List Opn} (h:St nx ny sx sy l) (B:l.length<40):∃r,oK l=some r∧jO l=some r∧Vd nx ny sx sy r∧r.Perm l∧∀s:List Opn,s.Perm l→s.Pairwise Le→s=r:=by
 obtain⟨r,h1,h2,h3⟩:=sorted_m l B
 obtain⟨t,h4,h5,h6⟩:=rsorted_m l (by omega)
 have h3:=srt_pw h3
 have hu:∀s:List Opn,s.Perm l→s.Pairwise Le→s=r:=fun s g1 g2=>
  List.Perm.eq_of_pairwise (le:=Le) (fun p q A hq k1 k2=>h.anti (g1.mem_iff.1 A) (h2.mem_iff.1 hq) k1 k2) g2 h3 (g1.trans h2.symm)
 rw[hu t h5 h6] at h4
 exact⟨r,h1,h4,(h.perm h2).vd h3,h2,hu⟩
theorem ops_refl (l:List Opn) (h:l.length≤1000000):kR l l=some true:=by
 unfold kR
 rw[if_neg (by simp)]
 refine U3 (fun i=>(i:Int)) l.length (.brk ()) O (fun i hi=>?_) (by simp only[lD];rw[if_neg (by simp)]) O
 obtain⟨x,A⟩:=iV hi
 simp only[lD]
 rw[if_pos (by simp;omega),mM A,bss,bss,if_neg (by simp),iW (by omega)];rfl
theorem St.i64 {nx ny:Nat} {sx sy:Nat→Nat} {l:List Opn} (h:St nx ny sx sy l) (hx:nx≤100000) (hy:ny≤100000):∀o∈l,I64 o.a∧I64 o.b:=fun o A=>by
 have:=h.rng o A
 unfold I64;omega
def parp (P:List (Node×Int×Nat)) (i:Nat):Int:=match P[i]? with
 |none=> -1
 |some x=>x.2.1
def labp (P:List (Node×Int×Nat)) (i:Nat):Int×ByteArray:=match P[i]? with
 |none=>(0,ByteArray.empty)
 |some x=>(x.1.kind,x.1.text)
theorem at_Q (n:Node) (k:Nat) (h:k<iI n):∃m,(prN n 0 (-1))[k]?=some (m,parp (prN n 0 (-1)) k,k)∧ -1≤parp (prN n 0 (-1)) k∧parp (prN n 0 (-1)) k<k∧labp (prN n 0 (-1)) k=(m.kind,m.text)∧szp (prN n 0 (-1)) k=iI m∧k+iI m≤iI n:=by
 obtain⟨m,q,a1,a2,a3⟩:=szp_le n k h
 have hp:=(pr_at.1 n 0 (-1) k m q k a1).2.2
 have e:parp (prN n 0 (-1)) k=q:=by unfold parp;rw[a1]
 rw[e]
 refine⟨m,a1,by omega,by omega,by unfold labp;rw[a1],a2,a3⟩
theorem spn_get (n:Node) (k:Nat) (h:k<iI n):((prN n 0 (-1)).map spn)[k]?=some ⟨(labp (prN n 0 (-1)) k).1,(labp (prN n 0 (-1)) k).2,((k+szp (prN n 0 (-1)) k:Nat):Int),parp (prN n 0 (-1)) k⟩:=by
 obtain⟨m,e,_,_,e1,e2,_⟩:=at_Q n k h
 rw[wT,e,e1,e2];rfl
theorem nod_get (n:Node) (k:Nat) (h:k<iI n):∃m,(nmb (prN n 0 (-1))).nodes[k]?=some m∧labp (prN n 0 (-1)) k=(m.kind,m.text):=by
 obtain⟨m,e,_,_,e1,_⟩:=at_Q n k h
 exact⟨m,by simp[nmb,e],e1⟩
def ctO (P Q:List (Node×Int×Nat)) (o:Opn):Bool:=decide (o.a<0)||decide (o.b<0)|| !decide (labp P o.a.toNat=labp Q o.b.toNat)
theorem cost_loop (a b:Node) (ha:iI a≤100000) (hb:iI b≤100000) (l:List Opn) (hl:l.length≤200000) (hr:∀o∈l,o.a<iI a∧o.b<iI b):
  fH (fun s=>rZ l (nmb (prN a 0 (-1))) (nmb (prN b 0 (-1))) s.1 s.2) (0,0)=some (l.countP (ctO (prN a 0 (-1)) (prN b 0 (-1))):Int)∧
  fH (fun s=>rJ l ((prN a 0 (-1)).map spn) ((prN b 0 (-1)).map spn) s.1 s.2) (0,0)=some (l.countP (ctO (prN a 0 (-1)) (prN b 0 (-1))):Int):=by
 have B:∀(i:Nat) (o:Opn),l[i]?=some o→(l.take (i+1)).countP (ctO (prN a 0 (-1)) (prN b 0 (-1)))=(l.take i).countP (ctO (prN a 0 (-1)) (prN b 0 (-1)))+if ctO (prN a 0 (-1)) (prN b 0 (-1)) o=true then 1 else 0:=fun i o A=>by
  rw[jF A,List.countP_append,List.countP_singleton]
 have hle:∀i,(l.take i).countP (ctO (prN a 0 (-1)) (prN b 0 (-1)))≤200000:=fun i=>by
  have:=List.countP_le_length (p:=ctO (prN a 0 (-1)) (prN b 0 (-1))) (l:=l.take i)
  rw[vL] at this;omega
 constructor
 ·refine V8 (fun i=>(((l.take i).countP (ctO (prN a 0 (-1)) (prN b 0 (-1))):Int),(i:Int))) l.length (by simp) (fun i hi=>?_) (by simp only[rZ];rw[if_neg (by simp),wA (yW _)])
  obtain⟨o,A⟩:=iV hi
  obtain⟨h1,h2⟩:=hr o (vE A)
  have h3:=hle i
  simp only[rZ]
  rw[if_pos (by simp;omega),mM A,bsn]
  have e:((if((decide (o.a<0))||(decide (o.b<0)))=true then some true else(idx (nmb (prN a 0 (-1))).nodes o.a).bind fun E=>(idx (nmb (prN b 0 (-1))).nodes o.b).bind fun D=>(mP E D).bind fun C=>some (!C)):Option Bool)=some (ctO (prN a 0 (-1)) (prN b 0 (-1)) o):=by
   unfold ctO
   by_cases h:o.a<0∨o.b<0
   ·rw[if_pos (by simpa using h)]
    congr 1
    rcases h with h|h<;>simp[h]
   rw[if_neg (by simpa using h)]
   obtain⟨m,e1,e2⟩:=nod_get a o.a.toNat (by omega)
   obtain⟨q,e3,e4⟩:=nod_get b o.b.toNat (by omega)
   rw[idx_of (by omega) e1,bsn,idx_of (by omega) e3,bsn,e2,e4]
   unfold mP
   rw[bsn,decide_eq_false (p:=o.a<0) (by omega),decide_eq_false (p:=o.b<0) (by omega)]
   simp[Prod.mk.injEq]
  rw[e,bsn,B i o A]
  cases ctO (prN a 0 (-1)) (prN b 0 (-1)) o with
  |true=>rw[if_pos rfl,if_pos rfl,jM (by omega),bsn,iW (by omega),bsn];rfl
  |false=>rw[if_neg (by simp),if_neg (by simp),iW (by omega),bsn];rfl
 refine V8 (fun i=>(((l.take i).countP (ctO (prN a 0 (-1)) (prN b 0 (-1))):Int),(i:Int))) l.length (by simp) (fun i hi=>?_) (by simp only[rJ];rw[if_neg (by simp),wA (yW _)])
 obtain⟨o,A⟩:=iV hi
 obtain⟨h1,h2⟩:=hr o (vE A)
 have h3:=hle i
 simp only[rJ]
 rw[if_pos (by simp;omega),mM A,bsn,B i o A,show(if ctO (prN a 0 (-1)) (prN b 0 (-1)) o=true then 1 else 0:Nat)=if(decide (o.a<0)||decide (o.b<0)|| !decide (labp (prN a 0 (-1)) o.a.toNat=labp (prN b 0 (-1)) o.b.toNat))=true then 1 else 0 from rfl]
 by_cases h:o.a<0∨o.b<0
 ·rw[if_pos (by simpa using h),bsn,if_pos rfl,bsn,if_pos rfl,jM (by omega),bsn,iW (by omega),bsn,if_pos (by rcases h with h|h<;>simp[h])];rfl
 rw[if_neg (by simpa using h),idx_of (by omega) (spn_get a o.a.toNat (by omega)),bsn,idx_of (by omega) (spn_get b o.b.toNat (by omega)),bsn,bsn]
 simp only
 by_cases hk:(labp (prN a 0 (-1)) o.a.toNat).1=(labp (prN b 0 (-1)) o.b.toNat).1
 ·rw[if_neg (by simpa using hk),bsn,bsn,bsn]
  simp only
  by_cases ht:(labp (prN a 0 (-1)) o.a.toNat).2=(labp (prN b 0 (-1)) o.b.toNat).2
  ·rw[if_neg (by simpa using ht),iW (by omega),bsn,if_neg (by simp only[Bool.or_eq_true,decide_eq_true_eq,Bool.not_eq_true',decide_eq_false_iff_not,not_or,Decidable.not_not];exact⟨by omega,Prod.ext hk ht⟩)];rfl
  rw[if_pos (by simpa using ht),jM (by omega),bsn,iW (by omega),bsn,if_pos (by simp only[Bool.or_eq_true,decide_eq_true_eq,Bool.not_eq_true',decide_eq_false_iff_not];exact Or.inr fun e=>ht (congrArg Prod.snd e))];rfl
 rw[if_pos (by simpa using hk),bsn,if_pos rfl,jM (by omega),bsn,iW (by omega),bsn,if_pos (by simp only[Bool.or_eq_true,decide_eq_true_eq,Bool.not_eq_true',decide_eq_false_iff_not];exact Or.inr fun e=>hk (congrArg Prod.fst e))];rfl
def cstO (a b:Node) (l:List Opn):Nat:=l.countP (ctO (prN a 0 (-1)) (prN b 0 (-1)))
open Classical in
theorem cost_m (a b:Node) (ha:iI a≤100000) (hb:iI b≤100000) (l:List Opn) (B:l.length≤9223372036854775807) (A:∀o∈l,I64 o.a∧I64 o.b):qV a b l=some (if Va a b l then((cstO a b l:Int),0) else(0,1)):=by
 unfold qV
 rw[valid_m a b ha hb l B A,bsn]
 by_cases h:Va a b l
 ·rw[decide_eq_true h,if_neg (by simp),if_pos h,aG3 a ha,bsn,aG3 b hb,bsn,(cost_loop a b ha hb l (by have:=scr_len h.scr;omega) (scr_rng h.scr)).1];rfl
 rw[decide_eq_false h,if_pos (by rfl),if_neg h]
def prt (l:List Opn) (n:Int):Int×Bool:=match l.find? (fun o=>decide (o.a=n)) with
 |none=>(0,false)
 |some o=>if n<0∨o.b<0 then(0,false) else(o.b,true)
theorem find_of {α:Type} {l:List α} {p:α→Bool} {k:Nat} {x:α} (A:l[k]?=some x) (B:p x=true) (C:∀j b,j<k→l[j]?=some b→p b=false):l.find? p=some x:=by
 obtain⟨h1,h2⟩:=uL.1 A
 rw[List.find?_eq_some_iff_getElem]
 exact⟨B,k,h1,h2,fun j h=>by rw[C j _ h (vA (by omega))];rfl⟩
theorem partner_m (l:List Opn) (n:Int) (hl:l.length≤9223372036854775807):qU l n=some (prt l n):=by
 unfold qU jP prt
 rcases scan_loop (body:=fun s=>gY l n s) l (fun o=>decide (o.a=n)) (fun k _=> .ret (k:Int)) (.brk ()) (fun k x A=>by
  have:=(uL.1 A).1
  simp only[gY,uN]
  rw[if_pos (by simp;omega),mM A,bsn,bsn,jM (by omega),bsn]
  by_cases h:x.a=n<;>simp[h]) (by
  simp only[gY]
  rw[if_neg (by simp)]) with⟨k,x,A,hp,B,_,_,e⟩|⟨hall,_,_,e⟩
 ·rw[e,bsn]
  simp only
  rw[bsn,find_of A hp B]
  simp only
  by_cases hn:n<0
  ·rw[if_pos (by simp[hn]),bsn,if_pos rfl,if_pos (Or.inl hn)]
  rw[if_neg (by simp;omega),mM A,bsn,bsn]
  by_cases hb:x.b<0
  ·rw[if_pos (by simpa using hb),if_pos (Or.inr hb)]
  rw[if_neg (by simpa using hb),if_neg (by omega),bsn]
 rw[e,bsn]
 simp only
 rw[bsn,if_pos (by simp),bsn,if_pos rfl,List.find?_eq_none.2 fun x A=>by rw[hall x A];simp]
theorem few_r:∀(f:Nat) (n:Node),SizeOf.sizeOf n<f→∀(left:Int),left≤1000→ -1≤left→∃r,kH f n left=some r∧ -1≤r∧r≤1000∧(0≤r→(iI n:Int)+r=left):=by
 intro f
 induction f with
 |zero=>intro n h;omega
 |succ f ih=>
  intro n hsz left hl C
  have hcnt:=yX n
  unfold kH oD
  split
  ·exact⟨-1,O,by omega,by omega,fun h=>by omega⟩
  rename_i D
  have B:1≤left:=by
   apply Classical.byContradiction
   intro hn
   apply D
   rw[Bool.or_eq_true]
   exact Or.inl (decide_eq_true (by omega))
  rw[jM (by omega)]
  simp only[Option.bind_some]
  obtain⟨r,hr,h1,h2,h3⟩:=oP (body:=fun s=>jU n (kH f) s.1 s.2) (fun s=>∃i:Nat,s.2=(i:Int)∧i≤n.kids.length∧ -1≤s.1∧s.1≤1000∧(0≤s.1→(pY (n.kids.take i):Int)+s.1=left-1)) (fun s=>n.kids.length-s.2.toNat)
   (fun r=> -1≤r∧r≤1000∧(0≤r→(iI n:Int)+r=left))
   (by
    rintro⟨l,z⟩ ⟨i,e,hi,h1,h2,h3⟩
    simp only at e h1 h2 h3
    subst e
    by_cases hlt:i<n.kids.length∧0≤l
    ·left
     obtain⟨x,A⟩:=iV hlt.1
     obtain⟨r,hr,g1,g2,g3⟩:=ih x (by have:=node_sz A;omega) l h2 h1
     have e1:=aD1 A
     have e2:=I7 (n.kids.take i)
     rw[vL] at e2
     have e3:=h3 hlt.2
     refine⟨(r,((i+1:Nat):Int)),?_,⟨i+1,O,by omega,g1,g2,fun h=>?_⟩,by simp;omega⟩
     ·simp only[jU]
      rw[if_pos (by simp;omega),mM A]
      simp only[Option.bind_some]
      rw[hr]
      simp only[Option.bind_some]
      rw[iW (by omega)]
      rfl
     have:=g3 h
     simp only
     rw[e1];omega
    right
    refine⟨l,?_,h1,h2,fun h=>?_⟩
    ·simp only[jU]
     rw[if_neg (by
      rw[Bool.and_eq_true,decide_eq_true_eq,decide_eq_true_eq]
      omega)]
    have h4:=h3 h
    rw[wA (by omega)] at h4
    omega) (left-1,0) ⟨0,O,Nat.zero_le _,by simp only;omega,by simp only;omega,fun _=>by simp[pY]⟩
  rw[hr]
  exact⟨r,O,h1,h2,h3⟩
theorem Few_m (n:Node) (k:Int) (h:k≤1000) (h0:0≤k):∃b,nG n k=some b∧(b=true→(iI n:Int)≤k):=by
 obtain⟨r,hr,h1,h2,h3⟩:=few_r (SizeOf.sizeOf n+1) n (by omega) k h (by omega)
 unfold nG wG
 rw[hr]
 refine⟨_,O,fun e=>?_⟩
 have:=h3 (by simpa using e)
 have:=of_decide_eq_true e
 omega
theorem few_m (a b:Node) (k:Int) (h:k≤1000) (h0:0≤k):∃r,nD a b k=some r∧(r=true→(iI a:Int)≤k∧(iI b:Int)≤k):=by
 obtain⟨x,A,h1⟩:=Few_m a k h h0
 obtain⟨y,hy,h2⟩:=Few_m b k h h0
 unfold nD
 rw[A,hy]
 simp only[Option.bind_some]
 cases x with
 |true=>exact⟨y,by simp,fun e=>⟨h1 rfl,h2 e⟩⟩
 |false=>exact⟨false,by simp,fun e=>by cases e⟩
set_option maxRecDepth 100000 in
set_option maxHeartbeats 4000000 in
theorem awake_ok:qI=some true:=by kernel_rfl
theorem prt_find {nx ny:Nat} {sx sy:Nat→Nat} {x:List Opn} (A:St nx ny sx sy x) {o:Opn} (h:o∈x) (h0:0≤o.a):x.find? (fun q=>decide (q.a=o.a))=some o:=by
 obtain⟨q,hq⟩:=Option.isSome_iff_exists.1 (List.find?_isSome (p:=fun q:Opn=>decide (q.a=o.a)) |>.2 ⟨o,h,decide_eq_true (p:=o.a=o.a) O⟩)
 have e1:=List.find?_some hq
 have e2:=List.mem_of_find?_eq_some hq
 rw[decide_eq_true_eq] at e1
 rw[hq,A.ea e2 h (by omega) e1]
end Go.Proofs.YtopnldfjcciieaaGreat
