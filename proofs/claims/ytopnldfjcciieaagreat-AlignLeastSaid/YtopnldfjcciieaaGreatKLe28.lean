/- The function that fills in the distances of two subtrees' parts: its law. -/
import Derived.Test.YtopnldfjcciieaaGreatKLe27
import Derived.Test.YtopnldfjcciieaaGreatKLe6
import Derived.Test.YtopnldfjcciieaaGreatKLe4
import Derived.Test.YtopnldfjcciieaaGreatKLe3
set_option linter.unusedVariables false
set_option linter.unusedSimpArgs false
namespace Go.Proofs.YtopnldfjcciieaaGreat
open Go.RowKit
section
variable {c0 c1:DFlat} {T T' ti tk:Tr} {i k:Nat}
theorem FI.row {x:Nat} {f:List (List Int)} (h:FI ti tk x (szT tk) f):FI ti tk (x+1) 0 f:=by
 refine⟨h.dim,fun x' y' h1 h2 h3=>h.val x' y' h1 h2 ?_⟩
 omega
theorem DI.row {p q Y x:Nat} {D D':List (List Int)} (h:DI T T' p q Y x Y D D'):DI T T' p q Y (x+1) 0 D D':=by
 refine⟨h.dim,fun s t u u' hu hu' hc l1 l2=>h.new s t u u' hu hu' ?_ l1 l2,fun s t hn=>h.old s t fun hh=>hn ⟨?_,hh.2⟩⟩
 ·unfold come at*;omega
 have:=hh.1
 unfold come at*;omega
theorem DI.start {p q Y:Nat} {D:List (List Int)} (h:Dim D (szT T) (szT T')):DI T T' p q Y 0 0 D D:=
 ⟨h,fun s t u u' hu hu' A l1 l2=>by unfold come at A;omega,fun s t _=>rfl⟩
theorem row_m (h0:ArrOf c0 T) (h1:ArrOf c1 T') (B:szT T≤100000) (hT':szT T'≤100000) (hi:(po [T])[i]?=some ti) (hk:(po [T'])[k]?=some tk) {D:List (List Int)}
  (need:∀s t u u',i+1-szT ti≤s→s≤i→k+1-szT tk≤t→t≤k→(po [T])[s]?=some u→(po [T'])[t]?=some u'→¬(lf T s=i+1-szT ti∧lf T' t=k+1-szT tk)→at2 D s t=some ((fd [u] [u']:Nat):Int))
  {x:Nat} (A:x<szT ti) {f D':List (List Int)} (hf:FI ti tk x 0 f) (hd:DI T T' (i+1-szT ti) (k+1-szT tk) (szT tk) x 0 D D'):
  ∃r,dY (fun s=>lG (k:Int) c0 c1 ((i+1-szT ti:Nat):Int) ((k+1-szT tk:Nat):Int) ((i+1-szT ti+x:Nat):Int) s.1 s.2.1 s.2.2) (((k+1-szT tk:Nat):Int),f,D')=some r∧FI ti tk (x+1) 0 r.1∧DI T T' (i+1-szT ti) (k+1-szT tk) (szT tk) (x+1) 0 D r.2:=by
 have hsk:=(kX [T'] hk).1
 refine mJ (fun y s=>s.1=((k+1-szT tk+y:Nat):Int)∧FI ti tk x y s.2.1∧DI T T' (i+1-szT ti) (k+1-szT tk) (szT tk) x y D s.2.2) _ (szT tk) 0 _ ⟨O,hf,hd⟩ ?_ ?_
 ·rintro y ⟨a,f,D'⟩ _ hy ⟨e,hf,hd⟩
  simp only at e hf hd
  subst e
  obtain⟨f2,D2,h,a1,a2⟩:=inner_m h0 h1 B hT' hi hk need A (by omega) hf hd
  exact⟨_,h,O,a1,a2⟩
 rintro⟨a,f,D'⟩ ⟨e,hf,hd⟩
 simp only at e hf hd
 rw[Nat.zero_add] at e hf hd
 subst e
 refine⟨(f,D'),?_,hf.row,hd.row⟩
 simp only[lG]
 rw[if_neg (by simp;omega)]
theorem rows_m (h0:ArrOf c0 T) (h1:ArrOf c1 T') (A:szT T≤100000) (hT':szT T'≤100000) (hi:(po [T])[i]?=some ti) (hk:(po [T'])[k]?=some tk) {D:List (List Int)} (hD:Dim D (szT T) (szT T'))
  (need:∀s t u u',i+1-szT ti≤s→s≤i→k+1-szT tk≤t→t≤k→(po [T])[s]?=some u→(po [T'])[t]?=some u'→¬(lf T s=i+1-szT ti∧lf T' t=k+1-szT tk)→at2 D s t=some ((fd [u] [u']:Nat):Int))
  {f:List (List Int)} (hf:FI ti tk 0 0 f):
  ∃r,dY (fun s=>oN (i:Int) (k:Int) c0 c1 ((i+1-szT ti:Nat):Int) ((k+1-szT tk:Nat):Int) s.1 s.2.1 s.2.2) (((i+1-szT ti:Nat):Int),f,D)=some r∧DI T T' (i+1-szT ti) (k+1-szT tk) (szT tk) (szT ti) 0 D r.2:=by
 have hsi:=(kX [T] hi).1
 have hiT:=vI hi
 refine mJ (fun x s=>s.1=((i+1-szT ti+x:Nat):Int)∧FI ti tk x 0 s.2.1∧DI T T' (i+1-szT ti) (k+1-szT tk) (szT tk) x 0 D s.2.2) _ (szT ti) 0 _ ⟨O,hf,DI.start hD⟩ ?_ ?_
 ·rintro x ⟨a,f,D'⟩ _ hx ⟨e,hf,hd⟩
  simp only at e hf hd
  subst e
  obtain⟨r,h,a1,a2⟩:=row_m h0 h1 A hT' hi hk need (x:=x) (by omega) hf hd
  refine⟨(((i+1-szT ti+(x+1):Nat):Int),r.1,r.2),?_,O,a1,a2⟩
  simp only[oN]
  rw[if_pos (by simp;omega),h]
  simp only[uL]
  rw[dI (by omega)]
  rfl
 rintro⟨a,f,D'⟩ ⟨e,hf,hd⟩
 simp only at e hf hd
 rw[Nat.zero_add] at e hf hd
 subst e
 refine⟨(f,D'),?_,hd⟩
 simp only[oN]
 rw[if_neg (by simp;omega)]
theorem border_m {N M:Nat} (hN:N≤4294967296) (hM:M≤4294967296) (hN0:0<N) {f:List (List Int)} (hf:Dim f N M) (hM0:0<M):
  ∃g,dY (fun s=>lD f s.1 s.2) (0,f)=some g∧Dim g N M∧(∀x,x<N→at2 g x 0=some (x:Int))∧∃r0,idx g 0=some r0∧r0.length=M∧
   ∃g',dY (fun s=>lF r0 s.1 s.2) (0,g)=some g'∧Dim g' N M∧(∀x,x<N→at2 g' x 0=some (x:Int))∧(∀y,y<M→at2 g' 0 y=some (y:Int)):=by
 obtain⟨g,hg,hd,hv⟩:=mJ (body:=fun s=>lD f s.1 s.2) (fun k s=>s.1=(k:Int)∧Dim s.2 N M∧∀x,x<k→at2 s.2 x 0=some (x:Int)) (fun g=>Dim g N M∧∀x,x<N→at2 g x 0=some (x:Int)) N 0 (0,f) ⟨O,hf,fun x h=>by omega⟩
  (by
   rintro x ⟨a,f'⟩ _ B ⟨e,hd,hv⟩
   simp only at e hd hv
   subst e
   obtain⟨r,v,a1,a2,_,a4⟩:=hd.get (s:=x) (t:=0) (by omega) hM0
   refine⟨(((x+1:Nat):Int),f'.set x (r.set 0 (x:Int))),?_,O,hd.set a1 _,fun x' hx'=>?_⟩
   ·simp only[lD]
    rw[if_pos (by simp[hf.rows];omega),bC a1]
    simp only[uL]
    rw[show(0:Int)=((0:Nat):Int) from rfl,bC a2]
    simp only[uL,xL]
    rw[fF (by omega)]
    rfl
   simp only
   rw[xP a1 a2]
   split
   ·rename_i hh;rw[hh.1]
   rename_i hh
   exact hv x' (by omega))
  (by
   rintro⟨a,f'⟩ ⟨e,hd,hv⟩
   simp only at e hd hv
   subst e
   refine⟨f',?_,hd,fun x B=>hv x (by omega)⟩
   simp only[lD]
   rw[if_neg (by simp[hf.rows])])
 obtain⟨r0,v0,b1,b2,_,b4⟩:=hd.get (s:=0) (t:=0) hN0 hM0
 refine⟨g,hg,hd,hv,r0,bC (k:=0) b1,b4,?_⟩
 obtain⟨g',hg',hd',hv',hw'⟩:=mJ (body:=fun s=>lF r0 s.1 s.2) (fun k s=>s.1=(k:Int)∧Dim s.2 N M∧(∀x,x<N→at2 s.2 x 0=some (x:Int))∧∀y,y<k→at2 s.2 0 y=some (y:Int)) (fun g=>Dim g N M∧(∀x,x<N→at2 g x 0=some (x:Int))∧∀y,y<M→at2 g 0 y=some (y:Int)) M 0 (0,g) ⟨O,hd,hv,fun x h=>by omega⟩
  (by
   rintro y ⟨a,f'⟩ _ hy ⟨e,hd,hv,A⟩
   simp only at e hd hv A
   subst e
   obtain⟨r,v,a1,a2,_,a4⟩:=hd.get (s:=0) (t:=y) (by omega) (by omega)
   refine⟨(((y+1:Nat):Int),f'.set 0 (r.set y (y:Int))),?_,O,hd.set a1 _,fun x' hx'=>?_,fun y' hy'=>?_⟩
   ·simp only[lF]
    rw[if_pos (by simp[b4];omega),show(0:Int)=((0:Nat):Int) from rfl,bC a1]
    simp only[uL]
    rw[bC a2]
    simp only[uL,xL]
    rw[fF (by omega)]
    rfl
   ·simp only
    rw[xP a1 a2]
    split
    ·rename_i hh;rw[hh.1,←hh.2]
    exact hv x' hx'
   simp only
   rw[xP a1 a2]
   split
   ·rename_i hh;rw[hh.2]
   rename_i hh
   exact A y' (by omega))
  (by
   rintro⟨a,f'⟩ ⟨e,hd,hv,A⟩
   simp only at e hd hv A
   subst e
   refine⟨f',?_,hd,hv,fun y hy=>A y (by omega)⟩
   simp only[lF]
   rw[if_neg (by simp[b4])])
 exact⟨g',hg',hd',hv',hw'⟩
theorem filler_m (h0:ArrOf c0 T) (h1:ArrOf c1 T') (C:szT T≤100000) (hT':szT T'≤100000) (hi:(po [T])[i]?=some ti) (hk:(po [T'])[k]?=some tk) {D:List (List Int)} (hD:Dim D (szT T) (szT T'))
  (need:∀s t u u',i+1-szT ti≤s→s≤i→k+1-szT tk≤t→t≤k→(po [T])[s]?=some u→(po [T'])[t]?=some u'→¬(lf T s=i+1-szT ti∧lf T' t=k+1-szT tk)→at2 D s t=some ((fd [u] [u']:Nat):Int)):
  ∃D',qC (i:Int) (k:Int) c0 c1 D=some D'∧DI T T' (i+1-szT ti) (k+1-szT tk) (szT tk) (szT ti) 0 D D':=by
 have hsi:=(kX [T] hi).1
 have hsk:=(kX [T'] hk).1
 have hiT:=vI hi
 have hkT:=vI hk
 unfold qC
 rw[bC (h0.left i hiT)]
 simp only[uL]
 rw[bC (h1.left k hkT)]
 simp only[uL]
 rw[yV hi,yV hk,dI (by omega)]
 simp only[uL]
 rw[dI (by omega)]
 simp only[uL]
 rw[dI (by omega)]
 simp only[uL]
 rw[dI (by omega)]
 simp only[uL]
 rw[show(i:Int)-((i+1-szT ti:Nat):Int)+2=((szT ti+1:Nat):Int) by omega,show(k:Int)-((k+1-szT tk:Nat):Int)+2=((szT tk+1:Nat):Int) by omega]
 obtain⟨f,hf,hfd,_⟩:=table_m (szT ti+1) (szT tk+1) (by omega) (by omega)
 rw[hf]
 simp only[uL]
 obtain⟨g,hg,hgd,hgv,r0,hr0,B,g',hg',hd',hv',hw'⟩:=border_m (by omega) (by omega) (by omega) hfd (by omega)
 rw[hg]
 simp only[uL]
 rw[hr0]
 simp only[uL]
 rw[hg']
 simp only[uL]
 have hFI:FI ti tk 0 0 g':=by
  refine⟨hd',fun x' y' a1 a2 a3=>?_⟩
  by_cases A:x'=0
  ·subst A
   rw[hw' y' (by omega),xQ,fd_r0,sz_fr tk a2]
  have:y'=0:=by omega
  subst this
  rw[hv' x' (by omega),xQ,fd_l0,sz_fr ti a1]
 obtain⟨r,hr,hdi⟩:=rows_m h0 h1 C hT' hi hk hD need hFI
 rw[hr]
 exact⟨_,O,hdi⟩
end
mutual
def toT:Node→Tr
 |⟨k,t,_,_,kids⟩=> .node ⟨k,t⟩ (toR kids)
def toR:List Node→List Tr
 | []=>[]
 |n::l=>toR l++[toT n]
end
theorem toT_eq (n:Node):toT n= .node ⟨n.kind,n.text⟩ (toR n.kids):=by obtain⟨a,b,c,d,k⟩:=n;rw[toT]
theorem aI8:toR []=[]:=by rw[toR]
theorem aS2 (n:Node) (l:List Node):toR (n::l)=toR l++[toT n]:=by rw[toR]
theorem toR_app:∀(l m:List Node),toR (l++m)=toR m++toR l
 | [],m=>by simp[aI8]
 |n::l,m=>by rw[List.cons_append,aS2,toR_app l m,aS2,vD]
theorem toR_snoc (l:List Node) (n:Node):toR (l++[n])=toT n::toR l:=by rw[toR_app,aS2,aI8];rfl
theorem toR_take {l:List Node} {i:Nat} {n:Node} (h:l[i]?=some n):toR (l.take (i+1))=toT n::toR (l.take i):=by
 rw[jF h,toR_snoc]
mutual
theorem sO:∀n,szT (toT n)=bK n
 |⟨a,b,c,d,k⟩=>by rw[toT,szT,bK,xO k];omega
theorem xO:∀l,szL (toR l)=gW l
 | []=>by rw[toR,szL,gW]
 |n::l=>by rw[toR,yB,H6,gW,xO l,sO n];omega
end
mutual
def kM:Node→Nat→List Int
 |⟨_,_,_,_,kids⟩,c=>numsL kids (c+1)++[(c:Int)]
def numsL:List Node→Nat→List Int
 | [],_=>[]
 |n::l,c=>kM n c++numsL l (c+bK n)
end
theorem aG3 (n:Node) (c:Nat):kM n c=numsL n.kids (c+1)++[(c:Int)]:=by obtain⟨a,b,e,d,k⟩:=n;rw[kM]
theorem numsL_app:∀(l m:List Node) (c:Nat),numsL (l++m) c=numsL l c++numsL m (c+gW l)
 | [],m,c=>by simp[numsL,gW]
 |n::l,m,c=>by rw[List.cons_append,numsL,numsL,numsL_app l m,gW,vD,Nat.add_assoc]
theorem aQ2 {l:List Node} {i:Nat} {n:Node} (h:l[i]?=some n) (c:Nat):numsL (l.take (i+1)) c=numsL (l.take i) c++kM n (c+gW (l.take i)):=by
 rw[jF h,numsL_app,numsL,numsL,List.append_nil]
mutual
theorem xI:∀n c,(kM n c).length=bK n
 |⟨a,b,e,d,k⟩,c=>by rw[kM,uW,tK k,bK];simp;omega
theorem tK:∀l c,(numsL l c).length=gW l
 | [],c=>by rw[numsL,gW];rfl
 |n::l,c=>by rw[numsL,uW,xI n,tK l,gW]
end
mutual
theorem aG4:∀n c x,x∈kM n c↔(c:Int)≤x∧x<((c+bK n:Nat):Int)
 |⟨a,b,e,d,k⟩,c,x=>by
  rw[kM,List.mem_append,aO2 k,bK,List.mem_singleton];omega
theorem aO2:∀l c x,x∈numsL l c↔(c:Int)≤x∧x<((c+gW l:Nat):Int)
 | [],c,x=>by rw[numsL,gW];simp
 |n::l,c,x=>by
  rw[numsL,List.mem_append,aG4 n,aO2 l,gW];omega
end
mutual
theorem aM1:∀n c,(kM n c).Nodup
 |⟨a,b,e,d,k⟩,c=>by
  rw[kM,List.nodup_append]
  refine⟨nums_nodupL k _,by simp,fun x A y hy=>?_⟩
  rw[aO2] at A
  rw[List.mem_singleton] at hy
  omega
theorem nums_nodupL:∀l c,(numsL l c).Nodup
 | [],c=>by rw[numsL];exact List.nodup_nil
 |n::l,c=>by
  rw[numsL,List.nodup_append]
  refine⟨aM1 n _,nums_nodupL l _,fun x A y hy=>?_⟩
  rw[aG4] at A
  rw[aO2] at hy
  omega
end
def lefts:Nat→List Tr→List Int
 |_,[]=>[]
 |b,u::l=>((b+1-szT u:Nat):Int)::lefts (b+1) l
theorem J9:∀(b:Nat) (l m:List Tr),lefts b (l++m)=lefts b l++lefts (b+l.length) m
 |b,[],m=>rfl
 |b,u::l,m=>by
  rw[List.cons_append,lefts,lefts,J9 (b+1) l m,uA0,List.cons_append]
  congr 3;omega
theorem F6:∀(b:Nat) (l:List Tr),(lefts b l).length=l.length
 |b,[]=>rfl
 |b,u::l=>by rw[lefts,uA0,F6,uA0]
theorem lefts_get:∀(b:Nat) (l:List Tr) (s:Nat) (u:Tr),l[s]?=some u→(lefts b l)[s]?=some ((b+s+1-szT u:Nat):Int)
 |b,u::l,0,v,h=>by simp only[List.getElem?_cons_zero,wA] at h;subst h;rfl
 |b,u::l,s+1,v,h=>by
  simp only[List.getElem?_cons_succ] at h
  rw[lefts,List.getElem?_cons_succ,lefts_get (b+1) l s v h,show b+1+s=b+(s+1) by omega]
theorem walk_m:∀(f:Nat) (n:Node),SizeOf.sizeOf n<f→∀(c B:Nat) (g:DFlat),g.labels.length=B→g.left.length=B→g.numbers.length=B→B+bK n≤100000→c+bK n≤100000→
  mD f n (c:Int) g=some (((c+bK n:Nat):Int),⟨g.labels++(po [toT n]).map labT,g.left++lefts B (po [toT n]),g.numbers++kM n c⟩):=by
 intro f
 induction f with
 |zero=>intro n h;omega
 |succ f ih=>
  intro n hsz c B g h1 h2 h3 hB hc
  have hcnt:=pG n
  unfold mD qP
  rw[fF (by omega)]
  simp only[uL]
  refine zB (fun i=>((i:Int),((c+1+gW (n.kids.take i):Nat):Int),g.labels++(po (toR (n.kids.take i))).map labT,g.left++lefts B (po (toR (n.kids.take i))),g.numbers++numsL (n.kids.take i) (c+1))) n.kids.length
   (((c+1+gW n.kids:Nat):Int),g.labels++(po (toR n.kids)).map labT,g.left++lefts B (po (toR n.kids)),g.numbers++numsL n.kids (c+1)) ?_ ?_ ?_ ?_
  ·simp[aI8,po_nil,lefts,numsL,gW]
  ·intro i hi
   obtain⟨x,A⟩:=dE hi
   have e1:=zG A
   have e2:=aD3 n.kids (i+1)
   have e4:=wY n.kids
   simp only[nO]
   rw[if_pos (by simp;omega),bC A]
   simp only[uL]
   rw[ih x (by have:=aD5 A;omega) (c+1+gW (n.kids.take i)) (B+gW (n.kids.take i)) _ (by simp[vY,xO,h1]) (by simp[F6,vY,xO,h2]) (by simp[tK,h3]) (by omega) (by omega)]
   simp only[uL]
   rw[fF (by omega)]
   simp only[uL]
   rw[toR_take A,po_cons (toT x) (toR (n.kids.take i)),aQ2 A,List.map_append,J9,vY,xO,e1]
   simp only[vD,Nat.add_assoc]
  ·simp only[nO]
   rw[if_neg (by simp),wN (zP _)]
  have l1:(g.labels++(po (toR n.kids)).map labT).length=B+gW n.kids:=by simp[vY,xO,h1]
  have l2:(g.left++lefts B (po (toR n.kids))).length=B+gW n.kids:=by simp[F6,vY,xO,h2]
  have l3:(g.numbers++numsL n.kids (c+1)).length=B+gW n.kids:=by simp[tK,h3]
  simp only
  rw[yC (by rw[l1];simp;omega)]
  simp only[uL]
  rw[yC (by rw[l2];simp;omega)]
  simp only[uL]
  rw[yC (by rw[l3];simp;omega)]
  simp only[uL]
  have e3:=sO n
  rw[aI5,J9,vY,toT_eq,aG3]
  simp only[J3,labT,List.map_append,List.map_cons,List.map_nil,vD,lefts]
  rw[←toT_eq,e3,xO,h1]
  congr 3
  ·omega
  congr 3;omega
theorem flatten_m (n:Node) (h:bK n≤100000):qZ n=some ⟨(po [toT n]).map labT,lefts 0 (po [toT n]),kM n 0⟩:=by
 unfold qZ yX
 have:=walk_m (SizeOf.sizeOf n+1) n (by omega) 0 0 ⟨[],[],[]⟩ O O O (by omega) (by omega)
 simp only[Nat.zero_add,List.nil_append] at this
 rw[show((0:Nat):Int)=0 from rfl] at this
 rw[this]
 rfl
theorem arrOf (n:Node):ArrOf ⟨(po [toT n]).map labT,lefts 0 (po [toT n]),kM n 0⟩ (toT n):=by
 refine⟨O,fun s hs=>?_,by simp[F6,uD]⟩
 obtain⟨u,hu,_⟩:=at_lt hs
 rw[yV hu]
 have:=lefts_get 0 (po [toT n]) s u hu
 rw[Nat.zero_add] at this
 exact this
def aA7 (T:Tr) (i:Nat):Prop:=i<szT T∧∀j,i<j→j<szT T→lf T j≠lf T i
theorem root_of (T:Tr):∀(m s:Nat),s<szT T→szT T-s≤m→∃r,aA7 T r∧lf T r=lf T s∧s≤r
 |0,s,h,h2=>by omega
 |m+1,s,h,h2=>by
  by_cases hr:aA7 T s
  ·exact⟨s,hr,O,zP _⟩
  unfold aA7 at hr
  have:∃j,s<j∧j<szT T∧lf T j=lf T s:=by
   apply Classical.byContradiction
   intro hn
   exact hr ⟨h,fun j h1 h3 e=>hn ⟨j,h1,h3,e⟩⟩
  obtain⟨j,h1,h3,e⟩:=this
  obtain⟨r,a1,a2,a3⟩:=root_of T m j h3 (by omega)
  exact⟨r,a1,a2.trans e,by omega⟩
theorem root_uniq {T:Tr} {i j:Nat} (hi:aA7 T i) (A:aA7 T j) (e:lf T i=lf T j):i=j:=by
 rcases Nat.lt_trichotomy i j with h|h|h
 ·exact absurd e.symm (hi.2 j h A.1)
 ·exact h
 exact absurd e (A.2 i h hi.1)
theorem lf_le {T:Tr} {s:Nat} (h:s<szT T):lf T s≤s:=by
 obtain⟨u,hu,h2⟩:=at_lt h
 have:=pR u
 rw[yV hu];omega
theorem laminar {T:Tr} {i j:Nat} (h:i<j) (B:j<szT T):lf T j≤lf T i∨i<lf T j:=by
 obtain⟨t,ht,h2⟩:=at_lt B
 have pt:=pR t
 by_cases A:i<lf T j
 ·exact Or.inr A
 left
 rw[yV ht] at A⊢
 obtain⟨u,hu,h3⟩:=at_lt (T:=T) (s:=i) (by omega)
 have e:=aI7 ht (x:=i-(j+1-szT t)) (by omega)
 rw[show j+1-szT t+(i-(j+1-szT t))=i by omega,hu] at e
 have:=(kX [t] e).1
 have pu:=pR u
 rw[yV hu];omega
theorem root_in {T:Tr} {i s r:Nat} (hi:aA7 T i) (h1:lf T i≤s) (h2:s≤i) (hr:aA7 T r) (e:lf T r=lf T s):r≤i:=by
 apply Classical.byContradiction
 intro hn
 have hs:=lf_le (T:=T) (s:=s) (by have:=hi.1;omega)
 have a:=laminar (T:=T) (i:=i) (j:=r) (by omega) hr.1
 have b:lf T i≤lf T s:=by
  rcases xV s i with h|h
  ·rcases laminar h hi.1 with h3|h3<;>omega
  rw[show s=i by omega];exact zP _
 exact hi.2 r (by omega) hr.1 (by omega)
theorem mem_mget {κ β:Type} [DecidableEq κ] {l:List (κ×β)} (hn:(l.map (·.1)).Nodup) {a:κ} {b:β}:(a,b)∈l↔jW l a=some b:=by
 constructor
 ·intro h
  obtain⟨j,B⟩:=List.getElem?_of_mem h
  exact mget_at hn B
 intro h
 unfold jW at h
 obtain⟨p,A,e⟩:=Option.map_eq_some_iff.1 h
 have h1:=List.mem_of_find?_eq_some A
 have h2:=List.find?_some A
 simp only[decide_eq_true_eq] at h2
 obtain⟨x,y⟩:=p
 simp only at h2 e
 subst h2;subst e;exact h1
theorem sortedN {l:List Int} (h:l.Nodup):(l.mergeSort fun x y=>decide (x≤y)).Pairwise (· < ·):=by
 have h1:(l.mergeSort fun x y=>decide (x≤y)).Pairwise fun a b=>decide (a≤b)=true:=List.pairwise_mergeSort (fun a b c h k=>by simp at*;omega) (fun a b=>by simp;omega) l
 have h2:(l.mergeSort fun x y=>decide (x≤y)).Nodup:=(List.mergeSort_perm l _).nodup_iff.2 h
 exact(h1.and h2).imp fun h=>by
  have:=h.1
  simp at this
  have:=h.2
  omega
structure Roots (T:Tr) (R:List Nat):Prop where
 rise:R.Pairwise (· < ·)
 mem:∀i,i∈R↔aA7 T i
theorem roots_m {c:DFlat} {T:Tr} (h:ArrOf c T) (hT:szT T≤100000):∃R,kS c=some (R.map fun i:Nat=>(i:Int))∧Roots T R∧R.length≤szT T:=by
 unfold kS
 obtain⟨l,D,hn,hg,hlen⟩:=mJ (body:=fun s=>mV c s.1 s.2) (fun k s=>s.1=(k:Int)∧(s.2.map (·.1)).Nodup∧(∀a b,jW s.2 a=some b↔∃i:Nat,i<k∧b=(i:Int)∧a=((lf T i:Nat):Int)∧∀j,i<j→j<k→lf T j≠lf T i)∧s.2.length≤k)
  (fun l=>(l.map (·.1)).Nodup∧(∀a b,jW l a=some b↔∃i:Nat,i<szT T∧b=(i:Int)∧a=((lf T i:Nat):Int)∧∀j,i<j→j<szT T→lf T j≠lf T i)∧l.length≤szT T) (szT T) 0 (0,[])
  ⟨O,List.nodup_nil,fun a b=>by simp[jW],zP _⟩
  (by
   rintro k ⟨x,l⟩ _ hk ⟨e,hn,hg,hlen⟩
   simp only at e hn hg hlen
   subst e
   refine⟨(((k+1:Nat):Int),Q7 l ((lf T k:Nat):Int) (k:Int)),?_,O,mput_nodup hn _ _,fun a b=>?_,?_⟩
   ·simp only[mV]
    rw[if_pos (by simp[h.leftn];omega),bC (h.left k (by omega))]
    simp only[uL]
    rw[fF (by omega)]
    rfl
   ·simp only
    rw[mget_put]
    split
    ·rename_i ha
     subst ha
     constructor
     ·intro hb
      exact⟨k,by omega,(wD hb).symm,O,fun j h1 h2=>by omega⟩
     rintro⟨i,h1,rfl,h3,h4⟩
     by_cases hik:i=k
     ·rw[hik]
     exact absurd (by omega) (h4 k (by omega) (by omega))
    rename_i ha
    rw[hg]
    constructor
    ·rintro⟨i,h1,h2,h3,h4⟩
     refine⟨i,by omega,h2,h3,fun j a1 a2=>?_⟩
     by_cases hjk:j=k
     ·subst hjk;intro e;apply ha;rw[h3,e]
     exact h4 j a1 (by omega)
    rintro⟨i,h1,h2,h3,h4⟩
    have hik:i≠k:=fun e=>by subst e;exact ha h3
    exact⟨i,by omega,h2,h3,fun j a1 a2=>h4 j a1 (by omega)⟩
   have:=mput_len2 l ((lf T k:Nat):Int) (k:Int)
   simp only;omega)
  (by
   rintro⟨x,l⟩ ⟨e,hn,hg,hlen⟩
   simp only at e hn hg hlen
   rw[Nat.zero_add] at e hg hlen
   subst e
   refine⟨l,?_,hn,hg,hlen⟩
   simp only[mV]
   rw[if_neg (by simp[h.leftn])])
 rw[D]
 simp only[uL]
 have hmem:∀p∈l,∃i:Nat,i<szT T∧p=(((lf T i:Nat):Int),(i:Int))∧∀j,i<j→j<szT T→lf T j≠lf T i:=fun p A=>by
  obtain⟨i,a1,a2,a3,a4⟩:=(hg p.1 p.2).1 ((mem_mget hn).1 A)
  exact⟨i,a1,by rw[←a2,←a3],a4⟩
 unfold X7
 rw[if_pos ⟨List.all_eq_true.2 fun p A=>by
  obtain⟨i,a1,rfl,_⟩:=hmem p A
  have:=lf_le a1
  simp only[Bool.and_eq_true,decide_eq_true_eq]
  omega,by omega⟩]
 simp only[uL]
 have hnd:(l.map (·.2)).Nodup:=by
  rw[List.nodup_iff_pairwise_ne,List.pairwise_map]
  rw[List.nodup_iff_pairwise_ne,List.pairwise_map] at hn
  refine List.Pairwise.imp_of_mem (fun{p q} A hq hne=>?_) hn
  obtain⟨i,a1,rfl,_⟩:=hmem p A
  obtain⟨j,b1,rfl,_⟩:=hmem q hq
  simp only at hne⊢
  intro e
  apply hne
  have:i=j:=by omega
  rw[this]
 have hs:=sortedN hnd
 have B:∀x,x∈((l.map (·.2)).mergeSort fun x y=>decide (x≤y))↔∃i:Nat,x=(i:Int)∧aA7 T i:=fun x=>by
  rw[List.mem_mergeSort,List.mem_map]
  constructor
  ·rintro⟨p,A,rfl⟩
   obtain⟨i,a1,rfl,a3⟩:=hmem p A
   exact⟨i,O,a1,a3⟩
  rintro⟨i,rfl,h1,h2⟩
  exact⟨(((lf T i:Nat):Int),(i:Int)),(mem_mget hn).2 ((hg _ _).2 ⟨i,h1,O,O,h2⟩),O⟩
 rw[isort_eq]
 have hvl:((l.map (·.2)).mergeSort fun x y=>decide (x≤y)).length≤szT T:=by rw[List.length_mergeSort,List.length_map];exact hlen
 generalize (l.map (·.2)).mergeSort (fun x y=>decide (x≤y))=V at hs B hvl⊢
 refine⟨V.map Int.toNat,?_,⟨?_,fun i=>?_⟩,by rw[List.length_map];exact hvl⟩
 ·rw[List.map_map]
  have:V.map ((fun i:Nat=>(i:Int))∘Int.toNat)=V.map id:=List.map_congr_left fun x C=>by
   obtain⟨i,rfl,_⟩:=(B x).1 C
   simp
  rw[this,List.map_id]
 ·rw[List.pairwise_map]
  refine List.Pairwise.imp_of_mem (fun{a b} ha hb hab=>?_) hs
  obtain⟨i,rfl,_⟩:=(B a).1 ha
  obtain⟨j,rfl,_⟩:=(B b).1 hb
  omega
 rw[List.mem_map]
 constructor
 ·rintro⟨x,C,rfl⟩
  obtain⟨j,rfl,h2⟩:=(B x).1 C
  simpa using h2
 intro hi
 exact⟨(i:Int),(B _).2 ⟨i,O,hi⟩,by simp⟩
structure Good (T T':Tr) (R R':List Nat) (a b:Nat) (D:List (List Int)):Prop where
 dim:Dim D (szT T) (szT T')
 val:∀s t u u' r r',(po [T])[s]?=some u→(po [T'])[t]?=some u'→aA7 T r→lf T r=lf T s→aA7 T' r'→lf T' r'=lf T' t→
  (r∈R.take a∨R[a]?=some r∧r'∈R'.take b)→at2 D s t=some ((fd [u] [u']:Nat):Int)
theorem rise_before {R:List Nat} (h:R.Pairwise (· < ·)) {a i r:Nat} (ha:R[a]?=some i) (hr:r∈R) (hlt:r<i):r∈R.take a:=by
 obtain⟨j,A⟩:=List.getElem?_of_mem hr
 obtain⟨h1,h2⟩:=uR.1 A
 obtain⟨h3,h4⟩:=uR.1 ha
 rw[xS] at h
 have:j<a:=by
  rcases Nat.lt_trichotomy j a with hh|hh|hh
  ·exact hh
  ·subst hh;omega
  have:=h a j h3 h1 hh;omega
 exact vL (i:=j) (by rw[xD,if_pos this];exact A)
theorem rise_take {R:List Nat} {a i r:Nat} (ha:R[a]?=some i):r∈R.take (a+1)↔r∈R.take a∨r=i:=by
 rw[jF ha,List.mem_append,List.mem_singleton]
theorem pair_m {c0 c1:DFlat} {T T':Tr} {R R':List Nat} (h0:ArrOf c0 T) (h1:ArrOf c1 T') (B:szT T≤100000) (hT':szT T'≤100000) (A:Roots T R) (hR':Roots T' R') {a b i k:Nat} (ha:R[a]?=some i) (hb:R'[b]?=some k) {D:List (List Int)} (hD:Good T T' R R' a b D):
  ∃D',qC (i:Int) (k:Int) c0 c1 D=some D'∧Good T T' R R' a (b+1) D':=by
 have ri:=(A.mem i).1 (vL ha)
 have rk:=(hR'.mem k).1 (vL hb)
 obtain⟨ti,hti,si⟩:=at_lt ri.1
 obtain⟨tk,htk,sk⟩:=at_lt rk.1
 have pi:=pR ti
 have pk:=pR tk
 have ei:=yV hti
 have ek:=yV htk
 obtain⟨D',hD',hd⟩:=filler_m h0 h1 B hT' hti htk hD.dim (fun s t u u' a1 a2 a3 a4 hu hu' hne=>by
  have ls:=vI hu
  have lt:=vI hu'
  obtain⟨r,b1,b2,b3⟩:=root_of T _ s ls (zP _)
  obtain⟨r',c1,c2,c3⟩:=root_of T' _ t lt (zP _)
  have d1:=root_in ri (by rw[ei];exact a1) a2 b1 b2
  have d2:=root_in rk (by rw[ek];exact a3) a4 c1 c2
  refine hD.val s t u u' r r' hu hu' b1 b2 c1 c2 ?_
  rcases xV r i with h|h
  ·exact Or.inl (rise_before A.rise ha ((A.mem r).2 b1) h)
  have:r=i:=by omega
  subst this
  refine Or.inr ⟨ha,rise_before hR'.rise hb ((hR'.mem r').2 c1) ?_⟩
  rcases xV r' k with h2|h2
  ·exact h2
  have:r'=k:=by omega
  subst this
  exact absurd ⟨by rw[←b2,ei],by rw[←c2,ek]⟩ hne)
 refine⟨D',hD',hd.dim,fun s t u u' r r' hu hu' b1 b2 c1 c2 hr=>?_⟩
 have ls:=vI hu
 have lt:=vI hu'
 by_cases hik:r=i∧r'=k
 ·obtain⟨rfl,rfl⟩:=hik
  refine hd.new s t u u' hu hu' ?_ (by rw[←b2,ei]) (by rw[←c2,ek])
  have e1:=lf_le ls
  have e2:=lf_le lt
  have f1:s≤r:=by
   apply Classical.byContradiction
   intro hn
   exact b1.2 s (by omega) ls b2.symm
  have f2:t≤r':=by
   apply Classical.byContradiction
   intro hn
   exact c1.2 t (by omega) lt c2.symm
  unfold come
  omega
 rw[hd.old s t (fun hh=>hik ⟨root_uniq b1 ri (by rw[b2,hh.2.1,ei]),root_uniq c1 rk (by rw[c2,hh.2.2,ek])⟩)]
 refine hD.val s t u u' r r' hu hu' b1 b2 c1 c2 ?_
 rcases hr with hr|⟨hr,hr2⟩
 ·exact Or.inl hr
 rcases(rise_take hb).1 hr2 with h|h
 ·exact Or.inr ⟨hr,h⟩
 rw[ha] at hr
 exact absurd ⟨(wD hr).symm,h⟩ hik
theorem pairs_m {c0 c1:DFlat} {T T':Tr} {R R':List Nat} (h0:ArrOf c0 T) (h1:ArrOf c1 T') (B:szT T≤100000) (hT':szT T'≤100000) (A:Roots T R) (hR':Roots T' R') (hroots:kS c1=some (R'.map fun i:Nat=>(i:Int)))
  (hl:R.length≤100000) (hl':R'.length≤100000) {D:List (List Int)} (hD:Dim D (szT T) (szT T')):
  ∃D',dY (fun s=>oO c0 c1 (R.map fun i:Nat=>(i:Int)) s.1 s.2) (0,D)=some D'∧Dim D' (szT T) (szT T')∧∀s t u u',(po [T])[s]?=some u→(po [T'])[t]?=some u'→at2 D' s t=some ((fd [u] [u']:Nat):Int):=by
 refine mJ (fun a s=>s.1=(a:Int)∧Good T T' R R' a 0 s.2) _ R.length 0 _ ⟨O,hD,fun s t u u' r r' _ _ _ _ _ _ h=>by simp at h⟩ ?_ ?_
 ·rintro a ⟨x,D⟩ _ ha ⟨e,hg⟩
  simp only at e hg
  subst e
  obtain⟨i,hi⟩:=dE (l:=R) (k:=a) (by omega)
  obtain⟨D',hD',hg'⟩:=mJ (body:=fun s=>oP c0 c1 (i:Int) (R'.map fun i:Nat=>(i:Int)) s.1 s.2) (fun b s=>s.1=(b:Int)∧Good T T' R R' a b s.2) (fun D=>Good T T' R R' (a+1) 0 D) R'.length 0 (0,D) ⟨O,hg⟩
   (by
    rintro b ⟨x,D⟩ _ hb ⟨e,hg⟩
    simp only at e hg
    subst e
    obtain⟨k,hk⟩:=dE (l:=R') (k:=b) (by omega)
    obtain⟨D',hD',hg'⟩:=pair_m h0 h1 B hT' A hR' hi hk hg
    refine⟨(((b+1:Nat):Int),D'),?_,O,hg'⟩
    simp only[oP]
    rw[if_pos (by simp;omega),bC (by rw[xF,hk];rfl)]
    simp only[uL]
    rw[hD']
    simp only[uL]
    rw[fF (by omega)]
    rfl)
   (by
    rintro⟨x,D⟩ ⟨e,hg⟩
    simp only at e hg
    rw[Nat.zero_add] at e hg
    subst e
    refine⟨D,?_,hg.dim,fun s t u u' r r' hu hu' b1 b2 c1 c2 hr=>?_⟩
    ·simp only[oP]
     rw[if_neg (by simp)]
    refine hg.val s t u u' r r' hu hu' b1 b2 c1 c2 ?_
    rcases hr with hr|hr
    ·rcases(rise_take hi).1 hr with h|h
     ·exact Or.inl h
     subst h
     exact Or.inr ⟨hi,by rw[wN (zP _)];exact(hR'.mem r').2 c1⟩
    simp at hr)
  refine⟨(((a+1:Nat):Int),D'),?_,O,hg'⟩
  simp only[oO]
  rw[if_pos (by simp;omega),bC (by rw[xF,hi];rfl)]
  simp only[uL]
  rw[hroots]
  simp only[uL]
  rw[hD']
  simp only[uL]
  rw[fF (by omega)]
  rfl
 rintro⟨x,D⟩ ⟨e,hg⟩
 simp only at e hg
 rw[Nat.zero_add] at e hg
 subst e
 refine⟨D,?_,hg.dim,fun s t u u' hu hu'=>?_⟩
 ·simp only[oO]
  rw[if_neg (by simp)]
 obtain⟨r,b1,b2,b3⟩:=root_of T _ s (vI hu) (zP _)
 obtain⟨r',c1,c2,c3⟩:=root_of T' _ t (vI hu') (zP _)
 exact hg.val s t u u' r r' hu hu' b1 b2 c1 c2 (Or.inl (by rw[wN (zP _)];exact(A.mem r).2 b1))
structure Nums (ns:List Int) (N:Nat):Prop where
 len:ns.length=N
 rng:∀x∈ns,0≤x∧x<(N:Int)
 nodup:ns.Nodup
theorem nums_of (n:Node):Nums (kM n 0) (bK n):=⟨xI n 0,fun x A=>by have:=(aG4 n 0 x).1 A;omega,aM1 n 0⟩
theorem Nums.inj {ns:List Int} {N:Nat} (h:Nums ns N) {s t:Nat} {x y:Int} (hs:ns[s]?=some x) (ht:ns[t]?=some y) (e:x.toNat=y.toNat):s=t:=by
 have h1:=h.rng x (vL hs)
 have h2:=h.rng y (vL ht)
 have:x=y:=by omega
 subst this
 exact(List.getElem?_inj (uR.1 hs).1 h.nodup).1 (hs.trans ht.symm)
structure Wrote (D:List (List Int)) (ns ns':List Int) (N N' i k:Nat) (out:List (List Int)):Prop where
 dim:Dim out N N'
 val:∀s t x y d,ns[s]?=some x→ns'[t]?=some y→at2 D s t=some d→(s<i∨s=i∧t<k)→at2 out x.toNat y.toNat=some d
theorem Wrote.step {D:List (List Int)} {ns ns':List Int} {N N' i k:Nat} {out:List (List Int)} (hn:Nums ns N) (hn':Nums ns' N') (h:Wrote D ns ns' N N' i k out) {x y d d0:Int} {r:List Int} (B:ns[i]?=some x) (hy:ns'[k]?=some y) (hd:at2 D i k=some d)
  (hr:out[x.toNat]?=some r) (hd0:r[y.toNat]?=some d0):Wrote D ns ns' N N' i (k+1) (out.set x.toNat (r.set y.toNat d)):=by
 refine⟨h.dim.set hr d,fun s t x' y' d' hx' hy' hd' A=>?_⟩
 rw[xP hr hd0]
 split
 ·rename_i hh
  have e1:=hn.inj hx' B hh.1
  have e2:=hn'.inj hy' hy hh.2
  subst e1;subst e2
  rw[hd] at hd';exact hd'
 rename_i hh
 refine h.val s t x' y' d' hx' hy' hd' ?_
 rcases A with h1|⟨h1,h2⟩
 ·exact Or.inl h1
 subst h1
 refine Or.inr ⟨O,?_⟩
 rcases xV t k with h3|h3
 ·exact h3
 have:t=k:=by omega
 subst this
 rw[B] at hx';rw[hy] at hy'
 exact absurd ⟨by rw[wD hx'],by rw[wD hy']⟩ hh
theorem write_m {c0 c1:DFlat} {D:List (List Int)} {N N':Nat} (hN:N≤100000) (hN':N'≤100000) (hD:Dim D N N') (hn:Nums c0.numbers N) (hn':Nums c1.numbers N') {out:List (List Int)} (E:Dim out N N'):
  ∃out',dY (fun s=>oQ c0 c1 D s.1 s.2) (0,out)=some out'∧Wrote D c0.numbers c1.numbers N N' N 0 out':=by
 refine mJ (fun i s=>s.1=(i:Int)∧Wrote D c0.numbers c1.numbers N N' i 0 s.2) _ N 0 _ ⟨O,E,fun s t x y d _ _ _ h=>by omega⟩ ?_ ?_
 ·rintro i ⟨z,out⟩ _ hi ⟨e,A⟩
  simp only at e A
  subst e
  obtain⟨row,hrow⟩:=dE (l:=D) (k:=i) (by rw[hD.rows];omega)
  have hrl:=hD.cols row (vL hrow)
  obtain⟨x,B⟩:=dE (l:=c0.numbers) (k:=i) (by rw[hn.len];omega)
  have rx:=hn.rng x (vL B)
  obtain⟨o2,h2,hw2⟩:=mJ (body:=fun s=>oU c0 c1 (i:Int) row s.1 s.2) (fun k s=>s.1=(k:Int)∧Wrote D c0.numbers c1.numbers N N' i k s.2) (fun o=>Wrote D c0.numbers c1.numbers N N' (i+1) 0 o) N' 0 (0,out) ⟨O,A⟩
   (by
    rintro k ⟨z,out⟩ _ hk ⟨e,A⟩
    simp only at e A
    subst e
    obtain⟨d,hd⟩:=dE (l:=row) (k:=k) (by rw[hrl];omega)
    obtain⟨y,hy⟩:=dE (l:=c1.numbers) (k:=k) (by rw[hn'.len];omega)
    have ry:=hn'.rng y (vL hy)
    obtain⟨r,v,a1,a2,_,_⟩:=A.dim.get (s:=x.toNat) (t:=y.toNat) (by omega) (by omega)
    refine⟨(((k+1:Nat):Int),out.set x.toNat (r.set y.toNat d)),?_,O,A.step hn hn' B hy (by unfold at2;rw[hrow];exact hd) a1 a2⟩
    simp only[oU]
    rw[if_pos (by simp[hrl];omega),bC hd]
    simp only[uL]
    rw[bC B]
    simp only[uL]
    rw[V4 rx.1 a1]
    simp only[uL]
    rw[bC hy]
    simp only[uL]
    rw[V4 ry.1 a2]
    simp only[uL]
    rw[fF (by omega)]
    rfl)
   (by
    rintro⟨z,out⟩ ⟨e,A⟩
    simp only at e A
    rw[Nat.zero_add] at e A
    subst e
    refine⟨out,?_,A.dim,fun s t x y d B hy hd C=>A.val s t x y d B hy hd ?_⟩
    ·simp only[oU]
     rw[if_neg (by simp[hrl])]
    have:=(uR.1 hy).1
    rw[hn'.len] at this
    omega)
  refine⟨(((i+1:Nat):Int),o2),?_,O,hw2⟩
  simp only[oQ]
  rw[if_pos (by simp[hD.rows];omega),bC hrow]
  simp only[uL]
  rw[h2]
  simp only[uL]
  rw[fF (by omega)]
  rfl
 rintro⟨z,out⟩ ⟨e,A⟩
 simp only at e A
 rw[Nat.zero_add] at e A
 subst e
 refine⟨out,?_,A⟩
 simp only[oQ]
 rw[if_neg (by simp[hD.rows])]
structure SubOf (a b:Node) (out:List (List Int)):Prop where
 dim:Dim out (bK a) (bK b)
 val:∀(s t:Nat) (u u':Tr) (x y:Int),(po [toT a])[s]?=some u→(po [toT b])[t]?=some u'→(kM a 0)[s]?=some x→(kM b 0)[t]?=some y→at2 out x.toNat y.toNat=some ((fd [u] [u']:Nat):Int)
def td (a b:Node):Nat:=fd [toT a] [toT b]
theorem aO5 (n:Node):(po [toT n])[bK n-1]?=some (toT n)∧(kM n 0)[bK n-1]?=some 0:=by
 have h:=pG n
 rw[aI5,aG3]
 have hk:J3 (toT n)=toR n.kids:=by rw[toT_eq];rfl
 rw[hk]
 have l1:(po (toR n.kids)).length=gW n.kids:=by rw[vY,xO]
 have l2:(numsL n.kids (0+1)).length=gW n.kids:=tK _ _
 constructor
 ·rw[vE (by omega),l1]
  simp[show bK n-1-gW n.kids=0 by omega]
 rw[vE (by omega),l2]
 simp[show bK n-1-gW n.kids=0 by omega]
theorem SubOf.top {a b:Node} {out:List (List Int)} (h:SubOf a b out):∃r,idx out 0=some r∧idx r 0=some ((td a b:Nat):Int):=by
 have ha:=pG a
 have hb:=pG b
 obtain⟨r,v,h1,h2,h3,_⟩:=h.dim.get (s:=0) (t:=0) (by omega) (by omega)
 have:=h.val _ _ _ _ _ _ (aO5 a).1 (aO5 b).1 (aO5 a).2 (aO5 b).2
 simp only[Int.toNat_zero] at this
 rw[h3] at this
 refine⟨r,bC (k:=0) h1,?_⟩
 rw[show(0:Int)=((0:Nat):Int) from rfl,bC h2,wD this];rfl
theorem subtrees_m (a b:Node) (ha:bK a≤100000) (hb:bK b≤100000):∃out,sW a b=some out∧SubOf a b out:=by
 unfold sW
 rw[flatten_m a ha]
 simp only[uL]
 rw[flatten_m b hb]
 simp only[uL]
 have h0:=arrOf a
 have h1:=arrOf b
 have sa:=sO a
 have sb:=sO b
 have na:Nums (DFlat.mk ((po [toT a]).map labT) (lefts 0 (po [toT a])) (kM a 0)).numbers (bK a):=nums_of a
 have nb:Nums (DFlat.mk ((po [toT b]).map labT) (lefts 0 (po [toT b])) (kM b 0)).numbers (bK b):=nums_of b
 have qa:((po [toT a]).map labT).length=bK a:=by simp[uD,sa]
 have qb:((po [toT b]).map labT).length=bK b:=by simp[uD,sb]
 have la:(DFlat.mk ((po [toT a]).map labT) (lefts 0 (po [toT a])) (kM a 0)).labels.length=bK a:=by simp[uD,sa]
 have lb:(DFlat.mk ((po [toT b]).map labT) (lefts 0 (po [toT b])) (kM b 0)).labels.length=bK b:=by simp[uD,sb]
 have ea:(DFlat.mk ((po [toT a]).map labT) (lefts 0 (po [toT a])) (kM a 0)).numbers=kM a 0:=rfl
 have eb:(DFlat.mk ((po [toT b]).map labT) (lefts 0 (po [toT b])) (kM b 0)).numbers=kM b 0:=rfl
 generalize DFlat.mk ((po [toT a]).map labT) (lefts 0 (po [toT a])) (kM a 0)=c0 at*
 generalize DFlat.mk ((po [toT b]).map labT) (lefts 0 (po [toT b])) (kM b 0)=c1 at*
 simp only[qa,qb]
 obtain⟨D,hD,hdim,_⟩:=table_m (bK a) (bK b) (by omega) (by omega)
 rw[hD]
 simp only[uL,xZ]
 obtain⟨R,E,hr,hrl⟩:=roots_m h0 (by omega)
 obtain⟨R',hR',hr',hrl'⟩:=roots_m h1 (by omega)
 rw[E]
 simp only[uL]
 obtain⟨D',hD',hdim',hval⟩:=pairs_m h0 h1 (by omega) (by omega) hr hr' hR' (by omega) (by omega) (by rw[sa,sb];exact hdim)
 rw[hD']
 simp only[uL]
 rw[sa,sb] at hdim'
 obtain⟨out,C,A⟩:=write_m ha hb hdim' na nb hdim
 rw[C]
 refine⟨out,O,A.dim,fun s t u u' x y hu hu' B hy=>?_⟩
 refine A.val s t x y _ (by rw[ea];exact B) (by rw[eb];exact hy) (hval s t u u' hu hu') (Or.inl ?_)
 have:=vI hu
 omega
theorem large1_m (n:Node) (h:bK n≤100000):tX n=some (decide (256<bK n)):=by
 unfold tX aD4
 rw[if_pos (by omega)]
 simp only[uL]
 congr 1
 exact decide_eq_decide.2 (by omega)
theorem large_m (l:List Node) (h:∀n∈l,bK n≤100000) (hl:l.length≤100000):vX l=some (l.any fun n=>decide (256<bK n)):=by
 unfold vX iW jL
 rcases scan_loop (body:=fun s=>gV l s) l (fun n=>decide (256<bK n)) (fun k _=>Out.ret (k:Int)) (Out.brk ())
  (fun k n hk=>by
   have:=(uR.1 hk).1
   simp only[gV]
   rw[if_pos (by simp;omega),bC hk]
   simp only[uL]
   rw[large1_m n (h n (vL hk))]
   simp only[uL]
   split
   ·rfl
   rw[fF (by omega)];rfl)
  (by simp only[gV];rw[if_neg (by simp)]) with⟨k,n,_,_,_,h1,_,e⟩|⟨_,h1,_,e⟩
 ·rw[e,h1];simp
 rw[e,h1];simp
theorem not_large {l:List Node} (h:∀n∈l,bK n≤256):(l.any fun n=>decide (256<bK n))=false:=by
 rw[List.any_eq_false]
 intro n hn
 have:=h n hn
 simp;omega
theorem Subtrees_m (a b:Node) (ha:bK a≤256) (hb:bK b≤256):∃out,sV a b=some (out,0)∧SubOf a b out:=by
 unfold sV
 have h:∀n∈[a,b],bK n≤256:=by simp[ha,hb]
 rw[large_m _ (fun n hn=>by have:=h n hn;omega) (by simp),not_large h]
 obtain⟨out,A,hs⟩:=subtrees_m a b (by omega) (by omega)
 simp only[uL]
 rw[if_neg (by simp),A]
 exact⟨out,O,hs⟩
theorem po_node (n:Node):po [toT n]=po (toR n.kids)++[toT n]:=by rw[aI5,toT_eq];rfl
theorem aO6 (l:List Node):(po (toR l)).length=gW l:=by rw[vY,xO]
theorem po_lenN (n:Node):(po [toT n]).length=bK n:=by rw[uD,sO]
theorem po_consR (n:Node) (r:List Node):po (toR (n::r))=po [toT n]++po (toR r):=by rw[aS2,po_app]
theorem numsL_cons (n:Node) (r:List Node) (z:Nat):numsL (n::r) z=kM n z++numsL r (z+bK n):=by rw[numsL]
theorem place_at:(∀(n:Node) (z:Nat) (q:Int) (s:Nat) (u:Tr) (x:Int),(po [toT n])[s]?=some u→(kM n z)[s]?=some x→∃m r,(m,r,x.toNat)∈prN n z q∧toT m=u∧0≤x)∧
  ∀(l:List Node) (z:Nat) (q:Int) (s:Nat) (u:Tr) (x:Int),(po (toR l))[s]?=some u→(numsL l z)[s]?=some x→∃m r,(m,r,x.toNat)∈prL l z q∧toT m=u∧0≤x:=by
 refine aR8 (fun n h z q s u x hu A=>?_) (fun z q s u x hu _=>by rw[aI8,po_nil] at hu;simp at hu) (fun n r h1 h2 z q s u x hu A=>?_)
 ·have l1:=aO6 n.kids
  have l2:=tK n.kids (z+1)
  rw[po_node] at hu
  rw[aG3] at A
  rw[aM2]
  rcases xV s (gW n.kids) with hs|hs
  ·rw[vR (by omega)] at hu A
   obtain⟨m,r,a1,a2⟩:=h (z+1) z s u x hu A
   exact⟨m,r,List.mem_cons_of_mem _ a1,a2⟩
  rw[vE (by omega)] at hu A
  rw[l1] at hu
  rw[l2] at A
  have h0:s-gW n.kids=0:=by
   have:=(uR.1 A).1
   simp only[List.length_singleton] at this
   omega
  rw[h0] at hu A
  simp only[List.getElem?_cons_zero,wA] at hu A
  subst hu A
  exact⟨n,q,by simp,O,by omega⟩
 have l1:=po_lenN n
 have l2:=xI n z
 rw[po_consR] at hu
 rw[numsL_cons] at A
 rw[aG6]
 rcases xV s (bK n) with hs|hs
 ·rw[vR (by omega)] at hu A
  obtain⟨m,r,a1,a2⟩:=h1 z q s u x hu A
  exact⟨m,r,List.mem_append_left _ a1,a2⟩
 rw[vE (by omega),l1] at hu
 rw[vE (by omega),l2] at A
 obtain⟨m,r,a1,a2⟩:=h2 _ q _ u x hu A
 exact⟨m,r,List.mem_append_right _ a1,a2⟩
theorem aG5:(∀(n:Node) (z s:Nat) (u:Tr) (x:Int),(po [toT n])[s]?=some u→(kM n z)[s]?=some x→(z:Int)≤x∧x+szT u≤z+bK n)∧
  ∀(l:List Node) (z s:Nat) (u:Tr) (x:Int),(po (toR l))[s]?=some u→(numsL l z)[s]?=some x→(z:Int)≤x∧x+szT u≤z+gW l:=by
 constructor
 ·intro n z s u x hu A
  obtain⟨m,r,h1,h2,h3⟩:=place_at.1 n z 0 s u x hu A
  obtain⟨j,B⟩:=List.mem_iff_getElem?.1 h1
  obtain⟨a1,a2,_⟩:=pr_at.1 n z 0 j m r _ B
  have:=sO m
  rw[h2] at this
  omega
 intro n z s u x hu A
 obtain⟨m,r,h1,h2,h3⟩:=place_at.2 n z 0 s u x hu A
 obtain⟨j,B⟩:=List.mem_iff_getElem?.1 h1
 obtain⟨a1,a2,_⟩:=pr_at.2 n z 0 j m r _ B
 have:=sO m
 rw[h2] at this
 omega
theorem aO4:(∀(n:Node) (z s t:Nat) (u v:Tr) (x y:Int),(po [toT n])[s]?=some u→(po [toT n])[t]?=some v→(kM n z)[s]?=some x→(kM n z)[t]?=some y→((x<y∧y<x+szT u)↔(t<s∧s<t+szT u))∧(x+szT u≤y→s<t))∧
  ∀(n:List Node) (z s t:Nat) (u v:Tr) (x y:Int),(po (toR n))[s]?=some u→(po (toR n))[t]?=some v→(numsL n z)[s]?=some x→(numsL n z)[t]?=some y→((x<y∧y<x+szT u)↔(t<s∧s<t+szT u))∧(x+szT u≤y→s<t):=by
 refine aR8 (fun n h z s t u v x y hu hv A hy=>?_) (fun z s t u v x y hu _ _ _=>by rw[aI8,po_nil] at hu;simp at hu) (fun n r h1 h2 z s t u v x y hu hv A hy=>?_)
 ·have l1:=aO6 n.kids
  have l2:=tK n.kids (z+1)
  have hc:=pG n
  have pu:=pR u
  have bs:s≤gW n.kids:=by have:=(uR.1 A).1;rw[xI] at this;omega
  have bt:t≤gW n.kids:=by have:=(uR.1 hy).1;rw[xI] at this;omega
  rw[po_node] at hu hv
  rw[aG3] at A hy
  have hroot:∀(s:Nat) (u:Tr) (x:Int),s=gW n.kids→(po (toR n.kids)++[toT n])[s]?=some u→(numsL n.kids (z+1)++[(z:Int)])[s]?=some x→u=toT n∧x=z:=fun s u x e h1 h2=>by
   rw[vE (by omega),l1,e,Nat.sub_self] at h1
   rw[vE (by omega),l2,e,Nat.sub_self] at h2
   simp only[List.getElem?_cons_zero,wA] at h1 h2
   exact⟨h1.symm,h2.symm⟩
  have hsn:=sO n
  rcases xV s (gW n.kids) with hs|hs
  ·rw[vR (by omega)] at hu A
   have b1:=aG5.2 n.kids (z+1) s u x hu A
   rcases xV t (gW n.kids) with ht|ht
   ·rw[vR (by omega)] at hv hy
    exact h (z+1) s t u v x y hu hv A hy
   obtain⟨e1,e2⟩:=hroot t v y (by omega) hv hy
   omega
  obtain⟨e1,e2⟩:=hroot s u x (by omega) hu A
  rw[e1] at*
  rcases xV t (gW n.kids) with ht|ht
  ·rw[vR (by omega)] at hv hy
   have b1:=aG5.2 n.kids (z+1) t v y hv hy
   have pv:=pR v
   omega
  obtain⟨e3,e4⟩:=hroot t v y (by omega) hv hy
  omega
 have l1:=po_lenN n
 have l2:=xI n z
 rw[po_consR] at hu hv
 rw[numsL_cons] at A hy
 rcases xV s (bK n) with hs|hs
 ·rw[vR (by omega)] at hu A
  have b1:=aG5.1 n z s u x hu A
  rcases xV t (bK n) with ht|ht
  ·rw[vR (by omega)] at hv hy
   exact h1 z s t u v x y hu hv A hy
  rw[vE (by omega),l1] at hv
  rw[vE (by omega),l2] at hy
  have b2:=aG5.2 r _ _ v y hv hy
  omega
 rw[vE (by omega),l1] at hu
 rw[vE (by omega),l2] at A
 have b1:=aG5.2 r _ _ u x hu A
 have pu:=pR u
 rcases xV t (bK n) with ht|ht
 ·rw[vR (by omega)] at hv hy
  have b2:=aG5.1 n z t v y hv hy
  have pv:=pR v
  have:=(kX (toR r) hu).1
  omega
 rw[vE (by omega),l1] at hv
 rw[vE (by omega),l2] at hy
 have:=h2 _ _ _ u v x y hu hv A hy
 omega
theorem post_r (X:Nmb):∀(f:Nat) (n:Node) (z:Nat) (q:Int) (O L:List Int),bK n≤f→z+bK n≤100000→O.length+bK n≤100000→O.length=L.length→(∀j m,(prN n z q)[j]?=some m→X.sizes[z+j]?=some (bK m.1:Int))→
  jS f (z:Int) O X L=some (O++kM n z,L++lefts O.length (po [toT n])):=by
 intro f
 induction f with
 |zero=>intro n z q O L h;have:=pG n;omega
 |succ f ih=>
  intro n z q O L hf hz hO hOL hs
  have hc:=pG n
  have hl:=wY n.kids
  have h0:X.sizes[z]?=some (bK n:Int):=hs 0 (n,q,z) (by rw[aM2];rfl)
  unfold jS oC
  rw[fF (by omega),bsn]
  refine zB (fun i=>(((z+1+gW (n.kids.take i):Nat):Int),O++numsL (n.kids.take i) (z+1),L++lefts O.length (po (toR (n.kids.take i))))) n.kids.length (O++numsL n.kids (z+1),L++lefts O.length (po (toR n.kids))) ?_ (fun i hi=>?_) ?_ ?_
  ·simp[aI8,po_nil,lefts,numsL,gW]
  ·obtain⟨x,A⟩:=dE hi
   have e1:=zG A
   have e2:=aD3 n.kids (i+1)
   have e3:=pG x
   have hxs:∀j m,(prN x (z+1+gW (n.kids.take i)) z)[j]?=some m→X.sizes[z+1+gW (n.kids.take i)+j]?=some (bK m.1:Int):=fun j m B=>by
    have:=hs (1+gW (n.kids.take i)+j) m (by
     have t:=prL_take A (z+1) z
     have hlt:=(uR.1 B).1
     have l1:=zO.2 (n.kids.take i) (z+1) z
     have l2:=zO.1 x (z+1+gW (n.kids.take i)) z
     rw[aM2,show 1+gW (n.kids.take i)+j=(gW (n.kids.take i)+j)+1 by omega,List.getElem?_cons_succ]
     have e:prL n.kids (z+1) z=prL (n.kids.take (i+1)) (z+1) z++prL (n.kids.drop (i+1)) (z+1+gW (n.kids.take (i+1))) z:=by
      rw[←prL_app,zR]
     rw[e,t,vR (by rw[uW,l1];omega),vE (by omega),l1,Nat.add_sub_cancel_left]
     exact B)
    rw[←this];congr 1;omega
   have h1:X.sizes[z+1+gW (n.kids.take i)]?=some (bK x:Int):=hxs 0 (x,z,z+1+gW (n.kids.take i)) (by rw[aM2];rfl)
   simp only[kU]
   rw[bC h0,bsn,dI (by omega),bsn,if_pos (by simp;omega),ih x _ z _ _ (by omega) (by omega) (by simp[tK];omega) (by simp[tK,F6,aO6,hOL]) hxs,bsn,bC h1,bsn]
   simp only
   rw[dI (by omega),bsn,toR_take A,po_cons (toT x) (toR (n.kids.take i)),aQ2 A,J9,aO6,e1]
   simp only[vD,uW,tK]
   rw[show((z+1+gW (n.kids.take i):Nat):Int)+(bK x:Int)=((z+1+(gW (n.kids.take i)+bK x):Nat):Int) by omega]
  ·simp only[kU]
   rw[bC h0,bsn,dI (by omega),bsn,wN (zP _),if_neg (by simp;omega)]
  simp only
  rw[yC (by simp[tK];omega),bsn,yC (by simp[F6,aO6];omega),bsn,po_node,J9,aO6,aG3]
  have hsn:=sO n
  simp only[vD,lefts]
  rw[show O.length+gW n.kids+1-szT (toT n)=O.length by omega]
theorem post_m (n:Node) (h:bK n≤100000):nS (nmb (prN n 0 (-1)))=some (kM n 0,lefts 0 (po [toT n])):=by
 unfold nS vW
 have A:(nmb (prN n 0 (-1))).sizes.length=bK n:=by unfold nmb;simp[zO.1]
 have:=post_r (nmb (prN n 0 (-1))) (bK n+1) n 0 (-1) [] [] (by omega) (by omega) (by simpa using h) O (fun j m B=>by
  unfold nmb
  simp only[Nat.zero_add]
  rw[xF,B];rfl)
 rw[show((0:Nat):Int)=0 from rfl] at this
 rw[A,this];simp
theorem repeat_m (n:Nat) (h0:1≤n) (h:n≤20):nX ([(-1)]:List Int) (n:Int)=some (List.replicate n (-1)):=
 match n,h0,h with
 |1,_,_=>by kernel_rfl
 |2,_,_=>by kernel_rfl
 |3,_,_=>by kernel_rfl
 |4,_,_=>by kernel_rfl
 |5,_,_=>by kernel_rfl
 |6,_,_=>by kernel_rfl
 |7,_,_=>by kernel_rfl
 |8,_,_=>by kernel_rfl
 |9,_,_=>by kernel_rfl
 |10,_,_=>by kernel_rfl
 |11,_,_=>by kernel_rfl
 |12,_,_=>by kernel_rfl
 |13,_,_=>by kernel_rfl
 |14,_,_=>by kernel_rfl
 |15,_,_=>by kernel_rfl
 |16,_,_=>by kernel_rfl
 |17,_,_=>by kernel_rfl
 |18,_,_=>by kernel_rfl
 |19,_,_=>by kernel_rfl
 |20,_,_=>by kernel_rfl
 |n+21,_,h=>by omega
theorem up_loop {β:Type} {body:Int→Option (Step Int β)} (p:Nat→Prop) (hit miss:β) (n:Nat):∀(d i:Nat),i+d=n→
  (∀k:Nat,i≤k→k<n→(p k∧body k=some (.done hit))∨(¬p k∧body k=some (.next ((k+1:Nat):Int))))→body (n:Int)=some (.done miss)→
  ((∃k,i≤k∧k<n∧p k)∧dY body (i:Int)=some hit)∨((∀k,i≤k→k<n→¬p k)∧dY body (i:Int)=some miss)
 |0,i,hd,h1,h2=>by
  subst hd
  exact Or.inr ⟨fun k a b=>by omega,sN h2⟩
 |d+1,i,hd,h1,h2=>by
  rcases h1 i (zP _) (by omega) with⟨a,b⟩|⟨a,b⟩
  ·exact Or.inl ⟨⟨i,zP _,by omega,a⟩,sN b⟩
  rw[zX b]
  rcases up_loop p hit miss n d (i+1) (by omega) (fun k x y=>h1 k (by omega) y) h2 with⟨⟨k,x,y,z⟩,e⟩|⟨x,e⟩
  ·exact Or.inl ⟨⟨k,by omega,y,z⟩,e⟩
  refine Or.inr ⟨fun k u v=>?_,e⟩
  rcases xV i k with w|w
  ·exact x k w v
  rwa [show k=i by omega]
structure OkO (nx ny:Nat) (A:List Opn) (o:Opn):Prop where
 fst:A.length<nx→o.a=A.length
 snd:nx≤A.length→o.a= -1∧0≤o.b∧∀q∈A.drop nx,q.b<o.b
 lo: -1≤o.b
 hi:o.b<ny
 inj:0≤o.b→∀q∈A,q.b≠o.b
def Scr (nx ny:Nat) (l:List Opn):Prop:=∀j o,l[j]?=some o→OkO nx ny (l.take j) o
def PrO (sx sy:Nat→Nat) (q o:Opn):Prop:=0≤q.a→0≤q.b→0≤o.a→0≤o.b→q.b<o.b∧(o.a<q.a+sx q.a.toNat↔o.b<q.b+sy q.b.toNat)
structure Vd (nx ny:Nat) (sx sy:Nat→Nat) (l:List Opn):Prop where
 scr:Scr nx ny l
 len:nx≤l.length
 sur:∀b:Nat,b<ny→∃q∈l,q.b=b
 prs:l.Pairwise (PrO sx sy)
def Mk (ny:Nat) (A:List Opn) (m:List Bool):Prop:=m.length=ny∧∀b:Nat,b<ny→(m[b]?=some true↔∃q∈A,q.b=b)
theorem Mk.nil (ny:Nat):Mk ny [] (List.replicate ny false):=⟨by simp,fun b hb=>by simp[List.getElem?_replicate,hb]⟩
theorem Mk.skip {ny:Nat} {A:List Opn} {m:List Bool} {o:Opn} (h:Mk ny A m) (ho:o.b<0):Mk ny (A++[o]) m:=⟨h.1,fun b hb=>by
 rw[h.2 b hb]
 constructor
 ·rintro⟨q,hq,e⟩;exact⟨q,by simp[hq],e⟩
 rintro⟨q,hq,e⟩
 rcases List.mem_append.1 hq with h|h
 ·exact⟨q,h,e⟩
 rw[List.mem_singleton.1 h] at e;omega⟩
theorem Mk.mark {ny:Nat} {A:List Opn} {m:List Bool} {o:Opn} (h:Mk ny A m) (h0:0≤o.b) (h1:o.b<ny):Mk ny (A++[o]) (m.set o.b.toNat true):=⟨by simp[h.1],fun b hb=>by
 rw[List.getElem?_set]
 by_cases e:o.b.toNat=b
 ·rw[if_pos e,if_pos (by rw[h.1];omega)]
  simp only[true_iff]
  exact⟨o,by simp,by omega⟩
 rw[if_neg e,h.2 b hb]
 constructor
 ·rintro⟨q,hq,e⟩;exact⟨q,by simp[hq],e⟩
 rintro⟨q,hq,e2⟩
 rcases List.mem_append.1 hq with h|h
 ·exact⟨q,h,e2⟩
 rw[List.mem_singleton.1 h] at e2;omega⟩
theorem Mk.get {ny:Nat} {A:List Opn} {m:List Bool} {o:Opn} (h:Mk ny A m) (h0:0≤o.b) (h1:o.b<ny):∃x,idx m o.b=some x∧(x=true↔∃q∈A,q.b=o.b):=by
 obtain⟨x,B⟩:=dE (show o.b.toNat<m.length by rw[h.1];omega)
 have:=h.2 o.b.toNat (by omega)
 rw[B] at this
 refine⟨x,V4 h0 B,?_⟩
 rw[show((o.b.toNat:Nat):Int)=o.b by omega] at this
 rw[←this];simp
def La (nx:Nat) (A:List Opn) (z:Int):Prop:= -1≤z∧(∀q∈A.drop nx,q.b≤z)∧(z= -1∨∃q∈A.drop nx,q.b=z)
theorem La.iff {nx:Nat} {A:List Opn} {z:Int} (h:La nx A z) (b:Int):z<b↔0≤b∧∀q∈A.drop nx,q.b<b:=by
 obtain⟨h1,h2,h3⟩:=h
 constructor
 ·intro hb;exact⟨by omega,fun q hq=>by have:=h2 q hq;omega⟩
 rintro⟨a,c⟩
 rcases h3 with e|⟨q,hq,e⟩
 ·omega
 have:=c q hq;omega
theorem La.fst {nx:Nat} {A:List Opn} {z:Int} {o:Opn} (h:La nx A z) (hl:A.length<nx):La nx (A++[o]) z:=by
 unfold La at h⊢
 rw[List.drop_eq_nil_of_le (by simp;omega)]
 rw[List.drop_eq_nil_of_le (by omega)] at h
 exact h
theorem La.snd {nx:Nat} {A:List Opn} {z:Int} {o:Opn} (h:La nx A z) (B:nx≤A.length) (hb:z<o.b):La nx (A++[o]) o.b:=by
 obtain⟨h1,h2,h3⟩:=h
 refine⟨by omega,fun q hq=>?_,Or.inr ⟨o,by rw[List.drop_append_of_le_length B];simp,O⟩⟩
 rw[List.drop_append_of_le_length B] at hq
 rcases List.mem_append.1 hq with h|h
 ·have:=h2 q h;omega
 rw[List.mem_singleton.1 h];omega
theorem Scr.take {nx ny:Nat} {l:List Opn} {i:Nat} {o:Opn} (h:∀j q,j<i→l[j]?=some q→OkO nx ny (l.take j) q) (A:l[i]?=some o) (hk:OkO nx ny (l.take i) o):∀j q,j<i+1→l[j]?=some q→OkO nx ny (l.take j) q:=fun j q hj hq=>by
 rcases xV j i with e|e
 ·exact h j q e hq
 obtain rfl:j=i:=by omega
 rw[A] at hq;cases hq;exact hk
theorem vloop (nx ny:Nat) (l:List Opn) (x:Nmb) (C:x.nodes.length=nx) (hnx:nx≤100000) (hl:l.length≤9223372036854775807) (E:∀o∈l,I64 o.a∧I64 o.b):
  ∃r,dY (fun s=>uK l x s.1 s.2.1 s.2.2.1 s.2.2.2) (-1,0,[],List.replicate ny false)=some r∧((r= .ret false∧¬Scr nx ny l)∨∃m,r= .brk (l.filter (fun o=>decide (0≤o.a)&&decide (0≤o.b)),m)∧Scr nx ny l∧Mk ny l m):=by
 refine aO0 (fun s=>∃i:Nat,s.2.1=(i:Int)∧i≤l.length∧(∀j q,j<i→l[j]?=some q→OkO nx ny (l.take j) q)∧La nx (l.take i) s.1∧s.2.2.1=(l.take i).filter (fun o=>decide (0≤o.a)&&decide (0≤o.b))∧s.2.2.1.length≤nx∧(i≤nx→s.2.2.1.length≤i)∧Mk ny (l.take i) s.2.2.2) (fun s=>l.length-s.2.1.toNat) _ ?_ _ ⟨0,O,Nat.zero_le _,fun j q h=>by omega,⟨by simp,by simp,Or.inl O⟩,by simp,by simp,by simp,by rw[List.take_zero];exact Mk.nil ny⟩
 rintro⟨z,_,ps,m⟩ ⟨i,rfl,hi,h1,h2,h3,h4,h4',h5⟩
 simp only at h2 h3 h4 h4' h5
 by_cases hlt:i<l.length
 ·obtain⟨o,A⟩:=dE hlt
  have hwo:=E o (vL A)
  unfold I64 at hwo
  have hti:(l.take i).length=i:=by rw[vQ];omega
  have hnext:inK .i64 ((i:Int)+1)=some ((i+1:Nat):Int):=by rw[dI (by omega)];rfl
  simp only[uK]
  rw[if_pos (by simp;omega),bC A,bsn]
  by_cases D:((i<nx↔0≤o.a)∧(0≤o.a→o.a=i)∧(o.a<0→o.a= -1)∧ -1≤o.b∧o.b<ny∧(o.a<0→z<o.b))
  ·obtain⟨c1,c2,c3,c4,c5,c6⟩:=D
   rw[if_neg (by
    rw[C,h5.1]
    simp only[Bool.or_eq_true,Bool.and_eq_true,Bool.not_eq_true',decide_eq_true_eq,decide_eq_false_iff_not,beq_eq_false_iff_ne,ne_eq,decide_eq_decide]
    omega)]
   have hok:(0≤o.b→∀q∈l.take i,q.b≠o.b)→OkO nx ny (l.take i) o:=fun F=>⟨fun h=>by rw[hti] at h⊢;exact c2 (c1.1 h),fun h=>by
    rw[hti] at h
    have:o.a<0:=by omega
    exact⟨c3 this,(h2.iff o.b).1 (c6 this)⟩,c4,c5,F⟩
   have hz:La nx (l.take (i+1)) (if o.a<0 then o.b else z):=by
    rw[jF A]
    split
    ·rename_i hh;exact h2.snd (by omega) (c6 hh)
    exact h2.fst (by omega)
   have hj2:((if(decide (o.a<0))=true then some o.b else some z):Option Int)=some (if o.a<0 then o.b else z):=by
    by_cases hh:o.a<0<;>simp[hh]
   rw[hj2,bsn]
   have hfil1:0≤o.a→0≤o.b→ps++[o]=(l.take (i+1)).filter (fun o=>decide (0≤o.a)&&decide (0≤o.b)):=fun a b=>by
    rw[jF A,List.filter_append,←h3];simp[a,b]
   have hfil0:o.a<0∨o.b<0→ps=(l.take (i+1)).filter (fun o=>decide (0≤o.a)&&decide (0≤o.b)):=fun a=>by
    rw[jF A,List.filter_append,←h3,List.filter_cons_of_neg (by simp only[Bool.and_eq_true,decide_eq_true_eq];omega)];simp
   by_cases hb:o.b<0
   ·rw[if_pos (by simpa using hb),bsn]
    simp only
    rw[hnext,bsn]
    refine Or.inl ⟨_,O,⟨i+1,O,by omega,Scr.take h1 A (hok fun h=>by omega),hz,hfil0 (Or.inr hb),h4,fun h=>by have:=h4' (by omega);simp only;omega,?_⟩,by simp;omega⟩
    rw[jF A];exact h5.skip hb
   rw[if_neg (by simpa using hb)]
   obtain⟨y,hy,hyi⟩:=h5.get (o:=o) (by omega) c5
   rw[hy,bsn]
   cases y with
   |true=>
    rw[if_pos rfl,bsn]
    refine Or.inr ⟨_,O,Or.inl ⟨O,fun B=>?_⟩⟩
    obtain⟨q,hq,e⟩:=hyi.1 O
    exact(B i o A).inj (by omega) q hq e
   |false=>
    have hno:∀q∈l.take i,q.b≠o.b:=fun q hq e=>by have:=hyi.2 ⟨q,hq,e⟩;cases this
    rw[if_neg (by simp),bsn]
    by_cases ha:0≤o.a
    ·rw[if_pos (by simpa using ha),yC (by simp;omega),bsn,bsn]
     simp only
     rw[hnext,bsn]
     refine Or.inl ⟨_,O,⟨i+1,O,by omega,Scr.take h1 A (hok fun _=>hno),hz,hfil1 ha (by omega),?_,fun h=>?_,?_⟩,by simp;omega⟩
     ·have:=h4' (by omega);simp only[uW,List.length_singleton];omega
     ·have:=h4' (by omega);simp only[uW,List.length_singleton];omega
     rw[jF A];exact h5.mark (by omega) c5
    rw[if_neg (by simpa using ha),bsn]
    simp only
    rw[hnext,bsn]
    refine Or.inl ⟨_,O,⟨i+1,O,by omega,Scr.take h1 A (hok fun _=>hno),hz,hfil0 (Or.inl (by omega)),h4,fun h=>by omega,?_⟩,by simp;omega⟩
    rw[jF A];exact h5.mark (by omega) c5
  rw[if_pos (by
   rw[C,h5.1]
   simp only[Bool.or_eq_true,Bool.and_eq_true,Bool.not_eq_true',decide_eq_true_eq,decide_eq_false_iff_not,beq_eq_false_iff_ne,ne_eq,decide_eq_decide]
   omega),bsn]
  refine Or.inr ⟨_,O,Or.inl ⟨O,fun B=>D ?_⟩⟩
  have hk:=B i o A
  have k1:=hk.fst
  have k2:=hk.snd
  rw[hti] at k1 k2
  have k3:=hk.lo
  have k4:=hk.hi
  have k5:=h2.iff o.b
  by_cases hin:i<nx
  ·have:=k1 hin
   exact⟨by omega,fun _=>this,by omega,k3,k4,by omega⟩
  obtain⟨e1,e2⟩:=k2 (by omega)
  exact⟨by omega,by omega,fun _=>e1,k3,k4,fun _=>k5.2 e2⟩
 simp only[uK]
 rw[if_neg (by simp;omega)]
 rw[wN (by omega)] at h3 h5
 exact Or.inr ⟨_,O,Or.inr ⟨m,by rw[h3],fun j q hq=>h1 j q (by have:=(uR.1 hq).1;omega) hq,h5⟩⟩
def szp (P:List (Node×Int×Nat)) (i:Nat):Nat:=match P[i]? with
 |none=>0
 |some x=>bK x.1
theorem szp_le (n:Node) (i:Nat) (h:i<bK n):∃m q,(prN n 0 (-1))[i]?=some (m,q,i)∧szp (prN n 0 (-1)) i=bK m∧i+bK m≤bK n:=by
 obtain⟨⟨m,q,k⟩,A⟩:=dE (l:=prN n 0 (-1)) (k:=i) (by rw[zO.1];exact h)
 obtain⟨a1,a2,a3⟩:=pr_at.1 n 0 (-1) i m q k A
 rw[Nat.zero_add] at a1 a2
 subst a1
 exact⟨m,q,A,by unfold szp;rw[A],a2⟩
theorem above_m (n:Node) (hn:bK n≤100000) (i k:Int) (h0:0≤i) (h1:i<bK n):gX (nmb (prN n 0 (-1))) i k=some (decide (i<k∧k<i+szp (prN n 0 (-1)) i.toNat)):=by
 obtain⟨m,q,a1,a2,a3⟩:=szp_le n i.toNat (by omega)
 unfold gX
 by_cases h:i<k
 ·rw[if_pos (by simpa using h),V4 h0 (a:=(bK m:Int)) (by simp[nmb,a1]),bsn,dI (by omega),bsn,bsn,a2]
  congr 1
  simp[h]
 rw[if_neg (by simpa using h),bsn]
 congr 1
 simp[h]
theorem scr_pw {nx ny:Nat} {l:List Opn} (h:Scr nx ny l):l.Pairwise fun q o=>(0≤q.a→0≤o.a→q.a<o.a)∧(0≤o.b→q.b≠o.b):=by
 rw[xS]
 intro i j hi A hij
 have h1:=h i l[i] (vB hi)
 have h2:=h j l[j] (vB A)
 have t1:(l.take i).length=i:=by rw[vQ];omega
 have t2:(l.take j).length=j:=by rw[vQ];omega
 refine⟨fun a b=>?_,fun b=>h2.inj b _ (List.mem_take_iff_getElem.2 ⟨i,by omega,O⟩)⟩
 have f1:=h1.fst;have s1:=h1.snd;have f2:=h2.fst;have s2:=h2.snd
 rw[t1] at f1 s1;rw[t2] at f2 s2
 rcases xV i nx with e1|e1
 ·have:=f1 e1
  rcases xV j nx with e2|e2
  ·have:=f2 e2;omega
  have:=(s2 e2).1;omega
 have:=(s1 e1).1;omega
theorem scr_rng {nx ny:Nat} {l:List Opn} (h:Scr nx ny l):∀o∈l,o.a<nx∧o.b<ny:=fun o A=>by
 obtain⟨i,hi,rfl⟩:=List.mem_iff_getElem.1 A
 have h1:=h i l[i] (vB hi)
 have t1:(l.take i).length=i:=by rw[vQ];omega
 have f1:=h1.fst;have s1:=h1.snd
 rw[t1] at f1 s1
 refine⟨?_,h1.hi⟩
 rcases xV i nx with e1|e1
 ·have:=f1 e1;omega
 have:=(s1 e1).1;omega
def Gd (sx sy:Nat→Nat) (q o:Opn):Prop:=q.b<o.b∧(o.a<q.a+sx q.a.toNat↔o.b<q.b+sy q.b.toNat)
theorem ploop (a b:Node) (ha:bK a≤100000) (hb:bK b≤100000) (ps:List Opn) (m:List Bool) (hl:ps.length≤100000)
  (hr:∀o∈ps,0≤o.a∧o.a<bK a∧0≤o.b∧o.b<bK b) (C:ps.Pairwise fun q o=>q.a<o.a∧q.b≠o.b):
  (¬ps.Pairwise (Gd (szp (prN a 0 (-1))) (szp (prN b 0 (-1))))∧dY (fun s=>pI (nmb (prN a 0 (-1))) (nmb (prN b 0 (-1))) (ps,m) s) 0=some (.ret false))∨
  (ps.Pairwise (Gd (szp (prN a 0 (-1))) (szp (prN b 0 (-1))))∧dY (fun s=>pI (nmb (prN a 0 (-1))) (nmb (prN b 0 (-1))) (ps,m) s) 0=some (.brk ())):=by
 generalize hsx:szp (prN a 0 (-1))=sx
 generalize hsy:szp (prN b 0 (-1))=sy
 have hp':=xS.1 C
 have main:=up_loop (body:=fun s=>pI (nmb (prN a 0 (-1))) (nmb (prN b 0 (-1))) (ps,m) s) (fun k=>∃j q o,j<k∧ps[j]?=some q∧ps[k]?=some o∧¬Gd sx sy q o) (.ret false) (.brk ()) ps.length ps.length 0 (by omega) (fun k _ hk=>by
  obtain⟨o,B⟩:=dE hk
  have hro:=hr o (vL B)
  simp only[pI]
  rw[if_pos (by simp;omega),bC B,bsn,sub_ok (by omega) (by omega) (by omega),bsn]
  have hx10:(ps.take (k:Int).toNat).drop (0:Int).toNat=ps.take k:=by simp
  rw[hx10]
  have inner:=up_loop (body:=fun s=>uM (nmb (prN a 0 (-1))) (nmb (prN b 0 (-1))) o (ps.take k) s) (fun j=>∃q,ps[j]?=some q∧¬Gd sx sy q o) (.ret false) (.brk ()) k k 0 (by omega) (fun j _ A=>by
   obtain⟨q,hq⟩:=dE (show j<ps.length by omega)
   have hrq:=hr q (vL hq)
   obtain⟨hab,hne⟩:q.a<o.a∧q.b≠o.b:=by
    have:=hp' j k (by omega) hk A
    rwa [(uR.1 hq).2,(uR.1 B).2] at this
   have hq':(ps.take k)[j]?=some q:=by rw[xD,if_pos A];exact hq
   simp only[uM]
   rw[if_pos (by simp;omega),bC hq',bsn,above_m b hb o.b q.b (by omega) (by omega),above_m b hb q.b o.b (by omega) (by omega),above_m a ha q.a o.a (by omega) (by omega),hsx,hsy,bsn]
   have e1:((if(decide (o.b<q.b))=true then some (!decide (o.b<q.b∧q.b<o.b+sy o.b.toNat)) else some false):Option Bool)=some (decide (o.b<q.b∧¬q.b<o.b+sy o.b.toNat)):=by
    by_cases h:o.b<q.b
    ·rw[if_pos (decide_eq_true h)];congr 1
     rw[Bool.eq_iff_iff];simp only[Bool.not_eq_true',decide_eq_false_iff_not,decide_eq_true_eq];omega
    rw[if_neg (by simpa using h),decide_eq_false (by omega)]
   rw[e1,bsn,bsn,bsn]
   have e2:((if(decide (o.b<q.b∧¬q.b<o.b+sy o.b.toNat))=true then some true else some (!((decide (q.a<o.a∧o.a<q.a+sx q.a.toNat))==(decide (q.b<o.b∧o.b<q.b+sy q.b.toNat))))):Option Bool)=some (decide ((o.b<q.b∧¬q.b<o.b+sy o.b.toNat)∨¬((q.a<o.a∧o.a<q.a+sx q.a.toNat)↔(q.b<o.b∧o.b<q.b+sy q.b.toNat)))):=by
    by_cases h:(o.b<q.b∧¬q.b<o.b+sy o.b.toNat)
    ·rw[if_pos (decide_eq_true h),decide_eq_true (Or.inl h)]
    rw[if_neg (by simpa using h)]
    congr 1
    rw[Bool.eq_iff_iff]
    simp only[Bool.not_eq_true',beq_eq_false_iff_ne,ne_eq,decide_eq_decide,decide_eq_true_eq]
    exact⟨Or.inr,fun g=>g.resolve_left h⟩
   rw[e2,bsn,bsn]
   have e3:((if(decide ((o.b<q.b∧¬q.b<o.b+sy o.b.toNat)∨¬((q.a<o.a∧o.a<q.a+sx q.a.toNat)↔(q.b<o.b∧o.b<q.b+sy q.b.toNat))))=true then some true else some (decide (o.b<q.b∧q.b<o.b+sy o.b.toNat))):Option Bool)=some (decide (¬(q.b<o.b∧(o.a<q.a+sx q.a.toNat↔o.b<q.b+sy q.b.toNat)))):=by
    by_cases h:(o.b<q.b∧¬q.b<o.b+sy o.b.toNat)∨¬((q.a<o.a∧o.a<q.a+sx q.a.toNat)↔(q.b<o.b∧o.b<q.b+sy q.b.toNat))
    ·rw[if_pos (decide_eq_true h)]
     exact congrArg some (decide_eq_true (by omega)).symm
    rw[if_neg (by rw[decide_eq_true_eq];exact h)]
    congr 1
    rw[Bool.eq_iff_iff,decide_eq_true_eq,decide_eq_true_eq]
    omega
   rw[e3,bsn]
   by_cases hg:Gd sx sy q o
   ·rw[if_neg (by rw[decide_eq_true_eq];exact fun h=>h hg),dI (by omega),bsn]
    exact Or.inr ⟨fun⟨q',hq2,h⟩=>by rw[hq] at hq2;cases hq2;exact h hg,rfl⟩
   ·rw[if_pos (by rw[decide_eq_true_eq];exact hg)]
    exact Or.inl ⟨⟨q,hq,hg⟩,O⟩) (by
   simp only[uM]
   rw[if_neg (by simp;omega)])
  rcases inner with⟨⟨j,_,A,q,hq,hg⟩,e⟩|⟨hall,e⟩
  ·refine Or.inl ⟨⟨j,q,o,A,hq,B,hg⟩,?_⟩
   rw[show((0:Nat):Int)=0 from rfl] at e
   rw[e,bsn]
  ·refine Or.inr ⟨fun⟨j,q,o',A,hq,ho',hg⟩=>by rw[B] at ho';cases ho';exact hall j (Nat.zero_le _) A ⟨q,hq,hg⟩,?_⟩
   rw[show((0:Nat):Int)=0 from rfl] at e
   rw[e,bsn]
   simp only
   rw[dI (by omega)];rfl) (by
  simp only[pI]
  rw[if_neg (by simp)])
 have iff:ps.Pairwise (Gd sx sy)↔∀k,0≤k→k<ps.length→¬ ∃j q o,j<k∧ps[j]?=some q∧ps[k]?=some o∧¬Gd sx sy q o:=by
  rw[xS]
  constructor
  ·rintro h k _ hk ⟨j,q,o,A,hq,B,hg⟩
   have:=h j k (by omega) hk A
   rw[(uR.1 hq).2,(uR.1 B).2] at this
   exact hg this
  intro h i j hi A hij
  exact Classical.byContradiction fun hg=>h j (Nat.zero_le _) A ⟨i,_,_,hij,vB hi,vB A,hg⟩
 rcases main with⟨⟨k,h0,hk,h⟩,e⟩|⟨h,e⟩
 ·exact Or.inl ⟨fun hh=>iff.1 hh k h0 hk h,e⟩
 exact Or.inr ⟨iff.2 h,e⟩
theorem contains_m (m:List Bool) (h:m.length≤100000):kF m false=some (decide (false∈m)):=by
 unfold kF qQ
 rcases scan_loop (body:=fun s=>jP m false s) m (fun x=> !x) (fun k _=> .ret (k:Int)) (.brk ()) (fun k x A=>by
  have:=(uR.1 A).1
  simp only[jP]
  rw[if_pos (by simp;omega),bC A,bsn,dI (by omega),bsn]
  cases x<;>rfl) (by
  simp only[jP]
  rw[if_neg (by simp)]) with⟨k,x,A,hp,_,_,_,e⟩|⟨hall,_,_,e⟩
 ·rw[e,bsn,bsn]
  congr 1
  rw[decide_eq_true (by omega),decide_eq_true]
  have:x=false:=by simpa using hp
  exact this▸vL A
 rw[e,bsn,bsn]
 congr 1
 rw[decide_eq_false (by omega),decide_eq_false]
 intro B
 have:=hall false B
 simp at this
theorem Mk.all {ny:Nat} {l:List Opn} {m:List Bool} (h:Mk ny l m):false∉m↔∀b:Nat,b<ny→∃q∈l,q.b=b:=by
 constructor
 ·intro A b hb
  rw[←h.2 b hb]
  obtain⟨x,B⟩:=dE (show b<m.length by rw[h.1];exact hb)
  cases x with
  |true=>exact B
  |false=>exact absurd (vL B) A
 intro hs A
 obtain⟨b,hb,e⟩:=List.mem_iff_getElem.1 A
 have:=(h.2 b (by rw[←h.1];exact hb)).2 (hs b (by rw[←h.1];exact hb))
 rw[vB hb,e] at this
 cases this
def Va (a b:Node) (l:List Opn):Prop:=Vd (bK a) (bK b) (szp (prN a 0 (-1))) (szp (prN b 0 (-1))) l
theorem pr_pairs {nx ny:Nat} {sx sy:Nat→Nat} {l:List Opn}:(l.filter (fun o=>decide (0≤o.a)&&decide (0≤o.b))).Pairwise (Gd sx sy)↔l.Pairwise (PrO sx sy):=by
 rw[List.pairwise_filter]
 refine⟨fun h=>h.imp fun{q o} g h1 h2 h3 h4=>g (by simp[h1,h2]) (by simp[h3,h4]),fun h=>h.imp fun{q o} g h1 h2=>?_⟩
 simp only[Bool.and_eq_true,decide_eq_true_eq] at h1 h2
 exact g h1.1 h1.2 h2.1 h2.2
open Classical in
theorem valid_m (a b:Node) (ha:bK a≤100000) (hb:bK b≤100000) (l:List Opn) (E:l.length≤9223372036854775807) (C:∀o∈l,I64 o.a∧I64 o.b):uZ a b l=some (decide (Va a b l)):=by
 unfold uZ
 have na:(nmb (prN a 0 (-1))).nodes.length=bK a:=by unfold nmb;simp[zO.1]
 have nb:(nmb (prN b 0 (-1))).nodes.length=bK b:=by unfold nmb;simp[zO.1]
 rw[aG2 a ha,bsn,aG2 b hb,bsn,na,nb]
 by_cases h0:l.length<bK a
 ·rw[if_pos (by simpa using h0),decide_eq_false fun h=>by have:=h.len;omega]
 rw[if_neg (by simpa using h0),mkc_ok (by omega),bsn,xL]
 obtain⟨r,hr,D⟩:=vloop (bK a) (bK b) l (nmb (prN a 0 (-1))) na ha E C
 rw[hr,bsn]
 rcases D with⟨rfl,hn⟩|⟨m,rfl,B,hM⟩
 ·simp only
  rw[decide_eq_false fun h=>hn h.scr]
 simp only
 have hrng:=scr_rng B
 have hfl:(l.filter (fun o=>decide (0≤o.a)&&decide (0≤o.b))).length≤100000:=by
  have hpw:(l.filter (fun o=>decide (0≤o.a)&&decide (0≤o.b))).Pairwise fun q o=>q.a<o.a:=by
   rw[List.pairwise_filter]
   exact(scr_pw B).imp fun{q o} g h1 h2=>by
    simp only[Bool.and_eq_true,decide_eq_true_eq] at h1 h2
    exact g.1 h1.1 h2.1
  generalize hF:l.filter (fun o=>decide (0≤o.a)&&decide (0≤o.b))=F at hpw
  have hFr:∀o∈F,0≤o.a∧o.a<bK a:=fun o A=>by
   rw[←hF,List.mem_filter] at A
   simp only[Bool.and_eq_true,decide_eq_true_eq] at A
   exact⟨A.2.1,(hrng o A.1).1⟩
  have key:∀(k:Nat) (o:Opn),F[k]?=some o→(k:Int)≤o.a:=by
   intro k
   induction k with
   |zero=>intro o A;have:=(hFr o (vL A)).1;omega
   |succ k ih=>
    intro o A
    have hk:=(uR.1 A).1
    have h1:=ih F[k] (vB (by omega))
    have h2:=xS.1 hpw k (k+1) (by omega) hk (by omega)
    rw[(uR.1 A).2] at h2
    omega
  apply Classical.byContradiction
  intro hc
  obtain⟨o,A⟩:=dE (show 100000<F.length by omega)
  have h1:=key _ o A
  have h2:=(hFr o (vL A)).2
  omega
 have hfr:∀o∈l.filter (fun o=>decide (0≤o.a)&&decide (0≤o.b)),0≤o.a∧o.a<bK a∧0≤o.b∧o.b<bK b:=fun o A=>by
  rw[List.mem_filter] at A
  simp only[Bool.and_eq_true,decide_eq_true_eq] at A
  exact⟨A.2.1,(hrng o A.1).1,A.2.2,(hrng o A.1).2⟩
 have hfp:(l.filter (fun o=>decide (0≤o.a)&&decide (0≤o.b))).Pairwise fun q o=>q.a<o.a∧q.b≠o.b:=by
  rw[List.pairwise_filter]
  exact(scr_pw B).imp fun{q o} g h1 h2=>by
   simp only[Bool.and_eq_true,decide_eq_true_eq] at h1 h2
   exact⟨g.1 h1.1 h2.1,g.2 h2.2⟩
 rcases ploop a b ha hb _ m hfl hfr hfp with⟨hn,e⟩|⟨hy,e⟩
 ·rw[e,bsn]
  simp only
  rw[decide_eq_false fun h=>hn (pr_pairs (nx:=bK a) (ny:=bK b).2 h.prs)]
 rw[e,bsn]
 simp only
 rw[contains_m m (by rw[hM.1];exact hb),bsn]
 congr 1
 rw[Bool.eq_iff_iff]
 simp only[Bool.not_eq_true',decide_eq_false_iff_not,decide_eq_true_eq]
 rw[hM.all]
 exact⟨fun h=>⟨B,by omega,h,(pr_pairs (nx:=bK a) (ny:=bK b)).1 hy⟩,fun h=>h.sur⟩
end Go.Proofs.YtopnldfjcciieaaGreat
