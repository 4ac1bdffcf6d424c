/- Tables: slices of slices that are written in place. Plain theorems over any program. -/
import Derived.Test.YtopnldfjcciieaaGreatKLe2
import Derived.Test.YtopnldfjcciieaaGreatProg
import Derived.Lib.LaidTab
import Derived.LaidLaws
import Derived.Test.YtopnldfjcciieaaGreatRows
import Derived.Sort.OwnSortedInts
import Derived.Lib.ItoaNum
set_option linter.unusedVariables false
set_option linter.unusedSimpArgs false
namespace Go.Proofs.YtopnldfjcciieaaGreat
open Go.RowKit
def Sl:Type:={v:Value // ∃A n c,v= .slice A n c}
def Sl.v (s:Sl):Value:=s.1
def Sl.nil:Sl:=⟨.slice none 0 0,none,0,0,O⟩
theorem Sl.one (s:Sl):s.v.oneCell'=true:=by obtain⟨v,A,n,c,rfl⟩:=s;rfl
theorem Sl.cells (s:Sl):s.v.cells= #[s.v]:=by obtain⟨v,A,n,c,rfl⟩:=s;rfl
instance encSl:Enc Sl:=⟨1,fun s=>[s.v],fun _=>rfl,fun s v h=>by rw[List.mem_singleton.1 h];exact s.one,by decide⟩
theorem aC.toSl {α:Type} [Enc α] {Z:World} {ρ:PH} {L:List bQ} {w:World} {El:TypeId} {v:Value} {l:List α} (B:Hp Z ρ L w) (k:Nat) (hk:L[k]?=some (aC El v l)):∃s:Sl,s.v=v:=by
 rcases(B.get k hk).row.2 with⟨A,rfl,_⟩|⟨g,off,cap,cur,rfl,_⟩
 ·exact⟨⟨_,_,_,_,O⟩,O⟩
 exact⟨⟨_,_,_,_,O⟩,O⟩
instance (priority:=50) repList {α:Type} [Rep α]:Rep (List α):=⟨1,fun ρ l cs=>∃v,cs=[v]∧aH ρ v l,fun⟨_,h,_⟩=>by rw[h];rfl,fun hl ⟨v,h,k⟩=>⟨v,h,k.mono hl⟩⟩
def iG {α:Type} [Enc α] (Ti:TypeId):List Sl→List (List α)→bQ
 | [],[]=>fun k=>k=PH.emp
 |u::us,r::l=>star (aC Ti u.v r) (iG Ti us l)
 |_,_=>fun _=>False
section
variable {α:Type} [Enc α] {Ti:TypeId} {L:List bQ} {ρ h:PH}
theorem Sep.emp1:Sep ρ ((fun k=>k=PH.emp)::L) h↔Sep ρ L h:=by
 have e:ρ.un PH.emp=ρ:=by funext b;unfold PH.un PH.emp;cases ρ b<;>rfl
 constructor
 ·rintro⟨k,rfl,d,hs⟩;rw[e] at hs;exact hs
 intro hs;exact⟨PH.emp,rfl,PH.dj_emp ρ,by rw[e];exact hs⟩
theorem iG.len {us:List Sl} {l:List (List α)} (hs:Sep ρ (iG Ti us l::L) h):us.length=l.length:=by
 induction us generalizing l ρ L with
 |nil=>
  cases l with
  |nil=>rfl
  |cons r l=>obtain⟨k,a,_⟩:=hs;exact a.elim
 |cons u us ih=>
  cases l with
  |nil=>obtain⟨k,a,_⟩:=hs;exact a.elim
  |cons r l=>simp only[uA0];rw[ih (Sep.swap (Sep.two.1 hs))]
theorem iG.take:∀{us:List Sl} {l:List (List α)} (i:Nat) {u:Sl} {r:List α} {ρ h:PH} {L:List bQ},us[i]?=some u→l[i]?=some r→
  (Sep ρ (iG Ti us l::L) h↔Sep ρ (aC Ti u.v r::iG Ti (us.eraseIdx i) (l.eraseIdx i)::L) h)
 | [],_,i,_,_,_,_,_,h1,_=>by simp at h1
 |_::_,[],i,_,_,_,_,_,_,h2=>by simp at h2
 |u0::us,r0::l,0,u,r,ρ,h,L,h1,h2=>by
  simp only[List.getElem?_cons_zero,wA] at h1 h2
  subst h1 h2
  exact Sep.two
 |u0::us,r0::l,i+1,u,r,ρ,h,L,h1,h2=>by
  simp only[List.getElem?_cons_succ] at h1 h2
  constructor
  ·intro hs
   exact Sep.cons_mono (fun ρ h=>Sep.two.2) (Sep.swap (Sep.cons_mono (fun ρ h=>(iG.take i h1 h2).1) (Sep.two.1 hs)))
  intro hs
  exact Sep.two.2 (Sep.cons_mono (fun ρ h=>(iG.take i h1 h2).2) (Sep.swap (Sep.cons_mono (fun ρ h=>Sep.two.1) hs)))
theorem iG.snoc:∀{us:List Sl} {l:List (List α)} {u:Sl} {r:List α} {ρ h:PH} {L:List bQ},Sep ρ (aC Ti u.v r::iG Ti us l::L) h→Sep ρ (iG Ti (us++[u]) (l++[r])::L) h
 | [],[],u,r,ρ,h,L,hs=>Sep.two.2 (Sep.cons_mono (fun ρ h h1=>Sep.emp1.2 (Sep.emp1.1 h1)) hs)
 | [],_::_,_,_,_,_,_,hs=>by obtain⟨_,_,_,k,a,_⟩:=hs;exact a.elim
 |_::_,[],_,_,_,_,_,hs=>by obtain⟨_,_,_,k,a,_⟩:=hs;exact a.elim
 |u0::us,r0::l,u,r,ρ,h,L,hs=>Sep.two.2 (Sep.cons_mono (fun ρ h=>iG.snoc) (Sep.swap (Sep.cons_mono (fun ρ h=>Sep.two.1) hs)))
theorem iG.nils:∀(n:Nat) {ρ h:PH} {L:List bQ},Sep ρ L h→Sep ρ (iG Ti (List.replicate n Sl.nil) (List.replicate n ([]:List α))::L) h
 |0,_,_,_,hs=>Sep.emp1.2 hs
 |n+1,ρ,h,L,hs=>Sep.two.2 (by
  have h1:=iG.nils n hs
  refine⟨PH.emp,aC.nil Ti,PH.dj_emp ρ,?_⟩
  have e:ρ.un PH.emp=ρ:=by funext b;unfold PH.un PH.emp;cases ρ b<;>rfl
  rw[e];exact h1)
end
def bM {α:Type} [Enc α] (T Ti:TypeId) (v:Value) (us:List Sl) (l:List (List α)):bQ:=star (aC T v us) (iG Ti us l)
section
variable {Rn:Option Nat} {P:Program} {ops:Array Oper} {Q:Exit→Act→World→Prop} {rest:List Oper} {o:Oper} {a:Act} {w:World} {Df:List Deferred} {N:Nat} {E:Ent} {d:Nat} {Z:World} {ρ:PH} {L:List bQ}
variable {α:Type} [Enc α] {T Ti To Tr:TypeId} {v:Value} {us:List Sl} {l:List (List α)} {bytes:Nat}
theorem Hp.tbl (h:Hp Z ρ (bM T Ti v us l::L) w):Hp Z ρ (aC T v us::iG Ti us l::L) w:=h.to Sep.two.1
theorem Hp.tblShut (h:Hp Z ρ (aC T v us::iG Ti us l::L) w):Hp Z ρ (bM T Ti v us l::L) w:=h.to Sep.two.2
theorem bM.lens (B:Hp Z ρ (bM T Ti v us l::L) w):us.length=l.length:=iG.len (Sep.swap B.tbl.sep)
theorem bM.slice (B:Hp Z ρ L w) (k:Nat) (hk:L[k]?=some (bM T Ti v us l)):∃s:Sl,s.v=v:=aC.toSl (B.get k hk).tbl 0 O
theorem bM.cells (B:Hp Z ρ L w) (k:Nat) (hk:L[k]?=some (bM T Ti v us l)):v.cells= #[v]:=by obtain⟨s,rfl⟩:=bM.slice B k hk;exact s.cells
theorem bM.one (B:Hp Z ρ L w) (k:Nat) (hk:L[k]?=some (bM T Ti v us l)):v.oneCell'=true:=by obtain⟨s,rfl⟩:=bM.slice B k hk;exact s.one
theorem bM.len (B:Hp Z ρ L w) (k:Nat) (hk:L[k]?=some (bM T Ti v us l)) (ht:SlTy P To T 1 bytes) (w:World) (ty:TypeId):(Builtin.len_ #[To] ty #[v]).run P w= .ok (.int .i64 l.length) w:=by
 have h:=(B.get k hk)
 rw[←bM.lens h]
 exact aC.len h.tbl 0 O ht w ty
theorem bM.hdr (G:Hp Z ρ L w) (k:Nat) (hk:L[k]?=some (bM T Ti v us l)) (ht:SlTy P To T 1 bytes) {i:Int} {r:List α} (hi:idx l i=some r):
  ∃(u:Sl) (g off:Nat),idx us i=some u∧(∀w,(Instr.indexAt To v (.int .i64 i)).run P w= .ok (.pointer (some ⟨g,off,none⟩)) w)∧(∃of0 cap,v= .slice (some ⟨g,of0,none⟩) us.length cap∧off=of0+i.toNat*1)∧
   ∀(j:Nat) (x:Value),[u.v][j]?=some x→∀ρ' L' w,Hp Z ρ' (bM T Ti v us l::L') w→w.cell? ⟨g,off+j,none⟩=some x:=by
 have h:=(G.get k hk)
 obtain⟨i0,i1,i2⟩:=rO hi
 have hl:=bM.lens h
 have hu:idx us i=some us[i.toNat]:=by unfold idx;rw[if_pos i0];exact vB (by omega)
 obtain⟨g,off,e1,e2,e3⟩:=aC.at h.tbl 0 O ht hu
 exact⟨_,g,off,hu,e1,e2,fun j x B ρ' L' w D=>e3 j x B _ _ w D.tbl⟩
theorem bM.focus (B:Hp Z ρ L w) (k:Nat) (hk:L[k]?=some (bM T Ti v us l)) {i:Int} {u:Sl} {r:List α} (hu:idx us i=some u) (hi:idx l i=some r):
  Hp Z ρ (aC Ti u.v r::iG Ti (us.eraseIdx i.toNat) (l.eraseIdx i.toNat)::aC T v us::L.eraseIdx k) w:=
 (B.get k hk).tbl.to fun s=>(iG.take i.toNat (rO hu).2.2 (rO hi).2.2).1 s.swap
theorem bM.rlen (B:Hp Z ρ L w) (k:Nat) (hk:L[k]?=some (bM T Ti v us l)) (ht:SlTy P Tr Ti (Enc.sz α) bytes) {i:Int} {u:Sl} {r:List α} (hu:idx us i=some u) (hi:idx l i=some r) (w:World) (ty:TypeId):(Builtin.len_ #[Tr] ty #[u.v]).run P w= .ok (.int .i64 r.length) w:=
 aC.len (bM.focus B k hk hu hi) 0 O ht w ty
theorem bM.at (G:Hp Z ρ L w) (k:Nat) (hk:L[k]?=some (bM T Ti v us l)) (ht:SlTy P Tr Ti (Enc.sz α) bytes) {i j:Int} {u:Sl} {r:List α} {e:α} (hu:idx us i=some u) (hi:idx l i=some r) (H:idx r j=some e):
  ∃g off,(∀w,(Instr.indexAt Tr u.v (.int .i64 j)).run P w= .ok (.pointer (some ⟨g,off,none⟩)) w)∧(∃of0 cap,u.v= .slice (some ⟨g,of0,none⟩) r.length cap∧off=of0+j.toNat*Enc.sz α)∧∀(j:Nat) (x:Value),(Enc.enc e)[j]?=some x→∀ρ' L' w,Hp Z ρ' (bM T Ti v us l::L') w→w.cell? ⟨g,off+j,none⟩=some x:=by
 obtain⟨g,off,e1,e2,e3⟩:=aC.at (bM.focus G k hk hu hi) 0 O ht H
 exact⟨g,off,e1,e2,fun j x B ρ' L' w D=>e3 j x B _ _ w (bM.focus D 0 O hu hi)⟩
theorem set_self {β:Type} {l:List β} {i:Nat} {x:β} (h:l[i]?=some x):l.set i x=l:=by
 apply List.ext_getElem?
 intro j
 rw[List.getElem?_set]
 split
 ·rename_i e;subst e;rw[if_pos (uR.1 h).1,h]
 rfl
theorem bM.unfocus (k:Nat) (hk:L[k]?=some (bM T Ti v us l)) {i:Int} {u:Sl} {r r':List α} (hu:idx us i=some u) (hi:idx l i=some r)
  (B:Hp Z ρ (aC Ti u.v r'::iG Ti (us.eraseIdx i.toNat) (l.eraseIdx i.toNat)::aC T v us::L.eraseIdx k) w):Hp Z ρ (L.set k (bM T Ti v us (l.set i.toNat r'))) w:=by
 obtain⟨_,hui,hus⟩:=rO hu
 obtain⟨_,hli,hls⟩:=rO hi
 refine Hp.put k (uR.1 hk).1 ((B.to fun s=>Sep.swap ?_).tblShut)
 refine(iG.take (us:=us) (l:=l.set i.toNat r') (r:=r') i.toNat hus (by rw[xT (by omega)])).2 ?_
 have e2:(l.set i.toNat r').eraseIdx i.toNat=l.eraseIdx i.toNat:=List.eraseIdx_set_eq
 rw[e2];exact s
theorem yA (wk:Region.wanted o (yielded ops a.tmps)=true) (hd:o.dst=none) (S:EnvD Df N E a) (G:Hp Z ρ L w) {Tx:TypeId} {x y:Operand} (H:o.op= .store Tx x y) {g off off':Nat} (B:evo E x=some (.pointer (some ⟨g,off',none⟩))) {z:Value} (hy:evo E y=some z) (k:Nat) (hk:L[k]?=some (bM T Ti v us l))
  {i j:Int} {u:Sl} {r:List α} {e:α} (hu:idx us i=some u) (hi:idx l i=some r) (I:idx r j=some e) (hv:∃of0 cap,u.v= .slice (some ⟨g,of0,none⟩) r.length cap∧off=of0+j.toNat*Enc.sz α) (q:Nat) {e':α} (ht:∀w,(sizeOf Tx).run P w= .ok 1 w) (hoff:off'=off+q) (M:z.cells= #[z]) (h1:z.oneCell'=true) (he:(Enc.enc e).set q z=Enc.enc e'∧Nat.blt q (Enc.sz α)=true)
  (K:∀w,Hp Z ρ (L.set k (bM T Ti v us (l.set i.toNat (r.set j.toNat e')))) w→wpL Rn P ops Q rest a w):wpL Rn P ops Q (o::rest) a w:=
 V7 wk hd S (bM.focus G k hk hu hi) H B hy 0 O I hv q ht hoff M h1 he fun w D=>K w (bM.unfocus k hk hu hi D)
theorem s_tput (wk:Region.wanted o (yielded ops a.tmps)=true) (hd:o.dst=none) (I:EnvD Df N E a) {ur:Sl} {vr:Value} (he:ur.v=vr) {r':List α} (G:Hp Z ρ (aC Ti vr r'::L) w) {Tx:TypeId} {x y:Operand} (H:o.op= .store Tx x y) {g off:Nat} (B:evo E x=some (.pointer (some ⟨g,off,none⟩))) (hy:evo E y=some vr) (k:Nat) (hk:L[k]?=some (bM T Ti v us l))
  {i:Int} {u:Sl} {r:List α} (hu:idx us i=some u) (hi:idx l i=some r) (hv:∃of0 cap,v= .slice (some ⟨g,of0,none⟩) us.length cap∧off=of0+i.toNat*1) (ht:∀w,(sizeOf Tx).run P w= .ok 1 w)
  (K:∀w,Hp Z ρ (L.set k (bM T Ti v (us.set i.toNat ur) (l.set i.toNat r'))) w→wpL Rn P ops Q rest a w):wpL Rn P ops Q (o::rest) a w:=by
 subst he
 have h0:Hp Z ρ (aC T v us::aC Ti ur.v r'::iG Ti us l::L.eraseIdx k) w:=(Hp.tbl (G.get (k+1) (A:=bM T Ti v us l) (by simpa using hk))).to fun s=>Sep.cons_mono (fun ρ h=>Sep.swap) s
 refine V7 wk hd I h0 H B hy 0 O hu hv 0 ht O ur.cells ur.one ⟨O,O⟩ fun w D=>K w ?_
 refine Hp.put k (uR.1 hk).1 (Hp.tblShut (D.to fun s=>?_))
 refine Sep.cons_mono (fun ρ h s=>?_) s
 obtain⟨_,hui,hus⟩:=rO hu
 obtain⟨_,hli,hls⟩:=rO hi
 refine(iG.take (us:=us.set i.toNat ur) (l:=l.set i.toNat r') (u:=ur) (r:=r') i.toNat (by rw[xT (by omega)]) (by rw[xT (by omega)])).2 ?_
 rw[List.eraseIdx_set_eq,List.eraseIdx_set_eq]
 exact Sep.cons_mono (fun ρ h s=>Sep.drop ((iG.take i.toNat hus hls).1 s)) s
theorem s_tmake (wk:Region.wanted o (yielded ops a.tmps)=true) (hd:o.dst=some d) (hN:Nat.blt d N=true) (B:EnvD Df N E a) (hp:Hp Z ρ L w) {x y:Operand} (G:o.op= .makeSlice To x y) (hu:P.underlying To=some (.slice T))
  (hi:(P.info? T).map (fun i=>(i.zero.map Value.cells,i.size,i.bytes))=some (some #[.slice none 0 0],1,bytes)) (hby:Nat.ble bytes 16384=true) {k k':IntKind} {n c:Int} (D:evo E x=some (.int k n)) (hy:evo E y=some (.int k' c)) {r:List (List α)} (hr:mkc n c ([]:List α)=some r) (Ti:TypeId)
  (K:∀v us a w,EnvD Df N ((d,v)::E) a→Hp Z ρ (bM T Ti v us r::L) w→wpL Rn P ops Q rest a w):wpL Rn P ops Q (o::rest) a w:=by
 obtain⟨h0,h1,h2,rfl⟩:=mkc_some hr
 refine aM4 (α:=Sl) wk hd hN B hp G hu Sl.nil hi hby D hy (r:=List.replicate n.toNat Sl.nil) (by unfold mkc;rw[if_pos ⟨h0,h1,h2⟩]) fun v a w B hp=>K v _ a w B (Hp.tblShut (hp.to fun s=>Sep.cons_mono (fun ρ h s=>iG.nils _ s) s))
theorem bM.none (T Ti:TypeId) (A:Option Addr):bM T Ti (.slice A 0 0) [] ([]:List (List α)) PH.emp:=
 ⟨PH.emp,PH.emp,aC.nilA T A,O,PH.dj_emp _,by funext b;rfl⟩
theorem s_tapp (wk:Region.wanted o (yielded ops a.tmps)=true) (hd:o.dst=some d) (hN:Nat.blt d N=true) (D:EnvD Df N E a) {ur:Sl} {vr:Value} (he:ur.v=vr) {r':List α} (G:Hp Z ρ (aC Ti vr r'::L) w) {x y:Operand} (M:o.op= .call {callee:= .builtin .append,args:= #[x,y],argTypes:= #[To,To] }) (ht:SlTy P To T 1 bytes) (hby:Nat.ble bytes 16384=true)
  (H:evo E x=some v) (k:Nat) (hk:L[k]?=some (bM T Ti v us l)) {b off c:Nat} (hy:evo E y=some (.slice (some ⟨b,off,none⟩) 1 c)) (hn:w.cell? ⟨b,off,none⟩=some vr) {l':List (List α)} (hr:app l [r']=some l')
  (K:∀v' us' a w,EnvD Df N ((d,v')::E) a→Hp Z ρ (L.set k (bM T Ti v' us' l')) w→wpL Rn P ops Q rest a w):wpL Rn P ops Q (o::rest) a w:=by
 obtain⟨hlen,rfl⟩:=O8 hr
 subst he
 have h0:Hp Z ρ (aC T v us::aC Ti ur.v r'::iG Ti us l::L.eraseIdx k) w:=(Hp.tbl (G.get (k+1) (A:=bM T Ti v us l) (by simpa using hk))).to fun s=>Sep.cons_mono (fun ρ h=>Sep.swap) s
 have hus:=bM.lens (G.get (k+1) (A:=bM T Ti v us l) (by simpa using hk))
 refine gB (α:=Sl) wk hd hN D h0 M ht hby H 0 O hy (l2:=[ur]) (r:=us++[ur]) O (fun j z B=>?_) (by unfold app;rw[if_pos (by simp at hlen⊢;omega)]) fun v' a w D I=>K v' (us++[ur]) a w D ?_
 ·cases j with
  |zero=>
   simp only[flat,List.flatMap_cons,List.flatMap_nil,List.append_nil,Enc.enc,List.getElem?_cons_zero,wA] at B
   subst B;exact hn
  |succ j=>simp[flat,Enc.enc] at B
 exact Hp.put k (uR.1 hk).1 (Hp.tblShut (I.to fun s=>Sep.cons_mono (fun ρ h s=>iG.snoc s) s))
theorem iG.at_:∀{us:List Sl} {l:List (List α)} {k:PH} (i:Nat) {u:Sl} {r:List α},iG Ti us l k→us[i]?=some u→l[i]?=some r→∃k',aC Ti u.v r k'∧k'.le k
 | [],_,_,i,_,_,_,h1,_=>by simp at h1
 |_::_,[],_,i,_,_,h,_,_=>h.elim
 |u0::us,r0::l,k,0,u,r,h,h1,h2=>by
  obtain⟨k1,k2,ha,hb,d,rfl⟩:=h
  simp only[List.getElem?_cons_zero,wA] at h1 h2
  subst h1 h2
  exact⟨k1,ha,PH.le_un _ _⟩
 |u0::us,r0::l,k,i+1,u,r,h,h1,h2=>by
  obtain⟨k1,k2,ha,hb,d,rfl⟩:=h
  obtain⟨k',h3,h4⟩:=iG.at_ i hb (by simpa using h1) (by simpa using h2)
  exact⟨k',h3,h4.tr (PH.le_un_r d)⟩
theorem bM.ro {k:PH} (d:ρ.dj k) (h:bM T Ti v us l k):aH (ρ.un k) v l:=by
 obtain⟨k1,k2,ha,hb,d2,rfl⟩:=h
 have B:us.length=l.length:=iG.len (ρ:=k1) (h:=k1.un k2) (L:=[]) ⟨k2,hb,d2,PH.le.rf _⟩
 have d12:=PH.dj_un.1 d.symm
 obtain⟨A,c,e1,e2,e3⟩:=aC.ro d12.1.symm ha
 refine⟨A,c,by rw[←B];exact e1,by rw[←B];exact e2,fun i r hi=>?_⟩
 have hlt:=(uR.1 hi).1
 obtain⟨b,o,cs,h1,h2,h3⟩:=e3 i us[i] (vB (by omega))
 obtain⟨k',h4,h5⟩:=iG.at_ i hb (vB (by omega)) hi
 have hk:k'.le (ρ.un (k1.un k2)):=h5.tr ((PH.le_un_r d2).tr (PH.le_un_r d))
 refine⟨b,o,cs,h1,⟨us[i].v,h2,?_⟩,h3.mono (by rw[←PH.un_assoc];exact PH.le_un _ _)⟩
 have h6:aH (PH.emp.un k') us[i].v r:=aC.ro (PH.dj_emp k').symm h4
 exact h6.mono (by
  have:PH.emp.un k'=k':=by funext x;rfl
  rw[this];exact hk)
theorem bM.lend (D:Hp Z ρ L w) (k:Nat) (hk:L[k]?=some (bM T Ti v us l)) {i:Int} {u:Sl} {r:List α} (hu:idx us i=some u) (hi:idx l i=some r):
  ∃κ,aH (ρ.un κ) u.v r∧Hp Z (ρ.un κ) (iG Ti (us.eraseIdx i.toNat) (l.eraseIdx i.toNat)::aC T v us::L.eraseIdx k) w∧
   ∀w,Hp Z (ρ.un κ) (iG Ti (us.eraseIdx i.toNat) (l.eraseIdx i.toNat)::aC T v us::L.eraseIdx k) w→Hp Z ρ L w:=by
 obtain⟨κ,ha,hd,h⟩:=(bM.focus D k hk hu hi).lend
 refine⟨κ,aC.ro hd ha,h,fun w B=>?_⟩
 have:=bM.unfocus k hk hu hi (Hp.back ha hd B)
 rw[set_self (rO hi).2.2,set_same hk] at this
 exact this
end
section
variable {Rn:Option Nat} {P:Program} {fn:Func} {R:Ending→World→Prop} {a:Act} {w:World} {Df:List Deferred} {N:Nat} {E:Ent}
theorem aD6 (B:Env N E a) (hr:fn.results= #[]) (h:R (.returned (.tuple #[])) w):bodyPost P fn R .normal a w:=
 ⟨B.defers,_,by simp[results,hr],h⟩
theorem ret0 (B:Env N E a) (hr:fn.results= #[]) (h:R (.returned (.tuple #[])) w):bodyPost P fn R .ret a w:=
 ⟨B.defers,_,by simp[results,hr],h⟩
theorem aI6 {T:TypeId} {cs:List Value} (ht:VarTy P T true cs.length) {b o:Nat} {w:World} (h:∀j u,cs[j]?=some u→w.cell? ⟨b,o+j,none⟩=some u):(loadVar T ⟨b,o,none⟩).run P w= .ok (.agg cs.toArray) w:=by
 have:=run_loadCells_list (P:=P) (w:=w) ⟨b,o,none⟩ cs (fun j v B=>by rw[Addr.add_lit];exact h j v B)
 simp[loadVar,ht.agg_ w,ht.size_ w,this]
theorem retc1 (B:Env N E a) {t:Nat} {T:TypeId} (hr:fn.results= #[.cell t T]) {p:Addr} (hv:lk E t=some (.pointer (some p))) {v:Value} (D:(loadVar T p).run P w= .ok v w) (h:R (.returned v) w):bodyPost P fn R .ret a w:=by
 refine⟨B.defers,v,?_,h⟩
 have:=B.val t _ hv
 simp[results,hr,Array.getD_eq_getD_getElem?,this,asAddr,D]
end
abbrev Facts:=List (List Nat×(World→Prop))
def alive (G:List Nat) (listed:Array Bool):Bool:=G.all fun g=> !listed.getD g true
def invV:Facts→Array Bool→World→Prop
 | [],_,_=>True
 |p::r,listed,w=>(alive p.1 listed=true→p.2 w)∧invV r listed w
theorem invV.get {listed:Array Bool} {w:World} {G:List Nat} {C:World→Prop}:∀{F:Facts} (n:Nat),F[n]?=some (G,C)→alive G listed=true→invV F listed w→C w
 | [],_,h,_,_=>by simp at h
 |p::r,0,h,ha,hi=>by
  simp only[List.getElem?_cons_zero,wA] at h
  subst h
  exact hi.1 ha
 |p::r,n+1,h,ha,hi=>invV.get (F:=r) n (by simpa using h) ha hi.2
theorem alive_set {G:List Nat} {listed:Array Bool} {i:Nat} (h:alive G (listed.setIfInBounds i true)=true):alive G listed=true:=by
 unfold alive at*
 rw[List.all_eq_true] at*
 intro g hg
 have:=h g hg
 by_cases e:i=g
 ·subst e
  rcases xV i listed.size with h'|h'
  ·simp[h'] at this
  simp[Array.getElem?_eq_none h'] at this
 rw[getD_set_ne true e] at this;exact this
theorem invV.weak {listed:Array Bool} {w:World} {i:Nat}:∀{F:Facts},invV F listed w→invV F (listed.setIfInBounds i true) w
 | [],h=>trivial
 |p::r,h=>⟨fun ha=>h.1 (alive_set ha),invV.weak h.2⟩
def aE7:Facts→Nat→Bool
 | [],_=>true
 |p::r,i=> !p.1.contains i&&aE7 r i
theorem alive_of_set {G:List Nat} {listed:Array Bool} {i:Nat} (B:G.contains i=false) (h:alive G listed=true):alive G (listed.setIfInBounds i true)=true:=by
 unfold alive at*
 rw[List.all_eq_true] at*
 intro g hg
 have hne:i≠g:=fun e=>by
  subst e
  have:G.contains i=true:=by simpa using hg
  rw[B] at this;cases this
 rw[getD_set_ne true hne];exact h g hg
theorem invV.back {listed:Array Bool} {w:World} {i:Nat}:∀{F:Facts},aE7 F i=true→invV F (listed.setIfInBounds i true) w→invV F listed w
 | [],_,_=>trivial
 |p::r,hn,h=>by
  simp only[aE7,Bool.and_eq_true,Bool.not_eq_true'] at hn
  exact⟨fun ha=>h.1 (alive_of_set hn.1 ha),invV.back hn.2 h.2⟩
section
variable {Rn:Option Nat} {P:Program} {ops:Array Oper} {Q:Exit→Act→World→Prop} {md:Region.Mode} {F:Facts}
def pF (P:Program) (md:Region.Mode) (ops:Array Oper) (Q:Exit→Act→World→Prop) (F:Facts):Nat→Array Bool→Act→World→Prop
 |0,listed,a,w=>Region.ready md ops listed=[]∧Q .normal a w
 |fuel+1,listed,a,w=>
  (Region.ready md ops listed=[]→Q .normal a w)∧
  ∀i∈Region.ready md ops listed,wpOp P ops Q i (fun a' w'=>invV F (listed.setIfInBounds i true) w'∧pF P md ops Q F fuel (listed.setIfInBounds i true) a' w') a w
theorem wpAny_of_V:∀(fuel:Nat) (listed:Array Bool) (a:Act) (w:World),pF P md ops Q F fuel listed a w→wpAny P md ops Q fuel listed a w
 |0,_,_,_,h=>h
 |fuel+1,_,_,_,h=>⟨h.1,fun i hi=>wpOp_mono (fun a' w' h'=>wpAny_of_V fuel _ a' w' h'.2) (h.2 i hi)⟩
def waits (md:Region.Mode) (ops:Array Oper) (G:List Nat) (i:Nat):Bool:=G.all fun g=>match ops[g]? with|some o=>o.after.any fun e=>Region.binds md e&&e.on==i|none=>false
theorem waits_spec {G:List Nat} {i:Nat} (h:waits md ops G i=true) {g:Nat} (hg:g∈G):∃o,ops[g]?=some o∧∃e∈o.after,Region.binds md e=true∧e.on=i:=by
 have h1:=List.all_eq_true.1 h g hg
 cases B:ops[g]? with
 |none=>simp[B] at h1
 |some o=>
  simp only[B] at h1
  obtain⟨e,he,hb⟩:=Array.any_eq_true'.1 h1
  simp only[Bool.and_eq_true,beq_iff_eq] at hb
  exact⟨o,O,e,he,hb.1,hb.2⟩
theorem aS6 {i:Nat} {oi:Oper} {v:Value} (hi:ops[i]?=some oi) (hsel:∀(j:Nat) (o:Oper) cs b,ops[j]?=some o→o.op≠ .select cs b)
  (hQ:∀c a w,Q (.panic c) (a.put oi.dst v) w→Q (.panic c) a w) {n:Nat} {G:List Nat} {C:World→Prop} (hn:F[n]?=some (G,C)) (hG:waits md ops G i=true) (hN:aE7 F i=true):
  ∀(fuel:Nat) (listed:Array Bool) (a:Act) (w:World),
   (∀j oj,ops[j]?=some oj→j≠i→listed.getD j true=false→(∀e∈oj.after,Region.binds md e=true→e.on≠i)→oi.apart ops oj=true)→
   i∈Region.ready md ops listed→YieldsIf P ops C oi v a→alive G listed=true→invV F listed w→
   pF P md ops Q F fuel (listed.setIfInBounds i true) (a.put oi.dst v) w→pF P md ops Q F (fuel+1) listed a w:=by
 intro fuel
 induction fuel with
 |zero=>
  intro listed a w _ hr hy ha B H
  refine⟨fun h=>(by rw[h] at hr;cases hr),fun j D=>?_⟩
  by_cases hji:j=i
  ·subst hji;exact hy.wpOp hi (B.get n hn ha) ⟨B.weak,H⟩
  have:=ready_mono D hji
  rw[H.1] at this
  cases this
 |succ fuel ih=>
  intro listed a w hfree hr hy ha B H
  refine⟨fun h=>(by rw[h] at hr;cases hr),fun j D=>?_⟩
  by_cases hji:j=i
  ·subst hji;exact hy.wpOp hi (B.get n hn ha) ⟨B.weak,H⟩
  have h1:=H.2 j (ready_mono D hji)
  obtain⟨hjun,oj,hoj,hall⟩:=mem_ready.1 D
  have hnot:∀e∈oj.after,Region.binds md e=true→e.on≠i:=fun e he hb heq=>by
   have h1:=hall e he hb
   have h0:=(mem_ready.1 hr).1
   rw[heq] at h1
   rcases xV i listed.size with h'|h'
   ·simp[h'] at h0 h1;rw[h0] at h1;cases h1
   simp[Array.getElem?_eq_none h'] at h1
  have hjG:j∉G:=fun K=>by
   obtain⟨o,I,e,he,hb,heq⟩:=waits_spec hG K
   rw[hoj] at I
   obtain rfl:=wD I
   exact hnot e he hb heq
  have ha':alive G (listed.setIfInBounds j true)=true:=by
   unfold alive at*
   rw[List.all_eq_true] at*
   intro g hg
   have hne:j≠g:=fun e=>hjG (e▸hg)
   rw[getD_set_ne true hne];exact ha g hg
  have h2:=wpOp_putIf hoj (hfree j oj hoj hji hjun hnot) (fun cs b=>hsel i oi cs b hi) (fun cs b=>hsel j oj cs b hoj) hQ hy h1
  have hfree':∀k ok,ops[k]?=some ok→k≠i→(listed.setIfInBounds j true).getD k true=false→
    (∀e∈ok.after,Region.binds md e=true→e.on≠i)→oi.apart ops ok=true:=fun k ok hk hki hun hno=>by
   refine hfree k ok hk hki ?_ hno
   by_cases hjk:j=k
   ·subst hjk;exact hjun
   rw[getD_set_ne true hjk] at hun;exact hun
  refine wpOp_mono (fun a' w' h3=>?_) h2
  obtain⟨hy',hinv,hrest⟩:=h3
  rw[Array.setIfInBounds_comm _ _ (Ne.symm hji)] at hinv hrest
  have hinv':invV F (listed.setIfInBounds j true) w':=invV.back hN hinv
  refine⟨hinv',ih (listed.setIfInBounds j true) a' w' hfree' (ready_mono hr (Ne.symm hji)) hy' ha' hinv' ?_⟩
  exact hrest
end
section
variable {Rn:Option Nat} {P:Program} {ops:Array Oper} {a:Act} {w:World} {Df:List Deferred} {N:Nat} {E:Ent} {d:Nat} {J:Act→World→Prop} {fuel:Nat} {listed:Array Bool} {o:Oper} {F:Facts}
theorem gK {Q:Exit→Act→World→Prop} {cs:List Code} {id:Nat} {l:List Oper} (F:Facts) (J:Act→World→Prop) (B:P.follows .mixedOrders=true) (h0:invV F (Array.replicate l.length false) w.drew)
  (h:invV F (Array.replicate l.length false) w.drew→pF P .any l.toArray (QJ J) F l.length (Array.replicate l.length false) a w.drew) (hk:∀a w,J a w→wpK none P Q cs a w):wpK none P Q (.region id l.toArray true::cs) a w:=by
 have h1:(Code.region id l.toArray true).wp P (QJ J) a w:=wp_region_any B (by simpa using wpAny_of_V _ _ _ _ (h h0))
 exact wpIn_wide.2 <| Code.wp_mono (fun e a w q=>by
  cases e with
  |normal=>exact hk a w q
  |_=>exact q.elim) h1
def At0 (Z:World) (ρ:PH):World→Prop:=fun w=>∃L,Hp Z ρ L w
def At1 (Z:World) (ρ:PH) (A:bQ):World→Prop:=fun w=>∃L,Hp Z ρ (A::L) w
variable {Z:World} {ρ:PH} {A:bQ}
theorem v_take (i n:Nat) {G:List Nat} {C:World→Prop} (wk:Region.wanted o (yielded ops a.tmps)=true) (hi:ops[i]?=some o) (hd:o.dst=some d) (hN:Nat.blt d N=true) (H:EnvD Df N E a) (hs:Region.noSelect ops=true) (hf:Region.free .any ops listed i=true) (hr:(Region.ready .any ops listed).contains i=true)
  (hn:F[n]?=some (G,C)) (hG:(waits .any ops G i&&alive G listed&&aE7 F i)=true) (B:invV F listed w) {v:Value} (D:Ex P C a o v)
  (K:∀a,EnvD Df N ((d,v)::E) a→invV F (listed.setIfInBounds i true) w→pF P .any ops (QJ J) F fuel (listed.setIfInBounds i true) a w):pF P .any ops (QJ J) F (fuel+1) listed a w:=by
 simp only[Bool.and_eq_true] at hG
 exact aS6 hi (Region.noSelect_spec hs) (fun _ _ _ q=>q.elim) hn hG.1.1 hG.2 fuel listed a w (Region.free_spec hi hf) (by simpa using hr) (Or.inl ⟨wk,D⟩) hG.1.2 B (by rw[hd];exact K _ (H.put hN v) B.weak)
theorem v_take0 (i:Nat) (wk:Region.wanted o (yielded ops a.tmps)=true) (hi:ops[i]?=some o) (hd:o.dst=some d) (hN:Nat.blt d N=true) (H:EnvD Df N E a) (hs:Region.noSelect ops=true) (hf:Region.free .any ops listed i=true) (hr:(Region.ready .any ops listed).contains i=true)
  (hn:F[0]?=some ([],At0 Z ρ)) (hG:(waits .any ops [] i&&alive [] listed&&aE7 F i)=true) (G:invV F listed w) {v:Value} (B:∀L,Ex P (Hp Z ρ L) a o v)
  (K:∀a,EnvD Df N ((d,v)::E) a→invV F (listed.setIfInBounds i true) w→pF P .any ops (QJ J) F fuel (listed.setIfInBounds i true) a w):pF P .any ops (QJ J) F (fuel+1) listed a w:=
 v_take i 0 wk hi hd hN H hs hf hr hn hG G (fun w ⟨L,D⟩=>B L w D) K
theorem v_take1 (i n:Nat) {G:List Nat} (wk:Region.wanted o (yielded ops a.tmps)=true) (hi:ops[i]?=some o) (hd:o.dst=some d) (hN:Nat.blt d N=true) (I:EnvD Df N E a) (hs:Region.noSelect ops=true) (hf:Region.free .any ops listed i=true) (hr:(Region.ready .any ops listed).contains i=true)
  (hn:F[n]?=some (G,At1 Z ρ A)) (hG:(waits .any ops G i&&alive G listed&&aE7 F i)=true) (H:invV F listed w) {v:Value} (B:∀L,Ex P (Hp Z ρ (A::L)) a o v)
  (K:∀a,EnvD Df N ((d,v)::E) a→invV F (listed.setIfInBounds i true) w→pF P .any ops (QJ J) F fuel (listed.setIfInBounds i true) a w):pF P .any ops (QJ J) F (fuel+1) listed a w:=
 v_take i n wk hi hd hN I hs hf hr hn hG H (fun w ⟨L,D⟩=>B L w D) K
theorem v_skip (i:Nat) (wk:Region.wanted o (yielded ops a.tmps)=false) (hi:ops[i]?=some o) (hd:o.dst=some d) (hN:Nat.blt d N=true) (D:EnvD Df N E a) (hs:Region.noSelect ops=true) (hf:Region.free .any ops listed i=true) (hr:(Region.ready .any ops listed).contains i=true)
  (hn:F[0]?=some ([],At0 Z ρ)) (hG:aE7 F i=true) (B:invV F listed w)
  (K:∀a,EnvD Df N ((d,undef)::E) a→invV F (listed.setIfInBounds i true) w→pF P .any ops (QJ J) F fuel (listed.setIfInBounds i true) a w):pF P .any ops (QJ J) F (fuel+1) listed a w:=
 aS6 hi (Region.noSelect_spec hs) (fun _ _ _ q=>q.elim) hn O hG fuel listed a w (Region.free_spec hi hf) (by simpa using hr) (Or.inr ⟨wk,O⟩) O B (by rw[hd];exact K _ (D.put hN undef) B.weak)
theorem aF {p q:Prop} (h:p) (k:p→q):p∧q:=⟨h,k h⟩
theorem fQ (rs:List Nat) (hr:Region.ready .any ops listed=rs) (hne:rs.isEmpty=false) (h:∀i∈rs,wpOp P ops (QJ J) i (fun a' w'=>invV F (listed.setIfInBounds i true) w'∧pF P .any ops (QJ J) F fuel (listed.setIfInBounds i true) a' w') a w):pF P .any ops (QJ J) F (fuel+1) listed a w:=
 ⟨fun h0=>absurd (hr▸h0) (by intro e;rw[e] at hne;cases hne),hr▸h⟩
theorem bT (hr:Region.ready .any ops listed=[]) (h:J a w):pF P .any ops (QJ J) F fuel listed a w:=by
 cases fuel with
 |zero=>exact⟨hr,h⟩
 |succ n=>exact⟨fun _=>h,by rw[hr];simp⟩
theorem dead {G:List Nat} {p:Prop} (h:alive G listed=false):alive G listed=true→p:=fun e=>by rw[h] at e;cases e
end
structure RFlat where
 kinds:List Int
 texts:List ByteArray
 left:List Int
 numbers:List Int
structure Lbl where
 kind:Int
 text:ByteArray
deriving DecidableEq
instance:Vl Lbl:=⟨fun a=> .agg #[.int .i64 a.kind,.string a.text]⟩
instance:Enc Lbl:=⟨2,fun a=>[.int .i64 a.kind,.string a.text],fun _=>rfl,fun a v h=>by
 simp at h;rcases h with rfl|rfl<;>rfl,by decide⟩
structure DFlat where
 labels:List Lbl
 left:List Int
 numbers:List Int
structure Opn where
 a:Int
 b:Int
deriving DecidableEq
instance:Vl Opn:=⟨fun a=> .agg #[.int .i64 a.a,.int .i64 a.b]⟩
instance:Enc Opn:=⟨2,fun a=>[.int .i64 a.a,.int .i64 a.b],fun _=>rfl,fun a v h=>by
 simp at h;rcases h with rfl|rfl<;>rfl,by decide⟩
structure Chg where
 op:Int
 node:Int
 index:Int
 count:Int
 kind:Int
 text:ByteArray
deriving DecidableEq
instance:Vl Chg:=⟨fun a=> .agg #[.int .i64 a.op,.int .i64 a.node,.int .i64 a.index,.int .i64 a.count,.int .i64 a.kind,.string a.text]⟩
instance:Enc Chg:=⟨6,fun a=>[.int .i64 a.op,.int .i64 a.node,.int .i64 a.index,.int .i64 a.count,.int .i64 a.kind,.string a.text],fun _=>rfl,fun a v h=>by
 simp at h;rcases h with rfl|rfl|rfl|rfl|rfl|rfl<;>rfl,by decide⟩
structure Span where
 kind:Int
 text:ByteArray
 last:Int
 parent:Int
deriving DecidableEq
instance:Vl Span:=⟨fun a=> .agg #[.int .i64 a.kind,.string a.text,.int .i64 a.last,.int .i64 a.parent]⟩
instance:Enc Span:=⟨4,fun a=>[.int .i64 a.kind,.string a.text,.int .i64 a.last,.int .i64 a.parent],fun _=>rfl,fun a v h=>by
 simp at h;rcases h with rfl|rfl|rfl|rfl<;>rfl,by decide⟩
structure Nmb where
 nodes:List Node
 sizes:List Int
 parent:List Int
structure Alg where
 a:Nmb
 b:Nmb
 orderA:List Int
 leftA:List Int
 orderB:List Int
 leftB:List Int
 distances:List (List Int)
 partner:List Int
 back:List Int
section
variable {P:Program} {C:World→Prop} {a:Act} {o:Oper} {Df:List Deferred} {N:Nat} {E:Ent}
theorem ex_min3 {t:Array TypeId} {x y z:Operand} (G:o.op= .call {callee:= .builtin .min,args:= #[x,y,z],argTypes:=t}) (B:EnvD Df N E a) {k:IntKind} {l m n:Int} (D:evo E x=some (.int k l)) (hy:evo E y=some (.int k m)) (hz:evo E z=some (.int k n)):Ex P C a o (.int k (min (min l m) n)):=fun w hw=>by
 simp only[execOp,G,resolve,invoke,Sem.run_bind,Sem.run_pure,Result.andThen_ok,List.map_toArray,List.map_cons,List.map_nil,B.eval D,B.eval hy,B.eval hz]
 have e1:(Builtin.min2 (.int k l) (.int k m)).run P w= .ok (.int k (min l m)) w:=by simp[Builtin.min2];split<;>omega
 have e2:(Builtin.min2 (.int k (min l m)) (.int k n)).run P w= .ok (.int k (min (min l m) n)) w:=by simp[Builtin.min2];split<;>omega
 simp[builtin,Builtin.min_,e1,e2]
end
open Go.ChangeShapes Go.WideShapes Go.ChangeAt Go.RowKit
inductive NodeWf:Node→Prop
 |mk (kind:Int) (text:ByteArray) (at_ fin:Int) (kids:List Node) (h1:I64 kind) (h2:text.size≤maxLen) (h3:I64 at_) (h4:I64 fin) (h5:kids.length≤maxLen) (h6:∀k∈kids,NodeWf k):NodeWf ⟨kind,text,at_,fin,kids⟩
set_option maxRecDepth 100000 in
theorem node_trod {H:Type} {enc:TypeId×Value→H} {w:World} {base:Nat} {spare:Nat→Bool} {held:Bool}:∀(fuel:Nat) {cs:List Value} {x:DataW H×List MemPlace},
  DataW.trod enc Tryz.prog w base spare held fuel 24 cs=some x→∃a:Node,NodeAt (hp w) a cs∧NodeWf a:=by
 intro fuel
 induction fuel using Nat.strongRecOn with
 |_ fuel ih=>
  intro cs x h
  obtain⟨xs,n,rfl,_,M,I,hf⟩:=DataW.trod_struct Tryz.underlying24 h
  have B:cs.length=5:=M.trans kr
  have hx2:xs.length=5:=I
  have ki:Tryz.prog.cellsOf 3=1:=by kernel_rfl
  have ks:Tryz.prog.cellsOf 9=1:=by kernel_rfl
  have kl:Tryz.prog.cellsOf 22=1:=by kernel_rfl
  have kn:Tryz.prog.cellsOf 24=5:=by kernel_rfl
  match cs,B,xs,hx2 with
  | [c0,c1,c2,c3,c4],_,[y0,y1,y2,y3,y4],_=>
   have z0:=hf 0 _ O
   have z1:=hf 1 _ O
   have z2:=hf 2 _ O
   have z3:=hf 3 _ O
   have z4:=hf 4 _ O
   simp[ki] at z0 z2 z3
   simp[ks] at z1
   simp[kl] at z4
   obtain⟨n0,e0,_,w0⟩:=DataW.trod_int Tryz.underlying3 z0
   obtain⟨n1,e1,_,w1⟩:=DataW.trod_string Tryz.underlying9 z1
   obtain⟨n2,e2,_,w2⟩:=DataW.trod_int Tryz.underlying3 z2
   obtain⟨n3,e3,_,w3⟩:=DataW.trod_int Tryz.underlying3 z3
   simp only[List.cons.injEq,and_true] at e0 e1 e2 e3
   subst e0 e1 e2 e3
   rcases DataW.trod_slice Tryz.underlying22 z4 with⟨e4,_⟩|⟨a,len,cap,elems,rest,m,rfl,e4,_,hb,hle,hm,hlen,hel,_⟩
   ·simp only[List.cons.injEq,and_true] at e4
    subst e4
    exact⟨⟨n0,n1,n2,n3,[]⟩,NodeAt.shut (aH.nil _),.mk _ _ _ _ _ (I64.of w0) w1 (I64.of w2) (I64.of w3) (by unfold maxLen;simp) (by simp)⟩
   simp only[List.cons.injEq,and_true] at e4
   subst e4
   have key:∀i,i<len→∃z:Node,NodeWf z∧∃b o cs',some a=some ⟨b,o,none⟩∧NodeAt (hp w) z cs'∧AtP (hp w) b (o+i*5) cs':=by
    intro i hi
    have h1:=hel i hi
    rw[vB (by omega),kn] at h1
    obtain⟨cs',S,ht'⟩:=Option.bind_eq_some_iff.1 h1
    obtain⟨_,hcl,hat⟩:=World.cells?_some S
    obtain⟨z,hz,K⟩:=ih m (by omega) ht'
    have h0:=hel 0 (by omega)
    rw[vB (by omega),kn] at h0
    obtain⟨cs0,D,_⟩:=Option.bind_eq_some_iff.1 h0
    obtain⟨_,hcl0,hat0⟩:=World.cells?_some D
    have hs0:=hat0 0 (by omega)
    rw[vB (by omega)] at hs0
    obtain⟨b,o,sp⟩:=a
    have hsp:sp=none:=by
     cases sp with
     |none=>rfl
     |some s=>
      simp[Addr.add,World.cell?] at hs0
      split at hs0<;>cases hs0
    subst hsp
    refine⟨z,K,b,o,cs',O,hz,fun j u G=>?_⟩
    have hjl:j<5:=by rw[←hcl];exact(uR.1 G).1
    have:=hat j hjl
    rw[Addr.add_lit,Addr.add_lit,G] at this
    unfold World.cell? at this
    simp only[Option.isSome_none,Bool.false_eq_true,if_false] at this
    exact this
   obtain⟨l,hll,hp⟩:=exists_list len key
   refine⟨⟨n0,n1,n2,n3,l⟩,NodeAt.shut ⟨some a,cap,by rw[hll],by rw[hll];exact hle,fun i z hz=>(hp i z hz).2⟩,.mk _ _ _ _ _ (I64.of w0) w1 (I64.of w2) (I64.of w3) (by omega) (fun z hz=>?_)⟩
   obtain⟨i,hi⟩:=List.getElem?_of_mem hz
   exact(hp i z hi).1
theorem reads_node:Reads Tryz.prog 24 Node NodeWf:=⟨by kernel_rfl,by decide,fun h=>node_trod _ h⟩
theorem own_:ownKnob Tryz.prog.godebug=none:=by kernel_rfl
theorem laidOut_:laidOutB Tryz.prog=true:=by kernel_rfl
noncomputable def lX (B:Node) (self:Node→Option Int) (aQ:Int) (aU:Int):Option (Step (Int×Int) Int):=
 if(decide (aU<(B.kids.length:Int)))=true then
  (idx B.kids aU).bind fun I=>
  (self I).bind fun H=>
  (inK .i64 (aQ+H)).bind fun G=>
  (inK .i64 (aU+1)).bind fun D=>
  some (.next (G,D))
 else
  some (.done aQ)
noncomputable def pM (self:Node→Option Int) (B:Node):Option Int:=
 (dY (fun s=>lX B self s.1 s.2) (1,0):Option Int).bind fun b2=>
 some b2
noncomputable def kY:Nat→Node→Option Int
 |0=>fun _=>none
 |n+1=>pM (kY n)
noncomputable def uC (B:Node):Option Int:=kY (SizeOf.sizeOf B+1) B
noncomputable def xK (D:Node) (B:Node):Option Bool:=
 some ((decide (D.kind=B.kind))&&(decide (D.text=B.text)))
noncomputable def wR (B:Node) (K:Node) (self:Node→Node→Option Bool) (aQ:Int):Option (Step Int (Out Unit Bool)):=
 if(decide (aQ<(B.kids.length:Int)))=true then
  (idx B.kids aQ).bind fun I=>
  (idx K.kids aQ).bind fun H=>
  (self I H).bind fun G=>
  if(!G)=true then
   some (.done (.ret false))
  else
   (inK .i64 (aQ+1)).bind fun D=>
   some (.next D)
 else
  some (.done (.brk ()))
noncomputable def uG (self:Node→Node→Option Bool) (D:Node) (B:Node):Option Bool:=
 (xK D B).bind fun G=>
 if((!G)||(!decide ((D.kids.length:Int)=(B.kids.length:Int))))=true then
  some false
 else
  (dY (fun s=>wR D B self s) 0:Option (Out Unit Bool)).bind fun b3=>
  match b3 with
  | .brk b3s=>
   some true
  | .ret r=>some r
noncomputable def sZ:Nat→Node→Node→Option Bool
 |0=>fun _ _=>none
 |n+1=>uG (sZ n)
noncomputable def Q3 (B:Node) (D:Node):Option Bool:=sZ (SizeOf.sizeOf B+1) B D
noncomputable def kE (B:Node) (self:Node→Int→Option Int) (aQ:Int) (aU:Int):Option (Step (Int×Int) Int):=
 if((decide (aU<(B.kids.length:Int)))&&(decide (0≤aQ)))=true then
  (idx B.kids aU).bind fun H=>
  (self H aQ).bind fun G=>
  (inK .i64 (aU+1)).bind fun D=>
  some (.next (G,D))
 else
  some (.done aQ)
noncomputable def rH (self:Node→Int→Option Int) (D:Node) (B:Int):Option Int:=
 if((decide (B<1))||(decide (40<(D.text.size:Int))))=true then
  some (-1)
 else
  (inK .i64 (B-1)).bind fun G=>
  (dY (fun s=>kE D self s.1 s.2) (G,0):Option Int).bind fun b2=>
  some b2
noncomputable def kQ:Nat→Node→Int→Option Int
 |0=>fun _ _=>none
 |n+1=>rH (kQ n)
noncomputable def zN (B:Node) (D:Int):Option Int:=kQ (SizeOf.sizeOf B+1) B D
noncomputable def qB (G:Node) (D:Int):Option Bool:=
 (zN G D).bind fun B=>
 some (decide (0≤B))
noncomputable def sU (I:Node) (H:Node) (B:Int):Option Bool:=
 (qB I B).bind fun G=>
 ((if G=true then
  (qB H B).bind fun D=>
  some D
 else
  some false):Option Bool).bind fun m1=>
 some m1
noncomputable def lK (B:ByteArray):Option Node:=
 some (Node.mk 20 B 0 0 ([]))
noncomputable def pK (G:ByteArray) (D:Node) (B:Node):Option Node:=
 some (Node.mk 29 G 0 0 ([D,B]:List Node))
noncomputable def xA (B:(List Node)) (K:(List Node)) (aQ:Int):Option (Step Int (Out Unit Bool)):=
 if(decide (aQ<(B.length:Int)))=true then
  (idx B aQ).bind fun I=>
  (idx K aQ).bind fun H=>
  (Q3 I H).bind fun G=>
  if(!G)=true then
   some (.done (.ret false))
  else
   (inK .i64 (aQ+1)).bind fun D=>
   some (.next D)
 else
  some (.done (.brk ()))
noncomputable def vF (D:(List Node)) (B:(List Node)):Option Bool:=
 if(!decide ((D.length:Int)=(B.length:Int)))=true then
  some false
 else
  (dY (fun s=>xA D B s) 0:Option (Out Unit Bool)).bind fun b1=>
  match b1 with
  | .brk b1s=>
   some true
  | .ret r=>some r
mutual
def bK:Node→Nat
 |⟨_,_,_,_,kids⟩=>1+gW kids
def gW:List Node→Nat
 | []=>0
 |k::l=>bK k+gW l
end
def aD4 (n:Node):Option Int:=if bK n<4611686018427387904 then some (bK n:Int) else none
noncomputable def gX (I:Nmb) (B:Int) (D:Int):Option Bool:=
 ((if(decide (B<D))=true then
  (idx I.sizes B).bind fun H=>
  (inK .i64 (B+H)).bind fun G=>
  some (decide (D<G))
 else
  some false):Option Bool).bind fun m1=>
 some m1
noncomputable def nM (D:Node) (B:Node):Option Bool:=
 some ((decide (D.kind=B.kind))&&(decide (D.text=B.text)))
noncomputable def qN (D:Node) (cp0:Nmb) (self:Node→Int→Nmb→Option Nmb) (aQ:Int) (aU:(List Node)) (dS:(List Int)) (fK:(List Int)):Option (Step (Int×(List Node)×(List Int)×(List Int)) ((List Node)×(List Int)×(List Int))):=
 if(decide (aQ<(D.kids.length:Int)))=true then
  (idx D.kids aQ).bind fun H=>
  (self H (cp0.nodes.length:Int) (Nmb.mk aU dS fK)).bind fun B=>
  (inK .i64 (aQ+1)).bind fun G=>
  some (.next (G,B.nodes,B.sizes,B.parent))
 else
  some (.done (aU,dS,fK))
noncomputable def uA (self:Node→Int→Nmb→Option Nmb) (B:Node) (K:Int) (cp0:Nmb):Option Nmb:=
 (app cp0.nodes [B]).bind fun I=>
 (aD4 B).bind fun H=>
 (app cp0.sizes [H]).bind fun G=>
 (app cp0.parent [K]).bind fun D=>
 (dY (fun s=>qN B cp0 self s.1 s.2.1 s.2.2.1 s.2.2.2) (0,I,G,D):Option ((List Node)×(List Int)×(List Int))).bind fun b18=>
 some (Nmb.mk b18.1 b18.2.1 b18.2.2)
noncomputable def qX:Nat→Node→Int→Nmb→Option Nmb
 |0=>fun _ _ _=>none
 |n+1=>uA (qX n)
noncomputable def L6 (B:Node) (D:Int) (cp0:Nmb):Option Nmb:=qX (SizeOf.sizeOf B+1) B D cp0
noncomputable def jX (D:Node):Option Nmb:=
 (L6 D (-1) (Nmb.mk ([]) ([]) ([]))).bind fun B=>
 some B
noncomputable def kU (D:Int) (cp1:Nmb) (self:Int→(List Int)→Nmb→(List Int)→Option ((List Int)×(List Int))) (aQ:Int) (aU:(List Int)) (dS:(List Int)):Option (Step (Int×(List Int)×(List Int)) ((List Int)×(List Int))):=
 (idx cp1.sizes D).bind fun K=>
 (inK .i64 (D+K)).bind fun I=>
 if(decide (aQ<I))=true then
  (self aQ aU cp1 dS).bind fun B=>
  (idx cp1.sizes aQ).bind fun H=>
  (inK .i64 (aQ+H)).bind fun G=>
  some (.next (G,B.1,B.2))
 else
  some (.done (aU,dS))
noncomputable def oC (self:Int→(List Int)→Nmb→(List Int)→Option ((List Int)×(List Int))) (B:Int) (cp0:(List Int)) (cp1:Nmb) (cp3:(List Int)):Option ((List Int)×(List Int)):=
 (inK .i64 (B+1)).bind fun H=>
 (dY (fun s=>kU B cp1 self s.1 s.2.1 s.2.2) (H,cp0,cp3):Option ((List Int)×(List Int))).bind fun b1=>
 (app b1.1 [B]).bind fun G=>
 (app b1.2 [(cp0.length:Int)]).bind fun D=>
 some (G,D)
noncomputable def jS:Nat→Int→(List Int)→Nmb→(List Int)→Option ((List Int)×(List Int))
 |0=>fun _ _ _ _=>none
 |n+1=>oC (jS n)
noncomputable def vW (B:Int) (cp0:(List Int)) (cp1:Nmb) (cp3:(List Int)):Option ((List Int)×(List Int)):=jS (cp1.sizes.length+1) B cp0 cp1 cp3
noncomputable def nS (D:Nmb):Option ((List Int)×(List Int)):=
 (vW 0 [] D []).bind fun B=>
 some (B.1,B.2)
noncomputable def jP (B:(List Bool)) (H:Bool) (aQ:Int):Option (Step Int (Out Unit Int)):=
 if(decide (aQ<(B.length:Int)))=true then
  (idx B aQ).bind fun G=>
  if(H==G)=true then
   some (.done (.ret aQ))
  else
   (inK .i64 (aQ+1)).bind fun D=>
   some (.next D)
 else
  some (.done (.brk ()))
noncomputable def qQ (D:(List Bool)) (B:Bool):Option Int:=
 (dY (fun s=>jP D B s) 0:Option (Out Unit Int)).bind fun b1=>
 match b1 with
 | .brk b1s=>
  some (-1)
 | .ret r=>some r
noncomputable def kF (G:(List Bool)) (D:Bool):Option Bool:=
 (qQ G D).bind fun B=>
 some (decide (0≤B))
noncomputable def uK (D:(List Opn)) (K:Nmb) (aQ:Int) (aU:Int) (dS:(List Opn)) (fK:(List Bool)):Option (Step (Int×Int×(List Opn)×(List Bool)) (Out ((List Opn)×(List Bool)) Bool)):=
 if(decide (aU<(D.length:Int)))=true then
  (((idx D aU).bind fun B=>
  if((((((!((decide (aU<(K.nodes.length:Int)))==(decide (0≤B.a))))||((decide (0≤B.a))&&(!decide (B.a=aU))))||((decide (B.a<0))&&(!decide (B.a=(-1)))))||(decide (B.b<(-1))))||(decide ((fK.length:Int)≤B.b)))||((decide (B.a<0))&&(decide (B.b≤aQ))))=true then
   some (.ret false)
  else
   ((if(decide (B.a<0))=true then
    some B.b
   else
    some aQ):Option Int).bind fun j2=>
   if(decide (B.b<0))=true then
    some (.brk (j2,dS,fK))
   else
    (idx fK B.b).bind fun I=>
    if I=true then
     some (.ret false)
    else
     (idx fK B.b).bind fun x6=>
     if(decide (0≤B.a))=true then
      (app dS [B]).bind fun H=>
      some (.brk (j2,H,fK.set B.b.toNat true))
     else
      some (.brk (j2,dS,fK.set B.b.toNat true))):Option (Out (Int×(List Opn)×(List Bool)) Bool)).bind fun j1=>
  match j1 with
  | .brk j1s=>
   (inK .i64 (aU+1)).bind fun G=>
   some (.next (j1s.1,G,j1s.2.1,j1s.2.2))
  | .ret r=>some (.done (.ret r))
 else
  some (.done (.brk (dS,fK)))
noncomputable def uM (V:Nmb) (H:Nmb) (D:Opn) (G:List Opn) (dR:Int):Option (Step Int (Out Unit Bool)):=
 if(decide (dR<(G.length:Int)))=true then
  (idx G dR).bind fun B=>
  ((if(decide (D.b<B.b))=true then
   (gX H D.b B.b).bind fun U=>
   some (!U)
  else
   some false):Option Bool).bind fun m1=>
  ((if m1=true then
   some true
  else
   (gX V B.a D.a).bind fun S=>
   (gX H B.b D.b).bind fun M=>
   some (!(S==M))):Option Bool).bind fun m2=>
  ((if m2=true then
   some true
  else
   (gX H D.b B.b).bind fun K=>
   some K):Option Bool).bind fun m3=>
  if m3=true then
   some (.done (.ret false))
  else
   (inK .i64 (dR+1)).bind fun I=>
   some (.next I)
 else
  some (.done (.brk ()))
noncomputable def pI (I:Nmb) (H:Nmb) (b23s:((List Opn)×(List Bool))) (bP:Int):Option (Step Int (Out Unit Bool)):=
 if(decide (bP<(b23s.1.length:Int)))=true then
  (idx b23s.1 bP).bind fun G=>
  (sub b23s.1 0 bP).bind fun D=>
  (dY (fun s=>uM I H G D s) 0:Option (Out Unit Bool)).bind fun b32=>
  match b32 with
  | .brk b32s=>
   (inK .i64 (bP+1)).bind fun B=>
   some (.next B)
  | .ret r=>some (.done (.ret r))
 else
  some (.done (.brk ()))
noncomputable def uZ (M:Node) (K:Node) (H:(List Opn)):Option Bool:=
 (jX M).bind fun G=>
 (jX K).bind fun B=>
 if(decide ((H.length:Int)<(G.nodes.length:Int)))=true then
  some false
 else
  (mkc (B.nodes.length:Int) (B.nodes.length:Int) (false:Bool)).bind fun I=>
  (dY (fun s=>uK H G s.1 s.2.1 s.2.2.1 s.2.2.2) ((-1),0,[],I):Option (Out ((List Opn)×(List Bool)) Bool)).bind fun b23=>
  match b23 with
  | .brk b23s=>
   (dY (fun s=>pI G B b23s s) 0:Option (Out Unit Bool)).bind fun b29=>
   match b29 with
   | .brk b29s=>
    (kF b23s.2 false).bind fun D=>
    some (!D)
   | .ret r=>some r
  | .ret r=>some r
noncomputable def vS (G:(List Opn)) (V:Nmb) (U:Nmb) (aQ:Int) (aU:Int):Option (Step (Int×Int) Int):=
 if(decide (aU<(G.length:Int)))=true then
  (idx G aU).bind fun B=>
  ((if((decide (B.a<0))||(decide (B.b<0)))=true then
   some true
  else
   (idx V.nodes B.a).bind fun S=>
   (idx U.nodes B.b).bind fun M=>
   (nM S M).bind fun K=>
   some (!K)):Option Bool).bind fun m1=>
  if m1=true then
   (inK .i64 (aQ+1)).bind fun I=>
   (inK .i64 (aU+1)).bind fun H=>
   some (.next (I,H))
  else
   (inK .i64 (aU+1)).bind fun D=>
   some (.next (aQ,D))
 else
  some (.done aQ)
noncomputable def zI (G:Node) (D:Node) (B:(List Opn)):Option (Int×Int):=
 (uZ G D B).bind fun K=>
 if(!K)=true then
  some (0,1)
 else
  (jX G).bind fun I=>
  (jX D).bind fun H=>
  (dY (fun s=>vS B I H s.1 s.2) (0,0):Option Int).bind fun b23=>
  some (b23,0)
def m_grow (n:Int):Option (List Chg):=if 0≤n∧n≤4294967296 then some [] else none
noncomputable def vT (G:Nmb) (D:Int) (B:(List Bool)) (aQ:Int) (aU:Int):Option (Step (Int×Int) Int):=
 if(decide (aQ<(B.length:Int)))=true then
  (idx B aQ).bind fun V=>
  (idx G.parent D).bind fun U=>
  if(decide (aQ=U))=true then
   (inK .i64 (aU+1)).bind fun S=>
   some (.done S)
  else
   ((if V=true then
    (idx G.parent D).bind fun M=>
    some (decide (0≤M))
   else
    some false):Option Bool).bind fun m1=>
   if m1=true then
    (inK .i64 (aU+1)).bind fun K=>
    (inK .i64 (aQ+1)).bind fun I=>
    some (.next (I,K))
   else
    (inK .i64 (aQ+1)).bind fun H=>
    some (.next (H,aU))
 else
  some (.done aU)
noncomputable def vV (H:Nmb) (G:(List Bool)) (dR:Int):Option (Step Int Int):=
 ((if(decide (0≤dR))=true then
  (idx G dR).bind fun D=>
  some (!D)
 else
  some false):Option Bool).bind fun m4=>
 if m4=true then
  (idx H.parent dR).bind fun B=>
  some (.next B)
 else
  some (.done dR)
noncomputable def vU (B:Nmb) (D:Int) (Y:(List Bool)) (bP:Int) (eP:Int) (G6:Int):Option (Step (Int×Int×Int) (Int×Int)):=
 if(decide (bP<(Y.length:Int)))=true then
  (((idx Y bP).bind fun X=>
  ((if(!X)=true then
   some true
  else
   (idx B.parent D).bind fun W=>
   ((if(decide (0≤W))=true then
    (idx B.parent D).bind fun V=>
    (gX B V bP).bind fun U=>
    some (!U)
   else
    some false):Option Bool).bind fun m3=>
   some m3):Option Bool).bind fun m2=>
  if m2=true then
   some (eP,G6)
  else
   (idx B.parent bP).bind fun S=>
   (dY (fun s=>vV B Y s) S:Option Int).bind fun b18=>
   (idx B.parent D).bind fun M=>
   if(!decide (b18=M))=true then
    some (eP,G6)
   else
    if(decide (bP<D))=true then
     (inK .i64 (eP+1)).bind fun K=>
     some (K,G6)
    else
     (gX B D bP).bind fun I=>
     if I=true then
      (inK .i64 (G6+1)).bind fun H=>
      some (eP,H)
     else
      some (eP,G6)):Option (Int×Int)).bind fun j1=>
  (inK .i64 (bP+1)).bind fun G=>
  some (.next (G,j1.1,j1.2))
 else
  some (.done (eP,G6))
noncomputable def tV (D:Nmb) (B:Int) (G:(List Bool)):Option Chg:=
 (idx D.nodes B).bind fun I=>
 (idx D.nodes B).bind fun H=>
 (dY (fun s=>vT D B G s.1 s.2) (0,(-1)):Option Int).bind fun b9=>
 (dY (fun s=>vU D B G s.1 s.2.1 s.2.2) (0,0,0):Option (Int×Int)).bind fun b13=>
 some (Chg.mk 2 b9 b13.1 b13.2 I.kind H.text)
noncomputable def J4 (aQ:Int) (aU:Int) (dS:(List Chg)):Option (Step (Int×Int×(List Chg)) (List Chg)):=
 if(decide (aQ<aU))=true then
  (idx dS aU).bind fun B=>
  (idx dS aQ).bind fun H=>
  (idx dS aQ).bind fun x4=>
  (idx (dS.set aQ.toNat B) aU).bind fun x5=>
  (inK .i64 (aQ+1)).bind fun G=>
  (inK .i64 (aU-1)).bind fun D=>
  some (.next (G,D,(dS.set aQ.toNat B).set aU.toNat H))
 else
  some (.done dS)
noncomputable def H5 (B:(List Chg)):Option (List Chg):=
 (inK .i64 ((B.length:Int)-1)).bind fun D=>
 (dY (fun s=>J4 s.1 s.2.1 s.2.2) (0,D,B):Option (List Chg)).bind fun b1=>
 some b1
noncomputable def Q4 (D:(List (List Chg))) (aQ:Int) (aU:Int):Option (Step (Int×Int) Int):=
 if(decide (aU<(D.length:Int)))=true then
  (idx D aU).bind fun H=>
  (inK .i64 (aQ+(H.length:Int))).bind fun B=>
  if(decide (B<0))=true then
   none
  else
   (inK .i64 (aU+1)).bind fun G=>
   some (.next (B,G))
 else
  some (.done aQ)
noncomputable def Q5 (B:(List (List Chg))) (bP:Int) (eP:(List Chg)):Option (Step (Int×(List Chg)) (List Chg)):=
 if(decide (bP<(B.length:Int)))=true then
  (idx B bP).bind fun H=>
  (app eP H).bind fun G=>
  (inK .i64 (bP+1)).bind fun D=>
  some (.next (D,G))
 else
  some (.done eP)
noncomputable def L8 (B:(List (List Chg))):Option (List Chg):=
 (dY (fun s=>Q4 B s.1 s.2) (0,0):Option Int).bind fun b1=>
 (m_grow b1).bind fun D=>
 (dY (fun s=>Q5 B s.1 s.2) (0,D):Option (List Chg)).bind fun b3=>
 some b3
noncomputable def X0 (U:(List Opn)) (Y:Nmb) (X:Nmb) (aQ:Int) (aU:(List Chg)) (dS:(List Chg)) (fK:(List Bool)):Option (Step (Int×(List Chg)×(List Chg)×(List Bool)) ((List Chg)×(List Chg)×(List Bool))):=
 if(decide (aQ<(U.length:Int)))=true then
  (idx U aQ).bind fun B=>
  if(decide (B.b<0))=true then
   (app dS [(Chg.mk 1 B.a 0 0 0 ByteArray.empty)]).bind fun W=>
   (inK .i64 (aQ+1)).bind fun V=>
   some (.next (V,aU,W,fK))
  else
   if(decide (0≤B.a))=true then
    (idx fK B.b).bind fun x8=>
    (idx X.nodes B.b).bind fun D=>
    (idx Y.nodes B.a).bind fun S=>
    (nM S D).bind fun M=>
    if(!M)=true then
     (app aU [(Chg.mk 0 B.a 0 0 D.kind D.text)]).bind fun K=>
     (inK .i64 (aQ+1)).bind fun I=>
     some (.next (I,K,dS,fK.set B.b.toNat true))
    else
     (inK .i64 (aQ+1)).bind fun H=>
     some (.next (H,aU,dS,fK.set B.b.toNat true))
   else
    (inK .i64 (aQ+1)).bind fun G=>
    some (.next (G,aU,dS,fK))
 else
  some (.done (aU,dS,fK))
noncomputable def X3 (K:(List Opn)) (M:Nmb) (bP:Int) (eP:(List Chg)) (G6:(List Bool)):Option (Step (Int×(List Chg)×(List Bool)) ((List Chg)×(List Bool))):=
 if(decide (bP<(K.length:Int)))=true then
  (idx K bP).bind fun B=>
  if(decide (B.a<0))=true then
   (tV M B.b G6).bind fun I=>
   (app eP [I]).bind fun H=>
   (idx G6 B.b).bind fun S=>
   (inK .i64 (bP+1)).bind fun G=>
   some (.next (G,H,G6.set B.b.toNat true))
  else
   (inK .i64 (bP+1)).bind fun D=>
   some (.next (D,eP,G6))
 else
  some (.done (eP,G6))
noncomputable def V5 (K:Node) (I:Node) (H:(List Opn)):Option ((List Chg)×Int):=
 (uZ K I H).bind fun U=>
 if(!U)=true then
  some ([],1)
 else
  (jX K).bind fun S=>
  (jX I).bind fun B=>
  (mkc (B.nodes.length:Int) (B.nodes.length:Int) (false:Bool)).bind fun M=>
  (dY (fun s=>X0 H S B s.1 s.2.1 s.2.2.1 s.2.2.2) (0,[],[],M):Option ((List Chg)×(List Chg)×(List Bool))).bind fun b23=>
  (dY (fun s=>X3 H B s.1 s.2.1 s.2.2) (0,[],b23.2.2):Option ((List Chg)×(List Bool))).bind fun b32=>
  (H5 b23.2.1).bind fun G=>
  (L8 ([b23.1,G,b32.1]:List (List Chg))).bind fun D=>
  some (D,0)
noncomputable def jG (B:Alg) (S:Int) (M:Int):Option Int:=
 (idx B.orderA S).bind fun K=>
 (idx B.a.nodes K).bind fun I=>
 (idx B.orderB M).bind fun H=>
 (idx B.b.nodes H).bind fun G=>
 (nM I G).bind fun D=>
 if D=true then
  some 0
 else
  some 1
noncomputable def jA (B:Alg) (G:Int) (D:Int) (aQ:Int) (x10:(List Int)) (bP:Int) (eP:(List (List Int))):Option (Step (Int×(List (List Int))) (List (List Int))):=
 if(decide (bP<(x10.length:Int)))=true then
  if((decide (aQ=0))||(decide (bP=0)))=true then
   (idx eP aQ).bind fun K=>
   (inK .i64 (aQ+bP)).bind fun x12=>
   (idx K bP).bind fun x13=>
   (inK .i64 (bP+1)).bind fun x14=>
   some (.next (x14,eP.set aQ.toNat (K.set bP.toNat x12)))
  else
   (inK .i64 (G+aQ)).bind fun x15=>
   (inK .i64 (x15-1)).bind fun x16=>
   (idx B.leftA x16).bind fun x17=>
   ((if(decide (x17=G))=true then
    (inK .i64 (D+bP)).bind fun x18=>
    (inK .i64 (x18-1)).bind fun x19=>
    (idx B.leftB x19).bind fun x20=>
    some (decide (x20=D))
   else
    some false):Option Bool).bind fun m1=>
   if m1=true then
    (idx eP aQ).bind fun I=>
    (inK .i64 (aQ-1)).bind fun x22=>
    (idx eP x22).bind fun x23=>
    (idx x23 bP).bind fun x24=>
    (inK .i64 (x24+1)).bind fun x25=>
    (idx eP aQ).bind fun x26=>
    (inK .i64 (bP-1)).bind fun x27=>
    (idx x26 x27).bind fun x28=>
    (inK .i64 (x28+1)).bind fun x29=>
    (inK .i64 (aQ-1)).bind fun x30=>
    (idx eP x30).bind fun x31=>
    (inK .i64 (bP-1)).bind fun x32=>
    (idx x31 x32).bind fun x33=>
    (inK .i64 (G+aQ)).bind fun x34=>
    (inK .i64 (x34-1)).bind fun x35=>
    (inK .i64 (D+bP)).bind fun x36=>
    (inK .i64 (x36-1)).bind fun x37=>
    (jG B x35 x37).bind fun x38=>
    (inK .i64 (x33+x38)).bind fun x39=>
    (idx I bP).bind fun x40=>
    (inK .i64 (bP+1)).bind fun x41=>
    some (.next (x41,eP.set aQ.toNat (I.set bP.toNat (min (min x25 x29) x39))))
   else
    (idx eP aQ).bind fun H=>
    (inK .i64 (aQ-1)).bind fun x43=>
    (idx eP x43).bind fun x44=>
    (idx x44 bP).bind fun z=>
    (inK .i64 (z+1)).bind fun y=>
    (idx eP aQ).bind fun x=>
    (inK .i64 (bP-1)).bind fun u=>
    (idx x u).bind fun t=>
    (inK .i64 (t+1)).bind fun s=>
    (inK .i64 (G+aQ)).bind fun r=>
    (inK .i64 (r-1)).bind fun q=>
    (idx B.leftA q).bind fun p=>
    (inK .i64 (p-G)).bind fun n=>
    (idx eP n).bind fun m=>
    (inK .i64 (D+bP)).bind fun k=>
    (inK .i64 (k-1)).bind fun j=>
    (idx B.leftB j).bind fun i=>
    (inK .i64 (i-D)).bind fun g=>
    (idx m g).bind fun f=>
    (inK .i64 (G+aQ)).bind fun e=>
    (inK .i64 (e-1)).bind fun c=>
    (idx B.orderA c).bind fun b=>
    (idx B.distances b).bind fun Y=>
    (inK .i64 (D+bP)).bind fun X=>
    (inK .i64 (X-1)).bind fun W=>
    (idx B.orderB W).bind fun V=>
    (idx Y V).bind fun U=>
    (inK .i64 (f+U)).bind fun S=>
    (idx H bP).bind fun x70=>
    (inK .i64 (bP+1)).bind fun M=>
    some (.next (M,eP.set aQ.toNat (H.set bP.toNat (min (min y s) S))))
 else
  some (.done eP)
noncomputable def kT (V:Alg) (U:Int) (S:Int) (I:Int) (M:(List (List Int))) (aQ:Int) (aU:(List (List Int))):Option (Step (Int×(List (List Int))) (List (List Int))):=
 if(decide (aQ<(M.length:Int)))=true then
  (inK .i64 (U-I)).bind fun K=>
  (inK .i64 (K+2)).bind fun H=>
  (mkc H H (0:Int)).bind fun G=>
  (idx aU aQ).bind fun x9=>
  (idx (aU.set aQ.toNat G) aQ).bind fun D=>
  (dY (fun s=>jA V S I aQ D s.1 s.2) (0,aU.set aQ.toNat G):Option (List (List Int))).bind fun b6=>
  (inK .i64 (aQ+1)).bind fun B=>
  some (.next (B,b6))
 else
  some (.done aU)
noncomputable def oM (B:Alg) (K:Int) (I:Int):Option (List (List Int)):=
 (idx B.leftA K).bind fun H=>
 (idx B.leftB I).bind fun S=>
 (inK .i64 (K-H)).bind fun M=>
 (inK .i64 (M+2)).bind fun G=>
 (mkc G G ([]:(List Int))).bind fun D=>
 (dY (fun s=>kT B I H S D s.1 s.2) (0,D):Option (List (List Int))).bind fun b3=>
 some b3
noncomputable def jO (B:Alg) (self:Alg→Int→Int→Option Alg) (x1:Int) (z:Int) (H:(List (List Int))) (aQ:Int) (aU:Int) (dS:(List Int)) (fK:(List Int)):Option (Step (Int×Int×(List Int)×(List Int)) ((List Int)×(List Int))):=
 if((decide (0<aQ))&&(decide (0<aU)))=true then
  (inK .i64 (x1+aQ)).bind fun x7=>
  (inK .i64 (x7-1)).bind fun G=>
  (inK .i64 (z+aU)).bind fun x9=>
  (inK .i64 (x9-1)).bind fun D=>
  (idx B.leftA G).bind fun x11=>
  ((if(decide (x11=x1))=true then
   (idx B.leftB D).bind fun x12=>
   some (decide (x12=z))
  else
   some false):Option Bool).bind fun m1=>
  ((if m1=true then
   (idx H aQ).bind fun x13=>
   (idx x13 aU).bind fun x14=>
   (inK .i64 (aQ-1)).bind fun x15=>
   (idx H x15).bind fun x16=>
   (inK .i64 (aU-1)).bind fun x17=>
   (idx x16 x17).bind fun x18=>
   (jG (Alg.mk B.a B.b B.orderA B.leftA B.orderB B.leftB B.distances dS fK) G D).bind fun x19=>
   (inK .i64 (x18+x19)).bind fun y=>
   some (decide (x14=y))
  else
   some false):Option Bool).bind fun m2=>
  if m2=true then
   (idx B.orderA G).bind fun M=>
   (idx B.orderB D).bind fun K=>
   (idx B.orderB D).bind fun x=>
   (idx B.orderA G).bind fun u=>
   (idx dS M).bind fun x25=>
   (idx fK K).bind fun x26=>
   (inK .i64 (aQ-1)).bind fun t=>
   (inK .i64 (aU-1)).bind fun s=>
   some (.next (t,s,dS.set M.toNat x,fK.set K.toNat u))
  else
   (idx H aQ).bind fun r=>
   (idx r aU).bind fun q=>
   (inK .i64 (aQ-1)).bind fun p=>
   (idx H p).bind fun n=>
   (idx n aU).bind fun m=>
   (inK .i64 (m+1)).bind fun k=>
   if(decide (q=k))=true then
    (inK .i64 (aQ-1)).bind fun j=>
    some (.next (j,aU,dS,fK))
   else
    (idx H aQ).bind fun i=>
    (idx i aU).bind fun g=>
    (idx H aQ).bind fun f=>
    (inK .i64 (aU-1)).bind fun e=>
    (idx f e).bind fun c=>
    (inK .i64 (c+1)).bind fun Y=>
    if(decide (g=Y))=true then
     (inK .i64 (aU-1)).bind fun X=>
     some (.next (aQ,X,dS,fK))
    else
     (self (Alg.mk B.a B.b B.orderA B.leftA B.orderB B.leftB B.distances dS fK) G D).bind fun I=>
     (idx B.leftA G).bind fun W=>
     (inK .i64 (W-x1)).bind fun V=>
     (idx B.leftB D).bind fun U=>
     (inK .i64 (U-z)).bind fun S=>
     some (.next (V,S,I.partner,I.back))
 else
  some (.done (dS,fK))
noncomputable def qM (self:Alg→Int→Int→Option Alg) (B:Alg) (H:Int) (G:Int):Option Alg:=
 (idx B.leftA H).bind fun U=>
 (idx B.leftB G).bind fun S=>
 (oM B H G).bind fun D=>
 (inK .i64 ((D.length:Int)-1)).bind fun M=>
 (idx D 0).bind fun K=>
 (inK .i64 ((K.length:Int)-1)).bind fun I=>
 (dY (fun s=>jO B self U S D s.1 s.2.1 s.2.2.1 s.2.2.2) (M,I,B.partner,B.back):Option ((List Int)×(List Int))).bind fun b4=>
 some (Alg.mk B.a B.b B.orderA B.leftA B.orderB B.leftB B.distances b4.1 b4.2)
noncomputable def jV:Nat→Alg→Int→Int→Option Alg
 |0=>fun _ _ _=>none
 |n+1=>qM (jV n)
noncomputable def uN (G:Alg) (D:Int) (B:Int):Option Alg:=jV (D.toNat+B.toNat+1) G D B
open Go.RowKit Go.Sort
section
variable {Z:World} {ρ:PH} {L:List bQ} {w:World}
theorem flat_int (l:List Int):flat l=l.map (Value.int .i64):=by
 induction l with
 |nil=>rfl
 |cons x l ih=>rw[vN,ih];rfl
end
def insI (a:Int):List Int→List Int
 | []=>[a]
 |b::l=>if a≤b then a::b::l else b::insI a l
def isort:List Int→List Int
 | []=>[]
 |a::l=>insI a (isort l)
theorem insI_perm (a:Int):∀l,(insI a l).Perm (a::l)
 | []=> .refl _
 |b::l=>by
  unfold insI
  split
  ·exact .refl _
  exact((insI_perm a l).cons b).trans (.swap a b l)
theorem isort_perm:∀l,(isort l).Perm l
 | []=> .refl _
 |a::l=>(insI_perm a _).trans ((isort_perm l).cons a)
theorem insI_pw (a:Int):∀l:List Int,l.Pairwise (fun x y=>decide (x≤y)=true)→(insI a l).Pairwise fun x y=>decide (x≤y)=true
 | [],_=> .cons (fun _ h=>absurd h (by simp)) .nil
 |b::l,h=>by
  obtain⟨h1,h2⟩:=List.pairwise_cons.1 h
  unfold insI
  split
  ·refine .cons (fun x B=>?_) h
   rcases List.mem_cons.1 B with rfl|B
   ·simpa
   have:=h1 x B
   simp only[decide_eq_true_eq] at this⊢;omega
  refine .cons (fun x B=>?_) (insI_pw a l h2)
  rcases List.mem_cons.1 ((insI_perm a l).mem_iff.1 B) with rfl|B
  ·simp only[decide_eq_true_eq];omega
  exact h1 x B
theorem isort_pw:∀l,(isort l).Pairwise fun x y=>decide (x≤y)=true
 | []=> .nil
 |a::l=>insI_pw a _ (isort_pw l)
theorem isort_eq (l:List Int):isort l=l.mergeSort fun x y=>decide (x≤y):=
 List.Perm.eq_of_pairwise (le:=fun x y=>decide (x≤y)=true) (fun a b _ _ h1 h2=>by simp only[decide_eq_true_eq] at h1 h2;omega) (isort_pw l)
  (List.pairwise_mergeSort (fun a b c h k=>by simp at*;omega) (fun a b=>by simp;omega) l) ((isort_perm l).trans (List.mergeSort_perm l _).symm)
def X7 (l:List (Int×Int)):Option (List Int):=if(l.all fun p=>decide (-9223372036854775808≤p.1∧p.1≤9223372036854775807)&&decide (-9223372036854775808≤p.2∧p.2≤9223372036854775807))=true∧l.length<4294967297 then some (isort (l.map (·.2))) else none
noncomputable def tX (D:Node):Option Bool:=
 (aD4 D).bind fun B=>
 some (decide (256<B))
noncomputable def gV (B:(List Node)) (aQ:Int):Option (Step Int (Out Unit Int)):=
 if(decide (aQ<(B.length:Int)))=true then
  (idx B aQ).bind fun H=>
  (tX H).bind fun G=>
  if G=true then
   some (.done (.ret aQ))
  else
   (inK .i64 (aQ+1)).bind fun D=>
   some (.next D)
 else
  some (.done (.brk ()))
noncomputable def jL (B:(List Node)):Option Int:=
 (dY (fun s=>gV B s) 0:Option (Out Unit Int)).bind fun b1=>
 match b1 with
 | .brk b1s=>
  some (-1)
 | .ret r=>some r
noncomputable def iW (D:(List Node)):Option Bool:=
 (jL D).bind fun B=>
 some (decide (0≤B))
noncomputable def vX (D:(List Node)):Option Bool:=
 (iW D).bind fun B=>
 some B
noncomputable def nO (D:Node) (self:Node→Int→DFlat→Option (Int×DFlat)) (aQ:Int) (aU:Int) (dS:(List Lbl)) (fK:(List Int)) (lp1_4:(List Int)):Option (Step (Int×Int×(List Lbl)×(List Int)×(List Int)) (Int×(List Lbl)×(List Int)×(List Int))):=
 if(decide (aQ<(D.kids.length:Int)))=true then
  (idx D.kids aQ).bind fun H=>
  (self H aU (DFlat.mk dS fK lp1_4)).bind fun B=>
  (inK .i64 (aQ+1)).bind fun G=>
  some (.next (G,B.1,B.2.labels,B.2.left,B.2.numbers))
 else
  some (.done (aU,dS,fK,lp1_4))
noncomputable def qP (self:Node→Int→DFlat→Option (Int×DFlat)) (B:Node) (cp0:Int) (cp1:DFlat):Option (Int×DFlat):=
 (inK .i64 (cp0+1)).bind fun I=>
 (dY (fun s=>nO B self s.1 s.2.1 s.2.2.1 s.2.2.2.1 s.2.2.2.2) (0,I,cp1.labels,cp1.left,cp1.numbers):Option (Int×(List Lbl)×(List Int)×(List Int))).bind fun b2=>
 (app b2.2.1 [(Lbl.mk B.kind B.text)]).bind fun H=>
 (app b2.2.2.1 [(cp1.labels.length:Int)]).bind fun G=>
 (app b2.2.2.2 [cp0]).bind fun D=>
 some (b2.1,(DFlat.mk H G D))
noncomputable def mD:Nat→Node→Int→DFlat→Option (Int×DFlat)
 |0=>fun _ _ _=>none
 |n+1=>qP (mD n)
noncomputable def yX (B:Node) (cp0:Int) (cp1:DFlat):Option (Int×DFlat):=mD (SizeOf.sizeOf B+1) B cp0 cp1
noncomputable def qZ (D:Node):Option DFlat:=
 (yX D 0 (DFlat.mk ([]) ([]) ([]))).bind fun B=>
 some B.2
noncomputable def mV (B:DFlat) (aQ:Int) (aU:(List (Int×Int))):Option (Step (Int×(List (Int×Int))) (List (Int×Int))):=
 if(decide (aQ<(B.left.length:Int)))=true then
  (idx B.left aQ).bind fun G=>
  (inK .i64 (aQ+1)).bind fun D=>
  some (.next (D,Q7 aU G aQ))
 else
  some (.done aU)
noncomputable def kS (D:DFlat):Option (List Int):=
 (dY (fun s=>mV D s.1 s.2) (0,[]):Option (List (Int×Int))).bind fun b3=>
 (X7 b3).bind fun B=>
 some B
noncomputable def rQ (B:Int) (H:(List (List Int))) (aQ:Int) (aU:(List (List Int))):Option (Step (Int×(List (List Int))) (List (List Int))):=
 if(decide (aQ<(H.length:Int)))=true then
  (mkc B B (0:Int)).bind fun G=>
  (idx aU aQ).bind fun x3=>
  (inK .i64 (aQ+1)).bind fun D=>
  some (.next (D,aU.set aQ.toNat G))
 else
  some (.done aU)
noncomputable def rC (D:Int) (G:Int):Option (List (List Int)):=
 (mkc D D ([]:(List Int))).bind fun B=>
 (dY (fun s=>rQ G B s.1 s.2) (0,B):Option (List (List Int))).bind fun b1=>
 some b1
noncomputable def xZ (p0:DFlat) (p1:DFlat) (B:(List (List Int))):Option (List (List Int)):=
 some B
noncomputable def lD (G:(List (List Int))) (aQ:Int) (aU:(List (List Int))):Option (Step (Int×(List (List Int))) (List (List Int))):=
 if(decide (aQ<(G.length:Int)))=true then
  (idx aU aQ).bind fun D=>
  (idx D 0).bind fun x9=>
  (inK .i64 (aQ+1)).bind fun B=>
  some (.next (B,aU.set aQ.toNat (D.set (0:Int).toNat aQ)))
 else
  some (.done aU)
noncomputable def lF (G:(List Int)) (bP:Int) (eP:(List (List Int))):Option (Step (Int×(List (List Int))) (List (List Int))):=
 if(decide (bP<(G.length:Int)))=true then
  (idx eP 0).bind fun B=>
  (idx B bP).bind fun H=>
  (inK .i64 (bP+1)).bind fun D=>
  some (.next (D,eP.set (0:Int).toNat (B.set bP.toNat bP)))
 else
  some (.done eP)
noncomputable def lG (p1:Int) (cp0:DFlat) (cp1:DFlat) (x1:Int) (x2:Int) (dR:Int) (fZ:Int) (jK:(List (List Int))) (zU:(List (List Int))):Option (Step (Int×(List (List Int))×(List (List Int))) ((List (List Int))×(List (List Int)))):=
 if(decide (fZ≤p1))=true then
  (((inK .i64 (dR-x1)).bind fun x15=>
  (inK .i64 (x15+1)).bind fun D=>
  (inK .i64 (fZ-x2)).bind fun x17=>
  (inK .i64 (x17+1)).bind fun B=>
  (inK .i64 (D-1)).bind fun x19=>
  (idx jK x19).bind fun z=>
  (idx z B).bind fun y=>
  (idx jK D).bind fun x=>
  (inK .i64 (B-1)).bind fun u=>
  (idx x u).bind fun t=>
  (inK .i64 ((min y t)+1)).bind fun H=>
  (idx cp0.left dR).bind fun s=>
  ((if(!decide (s=x1))=true then
   some true
  else
   (idx cp1.left fZ).bind fun r=>
   some (!decide (r=x2))):Option Bool).bind fun m1=>
  if m1=true then
   (idx jK D).bind fun U=>
   (idx cp0.left dR).bind fun q=>
   (inK .i64 (q-x1)).bind fun p=>
   (idx jK p).bind fun n=>
   (idx cp1.left fZ).bind fun m=>
   (inK .i64 (m-x2)).bind fun k=>
   (idx n k).bind fun j=>
   (idx zU dR).bind fun i=>
   (idx i fZ).bind fun g=>
   (inK .i64 (j+g)).bind fun f=>
   (idx U B).bind fun x38=>
   some (jK.set D.toNat (U.set B.toNat (min H f)),zU)
  else
   (inK .i64 (D-1)).bind fun e=>
   (idx jK e).bind fun c=>
   (inK .i64 (B-1)).bind fun b=>
   (idx c b).bind fun S=>
   (idx cp0.labels dR).bind fun M=>
   (idx cp1.labels fZ).bind fun K=>
   ((if(!((decide (M.kind=K.kind))&&(decide (M.text=K.text))))=true then
    (inK .i64 (S+1)).bind fun Y=>
    some Y
   else
    some S):Option Int).bind fun j2=>
   (idx jK D).bind fun G=>
   (idx G B).bind fun x47=>
   (idx zU dR).bind fun I=>
   (idx (jK.set D.toNat (G.set B.toNat (min H j2))) D).bind fun X=>
   (idx X B).bind fun W=>
   (idx I fZ).bind fun x51=>
   some (jK.set D.toNat (G.set B.toNat (min H j2)),zU.set dR.toNat (I.set fZ.toNat W))):Option ((List (List Int))×(List (List Int)))).bind fun j1=>
  (inK .i64 (fZ+1)).bind fun V=>
  some (.next (V,j1.1,j1.2))
 else
  some (.done (jK,zU))
noncomputable def oN (I:Int) (H:Int) (cp0:DFlat) (cp1:DFlat) (G:Int) (D:Int) (dR:Int) (vH:(List (List Int))) (aK1:(List (List Int))):Option (Step (Int×(List (List Int))×(List (List Int))) ((List (List Int))×(List (List Int)))):=
 if(decide (dR≤I))=true then
  (dY (fun s=>lG H cp0 cp1 G D dR s.1 s.2.1 s.2.2) (D,vH,aK1):Option ((List (List Int))×(List (List Int)))).bind fun b11=>
  (inK .i64 (dR+1)).bind fun B=>
  some (.next (B,b11.1,b11.2))
 else
  some (.done (vH,aK1))
noncomputable def qC (H:Int) (G:Int) (cp0:DFlat) (cp1:DFlat) (cp2:(List (List Int))):Option (List (List Int)):=
 (idx cp0.left H).bind fun D=>
 (idx cp1.left G).bind fun K=>
 (inK .i64 (H-D)).bind fun V=>
 (inK .i64 (V+2)).bind fun U=>
 (inK .i64 (G-K)).bind fun S=>
 (inK .i64 (S+2)).bind fun M=>
 (rC U M).bind fun I=>
 (dY (fun s=>lD I s.1 s.2) (0,I):Option (List (List Int))).bind fun b3=>
 (idx b3 0).bind fun B=>
 (dY (fun s=>lF B s.1 s.2) (0,b3):Option (List (List Int))).bind fun b7=>
 (dY (fun s=>oN H G cp0 cp1 D K s.1 s.2.1 s.2.2) (D,b7,cp2):Option ((List (List Int))×(List (List Int)))).bind fun b10=>
 some b10.2
end Go.Proofs.YtopnldfjcciieaaGreat
