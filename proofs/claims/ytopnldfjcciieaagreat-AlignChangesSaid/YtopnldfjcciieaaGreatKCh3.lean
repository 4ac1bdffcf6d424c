/- Tables: slices of slices that are written in place. Plain theorems over any program. -/
import Derived.Test.YtopnldfjcciieaaGreatKCh2
import Derived.Test.YtopnldfjcciieaaGreatProg
import Derived.Lib.LaidTab
import Derived.LaidLaws
import Derived.Test.YtopnldfjcciieaaGreatRows
import Derived.Sort.OwnSortedInts
import Derived.Lib.ItoaNum
set_option linter.unusedVariables false
set_option linter.unusedSimpArgs false
namespace Go.Proofs.YtopnldfjcciieaaGreat
open Go.RowKit
def Sl:Type:={v:Value // ∃A n c,v= .slice A n c}
def Sl.v (s:Sl):Value:=s.1
def Sl.nil:Sl:=⟨.slice none 0 0,none,0,0,O⟩
theorem Sl.one (s:Sl):s.v.oneCell'=true:=by obtain⟨v,A,n,c,rfl⟩:=s;rfl
theorem Sl.cells (s:Sl):s.v.cells= #[s.v]:=by obtain⟨v,A,n,c,rfl⟩:=s;rfl
instance encSl:Enc Sl:=⟨1,fun s=>[s.v],fun _=>rfl,fun s v h=>by rw[List.mem_singleton.1 h];exact s.one,by decide⟩
theorem aF.toSl {α:Type} [Enc α] {Z:World} {ρ:PH} {L:List bP} {w:World} {El:TypeId} {v:Value} {l:List α} (B:Hp Z ρ L w) (k:Nat) (hk:L[k]?=some (aF El v l)):∃s:Sl,s.v=v:=by
 rcases(B.get k hk).row.2 with⟨A,rfl,_⟩|⟨g,off,cap,cur,rfl,_⟩
 ·exact⟨⟨_,_,_,_,O⟩,O⟩
 exact⟨⟨_,_,_,_,O⟩,O⟩
instance (priority:=50) repList {α:Type} [Rep α]:Rep (List α):=⟨1,fun ρ l cs=>∃v,cs=[v]∧aH ρ v l,fun⟨_,h,_⟩=>by rw[h];rfl,fun hl ⟨v,h,k⟩=>⟨v,h,k.mono hl⟩⟩
def gZ {α:Type} [Enc α] (Ti:TypeId):List Sl→List (List α)→bP
 | [],[]=>fun k=>k=PH.emp
 |u::us,r::l=>star (aF Ti u.v r) (gZ Ti us l)
 |_,_=>fun _=>False
section
variable {α:Type} [Enc α] {Ti:TypeId} {L:List bP} {ρ h:PH}
theorem Sep.emp1:Sep ρ ((fun k=>k=PH.emp)::L) h↔Sep ρ L h:=by
 have e:ρ.un PH.emp=ρ:=by funext b;unfold PH.un PH.emp;cases ρ b<;>rfl
 constructor
 ·rintro⟨k,rfl,d,hs⟩;rw[e] at hs;exact hs
 intro hs;exact⟨PH.emp,rfl,PH.dj_emp ρ,by rw[e];exact hs⟩
theorem gZ.len {us:List Sl} {l:List (List α)} (hs:Sep ρ (gZ Ti us l::L) h):us.length=l.length:=by
 induction us generalizing l ρ L with
 |nil=>
  cases l with
  |nil=>rfl
  |cons r l=>obtain⟨k,a,_⟩:=hs;exact a.elim
 |cons u us ih=>
  cases l with
  |nil=>obtain⟨k,a,_⟩:=hs;exact a.elim
  |cons r l=>simp only[List.length_cons];rw[ih (Sep.swap (Sep.two.1 hs))]
theorem gZ.take:∀{us:List Sl} {l:List (List α)} (i:Nat) {u:Sl} {r:List α} {ρ h:PH} {L:List bP},us[i]?=some u→l[i]?=some r→
  (Sep ρ (gZ Ti us l::L) h↔Sep ρ (aF Ti u.v r::gZ Ti (us.eraseIdx i) (l.eraseIdx i)::L) h)
 | [],_,i,_,_,_,_,_,h1,_=>by simp at h1
 |_::_,[],i,_,_,_,_,_,_,h2=>by simp at h2
 |u0::us,r0::l,0,u,r,ρ,h,L,h1,h2=>by
  simp only[List.getElem?_cons_zero,Option.some.injEq] at h1 h2
  subst h1 h2
  exact Sep.two
 |u0::us,r0::l,i+1,u,r,ρ,h,L,h1,h2=>by
  simp only[List.getElem?_cons_succ] at h1 h2
  constructor
  ·intro hs
   exact Sep.cons_mono (fun ρ h=>Sep.two.2) (Sep.swap (Sep.cons_mono (fun ρ h=>(gZ.take i h1 h2).1) (Sep.two.1 hs)))
  intro hs
  exact Sep.two.2 (Sep.cons_mono (fun ρ h=>(gZ.take i h1 h2).2) (Sep.swap (Sep.cons_mono (fun ρ h=>Sep.two.1) hs)))
theorem gZ.snoc:∀{us:List Sl} {l:List (List α)} {u:Sl} {r:List α} {ρ h:PH} {L:List bP},Sep ρ (aF Ti u.v r::gZ Ti us l::L) h→Sep ρ (gZ Ti (us++[u]) (l++[r])::L) h
 | [],[],u,r,ρ,h,L,hs=>Sep.two.2 (Sep.cons_mono (fun ρ h h1=>Sep.emp1.2 (Sep.emp1.1 h1)) hs)
 | [],_::_,_,_,_,_,_,hs=>by obtain⟨_,_,_,k,a,_⟩:=hs;exact a.elim
 |_::_,[],_,_,_,_,_,hs=>by obtain⟨_,_,_,k,a,_⟩:=hs;exact a.elim
 |u0::us,r0::l,u,r,ρ,h,L,hs=>Sep.two.2 (Sep.cons_mono (fun ρ h=>gZ.snoc) (Sep.swap (Sep.cons_mono (fun ρ h=>Sep.two.1) hs)))
theorem gZ.nils:∀(n:Nat) {ρ h:PH} {L:List bP},Sep ρ L h→Sep ρ (gZ Ti (List.replicate n Sl.nil) (List.replicate n ([]:List α))::L) h
 |0,_,_,_,hs=>Sep.emp1.2 hs
 |n+1,ρ,h,L,hs=>Sep.two.2 (by
  have h1:=gZ.nils n hs
  refine⟨PH.emp,aF.nil Ti,PH.dj_emp ρ,?_⟩
  have e:ρ.un PH.emp=ρ:=by funext b;unfold PH.un PH.emp;cases ρ b<;>rfl
  rw[e];exact h1)
end
def bZ {α:Type} [Enc α] (T Ti:TypeId) (v:Value) (us:List Sl) (l:List (List α)):bP:=star (aF T v us) (gZ Ti us l)
section
variable {Rn:Option Nat} {P:Program} {ops:Array Oper} {Q:Exit→Act→World→Prop} {rest:List Oper} {o:Oper} {a:Act} {w:World} {Df:List Deferred} {N:Nat} {E:Ent} {d:Nat} {Z:World} {ρ:PH} {L:List bP}
variable {α:Type} [Enc α] {T Ti To Tr:TypeId} {v:Value} {us:List Sl} {l:List (List α)} {bytes:Nat}
theorem Hp.tbl (h:Hp Z ρ (bZ T Ti v us l::L) w):Hp Z ρ (aF T v us::gZ Ti us l::L) w:=h.to Sep.two.1
theorem Hp.tblShut (h:Hp Z ρ (aF T v us::gZ Ti us l::L) w):Hp Z ρ (bZ T Ti v us l::L) w:=h.to Sep.two.2
theorem bZ.lens (B:Hp Z ρ (bZ T Ti v us l::L) w):us.length=l.length:=gZ.len (Sep.swap B.tbl.sep)
theorem bZ.slice (B:Hp Z ρ L w) (k:Nat) (hk:L[k]?=some (bZ T Ti v us l)):∃s:Sl,s.v=v:=aF.toSl (B.get k hk).tbl 0 O
theorem bZ.cells (B:Hp Z ρ L w) (k:Nat) (hk:L[k]?=some (bZ T Ti v us l)):v.cells= #[v]:=by obtain⟨s,rfl⟩:=bZ.slice B k hk;exact s.cells
theorem bZ.one (B:Hp Z ρ L w) (k:Nat) (hk:L[k]?=some (bZ T Ti v us l)):v.oneCell'=true:=by obtain⟨s,rfl⟩:=bZ.slice B k hk;exact s.one
theorem bZ.len (B:Hp Z ρ L w) (k:Nat) (hk:L[k]?=some (bZ T Ti v us l)) (ht:SlTy P To T 1 bytes) (w:World) (ty:TypeId):(Builtin.len_ #[To] ty #[v]).run P w= .ok (.int .i64 l.length) w:=by
 have h:=(B.get k hk)
 rw[←bZ.lens h]
 exact aF.len h.tbl 0 O ht w ty
theorem bZ.hdr (G:Hp Z ρ L w) (k:Nat) (hk:L[k]?=some (bZ T Ti v us l)) (ht:SlTy P To T 1 bytes) {i:Int} {r:List α} (hi:idx l i=some r):
  ∃(u:Sl) (g off:Nat),idx us i=some u∧(∀w,(Instr.indexAt To v (.int .i64 i)).run P w= .ok (.pointer (some ⟨g,off,none⟩)) w)∧(∃of0 cap,v= .slice (some ⟨g,of0,none⟩) us.length cap∧off=of0+i.toNat*1)∧
   ∀(j:Nat) (x:Value),[u.v][j]?=some x→∀ρ' L' w,Hp Z ρ' (bZ T Ti v us l::L') w→w.cell? ⟨g,off+j,none⟩=some x:=by
 have h:=(G.get k hk)
 obtain⟨i0,i1,i2⟩:=qJ hi
 have hl:=bZ.lens h
 have hu:idx us i=some us[i.toNat]:=by unfold idx;rw[if_pos i0];exact List.getElem?_eq_getElem (by omega)
 obtain⟨g,off,e1,e2,e3⟩:=aF.at h.tbl 0 O ht hu
 exact⟨_,g,off,hu,e1,e2,fun j x B ρ' L' w D=>e3 j x B _ _ w D.tbl⟩
theorem bZ.focus (B:Hp Z ρ L w) (k:Nat) (hk:L[k]?=some (bZ T Ti v us l)) {i:Int} {u:Sl} {r:List α} (hu:idx us i=some u) (hi:idx l i=some r):
  Hp Z ρ (aF Ti u.v r::gZ Ti (us.eraseIdx i.toNat) (l.eraseIdx i.toNat)::aF T v us::L.eraseIdx k) w:=
 (B.get k hk).tbl.to fun s=>(gZ.take i.toNat (qJ hu).2.2 (qJ hi).2.2).1 s.swap
theorem bZ.rlen (B:Hp Z ρ L w) (k:Nat) (hk:L[k]?=some (bZ T Ti v us l)) (ht:SlTy P Tr Ti (Enc.sz α) bytes) {i:Int} {u:Sl} {r:List α} (hu:idx us i=some u) (hi:idx l i=some r) (w:World) (ty:TypeId):(Builtin.len_ #[Tr] ty #[u.v]).run P w= .ok (.int .i64 r.length) w:=
 aF.len (bZ.focus B k hk hu hi) 0 O ht w ty
theorem bZ.at (G:Hp Z ρ L w) (k:Nat) (hk:L[k]?=some (bZ T Ti v us l)) (ht:SlTy P Tr Ti (Enc.sz α) bytes) {i j:Int} {u:Sl} {r:List α} {e:α} (hu:idx us i=some u) (hi:idx l i=some r) (H:idx r j=some e):
  ∃g off,(∀w,(Instr.indexAt Tr u.v (.int .i64 j)).run P w= .ok (.pointer (some ⟨g,off,none⟩)) w)∧(∃of0 cap,u.v= .slice (some ⟨g,of0,none⟩) r.length cap∧off=of0+j.toNat*Enc.sz α)∧∀(j:Nat) (x:Value),(Enc.enc e)[j]?=some x→∀ρ' L' w,Hp Z ρ' (bZ T Ti v us l::L') w→w.cell? ⟨g,off+j,none⟩=some x:=by
 obtain⟨g,off,e1,e2,e3⟩:=aF.at (bZ.focus G k hk hu hi) 0 O ht H
 exact⟨g,off,e1,e2,fun j x B ρ' L' w D=>e3 j x B _ _ w (bZ.focus D 0 O hu hi)⟩
theorem set_self {β:Type} {l:List β} {i:Nat} {x:β} (h:l[i]?=some x):l.set i x=l:=by
 apply List.ext_getElem?
 intro j
 rw[List.getElem?_set]
 split
 ·rename_i e;subst e;rw[if_pos (List.getElem?_eq_some_iff.1 h).1,h]
 rfl
theorem bZ.unfocus (k:Nat) (hk:L[k]?=some (bZ T Ti v us l)) {i:Int} {u:Sl} {r r':List α} (hu:idx us i=some u) (hi:idx l i=some r)
  (B:Hp Z ρ (aF Ti u.v r'::gZ Ti (us.eraseIdx i.toNat) (l.eraseIdx i.toNat)::aF T v us::L.eraseIdx k) w):Hp Z ρ (L.set k (bZ T Ti v us (l.set i.toNat r'))) w:=by
 obtain⟨_,hui,hus⟩:=qJ hu
 obtain⟨_,hli,hls⟩:=qJ hi
 refine Hp.put k (List.getElem?_eq_some_iff.1 hk).1 ((B.to fun s=>Sep.swap ?_).tblShut)
 refine(gZ.take (us:=us) (l:=l.set i.toNat r') (r:=r') i.toNat hus (by rw[List.getElem?_set_self (by omega)])).2 ?_
 have e2:(l.set i.toNat r').eraseIdx i.toNat=l.eraseIdx i.toNat:=List.eraseIdx_set_eq
 rw[e2];exact s
theorem P7 (wk:Region.wanted o (yielded ops a.tmps)=true) (hd:o.dst=none) (S:EnvD Df N E a) (G:Hp Z ρ L w) {Tx:TypeId} {x y:Operand} (H:o.op= .store Tx x y) {g off off':Nat} (B:evo E x=some (.pointer (some ⟨g,off',none⟩))) {z:Value} (hy:evo E y=some z) (k:Nat) (hk:L[k]?=some (bZ T Ti v us l))
  {i j:Int} {u:Sl} {r:List α} {e:α} (hu:idx us i=some u) (hi:idx l i=some r) (I:idx r j=some e) (hv:∃of0 cap,u.v= .slice (some ⟨g,of0,none⟩) r.length cap∧off=of0+j.toNat*Enc.sz α) (q:Nat) {e':α} (ht:∀w,(sizeOf Tx).run P w= .ok 1 w) (hoff:off'=off+q) (M:z.cells= #[z]) (h1:z.oneCell'=true) (he:(Enc.enc e).set q z=Enc.enc e'∧Nat.blt q (Enc.sz α)=true)
  (K:∀w,Hp Z ρ (L.set k (bZ T Ti v us (l.set i.toNat (r.set j.toNat e')))) w→wpL Rn P ops Q rest a w):wpL Rn P ops Q (o::rest) a w:=
 aE5 wk hd S (bZ.focus G k hk hu hi) H B hy 0 O I hv q ht hoff M h1 he fun w D=>K w (bZ.unfocus k hk hu hi D)
theorem s_tput (wk:Region.wanted o (yielded ops a.tmps)=true) (hd:o.dst=none) (I:EnvD Df N E a) {ur:Sl} {vr:Value} (he:ur.v=vr) {r':List α} (G:Hp Z ρ (aF Ti vr r'::L) w) {Tx:TypeId} {x y:Operand} (H:o.op= .store Tx x y) {g off:Nat} (B:evo E x=some (.pointer (some ⟨g,off,none⟩))) (hy:evo E y=some vr) (k:Nat) (hk:L[k]?=some (bZ T Ti v us l))
  {i:Int} {u:Sl} {r:List α} (hu:idx us i=some u) (hi:idx l i=some r) (hv:∃of0 cap,v= .slice (some ⟨g,of0,none⟩) us.length cap∧off=of0+i.toNat*1) (ht:∀w,(sizeOf Tx).run P w= .ok 1 w)
  (K:∀w,Hp Z ρ (L.set k (bZ T Ti v (us.set i.toNat ur) (l.set i.toNat r'))) w→wpL Rn P ops Q rest a w):wpL Rn P ops Q (o::rest) a w:=by
 subst he
 have h0:Hp Z ρ (aF T v us::aF Ti ur.v r'::gZ Ti us l::L.eraseIdx k) w:=(Hp.tbl (G.get (k+1) (A:=bZ T Ti v us l) (by simpa using hk))).to fun s=>Sep.cons_mono (fun ρ h=>Sep.swap) s
 refine aE5 wk hd I h0 H B hy 0 O hu hv 0 ht O ur.cells ur.one ⟨O,O⟩ fun w D=>K w ?_
 refine Hp.put k (List.getElem?_eq_some_iff.1 hk).1 (Hp.tblShut (D.to fun s=>?_))
 refine Sep.cons_mono (fun ρ h s=>?_) s
 obtain⟨_,hui,hus⟩:=qJ hu
 obtain⟨_,hli,hls⟩:=qJ hi
 refine(gZ.take (us:=us.set i.toNat ur) (l:=l.set i.toNat r') (u:=ur) (r:=r') i.toNat (by rw[List.getElem?_set_self (by omega)]) (by rw[List.getElem?_set_self (by omega)])).2 ?_
 rw[List.eraseIdx_set_eq,List.eraseIdx_set_eq]
 exact Sep.cons_mono (fun ρ h s=>Sep.drop ((gZ.take i.toNat hus hls).1 s)) s
theorem s_tmake (wk:Region.wanted o (yielded ops a.tmps)=true) (hd:o.dst=some d) (hN:Nat.blt d N=true) (B:EnvD Df N E a) (hp:Hp Z ρ L w) {x y:Operand} (G:o.op= .makeSlice To x y) (hu:P.underlying To=some (.slice T))
  (hi:(P.info? T).map (fun i=>(i.zero.map Value.cells,i.size,i.bytes))=some (some #[.slice none 0 0],1,bytes)) (hby:Nat.ble bytes 16384=true) {k k':IntKind} {n c:Int} (D:evo E x=some (.int k n)) (hy:evo E y=some (.int k' c)) {r:List (List α)} (hr:mkc n c ([]:List α)=some r) (Ti:TypeId)
  (K:∀v us a w,EnvD Df N ((d,v)::E) a→Hp Z ρ (bZ T Ti v us r::L) w→wpL Rn P ops Q rest a w):wpL Rn P ops Q (o::rest) a w:=by
 obtain⟨h0,h1,h2,rfl⟩:=mkc_some hr
 refine s_make (α:=Sl) wk hd hN B hp G hu Sl.nil hi hby D hy (r:=List.replicate n.toNat Sl.nil) (by unfold mkc;rw[if_pos ⟨h0,h1,h2⟩]) fun v a w B hp=>K v _ a w B (Hp.tblShut (hp.to fun s=>Sep.cons_mono (fun ρ h s=>gZ.nils _ s) s))
theorem bZ.none (T Ti:TypeId) (A:Option Addr):bZ T Ti (.slice A 0 0) [] ([]:List (List α)) PH.emp:=
 ⟨PH.emp,PH.emp,aF.nilA T A,O,PH.dj_emp _,by funext b;rfl⟩
theorem gZ.at_:∀{us:List Sl} {l:List (List α)} {k:PH} (i:Nat) {u:Sl} {r:List α},gZ Ti us l k→us[i]?=some u→l[i]?=some r→∃k',aF Ti u.v r k'∧k'.le k
 | [],_,_,i,_,_,_,h1,_=>by simp at h1
 |_::_,[],_,i,_,_,h,_,_=>h.elim
 |u0::us,r0::l,k,0,u,r,h,h1,h2=>by
  obtain⟨k1,k2,ha,hb,d,rfl⟩:=h
  simp only[List.getElem?_cons_zero,Option.some.injEq] at h1 h2
  subst h1 h2
  exact⟨k1,ha,PH.le_un _ _⟩
 |u0::us,r0::l,k,i+1,u,r,h,h1,h2=>by
  obtain⟨k1,k2,ha,hb,d,rfl⟩:=h
  obtain⟨k',h3,h4⟩:=gZ.at_ i hb (by simpa using h1) (by simpa using h2)
  exact⟨k',h3,h4.tr (PH.le_un_r d)⟩
theorem bZ.ro {k:PH} (d:ρ.dj k) (h:bZ T Ti v us l k):aH (ρ.un k) v l:=by
 obtain⟨k1,k2,ha,hb,d2,rfl⟩:=h
 have B:us.length=l.length:=gZ.len (ρ:=k1) (h:=k1.un k2) (L:=[]) ⟨k2,hb,d2,PH.le.rf _⟩
 have d12:=PH.dj_un.1 d.symm
 obtain⟨A,c,e1,e2,e3⟩:=aF.ro d12.1.symm ha
 refine⟨A,c,by rw[←B];exact e1,by rw[←B];exact e2,fun i r hi=>?_⟩
 have hlt:=(List.getElem?_eq_some_iff.1 hi).1
 obtain⟨b,o,cs,h1,h2,h3⟩:=e3 i us[i] (List.getElem?_eq_getElem (by omega))
 obtain⟨k',h4,h5⟩:=gZ.at_ i hb (List.getElem?_eq_getElem (by omega)) hi
 have hk:k'.le (ρ.un (k1.un k2)):=h5.tr ((PH.le_un_r d2).tr (PH.le_un_r d))
 refine⟨b,o,cs,h1,⟨us[i].v,h2,?_⟩,h3.mono (by rw[←PH.un_assoc];exact PH.le_un _ _)⟩
 have h6:aH (PH.emp.un k') us[i].v r:=aF.ro (PH.dj_emp k').symm h4
 exact h6.mono (by
  have:PH.emp.un k'=k':=by funext x;rfl
  rw[this];exact hk)
theorem bZ.lend (D:Hp Z ρ L w) (k:Nat) (hk:L[k]?=some (bZ T Ti v us l)) {i:Int} {u:Sl} {r:List α} (hu:idx us i=some u) (hi:idx l i=some r):
  ∃κ,aH (ρ.un κ) u.v r∧Hp Z (ρ.un κ) (gZ Ti (us.eraseIdx i.toNat) (l.eraseIdx i.toNat)::aF T v us::L.eraseIdx k) w∧
   ∀w,Hp Z (ρ.un κ) (gZ Ti (us.eraseIdx i.toNat) (l.eraseIdx i.toNat)::aF T v us::L.eraseIdx k) w→Hp Z ρ L w:=by
 obtain⟨κ,ha,hd,h⟩:=(bZ.focus D k hk hu hi).lend
 refine⟨κ,aF.ro hd ha,h,fun w B=>?_⟩
 have:=bZ.unfocus k hk hu hi (Hp.back ha hd B)
 rw[set_self (qJ hi).2.2,set_same hk] at this
 exact this
end
section
variable {Rn:Option Nat} {P:Program} {fn:Func} {R:Ending→World→Prop} {a:Act} {w:World} {Df:List Deferred} {N:Nat} {E:Ent}
theorem aC4 (B:Env N E a) (hr:fn.results= #[]) (h:R (.returned (.tuple #[])) w):bodyPost P fn R .normal a w:=
 ⟨B.defers,_,by simp[results,hr],h⟩
theorem ret0 (B:Env N E a) (hr:fn.results= #[]) (h:R (.returned (.tuple #[])) w):bodyPost P fn R .ret a w:=
 ⟨B.defers,_,by simp[results,hr],h⟩
theorem aI9 {T:TypeId} {cs:List Value} (ht:VarTy P T true cs.length) {b o:Nat} {w:World} (h:∀j u,cs[j]?=some u→w.cell? ⟨b,o+j,none⟩=some u):(loadVar T ⟨b,o,none⟩).run P w= .ok (.agg cs.toArray) w:=by
 have:=run_loadCells_list (P:=P) (w:=w) ⟨b,o,none⟩ cs (fun j v B=>by rw[Addr.add_lit];exact h j v B)
 simp[loadVar,ht.agg_ w,ht.size_ w,this]
theorem retc1 (B:Env N E a) {t:Nat} {T:TypeId} (hr:fn.results= #[.cell t T]) {p:Addr} (hv:lk E t=some (.pointer (some p))) {v:Value} (D:(loadVar T p).run P w= .ok v w) (h:R (.returned v) w):bodyPost P fn R .ret a w:=by
 refine⟨B.defers,v,?_,h⟩
 have:=B.val t _ hv
 simp[results,hr,Array.getD_eq_getD_getElem?,this,asAddr,D]
end
abbrev Facts:=List (List Nat×(World→Prop))
def alive (G:List Nat) (listed:Array Bool):Bool:=G.all fun g=> !listed.getD g true
def invV:Facts→Array Bool→World→Prop
 | [],_,_=>True
 |p::r,listed,w=>(alive p.1 listed=true→p.2 w)∧invV r listed w
theorem invV.get {listed:Array Bool} {w:World} {G:List Nat} {C:World→Prop}:∀{F:Facts} (n:Nat),F[n]?=some (G,C)→alive G listed=true→invV F listed w→C w
 | [],_,h,_,_=>by simp at h
 |p::r,0,h,ha,hi=>by
  simp only[List.getElem?_cons_zero,Option.some.injEq] at h
  subst h
  exact hi.1 ha
 |p::r,n+1,h,ha,hi=>invV.get (F:=r) n (by simpa using h) ha hi.2
theorem alive_set {G:List Nat} {listed:Array Bool} {i:Nat} (h:alive G (listed.setIfInBounds i true)=true):alive G listed=true:=by
 unfold alive at*
 rw[List.all_eq_true] at*
 intro g hg
 have:=h g hg
 by_cases e:i=g
 ·subst e
  rcases Nat.lt_or_ge i listed.size with h'|h'
  ·simp[h'] at this
  simp[Array.getElem?_eq_none h'] at this
 rw[getD_set_ne true e] at this;exact this
theorem invV.weak {listed:Array Bool} {w:World} {i:Nat}:∀{F:Facts},invV F listed w→invV F (listed.setIfInBounds i true) w
 | [],h=>trivial
 |p::r,h=>⟨fun ha=>h.1 (alive_set ha),invV.weak h.2⟩
def aA6:Facts→Nat→Bool
 | [],_=>true
 |p::r,i=> !p.1.contains i&&aA6 r i
theorem alive_of_set {G:List Nat} {listed:Array Bool} {i:Nat} (B:G.contains i=false) (h:alive G listed=true):alive G (listed.setIfInBounds i true)=true:=by
 unfold alive at*
 rw[List.all_eq_true] at*
 intro g hg
 have hne:i≠g:=fun e=>by
  subst e
  have:G.contains i=true:=by simpa using hg
  rw[B] at this;cases this
 rw[getD_set_ne true hne];exact h g hg
theorem invV.back {listed:Array Bool} {w:World} {i:Nat}:∀{F:Facts},aA6 F i=true→invV F (listed.setIfInBounds i true) w→invV F listed w
 | [],_,_=>trivial
 |p::r,hn,h=>by
  simp only[aA6,Bool.and_eq_true,Bool.not_eq_true'] at hn
  exact⟨fun ha=>h.1 (alive_of_set hn.1 ha),invV.back hn.2 h.2⟩
section
variable {Rn:Option Nat} {P:Program} {ops:Array Oper} {Q:Exit→Act→World→Prop} {md:Region.Mode} {F:Facts}
def nU (P:Program) (md:Region.Mode) (ops:Array Oper) (Q:Exit→Act→World→Prop) (F:Facts):Nat→Array Bool→Act→World→Prop
 |0,listed,a,w=>Region.ready md ops listed=[]∧Q .normal a w
 |fuel+1,listed,a,w=>
  (Region.ready md ops listed=[]→Q .normal a w)∧
  ∀i∈Region.ready md ops listed,wpOp P ops Q i (fun a' w'=>invV F (listed.setIfInBounds i true) w'∧nU P md ops Q F fuel (listed.setIfInBounds i true) a' w') a w
theorem wpAny_of_V:∀(fuel:Nat) (listed:Array Bool) (a:Act) (w:World),nU P md ops Q F fuel listed a w→wpAny P md ops Q fuel listed a w
 |0,_,_,_,h=>h
 |fuel+1,_,_,_,h=>⟨h.1,fun i hi=>wpOp_mono (fun a' w' h'=>wpAny_of_V fuel _ a' w' h'.2) (h.2 i hi)⟩
def waits (md:Region.Mode) (ops:Array Oper) (G:List Nat) (i:Nat):Bool:=G.all fun g=>match ops[g]? with|some o=>o.after.any fun e=>Region.binds md e&&e.on==i|none=>false
theorem waits_spec {G:List Nat} {i:Nat} (h:waits md ops G i=true) {g:Nat} (hg:g∈G):∃o,ops[g]?=some o∧∃e∈o.after,Region.binds md e=true∧e.on=i:=by
 have h1:=List.all_eq_true.1 h g hg
 cases B:ops[g]? with
 |none=>simp[B] at h1
 |some o=>
  simp only[B] at h1
  obtain⟨e,he,hb⟩:=Array.any_eq_true'.1 h1
  simp only[Bool.and_eq_true,beq_iff_eq] at hb
  exact⟨o,O,e,he,hb.1,hb.2⟩
theorem aM7 {i:Nat} {oi:Oper} {v:Value} (hi:ops[i]?=some oi) (hsel:∀(j:Nat) (o:Oper) cs b,ops[j]?=some o→o.op≠ .select cs b)
  (hQ:∀c a w,Q (.panic c) (a.put oi.dst v) w→Q (.panic c) a w) {n:Nat} {G:List Nat} {C:World→Prop} (hn:F[n]?=some (G,C)) (hG:waits md ops G i=true) (hN:aA6 F i=true):
  ∀(fuel:Nat) (listed:Array Bool) (a:Act) (w:World),
   (∀j oj,ops[j]?=some oj→j≠i→listed.getD j true=false→(∀e∈oj.after,Region.binds md e=true→e.on≠i)→oi.apart ops oj=true)→
   i∈Region.ready md ops listed→YieldsIf P ops C oi v a→alive G listed=true→invV F listed w→
   nU P md ops Q F fuel (listed.setIfInBounds i true) (a.put oi.dst v) w→nU P md ops Q F (fuel+1) listed a w:=by
 intro fuel
 induction fuel with
 |zero=>
  intro listed a w _ hr hy ha B H
  refine⟨fun h=>(by rw[h] at hr;cases hr),fun j D=>?_⟩
  by_cases hji:j=i
  ·subst hji;exact hy.wpOp hi (B.get n hn ha) ⟨B.weak,H⟩
  have:=ready_mono D hji
  rw[H.1] at this
  cases this
 |succ fuel ih=>
  intro listed a w hfree hr hy ha B H
  refine⟨fun h=>(by rw[h] at hr;cases hr),fun j D=>?_⟩
  by_cases hji:j=i
  ·subst hji;exact hy.wpOp hi (B.get n hn ha) ⟨B.weak,H⟩
  have h1:=H.2 j (ready_mono D hji)
  obtain⟨hjun,oj,hoj,hall⟩:=mem_ready.1 D
  have hnot:∀e∈oj.after,Region.binds md e=true→e.on≠i:=fun e he hb heq=>by
   have h1:=hall e he hb
   have h0:=(mem_ready.1 hr).1
   rw[heq] at h1
   rcases Nat.lt_or_ge i listed.size with h'|h'
   ·simp[h'] at h0 h1;rw[h0] at h1;cases h1
   simp[Array.getElem?_eq_none h'] at h1
  have hjG:j∉G:=fun K=>by
   obtain⟨o,I,e,he,hb,heq⟩:=waits_spec hG K
   rw[hoj] at I
   obtain rfl:=Option.some.inj I
   exact hnot e he hb heq
  have ha':alive G (listed.setIfInBounds j true)=true:=by
   unfold alive at*
   rw[List.all_eq_true] at*
   intro g hg
   have hne:j≠g:=fun e=>hjG (e▸hg)
   rw[getD_set_ne true hne];exact ha g hg
  have h2:=wpOp_putIf hoj (hfree j oj hoj hji hjun hnot) (fun cs b=>hsel i oi cs b hi) (fun cs b=>hsel j oj cs b hoj) hQ hy h1
  have hfree':∀k ok,ops[k]?=some ok→k≠i→(listed.setIfInBounds j true).getD k true=false→
    (∀e∈ok.after,Region.binds md e=true→e.on≠i)→oi.apart ops ok=true:=fun k ok hk hki hun hno=>by
   refine hfree k ok hk hki ?_ hno
   by_cases hjk:j=k
   ·subst hjk;exact hjun
   rw[getD_set_ne true hjk] at hun;exact hun
  refine wpOp_mono (fun a' w' h3=>?_) h2
  obtain⟨hy',hinv,hrest⟩:=h3
  rw[Array.setIfInBounds_comm _ _ (Ne.symm hji)] at hinv hrest
  have hinv':invV F (listed.setIfInBounds j true) w':=invV.back hN hinv
  refine⟨hinv',ih (listed.setIfInBounds j true) a' w' hfree' (ready_mono hr (Ne.symm hji)) hy' ha' hinv' ?_⟩
  exact hrest
end
section
variable {Rn:Option Nat} {P:Program} {ops:Array Oper} {a:Act} {w:World} {Df:List Deferred} {N:Nat} {E:Ent} {d:Nat} {J:Act→World→Prop} {fuel:Nat} {listed:Array Bool} {o:Oper} {F:Facts}
theorem gV {Q:Exit→Act→World→Prop} {cs:List Code} {id:Nat} {l:List Oper} (F:Facts) (J:Act→World→Prop) (B:P.follows .mixedOrders=true) (h0:invV F (Array.replicate l.length false) w.drew)
  (h:invV F (Array.replicate l.length false) w.drew→nU P .any l.toArray (QJ J) F l.length (Array.replicate l.length false) a w.drew) (hk:∀a w,J a w→wpK none P Q cs a w):wpK none P Q (.region id l.toArray true::cs) a w:=by
 have h1:(Code.region id l.toArray true).wp P (QJ J) a w:=wp_region_any B (by simpa using wpAny_of_V _ _ _ _ (h h0))
 exact wpIn_wide.2 <| Code.wp_mono (fun e a w q=>by
  cases e with
  |normal=>exact hk a w q
  |_=>exact q.elim) h1
def At0 (Z:World) (ρ:PH):World→Prop:=fun w=>∃L,Hp Z ρ L w
def At1 (Z:World) (ρ:PH) (A:bP):World→Prop:=fun w=>∃L,Hp Z ρ (A::L) w
variable {Z:World} {ρ:PH} {A:bP}
theorem v_take (i n:Nat) {G:List Nat} {C:World→Prop} (wk:Region.wanted o (yielded ops a.tmps)=true) (hi:ops[i]?=some o) (hd:o.dst=some d) (hN:Nat.blt d N=true) (H:EnvD Df N E a) (hs:Region.noSelect ops=true) (hf:Region.free .any ops listed i=true) (hr:(Region.ready .any ops listed).contains i=true)
  (hn:F[n]?=some (G,C)) (hG:(waits .any ops G i&&alive G listed&&aA6 F i)=true) (B:invV F listed w) {v:Value} (D:Ex P C a o v)
  (K:∀a,EnvD Df N ((d,v)::E) a→invV F (listed.setIfInBounds i true) w→nU P .any ops (QJ J) F fuel (listed.setIfInBounds i true) a w):nU P .any ops (QJ J) F (fuel+1) listed a w:=by
 simp only[Bool.and_eq_true] at hG
 exact aM7 hi (Region.noSelect_spec hs) (fun _ _ _ q=>q.elim) hn hG.1.1 hG.2 fuel listed a w (Region.free_spec hi hf) (by simpa using hr) (Or.inl ⟨wk,D⟩) hG.1.2 B (by rw[hd];exact K _ (H.put hN v) B.weak)
theorem v_take0 (i:Nat) (wk:Region.wanted o (yielded ops a.tmps)=true) (hi:ops[i]?=some o) (hd:o.dst=some d) (hN:Nat.blt d N=true) (H:EnvD Df N E a) (hs:Region.noSelect ops=true) (hf:Region.free .any ops listed i=true) (hr:(Region.ready .any ops listed).contains i=true)
  (hn:F[0]?=some ([],At0 Z ρ)) (hG:(waits .any ops [] i&&alive [] listed&&aA6 F i)=true) (G:invV F listed w) {v:Value} (B:∀L,Ex P (Hp Z ρ L) a o v)
  (K:∀a,EnvD Df N ((d,v)::E) a→invV F (listed.setIfInBounds i true) w→nU P .any ops (QJ J) F fuel (listed.setIfInBounds i true) a w):nU P .any ops (QJ J) F (fuel+1) listed a w:=
 v_take i 0 wk hi hd hN H hs hf hr hn hG G (fun w ⟨L,D⟩=>B L w D) K
theorem v_take1 (i n:Nat) {G:List Nat} (wk:Region.wanted o (yielded ops a.tmps)=true) (hi:ops[i]?=some o) (hd:o.dst=some d) (hN:Nat.blt d N=true) (I:EnvD Df N E a) (hs:Region.noSelect ops=true) (hf:Region.free .any ops listed i=true) (hr:(Region.ready .any ops listed).contains i=true)
  (hn:F[n]?=some (G,At1 Z ρ A)) (hG:(waits .any ops G i&&alive G listed&&aA6 F i)=true) (H:invV F listed w) {v:Value} (B:∀L,Ex P (Hp Z ρ (A::L)) a o v)
  (K:∀a,EnvD Df N ((d,v)::E) a→invV F (listed.setIfInBounds i true) w→nU P .any ops (QJ J) F fuel (listed.setIfInBounds i true) a w):nU P .any ops (QJ J) F (fuel+1) listed a w:=
 v_take i n wk hi hd hN I hs hf hr hn hG H (fun w ⟨L,D⟩=>B L w D) K
theorem v_skip (i:Nat) (wk:Region.wanted o (yielded ops a.tmps)=false) (hi:ops[i]?=some o) (hd:o.dst=some d) (hN:Nat.blt d N=true) (D:EnvD Df N E a) (hs:Region.noSelect ops=true) (hf:Region.free .any ops listed i=true) (hr:(Region.ready .any ops listed).contains i=true)
  (hn:F[0]?=some ([],At0 Z ρ)) (hG:aA6 F i=true) (B:invV F listed w)
  (K:∀a,EnvD Df N ((d,undef)::E) a→invV F (listed.setIfInBounds i true) w→nU P .any ops (QJ J) F fuel (listed.setIfInBounds i true) a w):nU P .any ops (QJ J) F (fuel+1) listed a w:=
 aM7 hi (Region.noSelect_spec hs) (fun _ _ _ q=>q.elim) hn O hG fuel listed a w (Region.free_spec hi hf) (by simpa using hr) (Or.inr ⟨wk,O⟩) O B (by rw[hd];exact K _ (D.put hN undef) B.weak)
theorem aC {p q:Prop} (h:p) (k:p→q):p∧q:=⟨h,k h⟩
theorem gX (rs:List Nat) (hr:Region.ready .any ops listed=rs) (hne:rs.isEmpty=false) (h:∀i∈rs,wpOp P ops (QJ J) i (fun a' w'=>invV F (listed.setIfInBounds i true) w'∧nU P .any ops (QJ J) F fuel (listed.setIfInBounds i true) a' w') a w):nU P .any ops (QJ J) F (fuel+1) listed a w:=
 ⟨fun h0=>absurd (hr▸h0) (by intro e;rw[e] at hne;cases hne),hr▸h⟩
theorem bV (hr:Region.ready .any ops listed=[]) (h:J a w):nU P .any ops (QJ J) F fuel listed a w:=by
 cases fuel with
 |zero=>exact⟨hr,h⟩
 |succ n=>exact⟨fun _=>h,by rw[hr];simp⟩
theorem dead {G:List Nat} {p:Prop} (h:alive G listed=false):alive G listed=true→p:=fun e=>by rw[h] at e;cases e
end
structure RFlat where
 kinds:List Int
 texts:List ByteArray
 left:List Int
 numbers:List Int
structure Lbl where
 kind:Int
 text:ByteArray
deriving DecidableEq
instance:Vl Lbl:=⟨fun a=> .agg #[.int .i64 a.kind,.string a.text]⟩
instance:Enc Lbl:=⟨2,fun a=>[.int .i64 a.kind,.string a.text],fun _=>rfl,fun a v h=>by
 simp at h;rcases h with rfl|rfl<;>rfl,by decide⟩
structure DFlat where
 labels:List Lbl
 left:List Int
 numbers:List Int
structure Opn where
 a:Int
 b:Int
deriving DecidableEq
instance:Vl Opn:=⟨fun a=> .agg #[.int .i64 a.a,.int .i64 a.b]⟩
instance:Enc Opn:=⟨2,fun a=>[.int .i64 a.a,.int .i64 a.b],fun _=>rfl,fun a v h=>by
 simp at h;rcases h with rfl|rfl<;>rfl,by decide⟩
structure Chg where
 op:Int
 node:Int
 index:Int
 count:Int
 kind:Int
 text:ByteArray
deriving DecidableEq
instance:Vl Chg:=⟨fun a=> .agg #[.int .i64 a.op,.int .i64 a.node,.int .i64 a.index,.int .i64 a.count,.int .i64 a.kind,.string a.text]⟩
instance:Enc Chg:=⟨6,fun a=>[.int .i64 a.op,.int .i64 a.node,.int .i64 a.index,.int .i64 a.count,.int .i64 a.kind,.string a.text],fun _=>rfl,fun a v h=>by
 simp at h;rcases h with rfl|rfl|rfl|rfl|rfl|rfl<;>rfl,by decide⟩
structure Span where
 kind:Int
 text:ByteArray
 last:Int
 parent:Int
deriving DecidableEq
instance:Vl Span:=⟨fun a=> .agg #[.int .i64 a.kind,.string a.text,.int .i64 a.last,.int .i64 a.parent]⟩
instance:Enc Span:=⟨4,fun a=>[.int .i64 a.kind,.string a.text,.int .i64 a.last,.int .i64 a.parent],fun _=>rfl,fun a v h=>by
 simp at h;rcases h with rfl|rfl|rfl|rfl<;>rfl,by decide⟩
structure Nmb where
 nodes:List Node
 sizes:List Int
 parent:List Int
structure Alg where
 a:Nmb
 b:Nmb
 orderA:List Int
 leftA:List Int
 orderB:List Int
 leftB:List Int
 distances:List (List Int)
 partner:List Int
 back:List Int
section
variable {P:Program} {C:World→Prop} {a:Act} {o:Oper} {Df:List Deferred} {N:Nat} {E:Ent}
theorem ex_min3 {t:Array TypeId} {x y z:Operand} (G:o.op= .call {callee:= .builtin .min,args:= #[x,y,z],argTypes:=t}) (B:EnvD Df N E a) {k:IntKind} {l m n:Int} (D:evo E x=some (.int k l)) (hy:evo E y=some (.int k m)) (hz:evo E z=some (.int k n)):Ex P C a o (.int k (min (min l m) n)):=fun w hw=>by
 simp only[execOp,G,resolve,invoke,Sem.run_bind,Sem.run_pure,Result.andThen_ok,List.map_toArray,List.map_cons,List.map_nil,B.eval D,B.eval hy,B.eval hz]
 have e1:(Builtin.min2 (.int k l) (.int k m)).run P w= .ok (.int k (min l m)) w:=by simp[Builtin.min2];split<;>omega
 have e2:(Builtin.min2 (.int k (min l m)) (.int k n)).run P w= .ok (.int k (min (min l m) n)) w:=by simp[Builtin.min2];split<;>omega
 simp[builtin,Builtin.min_,e1,e2]
end
open Go.ChangeShapes Go.WideShapes Go.ChangeAt Go.RowKit
inductive NodeWf:Node→Prop
 |mk (kind:Int) (text:ByteArray) (at_ fin:Int) (kids:List Node) (h1:I64 kind) (h2:text.size≤maxLen) (h3:I64 at_) (h4:I64 fin) (h5:kids.length≤maxLen) (h6:∀k∈kids,NodeWf k):NodeWf ⟨kind,text,at_,fin,kids⟩
set_option maxRecDepth 100000 in
theorem node_trod {H:Type} {enc:TypeId×Value→H} {w:World} {base:Nat} {spare:Nat→Bool} {held:Bool}:∀(fuel:Nat) {cs:List Value} {x:DataW H×List MemPlace},
  DataW.trod enc Tryz.prog w base spare held fuel 24 cs=some x→∃a:Node,NodeAt (hp w) a cs∧NodeWf a:=by
 intro fuel
 induction fuel using Nat.strongRecOn with
 |_ fuel ih=>
  intro cs x h
  obtain⟨xs,n,rfl,_,M,I,hf⟩:=DataW.trod_struct Tryz.underlying24 h
  have B:cs.length=5:=M.trans kr
  have hx2:xs.length=5:=I
  have ki:Tryz.prog.cellsOf 3=1:=by kernel_rfl
  have ks:Tryz.prog.cellsOf 9=1:=by kernel_rfl
  have kl:Tryz.prog.cellsOf 22=1:=by kernel_rfl
  have kn:Tryz.prog.cellsOf 24=5:=by kernel_rfl
  match cs,B,xs,hx2 with
  | [c0,c1,c2,c3,c4],_,[y0,y1,y2,y3,y4],_=>
   have z0:=hf 0 _ O
   have z1:=hf 1 _ O
   have z2:=hf 2 _ O
   have z3:=hf 3 _ O
   have z4:=hf 4 _ O
   simp[ki] at z0 z2 z3
   simp[ks] at z1
   simp[kl] at z4
   obtain⟨n0,e0,_,w0⟩:=DataW.trod_int Tryz.underlying3 z0
   obtain⟨n1,e1,_,w1⟩:=DataW.trod_string Tryz.underlying9 z1
   obtain⟨n2,e2,_,w2⟩:=DataW.trod_int Tryz.underlying3 z2
   obtain⟨n3,e3,_,w3⟩:=DataW.trod_int Tryz.underlying3 z3
   simp only[List.cons.injEq,and_true] at e0 e1 e2 e3
   subst e0 e1 e2 e3
   rcases DataW.trod_slice Tryz.underlying22 z4 with⟨e4,_⟩|⟨a,len,cap,elems,rest,m,rfl,e4,_,hb,hle,hm,hlen,hel,_⟩
   ·simp only[List.cons.injEq,and_true] at e4
    subst e4
    exact⟨⟨n0,n1,n2,n3,[]⟩,NodeAt.shut (aH.nil _),.mk _ _ _ _ _ (I64.of w0) w1 (I64.of w2) (I64.of w3) (by unfold maxLen;simp) (by simp)⟩
   simp only[List.cons.injEq,and_true] at e4
   subst e4
   have key:∀i,i<len→∃z:Node,NodeWf z∧∃b o cs',some a=some ⟨b,o,none⟩∧NodeAt (hp w) z cs'∧AtP (hp w) b (o+i*5) cs':=by
    intro i hi
    have h1:=hel i hi
    rw[List.getElem?_eq_getElem (by omega),kn] at h1
    obtain⟨cs',S,ht'⟩:=Option.bind_eq_some_iff.1 h1
    obtain⟨_,hcl,hat⟩:=World.cells?_some S
    obtain⟨z,hz,K⟩:=ih m (by omega) ht'
    have h0:=hel 0 (by omega)
    rw[List.getElem?_eq_getElem (by omega),kn] at h0
    obtain⟨cs0,D,_⟩:=Option.bind_eq_some_iff.1 h0
    obtain⟨_,hcl0,hat0⟩:=World.cells?_some D
    have hs0:=hat0 0 (by omega)
    rw[List.getElem?_eq_getElem (by omega)] at hs0
    obtain⟨b,o,sp⟩:=a
    have hsp:sp=none:=by
     cases sp with
     |none=>rfl
     |some s=>
      simp[Addr.add,World.cell?] at hs0
      split at hs0<;>cases hs0
    subst hsp
    refine⟨z,K,b,o,cs',O,hz,fun j u G=>?_⟩
    have hjl:j<5:=by rw[←hcl];exact(List.getElem?_eq_some_iff.1 G).1
    have:=hat j hjl
    rw[Addr.add_lit,Addr.add_lit,G] at this
    unfold World.cell? at this
    simp only[Option.isSome_none,Bool.false_eq_true,if_false] at this
    exact this
   obtain⟨l,hll,hp⟩:=aG4 len key
   refine⟨⟨n0,n1,n2,n3,l⟩,NodeAt.shut ⟨some a,cap,by rw[hll],by rw[hll];exact hle,fun i z hz=>(hp i z hz).2⟩,.mk _ _ _ _ _ (I64.of w0) w1 (I64.of w2) (I64.of w3) (by omega) (fun z hz=>?_)⟩
   obtain⟨i,hi⟩:=List.getElem?_of_mem hz
   exact(hp i z hi).1
theorem reads_node:Reads Tryz.prog 24 Node NodeWf:=⟨by kernel_rfl,by decide,fun h=>node_trod _ h⟩
theorem own_:ownKnob Tryz.prog.godebug=none:=by kernel_rfl
theorem laidOut_:laidOutB Tryz.prog=true:=by kernel_rfl
set_option maxRecDepth 100000 in
theorem reads46:Reads Tryz.prog 46 Opn (fun a:Opn=>I64 a.a∧I64 a.b):=⟨by kernel_rfl,by decide,fun{H enc w base spare held fuel cs x} h=>by
 obtain⟨xs,n,_,_,G,D,hf⟩:=DataW.trod_struct Tryz.underlying46 h
 have B:cs.length=2:=G.trans kr
 have hx2:xs.length=2:=D
 have k3:Tryz.prog.cellsOf 3=1:=by kernel_rfl
 match cs,B,xs,hx2 with
 | [c0,c1],_,[y0,y1],_=>
  have z0:=hf 0 _ O
  simp[k3] at z0
  obtain⟨n0,e0,_,w0⟩:=DataW.trod_int Tryz.underlying3 z0
  have z1:=hf 1 _ O
  simp[k3] at z1
  obtain⟨n1,e1,_,w1⟩:=DataW.trod_int Tryz.underlying3 z1
  simp only[List.cons.injEq,and_true] at e0 e1
  subst e0 e1
  exact⟨⟨n0,n1⟩,O,I64.of w0,I64.of w1⟩⟩
noncomputable def sF (D:Node) (B:Node):Option Bool:=
 some ((decide (D.kind=B.kind))&&(decide (D.text=B.text)))
noncomputable def iJ (B:Node) (K:Node) (self:Node→Node→Option Bool) (aQ:Int):Option (Step Int (Out Unit Bool)):=
 if(decide (aQ<(B.kids.length:Int)))=true then
  (idx B.kids aQ).bind fun I=>
  (idx K.kids aQ).bind fun H=>
  (self I H).bind fun G=>
  if(!G)=true then
   some (.done (.ret false))
  else
   (inK .i64 (aQ+1)).bind fun D=>
   some (.next D)
 else
  some (.done (.brk ()))
noncomputable def pJ (self:Node→Node→Option Bool) (D:Node) (B:Node):Option Bool:=
 (sF D B).bind fun G=>
 if((!G)||(!decide ((D.kids.length:Int)=(B.kids.length:Int))))=true then
  some false
 else
  (dZ (fun s=>iJ D B self s) 0:Option (Out Unit Bool)).bind fun b3=>
  match b3 with
  | .brk b3s=>
   some true
  | .ret r=>some r
noncomputable def jI:Nat→Node→Node→Option Bool
 |0=>fun _ _=>none
 |n+1=>pJ (jI n)
noncomputable def sS (B:Node) (D:Node):Option Bool:=jI (SizeOf.sizeOf B+1) B D
noncomputable def jP (B:Node) (self:Node→Int→Option Int) (aQ:Int) (aW:Int):Option (Step (Int×Int) Int):=
 if((decide (aW<(B.kids.length:Int)))&&(decide (0≤aQ)))=true then
  (idx B.kids aW).bind fun H=>
  (self H aQ).bind fun G=>
  (inK .i64 (aW+1)).bind fun D=>
  some (.next (G,D))
 else
  some (.done aQ)
noncomputable def qG (self:Node→Int→Option Int) (D:Node) (B:Int):Option Int:=
 if((decide (B<1))||(decide (40<(D.text.size:Int))))=true then
  some (-1)
 else
  (inK .i64 (B-1)).bind fun G=>
  (dZ (fun s=>jP D self s.1 s.2) (G,0):Option Int).bind fun b2=>
  some b2
noncomputable def kE:Nat→Node→Int→Option Int
 |0=>fun _ _=>none
 |n+1=>qG (kE n)
noncomputable def yC (B:Node) (D:Int):Option Int:=kE (SizeOf.sizeOf B+1) B D
noncomputable def oJ (G:Node) (D:Int):Option Bool:=
 (yC G D).bind fun B=>
 some (decide (0≤B))
noncomputable def rF (I:Node) (H:Node) (B:Int):Option Bool:=
 (oJ I B).bind fun G=>
 ((if G=true then
  (oJ H B).bind fun D=>
  some D
 else
  some false):Option Bool).bind fun m1=>
 some m1
noncomputable def kV (B:ByteArray):Option Node:=
 some (Node.mk 20 B 0 0 ([]))
noncomputable def nX (G:ByteArray) (D:Node) (B:Node):Option Node:=
 some (Node.mk 29 G 0 0 ([D,B]:List Node))
noncomputable def jQ (B:(List Node)) (K:(List Node)) (aQ:Int):Option (Step Int (Out Unit Bool)):=
 if(decide (aQ<(B.length:Int)))=true then
  (idx B aQ).bind fun I=>
  (idx K aQ).bind fun H=>
  (sS I H).bind fun G=>
  if(!G)=true then
   some (.done (.ret false))
  else
   (inK .i64 (aQ+1)).bind fun D=>
   some (.next D)
 else
  some (.done (.brk ()))
noncomputable def jW (D:(List Node)) (B:(List Node)):Option Bool:=
 if(!decide ((D.length:Int)=(B.length:Int)))=true then
  some false
 else
  (dZ (fun s=>jQ D B s) 0:Option (Out Unit Bool)).bind fun b1=>
  match b1 with
  | .brk b1s=>
   some true
  | .ret r=>some r
mutual
def aU:Node→Nat
 |⟨_,_,_,_,kids⟩=>1+dQ kids
def dQ:List Node→Nat
 | []=>0
 |k::l=>aU k+dQ l
end
def aA2 (n:Node):Option Int:=if aU n<4611686018427387904 then some (aU n:Int) else none
noncomputable def eY (I:Nmb) (B:Int) (D:Int):Option Bool:=
 ((if(decide (B<D))=true then
  (idx I.sizes B).bind fun H=>
  (inK .i64 (B+H)).bind fun G=>
  some (decide (D<G))
 else
  some false):Option Bool).bind fun m1=>
 some m1
noncomputable def kJ (D:Node) (B:Node):Option Bool:=
 some ((decide (D.kind=B.kind))&&(decide (D.text=B.text)))
noncomputable def pI (D:Node) (cp0:Nmb) (self:Node→Int→Nmb→Option Nmb) (aQ:Int) (aW:(List Node)) (fF:(List Int)) (iQ:(List Int)):Option (Step (Int×(List Node)×(List Int)×(List Int)) ((List Node)×(List Int)×(List Int))):=
 if(decide (aQ<(D.kids.length:Int)))=true then
  (idx D.kids aQ).bind fun H=>
  (self H (cp0.nodes.length:Int) (Nmb.mk aW fF iQ)).bind fun B=>
  (inK .i64 (aQ+1)).bind fun G=>
  some (.next (G,B.nodes,B.sizes,B.parent))
 else
  some (.done (aW,fF,iQ))
noncomputable def rZ (self:Node→Int→Nmb→Option Nmb) (B:Node) (K:Int) (cp0:Nmb):Option Nmb:=
 (app cp0.nodes [B]).bind fun I=>
 (aA2 B).bind fun H=>
 (app cp0.sizes [H]).bind fun G=>
 (app cp0.parent [K]).bind fun D=>
 (dZ (fun s=>pI B cp0 self s.1 s.2.1 s.2.2.1 s.2.2.2) (0,I,G,D):Option ((List Node)×(List Int)×(List Int))).bind fun b18=>
 some (Nmb.mk b18.1 b18.2.1 b18.2.2)
noncomputable def pY:Nat→Node→Int→Nmb→Option Nmb
 |0=>fun _ _ _=>none
 |n+1=>rZ (pY n)
noncomputable def D8 (B:Node) (D:Int) (cp0:Nmb):Option Nmb:=pY (SizeOf.sizeOf B+1) B D cp0
noncomputable def jO (D:Node):Option Nmb:=
 (D8 D (-1) (Nmb.mk ([]) ([]) ([]))).bind fun B=>
 some B
noncomputable def kH (D:Int) (cp1:Nmb) (self:Int→(List Int)→Nmb→(List Int)→Option ((List Int)×(List Int))) (aQ:Int) (aW:(List Int)) (fF:(List Int)):Option (Step (Int×(List Int)×(List Int)) ((List Int)×(List Int))):=
 (idx cp1.sizes D).bind fun K=>
 (inK .i64 (D+K)).bind fun I=>
 if(decide (aQ<I))=true then
  (self aQ aW cp1 fF).bind fun B=>
  (idx cp1.sizes aQ).bind fun H=>
  (inK .i64 (aQ+H)).bind fun G=>
  some (.next (G,B.1,B.2))
 else
  some (.done (aW,fF))
noncomputable def mX (self:Int→(List Int)→Nmb→(List Int)→Option ((List Int)×(List Int))) (B:Int) (cp0:(List Int)) (cp1:Nmb) (cp3:(List Int)):Option ((List Int)×(List Int)):=
 (inK .i64 (B+1)).bind fun H=>
 (dZ (fun s=>kH B cp1 self s.1 s.2.1 s.2.2) (H,cp0,cp3):Option ((List Int)×(List Int))).bind fun b1=>
 (app b1.1 [B]).bind fun G=>
 (app b1.2 [(cp0.length:Int)]).bind fun D=>
 some (G,D)
noncomputable def jF:Nat→Int→(List Int)→Nmb→(List Int)→Option ((List Int)×(List Int))
 |0=>fun _ _ _ _=>none
 |n+1=>mX (jF n)
noncomputable def uI (B:Int) (cp0:(List Int)) (cp1:Nmb) (cp3:(List Int)):Option ((List Int)×(List Int)):=jF (cp1.sizes.length+1) B cp0 cp1 cp3
noncomputable def mM (D:Nmb):Option ((List Int)×(List Int)):=
 (uI 0 [] D []).bind fun B=>
 some (B.1,B.2)
noncomputable def jC (B:(List Bool)) (H:Bool) (aQ:Int):Option (Step Int (Out Unit Int)):=
 if(decide (aQ<(B.length:Int)))=true then
  (idx B aQ).bind fun G=>
  if(H==G)=true then
   some (.done (.ret aQ))
  else
   (inK .i64 (aQ+1)).bind fun D=>
   some (.next D)
 else
  some (.done (.brk ()))
noncomputable def pM (D:(List Bool)) (B:Bool):Option Int:=
 (dZ (fun s=>jC D B s) 0:Option (Out Unit Int)).bind fun b1=>
 match b1 with
 | .brk b1s=>
  some (-1)
 | .ret r=>some r
noncomputable def jR (G:(List Bool)) (D:Bool):Option Bool:=
 (pM G D).bind fun B=>
 some (decide (0≤B))
noncomputable def sN (D:(List Opn)) (K:Nmb) (aQ:Int) (aW:Int) (fF:(List Opn)) (iQ:(List Bool)):Option (Step (Int×Int×(List Opn)×(List Bool)) (Out ((List Opn)×(List Bool)) Bool)):=
 if(decide (aW<(D.length:Int)))=true then
  (((idx D aW).bind fun B=>
  if((((((!((decide (aW<(K.nodes.length:Int)))==(decide (0≤B.a))))||((decide (0≤B.a))&&(!decide (B.a=aW))))||((decide (B.a<0))&&(!decide (B.a=(-1)))))||(decide (B.b<(-1))))||(decide ((iQ.length:Int)≤B.b)))||((decide (B.a<0))&&(decide (B.b≤aQ))))=true then
   some (.ret false)
  else
   ((if(decide (B.a<0))=true then
    some B.b
   else
    some aQ):Option Int).bind fun j2=>
   if(decide (B.b<0))=true then
    some (.brk (j2,fF,iQ))
   else
    (idx iQ B.b).bind fun I=>
    if I=true then
     some (.ret false)
    else
     (idx iQ B.b).bind fun x6=>
     if(decide (0≤B.a))=true then
      (app fF [B]).bind fun H=>
      some (.brk (j2,H,iQ.set B.b.toNat true))
     else
      some (.brk (j2,fF,iQ.set B.b.toNat true))):Option (Out (Int×(List Opn)×(List Bool)) Bool)).bind fun j1=>
  match j1 with
  | .brk j1s=>
   (inK .i64 (aW+1)).bind fun G=>
   some (.next (j1s.1,G,j1s.2.1,j1s.2.2))
  | .ret r=>some (.done (.ret r))
 else
  some (.done (.brk (fF,iQ)))
noncomputable def sO (V:Nmb) (H:Nmb) (D:Opn) (G:List Opn) (iC:Int):Option (Step Int (Out Unit Bool)):=
 if(decide (iC<(G.length:Int)))=true then
  (idx G iC).bind fun B=>
  ((if(decide (D.b<B.b))=true then
   (eY H D.b B.b).bind fun U=>
   some (!U)
  else
   some false):Option Bool).bind fun m1=>
  ((if m1=true then
   some true
  else
   (eY V B.a D.a).bind fun S=>
   (eY H B.b D.b).bind fun M=>
   some (!(S==M))):Option Bool).bind fun m2=>
  ((if m2=true then
   some true
  else
   (eY H D.b B.b).bind fun K=>
   some K):Option Bool).bind fun m3=>
  if m3=true then
   some (.done (.ret false))
  else
   (inK .i64 (iC+1)).bind fun I=>
   some (.next I)
 else
  some (.done (.brk ()))
noncomputable def nV (I:Nmb) (H:Nmb) (b23s:((List Opn)×(List Bool))) (bU:Int):Option (Step Int (Out Unit Bool)):=
 if(decide (bU<(b23s.1.length:Int)))=true then
  (idx b23s.1 bU).bind fun G=>
  (sub b23s.1 0 bU).bind fun D=>
  (dZ (fun s=>sO I H G D s) 0:Option (Out Unit Bool)).bind fun b32=>
  match b32 with
  | .brk b32s=>
   (inK .i64 (bU+1)).bind fun B=>
   some (.next B)
  | .ret r=>some (.done (.ret r))
 else
  some (.done (.brk ()))
noncomputable def rP (M:Node) (K:Node) (H:(List Opn)):Option Bool:=
 (jO M).bind fun G=>
 (jO K).bind fun B=>
 if(decide ((H.length:Int)<(G.nodes.length:Int)))=true then
  some false
 else
  (mkc (B.nodes.length:Int) (B.nodes.length:Int) (false:Bool)).bind fun I=>
  (dZ (fun s=>sN H G s.1 s.2.1 s.2.2.1 s.2.2.2) ((-1),0,[],I):Option (Out ((List Opn)×(List Bool)) Bool)).bind fun b23=>
  match b23 with
  | .brk b23s=>
   (dZ (fun s=>nV G B b23s s) 0:Option (Out Unit Bool)).bind fun b29=>
   match b29 with
   | .brk b29s=>
    (jR b23s.2 false).bind fun D=>
    some (!D)
   | .ret r=>some r
  | .ret r=>some r
noncomputable def uH (G:(List Opn)) (V:Nmb) (U:Nmb) (aQ:Int) (aW:Int):Option (Step (Int×Int) Int):=
 if(decide (aW<(G.length:Int)))=true then
  (idx G aW).bind fun B=>
  ((if((decide (B.a<0))||(decide (B.b<0)))=true then
   some true
  else
   (idx V.nodes B.a).bind fun S=>
   (idx U.nodes B.b).bind fun M=>
   (kJ S M).bind fun K=>
   some (!K)):Option Bool).bind fun m1=>
  if m1=true then
   (inK .i64 (aQ+1)).bind fun I=>
   (inK .i64 (aW+1)).bind fun H=>
   some (.next (I,H))
  else
   (inK .i64 (aW+1)).bind fun D=>
   some (.next (aQ,D))
 else
  some (.done aQ)
noncomputable def xU (G:Node) (D:Node) (B:(List Opn)):Option (Int×Int):=
 (rP G D B).bind fun K=>
 if(!K)=true then
  some (0,1)
 else
  (jO G).bind fun I=>
  (jO D).bind fun H=>
  (dZ (fun s=>uH B I H s.1 s.2) (0,0):Option Int).bind fun b23=>
  some (b23,0)
def m_grow (n:Int):Option (List Chg):=if 0≤n∧n≤4294967296 then some [] else none
noncomputable def fZ (G:Nmb) (D:Int) (B:(List Bool)) (aQ:Int) (aW:Int):Option (Step (Int×Int) Int):=
 if(decide (aQ<(B.length:Int)))=true then
  (idx B aQ).bind fun V=>
  (idx G.parent D).bind fun U=>
  if(decide (aQ=U))=true then
   (inK .i64 (aW+1)).bind fun S=>
   some (.done S)
  else
   ((if V=true then
    (idx G.parent D).bind fun M=>
    some (decide (0≤M))
   else
    some false):Option Bool).bind fun m1=>
   if m1=true then
    (inK .i64 (aW+1)).bind fun K=>
    (inK .i64 (aQ+1)).bind fun I=>
    some (.next (I,K))
   else
    (inK .i64 (aQ+1)).bind fun H=>
    some (.next (H,aW))
 else
  some (.done aW)
noncomputable def fD (H:Nmb) (G:(List Bool)) (iC:Int):Option (Step Int Int):=
 ((if(decide (0≤iC))=true then
  (idx G iC).bind fun D=>
  some (!D)
 else
  some false):Option Bool).bind fun m4=>
 if m4=true then
  (idx H.parent iC).bind fun B=>
  some (.next B)
 else
  some (.done iC)
noncomputable def iW (B:Nmb) (D:Int) (Y:(List Bool)) (bU:Int) (eF:Int) (zM:Int):Option (Step (Int×Int×Int) (Int×Int)):=
 if(decide (bU<(Y.length:Int)))=true then
  (((idx Y bU).bind fun X=>
  ((if(!X)=true then
   some true
  else
   (idx B.parent D).bind fun W=>
   ((if(decide (0≤W))=true then
    (idx B.parent D).bind fun V=>
    (eY B V bU).bind fun U=>
    some (!U)
   else
    some false):Option Bool).bind fun m3=>
   some m3):Option Bool).bind fun m2=>
  if m2=true then
   some (eF,zM)
  else
   (idx B.parent bU).bind fun S=>
   (dZ (fun s=>fD B Y s) S:Option Int).bind fun b18=>
   (idx B.parent D).bind fun M=>
   if(!decide (b18=M))=true then
    some (eF,zM)
   else
    if(decide (bU<D))=true then
     (inK .i64 (eF+1)).bind fun K=>
     some (K,zM)
    else
     (eY B D bU).bind fun I=>
     if I=true then
      (inK .i64 (zM+1)).bind fun H=>
      some (eF,H)
     else
      some (eF,zM)):Option (Int×Int)).bind fun j1=>
  (inK .i64 (bU+1)).bind fun G=>
  some (.next (G,j1.1,j1.2))
 else
  some (.done (eF,zM))
noncomputable def kU (D:Nmb) (B:Int) (G:(List Bool)):Option Chg:=
 (idx D.nodes B).bind fun I=>
 (idx D.nodes B).bind fun H=>
 (dZ (fun s=>fZ D B G s.1 s.2) (0,(-1)):Option Int).bind fun b9=>
 (dZ (fun s=>iW D B G s.1 s.2.1 s.2.2) (0,0,0):Option (Int×Int)).bind fun b13=>
 some (Chg.mk 2 b9 b13.1 b13.2 I.kind H.text)
noncomputable def pR (aQ:Int) (aW:Int) (fF:(List Chg)):Option (Step (Int×Int×(List Chg)) (List Chg)):=
 if(decide (aQ<aW))=true then
  (idx fF aW).bind fun B=>
  (idx fF aQ).bind fun H=>
  (idx fF aQ).bind fun x4=>
  (idx (fF.set aQ.toNat B) aW).bind fun x5=>
  (inK .i64 (aQ+1)).bind fun G=>
  (inK .i64 (aW-1)).bind fun D=>
  some (.next (G,D,(fF.set aQ.toNat B).set aW.toNat H))
 else
  some (.done fF)
noncomputable def sU (B:(List Chg)):Option (List Chg):=
 (inK .i64 ((B.length:Int)-1)).bind fun D=>
 (dZ (fun s=>pR s.1 s.2.1 s.2.2) (0,D,B):Option (List Chg)).bind fun b1=>
 some b1
noncomputable def xI (D:(List (List Chg))) (aQ:Int) (aW:Int):Option (Step (Int×Int) Int):=
 if(decide (aW<(D.length:Int)))=true then
  (idx D aW).bind fun H=>
  (inK .i64 (aQ+(H.length:Int))).bind fun B=>
  if(decide (B<0))=true then
   none
  else
   (inK .i64 (aW+1)).bind fun G=>
   some (.next (B,G))
 else
  some (.done aQ)
noncomputable def xJ (B:(List (List Chg))) (bU:Int) (eF:(List Chg)):Option (Step (Int×(List Chg)) (List Chg)):=
 if(decide (bU<(B.length:Int)))=true then
  (idx B bU).bind fun H=>
  (app eF H).bind fun G=>
  (inK .i64 (bU+1)).bind fun D=>
  some (.next (D,G))
 else
  some (.done eF)
noncomputable def uK (B:(List (List Chg))):Option (List Chg):=
 (dZ (fun s=>xI B s.1 s.2) (0,0):Option Int).bind fun b1=>
 (m_grow b1).bind fun D=>
 (dZ (fun s=>xJ B s.1 s.2) (0,D):Option (List Chg)).bind fun b3=>
 some b3
noncomputable def oH (U:(List Opn)) (Y:Nmb) (X:Nmb) (aQ:Int) (aW:(List Chg)) (fF:(List Chg)) (iQ:(List Bool)):Option (Step (Int×(List Chg)×(List Chg)×(List Bool)) ((List Chg)×(List Chg)×(List Bool))):=
 if(decide (aQ<(U.length:Int)))=true then
  (idx U aQ).bind fun B=>
  if(decide (B.b<0))=true then
   (app fF [(Chg.mk 1 B.a 0 0 0 ByteArray.empty)]).bind fun W=>
   (inK .i64 (aQ+1)).bind fun V=>
   some (.next (V,aW,W,iQ))
  else
   if(decide (0≤B.a))=true then
    (idx iQ B.b).bind fun x8=>
    (idx X.nodes B.b).bind fun D=>
    (idx Y.nodes B.a).bind fun S=>
    (kJ S D).bind fun M=>
    if(!M)=true then
     (app aW [(Chg.mk 0 B.a 0 0 D.kind D.text)]).bind fun K=>
     (inK .i64 (aQ+1)).bind fun I=>
     some (.next (I,K,fF,iQ.set B.b.toNat true))
    else
     (inK .i64 (aQ+1)).bind fun H=>
     some (.next (H,aW,fF,iQ.set B.b.toNat true))
   else
    (inK .i64 (aQ+1)).bind fun G=>
    some (.next (G,aW,fF,iQ))
 else
  some (.done (aW,fF,iQ))
noncomputable def oI (K:(List Opn)) (M:Nmb) (bU:Int) (eF:(List Chg)) (zM:(List Bool)):Option (Step (Int×(List Chg)×(List Bool)) ((List Chg)×(List Bool))):=
 if(decide (bU<(K.length:Int)))=true then
  (idx K bU).bind fun B=>
  if(decide (B.a<0))=true then
   (kU M B.b zM).bind fun I=>
   (app eF [I]).bind fun H=>
   (idx zM B.b).bind fun S=>
   (inK .i64 (bU+1)).bind fun G=>
   some (.next (G,H,zM.set B.b.toNat true))
  else
   (inK .i64 (bU+1)).bind fun D=>
   some (.next (D,eF,zM))
 else
  some (.done (eF,zM))
noncomputable def sK (K:Node) (I:Node) (H:(List Opn)):Option ((List Chg)×Int):=
 (rP K I H).bind fun U=>
 if(!U)=true then
  some ([],1)
 else
  (jO K).bind fun S=>
  (jO I).bind fun B=>
  (mkc (B.nodes.length:Int) (B.nodes.length:Int) (false:Bool)).bind fun M=>
  (dZ (fun s=>oH H S B s.1 s.2.1 s.2.2.1 s.2.2.2) (0,[],[],M):Option ((List Chg)×(List Chg)×(List Bool))).bind fun b23=>
  (dZ (fun s=>oI H B s.1 s.2.1 s.2.2) (0,[],b23.2.2):Option ((List Chg)×(List Bool))).bind fun b32=>
  (sU b23.2.1).bind fun G=>
  (uK ([b23.1,G,b32.1]:List (List Chg))).bind fun D=>
  some (D,0)
noncomputable def iV (B:Alg) (S:Int) (M:Int):Option Int:=
 (idx B.orderA S).bind fun K=>
 (idx B.a.nodes K).bind fun I=>
 (idx B.orderB M).bind fun H=>
 (idx B.b.nodes H).bind fun G=>
 (kJ I G).bind fun D=>
 if D=true then
  some 0
 else
  some 1
noncomputable def iR (B:Alg) (G:Int) (D:Int) (aQ:Int) (x10:(List Int)) (bU:Int) (eF:(List (List Int))):Option (Step (Int×(List (List Int))) (List (List Int))):=
 if(decide (bU<(x10.length:Int)))=true then
  if((decide (aQ=0))||(decide (bU=0)))=true then
   (idx eF aQ).bind fun K=>
   (inK .i64 (aQ+bU)).bind fun x12=>
   (idx K bU).bind fun x13=>
   (inK .i64 (bU+1)).bind fun x14=>
   some (.next (x14,eF.set aQ.toNat (K.set bU.toNat x12)))
  else
   (inK .i64 (G+aQ)).bind fun x15=>
   (inK .i64 (x15-1)).bind fun x16=>
   (idx B.leftA x16).bind fun x17=>
   ((if(decide (x17=G))=true then
    (inK .i64 (D+bU)).bind fun x18=>
    (inK .i64 (x18-1)).bind fun x19=>
    (idx B.leftB x19).bind fun x20=>
    some (decide (x20=D))
   else
    some false):Option Bool).bind fun m1=>
   if m1=true then
    (idx eF aQ).bind fun I=>
    (inK .i64 (aQ-1)).bind fun x22=>
    (idx eF x22).bind fun x23=>
    (idx x23 bU).bind fun x24=>
    (inK .i64 (x24+1)).bind fun x25=>
    (idx eF aQ).bind fun x26=>
    (inK .i64 (bU-1)).bind fun x27=>
    (idx x26 x27).bind fun x28=>
    (inK .i64 (x28+1)).bind fun x29=>
    (inK .i64 (aQ-1)).bind fun x30=>
    (idx eF x30).bind fun x31=>
    (inK .i64 (bU-1)).bind fun x32=>
    (idx x31 x32).bind fun x33=>
    (inK .i64 (G+aQ)).bind fun x34=>
    (inK .i64 (x34-1)).bind fun x35=>
    (inK .i64 (D+bU)).bind fun x36=>
    (inK .i64 (x36-1)).bind fun x37=>
    (iV B x35 x37).bind fun x38=>
    (inK .i64 (x33+x38)).bind fun x39=>
    (idx I bU).bind fun x40=>
    (inK .i64 (bU+1)).bind fun x41=>
    some (.next (x41,eF.set aQ.toNat (I.set bU.toNat (min (min x25 x29) x39))))
   else
    (idx eF aQ).bind fun H=>
    (inK .i64 (aQ-1)).bind fun x43=>
    (idx eF x43).bind fun x44=>
    (idx x44 bU).bind fun z=>
    (inK .i64 (z+1)).bind fun y=>
    (idx eF aQ).bind fun x=>
    (inK .i64 (bU-1)).bind fun u=>
    (idx x u).bind fun t=>
    (inK .i64 (t+1)).bind fun s=>
    (inK .i64 (G+aQ)).bind fun r=>
    (inK .i64 (r-1)).bind fun q=>
    (idx B.leftA q).bind fun p=>
    (inK .i64 (p-G)).bind fun n=>
    (idx eF n).bind fun m=>
    (inK .i64 (D+bU)).bind fun k=>
    (inK .i64 (k-1)).bind fun j=>
    (idx B.leftB j).bind fun i=>
    (inK .i64 (i-D)).bind fun g=>
    (idx m g).bind fun f=>
    (inK .i64 (G+aQ)).bind fun e=>
    (inK .i64 (e-1)).bind fun c=>
    (idx B.orderA c).bind fun b=>
    (idx B.distances b).bind fun Y=>
    (inK .i64 (D+bU)).bind fun X=>
    (inK .i64 (X-1)).bind fun W=>
    (idx B.orderB W).bind fun V=>
    (idx Y V).bind fun U=>
    (inK .i64 (f+U)).bind fun S=>
    (idx H bU).bind fun x70=>
    (inK .i64 (bU+1)).bind fun M=>
    some (.next (M,eF.set aQ.toNat (H.set bU.toNat (min (min y s) S))))
 else
  some (.done eF)
noncomputable def kG (V:Alg) (U:Int) (S:Int) (I:Int) (M:(List (List Int))) (aQ:Int) (aW:(List (List Int))):Option (Step (Int×(List (List Int))) (List (List Int))):=
 if(decide (aQ<(M.length:Int)))=true then
  (inK .i64 (U-I)).bind fun K=>
  (inK .i64 (K+2)).bind fun H=>
  (mkc H H (0:Int)).bind fun G=>
  (idx aW aQ).bind fun x9=>
  (idx (aW.set aQ.toNat G) aQ).bind fun D=>
  (dZ (fun s=>iR V S I aQ D s.1 s.2) (0,aW.set aQ.toNat G):Option (List (List Int))).bind fun b6=>
  (inK .i64 (aQ+1)).bind fun B=>
  some (.next (B,b6))
 else
  some (.done aW)
noncomputable def nJ (B:Alg) (K:Int) (I:Int):Option (List (List Int)):=
 (idx B.leftA K).bind fun H=>
 (idx B.leftB I).bind fun S=>
 (inK .i64 (K-H)).bind fun M=>
 (inK .i64 (M+2)).bind fun G=>
 (mkc G G ([]:(List Int))).bind fun D=>
 (dZ (fun s=>kG B I H S D s.1 s.2) (0,D):Option (List (List Int))).bind fun b3=>
 some b3
noncomputable def jB (B:Alg) (self:Alg→Int→Int→Option Alg) (x1:Int) (z:Int) (H:(List (List Int))) (aQ:Int) (aW:Int) (fF:(List Int)) (iQ:(List Int)):Option (Step (Int×Int×(List Int)×(List Int)) ((List Int)×(List Int))):=
 if((decide (0<aQ))&&(decide (0<aW)))=true then
  (inK .i64 (x1+aQ)).bind fun x7=>
  (inK .i64 (x7-1)).bind fun G=>
  (inK .i64 (z+aW)).bind fun x9=>
  (inK .i64 (x9-1)).bind fun D=>
  (idx B.leftA G).bind fun x11=>
  ((if(decide (x11=x1))=true then
   (idx B.leftB D).bind fun x12=>
   some (decide (x12=z))
  else
   some false):Option Bool).bind fun m1=>
  ((if m1=true then
   (idx H aQ).bind fun x13=>
   (idx x13 aW).bind fun x14=>
   (inK .i64 (aQ-1)).bind fun x15=>
   (idx H x15).bind fun x16=>
   (inK .i64 (aW-1)).bind fun x17=>
   (idx x16 x17).bind fun x18=>
   (iV (Alg.mk B.a B.b B.orderA B.leftA B.orderB B.leftB B.distances fF iQ) G D).bind fun x19=>
   (inK .i64 (x18+x19)).bind fun y=>
   some (decide (x14=y))
  else
   some false):Option Bool).bind fun m2=>
  if m2=true then
   (idx B.orderA G).bind fun M=>
   (idx B.orderB D).bind fun K=>
   (idx B.orderB D).bind fun x=>
   (idx B.orderA G).bind fun u=>
   (idx fF M).bind fun x25=>
   (idx iQ K).bind fun x26=>
   (inK .i64 (aQ-1)).bind fun t=>
   (inK .i64 (aW-1)).bind fun s=>
   some (.next (t,s,fF.set M.toNat x,iQ.set K.toNat u))
  else
   (idx H aQ).bind fun r=>
   (idx r aW).bind fun q=>
   (inK .i64 (aQ-1)).bind fun p=>
   (idx H p).bind fun n=>
   (idx n aW).bind fun m=>
   (inK .i64 (m+1)).bind fun k=>
   if(decide (q=k))=true then
    (inK .i64 (aQ-1)).bind fun j=>
    some (.next (j,aW,fF,iQ))
   else
    (idx H aQ).bind fun i=>
    (idx i aW).bind fun g=>
    (idx H aQ).bind fun f=>
    (inK .i64 (aW-1)).bind fun e=>
    (idx f e).bind fun c=>
    (inK .i64 (c+1)).bind fun Y=>
    if(decide (g=Y))=true then
     (inK .i64 (aW-1)).bind fun X=>
     some (.next (aQ,X,fF,iQ))
    else
     (self (Alg.mk B.a B.b B.orderA B.leftA B.orderB B.leftB B.distances fF iQ) G D).bind fun I=>
     (idx B.leftA G).bind fun W=>
     (inK .i64 (W-x1)).bind fun V=>
     (idx B.leftB D).bind fun U=>
     (inK .i64 (U-z)).bind fun S=>
     some (.next (V,S,I.partner,I.back))
 else
  some (.done (fF,iQ))
noncomputable def pG (self:Alg→Int→Int→Option Alg) (B:Alg) (H:Int) (G:Int):Option Alg:=
 (idx B.leftA H).bind fun U=>
 (idx B.leftB G).bind fun S=>
 (nJ B H G).bind fun D=>
 (inK .i64 ((D.length:Int)-1)).bind fun M=>
 (idx D 0).bind fun K=>
 (inK .i64 ((K.length:Int)-1)).bind fun I=>
 (dZ (fun s=>jB B self U S D s.1 s.2.1 s.2.2.1 s.2.2.2) (M,I,B.partner,B.back):Option ((List Int)×(List Int))).bind fun b4=>
 some (Alg.mk B.a B.b B.orderA B.leftA B.orderB B.leftB B.distances b4.1 b4.2)
noncomputable def jH:Nat→Alg→Int→Int→Option Alg
 |0=>fun _ _ _=>none
 |n+1=>pG (jH n)
noncomputable def sQ (G:Alg) (D:Int) (B:Int):Option Alg:=jH (D.toNat+B.toNat+1) G D B
open Go.RowKit Go.Sort
section
variable {Z:World} {ρ:PH} {L:List bP} {w:World}
theorem flat_int (l:List Int):flat l=l.map (Value.int .i64):=by
 induction l with
 |nil=>rfl
 |cons x l ih=>rw[uC,ih];rfl
end
def insI (a:Int):List Int→List Int
 | []=>[a]
 |b::l=>if a≤b then a::b::l else b::insI a l
def isort:List Int→List Int
 | []=>[]
 |a::l=>insI a (isort l)
theorem insI_perm (a:Int):∀l,(insI a l).Perm (a::l)
 | []=> .refl _
 |b::l=>by
  unfold insI
  split
  ·exact .refl _
  exact((insI_perm a l).cons b).trans (.swap a b l)
theorem isort_perm:∀l,(isort l).Perm l
 | []=> .refl _
 |a::l=>(insI_perm a _).trans ((isort_perm l).cons a)
theorem insI_pw (a:Int):∀l:List Int,l.Pairwise (fun x y=>decide (x≤y)=true)→(insI a l).Pairwise fun x y=>decide (x≤y)=true
 | [],_=> .cons (fun _ h=>absurd h (by simp)) .nil
 |b::l,h=>by
  obtain⟨h1,h2⟩:=List.pairwise_cons.1 h
  unfold insI
  split
  ·refine .cons (fun x B=>?_) h
   rcases List.mem_cons.1 B with rfl|B
   ·simpa
   have:=h1 x B
   simp only[decide_eq_true_eq] at this⊢;omega
  refine .cons (fun x B=>?_) (insI_pw a l h2)
  rcases List.mem_cons.1 ((insI_perm a l).mem_iff.1 B) with rfl|B
  ·simp only[decide_eq_true_eq];omega
  exact h1 x B
theorem isort_pw:∀l,(isort l).Pairwise fun x y=>decide (x≤y)=true
 | []=> .nil
 |a::l=>insI_pw a _ (isort_pw l)
theorem isort_eq (l:List Int):isort l=l.mergeSort fun x y=>decide (x≤y):=
 List.Perm.eq_of_pairwise (le:=fun x y=>decide (x≤y)=true) (fun a b _ _ h1 h2=>by simp only[decide_eq_true_eq] at h1 h2;omega) (isort_pw l)
  (List.pairwise_mergeSort (fun a b c h k=>by simp at*;omega) (fun a b=>by simp;omega) l) ((isort_perm l).trans (List.mergeSort_perm l _).symm)
def P6 (l:List (Int×Int)):Option (List Int):=if(l.all fun p=>decide (-9223372036854775808≤p.1∧p.1≤9223372036854775807)&&decide (-9223372036854775808≤p.2∧p.2≤9223372036854775807))=true∧l.length<4294967297 then some (isort (l.map (·.2))) else none
noncomputable def rV (D:Node):Option Bool:=
 (aA2 D).bind fun B=>
 some (decide (256<B))
noncomputable def gB (B:(List Node)) (aQ:Int):Option (Step Int (Out Unit Int)):=
 if(decide (aQ<(B.length:Int)))=true then
  (idx B aQ).bind fun H=>
  (rV H).bind fun G=>
  if G=true then
   some (.done (.ret aQ))
  else
   (inK .i64 (aQ+1)).bind fun D=>
   some (.next D)
 else
  some (.done (.brk ()))
noncomputable def jA (B:(List Node)):Option Int:=
 (dZ (fun s=>gB B s) 0:Option (Out Unit Int)).bind fun b1=>
 match b1 with
 | .brk b1s=>
  some (-1)
 | .ret r=>some r
noncomputable def iM (D:(List Node)):Option Bool:=
 (jA D).bind fun B=>
 some (decide (0≤B))
noncomputable def uJ (D:(List Node)):Option Bool:=
 (iM D).bind fun B=>
 some B
noncomputable def mG (D:Node) (self:Node→Int→DFlat→Option (Int×DFlat)) (aQ:Int) (aW:Int) (fF:(List Lbl)) (iQ:(List Int)) (lp1_4:(List Int)):Option (Step (Int×Int×(List Lbl)×(List Int)×(List Int)) (Int×(List Lbl)×(List Int)×(List Int))):=
 if(decide (aQ<(D.kids.length:Int)))=true then
  (idx D.kids aQ).bind fun H=>
  (self H aW (DFlat.mk fF iQ lp1_4)).bind fun B=>
  (inK .i64 (aQ+1)).bind fun G=>
  some (.next (G,B.1,B.2.labels,B.2.left,B.2.numbers))
 else
  some (.done (aW,fF,iQ,lp1_4))
noncomputable def pK (self:Node→Int→DFlat→Option (Int×DFlat)) (B:Node) (cp0:Int) (cp1:DFlat):Option (Int×DFlat):=
 (inK .i64 (cp0+1)).bind fun I=>
 (dZ (fun s=>mG B self s.1 s.2.1 s.2.2.1 s.2.2.2.1 s.2.2.2.2) (0,I,cp1.labels,cp1.left,cp1.numbers):Option (Int×(List Lbl)×(List Int)×(List Int))).bind fun b2=>
 (app b2.2.1 [(Lbl.mk B.kind B.text)]).bind fun H=>
 (app b2.2.2.1 [(cp1.labels.length:Int)]).bind fun G=>
 (app b2.2.2.2 [cp0]).bind fun D=>
 some (b2.1,(DFlat.mk H G D))
noncomputable def lI:Nat→Node→Int→DFlat→Option (Int×DFlat)
 |0=>fun _ _ _=>none
 |n+1=>pK (lI n)
noncomputable def xH (B:Node) (cp0:Int) (cp1:DFlat):Option (Int×DFlat):=lI (SizeOf.sizeOf B+1) B cp0 cp1
noncomputable def qA (D:Node):Option DFlat:=
 (xH D 0 (DFlat.mk ([]) ([]) ([]))).bind fun B=>
 some B.2
noncomputable def lN (B:DFlat) (aQ:Int) (aW:(List (Int×Int))):Option (Step (Int×(List (Int×Int))) (List (Int×Int))):=
 if(decide (aQ<(B.left.length:Int)))=true then
  (idx B.left aQ).bind fun G=>
  (inK .i64 (aQ+1)).bind fun D=>
  some (.next (D,I9 aW G aQ))
 else
  some (.done aW)
noncomputable def kF (D:DFlat):Option (List Int):=
 (dZ (fun s=>lN D s.1 s.2) (0,[]):Option (List (Int×Int))).bind fun b3=>
 (P6 b3).bind fun B=>
 some B
noncomputable def qL (B:Int) (H:(List (List Int))) (aQ:Int) (aW:(List (List Int))):Option (Step (Int×(List (List Int))) (List (List Int))):=
 if(decide (aQ<(H.length:Int)))=true then
  (mkc B B (0:Int)).bind fun G=>
  (idx aW aQ).bind fun x3=>
  (inK .i64 (aQ+1)).bind fun D=>
  some (.next (D,aW.set aQ.toNat G))
 else
  some (.done aW)
noncomputable def qB (D:Int) (G:Int):Option (List (List Int)):=
 (mkc D D ([]:(List Int))).bind fun B=>
 (dZ (fun s=>qL G B s.1 s.2) (0,B):Option (List (List Int))).bind fun b1=>
 some b1
noncomputable def wF (p0:DFlat) (p1:DFlat) (B:(List (List Int))):Option (List (List Int)):=
 some B
noncomputable def kM (G:(List (List Int))) (aQ:Int) (aW:(List (List Int))):Option (Step (Int×(List (List Int))) (List (List Int))):=
 if(decide (aQ<(G.length:Int)))=true then
  (idx aW aQ).bind fun D=>
  (idx D 0).bind fun x9=>
  (inK .i64 (aQ+1)).bind fun B=>
  some (.next (B,aW.set aQ.toNat (D.set (0:Int).toNat aQ)))
 else
  some (.done aW)
noncomputable def kN (G:(List Int)) (bU:Int) (eF:(List (List Int))):Option (Step (Int×(List (List Int))) (List (List Int))):=
 if(decide (bU<(G.length:Int)))=true then
  (idx eF 0).bind fun B=>
  (idx B bU).bind fun H=>
  (inK .i64 (bU+1)).bind fun D=>
  some (.next (D,eF.set (0:Int).toNat (B.set bU.toNat bU)))
 else
  some (.done eF)
noncomputable def kP (p1:Int) (cp0:DFlat) (cp1:DFlat) (x1:Int) (x2:Int) (iC:Int) (oP:Int) (qK:(List (List Int))) (aF1:(List (List Int))):Option (Step (Int×(List (List Int))×(List (List Int))) ((List (List Int))×(List (List Int)))):=
 if(decide (oP≤p1))=true then
  (((inK .i64 (iC-x1)).bind fun x15=>
  (inK .i64 (x15+1)).bind fun D=>
  (inK .i64 (oP-x2)).bind fun x17=>
  (inK .i64 (x17+1)).bind fun B=>
  (inK .i64 (D-1)).bind fun x19=>
  (idx qK x19).bind fun z=>
  (idx z B).bind fun y=>
  (idx qK D).bind fun x=>
  (inK .i64 (B-1)).bind fun u=>
  (idx x u).bind fun t=>
  (inK .i64 ((min y t)+1)).bind fun H=>
  (idx cp0.left iC).bind fun s=>
  ((if(!decide (s=x1))=true then
   some true
  else
   (idx cp1.left oP).bind fun r=>
   some (!decide (r=x2))):Option Bool).bind fun m1=>
  if m1=true then
   (idx qK D).bind fun U=>
   (idx cp0.left iC).bind fun q=>
   (inK .i64 (q-x1)).bind fun p=>
   (idx qK p).bind fun n=>
   (idx cp1.left oP).bind fun m=>
   (inK .i64 (m-x2)).bind fun k=>
   (idx n k).bind fun j=>
   (idx aF1 iC).bind fun i=>
   (idx i oP).bind fun g=>
   (inK .i64 (j+g)).bind fun f=>
   (idx U B).bind fun x38=>
   some (qK.set D.toNat (U.set B.toNat (min H f)),aF1)
  else
   (inK .i64 (D-1)).bind fun e=>
   (idx qK e).bind fun c=>
   (inK .i64 (B-1)).bind fun b=>
   (idx c b).bind fun S=>
   (idx cp0.labels iC).bind fun M=>
   (idx cp1.labels oP).bind fun K=>
   ((if(!((decide (M.kind=K.kind))&&(decide (M.text=K.text))))=true then
    (inK .i64 (S+1)).bind fun Y=>
    some Y
   else
    some S):Option Int).bind fun j2=>
   (idx qK D).bind fun G=>
   (idx G B).bind fun x47=>
   (idx aF1 iC).bind fun I=>
   (idx (qK.set D.toNat (G.set B.toNat (min H j2))) D).bind fun X=>
   (idx X B).bind fun W=>
   (idx I oP).bind fun x51=>
   some (qK.set D.toNat (G.set B.toNat (min H j2)),aF1.set iC.toNat (I.set oP.toNat W))):Option ((List (List Int))×(List (List Int)))).bind fun j1=>
  (inK .i64 (oP+1)).bind fun V=>
  some (.next (V,j1.1,j1.2))
 else
  some (.done (qK,aF1))
noncomputable def nM (I:Int) (H:Int) (cp0:DFlat) (cp1:DFlat) (G:Int) (D:Int) (iC:Int) (yZ:(List (List Int))) (lp3_2:(List (List Int))):Option (Step (Int×(List (List Int))×(List (List Int))) ((List (List Int))×(List (List Int)))):=
 if(decide (iC≤I))=true then
  (dZ (fun s=>kP H cp0 cp1 G D iC s.1 s.2.1 s.2.2) (D,yZ,lp3_2):Option ((List (List Int))×(List (List Int)))).bind fun b11=>
  (inK .i64 (iC+1)).bind fun B=>
  some (.next (B,b11.1,b11.2))
 else
  some (.done (yZ,lp3_2))
noncomputable def oK (H:Int) (G:Int) (cp0:DFlat) (cp1:DFlat) (cp2:(List (List Int))):Option (List (List Int)):=
 (idx cp0.left H).bind fun D=>
 (idx cp1.left G).bind fun K=>
 (inK .i64 (H-D)).bind fun V=>
 (inK .i64 (V+2)).bind fun U=>
 (inK .i64 (G-K)).bind fun S=>
 (inK .i64 (S+2)).bind fun M=>
 (qB U M).bind fun I=>
 (dZ (fun s=>kM I s.1 s.2) (0,I):Option (List (List Int))).bind fun b3=>
 (idx b3 0).bind fun B=>
 (dZ (fun s=>kN B s.1 s.2) (0,b3):Option (List (List Int))).bind fun b7=>
 (dZ (fun s=>nM H G cp0 cp1 D K s.1 s.2.1 s.2.2) (D,b7,cp2):Option ((List (List Int))×(List (List Int)))).bind fun b10=>
 some b10.2
noncomputable def nO (M:DFlat) (K:DFlat) (I:Int) (D:(List Int)) (bU:Int) (eF:(List (List Int))):Option (Step (Int×(List (List Int))) (List (List Int))):=
 if(decide (bU<(D.length:Int)))=true then
  (idx D bU).bind fun H=>
  (oK I H M K eF).bind fun G=>
  (inK .i64 (bU+1)).bind fun B=>
  some (.next (B,G))
 else
  some (.done eF)
noncomputable def nN (K:DFlat) (G:DFlat) (D:(List Int)) (aQ:Int) (aW:(List (List Int))):Option (Step (Int×(List (List Int))) (List (List Int))):=
 if(decide (aQ<(D.length:Int)))=true then
  (idx D aQ).bind fun I=>
  (kF G).bind fun H=>
  (dZ (fun s=>nO K G I H s.1 s.2) (0,aW):Option (List (List Int))).bind fun b28=>
  (inK .i64 (aQ+1)).bind fun B=>
  some (.next (B,b28))
 else
  some (.done aW)
noncomputable def nR (U:DFlat) (M:DFlat) (iC:Int) (H:(List Int)) (oP:Int) (qK:(List (List Int))):Option (Step (Int×(List (List Int))) (List (List Int))):=
 if(decide (oP<(H.length:Int)))=true then
  (idx H oP).bind fun K=>
  (idx U.numbers iC).bind fun G=>
  (idx qK G).bind fun D=>
  (idx M.numbers oP).bind fun B=>
  (idx D B).bind fun S=>
  (inK .i64 (oP+1)).bind fun I=>
  some (.next (I,qK.set G.toNat (D.set B.toNat K)))
 else
  some (.done qK)
noncomputable def nP (H:DFlat) (G:DFlat) (b26:(List (List Int))) (iC:Int) (yZ:(List (List Int))):Option (Step (Int×(List (List Int))) (List (List Int))):=
 if(decide (iC<(b26.length:Int)))=true then
  (idx b26 iC).bind fun D=>
  (dZ (fun s=>nR H G iC D s.1 s.2) (0,yZ):Option (List (List Int))).bind fun b32=>
  (inK .i64 (iC+1)).bind fun B=>
  some (.next (B,b32))
 else
  some (.done yZ)
noncomputable def rH (S:Node) (M:Node):Option (List (List Int)):=
 (qA S).bind fun B=>
 (qA M).bind fun D=>
 (qB (B.labels.length:Int) (D.labels.length:Int)).bind fun K=>
 (wF B D K).bind fun I=>
 (kF B).bind fun H=>
 (dZ (fun s=>nN B D H s.1 s.2) (0,I):Option (List (List Int))).bind fun b26=>
 (qB (B.labels.length:Int) (D.labels.length:Int)).bind fun G=>
 (dZ (fun s=>nP B D b26 s.1 s.2) (0,G):Option (List (List Int))).bind fun b30=>
 some b30
noncomputable def rG (D:Node) (B:Node):Option ((List (List Int))×Int):=
 (uJ ([D,B]:List Node)).bind fun H=>
 if H=true then
  some ([],8)
 else
  (rH D B).bind fun G=>
  some (G,0)
end Go.Proofs.YtopnldfjcciieaaGreat
