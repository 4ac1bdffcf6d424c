/- Tables: slices of slices that are written in place. Plain theorems over any program. -/
import Derived.Test.YtopnldfjcciieaaGreatKFo2
import Derived.Test.YtopnldfjcciieaaGreatProg
import Derived.Lib.LaidTab
import Derived.LaidLaws
import Derived.Test.YtopnldfjcciieaaGreatRows
import Derived.Sort.OwnSortedInts
import Derived.Lib.ItoaNum
set_option linter.unusedVariables false
set_option linter.unusedSimpArgs false
namespace Go.Proofs.YtopnldfjcciieaaGreat
open Go.RowKit
def Sl:Type:={v:Value // ∃A n c,v= .slice A n c}
def Sl.v (s:Sl):Value:=s.1
def Sl.nil:Sl:=⟨.slice none 0 0,none,0,0,rfl⟩
theorem Sl.one (s:Sl):s.v.oneCell'=true:=by obtain⟨v,A,n,c,rfl⟩:=s;rfl
theorem Sl.cells (s:Sl):s.v.cells= #[s.v]:=by obtain⟨v,A,n,c,rfl⟩:=s;rfl
instance encSl:Enc Sl:=⟨1,fun s=>[s.v],fun _=>rfl,fun s v h=>by rw[List.mem_singleton.1 h];exact s.one,by decide⟩
theorem aC.toSl {α:Type} [Enc α] {Z:World} {ρ:PH} {L:List bK} {w:World} {El:TypeId} {v:Value} {l:List α} (hp:Hp Z ρ L w) (k:Nat) (hk:L[k]?=some (aC El v l)):∃s:Sl,s.v=v:=by
 rcases(hp.get k hk).row.2 with⟨A,rfl,_⟩|⟨g,off,cap,cur,rfl,_⟩
 ·exact⟨⟨_,_,_,_,rfl⟩,rfl⟩
 exact⟨⟨_,_,_,_,rfl⟩,rfl⟩
instance (priority:=50) repList {α:Type} [Rep α]:Rep (List α):=⟨1,fun ρ l cs=>∃v,cs=[v]∧aH ρ v l,fun⟨_,h,_⟩=>by rw[h];rfl,fun hl ⟨v,h,k⟩=>⟨v,h,k.mono hl⟩⟩
def gY {α:Type} [Enc α] (Ti:TypeId):List Sl→List (List α)→bK
 | [],[]=>fun k=>k=PH.emp
 |u::us,r::l=>star (aC Ti u.v r) (gY Ti us l)
 |_,_=>fun _=>False
section
variable {α:Type} [Enc α] {Ti:TypeId} {L:List bK} {ρ h:PH}
theorem Sep.emp1:Sep ρ ((fun k=>k=PH.emp)::L) h↔Sep ρ L h:=by
 have e:ρ.un PH.emp=ρ:=by funext b;unfold PH.un PH.emp;cases ρ b<;>rfl
 constructor
 ·rintro⟨k,rfl,d,hs⟩;rw[e] at hs;exact hs
 intro hs;exact⟨PH.emp,rfl,PH.dj_emp ρ,by rw[e];exact hs⟩
theorem gY.len {us:List Sl} {l:List (List α)} (hs:Sep ρ (gY Ti us l::L) h):us.length=l.length:=by
 induction us generalizing l ρ L with
 |nil=>
  cases l with
  |nil=>rfl
  |cons r l=>obtain⟨k,a,_⟩:=hs;exact a.elim
 |cons u us ih=>
  cases l with
  |nil=>obtain⟨k,a,_⟩:=hs;exact a.elim
  |cons r l=>simp only[List.length_cons];rw[ih (Sep.swap (Sep.two.1 hs))]
theorem gY.take:∀{us:List Sl} {l:List (List α)} (i:Nat) {u:Sl} {r:List α} {ρ h:PH} {L:List bK},us[i]?=some u→l[i]?=some r→
  (Sep ρ (gY Ti us l::L) h↔Sep ρ (aC Ti u.v r::gY Ti (us.eraseIdx i) (l.eraseIdx i)::L) h)
 | [],_,i,_,_,_,_,_,h1,_=>by simp at h1
 |_::_,[],i,_,_,_,_,_,_,h2=>by simp at h2
 |u0::us,r0::l,0,u,r,ρ,h,L,h1,h2=>by
  simp only[List.getElem?_cons_zero,Option.some.injEq] at h1 h2
  subst h1 h2
  exact Sep.two
 |u0::us,r0::l,i+1,u,r,ρ,h,L,h1,h2=>by
  simp only[List.getElem?_cons_succ] at h1 h2
  constructor
  ·intro hs
   exact Sep.cons_mono (fun ρ h=>Sep.two.2) (Sep.swap (Sep.cons_mono (fun ρ h=>(gY.take i h1 h2).1) (Sep.two.1 hs)))
  intro hs
  exact Sep.two.2 (Sep.cons_mono (fun ρ h=>(gY.take i h1 h2).2) (Sep.swap (Sep.cons_mono (fun ρ h=>Sep.two.1) hs)))
theorem gY.snoc:∀{us:List Sl} {l:List (List α)} {u:Sl} {r:List α} {ρ h:PH} {L:List bK},Sep ρ (aC Ti u.v r::gY Ti us l::L) h→Sep ρ (gY Ti (us++[u]) (l++[r])::L) h
 | [],[],u,r,ρ,h,L,hs=>Sep.two.2 (Sep.cons_mono (fun ρ h h1=>Sep.emp1.2 (Sep.emp1.1 h1)) hs)
 | [],_::_,_,_,_,_,_,hs=>by obtain⟨_,_,_,k,a,_⟩:=hs;exact a.elim
 |_::_,[],_,_,_,_,_,hs=>by obtain⟨_,_,_,k,a,_⟩:=hs;exact a.elim
 |u0::us,r0::l,u,r,ρ,h,L,hs=>Sep.two.2 (Sep.cons_mono (fun ρ h=>gY.snoc) (Sep.swap (Sep.cons_mono (fun ρ h=>Sep.two.1) hs)))
theorem gY.nils:∀(n:Nat) {ρ h:PH} {L:List bK},Sep ρ L h→Sep ρ (gY Ti (List.replicate n Sl.nil) (List.replicate n ([]:List α))::L) h
 |0,_,_,_,hs=>Sep.emp1.2 hs
 |n+1,ρ,h,L,hs=>Sep.two.2 (by
  have h1:=gY.nils n hs
  refine⟨PH.emp,aC.nil Ti,PH.dj_emp ρ,?_⟩
  have e:ρ.un PH.emp=ρ:=by funext b;unfold PH.un PH.emp;cases ρ b<;>rfl
  rw[e];exact h1)
end
def cO {α:Type} [Enc α] (T Ti:TypeId) (v:Value) (us:List Sl) (l:List (List α)):bK:=star (aC T v us) (gY Ti us l)
section
variable {Rn:Option Nat} {P:Program} {ops:Array Oper} {Q:Exit→Act→World→Prop} {rest:List Oper} {o:Oper} {a:Act} {w:World} {Df:List Deferred} {N:Nat} {E:Ent} {d:Nat} {Z:World} {ρ:PH} {L:List bK}
variable {α:Type} [Enc α] {T Ti To Tr:TypeId} {v:Value} {us:List Sl} {l:List (List α)} {bytes:Nat}
theorem Hp.tbl (h:Hp Z ρ (cO T Ti v us l::L) w):Hp Z ρ (aC T v us::gY Ti us l::L) w:=h.to Sep.two.1
theorem Hp.tblShut (h:Hp Z ρ (aC T v us::gY Ti us l::L) w):Hp Z ρ (cO T Ti v us l::L) w:=h.to Sep.two.2
theorem cO.lens (hp:Hp Z ρ (cO T Ti v us l::L) w):us.length=l.length:=gY.len (Sep.swap hp.tbl.sep)
theorem cO.slice (hp:Hp Z ρ L w) (k:Nat) (hk:L[k]?=some (cO T Ti v us l)):∃s:Sl,s.v=v:=aC.toSl (hp.get k hk).tbl 0 rfl
theorem cO.cells (hp:Hp Z ρ L w) (k:Nat) (hk:L[k]?=some (cO T Ti v us l)):v.cells= #[v]:=by obtain⟨s,rfl⟩:=cO.slice hp k hk;exact s.cells
theorem cO.one (hp:Hp Z ρ L w) (k:Nat) (hk:L[k]?=some (cO T Ti v us l)):v.oneCell'=true:=by obtain⟨s,rfl⟩:=cO.slice hp k hk;exact s.one
theorem cO.len (hp:Hp Z ρ L w) (k:Nat) (hk:L[k]?=some (cO T Ti v us l)) (ht:SlTy P To T 1 bytes) (w:World) (ty:TypeId):(Builtin.len_ #[To] ty #[v]).run P w= .ok (.int .i64 l.length) w:=by
 have h:=(hp.get k hk)
 rw[←cO.lens h]
 exact aC.len h.tbl 0 rfl ht w ty
theorem cO.hdr (hp:Hp Z ρ L w) (k:Nat) (hk:L[k]?=some (cO T Ti v us l)) (ht:SlTy P To T 1 bytes) {i:Int} {r:List α} (hi:idx l i=some r):
  ∃(u:Sl) (g off:Nat),idx us i=some u∧(∀w,(Instr.indexAt To v (.int .i64 i)).run P w= .ok (.pointer (some ⟨g,off,none⟩)) w)∧(∃of0 cap,v= .slice (some ⟨g,of0,none⟩) us.length cap∧off=of0+i.toNat*1)∧
   ∀(j:Nat) (x:Value),[u.v][j]?=some x→∀ρ' L' w,Hp Z ρ' (cO T Ti v us l::L') w→w.cell? ⟨g,off+j,none⟩=some x:=by
 have h:=(hp.get k hk)
 obtain⟨i0,i1,i2⟩:=pG hi
 have hl:=cO.lens h
 have hu:idx us i=some us[i.toNat]:=by unfold idx;rw[if_pos i0];exact List.getElem?_eq_getElem (by omega)
 obtain⟨g,off,e1,e2,e3⟩:=aC.at h.tbl 0 rfl ht hu
 exact⟨_,g,off,hu,e1,e2,fun j x hx ρ' L' w hw=>e3 j x hx _ _ w hw.tbl⟩
theorem cO.focus (hp:Hp Z ρ L w) (k:Nat) (hk:L[k]?=some (cO T Ti v us l)) {i:Int} {u:Sl} {r:List α} (hu:idx us i=some u) (hi:idx l i=some r):
  Hp Z ρ (aC Ti u.v r::gY Ti (us.eraseIdx i.toNat) (l.eraseIdx i.toNat)::aC T v us::L.eraseIdx k) w:=
 (hp.get k hk).tbl.to fun s=>(gY.take i.toNat (pG hu).2.2 (pG hi).2.2).1 s.swap
theorem cO.rlen (hp:Hp Z ρ L w) (k:Nat) (hk:L[k]?=some (cO T Ti v us l)) (ht:SlTy P Tr Ti (Enc.sz α) bytes) {i:Int} {u:Sl} {r:List α} (hu:idx us i=some u) (hi:idx l i=some r) (w:World) (ty:TypeId):(Builtin.len_ #[Tr] ty #[u.v]).run P w= .ok (.int .i64 r.length) w:=
 aC.len (cO.focus hp k hk hu hi) 0 rfl ht w ty
theorem cO.at (hp:Hp Z ρ L w) (k:Nat) (hk:L[k]?=some (cO T Ti v us l)) (ht:SlTy P Tr Ti (Enc.sz α) bytes) {i j:Int} {u:Sl} {r:List α} {e:α} (hu:idx us i=some u) (hi:idx l i=some r) (hj:idx r j=some e):
  ∃g off,(∀w,(Instr.indexAt Tr u.v (.int .i64 j)).run P w= .ok (.pointer (some ⟨g,off,none⟩)) w)∧(∃of0 cap,u.v= .slice (some ⟨g,of0,none⟩) r.length cap∧off=of0+j.toNat*Enc.sz α)∧∀(j:Nat) (x:Value),(Enc.enc e)[j]?=some x→∀ρ' L' w,Hp Z ρ' (cO T Ti v us l::L') w→w.cell? ⟨g,off+j,none⟩=some x:=by
 obtain⟨g,off,e1,e2,e3⟩:=aC.at (cO.focus hp k hk hu hi) 0 rfl ht hj
 exact⟨g,off,e1,e2,fun j x hx ρ' L' w hw=>e3 j x hx _ _ w (cO.focus hw 0 rfl hu hi)⟩
theorem set_self {β:Type} {l:List β} {i:Nat} {x:β} (h:l[i]?=some x):l.set i x=l:=by
 apply List.ext_getElem?
 intro j
 rw[List.getElem?_set]
 split
 ·rename_i e;subst e;rw[if_pos (List.getElem?_eq_some_iff.1 h).1,h]
 rfl
theorem cO.unfocus (k:Nat) (hk:L[k]?=some (cO T Ti v us l)) {i:Int} {u:Sl} {r r':List α} (hu:idx us i=some u) (hi:idx l i=some r)
  (hp:Hp Z ρ (aC Ti u.v r'::gY Ti (us.eraseIdx i.toNat) (l.eraseIdx i.toNat)::aC T v us::L.eraseIdx k) w):Hp Z ρ (L.set k (cO T Ti v us (l.set i.toNat r'))) w:=by
 obtain⟨_,hui,hus⟩:=pG hu
 obtain⟨_,hli,hls⟩:=pG hi
 refine Hp.put k (List.getElem?_eq_some_iff.1 hk).1 ((hp.to fun s=>Sep.swap ?_).tblShut)
 refine(gY.take (us:=us) (l:=l.set i.toNat r') (r:=r') i.toNat hus (by rw[List.getElem?_set_self (by omega)])).2 ?_
 have e2:(l.set i.toNat r').eraseIdx i.toNat=l.eraseIdx i.toNat:=List.eraseIdx_set_eq
 rw[e2];exact s
theorem J5 (wk:Region.wanted o (yielded ops a.tmps)=true) (hd:o.dst=none) (hE:EnvD Df N E a) (hp:Hp Z ρ L w) {Tx:TypeId} {x y:Operand} (ho:o.op= .store Tx x y) {g off off':Nat} (hx:evo E x=some (.pointer (some ⟨g,off',none⟩))) {z:Value} (hy:evo E y=some z) (k:Nat) (hk:L[k]?=some (cO T Ti v us l))
  {i j:Int} {u:Sl} {r:List α} {e:α} (hu:idx us i=some u) (hi:idx l i=some r) (hj:idx r j=some e) (hv:∃of0 cap,u.v= .slice (some ⟨g,of0,none⟩) r.length cap∧off=of0+j.toNat*Enc.sz α) (q:Nat) {e':α} (ht:∀w,(sizeOf Tx).run P w= .ok 1 w) (hoff:off'=off+q) (hc:z.cells= #[z]) (h1:z.oneCell'=true) (he:(Enc.enc e).set q z=Enc.enc e'∧Nat.blt q (Enc.sz α)=true)
  (K:∀w,Hp Z ρ (L.set k (cO T Ti v us (l.set i.toNat (r.set j.toNat e')))) w→wpL Rn P ops Q rest a w):wpL Rn P ops Q (o::rest) a w:=
 zF wk hd hE (cO.focus hp k hk hu hi) ho hx hy 0 rfl hj hv q ht hoff hc h1 he fun w hw=>K w (cO.unfocus k hk hu hi hw)
theorem s_tput (wk:Region.wanted o (yielded ops a.tmps)=true) (hd:o.dst=none) (hE:EnvD Df N E a) {ur:Sl} {vr:Value} (he:ur.v=vr) {r':List α} (hp:Hp Z ρ (aC Ti vr r'::L) w) {Tx:TypeId} {x y:Operand} (ho:o.op= .store Tx x y) {g off:Nat} (hx:evo E x=some (.pointer (some ⟨g,off,none⟩))) (hy:evo E y=some vr) (k:Nat) (hk:L[k]?=some (cO T Ti v us l))
  {i:Int} {u:Sl} {r:List α} (hu:idx us i=some u) (hi:idx l i=some r) (hv:∃of0 cap,v= .slice (some ⟨g,of0,none⟩) us.length cap∧off=of0+i.toNat*1) (ht:∀w,(sizeOf Tx).run P w= .ok 1 w)
  (K:∀w,Hp Z ρ (L.set k (cO T Ti v (us.set i.toNat ur) (l.set i.toNat r'))) w→wpL Rn P ops Q rest a w):wpL Rn P ops Q (o::rest) a w:=by
 subst he
 have h0:Hp Z ρ (aC T v us::aC Ti ur.v r'::gY Ti us l::L.eraseIdx k) w:=(Hp.tbl (hp.get (k+1) (A:=cO T Ti v us l) (by simpa using hk))).to fun s=>Sep.cons_mono (fun ρ h=>Sep.swap) s
 refine zF wk hd hE h0 ho hx hy 0 rfl hu hv 0 ht rfl ur.cells ur.one ⟨rfl,rfl⟩ fun w hw=>K w ?_
 refine Hp.put k (List.getElem?_eq_some_iff.1 hk).1 (Hp.tblShut (hw.to fun s=>?_))
 refine Sep.cons_mono (fun ρ h s=>?_) s
 obtain⟨_,hui,hus⟩:=pG hu
 obtain⟨_,hli,hls⟩:=pG hi
 refine(gY.take (us:=us.set i.toNat ur) (l:=l.set i.toNat r') (u:=ur) (r:=r') i.toNat (by rw[List.getElem?_set_self (by omega)]) (by rw[List.getElem?_set_self (by omega)])).2 ?_
 rw[List.eraseIdx_set_eq,List.eraseIdx_set_eq]
 exact Sep.cons_mono (fun ρ h s=>Sep.drop ((gY.take i.toNat hus hls).1 s)) s
theorem s_tmake (wk:Region.wanted o (yielded ops a.tmps)=true) (hd:o.dst=some d) (hN:Nat.blt d N=true) (hE:EnvD Df N E a) (hp:Hp Z ρ L w) {x y:Operand} (ho:o.op= .makeSlice To x y) (hu:P.underlying To=some (.slice T))
  (hi:(P.info? T).map (fun i=>(i.zero.map Value.cells,i.size,i.bytes))=some (some #[.slice none 0 0],1,bytes)) (hby:Nat.ble bytes 16384=true) {k k':IntKind} {n c:Int} (hx:evo E x=some (.int k n)) (hy:evo E y=some (.int k' c)) {r:List (List α)} (hr:mkc n c ([]:List α)=some r) (Ti:TypeId)
  (K:∀v us a w,EnvD Df N ((d,v)::E) a→Hp Z ρ (cO T Ti v us r::L) w→wpL Rn P ops Q rest a w):wpL Rn P ops Q (o::rest) a w:=by
 obtain⟨h0,h1,h2,rfl⟩:=mkc_some hr
 refine aF4 (α:=Sl) wk hd hN hE hp ho hu Sl.nil hi hby hx hy (r:=List.replicate n.toNat Sl.nil) (by unfold mkc;rw[if_pos ⟨h0,h1,h2⟩]) fun v a w hE hp=>K v _ a w hE (Hp.tblShut (hp.to fun s=>Sep.cons_mono (fun ρ h s=>gY.nils _ s) s))
theorem cO.none (T Ti:TypeId) (A:Option Addr):cO T Ti (.slice A 0 0) [] ([]:List (List α)) PH.emp:=
 ⟨PH.emp,PH.emp,aC.nilA T A,rfl,PH.dj_emp _,by funext b;rfl⟩
theorem gY.at_:∀{us:List Sl} {l:List (List α)} {k:PH} (i:Nat) {u:Sl} {r:List α},gY Ti us l k→us[i]?=some u→l[i]?=some r→∃k',aC Ti u.v r k'∧k'.le k
 | [],_,_,i,_,_,_,h1,_=>by simp at h1
 |_::_,[],_,i,_,_,h,_,_=>h.elim
 |u0::us,r0::l,k,0,u,r,h,h1,h2=>by
  obtain⟨k1,k2,ha,hb,d,rfl⟩:=h
  simp only[List.getElem?_cons_zero,Option.some.injEq] at h1 h2
  subst h1 h2
  exact⟨k1,ha,PH.le_un _ _⟩
 |u0::us,r0::l,k,i+1,u,r,h,h1,h2=>by
  obtain⟨k1,k2,ha,hb,d,rfl⟩:=h
  obtain⟨k',h3,h4⟩:=gY.at_ i hb (by simpa using h1) (by simpa using h2)
  exact⟨k',h3,h4.tr (PH.le_un_r d)⟩
theorem cO.ro {k:PH} (d:ρ.dj k) (h:cO T Ti v us l k):aH (ρ.un k) v l:=by
 obtain⟨k1,k2,ha,hb,d2,rfl⟩:=h
 have hl:us.length=l.length:=gY.len (ρ:=k1) (h:=k1.un k2) (L:=[]) ⟨k2,hb,d2,PH.le.rf _⟩
 have d12:=PH.dj_un.1 d.symm
 obtain⟨A,c,e1,e2,e3⟩:=aC.ro d12.1.symm ha
 refine⟨A,c,by rw[←hl];exact e1,by rw[←hl];exact e2,fun i r hi=>?_⟩
 have hlt:=(List.getElem?_eq_some_iff.1 hi).1
 obtain⟨b,o,cs,h1,h2,h3⟩:=e3 i us[i] (List.getElem?_eq_getElem (by omega))
 obtain⟨k',h4,h5⟩:=gY.at_ i hb (List.getElem?_eq_getElem (by omega)) hi
 have hk:k'.le (ρ.un (k1.un k2)):=h5.tr ((PH.le_un_r d2).tr (PH.le_un_r d))
 refine⟨b,o,cs,h1,⟨us[i].v,h2,?_⟩,h3.mono (by rw[←PH.un_assoc];exact PH.le_un _ _)⟩
 have h6:aH (PH.emp.un k') us[i].v r:=aC.ro (PH.dj_emp k').symm h4
 exact h6.mono (by
  have:PH.emp.un k'=k':=by funext x;rfl
  rw[this];exact hk)
theorem cO.lend (hp:Hp Z ρ L w) (k:Nat) (hk:L[k]?=some (cO T Ti v us l)) {i:Int} {u:Sl} {r:List α} (hu:idx us i=some u) (hi:idx l i=some r):
  ∃κ,aH (ρ.un κ) u.v r∧Hp Z (ρ.un κ) (gY Ti (us.eraseIdx i.toNat) (l.eraseIdx i.toNat)::aC T v us::L.eraseIdx k) w∧
   ∀w,Hp Z (ρ.un κ) (gY Ti (us.eraseIdx i.toNat) (l.eraseIdx i.toNat)::aC T v us::L.eraseIdx k) w→Hp Z ρ L w:=by
 obtain⟨κ,ha,hd,h⟩:=(cO.focus hp k hk hu hi).lend
 refine⟨κ,aC.ro hd ha,h,fun w hw=>?_⟩
 have:=cO.unfocus k hk hu hi (Hp.back ha hd hw)
 rw[set_self (pG hi).2.2,set_same hk] at this
 exact this
end
section
variable {Rn:Option Nat} {P:Program} {fn:Func} {R:Ending→World→Prop} {a:Act} {w:World} {Df:List Deferred} {N:Nat} {E:Ent}
theorem aB2 (hE:Env N E a) (hr:fn.results= #[]) (h:R (.returned (.tuple #[])) w):bodyPost P fn R .normal a w:=
 ⟨hE.defers,_,by simp[results,hr],h⟩
theorem ret0 (hE:Env N E a) (hr:fn.results= #[]) (h:R (.returned (.tuple #[])) w):bodyPost P fn R .ret a w:=
 ⟨hE.defers,_,by simp[results,hr],h⟩
theorem aG6 {T:TypeId} {cs:List Value} (ht:VarTy P T true cs.length) {b o:Nat} {w:World} (h:∀j u,cs[j]?=some u→w.cell? ⟨b,o+j,none⟩=some u):(loadVar T ⟨b,o,none⟩).run P w= .ok (.agg cs.toArray) w:=by
 have:=run_loadCells_list (P:=P) (w:=w) ⟨b,o,none⟩ cs (fun j v hj=>by rw[Addr.add_lit];exact h j v hj)
 simp[loadVar,ht.agg_ w,ht.size_ w,this]
theorem retc1 (hE:Env N E a) {t:Nat} {T:TypeId} (hr:fn.results= #[.cell t T]) {p:Addr} (hv:lk E t=some (.pointer (some p))) {v:Value} (hl:(loadVar T p).run P w= .ok v w) (h:R (.returned v) w):bodyPost P fn R .ret a w:=by
 refine⟨hE.defers,v,?_,h⟩
 have:=hE.val t _ hv
 simp[results,hr,Array.getD_eq_getD_getElem?,this,asAddr,hl]
end
abbrev Facts:=List (List Nat×(World→Prop))
def alive (G:List Nat) (listed:Array Bool):Bool:=G.all fun g=> !listed.getD g true
def invV:Facts→Array Bool→World→Prop
 | [],_,_=>True
 |p::r,listed,w=>(alive p.1 listed=true→p.2 w)∧invV r listed w
theorem invV.get {listed:Array Bool} {w:World} {G:List Nat} {C:World→Prop}:∀{F:Facts} (n:Nat),F[n]?=some (G,C)→alive G listed=true→invV F listed w→C w
 | [],_,h,_,_=>by simp at h
 |p::r,0,h,ha,hi=>by
  simp only[List.getElem?_cons_zero,Option.some.injEq] at h
  subst h
  exact hi.1 ha
 |p::r,n+1,h,ha,hi=>invV.get (F:=r) n (by simpa using h) ha hi.2
theorem alive_set {G:List Nat} {listed:Array Bool} {i:Nat} (h:alive G (listed.setIfInBounds i true)=true):alive G listed=true:=by
 unfold alive at*
 rw[List.all_eq_true] at*
 intro g hg
 have:=h g hg
 by_cases e:i=g
 ·subst e
  rcases Nat.lt_or_ge i listed.size with h'|h'
  ·simp[h'] at this
  simp[Array.getElem?_eq_none h'] at this
 rw[getD_set_ne true e] at this;exact this
theorem invV.weak {listed:Array Bool} {w:World} {i:Nat}:∀{F:Facts},invV F listed w→invV F (listed.setIfInBounds i true) w
 | [],h=>trivial
 |p::r,h=>⟨fun ha=>h.1 (alive_set ha),invV.weak h.2⟩
def Y6:Facts→Nat→Bool
 | [],_=>true
 |p::r,i=> !p.1.contains i&&Y6 r i
theorem alive_of_set {G:List Nat} {listed:Array Bool} {i:Nat} (hc:G.contains i=false) (h:alive G listed=true):alive G (listed.setIfInBounds i true)=true:=by
 unfold alive at*
 rw[List.all_eq_true] at*
 intro g hg
 have hne:i≠g:=fun e=>by
  subst e
  have:G.contains i=true:=by simpa using hg
  rw[hc] at this;cases this
 rw[getD_set_ne true hne];exact h g hg
theorem invV.back {listed:Array Bool} {w:World} {i:Nat}:∀{F:Facts},Y6 F i=true→invV F (listed.setIfInBounds i true) w→invV F listed w
 | [],_,_=>trivial
 |p::r,hn,h=>by
  simp only[Y6,Bool.and_eq_true,Bool.not_eq_true'] at hn
  exact⟨fun ha=>h.1 (alive_of_set hn.1 ha),invV.back hn.2 h.2⟩
section
variable {Rn:Option Nat} {P:Program} {ops:Array Oper} {Q:Exit→Act→World→Prop} {md:Region.Mode} {F:Facts}
def mX (P:Program) (md:Region.Mode) (ops:Array Oper) (Q:Exit→Act→World→Prop) (F:Facts):Nat→Array Bool→Act→World→Prop
 |0,listed,a,w=>Region.ready md ops listed=[]∧Q .normal a w
 |fuel+1,listed,a,w=>
  (Region.ready md ops listed=[]→Q .normal a w)∧
  ∀i∈Region.ready md ops listed,wpOp P ops Q i (fun a' w'=>invV F (listed.setIfInBounds i true) w'∧mX P md ops Q F fuel (listed.setIfInBounds i true) a' w') a w
theorem wpAny_of_V:∀(fuel:Nat) (listed:Array Bool) (a:Act) (w:World),mX P md ops Q F fuel listed a w→wpAny P md ops Q fuel listed a w
 |0,_,_,_,h=>h
 |fuel+1,_,_,_,h=>⟨h.1,fun i hi=>wpOp_mono (fun a' w' h'=>wpAny_of_V fuel _ a' w' h'.2) (h.2 i hi)⟩
def waits (md:Region.Mode) (ops:Array Oper) (G:List Nat) (i:Nat):Bool:=G.all fun g=>match ops[g]? with|some o=>o.after.any fun e=>Region.binds md e&&e.on==i|none=>false
theorem waits_spec {G:List Nat} {i:Nat} (h:waits md ops G i=true) {g:Nat} (hg:g∈G):∃o,ops[g]?=some o∧∃e∈o.after,Region.binds md e=true∧e.on=i:=by
 have h1:=List.all_eq_true.1 h g hg
 cases ho:ops[g]? with
 |none=>simp[ho] at h1
 |some o=>
  simp only[ho] at h1
  obtain⟨e,he,hb⟩:=Array.any_eq_true'.1 h1
  simp only[Bool.and_eq_true,beq_iff_eq] at hb
  exact⟨o,rfl,e,he,hb.1,hb.2⟩
theorem aK2 {i:Nat} {oi:Oper} {v:Value} (hi:ops[i]?=some oi) (hsel:∀(j:Nat) (o:Oper) cs b,ops[j]?=some o→o.op≠ .select cs b)
  (hQ:∀c a w,Q (.panic c) (a.put oi.dst v) w→Q (.panic c) a w) {n:Nat} {G:List Nat} {C:World→Prop} (hn:F[n]?=some (G,C)) (hG:waits md ops G i=true) (hN:Y6 F i=true):
  ∀(fuel:Nat) (listed:Array Bool) (a:Act) (w:World),
   (∀j oj,ops[j]?=some oj→j≠i→listed.getD j true=false→(∀e∈oj.after,Region.binds md e=true→e.on≠i)→oi.apart ops oj=true)→
   i∈Region.ready md ops listed→YieldsIf P ops C oi v a→alive G listed=true→invV F listed w→
   mX P md ops Q F fuel (listed.setIfInBounds i true) (a.put oi.dst v) w→mX P md ops Q F (fuel+1) listed a w:=by
 intro fuel
 induction fuel with
 |zero=>
  intro listed a w _ hr hy ha hS H
  refine⟨fun h=>(by rw[h] at hr;cases hr),fun j hj=>?_⟩
  by_cases hji:j=i
  ·subst hji;exact hy.wpOp hi (hS.get n hn ha) ⟨hS.weak,H⟩
  have:=ready_mono hj hji
  rw[H.1] at this
  cases this
 |succ fuel ih=>
  intro listed a w hfree hr hy ha hS H
  refine⟨fun h=>(by rw[h] at hr;cases hr),fun j hj=>?_⟩
  by_cases hji:j=i
  ·subst hji;exact hy.wpOp hi (hS.get n hn ha) ⟨hS.weak,H⟩
  have h1:=H.2 j (ready_mono hj hji)
  obtain⟨hjun,oj,hoj,hall⟩:=mem_ready.1 hj
  have hnot:∀e∈oj.after,Region.binds md e=true→e.on≠i:=fun e he hb heq=>by
   have h1:=hall e he hb
   have h0:=(mem_ready.1 hr).1
   rw[heq] at h1
   rcases Nat.lt_or_ge i listed.size with h'|h'
   ·simp[h'] at h0 h1;rw[h0] at h1;cases h1
   simp[Array.getElem?_eq_none h'] at h1
  have hjG:j∉G:=fun hm=>by
   obtain⟨o,ho,e,he,hb,heq⟩:=waits_spec hG hm
   rw[hoj] at ho
   obtain rfl:=Option.some.inj ho
   exact hnot e he hb heq
  have ha':alive G (listed.setIfInBounds j true)=true:=by
   unfold alive at*
   rw[List.all_eq_true] at*
   intro g hg
   have hne:j≠g:=fun e=>hjG (e▸hg)
   rw[getD_set_ne true hne];exact ha g hg
  have h2:=wpOp_putIf hoj (hfree j oj hoj hji hjun hnot) (fun cs b=>hsel i oi cs b hi) (fun cs b=>hsel j oj cs b hoj) hQ hy h1
  have hfree':∀k ok,ops[k]?=some ok→k≠i→(listed.setIfInBounds j true).getD k true=false→
    (∀e∈ok.after,Region.binds md e=true→e.on≠i)→oi.apart ops ok=true:=fun k ok hk hki hun hno=>by
   refine hfree k ok hk hki ?_ hno
   by_cases hjk:j=k
   ·subst hjk;exact hjun
   rw[getD_set_ne true hjk] at hun;exact hun
  refine wpOp_mono (fun a' w' h3=>?_) h2
  obtain⟨hy',hinv,hrest⟩:=h3
  rw[Array.setIfInBounds_comm _ _ (Ne.symm hji)] at hinv hrest
  have hinv':invV F (listed.setIfInBounds j true) w':=invV.back hN hinv
  refine⟨hinv',ih (listed.setIfInBounds j true) a' w' hfree' (ready_mono hr (Ne.symm hji)) hy' ha' hinv' ?_⟩
  exact hrest
end
section
variable {Rn:Option Nat} {P:Program} {ops:Array Oper} {a:Act} {w:World} {Df:List Deferred} {N:Nat} {E:Ent} {d:Nat} {J:Act→World→Prop} {fuel:Nat} {listed:Array Bool} {o:Oper} {F:Facts}
theorem fG {Q:Exit→Act→World→Prop} {cs:List Code} {id:Nat} {l:List Oper} (F:Facts) (J:Act→World→Prop) (hm:P.follows .mixedOrders=true) (h0:invV F (Array.replicate l.length false) w.drew)
  (h:invV F (Array.replicate l.length false) w.drew→mX P .any l.toArray (QJ J) F l.length (Array.replicate l.length false) a w.drew) (hk:∀a w,J a w→wpK none P Q cs a w):wpK none P Q (.region id l.toArray true::cs) a w:=by
 have h1:(Code.region id l.toArray true).wp P (QJ J) a w:=wp_region_any hm (by simpa using wpAny_of_V _ _ _ _ (h h0))
 exact wpIn_wide.2 <| Code.wp_mono (fun e a w q=>by
  cases e with
  |normal=>exact hk a w q
  |_=>exact q.elim) h1
def At0 (Z:World) (ρ:PH):World→Prop:=fun w=>∃L,Hp Z ρ L w
def At1 (Z:World) (ρ:PH) (A:bK):World→Prop:=fun w=>∃L,Hp Z ρ (A::L) w
variable {Z:World} {ρ:PH} {A:bK}
theorem v_take (i n:Nat) {G:List Nat} {C:World→Prop} (wk:Region.wanted o (yielded ops a.tmps)=true) (hi:ops[i]?=some o) (hd:o.dst=some d) (hN:Nat.blt d N=true) (hE:EnvD Df N E a) (hs:Region.noSelect ops=true) (hf:Region.free .any ops listed i=true) (hr:(Region.ready .any ops listed).contains i=true)
  (hn:F[n]?=some (G,C)) (hG:(waits .any ops G i&&alive G listed&&Y6 F i)=true) (hS:invV F listed w) {v:Value} (hx:Ex P C a o v)
  (K:∀a,EnvD Df N ((d,v)::E) a→invV F (listed.setIfInBounds i true) w→mX P .any ops (QJ J) F fuel (listed.setIfInBounds i true) a w):mX P .any ops (QJ J) F (fuel+1) listed a w:=by
 simp only[Bool.and_eq_true] at hG
 exact aK2 hi (Region.noSelect_spec hs) (fun _ _ _ q=>q.elim) hn hG.1.1 hG.2 fuel listed a w (Region.free_spec hi hf) (by simpa using hr) (Or.inl ⟨wk,hx⟩) hG.1.2 hS (by rw[hd];exact K _ (hE.put hN v) hS.weak)
theorem v_take0 (i:Nat) (wk:Region.wanted o (yielded ops a.tmps)=true) (hi:ops[i]?=some o) (hd:o.dst=some d) (hN:Nat.blt d N=true) (hE:EnvD Df N E a) (hs:Region.noSelect ops=true) (hf:Region.free .any ops listed i=true) (hr:(Region.ready .any ops listed).contains i=true)
  (hn:F[0]?=some ([],At0 Z ρ)) (hG:(waits .any ops [] i&&alive [] listed&&Y6 F i)=true) (hS:invV F listed w) {v:Value} (hx:∀L,Ex P (Hp Z ρ L) a o v)
  (K:∀a,EnvD Df N ((d,v)::E) a→invV F (listed.setIfInBounds i true) w→mX P .any ops (QJ J) F fuel (listed.setIfInBounds i true) a w):mX P .any ops (QJ J) F (fuel+1) listed a w:=
 v_take i 0 wk hi hd hN hE hs hf hr hn hG hS (fun w ⟨L,hw⟩=>hx L w hw) K
theorem v_take1 (i n:Nat) {G:List Nat} (wk:Region.wanted o (yielded ops a.tmps)=true) (hi:ops[i]?=some o) (hd:o.dst=some d) (hN:Nat.blt d N=true) (hE:EnvD Df N E a) (hs:Region.noSelect ops=true) (hf:Region.free .any ops listed i=true) (hr:(Region.ready .any ops listed).contains i=true)
  (hn:F[n]?=some (G,At1 Z ρ A)) (hG:(waits .any ops G i&&alive G listed&&Y6 F i)=true) (hS:invV F listed w) {v:Value} (hx:∀L,Ex P (Hp Z ρ (A::L)) a o v)
  (K:∀a,EnvD Df N ((d,v)::E) a→invV F (listed.setIfInBounds i true) w→mX P .any ops (QJ J) F fuel (listed.setIfInBounds i true) a w):mX P .any ops (QJ J) F (fuel+1) listed a w:=
 v_take i n wk hi hd hN hE hs hf hr hn hG hS (fun w ⟨L,hw⟩=>hx L w hw) K
theorem v_skip (i:Nat) (wk:Region.wanted o (yielded ops a.tmps)=false) (hi:ops[i]?=some o) (hd:o.dst=some d) (hN:Nat.blt d N=true) (hE:EnvD Df N E a) (hs:Region.noSelect ops=true) (hf:Region.free .any ops listed i=true) (hr:(Region.ready .any ops listed).contains i=true)
  (hn:F[0]?=some ([],At0 Z ρ)) (hG:Y6 F i=true) (hS:invV F listed w)
  (K:∀a,EnvD Df N ((d,undef)::E) a→invV F (listed.setIfInBounds i true) w→mX P .any ops (QJ J) F fuel (listed.setIfInBounds i true) a w):mX P .any ops (QJ J) F (fuel+1) listed a w:=
 aK2 hi (Region.noSelect_spec hs) (fun _ _ _ q=>q.elim) hn rfl hG fuel listed a w (Region.free_spec hi hf) (by simpa using hr) (Or.inr ⟨wk,rfl⟩) rfl hS (by rw[hd];exact K _ (hE.put hN undef) hS.weak)
theorem aF {p q:Prop} (h:p) (k:p→q):p∧q:=⟨h,k h⟩
theorem gW (rs:List Nat) (hr:Region.ready .any ops listed=rs) (hne:rs.isEmpty=false) (h:∀i∈rs,wpOp P ops (QJ J) i (fun a' w'=>invV F (listed.setIfInBounds i true) w'∧mX P .any ops (QJ J) F fuel (listed.setIfInBounds i true) a' w') a w):mX P .any ops (QJ J) F (fuel+1) listed a w:=
 ⟨fun h0=>absurd (hr▸h0) (by intro e;rw[e] at hne;cases hne),hr▸h⟩
theorem bP (hr:Region.ready .any ops listed=[]) (h:J a w):mX P .any ops (QJ J) F fuel listed a w:=by
 cases fuel with
 |zero=>exact⟨hr,h⟩
 |succ n=>exact⟨fun _=>h,by rw[hr];simp⟩
theorem dead {G:List Nat} {p:Prop} (h:alive G listed=false):alive G listed=true→p:=fun e=>by rw[h] at e;cases e
end
structure RFlat where
 kinds:List Int
 texts:List ByteArray
 left:List Int
 numbers:List Int
structure Lbl where
 kind:Int
 text:ByteArray
deriving DecidableEq
instance:Vl Lbl:=⟨fun a=> .agg #[.int .i64 a.kind,.string a.text]⟩
instance:Enc Lbl:=⟨2,fun a=>[.int .i64 a.kind,.string a.text],fun _=>rfl,fun a v h=>by
 simp at h;rcases h with rfl|rfl<;>rfl,by decide⟩
structure DFlat where
 labels:List Lbl
 left:List Int
 numbers:List Int
structure Opn where
 a:Int
 b:Int
deriving DecidableEq
instance:Vl Opn:=⟨fun a=> .agg #[.int .i64 a.a,.int .i64 a.b]⟩
instance:Enc Opn:=⟨2,fun a=>[.int .i64 a.a,.int .i64 a.b],fun _=>rfl,fun a v h=>by
 simp at h;rcases h with rfl|rfl<;>rfl,by decide⟩
structure Chg where
 op:Int
 node:Int
 index:Int
 count:Int
 kind:Int
 text:ByteArray
deriving DecidableEq
instance:Vl Chg:=⟨fun a=> .agg #[.int .i64 a.op,.int .i64 a.node,.int .i64 a.index,.int .i64 a.count,.int .i64 a.kind,.string a.text]⟩
instance:Enc Chg:=⟨6,fun a=>[.int .i64 a.op,.int .i64 a.node,.int .i64 a.index,.int .i64 a.count,.int .i64 a.kind,.string a.text],fun _=>rfl,fun a v h=>by
 simp at h;rcases h with rfl|rfl|rfl|rfl|rfl|rfl<;>rfl,by decide⟩
structure Span where
 kind:Int
 text:ByteArray
 last:Int
 parent:Int
deriving DecidableEq
instance:Vl Span:=⟨fun a=> .agg #[.int .i64 a.kind,.string a.text,.int .i64 a.last,.int .i64 a.parent]⟩
instance:Enc Span:=⟨4,fun a=>[.int .i64 a.kind,.string a.text,.int .i64 a.last,.int .i64 a.parent],fun _=>rfl,fun a v h=>by
 simp at h;rcases h with rfl|rfl|rfl|rfl<;>rfl,by decide⟩
structure Nmb where
 nodes:List Node
 sizes:List Int
 parent:List Int
structure Alg where
 a:Nmb
 b:Nmb
 orderA:List Int
 leftA:List Int
 orderB:List Int
 leftB:List Int
 distances:List (List Int)
 partner:List Int
 back:List Int
section
variable {P:Program} {C:World→Prop} {a:Act} {o:Oper} {Df:List Deferred} {N:Nat} {E:Ent}
theorem ex_min3 {t:Array TypeId} {x y z:Operand} (ho:o.op= .call {callee:= .builtin .min,args:= #[x,y,z],argTypes:=t}) (hE:EnvD Df N E a) {k:IntKind} {l m n:Int} (hx:evo E x=some (.int k l)) (hy:evo E y=some (.int k m)) (hz:evo E z=some (.int k n)):Ex P C a o (.int k (min (min l m) n)):=fun w hw=>by
 simp only[execOp,ho,resolve,invoke,Sem.run_bind,Sem.run_pure,Result.andThen_ok,List.map_toArray,List.map_cons,List.map_nil,hE.eval hx,hE.eval hy,hE.eval hz]
 have e1:(Builtin.min2 (.int k l) (.int k m)).run P w= .ok (.int k (min l m)) w:=by simp[Builtin.min2];split<;>omega
 have e2:(Builtin.min2 (.int k (min l m)) (.int k n)).run P w= .ok (.int k (min (min l m) n)) w:=by simp[Builtin.min2];split<;>omega
 simp[builtin,Builtin.min_,e1,e2]
end
open Go.ChangeShapes Go.WideShapes Go.ChangeAt Go.RowKit
inductive NodeWf:Node→Prop
 |mk (kind:Int) (text:ByteArray) (at_ fin:Int) (kids:List Node) (h1:I64 kind) (h2:text.size≤maxLen) (h3:I64 at_) (h4:I64 fin) (h5:kids.length≤maxLen) (h6:∀k∈kids,NodeWf k):NodeWf ⟨kind,text,at_,fin,kids⟩
set_option maxRecDepth 100000 in
theorem node_trod {H:Type} {enc:TypeId×Value→H} {w:World} {base:Nat} {spare:Nat→Bool} {held:Bool}:∀(fuel:Nat) {cs:List Value} {x:DataW H×List MemPlace},
  DataW.trod enc Tryz.prog w base spare held fuel 24 cs=some x→∃a:Node,NodeAt (hp w) a cs∧NodeWf a:=by
 intro fuel
 induction fuel using Nat.strongRecOn with
 |_ fuel ih=>
  intro cs x h
  obtain⟨xs,n,rfl,_,hl,hx,hf⟩:=DataW.trod_struct Tryz.underlying24 h
  have hl2:cs.length=5:=hl.trans (by kernel_rfl)
  have hx2:xs.length=5:=hx
  have ki:Tryz.prog.cellsOf 3=1:=by kernel_rfl
  have ks:Tryz.prog.cellsOf 9=1:=by kernel_rfl
  have kl:Tryz.prog.cellsOf 22=1:=by kernel_rfl
  have kn:Tryz.prog.cellsOf 24=5:=by kernel_rfl
  match cs,hl2,xs,hx2 with
  | [c0,c1,c2,c3,c4],_,[y0,y1,y2,y3,y4],_=>
   have z0:=hf 0 _ rfl
   have z1:=hf 1 _ rfl
   have z2:=hf 2 _ rfl
   have z3:=hf 3 _ rfl
   have z4:=hf 4 _ rfl
   simp[ki] at z0 z2 z3
   simp[ks] at z1
   simp[kl] at z4
   obtain⟨n0,e0,_,w0⟩:=DataW.trod_int Tryz.underlying3 z0
   obtain⟨n1,e1,_,w1⟩:=DataW.trod_string Tryz.underlying9 z1
   obtain⟨n2,e2,_,w2⟩:=DataW.trod_int Tryz.underlying3 z2
   obtain⟨n3,e3,_,w3⟩:=DataW.trod_int Tryz.underlying3 z3
   simp only[List.cons.injEq,and_true] at e0 e1 e2 e3
   subst e0 e1 e2 e3
   rcases DataW.trod_slice Tryz.underlying22 z4 with⟨e4,_⟩|⟨a,len,cap,elems,rest,m,rfl,e4,_,hb,hle,hm,hlen,hel,_⟩
   ·simp only[List.cons.injEq,and_true] at e4
    subst e4
    exact⟨⟨n0,n1,n2,n3,[]⟩,NodeAt.shut (aH.nil _),.mk _ _ _ _ _ (I64.of w0) w1 (I64.of w2) (I64.of w3) (by unfold maxLen;simp) (by simp)⟩
   simp only[List.cons.injEq,and_true] at e4
   subst e4
   have key:∀i,i<len→∃z:Node,NodeWf z∧∃b o cs',some a=some ⟨b,o,none⟩∧NodeAt (hp w) z cs'∧AtP (hp w) b (o+i*5) cs':=by
    intro i hi
    have h1:=hel i hi
    rw[List.getElem?_eq_getElem (by omega),kn] at h1
    obtain⟨cs',hc,ht'⟩:=Option.bind_eq_some_iff.1 h1
    obtain⟨_,hcl,hat⟩:=World.cells?_some hc
    obtain⟨z,hz,hw⟩:=ih m (by omega) ht'
    have h0:=hel 0 (by omega)
    rw[List.getElem?_eq_getElem (by omega),kn] at h0
    obtain⟨cs0,hc0,_⟩:=Option.bind_eq_some_iff.1 h0
    obtain⟨_,hcl0,hat0⟩:=World.cells?_some hc0
    have hs0:=hat0 0 (by omega)
    rw[List.getElem?_eq_getElem (by omega)] at hs0
    obtain⟨b,o,sp⟩:=a
    have hsp:sp=none:=by
     cases sp with
     |none=>rfl
     |some s=>
      simp[Addr.add,World.cell?] at hs0
      split at hs0<;>cases hs0
    subst hsp
    refine⟨z,hw,b,o,cs',rfl,hz,fun j u hj=>?_⟩
    have hjl:j<5:=by rw[←hcl];exact(List.getElem?_eq_some_iff.1 hj).1
    have:=hat j hjl
    rw[Addr.add_lit,Addr.add_lit,hj] at this
    unfold World.cell? at this
    simp only[Option.isSome_none,Bool.false_eq_true,if_false] at this
    exact this
   obtain⟨l,hll,hp⟩:=aE6 len key
   refine⟨⟨n0,n1,n2,n3,l⟩,NodeAt.shut ⟨some a,cap,by rw[hll],by rw[hll];exact hle,fun i z hz=>(hp i z hz).2⟩,.mk _ _ _ _ _ (I64.of w0) w1 (I64.of w2) (I64.of w3) (by omega) (fun z hz=>?_)⟩
   obtain⟨i,hi⟩:=List.getElem?_of_mem hz
   exact(hp i z hi).1
theorem reads_node:Reads Tryz.prog 24 Node NodeWf:=⟨by kernel_rfl,by decide,fun h=>node_trod _ h⟩
theorem own_:ownKnob Tryz.prog.godebug=none:=by kernel_rfl
theorem laidOut_:laidOutB Tryz.prog=true:=by kernel_rfl
set_option maxRecDepth 100000 in
theorem reads46:Reads Tryz.prog 46 Opn (fun a:Opn=>I64 a.a∧I64 a.b):=⟨by kernel_rfl,by decide,fun{H enc w base spare held fuel cs x} h=>by
 obtain⟨xs,n,_,_,hl,hx,hf⟩:=DataW.trod_struct Tryz.underlying46 h
 have hl2:cs.length=2:=hl.trans (by kernel_rfl)
 have hx2:xs.length=2:=hx
 have k3:Tryz.prog.cellsOf 3=1:=by kernel_rfl
 match cs,hl2,xs,hx2 with
 | [c0,c1],_,[y0,y1],_=>
  have z0:=hf 0 _ rfl
  simp[k3] at z0
  obtain⟨n0,e0,_,w0⟩:=DataW.trod_int Tryz.underlying3 z0
  have z1:=hf 1 _ rfl
  simp[k3] at z1
  obtain⟨n1,e1,_,w1⟩:=DataW.trod_int Tryz.underlying3 z1
  simp only[List.cons.injEq,and_true] at e0 e1
  subst e0 e1
  exact⟨⟨n0,n1⟩,rfl,I64.of w0,I64.of w1⟩⟩
noncomputable def vF (p0:Node) (p1:Node):Option Bool:=
 some ((decide (p0.kind=p1.kind))&&(decide (p0.text=p1.text)))
noncomputable def uI (p0:Node) (p1:Node) (self:Node→Node→Option Bool) (aP:Int):Option (Step Int (Out Unit Bool)):=
 if(decide (aP<(p0.kids.length:Int)))=true then
  (idx p0.kids aP).bind fun x2=>
  (idx p1.kids aP).bind fun x3=>
  (self x2 x3).bind fun x4=>
  if(!x4)=true then
   some (.done (.ret false))
  else
   (inK .i64 (aP+1)).bind fun x5=>
   some (.next x5)
 else
  some (.done (.brk ()))
noncomputable def rF (self:Node→Node→Option Bool) (p0:Node) (p1:Node):Option Bool:=
 (vF p0 p1).bind fun x1=>
 if((!x1)||(!decide ((p0.kids.length:Int)=(p1.kids.length:Int))))=true then
  some false
 else
  (dV (fun s=>uI p0 p1 self s) 0:Option (Out Unit Bool)).bind fun b3=>
  match b3 with
  | .brk b3s=>
   some true
  | .ret r=>some r
noncomputable def qK:Nat→Node→Node→Option Bool
 |0=>fun _ _=>none
 |n+1=>rF (qK n)
noncomputable def F7 (p0:Node) (p1:Node):Option Bool:=qK (SizeOf.sizeOf p0+1) p0 p1
noncomputable def jF (p0:Node) (self:Node→Int→Option Int) (aP:Int) (aU:Int):Option (Step (Int×Int) Int):=
 if((decide (aU<(p0.kids.length:Int)))&&(decide (0≤aP)))=true then
  (idx p0.kids aU).bind fun x2=>
  (self x2 aP).bind fun x3=>
  (inK .i64 (aU+1)).bind fun x4=>
  some (.next (x3,x4))
 else
  some (.done aP)
noncomputable def oV (self:Node→Int→Option Int) (p0:Node) (p1:Int):Option Int:=
 if((decide (p1<1))||(decide (40<(p0.text.size:Int))))=true then
  some (-1)
 else
  (inK .i64 (p1-1)).bind fun x1=>
  (dV (fun s=>jF p0 self s.1 s.2) (x1,0):Option Int).bind fun b2=>
  some b2
noncomputable def jQ:Nat→Node→Int→Option Int
 |0=>fun _ _=>none
 |n+1=>oV (jQ n)
noncomputable def xI (p0:Node) (p1:Int):Option Int:=jQ (SizeOf.sizeOf p0+1) p0 p1
noncomputable def nO (p0:Node) (p1:Int):Option Bool:=
 (xI p0 p1).bind fun x1=>
 some (decide (0≤x1))
noncomputable def qH (p0:Node) (p1:Node) (p2:Int):Option Bool:=
 (nO p0 p2).bind fun x1=>
 ((if x1=true then
  (nO p1 p2).bind fun x2=>
  some x2
 else
  some false):Option Bool).bind fun m1=>
 some m1
noncomputable def kE (p0:ByteArray):Option Node:=
 some (Node.mk 20 p0 0 0 ([]))
noncomputable def nD (p0:ByteArray) (p1:Node) (p2:Node):Option Node:=
 some (Node.mk 29 p0 0 0 ([p1,p2]:List Node))
noncomputable def uV (p0:(List Node)) (p1:(List Node)) (aP:Int):Option (Step Int (Out Unit Bool)):=
 if(decide (aP<(p0.length:Int)))=true then
  (idx p0 aP).bind fun x1=>
  (idx p1 aP).bind fun x2=>
  (F7 x1 x2).bind fun x3=>
  if(!x3)=true then
   some (.done (.ret false))
  else
   (inK .i64 (aP+1)).bind fun x4=>
   some (.next x4)
 else
  some (.done (.brk ()))
noncomputable def sJ (p0:(List Node)) (p1:(List Node)):Option Bool:=
 if(!decide ((p0.length:Int)=(p1.length:Int)))=true then
  some false
 else
  (dV (fun s=>uV p0 p1 s) 0:Option (Out Unit Bool)).bind fun b1=>
  match b1 with
  | .brk b1s=>
   some true
  | .ret r=>some r
mutual
def bW:Node→Nat
 |⟨_,_,_,_,kids⟩=>1+qI kids
def qI:List Node→Nat
 | []=>0
 |k::l=>bW k+qI l
end
def aC7 (n:Node):Option Int:=if bW n<4611686018427387904 then some (bW n:Int) else none
noncomputable def eY (p0:Nmb) (p1:Int) (p2:Int):Option Bool:=
 ((if(decide (p1<p2))=true then
  (idx p0.sizes p1).bind fun x1=>
  (inK .i64 (p1+x1)).bind fun x2=>
  some (decide (p2<x2))
 else
  some false):Option Bool).bind fun m1=>
 some m1
noncomputable def lK (p0:Node) (p1:Node):Option Bool:=
 some ((decide (p0.kind=p1.kind))&&(decide (p0.text=p1.text)))
noncomputable def oC (p0:Node) (cp0:Nmb) (self:Node→Int→Nmb→Option Nmb) (aP:Int) (aU:(List Node)) (dR:(List Int)) (fQ:(List Int)):Option (Step (Int×(List Node)×(List Int)×(List Int)) ((List Node)×(List Int)×(List Int))):=
 if(decide (aP<(p0.kids.length:Int)))=true then
  (idx p0.kids aP).bind fun x5=>
  (self x5 (cp0.nodes.length:Int) (Nmb.mk aU dR fQ)).bind fun x6=>
  (inK .i64 (aP+1)).bind fun x7=>
  some (.next (x7,x6.nodes,x6.sizes,x6.parent))
 else
  some (.done (aU,dR,fQ))
noncomputable def qX (self:Node→Int→Nmb→Option Nmb) (p0:Node) (p1:Int) (cp0:Nmb):Option Nmb:=
 (app cp0.nodes [p0]).bind fun x1=>
 (aC7 p0).bind fun x2=>
 (app cp0.sizes [x2]).bind fun x3=>
 (app cp0.parent [p1]).bind fun x4=>
 (dV (fun s=>oC p0 cp0 self s.1 s.2.1 s.2.2.1 s.2.2.2) (0,x1,x3,x4):Option ((List Node)×(List Int)×(List Int))).bind fun b18=>
 some (Nmb.mk b18.1 b18.2.1 b18.2.2)
noncomputable def oN:Nat→Node→Int→Nmb→Option Nmb
 |0=>fun _ _ _=>none
 |n+1=>qX (oN n)
noncomputable def zT (p0:Node) (p1:Int) (cp0:Nmb):Option Nmb:=oN (SizeOf.sizeOf p0+1) p0 p1 cp0
noncomputable def jE (p0:Node):Option Nmb:=
 (zT p0 (-1) (Nmb.mk ([]) ([]) ([]))).bind fun x1=>
 some x1
noncomputable def rU (p0:Int) (cp1:Nmb) (self:Int→(List Int)→Nmb→(List Int)→Option ((List Int)×(List Int))) (aP:Int) (aU:(List Int)) (dR:(List Int)):Option (Step (Int×(List Int)×(List Int)) ((List Int)×(List Int))):=
 (idx cp1.sizes p0).bind fun x2=>
 (inK .i64 (p0+x2)).bind fun x3=>
 if(decide (aP<x3))=true then
  (self aP aU cp1 dR).bind fun x4=>
  (idx cp1.sizes aP).bind fun x5=>
  (inK .i64 (aP+x5)).bind fun x6=>
  some (.next (x6,x4.1,x4.2))
 else
  some (.done (aU,dR))
noncomputable def qE (self:Int→(List Int)→Nmb→(List Int)→Option ((List Int)×(List Int))) (p0:Int) (cp0:(List Int)) (cp1:Nmb) (cp3:(List Int)):Option ((List Int)×(List Int)):=
 (inK .i64 (p0+1)).bind fun x1=>
 (dV (fun s=>rU p0 cp1 self s.1 s.2.1 s.2.2) (x1,cp0,cp3):Option ((List Int)×(List Int))).bind fun b1=>
 (app b1.1 [p0]).bind fun x7=>
 (app b1.2 [(cp0.length:Int)]).bind fun x8=>
 some (x7,x8)
noncomputable def oD:Nat→Int→(List Int)→Nmb→(List Int)→Option ((List Int)×(List Int))
 |0=>fun _ _ _ _=>none
 |n+1=>qE (oD n)
noncomputable def yI (p0:Int) (cp0:(List Int)) (cp1:Nmb) (cp3:(List Int)):Option ((List Int)×(List Int)):=oD (cp1.sizes.length+1) p0 cp0 cp1 cp3
noncomputable def qY (p0:Nmb):Option ((List Int)×(List Int)):=
 (yI 0 [] p0 []).bind fun x1=>
 some (x1.1,x1.2)
noncomputable def iZ (p0:(List Bool)) (p1:Bool) (aP:Int):Option (Step Int (Out Unit Int)):=
 if(decide (aP<(p0.length:Int)))=true then
  (idx p0 aP).bind fun x1=>
  if(p1==x1)=true then
   some (.done (.ret aP))
  else
   (inK .i64 (aP+1)).bind fun x2=>
   some (.next x2)
 else
  some (.done (.brk ()))
noncomputable def oI (p0:(List Bool)) (p1:Bool):Option Int:=
 (dV (fun s=>iZ p0 p1 s) 0:Option (Out Unit Int)).bind fun b1=>
 match b1 with
 | .brk b1s=>
  some (-1)
 | .ret r=>some r
noncomputable def jG (p0:(List Bool)) (p1:Bool):Option Bool:=
 (oI p0 p1).bind fun x1=>
 some (decide (0≤x1))
noncomputable def rP (p2:(List Opn)) (x1:Nmb) (aP:Int) (aU:Int) (dR:(List Opn)) (fQ:(List Bool)):Option (Step (Int×Int×(List Opn)×(List Bool)) (Out ((List Opn)×(List Bool)) Bool)):=
 if(decide (aU<(p2.length:Int)))=true then
  (((idx p2 aU).bind fun x4=>
  if((((((!((decide (aU<(x1.nodes.length:Int)))==(decide (0≤x4.a))))||((decide (0≤x4.a))&&(!decide (x4.a=aU))))||((decide (x4.a<0))&&(!decide (x4.a=(-1)))))||(decide (x4.b<(-1))))||(decide ((fQ.length:Int)≤x4.b)))||((decide (x4.a<0))&&(decide (x4.b≤aP))))=true then
   some (.ret false)
  else
   ((if(decide (x4.a<0))=true then
    some x4.b
   else
    some aP):Option Int).bind fun j2=>
   if(decide (x4.b<0))=true then
    some (.brk (j2,dR,fQ))
   else
    (idx fQ x4.b).bind fun x5=>
    if x5=true then
     some (.ret false)
    else
     (idx fQ x4.b).bind fun x6=>
     if(decide (0≤x4.a))=true then
      (app dR [x4]).bind fun x7=>
      some (.brk (j2,x7,fQ.set x4.b.toNat true))
     else
      some (.brk (j2,dR,fQ.set x4.b.toNat true))):Option (Out (Int×(List Opn)×(List Bool)) Bool)).bind fun j1=>
  match j1 with
  | .brk j1s=>
   (inK .i64 (aU+1)).bind fun x8=>
   some (.next (j1s.1,x8,j1s.2.1,j1s.2.2))
  | .ret r=>some (.done (.ret r))
 else
  some (.done (.brk (dR,fQ)))
noncomputable def rQ (x1:Nmb) (x2:Nmb) (x9:Opn) (x10:List Opn) (eQ:Int):Option (Step Int (Out Unit Bool)):=
 if(decide (eQ<(x10.length:Int)))=true then
  (idx x10 eQ).bind fun x11=>
  ((if(decide (x9.b<x11.b))=true then
   (eY x2 x9.b x11.b).bind fun x12=>
   some (!x12)
  else
   some false):Option Bool).bind fun m1=>
  ((if m1=true then
   some true
  else
   (eY x1 x11.a x9.a).bind fun x13=>
   (eY x2 x11.b x9.b).bind fun x14=>
   some (!(x13==x14))):Option Bool).bind fun m2=>
  ((if m2=true then
   some true
  else
   (eY x2 x9.b x11.b).bind fun x15=>
   some x15):Option Bool).bind fun m3=>
  if m3=true then
   some (.done (.ret false))
  else
   (inK .i64 (eQ+1)).bind fun x16=>
   some (.next x16)
 else
  some (.done (.brk ()))
noncomputable def nC (x1:Nmb) (x2:Nmb) (b23s:((List Opn)×(List Bool))) (bJ:Int):Option (Step Int (Out Unit Bool)):=
 if(decide (bJ<(b23s.1.length:Int)))=true then
  (idx b23s.1 bJ).bind fun x9=>
  (sub b23s.1 0 bJ).bind fun x10=>
  (dV (fun s=>rQ x1 x2 x9 x10 s) 0:Option (Out Unit Bool)).bind fun b32=>
  match b32 with
  | .brk b32s=>
   (inK .i64 (bJ+1)).bind fun x17=>
   some (.next x17)
  | .ret r=>some (.done (.ret r))
 else
  some (.done (.brk ()))
noncomputable def qO (p0:Node) (p1:Node) (p2:(List Opn)):Option Bool:=
 (jE p0).bind fun x1=>
 (jE p1).bind fun x2=>
 if(decide ((p2.length:Int)<(x1.nodes.length:Int)))=true then
  some false
 else
  (mkc (x2.nodes.length:Int) (x2.nodes.length:Int) (false:Bool)).bind fun x3=>
  (dV (fun s=>rP p2 x1 s.1 s.2.1 s.2.2.1 s.2.2.2) ((-1),0,[],x3):Option (Out ((List Opn)×(List Bool)) Bool)).bind fun b23=>
  match b23 with
  | .brk b23s=>
   (dV (fun s=>nC x1 x2 b23s s) 0:Option (Out Unit Bool)).bind fun b29=>
   match b29 with
   | .brk b29s=>
    (jG b23s.2 false).bind fun x18=>
    some (!x18)
   | .ret r=>some r
  | .ret r=>some r
noncomputable def sZ (p2:(List Opn)) (x2:Nmb) (x3:Nmb) (aP:Int) (aU:Int):Option (Step (Int×Int) Int):=
 if(decide (aU<(p2.length:Int)))=true then
  (idx p2 aU).bind fun x4=>
  ((if((decide (x4.a<0))||(decide (x4.b<0)))=true then
   some true
  else
   (idx x2.nodes x4.a).bind fun x5=>
   (idx x3.nodes x4.b).bind fun x6=>
   (lK x5 x6).bind fun x7=>
   some (!x7)):Option Bool).bind fun m1=>
  if m1=true then
   (inK .i64 (aP+1)).bind fun x8=>
   (inK .i64 (aU+1)).bind fun x9=>
   some (.next (x8,x9))
  else
   (inK .i64 (aU+1)).bind fun x10=>
   some (.next (aP,x10))
 else
  some (.done aP)
noncomputable def wY (p0:Node) (p1:Node) (p2:(List Opn)):Option (Int×Int):=
 (qO p0 p1 p2).bind fun x1=>
 if(!x1)=true then
  some (0,1)
 else
  (jE p0).bind fun x2=>
  (jE p1).bind fun x3=>
  (dV (fun s=>sZ p2 x2 x3 s.1 s.2) (0,0):Option Int).bind fun b23=>
  some (b23,0)
def m_grow (n:Int):Option (List Chg):=if 0≤n∧n≤4294967296 then some [] else none
noncomputable def fZ (p0:Nmb) (p1:Int) (p2:(List Bool)) (aP:Int) (aU:Int):Option (Step (Int×Int) Int):=
 if(decide (aP<(p2.length:Int)))=true then
  (idx p2 aP).bind fun x3=>
  (idx p0.parent p1).bind fun x4=>
  if(decide (aP=x4))=true then
   (inK .i64 (aU+1)).bind fun x5=>
   some (.done x5)
  else
   ((if x3=true then
    (idx p0.parent p1).bind fun x6=>
    some (decide (0≤x6))
   else
    some false):Option Bool).bind fun m1=>
   if m1=true then
    (inK .i64 (aU+1)).bind fun x7=>
    (inK .i64 (aP+1)).bind fun x8=>
    some (.next (x8,x7))
   else
    (inK .i64 (aP+1)).bind fun x9=>
    some (.next (x9,aU))
 else
  some (.done aU)
noncomputable def fC (p0:Nmb) (p2:(List Bool)) (eQ:Int):Option (Step Int Int):=
 ((if(decide (0≤eQ))=true then
  (idx p2 eQ).bind fun x15=>
  some (!x15)
 else
  some false):Option Bool).bind fun m4=>
 if m4=true then
  (idx p0.parent eQ).bind fun x16=>
  some (.next x16)
 else
  some (.done eQ)
noncomputable def iU (p0:Nmb) (p1:Int) (p2:(List Bool)) (bJ:Int) (dY:Int) (zA:Int):Option (Step (Int×Int×Int) (Int×Int)):=
 if(decide (bJ<(p2.length:Int)))=true then
  (((idx p2 bJ).bind fun x10=>
  ((if(!x10)=true then
   some true
  else
   (idx p0.parent p1).bind fun x11=>
   ((if(decide (0≤x11))=true then
    (idx p0.parent p1).bind fun x12=>
    (eY p0 x12 bJ).bind fun x13=>
    some (!x13)
   else
    some false):Option Bool).bind fun m3=>
   some m3):Option Bool).bind fun m2=>
  if m2=true then
   some (dY,zA)
  else
   (idx p0.parent bJ).bind fun x14=>
   (dV (fun s=>fC p0 p2 s) x14:Option Int).bind fun b18=>
   (idx p0.parent p1).bind fun x17=>
   if(!decide (b18=x17))=true then
    some (dY,zA)
   else
    if(decide (bJ<p1))=true then
     (inK .i64 (dY+1)).bind fun x18=>
     some (x18,zA)
    else
     (eY p0 p1 bJ).bind fun x19=>
     if x19=true then
      (inK .i64 (zA+1)).bind fun x20=>
      some (dY,x20)
     else
      some (dY,zA)):Option (Int×Int)).bind fun j1=>
  (inK .i64 (bJ+1)).bind fun x21=>
  some (.next (x21,j1.1,j1.2))
 else
  some (.done (dY,zA))
noncomputable def kD (p0:Nmb) (p1:Int) (p2:(List Bool)):Option Chg:=
 (idx p0.nodes p1).bind fun x1=>
 (idx p0.nodes p1).bind fun x2=>
 (dV (fun s=>fZ p0 p1 p2 s.1 s.2) (0,(-1)):Option Int).bind fun b9=>
 (dV (fun s=>iU p0 p1 p2 s.1 s.2.1 s.2.2) (0,0,0):Option (Int×Int)).bind fun b13=>
 some (Chg.mk 2 b9 b13.1 b13.2 x1.kind x2.text)
noncomputable def oK (aP:Int) (aU:Int) (dR:(List Chg)):Option (Step (Int×Int×(List Chg)) (List Chg)):=
 if(decide (aP<aU))=true then
  (idx dR aU).bind fun x2=>
  (idx dR aP).bind fun x3=>
  (idx dR aP).bind fun x4=>
  (idx (dR.set aP.toNat x2) aU).bind fun x5=>
  (inK .i64 (aP+1)).bind fun x6=>
  (inK .i64 (aU-1)).bind fun x7=>
  some (.next (x6,x7,(dR.set aP.toNat x2).set aU.toNat x3))
 else
  some (.done dR)
noncomputable def rV (p0:(List Chg)):Option (List Chg):=
 (inK .i64 ((p0.length:Int)-1)).bind fun x1=>
 (dV (fun s=>oK s.1 s.2.1 s.2.2) (0,x1,p0):Option (List Chg)).bind fun b1=>
 some b1
noncomputable def wM (p0:(List (List Chg))) (aP:Int) (aU:Int):Option (Step (Int×Int) Int):=
 if(decide (aU<(p0.length:Int)))=true then
  (idx p0 aU).bind fun x1=>
  (inK .i64 (aP+(x1.length:Int))).bind fun x2=>
  if(decide (x2<0))=true then
   none
  else
   (inK .i64 (aU+1)).bind fun x3=>
   some (.next (x2,x3))
 else
  some (.done aP)
noncomputable def wO (p0:(List (List Chg))) (bJ:Int) (dY:(List Chg)):Option (Step (Int×(List Chg)) (List Chg)):=
 if(decide (bJ<(p0.length:Int)))=true then
  (idx p0 bJ).bind fun x5=>
  (app dY x5).bind fun x6=>
  (inK .i64 (bJ+1)).bind fun x7=>
  some (.next (x7,x6))
 else
  some (.done dY)
noncomputable def tJ (p0:(List (List Chg))):Option (List Chg):=
 (dV (fun s=>wM p0 s.1 s.2) (0,0):Option Int).bind fun b1=>
 (m_grow b1).bind fun x4=>
 (dV (fun s=>wO p0 s.1 s.2) (0,x4):Option (List Chg)).bind fun b3=>
 some b3
noncomputable def nM (p2:(List Opn)) (x2:Nmb) (x3:Nmb) (aP:Int) (aU:(List Chg)) (dR:(List Chg)) (fQ:(List Bool)):Option (Step (Int×(List Chg)×(List Chg)×(List Bool)) ((List Chg)×(List Chg)×(List Bool))):=
 if(decide (aP<(p2.length:Int)))=true then
  (idx p2 aP).bind fun x5=>
  if(decide (x5.b<0))=true then
   (app dR [(Chg.mk 1 x5.a 0 0 0 ByteArray.empty)]).bind fun x6=>
   (inK .i64 (aP+1)).bind fun x7=>
   some (.next (x7,aU,x6,fQ))
  else
   if(decide (0≤x5.a))=true then
    (idx fQ x5.b).bind fun x8=>
    (idx x3.nodes x5.b).bind fun x9=>
    (idx x2.nodes x5.a).bind fun x10=>
    (lK x10 x9).bind fun x11=>
    if(!x11)=true then
     (app aU [(Chg.mk 0 x5.a 0 0 x9.kind x9.text)]).bind fun x12=>
     (inK .i64 (aP+1)).bind fun x13=>
     some (.next (x13,x12,dR,fQ.set x5.b.toNat true))
    else
     (inK .i64 (aP+1)).bind fun x14=>
     some (.next (x14,aU,dR,fQ.set x5.b.toNat true))
   else
    (inK .i64 (aP+1)).bind fun x15=>
    some (.next (x15,aU,dR,fQ))
 else
  some (.done (aU,dR,fQ))
noncomputable def nN (p2:(List Opn)) (x3:Nmb) (bJ:Int) (dY:(List Chg)) (zA:(List Bool)):Option (Step (Int×(List Chg)×(List Bool)) ((List Chg)×(List Bool))):=
 if(decide (bJ<(p2.length:Int)))=true then
  (idx p2 bJ).bind fun x16=>
  if(decide (x16.a<0))=true then
   (kD x3 x16.b zA).bind fun x17=>
   (app dY [x17]).bind fun x18=>
   (idx zA x16.b).bind fun x19=>
   (inK .i64 (bJ+1)).bind fun x20=>
   some (.next (x20,x18,zA.set x16.b.toNat true))
  else
   (inK .i64 (bJ+1)).bind fun x21=>
   some (.next (x21,dY,zA))
 else
  some (.done (dY,zA))
noncomputable def rO (p0:Node) (p1:Node) (p2:(List Opn)):Option ((List Chg)×Int):=
 (qO p0 p1 p2).bind fun x1=>
 if(!x1)=true then
  some ([],1)
 else
  (jE p0).bind fun x2=>
  (jE p1).bind fun x3=>
  (mkc (x3.nodes.length:Int) (x3.nodes.length:Int) (false:Bool)).bind fun x4=>
  (dV (fun s=>nM p2 x2 x3 s.1 s.2.1 s.2.2.1 s.2.2.2) (0,[],[],x4):Option ((List Chg)×(List Chg)×(List Bool))).bind fun b23=>
  (dV (fun s=>nN p2 x3 s.1 s.2.1 s.2.2) (0,[],b23.2.2):Option ((List Chg)×(List Bool))).bind fun b32=>
  (rV b23.2.1).bind fun x22=>
  (tJ ([b23.1,x22,b32.1]:List (List Chg))).bind fun x23=>
  some (x23,0)
noncomputable def pR (p0:Alg) (p1:Int) (p2:Int):Option Int:=
 (idx p0.orderA p1).bind fun x1=>
 (idx p0.a.nodes x1).bind fun x2=>
 (idx p0.orderB p2).bind fun x3=>
 (idx p0.b.nodes x3).bind fun x4=>
 (lK x2 x4).bind fun x5=>
 if x5=true then
  some 0
 else
  some 1
noncomputable def vO (p0:Alg) (x1:Int) (x2:Int) (aP:Int) (x10:(List Int)) (bJ:Int) (dY:(List (List Int))):Option (Step (Int×(List (List Int))) (List (List Int))):=
 if(decide (bJ<(x10.length:Int)))=true then
  if((decide (aP=0))||(decide (bJ=0)))=true then
   (idx dY aP).bind fun x11=>
   (inK .i64 (aP+bJ)).bind fun x12=>
   (idx x11 bJ).bind fun x13=>
   (inK .i64 (bJ+1)).bind fun x14=>
   some (.next (x14,dY.set aP.toNat (x11.set bJ.toNat x12)))
  else
   (inK .i64 (x1+aP)).bind fun x15=>
   (inK .i64 (x15-1)).bind fun x16=>
   (idx p0.leftA x16).bind fun x17=>
   ((if(decide (x17=x1))=true then
    (inK .i64 (x2+bJ)).bind fun x18=>
    (inK .i64 (x18-1)).bind fun x19=>
    (idx p0.leftB x19).bind fun x20=>
    some (decide (x20=x2))
   else
    some false):Option Bool).bind fun m1=>
   if m1=true then
    (idx dY aP).bind fun x21=>
    (inK .i64 (aP-1)).bind fun x22=>
    (idx dY x22).bind fun x23=>
    (idx x23 bJ).bind fun x24=>
    (inK .i64 (x24+1)).bind fun x25=>
    (idx dY aP).bind fun x26=>
    (inK .i64 (bJ-1)).bind fun x27=>
    (idx x26 x27).bind fun x28=>
    (inK .i64 (x28+1)).bind fun x29=>
    (inK .i64 (aP-1)).bind fun x30=>
    (idx dY x30).bind fun x31=>
    (inK .i64 (bJ-1)).bind fun x32=>
    (idx x31 x32).bind fun x33=>
    (inK .i64 (x1+aP)).bind fun x34=>
    (inK .i64 (x34-1)).bind fun x35=>
    (inK .i64 (x2+bJ)).bind fun x36=>
    (inK .i64 (x36-1)).bind fun x37=>
    (pR p0 x35 x37).bind fun x38=>
    (inK .i64 (x33+x38)).bind fun x39=>
    (idx x21 bJ).bind fun x40=>
    (inK .i64 (bJ+1)).bind fun x41=>
    some (.next (x41,dY.set aP.toNat (x21.set bJ.toNat (min (min x25 x29) x39))))
   else
    (idx dY aP).bind fun x42=>
    (inK .i64 (aP-1)).bind fun x43=>
    (idx dY x43).bind fun x44=>
    (idx x44 bJ).bind fun x45=>
    (inK .i64 (x45+1)).bind fun x46=>
    (idx dY aP).bind fun x47=>
    (inK .i64 (bJ-1)).bind fun x48=>
    (idx x47 x48).bind fun x49=>
    (inK .i64 (x49+1)).bind fun x50=>
    (inK .i64 (x1+aP)).bind fun x51=>
    (inK .i64 (x51-1)).bind fun x52=>
    (idx p0.leftA x52).bind fun x53=>
    (inK .i64 (x53-x1)).bind fun x54=>
    (idx dY x54).bind fun x55=>
    (inK .i64 (x2+bJ)).bind fun x56=>
    (inK .i64 (x56-1)).bind fun x57=>
    (idx p0.leftB x57).bind fun x58=>
    (inK .i64 (x58-x2)).bind fun x59=>
    (idx x55 x59).bind fun x60=>
    (inK .i64 (x1+aP)).bind fun x61=>
    (inK .i64 (x61-1)).bind fun x62=>
    (idx p0.orderA x62).bind fun x63=>
    (idx p0.distances x63).bind fun x64=>
    (inK .i64 (x2+bJ)).bind fun x65=>
    (inK .i64 (x65-1)).bind fun x66=>
    (idx p0.orderB x66).bind fun x67=>
    (idx x64 x67).bind fun x68=>
    (inK .i64 (x60+x68)).bind fun x69=>
    (idx x42 bJ).bind fun x70=>
    (inK .i64 (bJ+1)).bind fun x71=>
    some (.next (x71,dY.set aP.toNat (x42.set bJ.toNat (min (min x46 x50) x69))))
 else
  some (.done dY)
noncomputable def vN (p0:Alg) (p2:Int) (x1:Int) (x2:Int) (x5:(List (List Int))) (aP:Int) (aU:(List (List Int))):Option (Step (Int×(List (List Int))) (List (List Int))):=
 if(decide (aP<(x5.length:Int)))=true then
  (inK .i64 (p2-x2)).bind fun x6=>
  (inK .i64 (x6+2)).bind fun x7=>
  (mkc x7 x7 (0:Int)).bind fun x8=>
  (idx aU aP).bind fun x9=>
  (idx (aU.set aP.toNat x8) aP).bind fun x10=>
  (dV (fun s=>vO p0 x1 x2 aP x10 s.1 s.2) (0,aU.set aP.toNat x8):Option (List (List Int))).bind fun b6=>
  (inK .i64 (aP+1)).bind fun x72=>
  some (.next (x72,b6))
 else
  some (.done aU)
noncomputable def tC (p0:Alg) (p1:Int) (p2:Int):Option (List (List Int)):=
 (idx p0.leftA p1).bind fun x1=>
 (idx p0.leftB p2).bind fun x2=>
 (inK .i64 (p1-x1)).bind fun x3=>
 (inK .i64 (x3+2)).bind fun x4=>
 (mkc x4 x4 ([]:(List Int))).bind fun x5=>
 (dV (fun s=>vN p0 p2 x1 x2 x5 s.1 s.2) (0,x5):Option (List (List Int))).bind fun b3=>
 some b3
noncomputable def uH (p0:Alg) (self:Alg→Int→Int→Option Alg) (x1:Int) (x2:Int) (x3:(List (List Int))) (aP:Int) (aU:Int) (dR:(List Int)) (fQ:(List Int)):Option (Step (Int×Int×(List Int)×(List Int)) ((List Int)×(List Int))):=
 if((decide (0<aP))&&(decide (0<aU)))=true then
  (inK .i64 (x1+aP)).bind fun x7=>
  (inK .i64 (x7-1)).bind fun x8=>
  (inK .i64 (x2+aU)).bind fun x9=>
  (inK .i64 (x9-1)).bind fun x10=>
  (idx p0.leftA x8).bind fun x11=>
  ((if(decide (x11=x1))=true then
   (idx p0.leftB x10).bind fun x12=>
   some (decide (x12=x2))
  else
   some false):Option Bool).bind fun m1=>
  ((if m1=true then
   (idx x3 aP).bind fun x13=>
   (idx x13 aU).bind fun x14=>
   (inK .i64 (aP-1)).bind fun x15=>
   (idx x3 x15).bind fun x16=>
   (inK .i64 (aU-1)).bind fun x17=>
   (idx x16 x17).bind fun x18=>
   (pR (Alg.mk p0.a p0.b p0.orderA p0.leftA p0.orderB p0.leftB p0.distances dR fQ) x8 x10).bind fun x19=>
   (inK .i64 (x18+x19)).bind fun x20=>
   some (decide (x14=x20))
  else
   some false):Option Bool).bind fun m2=>
  if m2=true then
   (idx p0.orderA x8).bind fun x21=>
   (idx p0.orderB x10).bind fun x22=>
   (idx p0.orderB x10).bind fun x23=>
   (idx p0.orderA x8).bind fun x24=>
   (idx dR x21).bind fun x25=>
   (idx fQ x22).bind fun x26=>
   (inK .i64 (aP-1)).bind fun x27=>
   (inK .i64 (aU-1)).bind fun x28=>
   some (.next (x27,x28,dR.set x21.toNat x23,fQ.set x22.toNat x24))
  else
   (idx x3 aP).bind fun x29=>
   (idx x29 aU).bind fun x30=>
   (inK .i64 (aP-1)).bind fun x31=>
   (idx x3 x31).bind fun x32=>
   (idx x32 aU).bind fun x33=>
   (inK .i64 (x33+1)).bind fun x34=>
   if(decide (x30=x34))=true then
    (inK .i64 (aP-1)).bind fun x35=>
    some (.next (x35,aU,dR,fQ))
   else
    (idx x3 aP).bind fun x36=>
    (idx x36 aU).bind fun x37=>
    (idx x3 aP).bind fun x38=>
    (inK .i64 (aU-1)).bind fun x39=>
    (idx x38 x39).bind fun x40=>
    (inK .i64 (x40+1)).bind fun x41=>
    if(decide (x37=x41))=true then
     (inK .i64 (aU-1)).bind fun x42=>
     some (.next (aP,x42,dR,fQ))
    else
     (self (Alg.mk p0.a p0.b p0.orderA p0.leftA p0.orderB p0.leftB p0.distances dR fQ) x8 x10).bind fun x43=>
     (idx p0.leftA x8).bind fun x44=>
     (inK .i64 (x44-x1)).bind fun x45=>
     (idx p0.leftB x10).bind fun x46=>
     (inK .i64 (x46-x2)).bind fun x47=>
     some (.next (x45,x47,x43.partner,x43.back))
 else
  some (.done (dR,fQ))
noncomputable def rE (self:Alg→Int→Int→Option Alg) (p0:Alg) (p1:Int) (p2:Int):Option Alg:=
 (idx p0.leftA p1).bind fun x1=>
 (idx p0.leftB p2).bind fun x2=>
 (tC p0 p1 p2).bind fun x3=>
 (inK .i64 ((x3.length:Int)-1)).bind fun x4=>
 (idx x3 0).bind fun x5=>
 (inK .i64 ((x5.length:Int)-1)).bind fun x6=>
 (dV (fun s=>uH p0 self x1 x2 x3 s.1 s.2.1 s.2.2.1 s.2.2.2) (x4,x6,p0.partner,p0.back):Option ((List Int)×(List Int))).bind fun b4=>
 some (Alg.mk p0.a p0.b p0.orderA p0.leftA p0.orderB p0.leftB p0.distances b4.1 b4.2)
noncomputable def qJ:Nat→Alg→Int→Int→Option Alg
 |0=>fun _ _ _=>none
 |n+1=>rE (qJ n)
noncomputable def F6 (p0:Alg) (p1:Int) (p2:Int):Option Alg:=qJ (p1.toNat+p2.toNat+1) p0 p1 p2
open Go.RowKit Go.Sort
section
variable {Z:World} {ρ:PH} {L:List bK} {w:World}
theorem flat_int (l:List Int):flat l=l.map (Value.int .i64):=by
 induction l with
 |nil=>rfl
 |cons x l ih=>rw[sS,ih];rfl
end
def insI (a:Int):List Int→List Int
 | []=>[a]
 |b::l=>if a≤b then a::b::l else b::insI a l
def isort:List Int→List Int
 | []=>[]
 |a::l=>insI a (isort l)
theorem insI_perm (a:Int):∀l,(insI a l).Perm (a::l)
 | []=> .refl _
 |b::l=>by
  unfold insI
  split
  ·exact .refl _
  exact((insI_perm a l).cons b).trans (.swap a b l)
theorem isort_perm:∀l,(isort l).Perm l
 | []=> .refl _
 |a::l=>(insI_perm a _).trans ((isort_perm l).cons a)
theorem insI_pw (a:Int):∀l:List Int,l.Pairwise (fun x y=>decide (x≤y)=true)→(insI a l).Pairwise fun x y=>decide (x≤y)=true
 | [],_=> .cons (fun _ h=>absurd h (by simp)) .nil
 |b::l,h=>by
  obtain⟨h1,h2⟩:=List.pairwise_cons.1 h
  unfold insI
  split
  ·refine .cons (fun x hx=>?_) h
   rcases List.mem_cons.1 hx with rfl|hx
   ·simpa
   have:=h1 x hx
   simp only[decide_eq_true_eq] at this⊢;omega
  refine .cons (fun x hx=>?_) (insI_pw a l h2)
  rcases List.mem_cons.1 ((insI_perm a l).mem_iff.1 hx) with rfl|hx
  ·simp only[decide_eq_true_eq];omega
  exact h1 x hx
theorem isort_pw:∀l,(isort l).Pairwise fun x y=>decide (x≤y)=true
 | []=> .nil
 |a::l=>insI_pw a _ (isort_pw l)
theorem isort_eq (l:List Int):isort l=l.mergeSort fun x y=>decide (x≤y):=
 List.Perm.eq_of_pairwise (le:=fun x y=>decide (x≤y)=true) (fun a b _ _ h1 h2=>by simp only[decide_eq_true_eq] at h1 h2;omega) (isort_pw l)
  (List.pairwise_mergeSort (fun a b c h k=>by simp at*;omega) (fun a b=>by simp;omega) l) ((isort_perm l).trans (List.mergeSort_perm l _).symm)
def aC8 (l:List (Int×Int)):Option (List Int):=if(l.all fun p=>decide (-9223372036854775808≤p.1∧p.1≤9223372036854775807)&&decide (-9223372036854775808≤p.2∧p.2≤9223372036854775807))=true∧l.length<4294967297 then some (isort (l.map (·.2))) else none
noncomputable def xQ (p0:Node):Option Bool:=
 (aC7 p0).bind fun x1=>
 some (decide (256<x1))
noncomputable def oU (p0:(List Node)) (aP:Int):Option (Step Int (Out Unit Int)):=
 if(decide (aP<(p0.length:Int)))=true then
  (idx p0 aP).bind fun x1=>
  (xQ x1).bind fun x2=>
  if x2=true then
   some (.done (.ret aP))
  else
   (inK .i64 (aP+1)).bind fun x3=>
   some (.next x3)
 else
  some (.done (.brk ()))
noncomputable def lU (p0:(List Node)):Option Int:=
 (dV (fun s=>oU p0 s) 0:Option (Out Unit Int)).bind fun b1=>
 match b1 with
 | .brk b1s=>
  some (-1)
 | .ret r=>some r
noncomputable def kF (p0:(List Node)):Option Bool:=
 (lU p0).bind fun x1=>
 some (decide (0≤x1))
noncomputable def zU (p0:(List Node)):Option Bool:=
 (kF p0).bind fun x1=>
 some x1
noncomputable def uJ (p0:Node) (self:Node→Int→DFlat→Option (Int×DFlat)) (aP:Int) (aU:Int) (dR:(List Lbl)) (fQ:(List Int)) (lp1_4:(List Int)):Option (Step (Int×Int×(List Lbl)×(List Int)×(List Int)) (Int×(List Lbl)×(List Int)×(List Int))):=
 if(decide (aP<(p0.kids.length:Int)))=true then
  (idx p0.kids aP).bind fun x2=>
  (self x2 aU (DFlat.mk dR fQ lp1_4)).bind fun x3=>
  (inK .i64 (aP+1)).bind fun x4=>
  some (.next (x4,x3.1,x3.2.labels,x3.2.left,x3.2.numbers))
 else
  some (.done (aU,dR,fQ,lp1_4))
noncomputable def rG (self:Node→Int→DFlat→Option (Int×DFlat)) (p0:Node) (cp0:Int) (cp1:DFlat):Option (Int×DFlat):=
 (inK .i64 (cp0+1)).bind fun x1=>
 (dV (fun s=>uJ p0 self s.1 s.2.1 s.2.2.1 s.2.2.2.1 s.2.2.2.2) (0,x1,cp1.labels,cp1.left,cp1.numbers):Option (Int×(List Lbl)×(List Int)×(List Int))).bind fun b2=>
 (app b2.2.1 [(Lbl.mk p0.kind p0.text)]).bind fun x5=>
 (app b2.2.2.1 [(cp1.labels.length:Int)]).bind fun x6=>
 (app b2.2.2.2 [cp0]).bind fun x7=>
 some (b2.1,(DFlat.mk x5 x6 x7))
noncomputable def qL:Nat→Node→Int→DFlat→Option (Int×DFlat)
 |0=>fun _ _ _=>none
 |n+1=>rG (qL n)
noncomputable def F8 (p0:Node) (cp0:Int) (cp1:DFlat):Option (Int×DFlat):=qL (SizeOf.sizeOf p0+1) p0 cp0 cp1
noncomputable def uP (p0:Node):Option DFlat:=
 (F8 p0 0 (DFlat.mk ([]) ([]) ([]))).bind fun x1=>
 some x1.2
noncomputable def xH (p0:DFlat) (aP:Int) (aU:(List (Int×Int))):Option (Step (Int×(List (Int×Int))) (List (Int×Int))):=
 if(decide (aP<(p0.left.length:Int)))=true then
  (idx p0.left aP).bind fun x1=>
  (inK .i64 (aP+1)).bind fun x2=>
  some (.next (x2,Y5 aU x1 aP))
 else
  some (.done aU)
noncomputable def rC (p0:DFlat):Option (List Int):=
 (dV (fun s=>xH p0 s.1 s.2) (0,[]):Option (List (Int×Int))).bind fun b3=>
 (aC8 b3).bind fun x3=>
 some x3
noncomputable def F9 (p1:Int) (x1:(List (List Int))) (aP:Int) (aU:(List (List Int))):Option (Step (Int×(List (List Int))) (List (List Int))):=
 if(decide (aP<(x1.length:Int)))=true then
  (mkc p1 p1 (0:Int)).bind fun x2=>
  (idx aU aP).bind fun x3=>
  (inK .i64 (aP+1)).bind fun x4=>
  some (.next (x4,aU.set aP.toNat x2))
 else
  some (.done aU)
noncomputable def tH (p0:Int) (p1:Int):Option (List (List Int)):=
 (mkc p0 p0 ([]:(List Int))).bind fun x1=>
 (dV (fun s=>F9 p1 x1 s.1 s.2) (0,x1):Option (List (List Int))).bind fun b1=>
 some b1
noncomputable def zD (p0:DFlat) (p1:DFlat) (p2:(List (List Int))):Option (List (List Int)):=
 some p2
noncomputable def yJ (x7:(List (List Int))) (aP:Int) (aU:(List (List Int))):Option (Step (Int×(List (List Int))) (List (List Int))):=
 if(decide (aP<(x7.length:Int)))=true then
  (idx aU aP).bind fun x8=>
  (idx x8 0).bind fun x9=>
  (inK .i64 (aP+1)).bind fun x10=>
  some (.next (x10,aU.set aP.toNat (x8.set (0:Int).toNat aP)))
 else
  some (.done aU)
noncomputable def yK (x11:(List Int)) (bJ:Int) (dY:(List (List Int))):Option (Step (Int×(List (List Int))) (List (List Int))):=
 if(decide (bJ<(x11.length:Int)))=true then
  (idx dY 0).bind fun x12=>
  (idx x12 bJ).bind fun x13=>
  (inK .i64 (bJ+1)).bind fun x14=>
  some (.next (x14,dY.set (0:Int).toNat (x12.set bJ.toNat bJ)))
 else
  some (.done dY)
noncomputable def yM (p1:Int) (cp0:DFlat) (cp1:DFlat) (x1:Int) (x2:Int) (eQ:Int) (fJ:Int) (iY:(List (List Int))) (xE:(List (List Int))):Option (Step (Int×(List (List Int))×(List (List Int))) ((List (List Int))×(List (List Int)))):=
 if(decide (fJ≤p1))=true then
  (((inK .i64 (eQ-x1)).bind fun x15=>
  (inK .i64 (x15+1)).bind fun x16=>
  (inK .i64 (fJ-x2)).bind fun x17=>
  (inK .i64 (x17+1)).bind fun x18=>
  (inK .i64 (x16-1)).bind fun x19=>
  (idx iY x19).bind fun x20=>
  (idx x20 x18).bind fun x21=>
  (idx iY x16).bind fun x22=>
  (inK .i64 (x18-1)).bind fun x23=>
  (idx x22 x23).bind fun x24=>
  (inK .i64 ((min x21 x24)+1)).bind fun x25=>
  (idx cp0.left eQ).bind fun x26=>
  ((if(!decide (x26=x1))=true then
   some true
  else
   (idx cp1.left fJ).bind fun x27=>
   some (!decide (x27=x2))):Option Bool).bind fun m1=>
  if m1=true then
   (idx iY x16).bind fun x28=>
   (idx cp0.left eQ).bind fun x29=>
   (inK .i64 (x29-x1)).bind fun x30=>
   (idx iY x30).bind fun x31=>
   (idx cp1.left fJ).bind fun x32=>
   (inK .i64 (x32-x2)).bind fun x33=>
   (idx x31 x33).bind fun x34=>
   (idx xE eQ).bind fun x35=>
   (idx x35 fJ).bind fun x36=>
   (inK .i64 (x34+x36)).bind fun x37=>
   (idx x28 x18).bind fun x38=>
   some (iY.set x16.toNat (x28.set x18.toNat (min x25 x37)),xE)
  else
   (inK .i64 (x16-1)).bind fun x39=>
   (idx iY x39).bind fun x40=>
   (inK .i64 (x18-1)).bind fun x41=>
   (idx x40 x41).bind fun x42=>
   (idx cp0.labels eQ).bind fun x43=>
   (idx cp1.labels fJ).bind fun x44=>
   ((if(!((decide (x43.kind=x44.kind))&&(decide (x43.text=x44.text))))=true then
    (inK .i64 (x42+1)).bind fun x45=>
    some x45
   else
    some x42):Option Int).bind fun j2=>
   (idx iY x16).bind fun x46=>
   (idx x46 x18).bind fun x47=>
   (idx xE eQ).bind fun x48=>
   (idx (iY.set x16.toNat (x46.set x18.toNat (min x25 j2))) x16).bind fun x49=>
   (idx x49 x18).bind fun x50=>
   (idx x48 fJ).bind fun x51=>
   some (iY.set x16.toNat (x46.set x18.toNat (min x25 j2)),xE.set eQ.toNat (x48.set fJ.toNat x50))):Option ((List (List Int))×(List (List Int)))).bind fun j1=>
  (inK .i64 (fJ+1)).bind fun x52=>
  some (.next (x52,j1.1,j1.2))
 else
  some (.done (iY,xE))
noncomputable def yL (p0:Int) (p1:Int) (cp0:DFlat) (cp1:DFlat) (x1:Int) (x2:Int) (eQ:Int) (uG:(List (List Int))) (lp3_2:(List (List Int))):Option (Step (Int×(List (List Int))×(List (List Int))) ((List (List Int))×(List (List Int)))):=
 if(decide (eQ≤p0))=true then
  (dV (fun s=>yM p1 cp0 cp1 x1 x2 eQ s.1 s.2.1 s.2.2) (x2,uG,lp3_2):Option ((List (List Int))×(List (List Int)))).bind fun b11=>
  (inK .i64 (eQ+1)).bind fun x53=>
  some (.next (x53,b11.1,b11.2))
 else
  some (.done (uG,lp3_2))
noncomputable def xK (p0:Int) (p1:Int) (cp0:DFlat) (cp1:DFlat) (cp2:(List (List Int))):Option (List (List Int)):=
 (idx cp0.left p0).bind fun x1=>
 (idx cp1.left p1).bind fun x2=>
 (inK .i64 (p0-x1)).bind fun x3=>
 (inK .i64 (x3+2)).bind fun x4=>
 (inK .i64 (p1-x2)).bind fun x5=>
 (inK .i64 (x5+2)).bind fun x6=>
 (tH x4 x6).bind fun x7=>
 (dV (fun s=>yJ x7 s.1 s.2) (0,x7):Option (List (List Int))).bind fun b3=>
 (idx b3 0).bind fun x11=>
 (dV (fun s=>yK x11 s.1 s.2) (0,b3):Option (List (List Int))).bind fun b7=>
 (dV (fun s=>yL p0 p1 cp0 cp1 x1 x2 s.1 s.2.1 s.2.2) (x1,b7,cp2):Option ((List (List Int))×(List (List Int)))).bind fun b10=>
 some b10.2
noncomputable def yO (x1:DFlat) (x2:DFlat) (x6:Int) (x7:(List Int)) (bJ:Int) (dY:(List (List Int))):Option (Step (Int×(List (List Int))) (List (List Int))):=
 if(decide (bJ<(x7.length:Int)))=true then
  (idx x7 bJ).bind fun x8=>
  (xK x6 x8 x1 x2 dY).bind fun x9=>
  (inK .i64 (bJ+1)).bind fun x10=>
  some (.next (x10,x9))
 else
  some (.done dY)
noncomputable def yN (x1:DFlat) (x2:DFlat) (x5:(List Int)) (aP:Int) (aU:(List (List Int))):Option (Step (Int×(List (List Int))) (List (List Int))):=
 if(decide (aP<(x5.length:Int)))=true then
  (idx x5 aP).bind fun x6=>
  (rC x2).bind fun x7=>
  (dV (fun s=>yO x1 x2 x6 x7 s.1 s.2) (0,aU):Option (List (List Int))).bind fun b28=>
  (inK .i64 (aP+1)).bind fun x11=>
  some (.next (x11,b28))
 else
  some (.done aU)
noncomputable def yQ (x1:DFlat) (x2:DFlat) (eQ:Int) (x13:(List Int)) (fJ:Int) (iY:(List (List Int))):Option (Step (Int×(List (List Int))) (List (List Int))):=
 if(decide (fJ<(x13.length:Int)))=true then
  (idx x13 fJ).bind fun x14=>
  (idx x1.numbers eQ).bind fun x15=>
  (idx iY x15).bind fun x16=>
  (idx x2.numbers fJ).bind fun x17=>
  (idx x16 x17).bind fun x18=>
  (inK .i64 (fJ+1)).bind fun x19=>
  some (.next (x19,iY.set x15.toNat (x16.set x17.toNat x14)))
 else
  some (.done iY)
noncomputable def yP (x1:DFlat) (x2:DFlat) (b26:(List (List Int))) (eQ:Int) (uG:(List (List Int))):Option (Step (Int×(List (List Int))) (List (List Int))):=
 if(decide (eQ<(b26.length:Int)))=true then
  (idx b26 eQ).bind fun x13=>
  (dV (fun s=>yQ x1 x2 eQ x13 s.1 s.2) (0,uG):Option (List (List Int))).bind fun b32=>
  (inK .i64 (eQ+1)).bind fun x20=>
  some (.next (x20,b32))
 else
  some (.done uG)
noncomputable def xM (p0:Node) (p1:Node):Option (List (List Int)):=
 (uP p0).bind fun x1=>
 (uP p1).bind fun x2=>
 (tH (x1.labels.length:Int) (x2.labels.length:Int)).bind fun x3=>
 (zD x1 x2 x3).bind fun x4=>
 (rC x1).bind fun x5=>
 (dV (fun s=>yN x1 x2 x5 s.1 s.2) (0,x4):Option (List (List Int))).bind fun b26=>
 (tH (x1.labels.length:Int) (x2.labels.length:Int)).bind fun x12=>
 (dV (fun s=>yP x1 x2 b26 s.1 s.2) (0,x12):Option (List (List Int))).bind fun b30=>
 some b30
noncomputable def xJ (p0:Node) (p1:Node):Option ((List (List Int))×Int):=
 (zU ([p0,p1]:List Node)).bind fun x1=>
 if x1=true then
  some ([],8)
 else
  (xM p0 p1).bind fun x2=>
  some (x2,0)
end Go.Proofs.YtopnldfjcciieaaGreat
