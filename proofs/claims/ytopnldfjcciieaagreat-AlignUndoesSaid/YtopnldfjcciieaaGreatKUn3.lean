/- Tables: slices of slices that are written in place. Plain theorems over any program. -/
import Derived.Test.YtopnldfjcciieaaGreatKUn2
import Derived.Test.YtopnldfjcciieaaGreatProg
import Derived.Lib.LaidTab
import Derived.LaidLaws
import Derived.Test.YtopnldfjcciieaaGreatRows
import Derived.Sort.OwnSortedInts
import Derived.Lib.ItoaNum
set_option linter.unusedVariables false
set_option linter.unusedSimpArgs false
namespace Go.Proofs.YtopnldfjcciieaaGreat
open Go.RowKit
def Sl:Type:={v:Value // ∃A n c,v= .slice A n c}
def Sl.v (s:Sl):Value:=s.1
def Sl.nil:Sl:=⟨.slice none 0 0,none,0,0,rfl⟩
theorem Sl.one (s:Sl):s.v.oneCell'=true:=by obtain⟨v,A,n,c,rfl⟩:=s;rfl
theorem Sl.cells (s:Sl):s.v.cells= #[s.v]:=by obtain⟨v,A,n,c,rfl⟩:=s;rfl
instance encSl:Enc Sl:=⟨1,fun s=>[s.v],fun _=>rfl,fun s v h=>by rw[List.mem_singleton.1 h];exact s.one,by decide⟩
theorem aG.toSl {α:Type} [Enc α] {Z:World} {ρ:PH} {L:List bI} {w:World} {El:TypeId} {v:Value} {l:List α} (hp:Hp Z ρ L w) (k:Nat) (hk:L[k]?=some (aG El v l)):∃s:Sl,s.v=v:=by
 rcases(hp.get k hk).row.2 with⟨A,rfl,_⟩|⟨g,off,cap,cur,rfl,_⟩
 ·exact⟨⟨_,_,_,_,rfl⟩,rfl⟩
 exact⟨⟨_,_,_,_,rfl⟩,rfl⟩
instance (priority:=50) repList {α:Type} [Rep α]:Rep (List α):=⟨1,fun ρ l cs=>∃v,cs=[v]∧aH ρ v l,fun⟨_,h,_⟩=>by rw[h];rfl,fun hl ⟨v,h,k⟩=>⟨v,h,k.mono hl⟩⟩
def fZ {α:Type} [Enc α] (Ti:TypeId):List Sl→List (List α)→bI
 | [],[]=>fun k=>k=PH.emp
 |u::us,r::l=>star (aG Ti u.v r) (fZ Ti us l)
 |_,_=>fun _=>False
section
variable {α:Type} [Enc α] {Ti:TypeId} {L:List bI} {ρ h:PH}
theorem Sep.emp1:Sep ρ ((fun k=>k=PH.emp)::L) h↔Sep ρ L h:=by
 have e:ρ.un PH.emp=ρ:=by funext b;unfold PH.un PH.emp;cases ρ b<;>rfl
 constructor
 ·rintro⟨k,rfl,d,hs⟩;rw[e] at hs;exact hs
 intro hs;exact⟨PH.emp,rfl,PH.dj_emp ρ,by rw[e];exact hs⟩
theorem fZ.len {us:List Sl} {l:List (List α)} (hs:Sep ρ (fZ Ti us l::L) h):us.length=l.length:=by
 induction us generalizing l ρ L with
 |nil=>
  cases l with
  |nil=>rfl
  |cons r l=>obtain⟨k,a,_⟩:=hs;exact a.elim
 |cons u us ih=>
  cases l with
  |nil=>obtain⟨k,a,_⟩:=hs;exact a.elim
  |cons r l=>simp only[List.length_cons];rw[ih (Sep.swap (Sep.two.1 hs))]
theorem fZ.take:∀{us:List Sl} {l:List (List α)} (i:Nat) {u:Sl} {r:List α} {ρ h:PH} {L:List bI},us[i]?=some u→l[i]?=some r→
  (Sep ρ (fZ Ti us l::L) h↔Sep ρ (aG Ti u.v r::fZ Ti (us.eraseIdx i) (l.eraseIdx i)::L) h)
 | [],_,i,_,_,_,_,_,h1,_=>by simp at h1
 |_::_,[],i,_,_,_,_,_,_,h2=>by simp at h2
 |u0::us,r0::l,0,u,r,ρ,h,L,h1,h2=>by
  simp only[List.getElem?_cons_zero,Option.some.injEq] at h1 h2
  subst h1 h2
  exact Sep.two
 |u0::us,r0::l,i+1,u,r,ρ,h,L,h1,h2=>by
  simp only[List.getElem?_cons_succ] at h1 h2
  constructor
  ·intro hs
   exact Sep.cons_mono (fun ρ h=>Sep.two.2) (Sep.swap (Sep.cons_mono (fun ρ h=>(fZ.take i h1 h2).1) (Sep.two.1 hs)))
  intro hs
  exact Sep.two.2 (Sep.cons_mono (fun ρ h=>(fZ.take i h1 h2).2) (Sep.swap (Sep.cons_mono (fun ρ h=>Sep.two.1) hs)))
theorem fZ.snoc:∀{us:List Sl} {l:List (List α)} {u:Sl} {r:List α} {ρ h:PH} {L:List bI},Sep ρ (aG Ti u.v r::fZ Ti us l::L) h→Sep ρ (fZ Ti (us++[u]) (l++[r])::L) h
 | [],[],u,r,ρ,h,L,hs=>Sep.two.2 (Sep.cons_mono (fun ρ h h1=>Sep.emp1.2 (Sep.emp1.1 h1)) hs)
 | [],_::_,_,_,_,_,_,hs=>by obtain⟨_,_,_,k,a,_⟩:=hs;exact a.elim
 |_::_,[],_,_,_,_,_,hs=>by obtain⟨_,_,_,k,a,_⟩:=hs;exact a.elim
 |u0::us,r0::l,u,r,ρ,h,L,hs=>Sep.two.2 (Sep.cons_mono (fun ρ h=>fZ.snoc) (Sep.swap (Sep.cons_mono (fun ρ h=>Sep.two.1) hs)))
theorem fZ.nils:∀(n:Nat) {ρ h:PH} {L:List bI},Sep ρ L h→Sep ρ (fZ Ti (List.replicate n Sl.nil) (List.replicate n ([]:List α))::L) h
 |0,_,_,_,hs=>Sep.emp1.2 hs
 |n+1,ρ,h,L,hs=>Sep.two.2 (by
  have h1:=fZ.nils n hs
  refine⟨PH.emp,aG.nil Ti,PH.dj_emp ρ,?_⟩
  have e:ρ.un PH.emp=ρ:=by funext b;unfold PH.un PH.emp;cases ρ b<;>rfl
  rw[e];exact h1)
end
def bW {α:Type} [Enc α] (T Ti:TypeId) (v:Value) (us:List Sl) (l:List (List α)):bI:=star (aG T v us) (fZ Ti us l)
section
variable {Rn:Option Nat} {P:Program} {ops:Array Oper} {Q:Exit→Act→World→Prop} {rest:List Oper} {o:Oper} {a:Act} {w:World} {Df:List Deferred} {N:Nat} {E:Ent} {d:Nat} {Z:World} {ρ:PH} {L:List bI}
variable {α:Type} [Enc α] {T Ti To Tr:TypeId} {v:Value} {us:List Sl} {l:List (List α)} {bytes:Nat}
theorem Hp.tbl (h:Hp Z ρ (bW T Ti v us l::L) w):Hp Z ρ (aG T v us::fZ Ti us l::L) w:=h.to Sep.two.1
theorem Hp.tblShut (h:Hp Z ρ (aG T v us::fZ Ti us l::L) w):Hp Z ρ (bW T Ti v us l::L) w:=h.to Sep.two.2
theorem bW.lens (hp:Hp Z ρ (bW T Ti v us l::L) w):us.length=l.length:=fZ.len (Sep.swap hp.tbl.sep)
theorem bW.slice (hp:Hp Z ρ L w) (k:Nat) (hk:L[k]?=some (bW T Ti v us l)):∃s:Sl,s.v=v:=aG.toSl (hp.get k hk).tbl 0 rfl
theorem bW.cells (hp:Hp Z ρ L w) (k:Nat) (hk:L[k]?=some (bW T Ti v us l)):v.cells= #[v]:=by obtain⟨s,rfl⟩:=bW.slice hp k hk;exact s.cells
theorem bW.one (hp:Hp Z ρ L w) (k:Nat) (hk:L[k]?=some (bW T Ti v us l)):v.oneCell'=true:=by obtain⟨s,rfl⟩:=bW.slice hp k hk;exact s.one
theorem bW.len (hp:Hp Z ρ L w) (k:Nat) (hk:L[k]?=some (bW T Ti v us l)) (ht:SlTy P To T 1 bytes) (w:World) (ty:TypeId):(Builtin.len_ #[To] ty #[v]).run P w= .ok (.int .i64 l.length) w:=by
 have h:=(hp.get k hk)
 rw[←bW.lens h]
 exact aG.len h.tbl 0 rfl ht w ty
theorem bW.hdr (hp:Hp Z ρ L w) (k:Nat) (hk:L[k]?=some (bW T Ti v us l)) (ht:SlTy P To T 1 bytes) {i:Int} {r:List α} (hi:idx l i=some r):
  ∃(u:Sl) (g off:Nat),idx us i=some u∧(∀w,(Instr.indexAt To v (.int .i64 i)).run P w= .ok (.pointer (some ⟨g,off,none⟩)) w)∧(∃of0 cap,v= .slice (some ⟨g,of0,none⟩) us.length cap∧off=of0+i.toNat*1)∧
   ∀(j:Nat) (x:Value),[u.v][j]?=some x→∀ρ' L' w,Hp Z ρ' (bW T Ti v us l::L') w→w.cell? ⟨g,off+j,none⟩=some x:=by
 have h:=(hp.get k hk)
 obtain⟨i0,i1,i2⟩:=nP hi
 have hl:=bW.lens h
 have hu:idx us i=some us[i.toNat]:=by unfold idx;rw[if_pos i0];exact List.getElem?_eq_getElem (by omega)
 obtain⟨g,off,e1,e2,e3⟩:=aG.at h.tbl 0 rfl ht hu
 exact⟨_,g,off,hu,e1,e2,fun j x hx ρ' L' w hw=>e3 j x hx _ _ w hw.tbl⟩
theorem bW.focus (hp:Hp Z ρ L w) (k:Nat) (hk:L[k]?=some (bW T Ti v us l)) {i:Int} {u:Sl} {r:List α} (hu:idx us i=some u) (hi:idx l i=some r):
  Hp Z ρ (aG Ti u.v r::fZ Ti (us.eraseIdx i.toNat) (l.eraseIdx i.toNat)::aG T v us::L.eraseIdx k) w:=
 (hp.get k hk).tbl.to fun s=>(fZ.take i.toNat (nP hu).2.2 (nP hi).2.2).1 s.swap
theorem bW.rlen (hp:Hp Z ρ L w) (k:Nat) (hk:L[k]?=some (bW T Ti v us l)) (ht:SlTy P Tr Ti (Enc.sz α) bytes) {i:Int} {u:Sl} {r:List α} (hu:idx us i=some u) (hi:idx l i=some r) (w:World) (ty:TypeId):(Builtin.len_ #[Tr] ty #[u.v]).run P w= .ok (.int .i64 r.length) w:=
 aG.len (bW.focus hp k hk hu hi) 0 rfl ht w ty
theorem bW.at (hp:Hp Z ρ L w) (k:Nat) (hk:L[k]?=some (bW T Ti v us l)) (ht:SlTy P Tr Ti (Enc.sz α) bytes) {i j:Int} {u:Sl} {r:List α} {e:α} (hu:idx us i=some u) (hi:idx l i=some r) (hj:idx r j=some e):
  ∃g off,(∀w,(Instr.indexAt Tr u.v (.int .i64 j)).run P w= .ok (.pointer (some ⟨g,off,none⟩)) w)∧(∃of0 cap,u.v= .slice (some ⟨g,of0,none⟩) r.length cap∧off=of0+j.toNat*Enc.sz α)∧∀(j:Nat) (x:Value),(Enc.enc e)[j]?=some x→∀ρ' L' w,Hp Z ρ' (bW T Ti v us l::L') w→w.cell? ⟨g,off+j,none⟩=some x:=by
 obtain⟨g,off,e1,e2,e3⟩:=aG.at (bW.focus hp k hk hu hi) 0 rfl ht hj
 exact⟨g,off,e1,e2,fun j x hx ρ' L' w hw=>e3 j x hx _ _ w (bW.focus hw 0 rfl hu hi)⟩
theorem set_self {β:Type} {l:List β} {i:Nat} {x:β} (h:l[i]?=some x):l.set i x=l:=by
 apply List.ext_getElem?
 intro j
 rw[List.getElem?_set]
 split
 ·rename_i e;subst e;rw[if_pos (List.getElem?_eq_some_iff.1 h).1,h]
 rfl
theorem bW.unfocus (k:Nat) (hk:L[k]?=some (bW T Ti v us l)) {i:Int} {u:Sl} {r r':List α} (hu:idx us i=some u) (hi:idx l i=some r)
  (hp:Hp Z ρ (aG Ti u.v r'::fZ Ti (us.eraseIdx i.toNat) (l.eraseIdx i.toNat)::aG T v us::L.eraseIdx k) w):Hp Z ρ (L.set k (bW T Ti v us (l.set i.toNat r'))) w:=by
 obtain⟨_,hui,hus⟩:=nP hu
 obtain⟨_,hli,hls⟩:=nP hi
 refine Hp.put k (List.getElem?_eq_some_iff.1 hk).1 ((hp.to fun s=>Sep.swap ?_).tblShut)
 refine(fZ.take (us:=us) (l:=l.set i.toNat r') (r:=r') i.toNat hus (by rw[List.getElem?_set_self (by omega)])).2 ?_
 have e2:(l.set i.toNat r').eraseIdx i.toNat=l.eraseIdx i.toNat:=List.eraseIdx_set_eq
 rw[e2];exact s
theorem D5 (wk:Region.wanted o (yielded ops a.tmps)=true) (hd:o.dst=none) (hE:EnvD Df N E a) (hp:Hp Z ρ L w) {Tx:TypeId} {x y:Operand} (ho:o.op= .store Tx x y) {g off off':Nat} (hx:evo E x=some (.pointer (some ⟨g,off',none⟩))) {z:Value} (hy:evo E y=some z) (k:Nat) (hk:L[k]?=some (bW T Ti v us l))
  {i j:Int} {u:Sl} {r:List α} {e:α} (hu:idx us i=some u) (hi:idx l i=some r) (hj:idx r j=some e) (hv:∃of0 cap,u.v= .slice (some ⟨g,of0,none⟩) r.length cap∧off=of0+j.toNat*Enc.sz α) (q:Nat) {e':α} (ht:∀w,(sizeOf Tx).run P w= .ok 1 w) (hoff:off'=off+q) (hc:z.cells= #[z]) (h1:z.oneCell'=true) (he:(Enc.enc e).set q z=Enc.enc e'∧Nat.blt q (Enc.sz α)=true)
  (K:∀w,Hp Z ρ (L.set k (bW T Ti v us (l.set i.toNat (r.set j.toNat e')))) w→wpL Rn P ops Q rest a w):wpL Rn P ops Q (o::rest) a w:=
 aA0 wk hd hE (bW.focus hp k hk hu hi) ho hx hy 0 rfl hj hv q ht hoff hc h1 he fun w hw=>K w (bW.unfocus k hk hu hi hw)
theorem s_tput (wk:Region.wanted o (yielded ops a.tmps)=true) (hd:o.dst=none) (hE:EnvD Df N E a) {ur:Sl} {vr:Value} (he:ur.v=vr) {r':List α} (hp:Hp Z ρ (aG Ti vr r'::L) w) {Tx:TypeId} {x y:Operand} (ho:o.op= .store Tx x y) {g off:Nat} (hx:evo E x=some (.pointer (some ⟨g,off,none⟩))) (hy:evo E y=some vr) (k:Nat) (hk:L[k]?=some (bW T Ti v us l))
  {i:Int} {u:Sl} {r:List α} (hu:idx us i=some u) (hi:idx l i=some r) (hv:∃of0 cap,v= .slice (some ⟨g,of0,none⟩) us.length cap∧off=of0+i.toNat*1) (ht:∀w,(sizeOf Tx).run P w= .ok 1 w)
  (K:∀w,Hp Z ρ (L.set k (bW T Ti v (us.set i.toNat ur) (l.set i.toNat r'))) w→wpL Rn P ops Q rest a w):wpL Rn P ops Q (o::rest) a w:=by
 subst he
 have h0:Hp Z ρ (aG T v us::aG Ti ur.v r'::fZ Ti us l::L.eraseIdx k) w:=(Hp.tbl (hp.get (k+1) (A:=bW T Ti v us l) (by simpa using hk))).to fun s=>Sep.cons_mono (fun ρ h=>Sep.swap) s
 refine aA0 wk hd hE h0 ho hx hy 0 rfl hu hv 0 ht rfl ur.cells ur.one ⟨rfl,rfl⟩ fun w hw=>K w ?_
 refine Hp.put k (List.getElem?_eq_some_iff.1 hk).1 (Hp.tblShut (hw.to fun s=>?_))
 refine Sep.cons_mono (fun ρ h s=>?_) s
 obtain⟨_,hui,hus⟩:=nP hu
 obtain⟨_,hli,hls⟩:=nP hi
 refine(fZ.take (us:=us.set i.toNat ur) (l:=l.set i.toNat r') (u:=ur) (r:=r') i.toNat (by rw[List.getElem?_set_self (by omega)]) (by rw[List.getElem?_set_self (by omega)])).2 ?_
 rw[List.eraseIdx_set_eq,List.eraseIdx_set_eq]
 exact Sep.cons_mono (fun ρ h s=>Sep.drop ((fZ.take i.toNat hus hls).1 s)) s
theorem s_tmake (wk:Region.wanted o (yielded ops a.tmps)=true) (hd:o.dst=some d) (hN:Nat.blt d N=true) (hE:EnvD Df N E a) (hp:Hp Z ρ L w) {x y:Operand} (ho:o.op= .makeSlice To x y) (hu:P.underlying To=some (.slice T))
  (hi:(P.info? T).map (fun i=>(i.zero.map Value.cells,i.size,i.bytes))=some (some #[.slice none 0 0],1,bytes)) (hby:Nat.ble bytes 16384=true) {k k':IntKind} {n c:Int} (hx:evo E x=some (.int k n)) (hy:evo E y=some (.int k' c)) {r:List (List α)} (hr:mkc n c ([]:List α)=some r) (Ti:TypeId)
  (K:∀v us a w,EnvD Df N ((d,v)::E) a→Hp Z ρ (bW T Ti v us r::L) w→wpL Rn P ops Q rest a w):wpL Rn P ops Q (o::rest) a w:=by
 obtain⟨h0,h1,h2,rfl⟩:=mkc_some hr
 refine s_make (α:=Sl) wk hd hN hE hp ho hu Sl.nil hi hby hx hy (r:=List.replicate n.toNat Sl.nil) (by unfold mkc;rw[if_pos ⟨h0,h1,h2⟩]) fun v a w hE hp=>K v _ a w hE (Hp.tblShut (hp.to fun s=>Sep.cons_mono (fun ρ h s=>fZ.nils _ s) s))
theorem bW.none (T Ti:TypeId) (A:Option Addr):bW T Ti (.slice A 0 0) [] ([]:List (List α)) PH.emp:=
 ⟨PH.emp,PH.emp,aG.nilA T A,rfl,PH.dj_emp _,by funext b;rfl⟩
theorem fZ.at_:∀{us:List Sl} {l:List (List α)} {k:PH} (i:Nat) {u:Sl} {r:List α},fZ Ti us l k→us[i]?=some u→l[i]?=some r→∃k',aG Ti u.v r k'∧k'.le k
 | [],_,_,i,_,_,_,h1,_=>by simp at h1
 |_::_,[],_,i,_,_,h,_,_=>h.elim
 |u0::us,r0::l,k,0,u,r,h,h1,h2=>by
  obtain⟨k1,k2,ha,hb,d,rfl⟩:=h
  simp only[List.getElem?_cons_zero,Option.some.injEq] at h1 h2
  subst h1 h2
  exact⟨k1,ha,PH.le_un _ _⟩
 |u0::us,r0::l,k,i+1,u,r,h,h1,h2=>by
  obtain⟨k1,k2,ha,hb,d,rfl⟩:=h
  obtain⟨k',h3,h4⟩:=fZ.at_ i hb (by simpa using h1) (by simpa using h2)
  exact⟨k',h3,h4.tr (PH.le_un_r d)⟩
theorem bW.ro {k:PH} (d:ρ.dj k) (h:bW T Ti v us l k):aH (ρ.un k) v l:=by
 obtain⟨k1,k2,ha,hb,d2,rfl⟩:=h
 have hl:us.length=l.length:=fZ.len (ρ:=k1) (h:=k1.un k2) (L:=[]) ⟨k2,hb,d2,PH.le.rf _⟩
 have d12:=PH.dj_un.1 d.symm
 obtain⟨A,c,e1,e2,e3⟩:=aG.ro d12.1.symm ha
 refine⟨A,c,by rw[←hl];exact e1,by rw[←hl];exact e2,fun i r hi=>?_⟩
 have hlt:=(List.getElem?_eq_some_iff.1 hi).1
 obtain⟨b,o,cs,h1,h2,h3⟩:=e3 i us[i] (List.getElem?_eq_getElem (by omega))
 obtain⟨k',h4,h5⟩:=fZ.at_ i hb (List.getElem?_eq_getElem (by omega)) hi
 have hk:k'.le (ρ.un (k1.un k2)):=h5.tr ((PH.le_un_r d2).tr (PH.le_un_r d))
 refine⟨b,o,cs,h1,⟨us[i].v,h2,?_⟩,h3.mono (by rw[←PH.un_assoc];exact PH.le_un _ _)⟩
 have h6:aH (PH.emp.un k') us[i].v r:=aG.ro (PH.dj_emp k').symm h4
 exact h6.mono (by
  have:PH.emp.un k'=k':=by funext x;rfl
  rw[this];exact hk)
theorem bW.lend (hp:Hp Z ρ L w) (k:Nat) (hk:L[k]?=some (bW T Ti v us l)) {i:Int} {u:Sl} {r:List α} (hu:idx us i=some u) (hi:idx l i=some r):
  ∃κ,aH (ρ.un κ) u.v r∧Hp Z (ρ.un κ) (fZ Ti (us.eraseIdx i.toNat) (l.eraseIdx i.toNat)::aG T v us::L.eraseIdx k) w∧
   ∀w,Hp Z (ρ.un κ) (fZ Ti (us.eraseIdx i.toNat) (l.eraseIdx i.toNat)::aG T v us::L.eraseIdx k) w→Hp Z ρ L w:=by
 obtain⟨κ,ha,hd,h⟩:=(bW.focus hp k hk hu hi).lend
 refine⟨κ,aG.ro hd ha,h,fun w hw=>?_⟩
 have:=bW.unfocus k hk hu hi (Hp.back ha hd hw)
 rw[set_self (nP hi).2.2,set_same hk] at this
 exact this
end
section
variable {Rn:Option Nat} {P:Program} {fn:Func} {R:Ending→World→Prop} {a:Act} {w:World} {Df:List Deferred} {N:Nat} {E:Ent}
theorem X5 (hE:Env N E a) (hr:fn.results= #[]) (h:R (.returned (.tuple #[])) w):bodyPost P fn R .normal a w:=
 ⟨hE.defers,_,by simp[results,hr],h⟩
theorem ret0 (hE:Env N E a) (hr:fn.results= #[]) (h:R (.returned (.tuple #[])) w):bodyPost P fn R .ret a w:=
 ⟨hE.defers,_,by simp[results,hr],h⟩
theorem C9 {T:TypeId} {cs:List Value} (ht:VarTy P T true cs.length) {b o:Nat} {w:World} (h:∀j u,cs[j]?=some u→w.cell? ⟨b,o+j,none⟩=some u):(loadVar T ⟨b,o,none⟩).run P w= .ok (.agg cs.toArray) w:=by
 have:=run_loadCells_list (P:=P) (w:=w) ⟨b,o,none⟩ cs (fun j v hj=>by rw[Addr.add_lit];exact h j v hj)
 simp[loadVar,ht.agg_ w,ht.size_ w,this]
theorem retc1 (hE:Env N E a) {t:Nat} {T:TypeId} (hr:fn.results= #[.cell t T]) {p:Addr} (hv:lk E t=some (.pointer (some p))) {v:Value} (hl:(loadVar T p).run P w= .ok v w) (h:R (.returned v) w):bodyPost P fn R .ret a w:=by
 refine⟨hE.defers,v,?_,h⟩
 have:=hE.val t _ hv
 simp[results,hr,Array.getD_eq_getD_getElem?,this,asAddr,hl]
end
abbrev Facts:=List (List Nat×(World→Prop))
def alive (G:List Nat) (listed:Array Bool):Bool:=G.all fun g=> !listed.getD g true
def invV:Facts→Array Bool→World→Prop
 | [],_,_=>True
 |p::r,listed,w=>(alive p.1 listed=true→p.2 w)∧invV r listed w
theorem invV.get {listed:Array Bool} {w:World} {G:List Nat} {C:World→Prop}:∀{F:Facts} (n:Nat),F[n]?=some (G,C)→alive G listed=true→invV F listed w→C w
 | [],_,h,_,_=>by simp at h
 |p::r,0,h,ha,hi=>by
  simp only[List.getElem?_cons_zero,Option.some.injEq] at h
  subst h
  exact hi.1 ha
 |p::r,n+1,h,ha,hi=>invV.get (F:=r) n (by simpa using h) ha hi.2
theorem alive_set {G:List Nat} {listed:Array Bool} {i:Nat} (h:alive G (listed.setIfInBounds i true)=true):alive G listed=true:=by
 unfold alive at*
 rw[List.all_eq_true] at*
 intro g hg
 have:=h g hg
 by_cases e:i=g
 ·subst e
  rcases Nat.lt_or_ge i listed.size with h'|h'
  ·simp[h'] at this
  simp[Array.getElem?_eq_none h'] at this
 rw[getD_set_ne true e] at this;exact this
theorem invV.weak {listed:Array Bool} {w:World} {i:Nat}:∀{F:Facts},invV F listed w→invV F (listed.setIfInBounds i true) w
 | [],h=>trivial
 |p::r,h=>⟨fun ha=>h.1 (alive_set ha),invV.weak h.2⟩
def U3:Facts→Nat→Bool
 | [],_=>true
 |p::r,i=> !p.1.contains i&&U3 r i
theorem alive_of_set {G:List Nat} {listed:Array Bool} {i:Nat} (hc:G.contains i=false) (h:alive G listed=true):alive G (listed.setIfInBounds i true)=true:=by
 unfold alive at*
 rw[List.all_eq_true] at*
 intro g hg
 have hne:i≠g:=fun e=>by
  subst e
  have:G.contains i=true:=by simpa using hg
  rw[hc] at this;cases this
 rw[getD_set_ne true hne];exact h g hg
theorem invV.back {listed:Array Bool} {w:World} {i:Nat}:∀{F:Facts},U3 F i=true→invV F (listed.setIfInBounds i true) w→invV F listed w
 | [],_,_=>trivial
 |p::r,hn,h=>by
  simp only[U3,Bool.and_eq_true,Bool.not_eq_true'] at hn
  exact⟨fun ha=>h.1 (alive_of_set hn.1 ha),invV.back hn.2 h.2⟩
section
variable {Rn:Option Nat} {P:Program} {ops:Array Oper} {Q:Exit→Act→World→Prop} {md:Region.Mode} {F:Facts}
def lQ (P:Program) (md:Region.Mode) (ops:Array Oper) (Q:Exit→Act→World→Prop) (F:Facts):Nat→Array Bool→Act→World→Prop
 |0,listed,a,w=>Region.ready md ops listed=[]∧Q .normal a w
 |fuel+1,listed,a,w=>
  (Region.ready md ops listed=[]→Q .normal a w)∧
  ∀i∈Region.ready md ops listed,wpOp P ops Q i (fun a' w'=>invV F (listed.setIfInBounds i true) w'∧lQ P md ops Q F fuel (listed.setIfInBounds i true) a' w') a w
theorem wpAny_of_V:∀(fuel:Nat) (listed:Array Bool) (a:Act) (w:World),lQ P md ops Q F fuel listed a w→wpAny P md ops Q fuel listed a w
 |0,_,_,_,h=>h
 |fuel+1,_,_,_,h=>⟨h.1,fun i hi=>wpOp_mono (fun a' w' h'=>wpAny_of_V fuel _ a' w' h'.2) (h.2 i hi)⟩
def waits (md:Region.Mode) (ops:Array Oper) (G:List Nat) (i:Nat):Bool:=G.all fun g=>match ops[g]? with|some o=>o.after.any fun e=>Region.binds md e&&e.on==i|none=>false
theorem waits_spec {G:List Nat} {i:Nat} (h:waits md ops G i=true) {g:Nat} (hg:g∈G):∃o,ops[g]?=some o∧∃e∈o.after,Region.binds md e=true∧e.on=i:=by
 have h1:=List.all_eq_true.1 h g hg
 cases ho:ops[g]? with
 |none=>simp[ho] at h1
 |some o=>
  simp only[ho] at h1
  obtain⟨e,he,hb⟩:=Array.any_eq_true'.1 h1
  simp only[Bool.and_eq_true,beq_iff_eq] at hb
  exact⟨o,rfl,e,he,hb.1,hb.2⟩
theorem aG6 {i:Nat} {oi:Oper} {v:Value} (hi:ops[i]?=some oi) (hsel:∀(j:Nat) (o:Oper) cs b,ops[j]?=some o→o.op≠ .select cs b)
  (hQ:∀c a w,Q (.panic c) (a.put oi.dst v) w→Q (.panic c) a w) {n:Nat} {G:List Nat} {C:World→Prop} (hn:F[n]?=some (G,C)) (hG:waits md ops G i=true) (hN:U3 F i=true):
  ∀(fuel:Nat) (listed:Array Bool) (a:Act) (w:World),
   (∀j oj,ops[j]?=some oj→j≠i→listed.getD j true=false→(∀e∈oj.after,Region.binds md e=true→e.on≠i)→oi.apart ops oj=true)→
   i∈Region.ready md ops listed→YieldsIf P ops C oi v a→alive G listed=true→invV F listed w→
   lQ P md ops Q F fuel (listed.setIfInBounds i true) (a.put oi.dst v) w→lQ P md ops Q F (fuel+1) listed a w:=by
 intro fuel
 induction fuel with
 |zero=>
  intro listed a w _ hr hy ha hS H
  refine⟨fun h=>(by rw[h] at hr;cases hr),fun j hj=>?_⟩
  by_cases hji:j=i
  ·subst hji;exact hy.wpOp hi (hS.get n hn ha) ⟨hS.weak,H⟩
  have:=ready_mono hj hji
  rw[H.1] at this
  cases this
 |succ fuel ih=>
  intro listed a w hfree hr hy ha hS H
  refine⟨fun h=>(by rw[h] at hr;cases hr),fun j hj=>?_⟩
  by_cases hji:j=i
  ·subst hji;exact hy.wpOp hi (hS.get n hn ha) ⟨hS.weak,H⟩
  have h1:=H.2 j (ready_mono hj hji)
  obtain⟨hjun,oj,hoj,hall⟩:=mem_ready.1 hj
  have hnot:∀e∈oj.after,Region.binds md e=true→e.on≠i:=fun e he hb heq=>by
   have h1:=hall e he hb
   have h0:=(mem_ready.1 hr).1
   rw[heq] at h1
   rcases Nat.lt_or_ge i listed.size with h'|h'
   ·simp[h'] at h0 h1;rw[h0] at h1;cases h1
   simp[Array.getElem?_eq_none h'] at h1
  have hjG:j∉G:=fun hm=>by
   obtain⟨o,ho,e,he,hb,heq⟩:=waits_spec hG hm
   rw[hoj] at ho
   obtain rfl:=Option.some.inj ho
   exact hnot e he hb heq
  have ha':alive G (listed.setIfInBounds j true)=true:=by
   unfold alive at*
   rw[List.all_eq_true] at*
   intro g hg
   have hne:j≠g:=fun e=>hjG (e▸hg)
   rw[getD_set_ne true hne];exact ha g hg
  have h2:=wpOp_putIf hoj (hfree j oj hoj hji hjun hnot) (fun cs b=>hsel i oi cs b hi) (fun cs b=>hsel j oj cs b hoj) hQ hy h1
  have hfree':∀k ok,ops[k]?=some ok→k≠i→(listed.setIfInBounds j true).getD k true=false→
    (∀e∈ok.after,Region.binds md e=true→e.on≠i)→oi.apart ops ok=true:=fun k ok hk hki hun hno=>by
   refine hfree k ok hk hki ?_ hno
   by_cases hjk:j=k
   ·subst hjk;exact hjun
   rw[getD_set_ne true hjk] at hun;exact hun
  refine wpOp_mono (fun a' w' h3=>?_) h2
  obtain⟨hy',hinv,hrest⟩:=h3
  rw[Array.setIfInBounds_comm _ _ (Ne.symm hji)] at hinv hrest
  have hinv':invV F (listed.setIfInBounds j true) w':=invV.back hN hinv
  refine⟨hinv',ih (listed.setIfInBounds j true) a' w' hfree' (ready_mono hr (Ne.symm hji)) hy' ha' hinv' ?_⟩
  exact hrest
end
section
variable {Rn:Option Nat} {P:Program} {ops:Array Oper} {a:Act} {w:World} {Df:List Deferred} {N:Nat} {E:Ent} {d:Nat} {J:Act→World→Prop} {fuel:Nat} {listed:Array Bool} {o:Oper} {F:Facts}
theorem fO {Q:Exit→Act→World→Prop} {cs:List Code} {id:Nat} {l:List Oper} (F:Facts) (J:Act→World→Prop) (hm:P.follows .mixedOrders=true) (h0:invV F (Array.replicate l.length false) w.drew)
  (h:invV F (Array.replicate l.length false) w.drew→lQ P .any l.toArray (QJ J) F l.length (Array.replicate l.length false) a w.drew) (hk:∀a w,J a w→wpK none P Q cs a w):wpK none P Q (.region id l.toArray true::cs) a w:=by
 have h1:(Code.region id l.toArray true).wp P (QJ J) a w:=wp_region_any hm (by simpa using wpAny_of_V _ _ _ _ (h h0))
 exact wpIn_wide.2 <| Code.wp_mono (fun e a w q=>by
  cases e with
  |normal=>exact hk a w q
  |_=>exact q.elim) h1
def At0 (Z:World) (ρ:PH):World→Prop:=fun w=>∃L,Hp Z ρ L w
def At1 (Z:World) (ρ:PH) (A:bI):World→Prop:=fun w=>∃L,Hp Z ρ (A::L) w
variable {Z:World} {ρ:PH} {A:bI}
theorem v_take (i n:Nat) {G:List Nat} {C:World→Prop} (wk:Region.wanted o (yielded ops a.tmps)=true) (hi:ops[i]?=some o) (hd:o.dst=some d) (hN:Nat.blt d N=true) (hE:EnvD Df N E a) (hs:Region.noSelect ops=true) (hf:Region.free .any ops listed i=true) (hr:(Region.ready .any ops listed).contains i=true)
  (hn:F[n]?=some (G,C)) (hG:(waits .any ops G i&&alive G listed&&U3 F i)=true) (hS:invV F listed w) {v:Value} (hx:Ex P C a o v)
  (K:∀a,EnvD Df N ((d,v)::E) a→invV F (listed.setIfInBounds i true) w→lQ P .any ops (QJ J) F fuel (listed.setIfInBounds i true) a w):lQ P .any ops (QJ J) F (fuel+1) listed a w:=by
 simp only[Bool.and_eq_true] at hG
 exact aG6 hi (Region.noSelect_spec hs) (fun _ _ _ q=>q.elim) hn hG.1.1 hG.2 fuel listed a w (Region.free_spec hi hf) (by simpa using hr) (Or.inl ⟨wk,hx⟩) hG.1.2 hS (by rw[hd];exact K _ (hE.put hN v) hS.weak)
theorem v_take0 (i:Nat) (wk:Region.wanted o (yielded ops a.tmps)=true) (hi:ops[i]?=some o) (hd:o.dst=some d) (hN:Nat.blt d N=true) (hE:EnvD Df N E a) (hs:Region.noSelect ops=true) (hf:Region.free .any ops listed i=true) (hr:(Region.ready .any ops listed).contains i=true)
  (hn:F[0]?=some ([],At0 Z ρ)) (hG:(waits .any ops [] i&&alive [] listed&&U3 F i)=true) (hS:invV F listed w) {v:Value} (hx:∀L,Ex P (Hp Z ρ L) a o v)
  (K:∀a,EnvD Df N ((d,v)::E) a→invV F (listed.setIfInBounds i true) w→lQ P .any ops (QJ J) F fuel (listed.setIfInBounds i true) a w):lQ P .any ops (QJ J) F (fuel+1) listed a w:=
 v_take i 0 wk hi hd hN hE hs hf hr hn hG hS (fun w ⟨L,hw⟩=>hx L w hw) K
theorem v_take1 (i n:Nat) {G:List Nat} (wk:Region.wanted o (yielded ops a.tmps)=true) (hi:ops[i]?=some o) (hd:o.dst=some d) (hN:Nat.blt d N=true) (hE:EnvD Df N E a) (hs:Region.noSelect ops=true) (hf:Region.free .any ops listed i=true) (hr:(Region.ready .any ops listed).contains i=true)
  (hn:F[n]?=some (G,At1 Z ρ A)) (hG:(waits .any ops G i&&alive G listed&&U3 F i)=true) (hS:invV F listed w) {v:Value} (hx:∀L,Ex P (Hp Z ρ (A::L)) a o v)
  (K:∀a,EnvD Df N ((d,v)::E) a→invV F (listed.setIfInBounds i true) w→lQ P .any ops (QJ J) F fuel (listed.setIfInBounds i true) a w):lQ P .any ops (QJ J) F (fuel+1) listed a w:=
 v_take i n wk hi hd hN hE hs hf hr hn hG hS (fun w ⟨L,hw⟩=>hx L w hw) K
theorem v_skip (i:Nat) (wk:Region.wanted o (yielded ops a.tmps)=false) (hi:ops[i]?=some o) (hd:o.dst=some d) (hN:Nat.blt d N=true) (hE:EnvD Df N E a) (hs:Region.noSelect ops=true) (hf:Region.free .any ops listed i=true) (hr:(Region.ready .any ops listed).contains i=true)
  (hn:F[0]?=some ([],At0 Z ρ)) (hG:U3 F i=true) (hS:invV F listed w)
  (K:∀a,EnvD Df N ((d,undef)::E) a→invV F (listed.setIfInBounds i true) w→lQ P .any ops (QJ J) F fuel (listed.setIfInBounds i true) a w):lQ P .any ops (QJ J) F (fuel+1) listed a w:=
 aG6 hi (Region.noSelect_spec hs) (fun _ _ _ q=>q.elim) hn rfl hG fuel listed a w (Region.free_spec hi hf) (by simpa using hr) (Or.inr ⟨wk,rfl⟩) rfl hS (by rw[hd];exact K _ (hE.put hN undef) hS.weak)
theorem aC {p q:Prop} (h:p) (k:p→q):p∧q:=⟨h,k h⟩
theorem fQ (rs:List Nat) (hr:Region.ready .any ops listed=rs) (hne:rs.isEmpty=false) (h:∀i∈rs,wpOp P ops (QJ J) i (fun a' w'=>invV F (listed.setIfInBounds i true) w'∧lQ P .any ops (QJ J) F fuel (listed.setIfInBounds i true) a' w') a w):lQ P .any ops (QJ J) F (fuel+1) listed a w:=
 ⟨fun h0=>absurd (hr▸h0) (by intro e;rw[e] at hne;cases hne),hr▸h⟩
theorem bP (hr:Region.ready .any ops listed=[]) (h:J a w):lQ P .any ops (QJ J) F fuel listed a w:=by
 cases fuel with
 |zero=>exact⟨hr,h⟩
 |succ n=>exact⟨fun _=>h,by rw[hr];simp⟩
theorem dead {G:List Nat} {p:Prop} (h:alive G listed=false):alive G listed=true→p:=fun e=>by rw[h] at e;cases e
end
structure RFlat where
 kinds:List Int
 texts:List ByteArray
 left:List Int
 numbers:List Int
structure Lbl where
 kind:Int
 text:ByteArray
deriving DecidableEq
instance:Vl Lbl:=⟨fun a=> .agg #[.int .i64 a.kind,.string a.text]⟩
instance:Enc Lbl:=⟨2,fun a=>[.int .i64 a.kind,.string a.text],fun _=>rfl,fun a v h=>by
 simp at h;rcases h with rfl|rfl<;>rfl,by decide⟩
structure DFlat where
 labels:List Lbl
 left:List Int
 numbers:List Int
structure Opn where
 a:Int
 b:Int
deriving DecidableEq
instance:Vl Opn:=⟨fun a=> .agg #[.int .i64 a.a,.int .i64 a.b]⟩
instance:Enc Opn:=⟨2,fun a=>[.int .i64 a.a,.int .i64 a.b],fun _=>rfl,fun a v h=>by
 simp at h;rcases h with rfl|rfl<;>rfl,by decide⟩
structure Chg where
 op:Int
 node:Int
 index:Int
 count:Int
 kind:Int
 text:ByteArray
deriving DecidableEq
instance:Vl Chg:=⟨fun a=> .agg #[.int .i64 a.op,.int .i64 a.node,.int .i64 a.index,.int .i64 a.count,.int .i64 a.kind,.string a.text]⟩
instance:Enc Chg:=⟨6,fun a=>[.int .i64 a.op,.int .i64 a.node,.int .i64 a.index,.int .i64 a.count,.int .i64 a.kind,.string a.text],fun _=>rfl,fun a v h=>by
 simp at h;rcases h with rfl|rfl|rfl|rfl|rfl|rfl<;>rfl,by decide⟩
structure Span where
 kind:Int
 text:ByteArray
 last:Int
 parent:Int
deriving DecidableEq
instance:Vl Span:=⟨fun a=> .agg #[.int .i64 a.kind,.string a.text,.int .i64 a.last,.int .i64 a.parent]⟩
instance:Enc Span:=⟨4,fun a=>[.int .i64 a.kind,.string a.text,.int .i64 a.last,.int .i64 a.parent],fun _=>rfl,fun a v h=>by
 simp at h;rcases h with rfl|rfl|rfl|rfl<;>rfl,by decide⟩
structure Nmb where
 nodes:List Node
 sizes:List Int
 parent:List Int
structure Alg where
 a:Nmb
 b:Nmb
 orderA:List Int
 leftA:List Int
 orderB:List Int
 leftB:List Int
 distances:List (List Int)
 partner:List Int
 back:List Int
section
variable {P:Program} {C:World→Prop} {a:Act} {o:Oper} {Df:List Deferred} {N:Nat} {E:Ent}
theorem ex_min3 {t:Array TypeId} {x y z:Operand} (ho:o.op= .call {callee:= .builtin .min,args:= #[x,y,z],argTypes:=t}) (hE:EnvD Df N E a) {k:IntKind} {l m n:Int} (hx:evo E x=some (.int k l)) (hy:evo E y=some (.int k m)) (hz:evo E z=some (.int k n)):Ex P C a o (.int k (min (min l m) n)):=fun w hw=>by
 simp only[execOp,ho,resolve,invoke,Sem.run_bind,Sem.run_pure,Result.andThen_ok,List.map_toArray,List.map_cons,List.map_nil,hE.eval hx,hE.eval hy,hE.eval hz]
 have e1:(Builtin.min2 (.int k l) (.int k m)).run P w= .ok (.int k (min l m)) w:=by simp[Builtin.min2];split<;>omega
 have e2:(Builtin.min2 (.int k (min l m)) (.int k n)).run P w= .ok (.int k (min (min l m) n)) w:=by simp[Builtin.min2];split<;>omega
 simp[builtin,Builtin.min_,e1,e2]
end
open Go.ChangeShapes Go.WideShapes Go.ChangeAt Go.RowKit
inductive NodeWf:Node→Prop
 |mk (kind:Int) (text:ByteArray) (at_ fin:Int) (kids:List Node) (h1:I64 kind) (h2:text.size≤maxLen) (h3:I64 at_) (h4:I64 fin) (h5:kids.length≤maxLen) (h6:∀k∈kids,NodeWf k):NodeWf ⟨kind,text,at_,fin,kids⟩
set_option maxRecDepth 100000 in
theorem node_trod {H:Type} {enc:TypeId×Value→H} {w:World} {base:Nat} {spare:Nat→Bool} {held:Bool}:∀(fuel:Nat) {cs:List Value} {x:DataW H×List MemPlace},
  DataW.trod enc Tryz.prog w base spare held fuel 24 cs=some x→∃a:Node,NodeAt (hp w) a cs∧NodeWf a:=by
 intro fuel
 induction fuel using Nat.strongRecOn with
 |_ fuel ih=>
  intro cs x h
  obtain⟨xs,n,rfl,_,hl,hx,hf⟩:=DataW.trod_struct Tryz.underlying24 h
  have hl2:cs.length=5:=hl.trans (by kernel_rfl)
  have hx2:xs.length=5:=hx
  have ki:Tryz.prog.cellsOf 3=1:=by kernel_rfl
  have ks:Tryz.prog.cellsOf 9=1:=by kernel_rfl
  have kl:Tryz.prog.cellsOf 22=1:=by kernel_rfl
  have kn:Tryz.prog.cellsOf 24=5:=by kernel_rfl
  match cs,hl2,xs,hx2 with
  | [c0,c1,c2,c3,c4],_,[y0,y1,y2,y3,y4],_=>
   have z0:=hf 0 _ rfl
   have z1:=hf 1 _ rfl
   have z2:=hf 2 _ rfl
   have z3:=hf 3 _ rfl
   have z4:=hf 4 _ rfl
   simp[ki] at z0 z2 z3
   simp[ks] at z1
   simp[kl] at z4
   obtain⟨n0,e0,_,w0⟩:=DataW.trod_int Tryz.underlying3 z0
   obtain⟨n1,e1,_,w1⟩:=DataW.trod_string Tryz.underlying9 z1
   obtain⟨n2,e2,_,w2⟩:=DataW.trod_int Tryz.underlying3 z2
   obtain⟨n3,e3,_,w3⟩:=DataW.trod_int Tryz.underlying3 z3
   simp only[List.cons.injEq,and_true] at e0 e1 e2 e3
   subst e0 e1 e2 e3
   rcases DataW.trod_slice Tryz.underlying22 z4 with⟨e4,_⟩|⟨a,len,cap,elems,rest,m,rfl,e4,_,hb,hle,hm,hlen,hel,_⟩
   ·simp only[List.cons.injEq,and_true] at e4
    subst e4
    exact⟨⟨n0,n1,n2,n3,[]⟩,NodeAt.shut (aH.nil _),.mk _ _ _ _ _ (I64.of w0) w1 (I64.of w2) (I64.of w3) (by unfold maxLen;simp) (by simp)⟩
   simp only[List.cons.injEq,and_true] at e4
   subst e4
   have key:∀i,i<len→∃z:Node,NodeWf z∧∃b o cs',some a=some ⟨b,o,none⟩∧NodeAt (hp w) z cs'∧AtP (hp w) b (o+i*5) cs':=by
    intro i hi
    have h1:=hel i hi
    rw[List.getElem?_eq_getElem (by omega),kn] at h1
    obtain⟨cs',hc,ht'⟩:=Option.bind_eq_some_iff.1 h1
    obtain⟨_,hcl,hat⟩:=World.cells?_some hc
    obtain⟨z,hz,hw⟩:=ih m (by omega) ht'
    have h0:=hel 0 (by omega)
    rw[List.getElem?_eq_getElem (by omega),kn] at h0
    obtain⟨cs0,hc0,_⟩:=Option.bind_eq_some_iff.1 h0
    obtain⟨_,hcl0,hat0⟩:=World.cells?_some hc0
    have hs0:=hat0 0 (by omega)
    rw[List.getElem?_eq_getElem (by omega)] at hs0
    obtain⟨b,o,sp⟩:=a
    have hsp:sp=none:=by
     cases sp with
     |none=>rfl
     |some s=>
      simp[Addr.add,World.cell?] at hs0
      split at hs0<;>cases hs0
    subst hsp
    refine⟨z,hw,b,o,cs',rfl,hz,fun j u hj=>?_⟩
    have hjl:j<5:=by rw[←hcl];exact(List.getElem?_eq_some_iff.1 hj).1
    have:=hat j hjl
    rw[Addr.add_lit,Addr.add_lit,hj] at this
    unfold World.cell? at this
    simp only[Option.isSome_none,Bool.false_eq_true,if_false] at this
    exact this
   obtain⟨l,hll,hp⟩:=aB7 len key
   refine⟨⟨n0,n1,n2,n3,l⟩,NodeAt.shut ⟨some a,cap,by rw[hll],by rw[hll];exact hle,fun i z hz=>(hp i z hz).2⟩,.mk _ _ _ _ _ (I64.of w0) w1 (I64.of w2) (I64.of w3) (by omega) (fun z hz=>?_)⟩
   obtain⟨i,hi⟩:=List.getElem?_of_mem hz
   exact(hp i z hi).1
theorem reads_node:Reads Tryz.prog 24 Node NodeWf:=⟨by kernel_rfl,by decide,fun h=>node_trod _ h⟩
theorem own_:ownKnob Tryz.prog.godebug=none:=by kernel_rfl
theorem laidOut_:laidOutB Tryz.prog=true:=by kernel_rfl
set_option maxRecDepth 100000 in
theorem reads58:Reads Tryz.prog 58 Chg (fun a:Chg=>I64 a.op∧I64 a.node∧I64 a.index∧I64 a.count∧I64 a.kind∧a.text.size≤maxLen):=⟨by kernel_rfl,by decide,fun{H enc w base spare held fuel cs x} h=>by
 obtain⟨xs,n,_,_,hl,hx,hf⟩:=DataW.trod_struct Tryz.underlying58 h
 have hl2:cs.length=6:=hl.trans (by kernel_rfl)
 have hx2:xs.length=6:=hx
 have k3:Tryz.prog.cellsOf 3=1:=by kernel_rfl
 have k9:Tryz.prog.cellsOf 9=1:=by kernel_rfl
 match cs,hl2,xs,hx2 with
 | [c0,c1,c2,c3,c4,c5],_,[y0,y1,y2,y3,y4,y5],_=>
  have z0:=hf 0 _ rfl
  simp[k3] at z0
  obtain⟨n0,e0,_,w0⟩:=DataW.trod_int Tryz.underlying3 z0
  have z1:=hf 1 _ rfl
  simp[k3] at z1
  obtain⟨n1,e1,_,w1⟩:=DataW.trod_int Tryz.underlying3 z1
  have z2:=hf 2 _ rfl
  simp[k3] at z2
  obtain⟨n2,e2,_,w2⟩:=DataW.trod_int Tryz.underlying3 z2
  have z3:=hf 3 _ rfl
  simp[k3] at z3
  obtain⟨n3,e3,_,w3⟩:=DataW.trod_int Tryz.underlying3 z3
  have z4:=hf 4 _ rfl
  simp[k3] at z4
  obtain⟨n4,e4,_,w4⟩:=DataW.trod_int Tryz.underlying3 z4
  have z5:=hf 5 _ rfl
  simp[k9] at z5
  obtain⟨n5,e5,_,w5⟩:=DataW.trod_string Tryz.underlying9 z5
  simp only[List.cons.injEq,and_true] at e0 e1 e2 e3 e4 e5
  subst e0 e1 e2 e3 e4 e5
  exact⟨⟨n0,n1,n2,n3,n4,n5⟩,rfl,I64.of w0,I64.of w1,I64.of w2,I64.of w3,I64.of w4,w5⟩⟩
noncomputable def jW (p0:Node) (self:Node→Option Int) (aQ:Int) (aT:Int):Option (Step (Int×Int) Int):=
 if(decide (aT<(p0.kids.length:Int)))=true then
  (idx p0.kids aT).bind fun x1=>
  (self x1).bind fun x2=>
  (inK .i64 (aQ+x2)).bind fun x3=>
  (inK .i64 (aT+1)).bind fun x4=>
  some (.next (x3,x4))
 else
  some (.done aQ)
noncomputable def lT (self:Node→Option Int) (p0:Node):Option Int:=
 (eH (fun s=>jW p0 self s.1 s.2) (1,0):Option Int).bind fun b2=>
 some b2
noncomputable def jG:Nat→Node→Option Int
 |0=>fun _=>none
 |n+1=>lT (jG n)
noncomputable def kT (p0:Node):Option Int:=jG (SizeOf.sizeOf p0+1) p0
noncomputable def pW (p0:Node) (p1:Node):Option Bool:=
 some ((decide (p0.kind=p1.kind))&&(decide (p0.text=p1.text)))
noncomputable def gX (p0:Node) (p1:Node) (self:Node→Node→Option Bool) (aQ:Int):Option (Step Int (Out Unit Bool)):=
 if(decide (aQ<(p0.kids.length:Int)))=true then
  (idx p0.kids aQ).bind fun x2=>
  (idx p1.kids aQ).bind fun x3=>
  (self x2 x3).bind fun x4=>
  if(!x4)=true then
   some (.done (.ret false))
  else
   (inK .i64 (aQ+1)).bind fun x5=>
   some (.next x5)
 else
  some (.done (.brk ()))
noncomputable def mY (self:Node→Node→Option Bool) (p0:Node) (p1:Node):Option Bool:=
 (pW p0 p1).bind fun x1=>
 if((!x1)||(!decide ((p0.kids.length:Int)=(p1.kids.length:Int))))=true then
  some false
 else
  (eH (fun s=>gX p0 p1 self s) 0:Option (Out Unit Bool)).bind fun b3=>
  match b3 with
  | .brk b3s=>
   some true
  | .ret r=>some r
noncomputable def iO:Nat→Node→Node→Option Bool
 |0=>fun _ _=>none
 |n+1=>mY (iO n)
noncomputable def qK (p0:Node) (p1:Node):Option Bool:=iO (SizeOf.sizeOf p0+1) p0 p1
noncomputable def iR (p0:Node) (self:Node→Int→Option Int) (aQ:Int) (aT:Int):Option (Step (Int×Int) Int):=
 if((decide (aT<(p0.kids.length:Int)))&&(decide (0≤aQ)))=true then
  (idx p0.kids aT).bind fun x2=>
  (self x2 aQ).bind fun x3=>
  (inK .i64 (aT+1)).bind fun x4=>
  some (.next (x3,x4))
 else
  some (.done aQ)
noncomputable def nK (self:Node→Int→Option Int) (p0:Node) (p1:Int):Option Int:=
 if((decide (p1<1))||(decide (40<(p0.text.size:Int))))=true then
  some (-1)
 else
  (inK .i64 (p1-1)).bind fun x1=>
  (eH (fun s=>iR p0 self s.1 s.2) (x1,0):Option Int).bind fun b2=>
  some b2
noncomputable def jD:Nat→Node→Int→Option Int
 |0=>fun _ _=>none
 |n+1=>nK (jD n)
noncomputable def vO (p0:Node) (p1:Int):Option Int:=jD (SizeOf.sizeOf p0+1) p0 p1
noncomputable def oU (p0:Node) (p1:Int):Option Bool:=
 (vO p0 p1).bind fun x1=>
 some (decide (0≤x1))
noncomputable def jL (p0:ByteArray):Option Node:=
 some (Node.mk 20 p0 0 0 ([]))
noncomputable def lS (p0:ByteArray) (p1:Node) (p2:Node):Option Node:=
 some (Node.mk 29 p0 0 0 ([p1,p2]:List Node))
noncomputable def kQ (p0:(List Node)) (self:(List Node)→Int→Option Node) (aQ:Int) (aT:Int):Option (Step (Int×Int) (Out Unit Node)):=
 if(decide (aT<(p0.length:Int)))=true then
  (idx p0 aT).bind fun x1=>
  (kT x1).bind fun x2=>
  if(decide (aQ=0))=true then
   some (.done (.ret x1))
  else
   if(decide (aQ<x2))=true then
    (inK .i64 (aQ-1)).bind fun x3=>
    (self x1.kids x3).bind fun x4=>
    some (.done (.ret x4))
   else
    (inK .i64 (aQ-x2)).bind fun x5=>
    (inK .i64 (aT+1)).bind fun x6=>
    some (.next (x5,x6))
 else
  some (.done (.brk ()))
noncomputable def mX (self:(List Node)→Int→Option Node) (p0:(List Node)) (p1:Int):Option Node:=
 (eH (fun s=>kQ p0 self s.1 s.2) (p1,0):Option (Out Unit Node)).bind fun b2=>
 match b2 with
 | .brk b2s=>
  some (Node.mk 0 ByteArray.empty 0 0 ([]))
 | .ret r=>some r
noncomputable def iM:Nat→(List Node)→Int→Option Node
 |0=>fun _ _=>none
 |n+1=>mX (iM n)
noncomputable def lI (p0:(List Node)) (p1:Int):Option Node:=iM (SizeOf.sizeOf p0+1) p0 p1
noncomputable def nS (p0:(List Node)) (p1:Int):Option (List Node):=
 (lI p0 p1).bind fun x1=>
 some x1.kids
noncomputable def iT (p0:(List Node)) (p1:(List Node)) (aQ:Int):Option (Step Int (Out Unit Bool)):=
 if(decide (aQ<(p0.length:Int)))=true then
  (idx p0 aQ).bind fun x1=>
  (idx p1 aQ).bind fun x2=>
  (qK x1 x2).bind fun x3=>
  if(!x3)=true then
   some (.done (.ret false))
  else
   (inK .i64 (aQ+1)).bind fun x4=>
   some (.next x4)
 else
  some (.done (.brk ()))
noncomputable def gG (p0:(List Node)) (p1:(List Node)):Option Bool:=
 if(!decide ((p0.length:Int)=(p1.length:Int)))=true then
  some false
 else
  (eH (fun s=>iT p0 p1 s) 0:Option (Out Unit Bool)).bind fun b1=>
  match b1 with
  | .brk b1s=>
   some true
  | .ret r=>some r
mutual
def iH:Node→Nat
 |⟨_,_,_,_,kids⟩=>1+gB kids
def gB:List Node→Nat
 | []=>0
 |k::l=>iH k+gB l
end
def m_count (n:Node):Option Int:=if iH n<4611686018427387904 then some (iH n:Int) else none
noncomputable def gZ (p0:Nmb) (p1:Int) (p2:Int):Option Bool:=
 ((if(decide (p1<p2))=true then
  (idx p0.sizes p1).bind fun x1=>
  (inK .i64 (p1+x1)).bind fun x2=>
  some (decide (p2<x2))
 else
  some false):Option Bool).bind fun m1=>
 some m1
noncomputable def qJ (p0:Node) (p1:Node):Option Bool:=
 some ((decide (p0.kind=p1.kind))&&(decide (p0.text=p1.text)))
noncomputable def vK (p0:Node) (cp0:Nmb) (self:Node→Int→Nmb→Option Nmb) (aQ:Int) (aT:(List Node)) (eF:(List Int)) (iD:(List Int)):Option (Step (Int×(List Node)×(List Int)×(List Int)) ((List Node)×(List Int)×(List Int))):=
 if(decide (aQ<(p0.kids.length:Int)))=true then
  (idx p0.kids aQ).bind fun x5=>
  (self x5 (cp0.nodes.length:Int) (Nmb.mk aT eF iD)).bind fun x6=>
  (inK .i64 (aQ+1)).bind fun x7=>
  some (.next (x7,x6.nodes,x6.sizes,x6.parent))
 else
  some (.done (aT,eF,iD))
noncomputable def tN (self:Node→Int→Nmb→Option Nmb) (p0:Node) (p1:Int) (cp0:Nmb):Option Nmb:=
 (app cp0.nodes [p0]).bind fun x1=>
 (m_count p0).bind fun x2=>
 (app cp0.sizes [x2]).bind fun x3=>
 (app cp0.parent [p1]).bind fun x4=>
 (eH (fun s=>vK p0 cp0 self s.1 s.2.1 s.2.2.1 s.2.2.2) (0,x1,x3,x4):Option ((List Node)×(List Int)×(List Int))).bind fun b18=>
 some (Nmb.mk b18.1 b18.2.1 b18.2.2)
noncomputable def sN:Nat→Node→Int→Nmb→Option Nmb
 |0=>fun _ _ _=>none
 |n+1=>tN (sN n)
noncomputable def W9 (p0:Node) (p1:Int) (cp0:Nmb):Option Nmb:=sN (SizeOf.sizeOf p0+1) p0 p1 cp0
noncomputable def kU (p0:Node):Option Nmb:=
 (W9 p0 (-1) (Nmb.mk ([]) ([]) ([]))).bind fun x1=>
 some x1
noncomputable def qI (p0:Int) (cp1:Nmb) (self:Int→(List Int)→Nmb→(List Int)→Option ((List Int)×(List Int))) (aQ:Int) (aT:(List Int)) (eF:(List Int)):Option (Step (Int×(List Int)×(List Int)) ((List Int)×(List Int))):=
 (idx cp1.sizes p0).bind fun x2=>
 (inK .i64 (p0+x2)).bind fun x3=>
 if(decide (aQ<x3))=true then
  (self aQ aT cp1 eF).bind fun x4=>
  (idx cp1.sizes aQ).bind fun x5=>
  (inK .i64 (aQ+x5)).bind fun x6=>
  some (.next (x6,x4.1,x4.2))
 else
  some (.done (aT,eF))
noncomputable def oN (self:Int→(List Int)→Nmb→(List Int)→Option ((List Int)×(List Int))) (p0:Int) (cp0:(List Int)) (cp1:Nmb) (cp3:(List Int)):Option ((List Int)×(List Int)):=
 (inK .i64 (p0+1)).bind fun x1=>
 (eH (fun s=>qI p0 cp1 self s.1 s.2.1 s.2.2) (x1,cp0,cp3):Option ((List Int)×(List Int))).bind fun b1=>
 (app b1.1 [p0]).bind fun x7=>
 (app b1.2 [(cp0.length:Int)]).bind fun x8=>
 some (x7,x8)
noncomputable def mW:Nat→Int→(List Int)→Nmb→(List Int)→Option ((List Int)×(List Int))
 |0=>fun _ _ _ _=>none
 |n+1=>oN (mW n)
noncomputable def wQ (p0:Int) (cp0:(List Int)) (cp1:Nmb) (cp3:(List Int)):Option ((List Int)×(List Int)):=mW (cp1.sizes.length+1) p0 cp0 cp1 cp3
noncomputable def pU (p0:Nmb):Option ((List Int)×(List Int)):=
 (wQ 0 [] p0 []).bind fun x1=>
 some (x1.1,x1.2)
noncomputable def sH (p0:(List Bool)) (p1:Bool) (aQ:Int):Option (Step Int (Out Unit Int)):=
 if(decide (aQ<(p0.length:Int)))=true then
  (idx p0 aQ).bind fun x1=>
  if(p1==x1)=true then
   some (.done (.ret aQ))
  else
   (inK .i64 (aQ+1)).bind fun x2=>
   some (.next x2)
 else
  some (.done (.brk ()))
noncomputable def qC (p0:(List Bool)) (p1:Bool):Option Int:=
 (eH (fun s=>sH p0 p1 s) 0:Option (Out Unit Int)).bind fun b1=>
 match b1 with
 | .brk b1s=>
  some (-1)
 | .ret r=>some r
noncomputable def oO (p0:(List Bool)) (p1:Bool):Option Bool:=
 (qC p0 p1).bind fun x1=>
 some (decide (0≤x1))
noncomputable def Q3 (p2:(List Opn)) (x1:Nmb) (aQ:Int) (aT:Int) (eF:(List Opn)) (iD:(List Bool)):Option (Step (Int×Int×(List Opn)×(List Bool)) (Out ((List Opn)×(List Bool)) Bool)):=
 if(decide (aT<(p2.length:Int)))=true then
  (((idx p2 aT).bind fun x4=>
  if((((((!((decide (aT<(x1.nodes.length:Int)))==(decide (0≤x4.a))))||((decide (0≤x4.a))&&(!decide (x4.a=aT))))||((decide (x4.a<0))&&(!decide (x4.a=(-1)))))||(decide (x4.b<(-1))))||(decide ((iD.length:Int)≤x4.b)))||((decide (x4.a<0))&&(decide (x4.b≤aQ))))=true then
   some (.ret false)
  else
   ((if(decide (x4.a<0))=true then
    some x4.b
   else
    some aQ):Option Int).bind fun j2=>
   if(decide (x4.b<0))=true then
    some (.brk (j2,eF,iD))
   else
    (idx iD x4.b).bind fun x5=>
    if x5=true then
     some (.ret false)
    else
     (idx iD x4.b).bind fun x6=>
     if(decide (0≤x4.a))=true then
      (app eF [x4]).bind fun x7=>
      some (.brk (j2,x7,iD.set x4.b.toNat true))
     else
      some (.brk (j2,eF,iD.set x4.b.toNat true))):Option (Out (Int×(List Opn)×(List Bool)) Bool)).bind fun j1=>
  match j1 with
  | .brk j1s=>
   (inK .i64 (aT+1)).bind fun x8=>
   some (.next (j1s.1,x8,j1s.2.1,j1s.2.2))
  | .ret r=>some (.done (.ret r))
 else
  some (.done (.brk (eF,iD)))
noncomputable def Q5 (x1:Nmb) (x2:Nmb) (x9:Opn) (x10:List Opn) (fK:Int):Option (Step Int (Out Unit Bool)):=
 if(decide (fK<(x10.length:Int)))=true then
  (idx x10 fK).bind fun x11=>
  ((if(decide (x9.b<x11.b))=true then
   (gZ x2 x9.b x11.b).bind fun x12=>
   some (!x12)
  else
   some false):Option Bool).bind fun m1=>
  ((if m1=true then
   some true
  else
   (gZ x1 x11.a x9.a).bind fun x13=>
   (gZ x2 x11.b x9.b).bind fun x14=>
   some (!(x13==x14))):Option Bool).bind fun m2=>
  ((if m2=true then
   some true
  else
   (gZ x2 x9.b x11.b).bind fun x15=>
   some x15):Option Bool).bind fun m3=>
  if m3=true then
   some (.done (.ret false))
  else
   (inK .i64 (fK+1)).bind fun x16=>
   some (.next x16)
 else
  some (.done (.brk ()))
noncomputable def Q4 (x1:Nmb) (x2:Nmb) (b23s:((List Opn)×(List Bool))) (bK:Int):Option (Step Int (Out Unit Bool)):=
 if(decide (bK<(b23s.1.length:Int)))=true then
  (idx b23s.1 bK).bind fun x9=>
  (sub b23s.1 0 bK).bind fun x10=>
  (eH (fun s=>Q5 x1 x2 x9 x10 s) 0:Option (Out Unit Bool)).bind fun b32=>
  match b32 with
  | .brk b32s=>
   (inK .i64 (bK+1)).bind fun x17=>
   some (.next x17)
  | .ret r=>some (.done (.ret r))
 else
  some (.done (.brk ()))
noncomputable def vV (p0:Node) (p1:Node) (p2:(List Opn)):Option Bool:=
 (kU p0).bind fun x1=>
 (kU p1).bind fun x2=>
 if(decide ((p2.length:Int)<(x1.nodes.length:Int)))=true then
  some false
 else
  (mkc (x2.nodes.length:Int) (x2.nodes.length:Int) (false:Bool)).bind fun x3=>
  (eH (fun s=>Q3 p2 x1 s.1 s.2.1 s.2.2.1 s.2.2.2) ((-1),0,[],x3):Option (Out ((List Opn)×(List Bool)) Bool)).bind fun b23=>
  match b23 with
  | .brk b23s=>
   (eH (fun s=>Q4 x1 x2 b23s s) 0:Option (Out Unit Bool)).bind fun b29=>
   match b29 with
   | .brk b29s=>
    (oO b23s.2 false).bind fun x18=>
    some (!x18)
   | .ret r=>some r
  | .ret r=>some r
noncomputable def V9 (p2:(List Opn)) (x2:Nmb) (x3:Nmb) (aQ:Int) (aT:Int):Option (Step (Int×Int) Int):=
 if(decide (aT<(p2.length:Int)))=true then
  (idx p2 aT).bind fun x4=>
  ((if((decide (x4.a<0))||(decide (x4.b<0)))=true then
   some true
  else
   (idx x2.nodes x4.a).bind fun x5=>
   (idx x3.nodes x4.b).bind fun x6=>
   (qJ x5 x6).bind fun x7=>
   some (!x7)):Option Bool).bind fun m1=>
  if m1=true then
   (inK .i64 (aQ+1)).bind fun x8=>
   (inK .i64 (aT+1)).bind fun x9=>
   some (.next (x8,x9))
  else
   (inK .i64 (aT+1)).bind fun x10=>
   some (.next (aQ,x10))
 else
  some (.done aQ)
noncomputable def Z7 (p0:Node) (p1:Node) (p2:(List Opn)):Option (Int×Int):=
 (vV p0 p1 p2).bind fun x1=>
 if(!x1)=true then
  some (0,1)
 else
  (kU p0).bind fun x2=>
  (kU p1).bind fun x3=>
  (eH (fun s=>V9 p2 x2 x3 s.1 s.2) (0,0):Option Int).bind fun b23=>
  some (b23,0)
def m_grow (n:Int):Option (List Chg):=if 0≤n∧n≤4294967296 then some [] else none
noncomputable def rG (p0:Nmb) (p1:Int) (p2:(List Bool)) (aQ:Int) (aT:Int):Option (Step (Int×Int) Int):=
 if(decide (aQ<(p2.length:Int)))=true then
  (idx p2 aQ).bind fun x3=>
  (idx p0.parent p1).bind fun x4=>
  if(decide (aQ=x4))=true then
   (inK .i64 (aT+1)).bind fun x5=>
   some (.done x5)
  else
   ((if x3=true then
    (idx p0.parent p1).bind fun x6=>
    some (decide (0≤x6))
   else
    some false):Option Bool).bind fun m1=>
   if m1=true then
    (inK .i64 (aT+1)).bind fun x7=>
    (inK .i64 (aQ+1)).bind fun x8=>
    some (.next (x8,x7))
   else
    (inK .i64 (aQ+1)).bind fun x9=>
    some (.next (x9,aT))
 else
  some (.done aT)
noncomputable def rJ (p0:Nmb) (p2:(List Bool)) (fK:Int):Option (Step Int Int):=
 ((if(decide (0≤fK))=true then
  (idx p2 fK).bind fun x15=>
  some (!x15)
 else
  some false):Option Bool).bind fun m4=>
 if m4=true then
  (idx p0.parent fK).bind fun x16=>
  some (.next x16)
 else
  some (.done fK)
noncomputable def rH (p0:Nmb) (p1:Int) (p2:(List Bool)) (bK:Int) (dR:Int) (xK:Int):Option (Step (Int×Int×Int) (Int×Int)):=
 if(decide (bK<(p2.length:Int)))=true then
  (((idx p2 bK).bind fun x10=>
  ((if(!x10)=true then
   some true
  else
   (idx p0.parent p1).bind fun x11=>
   ((if(decide (0≤x11))=true then
    (idx p0.parent p1).bind fun x12=>
    (gZ p0 x12 bK).bind fun x13=>
    some (!x13)
   else
    some false):Option Bool).bind fun m3=>
   some m3):Option Bool).bind fun m2=>
  if m2=true then
   some (dR,xK)
  else
   (idx p0.parent bK).bind fun x14=>
   (eH (fun s=>rJ p0 p2 s) x14:Option Int).bind fun b18=>
   (idx p0.parent p1).bind fun x17=>
   if(!decide (b18=x17))=true then
    some (dR,xK)
   else
    if(decide (bK<p1))=true then
     (inK .i64 (dR+1)).bind fun x18=>
     some (x18,xK)
    else
     (gZ p0 p1 bK).bind fun x19=>
     if x19=true then
      (inK .i64 (xK+1)).bind fun x20=>
      some (dR,x20)
     else
      some (dR,xK)):Option (Int×Int)).bind fun j1=>
  (inK .i64 (bK+1)).bind fun x21=>
  some (.next (x21,j1.1,j1.2))
 else
  some (.done (dR,xK))
noncomputable def pK (p0:Nmb) (p1:Int) (p2:(List Bool)):Option Chg:=
 (idx p0.nodes p1).bind fun x1=>
 (idx p0.nodes p1).bind fun x2=>
 (eH (fun s=>rG p0 p1 p2 s.1 s.2) (0,(-1)):Option Int).bind fun b9=>
 (eH (fun s=>rH p0 p1 p2 s.1 s.2.1 s.2.2) (0,0,0):Option (Int×Int)).bind fun b13=>
 some (Chg.mk 2 b9 b13.1 b13.2 x1.kind x2.text)
noncomputable def xZ (aQ:Int) (aT:Int) (eF:(List Chg)):Option (Step (Int×Int×(List Chg)) (List Chg)):=
 if(decide (aQ<aT))=true then
  (idx eF aT).bind fun x2=>
  (idx eF aQ).bind fun x3=>
  (idx eF aQ).bind fun x4=>
  (idx (eF.set aQ.toNat x2) aT).bind fun x5=>
  (inK .i64 (aQ+1)).bind fun x6=>
  (inK .i64 (aT-1)).bind fun x7=>
  some (.next (x6,x7,(eF.set aQ.toNat x2).set aT.toNat x3))
 else
  some (.done eF)
noncomputable def xQ (p0:(List Chg)):Option (List Chg):=
 (inK .i64 ((p0.length:Int)-1)).bind fun x1=>
 (eH (fun s=>xZ s.1 s.2.1 s.2.2) (0,x1,p0):Option (List Chg)).bind fun b1=>
 some b1
noncomputable def zB (p0:(List (List Chg))) (aQ:Int) (aT:Int):Option (Step (Int×Int) Int):=
 if(decide (aT<(p0.length:Int)))=true then
  (idx p0 aT).bind fun x1=>
  (inK .i64 (aQ+(x1.length:Int))).bind fun x2=>
  if(decide (x2<0))=true then
   none
  else
   (inK .i64 (aT+1)).bind fun x3=>
   some (.next (x2,x3))
 else
  some (.done aQ)
noncomputable def zC (p0:(List (List Chg))) (bK:Int) (dR:(List Chg)):Option (Step (Int×(List Chg)) (List Chg)):=
 if(decide (bK<(p0.length:Int)))=true then
  (idx p0 bK).bind fun x5=>
  (app dR x5).bind fun x6=>
  (inK .i64 (bK+1)).bind fun x7=>
  some (.next (x7,x6))
 else
  some (.done dR)
noncomputable def yF (p0:(List (List Chg))):Option (List Chg):=
 (eH (fun s=>zB p0 s.1 s.2) (0,0):Option Int).bind fun b1=>
 (m_grow b1).bind fun x4=>
 (eH (fun s=>zC p0 s.1 s.2) (0,x4):Option (List Chg)).bind fun b3=>
 some b3
noncomputable def zV (p2:(List Opn)) (x2:Nmb) (x3:Nmb) (aQ:Int) (aT:(List Chg)) (eF:(List Chg)) (iD:(List Bool)):Option (Step (Int×(List Chg)×(List Chg)×(List Bool)) ((List Chg)×(List Chg)×(List Bool))):=
 if(decide (aQ<(p2.length:Int)))=true then
  (idx p2 aQ).bind fun x5=>
  if(decide (x5.b<0))=true then
   (app eF [(Chg.mk 1 x5.a 0 0 0 ByteArray.empty)]).bind fun x6=>
   (inK .i64 (aQ+1)).bind fun x7=>
   some (.next (x7,aT,x6,iD))
  else
   if(decide (0≤x5.a))=true then
    (idx iD x5.b).bind fun x8=>
    (idx x3.nodes x5.b).bind fun x9=>
    (idx x2.nodes x5.a).bind fun x10=>
    (qJ x10 x9).bind fun x11=>
    if(!x11)=true then
     (app aT [(Chg.mk 0 x5.a 0 0 x9.kind x9.text)]).bind fun x12=>
     (inK .i64 (aQ+1)).bind fun x13=>
     some (.next (x13,x12,eF,iD.set x5.b.toNat true))
    else
     (inK .i64 (aQ+1)).bind fun x14=>
     some (.next (x14,aT,eF,iD.set x5.b.toNat true))
   else
    (inK .i64 (aQ+1)).bind fun x15=>
    some (.next (x15,aT,eF,iD))
 else
  some (.done (aT,eF,iD))
noncomputable def zW (p2:(List Opn)) (x3:Nmb) (bK:Int) (dR:(List Chg)) (xK:(List Bool)):Option (Step (Int×(List Chg)×(List Bool)) ((List Chg)×(List Bool))):=
 if(decide (bK<(p2.length:Int)))=true then
  (idx p2 bK).bind fun x16=>
  if(decide (x16.a<0))=true then
   (pK x3 x16.b xK).bind fun x17=>
   (app dR [x17]).bind fun x18=>
   (idx xK x16.b).bind fun x19=>
   (inK .i64 (bK+1)).bind fun x20=>
   some (.next (x20,x18,xK.set x16.b.toNat true))
  else
   (inK .i64 (bK+1)).bind fun x21=>
   some (.next (x21,dR,xK))
 else
  some (.done (dR,xK))
noncomputable def zQ (p0:Node) (p1:Node) (p2:(List Opn)):Option ((List Chg)×Int):=
 (vV p0 p1 p2).bind fun x1=>
 if(!x1)=true then
  some ([],1)
 else
  (kU p0).bind fun x2=>
  (kU p1).bind fun x3=>
  (mkc (x3.nodes.length:Int) (x3.nodes.length:Int) (false:Bool)).bind fun x4=>
  (eH (fun s=>zV p2 x2 x3 s.1 s.2.1 s.2.2.1 s.2.2.2) (0,[],[],x4):Option ((List Chg)×(List Chg)×(List Bool))).bind fun b23=>
  (eH (fun s=>zW p2 x3 s.1 s.2.1 s.2.2) (0,[],b23.2.2):Option ((List Chg)×(List Bool))).bind fun b32=>
  (xQ b23.2.1).bind fun x22=>
  (yF ([b23.1,x22,b32.1]:List (List Chg))).bind fun x23=>
  some (x23,0)
noncomputable def oC (p0:Alg) (p1:Int) (p2:Int):Option Int:=
 (idx p0.orderA p1).bind fun x1=>
 (idx p0.a.nodes x1).bind fun x2=>
 (idx p0.orderB p2).bind fun x3=>
 (idx p0.b.nodes x3).bind fun x4=>
 (qJ x2 x4).bind fun x5=>
 if x5=true then
  some 0
 else
  some 1
noncomputable def uB (p0:Alg) (x1:Int) (x2:Int) (aQ:Int) (x10:(List Int)) (bK:Int) (dR:(List (List Int))):Option (Step (Int×(List (List Int))) (List (List Int))):=
 if(decide (bK<(x10.length:Int)))=true then
  if((decide (aQ=0))||(decide (bK=0)))=true then
   (idx dR aQ).bind fun x11=>
   (inK .i64 (aQ+bK)).bind fun x12=>
   (idx x11 bK).bind fun x13=>
   (inK .i64 (bK+1)).bind fun x14=>
   some (.next (x14,dR.set aQ.toNat (x11.set bK.toNat x12)))
  else
   (inK .i64 (x1+aQ)).bind fun x15=>
   (inK .i64 (x15-1)).bind fun x16=>
   (idx p0.leftA x16).bind fun x17=>
   ((if(decide (x17=x1))=true then
    (inK .i64 (x2+bK)).bind fun x18=>
    (inK .i64 (x18-1)).bind fun x19=>
    (idx p0.leftB x19).bind fun x20=>
    some (decide (x20=x2))
   else
    some false):Option Bool).bind fun m1=>
   if m1=true then
    (idx dR aQ).bind fun x21=>
    (inK .i64 (aQ-1)).bind fun x22=>
    (idx dR x22).bind fun x23=>
    (idx x23 bK).bind fun x24=>
    (inK .i64 (x24+1)).bind fun x25=>
    (idx dR aQ).bind fun x26=>
    (inK .i64 (bK-1)).bind fun x27=>
    (idx x26 x27).bind fun x28=>
    (inK .i64 (x28+1)).bind fun x29=>
    (inK .i64 (aQ-1)).bind fun x30=>
    (idx dR x30).bind fun x31=>
    (inK .i64 (bK-1)).bind fun x32=>
    (idx x31 x32).bind fun x33=>
    (inK .i64 (x1+aQ)).bind fun x34=>
    (inK .i64 (x34-1)).bind fun x35=>
    (inK .i64 (x2+bK)).bind fun x36=>
    (inK .i64 (x36-1)).bind fun x37=>
    (oC p0 x35 x37).bind fun x38=>
    (inK .i64 (x33+x38)).bind fun x39=>
    (idx x21 bK).bind fun x40=>
    (inK .i64 (bK+1)).bind fun x41=>
    some (.next (x41,dR.set aQ.toNat (x21.set bK.toNat (min (min x25 x29) x39))))
   else
    (idx dR aQ).bind fun x42=>
    (inK .i64 (aQ-1)).bind fun x43=>
    (idx dR x43).bind fun x44=>
    (idx x44 bK).bind fun x45=>
    (inK .i64 (x45+1)).bind fun x46=>
    (idx dR aQ).bind fun x47=>
    (inK .i64 (bK-1)).bind fun x48=>
    (idx x47 x48).bind fun x49=>
    (inK .i64 (x49+1)).bind fun x50=>
    (inK .i64 (x1+aQ)).bind fun x51=>
    (inK .i64 (x51-1)).bind fun x52=>
    (idx p0.leftA x52).bind fun x53=>
    (inK .i64 (x53-x1)).bind fun x54=>
    (idx dR x54).bind fun x55=>
    (inK .i64 (x2+bK)).bind fun x56=>
    (inK .i64 (x56-1)).bind fun x57=>
    (idx p0.leftB x57).bind fun x58=>
    (inK .i64 (x58-x2)).bind fun x59=>
    (idx x55 x59).bind fun x60=>
    (inK .i64 (x1+aQ)).bind fun x61=>
    (inK .i64 (x61-1)).bind fun x62=>
    (idx p0.orderA x62).bind fun x63=>
    (idx p0.distances x63).bind fun x64=>
    (inK .i64 (x2+bK)).bind fun x65=>
    (inK .i64 (x65-1)).bind fun x66=>
    (idx p0.orderB x66).bind fun x67=>
    (idx x64 x67).bind fun x68=>
    (inK .i64 (x60+x68)).bind fun x69=>
    (idx x42 bK).bind fun x70=>
    (inK .i64 (bK+1)).bind fun x71=>
    some (.next (x71,dR.set aQ.toNat (x42.set bK.toNat (min (min x46 x50) x69))))
 else
  some (.done dR)
noncomputable def uA (p0:Alg) (p2:Int) (x1:Int) (x2:Int) (x5:(List (List Int))) (aQ:Int) (aT:(List (List Int))):Option (Step (Int×(List (List Int))) (List (List Int))):=
 if(decide (aQ<(x5.length:Int)))=true then
  (inK .i64 (p2-x2)).bind fun x6=>
  (inK .i64 (x6+2)).bind fun x7=>
  (mkc x7 x7 (0:Int)).bind fun x8=>
  (idx aT aQ).bind fun x9=>
  (idx (aT.set aQ.toNat x8) aQ).bind fun x10=>
  (eH (fun s=>uB p0 x1 x2 aQ x10 s.1 s.2) (0,aT.set aQ.toNat x8):Option (List (List Int))).bind fun b6=>
  (inK .i64 (aQ+1)).bind fun x72=>
  some (.next (x72,b6))
 else
  some (.done aT)
noncomputable def rF (p0:Alg) (p1:Int) (p2:Int):Option (List (List Int)):=
 (idx p0.leftA p1).bind fun x1=>
 (idx p0.leftB p2).bind fun x2=>
 (inK .i64 (p1-x1)).bind fun x3=>
 (inK .i64 (x3+2)).bind fun x4=>
 (mkc x4 x4 ([]:(List Int))).bind fun x5=>
 (eH (fun s=>uA p0 p2 x1 x2 x5 s.1 s.2) (0,x5):Option (List (List Int))).bind fun b3=>
 some b3
noncomputable def sF (p0:Alg) (self:Alg→Int→Int→Option Alg) (x1:Int) (x2:Int) (x3:(List (List Int))) (aQ:Int) (aT:Int) (eF:(List Int)) (iD:(List Int)):Option (Step (Int×Int×(List Int)×(List Int)) ((List Int)×(List Int))):=
 if((decide (0<aQ))&&(decide (0<aT)))=true then
  (inK .i64 (x1+aQ)).bind fun x7=>
  (inK .i64 (x7-1)).bind fun x8=>
  (inK .i64 (x2+aT)).bind fun x9=>
  (inK .i64 (x9-1)).bind fun x10=>
  (idx p0.leftA x8).bind fun x11=>
  ((if(decide (x11=x1))=true then
   (idx p0.leftB x10).bind fun x12=>
   some (decide (x12=x2))
  else
   some false):Option Bool).bind fun m1=>
  ((if m1=true then
   (idx x3 aQ).bind fun x13=>
   (idx x13 aT).bind fun x14=>
   (inK .i64 (aQ-1)).bind fun x15=>
   (idx x3 x15).bind fun x16=>
   (inK .i64 (aT-1)).bind fun x17=>
   (idx x16 x17).bind fun x18=>
   (oC (Alg.mk p0.a p0.b p0.orderA p0.leftA p0.orderB p0.leftB p0.distances eF iD) x8 x10).bind fun x19=>
   (inK .i64 (x18+x19)).bind fun x20=>
   some (decide (x14=x20))
  else
   some false):Option Bool).bind fun m2=>
  if m2=true then
   (idx p0.orderA x8).bind fun x21=>
   (idx p0.orderB x10).bind fun x22=>
   (idx p0.orderB x10).bind fun x23=>
   (idx p0.orderA x8).bind fun x24=>
   (idx eF x21).bind fun x25=>
   (idx iD x22).bind fun x26=>
   (inK .i64 (aQ-1)).bind fun x27=>
   (inK .i64 (aT-1)).bind fun x28=>
   some (.next (x27,x28,eF.set x21.toNat x23,iD.set x22.toNat x24))
  else
   (idx x3 aQ).bind fun x29=>
   (idx x29 aT).bind fun x30=>
   (inK .i64 (aQ-1)).bind fun x31=>
   (idx x3 x31).bind fun x32=>
   (idx x32 aT).bind fun x33=>
   (inK .i64 (x33+1)).bind fun x34=>
   if(decide (x30=x34))=true then
    (inK .i64 (aQ-1)).bind fun x35=>
    some (.next (x35,aT,eF,iD))
   else
    (idx x3 aQ).bind fun x36=>
    (idx x36 aT).bind fun x37=>
    (idx x3 aQ).bind fun x38=>
    (inK .i64 (aT-1)).bind fun x39=>
    (idx x38 x39).bind fun x40=>
    (inK .i64 (x40+1)).bind fun x41=>
    if(decide (x37=x41))=true then
     (inK .i64 (aT-1)).bind fun x42=>
     some (.next (aQ,x42,eF,iD))
    else
     (self (Alg.mk p0.a p0.b p0.orderA p0.leftA p0.orderB p0.leftB p0.distances eF iD) x8 x10).bind fun x43=>
     (idx p0.leftA x8).bind fun x44=>
     (inK .i64 (x44-x1)).bind fun x45=>
     (idx p0.leftB x10).bind fun x46=>
     (inK .i64 (x46-x2)).bind fun x47=>
     some (.next (x45,x47,x43.partner,x43.back))
 else
  some (.done (eF,iD))
noncomputable def qA (self:Alg→Int→Int→Option Alg) (p0:Alg) (p1:Int) (p2:Int):Option Alg:=
 (idx p0.leftA p1).bind fun x1=>
 (idx p0.leftB p2).bind fun x2=>
 (rF p0 p1 p2).bind fun x3=>
 (inK .i64 ((x3.length:Int)-1)).bind fun x4=>
 (idx x3 0).bind fun x5=>
 (inK .i64 ((x5.length:Int)-1)).bind fun x6=>
 (eH (fun s=>sF p0 self x1 x2 x3 s.1 s.2.1 s.2.2.1 s.2.2.2) (x4,x6,p0.partner,p0.back):Option ((List Int)×(List Int))).bind fun b4=>
 some (Alg.mk p0.a p0.b p0.orderA p0.leftA p0.orderB p0.leftB p0.distances b4.1 b4.2)
noncomputable def oV:Nat→Alg→Int→Int→Option Alg
 |0=>fun _ _ _=>none
 |n+1=>qA (oV n)
noncomputable def yX (p0:Alg) (p1:Int) (p2:Int):Option Alg:=oV (p1.toNat+p2.toNat+1) p0 p1 p2
open Go.RowKit Go.Sort
section
variable {Z:World} {ρ:PH} {L:List bI} {w:World}
theorem flat_int (l:List Int):flat l=l.map (Value.int .i64):=by
 induction l with
 |nil=>rfl
 |cons x l ih=>rw[rC,ih];rfl
end
def insI (a:Int):List Int→List Int
 | []=>[a]
 |b::l=>if a≤b then a::b::l else b::insI a l
def isort:List Int→List Int
 | []=>[]
 |a::l=>insI a (isort l)
theorem insI_perm (a:Int):∀l,(insI a l).Perm (a::l)
 | []=> .refl _
 |b::l=>by
  unfold insI
  split
  ·exact .refl _
  exact((insI_perm a l).cons b).trans (.swap a b l)
theorem isort_perm:∀l,(isort l).Perm l
 | []=> .refl _
 |a::l=>(insI_perm a _).trans ((isort_perm l).cons a)
theorem insI_pw (a:Int):∀l:List Int,l.Pairwise (fun x y=>decide (x≤y)=true)→(insI a l).Pairwise fun x y=>decide (x≤y)=true
 | [],_=> .cons (fun _ h=>absurd h (by simp)) .nil
 |b::l,h=>by
  obtain⟨h1,h2⟩:=List.pairwise_cons.1 h
  unfold insI
  split
  ·refine .cons (fun x hx=>?_) h
   rcases List.mem_cons.1 hx with rfl|hx
   ·simpa
   have:=h1 x hx
   simp only[decide_eq_true_eq] at this⊢;omega
  refine .cons (fun x hx=>?_) (insI_pw a l h2)
  rcases List.mem_cons.1 ((insI_perm a l).mem_iff.1 hx) with rfl|hx
  ·simp only[decide_eq_true_eq];omega
  exact h1 x hx
theorem isort_pw:∀l,(isort l).Pairwise fun x y=>decide (x≤y)=true
 | []=> .nil
 |a::l=>insI_pw a _ (isort_pw l)
theorem isort_eq (l:List Int):isort l=l.mergeSort fun x y=>decide (x≤y):=
 List.Perm.eq_of_pairwise (le:=fun x y=>decide (x≤y)=true) (fun a b _ _ h1 h2=>by simp only[decide_eq_true_eq] at h1 h2;omega) (isort_pw l)
  (List.pairwise_mergeSort (fun a b c h k=>by simp at*;omega) (fun a b=>by simp;omega) l) ((isort_perm l).trans (List.mergeSort_perm l _).symm)
def Z9 (l:List (Int×Int)):Option (List Int):=if(l.all fun p=>decide (-9223372036854775808≤p.1∧p.1≤9223372036854775807)&&decide (-9223372036854775808≤p.2∧p.2≤9223372036854775807))=true∧l.length<4294967297 then some (isort (l.map (·.2))) else none
noncomputable def wB (p0:Node):Option Bool:=
 (m_count p0).bind fun x1=>
 some (decide (256<x1))
noncomputable def nJ (p0:(List Node)) (aQ:Int):Option (Step Int (Out Unit Int)):=
 if(decide (aQ<(p0.length:Int)))=true then
  (idx p0 aQ).bind fun x1=>
  (wB x1).bind fun x2=>
  if x2=true then
   some (.done (.ret aQ))
  else
   (inK .i64 (aQ+1)).bind fun x3=>
   some (.next x3)
 else
  some (.done (.brk ()))
noncomputable def kV (p0:(List Node)):Option Int:=
 (eH (fun s=>nJ p0 s) 0:Option (Out Unit Int)).bind fun b1=>
 match b1 with
 | .brk b1s=>
  some (-1)
 | .ret r=>some r
noncomputable def jM (p0:(List Node)):Option Bool:=
 (kV p0).bind fun x1=>
 some (decide (0≤x1))
noncomputable def yE (p0:(List Node)):Option Bool:=
 (jM p0).bind fun x1=>
 some x1
noncomputable def sG (p0:Node) (self:Node→Int→DFlat→Option (Int×DFlat)) (aQ:Int) (aT:Int) (eF:(List Lbl)) (iD:(List Int)) (lp1_4:(List Int)):Option (Step (Int×Int×(List Lbl)×(List Int)×(List Int)) (Int×(List Lbl)×(List Int)×(List Int))):=
 if(decide (aQ<(p0.kids.length:Int)))=true then
  (idx p0.kids aQ).bind fun x2=>
  (self x2 aT (DFlat.mk eF iD lp1_4)).bind fun x3=>
  (inK .i64 (aQ+1)).bind fun x4=>
  some (.next (x4,x3.1,x3.2.labels,x3.2.left,x3.2.numbers))
 else
  some (.done (aT,eF,iD,lp1_4))
noncomputable def qB (self:Node→Int→DFlat→Option (Int×DFlat)) (p0:Node) (cp0:Int) (cp1:DFlat):Option (Int×DFlat):=
 (inK .i64 (cp0+1)).bind fun x1=>
 (eH (fun s=>sG p0 self s.1 s.2.1 s.2.2.1 s.2.2.2.1 s.2.2.2.2) (0,x1,cp1.labels,cp1.left,cp1.numbers):Option (Int×(List Lbl)×(List Int)×(List Int))).bind fun b2=>
 (app b2.2.1 [(Lbl.mk p0.kind p0.text)]).bind fun x5=>
 (app b2.2.2.1 [(cp1.labels.length:Int)]).bind fun x6=>
 (app b2.2.2.2 [cp0]).bind fun x7=>
 some (b2.1,(DFlat.mk x5 x6 x7))
noncomputable def oW:Nat→Node→Int→DFlat→Option (Int×DFlat)
 |0=>fun _ _ _=>none
 |n+1=>qB (oW n)
noncomputable def yY (p0:Node) (cp0:Int) (cp1:DFlat):Option (Int×DFlat):=oW (SizeOf.sizeOf p0+1) p0 cp0 cp1
noncomputable def sQ (p0:Node):Option DFlat:=
 (yY p0 0 (DFlat.mk ([]) ([]) ([]))).bind fun x1=>
 some x1.2
noncomputable def vN (p0:DFlat) (aQ:Int) (aT:(List (Int×Int))):Option (Step (Int×(List (Int×Int))) (List (Int×Int))):=
 if(decide (aQ<(p0.left.length:Int)))=true then
  (idx p0.left aQ).bind fun x1=>
  (inK .i64 (aQ+1)).bind fun x2=>
  some (.next (x2,U2 aT x1 aQ))
 else
  some (.done aT)
noncomputable def pX (p0:DFlat):Option (List Int):=
 (eH (fun s=>vN p0 s.1 s.2) (0,[]):Option (List (Int×Int))).bind fun b3=>
 (Z9 b3).bind fun x3=>
 some x3
noncomputable def yZ (p1:Int) (x1:(List (List Int))) (aQ:Int) (aT:(List (List Int))):Option (Step (Int×(List (List Int))) (List (List Int))):=
 if(decide (aQ<(x1.length:Int)))=true then
  (mkc p1 p1 (0:Int)).bind fun x2=>
  (idx aT aQ).bind fun x3=>
  (inK .i64 (aQ+1)).bind fun x4=>
  some (.next (x4,aT.set aQ.toNat x2))
 else
  some (.done aT)
noncomputable def rM (p0:Int) (p1:Int):Option (List (List Int)):=
 (mkc p0 p0 ([]:(List Int))).bind fun x1=>
 (eH (fun s=>yZ p1 x1 s.1 s.2) (0,x1):Option (List (List Int))).bind fun b1=>
 some b1
noncomputable def xP (p0:DFlat) (p1:DFlat) (p2:(List (List Int))):Option (List (List Int)):=
 some p2
noncomputable def wR (x7:(List (List Int))) (aQ:Int) (aT:(List (List Int))):Option (Step (Int×(List (List Int))) (List (List Int))):=
 if(decide (aQ<(x7.length:Int)))=true then
  (idx aT aQ).bind fun x8=>
  (idx x8 0).bind fun x9=>
  (inK .i64 (aQ+1)).bind fun x10=>
  some (.next (x10,aT.set aQ.toNat (x8.set (0:Int).toNat aQ)))
 else
  some (.done aT)
noncomputable def wS (x11:(List Int)) (bK:Int) (dR:(List (List Int))):Option (Step (Int×(List (List Int))) (List (List Int))):=
 if(decide (bK<(x11.length:Int)))=true then
  (idx dR 0).bind fun x12=>
  (idx x12 bK).bind fun x13=>
  (inK .i64 (bK+1)).bind fun x14=>
  some (.next (x14,dR.set (0:Int).toNat (x12.set bK.toNat bK)))
 else
  some (.done dR)
noncomputable def wV (p1:Int) (cp0:DFlat) (cp1:DFlat) (x1:Int) (x2:Int) (fK:Int) (mJ:Int) (nR:(List (List Int))) (aA3:(List (List Int))):Option (Step (Int×(List (List Int))×(List (List Int))) ((List (List Int))×(List (List Int)))):=
 if(decide (mJ≤p1))=true then
  (((inK .i64 (fK-x1)).bind fun x15=>
  (inK .i64 (x15+1)).bind fun x16=>
  (inK .i64 (mJ-x2)).bind fun x17=>
  (inK .i64 (x17+1)).bind fun x18=>
  (inK .i64 (x16-1)).bind fun x19=>
  (idx nR x19).bind fun x20=>
  (idx x20 x18).bind fun x21=>
  (idx nR x16).bind fun x22=>
  (inK .i64 (x18-1)).bind fun x23=>
  (idx x22 x23).bind fun x24=>
  (inK .i64 ((min x21 x24)+1)).bind fun x25=>
  (idx cp0.left fK).bind fun x26=>
  ((if(!decide (x26=x1))=true then
   some true
  else
   (idx cp1.left mJ).bind fun x27=>
   some (!decide (x27=x2))):Option Bool).bind fun m1=>
  if m1=true then
   (idx nR x16).bind fun x28=>
   (idx cp0.left fK).bind fun x29=>
   (inK .i64 (x29-x1)).bind fun x30=>
   (idx nR x30).bind fun x31=>
   (idx cp1.left mJ).bind fun x32=>
   (inK .i64 (x32-x2)).bind fun x33=>
   (idx x31 x33).bind fun x34=>
   (idx aA3 fK).bind fun x35=>
   (idx x35 mJ).bind fun x36=>
   (inK .i64 (x34+x36)).bind fun x37=>
   (idx x28 x18).bind fun x38=>
   some (nR.set x16.toNat (x28.set x18.toNat (min x25 x37)),aA3)
  else
   (inK .i64 (x16-1)).bind fun x39=>
   (idx nR x39).bind fun x40=>
   (inK .i64 (x18-1)).bind fun x41=>
   (idx x40 x41).bind fun x42=>
   (idx cp0.labels fK).bind fun x43=>
   (idx cp1.labels mJ).bind fun x44=>
   ((if(!((decide (x43.kind=x44.kind))&&(decide (x43.text=x44.text))))=true then
    (inK .i64 (x42+1)).bind fun x45=>
    some x45
   else
    some x42):Option Int).bind fun j2=>
   (idx nR x16).bind fun x46=>
   (idx x46 x18).bind fun x47=>
   (idx aA3 fK).bind fun x48=>
   (idx (nR.set x16.toNat (x46.set x18.toNat (min x25 j2))) x16).bind fun x49=>
   (idx x49 x18).bind fun x50=>
   (idx x48 mJ).bind fun x51=>
   some (nR.set x16.toNat (x46.set x18.toNat (min x25 j2)),aA3.set fK.toNat (x48.set mJ.toNat x50))):Option ((List (List Int))×(List (List Int)))).bind fun j1=>
  (inK .i64 (mJ+1)).bind fun x52=>
  some (.next (x52,j1.1,j1.2))
 else
  some (.done (nR,aA3))
noncomputable def wU (p0:Int) (p1:Int) (cp0:DFlat) (cp1:DFlat) (x1:Int) (x2:Int) (fK:Int) (nZ:(List (List Int))) (lp3_2:(List (List Int))):Option (Step (Int×(List (List Int))×(List (List Int))) ((List (List Int))×(List (List Int)))):=
 if(decide (fK≤p0))=true then
  (eH (fun s=>wV p1 cp0 cp1 x1 x2 fK s.1 s.2.1 s.2.2) (x2,nZ,lp3_2):Option ((List (List Int))×(List (List Int)))).bind fun b11=>
  (inK .i64 (fK+1)).bind fun x53=>
  some (.next (x53,b11.1,b11.2))
 else
  some (.done (nZ,lp3_2))
noncomputable def vS (p0:Int) (p1:Int) (cp0:DFlat) (cp1:DFlat) (cp2:(List (List Int))):Option (List (List Int)):=
 (idx cp0.left p0).bind fun x1=>
 (idx cp1.left p1).bind fun x2=>
 (inK .i64 (p0-x1)).bind fun x3=>
 (inK .i64 (x3+2)).bind fun x4=>
 (inK .i64 (p1-x2)).bind fun x5=>
 (inK .i64 (x5+2)).bind fun x6=>
 (rM x4 x6).bind fun x7=>
 (eH (fun s=>wR x7 s.1 s.2) (0,x7):Option (List (List Int))).bind fun b3=>
 (idx b3 0).bind fun x11=>
 (eH (fun s=>wS x11 s.1 s.2) (0,b3):Option (List (List Int))).bind fun b7=>
 (eH (fun s=>wU p0 p1 cp0 cp1 x1 x2 s.1 s.2.1 s.2.2) (x1,b7,cp2):Option ((List (List Int))×(List (List Int)))).bind fun b10=>
 some b10.2
end Go.Proofs.YtopnldfjcciieaaGreat
