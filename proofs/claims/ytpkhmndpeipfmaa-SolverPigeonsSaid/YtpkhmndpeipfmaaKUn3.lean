/- Tables: slices of slices that are written in place. Plain theorems over any program. -/
import Derived.Test.YtpkhmndpeipfmaaKUn2
set_option linter.unusedVariables false
set_option linter.unusedSimpArgs false
namespace Go.Proofs.Ytpkhmndpeipfmaa
open Go.RowKit
def Sl:Type:={v:Value // ∃A n c,v= .slice A n c}
def Sl.v (s:Sl):Value:=s.1
def Sl.nil:Sl:=⟨.slice none 0 0,none,0,0,rfl⟩
theorem Sl.one (s:Sl):s.v.oneCell'=true:=by obtain⟨v,A,n,c,rfl⟩:=s;rfl
theorem Sl.cells (s:Sl):s.v.cells= #[s.v]:=by obtain⟨v,A,n,c,rfl⟩:=s;rfl
instance encSl:Enc Sl:=⟨1,fun s=>[s.v],fun _=>rfl,fun s v h=>by rw[List.mem_singleton.1 h];exact s.one,by decide⟩
theorem aA.toSl {α:Type} [Enc α] {Z:World} {ρ:PH} {L:List bZ} {w:World} {El:TypeId} {v:Value} {l:List α} (hp:Hp Z ρ L w) (k:Nat) (hk:L[k]?=some (aA El v l)):∃s:Sl,s.v=v:=by
 rcases(hp.get k hk).row.2 with⟨A,rfl,_⟩|⟨g,off,cap,cur,rfl,_⟩
 ·exact⟨⟨_,_,_,_,rfl⟩,rfl⟩
 exact⟨⟨_,_,_,_,rfl⟩,rfl⟩
instance (priority:=50) repList {α:Type} [Rep α]:Rep (List α):=⟨1,fun ρ l cs=>∃v,cs=[v]∧bW ρ v l,fun⟨_,h,_⟩=>by rw[h];rfl,fun hl ⟨v,h,k⟩=>⟨v,h,k.mono hl⟩⟩
def dV {α:Type} [Enc α] (Ti:TypeId):List Sl→List (List α)→bZ
 | [],[]=>fun k=>k=PH.emp
 |u::us,r::l=>star (aA Ti u.v r) (dV Ti us l)
 |_,_=>fun _=>False
section
variable {α:Type} [Enc α] {Ti:TypeId} {L:List bZ} {ρ h:PH}
theorem Sep.emp1:Sep ρ ((fun k=>k=PH.emp)::L) h↔Sep ρ L h:=by
 have e:ρ.un PH.emp=ρ:=by funext b;unfold PH.un PH.emp;cases ρ b<;>rfl
 constructor
 ·rintro⟨k,rfl,d,hs⟩;rw[e] at hs;exact hs
 intro hs;exact⟨PH.emp,rfl,PH.dj_emp ρ,by rw[e];exact hs⟩
theorem dV.len {us:List Sl} {l:List (List α)} (hs:Sep ρ (dV Ti us l::L) h):us.length=l.length:=by
 induction us generalizing l ρ L with
 |nil=>
  cases l with
  |nil=>rfl
  |cons r l=>obtain⟨k,a,_⟩:=hs;exact a.elim
 |cons u us ih=>
  cases l with
  |nil=>obtain⟨k,a,_⟩:=hs;exact a.elim
  |cons r l=>simp only[List.length_cons];rw[ih (Sep.swap (Sep.two.1 hs))]
theorem dV.take:∀{us:List Sl} {l:List (List α)} (i:Nat) {u:Sl} {r:List α} {ρ h:PH} {L:List bZ},us[i]?=some u→l[i]?=some r→
  (Sep ρ (dV Ti us l::L) h↔Sep ρ (aA Ti u.v r::dV Ti (us.eraseIdx i) (l.eraseIdx i)::L) h)
 | [],_,i,_,_,_,_,_,h1,_=>by simp at h1
 |_::_,[],i,_,_,_,_,_,_,h2=>by simp at h2
 |u0::us,r0::l,0,u,r,ρ,h,L,h1,h2=>by
  simp only[List.getElem?_cons_zero,Option.some.injEq] at h1 h2
  subst h1 h2
  exact Sep.two
 |u0::us,r0::l,i+1,u,r,ρ,h,L,h1,h2=>by
  simp only[List.getElem?_cons_succ] at h1 h2
  constructor
  ·intro hs
   exact Sep.cons_mono (fun ρ h=>Sep.two.2) (Sep.swap (Sep.cons_mono (fun ρ h=>(dV.take i h1 h2).1) (Sep.two.1 hs)))
  intro hs
  exact Sep.two.2 (Sep.cons_mono (fun ρ h=>(dV.take i h1 h2).2) (Sep.swap (Sep.cons_mono (fun ρ h=>Sep.two.1) hs)))
theorem dV.snoc:∀{us:List Sl} {l:List (List α)} {u:Sl} {r:List α} {ρ h:PH} {L:List bZ},Sep ρ (aA Ti u.v r::dV Ti us l::L) h→Sep ρ (dV Ti (us++[u]) (l++[r])::L) h
 | [],[],u,r,ρ,h,L,hs=>Sep.two.2 (Sep.cons_mono (fun ρ h h1=>Sep.emp1.2 (Sep.emp1.1 h1)) hs)
 | [],_::_,_,_,_,_,_,hs=>by obtain⟨_,_,_,k,a,_⟩:=hs;exact a.elim
 |_::_,[],_,_,_,_,_,hs=>by obtain⟨_,_,_,k,a,_⟩:=hs;exact a.elim
 |u0::us,r0::l,u,r,ρ,h,L,hs=>Sep.two.2 (Sep.cons_mono (fun ρ h=>dV.snoc) (Sep.swap (Sep.cons_mono (fun ρ h=>Sep.two.1) hs)))
theorem dV.nils:∀(n:Nat) {ρ h:PH} {L:List bZ},Sep ρ L h→Sep ρ (dV Ti (List.replicate n Sl.nil) (List.replicate n ([]:List α))::L) h
 |0,_,_,_,hs=>Sep.emp1.2 hs
 |n+1,ρ,h,L,hs=>Sep.two.2 (by
  have h1:=dV.nils n hs
  refine⟨PH.emp,aA.nil Ti,PH.dj_emp ρ,?_⟩
  have e:ρ.un PH.emp=ρ:=by funext b;unfold PH.un PH.emp;cases ρ b<;>rfl
  rw[e];exact h1)
end
def bT {α:Type} [Enc α] (T Ti:TypeId) (v:Value) (us:List Sl) (l:List (List α)):bZ:=star (aA T v us) (dV Ti us l)
section
variable {Rn:Option Nat} {P:Program} {ops:Array Oper} {Q:Exit→Act→World→Prop} {rest:List Oper} {o:Oper} {a:Act} {w:World} {Df:List Deferred} {N:Nat} {E:Ent} {d:Nat} {Z:World} {ρ:PH} {L:List bZ}
variable {α:Type} [Enc α] {T Ti To Tr:TypeId} {v:Value} {us:List Sl} {l:List (List α)} {bytes:Nat}
theorem Hp.tbl (h:Hp Z ρ (bT T Ti v us l::L) w):Hp Z ρ (aA T v us::dV Ti us l::L) w:=h.to Sep.two.1
theorem Hp.tblShut (h:Hp Z ρ (aA T v us::dV Ti us l::L) w):Hp Z ρ (bT T Ti v us l::L) w:=h.to Sep.two.2
theorem bT.lens (hp:Hp Z ρ (bT T Ti v us l::L) w):us.length=l.length:=dV.len (Sep.swap hp.tbl.sep)
theorem bT.slice (hp:Hp Z ρ L w) (k:Nat) (hk:L[k]?=some (bT T Ti v us l)):∃s:Sl,s.v=v:=aA.toSl (hp.get k hk).tbl 0 rfl
theorem bT.cells (hp:Hp Z ρ L w) (k:Nat) (hk:L[k]?=some (bT T Ti v us l)):v.cells= #[v]:=by obtain⟨s,rfl⟩:=bT.slice hp k hk;exact s.cells
theorem bT.one (hp:Hp Z ρ L w) (k:Nat) (hk:L[k]?=some (bT T Ti v us l)):v.oneCell'=true:=by obtain⟨s,rfl⟩:=bT.slice hp k hk;exact s.one
theorem bT.len (hp:Hp Z ρ L w) (k:Nat) (hk:L[k]?=some (bT T Ti v us l)) (ht:SlTy P To T 1 bytes) (w:World) (ty:TypeId):(Builtin.len_ #[To] ty #[v]).run P w= .ok (.int .i64 l.length) w:=by
 have h:=(hp.get k hk)
 rw[←bT.lens h]
 exact aA.len h.tbl 0 rfl ht w ty
theorem bT.hdr (hp:Hp Z ρ L w) (k:Nat) (hk:L[k]?=some (bT T Ti v us l)) (ht:SlTy P To T 1 bytes) {i:Int} {r:List α} (hi:idx l i=some r):
  ∃(u:Sl) (g off:Nat),idx us i=some u∧(∀w,(Instr.indexAt To v (.int .i64 i)).run P w= .ok (.pointer (some ⟨g,off,none⟩)) w)∧(∃of0 cap,v= .slice (some ⟨g,of0,none⟩) us.length cap∧off=of0+i.toNat*1)∧
   ∀(j:Nat) (x:Value),[u.v][j]?=some x→∀ρ' L' w,Hp Z ρ' (bT T Ti v us l::L') w→w.cell? ⟨g,off+j,none⟩=some x:=by
 have h:=(hp.get k hk)
 obtain⟨i0,i1,i2⟩:=kN hi
 have hl:=bT.lens h
 have hu:idx us i=some us[i.toNat]:=by unfold idx;rw[if_pos i0];exact List.getElem?_eq_getElem (by omega)
 obtain⟨g,off,e1,e2,e3⟩:=aA.at h.tbl 0 rfl ht hu
 exact⟨_,g,off,hu,e1,e2,fun j x hx ρ' L' w hw=>e3 j x hx _ _ w hw.tbl⟩
theorem bT.focus (hp:Hp Z ρ L w) (k:Nat) (hk:L[k]?=some (bT T Ti v us l)) {i:Int} {u:Sl} {r:List α} (hu:idx us i=some u) (hi:idx l i=some r):
  Hp Z ρ (aA Ti u.v r::dV Ti (us.eraseIdx i.toNat) (l.eraseIdx i.toNat)::aA T v us::L.eraseIdx k) w:=
 (hp.get k hk).tbl.to fun s=>(dV.take i.toNat (kN hu).2.2 (kN hi).2.2).1 s.swap
theorem bT.rlen (hp:Hp Z ρ L w) (k:Nat) (hk:L[k]?=some (bT T Ti v us l)) (ht:SlTy P Tr Ti (Enc.sz α) bytes) {i:Int} {u:Sl} {r:List α} (hu:idx us i=some u) (hi:idx l i=some r) (w:World) (ty:TypeId):(Builtin.len_ #[Tr] ty #[u.v]).run P w= .ok (.int .i64 r.length) w:=
 aA.len (bT.focus hp k hk hu hi) 0 rfl ht w ty
theorem bT.at (hp:Hp Z ρ L w) (k:Nat) (hk:L[k]?=some (bT T Ti v us l)) (ht:SlTy P Tr Ti (Enc.sz α) bytes) {i j:Int} {u:Sl} {r:List α} {e:α} (hu:idx us i=some u) (hi:idx l i=some r) (hj:idx r j=some e):
  ∃g off,(∀w,(Instr.indexAt Tr u.v (.int .i64 j)).run P w= .ok (.pointer (some ⟨g,off,none⟩)) w)∧(∃of0 cap,u.v= .slice (some ⟨g,of0,none⟩) r.length cap∧off=of0+j.toNat*Enc.sz α)∧∀(j:Nat) (x:Value),(Enc.enc e)[j]?=some x→∀ρ' L' w,Hp Z ρ' (bT T Ti v us l::L') w→w.cell? ⟨g,off+j,none⟩=some x:=by
 obtain⟨g,off,e1,e2,e3⟩:=aA.at (bT.focus hp k hk hu hi) 0 rfl ht hj
 exact⟨g,off,e1,e2,fun j x hx ρ' L' w hw=>e3 j x hx _ _ w (bT.focus hw 0 rfl hu hi)⟩
theorem set_self {β:Type} {l:List β} {i:Nat} {x:β} (h:l[i]?=some x):l.set i x=l:=by
 apply List.ext_getElem?
 intro j
 rw[List.getElem?_set]
 split
 ·rename_i e;subst e;rw[if_pos (List.getElem?_eq_some_iff.1 h).1,h]
 rfl
theorem bT.unfocus (k:Nat) (hk:L[k]?=some (bT T Ti v us l)) {i:Int} {u:Sl} {r r':List α} (hu:idx us i=some u) (hi:idx l i=some r)
  (hp:Hp Z ρ (aA Ti u.v r'::dV Ti (us.eraseIdx i.toNat) (l.eraseIdx i.toNat)::aA T v us::L.eraseIdx k) w):Hp Z ρ (L.set k (bT T Ti v us (l.set i.toNat r'))) w:=by
 obtain⟨_,hui,hus⟩:=kN hu
 obtain⟨_,hli,hls⟩:=kN hi
 refine Hp.put k (List.getElem?_eq_some_iff.1 hk).1 ((hp.to fun s=>Sep.swap ?_).tblShut)
 refine(dV.take (us:=us) (l:=l.set i.toNat r') (r:=r') i.toNat hus (by rw[List.getElem?_set_self (by omega)])).2 ?_
 have e2:(l.set i.toNat r').eraseIdx i.toNat=l.eraseIdx i.toNat:=List.eraseIdx_set_eq
 rw[e2];exact s
theorem s_tstel (wk:Region.wanted o (yielded ops a.tmps)=true) (hd:o.dst=none) (hE:EnvD Df N E a) (hp:Hp Z ρ L w) {Tx:TypeId} {x y:Operand} (ho:o.op= .store Tx x y) {g off off':Nat} (hx:evo E x=some (.pointer (some ⟨g,off',none⟩))) {z:Value} (hy:evo E y=some z) (k:Nat) (hk:L[k]?=some (bT T Ti v us l))
  {i j:Int} {u:Sl} {r:List α} {e:α} (hu:idx us i=some u) (hi:idx l i=some r) (hj:idx r j=some e) (hv:∃of0 cap,u.v= .slice (some ⟨g,of0,none⟩) r.length cap∧off=of0+j.toNat*Enc.sz α) (q:Nat) {e':α} (ht:∀w,(sizeOf Tx).run P w= .ok 1 w) (hoff:off'=off+q) (hc:z.cells= #[z]) (h1:z.oneCell'=true) (he:(Enc.enc e).set q z=Enc.enc e'∧Nat.blt q (Enc.sz α)=true)
  (K:∀w,Hp Z ρ (L.set k (bT T Ti v us (l.set i.toNat (r.set j.toNat e')))) w→wpL Rn P ops Q rest a w):wpL Rn P ops Q (o::rest) a w:=
 mY wk hd hE (bT.focus hp k hk hu hi) ho hx hy 0 rfl hj hv q ht hoff hc h1 he fun w hw=>K w (bT.unfocus k hk hu hi hw)
theorem s_tmake (wk:Region.wanted o (yielded ops a.tmps)=true) (hd:o.dst=some d) (hN:Nat.blt d N=true) (hE:EnvD Df N E a) (hp:Hp Z ρ L w) {x y:Operand} (ho:o.op= .makeSlice To x y) (hu:P.underlying To=some (.slice T))
  (hi:(P.info? T).map (fun i=>(i.zero.map Value.cells,i.size,i.bytes))=some (some #[.slice none 0 0],1,bytes)) (hby:Nat.ble bytes 16384=true) {k k':IntKind} {n c:Int} (hx:evo E x=some (.int k n)) (hy:evo E y=some (.int k' c)) {r:List (List α)} (hr:mkc n c ([]:List α)=some r) (Ti:TypeId)
  (K:∀v us a w,EnvD Df N ((d,v)::E) a→Hp Z ρ (bT T Ti v us r::L) w→wpL Rn P ops Q rest a w):wpL Rn P ops Q (o::rest) a w:=by
 obtain⟨h0,h1,h2,rfl⟩:=G6 hr
 refine fH (α:=Sl) wk hd hN hE hp ho hu Sl.nil hi hby hx hy (r:=List.replicate n.toNat Sl.nil) (by unfold mkc;rw[if_pos ⟨h0,h1,h2⟩]) fun v a w hE hp=>K v _ a w hE (Hp.tblShut (hp.to fun s=>Sep.cons_mono (fun ρ h s=>dV.nils _ s) s))
theorem bT.none (T Ti:TypeId) (A:Option Addr):bT T Ti (.slice A 0 0) [] ([]:List (List α)) PH.emp:=
 ⟨PH.emp,PH.emp,aA.nilA T A,rfl,PH.dj_emp _,by funext b;rfl⟩
theorem s_tapp (wk:Region.wanted o (yielded ops a.tmps)=true) (hd:o.dst=some d) (hN:Nat.blt d N=true) (hE:EnvD Df N E a) {ur:Sl} {vr:Value} (he:ur.v=vr) {r':List α} (hp:Hp Z ρ (aA Ti vr r'::L) w) {x y:Operand} (ho:o.op= .call {callee:= .builtin .append,args:= #[x,y],argTypes:= #[To,To] }) (ht:SlTy P To T 1 bytes) (hby:Nat.ble bytes 16384=true)
  (hx:evo E x=some v) (k:Nat) (hk:L[k]?=some (bT T Ti v us l)) {b off c:Nat} (hy:evo E y=some (.slice (some ⟨b,off,none⟩) 1 c)) (hn:w.cell? ⟨b,off,none⟩=some vr) {l':List (List α)} (hr:app l [r']=some l')
  (K:∀v' us' a w,EnvD Df N ((d,v')::E) a→Hp Z ρ (L.set k (bT T Ti v' us' l')) w→wpL Rn P ops Q rest a w):wpL Rn P ops Q (o::rest) a w:=by
 obtain⟨hlen,rfl⟩:=vC hr
 subst he
 have h0:Hp Z ρ (aA T v us::aA Ti ur.v r'::dV Ti us l::L.eraseIdx k) w:=(Hp.tbl (hp.get (k+1) (A:=bT T Ti v us l) (by simpa using hk))).to fun s=>Sep.cons_mono (fun ρ h=>Sep.swap) s
 have hus:=bT.lens (hp.get (k+1) (A:=bT T Ti v us l) (by simpa using hk))
 refine lY (α:=Sl) wk hd hN hE h0 ho ht hby hx 0 rfl hy (l2:=[ur]) (r:=us++[ur]) rfl (fun j z hj=>?_) (by unfold app;rw[if_pos (by simp at hlen⊢;omega)]) fun v' a w hE hw=>K v' (us++[ur]) a w hE ?_
 ·cases j with
  |zero=>
   simp only[flat,List.flatMap_cons,List.flatMap_nil,List.append_nil,Enc.enc,List.getElem?_cons_zero,Option.some.injEq] at hj
   subst hj;exact hn
  |succ j=>simp[flat,Enc.enc] at hj
 exact Hp.put k (List.getElem?_eq_some_iff.1 hk).1 (Hp.tblShut (hw.to fun s=>Sep.cons_mono (fun ρ h s=>dV.snoc s) s))
theorem dV.at_:∀{us:List Sl} {l:List (List α)} {k:PH} (i:Nat) {u:Sl} {r:List α},dV Ti us l k→us[i]?=some u→l[i]?=some r→∃k',aA Ti u.v r k'∧k'.le k
 | [],_,_,i,_,_,_,h1,_=>by simp at h1
 |_::_,[],_,i,_,_,h,_,_=>h.elim
 |u0::us,r0::l,k,0,u,r,h,h1,h2=>by
  obtain⟨k1,k2,ha,hb,d,rfl⟩:=h
  simp only[List.getElem?_cons_zero,Option.some.injEq] at h1 h2
  subst h1 h2
  exact⟨k1,ha,PH.le_un _ _⟩
 |u0::us,r0::l,k,i+1,u,r,h,h1,h2=>by
  obtain⟨k1,k2,ha,hb,d,rfl⟩:=h
  obtain⟨k',h3,h4⟩:=dV.at_ i hb (by simpa using h1) (by simpa using h2)
  exact⟨k',h3,h4.tr (PH.le_un_r d)⟩
theorem bT.ro {k:PH} (d:ρ.dj k) (h:bT T Ti v us l k):bW (ρ.un k) v l:=by
 obtain⟨k1,k2,ha,hb,d2,rfl⟩:=h
 have hl:us.length=l.length:=dV.len (ρ:=k1) (h:=k1.un k2) (L:=[]) ⟨k2,hb,d2,PH.le.rf _⟩
 have d12:=PH.dj_un.1 d.symm
 obtain⟨A,c,e1,e2,e3⟩:=aA.ro d12.1.symm ha
 refine⟨A,c,by rw[←hl];exact e1,by rw[←hl];exact e2,fun i r hi=>?_⟩
 have hlt:=(List.getElem?_eq_some_iff.1 hi).1
 obtain⟨b,o,cs,h1,h2,h3⟩:=e3 i us[i] (List.getElem?_eq_getElem (by omega))
 obtain⟨k',h4,h5⟩:=dV.at_ i hb (List.getElem?_eq_getElem (by omega)) hi
 have hk:k'.le (ρ.un (k1.un k2)):=h5.tr ((PH.le_un_r d2).tr (PH.le_un_r d))
 refine⟨b,o,cs,h1,⟨us[i].v,h2,?_⟩,h3.mono (by rw[←PH.un_assoc];exact PH.le_un _ _)⟩
 have h6:bW (PH.emp.un k') us[i].v r:=aA.ro (PH.dj_emp k').symm h4
 exact h6.mono (by
  have:PH.emp.un k'=k':=by funext x;rfl
  rw[this];exact hk)
theorem bT.lend (hp:Hp Z ρ L w) (k:Nat) (hk:L[k]?=some (bT T Ti v us l)) {i:Int} {u:Sl} {r:List α} (hu:idx us i=some u) (hi:idx l i=some r):
  ∃κ,bW (ρ.un κ) u.v r∧Hp Z (ρ.un κ) (dV Ti (us.eraseIdx i.toNat) (l.eraseIdx i.toNat)::aA T v us::L.eraseIdx k) w∧
   ∀w,Hp Z (ρ.un κ) (dV Ti (us.eraseIdx i.toNat) (l.eraseIdx i.toNat)::aA T v us::L.eraseIdx k) w→Hp Z ρ L w:=by
 obtain⟨κ,ha,hd,h⟩:=(bT.focus hp k hk hu hi).lend
 refine⟨κ,aA.ro hd ha,h,fun w hw=>?_⟩
 have:=bT.unfocus k hk hu hi (Hp.back ha hd hw)
 rw[set_self (kN hi).2.2,set_same hk] at this
 exact this
end
section
variable {Rn:Option Nat} {P:Program} {fn:Func} {R:Ending→World→Prop} {a:Act} {w:World} {Df:List Deferred} {N:Nat} {E:Ent}
theorem wZ (hE:Env N E a) (hr:fn.results= #[]) (h:R (.returned (.tuple #[])) w):bodyPost P fn R .normal a w:=
 ⟨hE.defers,_,by simp[results,hr],h⟩
theorem ret0 (hE:Env N E a) (hr:fn.results= #[]) (h:R (.returned (.tuple #[])) w):bodyPost P fn R .ret a w:=
 ⟨hE.defers,_,by simp[results,hr],h⟩
theorem run_lv1 {T:TypeId} (ht:VarTy P T false 1) {p:Addr} {v:Value} {w:World} (h:w.cell? p=some v):(loadVar T p).run P w= .ok v w:=by
 simp[loadVar,ht.agg_ w,load,Sem.run,h]
theorem rZ {T:TypeId} {cs:List Value} (ht:VarTy P T true cs.length) {b o:Nat} {w:World} (h:∀j u,cs[j]?=some u→w.cell? ⟨b,o+j,none⟩=some u):(loadVar T ⟨b,o,none⟩).run P w= .ok (.agg cs.toArray) w:=by
 have:=run_loadCells_list (P:=P) (w:=w) ⟨b,o,none⟩ cs (fun j v hj=>by rw[Addr.add_lit];exact h j v hj)
 simp[loadVar,ht.agg_ w,ht.size_ w,this]
theorem retc1n (hE:Env N E a) {t:Nat} {T:TypeId} (hr:fn.results= #[.cell t T]) {p:Addr} (hv:lk E t=some (.pointer (some p))) {v:Value} (hl:(loadVar T p).run P w= .ok v w) (h:R (.returned v) w):bodyPost P fn R .normal a w:=by
 refine⟨hE.defers,v,?_,h⟩
 have:=hE.val t _ hv
 simp[results,hr,Array.getD_eq_getD_getElem?,this,asAddr,hl]
theorem retc1 (hE:Env N E a) {t:Nat} {T:TypeId} (hr:fn.results= #[.cell t T]) {p:Addr} (hv:lk E t=some (.pointer (some p))) {v:Value} (hl:(loadVar T p).run P w= .ok v w) (h:R (.returned v) w):bodyPost P fn R .ret a w:=by
 refine⟨hE.defers,v,?_,h⟩
 have:=hE.val t _ hv
 simp[results,hr,Array.getD_eq_getD_getElem?,this,asAddr,hl]
end
open Vl (vl)
open Go.ChangeMaps (setBlock)
instance vlSl:Vl Sl:=⟨fun s=>s.v⟩
def mset {κ β:Type} [DecidableEq κ] (l:List (κ×β)) (k:κ) (v:β):List (κ×β):=if mhas l k then vM l k v else l
def uF {κ:Type} [DecidableEq κ] (a b:κ):Option Unit:=if a=b then some () else none
theorem gQ {κ:Type} [DecidableEq κ] {a b:κ} {u:Unit} (h:uF a b=some u):a=b:=by
 unfold uF at h;split at h
 ·assumption
 cases h
section
variable {κ β:Type} [DecidableEq κ]
theorem mhas_iff {l:List (κ×β)} {k:κ}:mhas l k=true↔k∈l.map (·.1):=by
 unfold mhas nR
 rw[Option.isSome_map,List.find?_isSome]
 simp
theorem mget_mem {l:List (κ×β)} (hn:(l.map (·.1)).Nodup) {k:κ} {v:β} (h:(k,v)∈l):nR l k=some v:=by
 obtain⟨j,hj⟩:=List.getElem?_of_mem h
 exact mget_at hn hj
theorem yE {l:List (κ×β)} (hn:(l.map (·.1)).Nodup) {k:κ} {j:Nat} (h:(l.map (·.1))[j]?=some k):l.filter (fun p=> !decide (p.1=k))=l.eraseIdx j:=by
 induction l generalizing j with
 |nil=>simp at h
 |cons p l ih=>
  rw[List.map_cons,List.nodup_cons] at hn
  cases j with
  |zero=>
   simp at h
   rw[List.filter_cons_of_neg (by simp[h]),List.eraseIdx_cons_zero]
   refine List.filter_eq_self.2 fun q hq=>?_
   simp only[Bool.not_eq_true',decide_eq_false_iff_not]
   intro e
   exact hn.1 (by rw[h,←e];exact List.mem_map_of_mem hq)
  |succ j=>
   simp only[List.map_cons,List.getElem?_cons_succ] at h
   have hne:¬p.1=k:=fun e=>hn.1 (by rw[e];exact List.mem_of_getElem? h)
   rw[List.filter_cons_of_pos (by simp[hne]),ih hn.2 h];rfl
theorem filter_all {l:List (κ×β)} {k:κ} (h:k∉l.map (·.1)):l.filter (fun p=> !decide (p.1=k))=l:=by
 refine List.filter_eq_self.2 fun q hq=>?_
 simp only[Bool.not_eq_true',decide_eq_false_iff_not]
 intro e
 exact h (by rw[←e];exact List.mem_map_of_mem hq)
theorem F9 {l:List (κ×β)} (hn:(l.map (·.1)).Nodup) {k:κ} {j:Nat} (h:(l.map (·.1))[j]?=some k):∃v,l[j]?=some (k,v)∧nR l k=some v:=by
 rw[List.getElem?_map] at h
 obtain⟨p,hp,rfl⟩:=Option.map_eq_some_iff.1 h
 exact⟨p.2,hp,mget_at hn hp⟩
theorem map_eraseIdx {γ δ:Type} (f:γ→δ) (l:List γ) (i:Nat):(l.eraseIdx i).map f=(l.map f).eraseIdx i:=map_erase f l i
theorem mput_keys_eq {l:List (κ×β)} {γ:Type} {m:List (κ×γ)} (h:l.map (·.1)=m.map (·.1)) (k:κ) (v:β) (u:γ):(vM l k v).map (·.1)=(vM m k u).map (·.1):=by
 rw[yK,yK,h]
theorem mput_nodup {l:List (κ×β)} (h:(l.map (·.1)).Nodup) (k:κ) (v:β):((vM l k v).map (·.1)).Nodup:=by
 rw[yK]
 split
 ·exact h
 rename_i hk
 rw[List.nodup_append]
 refine⟨h,by simp,fun a ha b hb=>?_⟩
 rw[List.mem_singleton.1 hb]
 intro e;exact hk (e▸ha)
end
section
variable {κ α:Type} [DecidableEq κ] [Enc α]
def U5 (Ti:TypeId) (us:List (κ×Sl)) (l:List (κ×List α)):bZ:=fun h=>dV Ti (us.map Prod.snd) (l.map Prod.snd) h∧us.map (·.1)=l.map (·.1)∧(us.map (·.1)).Nodup
def RowsX (Ti:TypeId) (us:List (κ×Sl)) (l:List (κ×List α)) (k:κ):bZ:=fun h=>dV Ti ((us.filter fun p=> !decide (p.1=k)).map Prod.snd) ((l.filter fun p=> !decide (p.1=k)).map Prod.snd) h∧us.map (·.1)=l.map (·.1)∧(us.map (·.1)).Nodup
omit [DecidableEq κ] in
theorem U5.nil (Ti:TypeId):U5 Ti ([]:List (κ×Sl)) ([]:List (κ×List α)) PH.emp:=⟨rfl,rfl,by simp⟩
def U6 (ρ:PH) (us:List (κ×Sl)) (l:List (κ×List α)):Prop:=us.map (·.1)=l.map (·.1)∧(us.map (·.1)).Nodup∧∀k,bW ρ ((nR us k).getD Sl.nil).v ((nR l k).getD [])
variable {Z:World} {ρ:PH} {L:List bZ} {w:World} {Ti:TypeId} {us:List (κ×Sl)} {l:List (κ×List α)} {k:κ} {v:Value}
omit [DecidableEq κ] in
theorem U5.keys (h:Hp Z ρ (U5 Ti us l::L) w):us.map (·.1)=l.map (·.1):=(Hp.fact (A:=dV Ti (us.map Prod.snd) (l.map Prod.snd)) h).2.1
omit [DecidableEq κ] [Enc α] in
theorem Hp.addFact {A:bZ} {p:Prop} (h:Hp Z ρ (A::L) w) (hp:p):Hp Z ρ ((fun k=>A k∧p)::L) w:=h.imp fun _ a=>⟨a,hp⟩
theorem U5.take (h:Hp Z ρ (U5 Ti us l::L) w) (k:κ):Hp Z ρ (aA Ti ((nR us k).getD Sl.nil).v ((nR l k).getD [])::RowsX Ti us l k::L) w:=by
 obtain⟨hr,hk,hn⟩:=Hp.fact (A:=dV Ti (us.map Prod.snd) (l.map Prod.snd)) h
 have hn2:(l.map (·.1)).Nodup:=hk▸hn
 have done:Hp Z ρ (aA Ti ((nR us k).getD Sl.nil).v ((nR l k).getD [])::dV Ti ((us.filter fun p=> !decide (p.1=k)).map Prod.snd) ((l.filter fun p=> !decide (p.1=k)).map Prod.snd)::L) w:=by
  by_cases hm:k∈us.map (·.1)
  ·obtain⟨j,hj⟩:=List.getElem?_of_mem hm
   obtain⟨u,hu,hu2⟩:=F9 hn hj
   have hj2:(l.map (·.1))[j]?=some k:=hk▸hj
   obtain⟨r,hr1,hr2⟩:=F9 hn2 hj2
   rw[hu2,hr2,yE hn hj,yE hn2 hj2,map_eraseIdx,map_eraseIdx]
   exact hr.to fun s=>(dV.take j (by rw[List.getElem?_map,hu];rfl) (by rw[List.getElem?_map,hr1];rfl)).1 s
  rw[G5 hm,G5 (hk▸hm),filter_all hm,filter_all (hk▸hm)]
  exact hr.emp (aA.nil Ti)
 exact(((done.get 1 rfl).addFact ⟨hk,hn⟩).get 1 rfl)
theorem RowsX.put {s:Sl} {v:Value} (he:s.v=v) {r:List α} (h:Hp Z ρ (aA Ti v r::RowsX Ti us l k::L) w):Hp Z ρ (U5 Ti (vM us k s) (vM l k r)::L) w:=by
 subst he
 obtain⟨h1,hk,hn⟩:=Hp.fact (A:=dV Ti ((us.filter fun p=> !decide (p.1=k)).map Prod.snd) ((l.filter fun p=> !decide (p.1=k)).map Prod.snd)) (h.get 1 rfl)
 have hr:=h1.get 1 rfl
 have hn2:(l.map (·.1)).Nodup:=hk▸hn
 refine Hp.addFact ?_ ⟨mput_keys_eq hk k s r,mput_nodup hn k s⟩
 by_cases hm:k∈us.map (·.1)
 ·obtain⟨j,hj⟩:=List.getElem?_of_mem hm
  have hj2:(l.map (·.1))[j]?=some k:=hk▸hj
  have hl1:=(List.getElem?_eq_some_iff.1 hj).1
  have hl2:=(List.getElem?_eq_some_iff.1 hj2).1
  rw[List.length_map] at hl1 hl2
  rw[mput_at hn hj,mput_at hn2 hj2]
  rw[yE hn hj,yE hn2 hj2,map_eraseIdx,map_eraseIdx] at hr
  refine hr.to fun t=>(dV.take j (u:=s) (r:=r) (by rw[List.map_set,List.getElem?_set_self (by simpa using hl1)]) (by rw[List.map_set,List.getElem?_set_self (by simpa using hl2)])).2 ?_
  rw[List.map_set,List.map_set,List.eraseIdx_set_eq,List.eraseIdx_set_eq]
  exact t
 rw[mput_new hm,mput_new (hk▸hm),List.map_append,List.map_append]
 rw[filter_all hm,filter_all (hk▸hm)] at hr
 exact hr.to fun t=>dV.snoc t
theorem RowsX.back {v:Value} (he:((nR us k).getD Sl.nil).v=v) {r:List α} (h:Hp Z ρ (aA Ti v r::RowsX Ti us l k::L) w):Hp Z ρ (U5 Ti us (mset l k r)::L) w:=by
 subst he
 obtain⟨h1,hk,hn⟩:=Hp.fact (A:=dV Ti ((us.filter fun p=> !decide (p.1=k)).map Prod.snd) ((l.filter fun p=> !decide (p.1=k)).map Prod.snd)) (h.get 1 rfl)
 have hr:=h1.get 1 rfl
 have hn2:(l.map (·.1)).Nodup:=hk▸hn
 unfold mset
 by_cases hm:k∈us.map (·.1)
 ·rw[if_pos (mhas_iff.2 (hk▸hm))]
  refine Hp.addFact ?_ ⟨by rw[yK,if_pos (hk▸hm)];exact hk,hn⟩
  obtain⟨j,hj⟩:=List.getElem?_of_mem hm
  have hj2:(l.map (·.1))[j]?=some k:=hk▸hj
  obtain⟨u,hu,hu2⟩:=F9 hn hj
  have hl2:=(List.getElem?_eq_some_iff.1 hj2).1
  rw[List.length_map] at hl2
  rw[mput_at hn2 hj2]
  rw[hu2,yE hn hj,yE hn2 hj2,map_eraseIdx,map_eraseIdx] at hr
  refine hr.to fun t=>(dV.take j (u:=u) (r:=r) (by rw[List.getElem?_map,hu];rfl) (by rw[List.map_set,List.getElem?_set_self (by simpa using hl2)])).2 ?_
  rw[List.map_set,List.eraseIdx_set_eq]
  exact t
 rw[if_neg (fun h=>hm (hk▸mhas_iff.1 h))]
 refine Hp.addFact ?_ ⟨hk,hn⟩
 rw[filter_all hm,filter_all (hk▸hm)] at hr
 exact hr.drop
theorem RowsX.back0 {v:Value} (he:((nR us k).getD Sl.nil).v=v) (h:Hp Z ρ (aA Ti v ((nR l k).getD [])::RowsX Ti us l k::L) w):Hp Z ρ (U5 Ti us l::L) w:=by
 have h2:=RowsX.back he h
 have hkn:=(Hp.fact (A:=dV Ti ((us.filter fun p=> !decide (p.1=k)).map Prod.snd) ((l.filter fun p=> !decide (p.1=k)).map Prod.snd)) (h.get 1 rfl)).2
 have e:mset l k ((nR l k).getD [])=l:=by
  unfold mset
  split
  ·rename_i hm
   obtain⟨j,hj⟩:=List.getElem?_of_mem (mhas_iff.1 hm)
   obtain⟨r,hr1,hr2⟩:=F9 (hkn.1▸hkn.2) hj
   rw[mput_at (hkn.1▸hkn.2) hj,hr2]
   exact set_self hr1
  rfl
 rw[e] at h2
 exact h2
theorem U5.ro {h:PH} (d:ρ.dj h) (a:U5 Ti us l h):U6 (ρ.un h) us l:=by
 obtain⟨hr,hk,hn⟩:=a
 have hn2:(l.map (·.1)).Nodup:=hk▸hn
 refine⟨hk,hn,fun k=>?_⟩
 by_cases hm:k∈us.map (·.1)
 ·obtain⟨j,hj⟩:=List.getElem?_of_mem hm
  obtain⟨u,hu,hu2⟩:=F9 hn hj
  obtain⟨r,hr1,hr2⟩:=F9 hn2 (hk▸hj:(l.map (·.1))[j]?=some k)
  rw[hu2,hr2]
  obtain⟨k',h4,h5⟩:=dV.at_ j hr (by rw[List.getElem?_map,hu];rfl) (by rw[List.getElem?_map,hr1];rfl)
  have h6:bW (PH.emp.un k') u.v r:=aA.ro (PH.dj_emp k').symm h4
  exact h6.mono (by
   have:PH.emp.un k'=k':=by funext x;rfl
   rw[this];exact h5.tr (PH.le_un_r d))
 rw[G5 hm,G5 (hk▸hm)]
 exact bW.nil _
theorem U6.mono {ρ':PH} (h:U6 ρ us l) (hl:ρ.le ρ'):U6 ρ' us l:=⟨h.1,h.2.1,fun k=>(h.2.2 k).mono hl⟩
theorem U6.get (h:U6 ρ us l) (k:κ):∃v,((nR us k).getD Sl.nil).v=v∧bW ρ v ((nR l k).getD []):=⟨_,rfl,h.2.2 k⟩
theorem U6.at_ (h:U6 ρ us l) {u:Sl} (hm:(k,u)∈us):bW ρ (vl u) ((nR l k).getD []):=by
 have:=h.2.2 k
 rw[mget_mem h.2.1 hm] at this
 exact this
end
section
variable {Rn:Option Nat} {P:Program} {ops:Array Oper} {Q:Exit→Act→World→Prop} {rest:List Oper} {o:Oper} {a:Act} {w:World} {Df:List Deferred} {N:Nat} {E:Ent} {d:Nat} {Z:World} {ρ:PH} {L:List bZ}
variable {κ β:Type} [Vl κ] [Vl β]
theorem MapIt.sub {b r:Nat} {l rem:List (κ×β)} {cur:Option (κ×β)} (h:Hp Z ρ (MapIt b r l rem cur::L) w):rem.Sublist l:=by
 obtain⟨es,clock,since,seen,last,_,_,_,_,_,_,h5,_⟩:=h.it
 exact h5
theorem MapIt.mem {b r:Nat} {l rem rem':List (κ×β)} {cur:Option (κ×β)} {e:κ×β} (h:Hp Z ρ (MapIt b r l rem cur::L) w) (hp:rem.Perm (e::rem')):e∈l:=(MapIt.sub h).subset (hp.symm.subset (by simp))
variable [DecidableEq κ]
end
def TblX {α:Type} [Enc α] (T Ti:TypeId) (v:Value) (us:List Sl) (l:List (List α)) (i:Int):bZ:=star (aA T v us) (dV Ti (us.eraseIdx i.toNat) (l.eraseIdx i.toNat))
section
variable {Rn:Option Nat} {P:Program} {ops:Array Oper} {Q:Exit→Act→World→Prop} {rest:List Oper} {o:Oper} {a:Act} {w:World} {Df:List Deferred} {N:Nat} {E:Ent} {d:Nat} {Z:World} {ρ:PH} {L:List bZ} {C:World→Prop}
variable {α:Type} [Enc α] {T Ti To Tr:TypeId} {v:Value} {us:List Sl} {l:List (List α)} {bytes:Nat}
theorem ex_nil {x:Operand} (ho:o.op= .nilCheck x) (hE:EnvD Df N E a) {p:Addr} (hx:evo E x=some (.pointer (some p))):Ex P C a o (.pointer (some p)):=fun w _=>by
 simp[execOp,ho,hE.eval hx]
theorem bT.takeRow (hp:Hp Z ρ L w) (k:Nat) (hk:L[k]?=some (bT T Ti v us l)) {i:Int} {u:Sl} {r:List α} (hu:idx us i=some u) (hi:idx l i=some r):
  Hp Z ρ (aA Ti u.v r::TblX T Ti v us l i::L.eraseIdx k) w:=
 (bT.focus hp k hk hu hi).to fun s=>Sep.cons_mono (fun ρ h s=>Sep.two.2 (Sep.swap s)) s
theorem TblX.adr (hp:Hp Z ρ L w) (k:Nat) {i:Int} (hk:L[k]?=some (TblX T Ti v us l i)) (ht:SlTy P To T 1 bytes) {u:Sl} (hu:idx us i=some u):
  ∃(g off:Nat),(∀w,(Instr.indexAt To v (.int .i64 i)).run P w= .ok (.pointer (some ⟨g,off,none⟩)) w)∧(∃of0 cap,v= .slice (some ⟨g,of0,none⟩) us.length cap∧off=of0+i.toNat*1):=by
 have h:Hp Z ρ (aA T v us::dV Ti (us.eraseIdx i.toNat) (l.eraseIdx i.toNat)::L.eraseIdx k) w:=(hp.get k hk).to Sep.two.1
 obtain⟨g,off,e1,e2,_⟩:=aA.at h 0 rfl ht hu
 exact⟨g,off,e1,e2⟩
theorem Hp.rowsNil (Ti:TypeId) (hp:Hp Z ρ L w):Hp Z ρ (dV Ti [] ([]:List (List α))::L) w:=hp.to Sep.emp1.2
theorem Hp.rowsCons {u:Sl} {vr:Value} (he:u.v=vr) {r:List α} (hp:Hp Z ρ (aA Ti vr r::dV Ti us l::L) w):Hp Z ρ (dV Ti (u::us) (r::l)::L) w:=by
 subst he;exact hp.to Sep.two.2
theorem dV.app:∀{us us2:List Sl} {l l2:List (List α)} {ρ h:PH} {L:List bZ},Sep ρ (dV Ti us2 l2::dV Ti us l::L) h→Sep ρ (dV Ti (us++us2) (l++l2)::L) h
 | [],us2,[],l2,ρ,h,L,hs=>Sep.cons_mono (fun ρ h s=>Sep.emp1.1 s) hs
 | [],_,_::_,_,_,_,_,hs=>by obtain⟨_,_,_,k,a,_⟩:=hs;exact a.elim
 |_::_,_,[],_,_,_,_,hs=>by obtain⟨_,_,_,k,a,_⟩:=hs;exact a.elim
 |u::us,us2,r::l,l2,ρ,h,L,hs=>
  Sep.two.2 (Sep.cons_mono (fun ρ h s=>dV.app s) (Sep.swap (Sep.cons_mono (fun ρ h s=>Sep.two.1 s) hs) |> fun s=>Sep.cons_mono (fun ρ h s=>s) s))
theorem Hp.front2 {A B D:bZ} (hp:Hp Z ρ (A::L) w) (k:Nat) (hk:L[k]?=some B) (hi:∀h,B h→D h):Hp Z ρ (D::A::L.eraseIdx k) w:=(hp.get (k+1) (A:=B) (by simpa using hk)).imp hi
theorem s_tputX (wk:Region.wanted o (yielded ops a.tmps)=true) (hd:o.dst=none) (hE:EnvD Df N E a) {ur:Sl} {vr:Value} (he:ur.v=vr) {r':List α} (hp:Hp Z ρ (aA Ti vr r'::L) w) {Tx:TypeId} {x y:Operand} (ho:o.op= .store Tx x y) {g off:Nat} (hx:evo E x=some (.pointer (some ⟨g,off,none⟩))) (hy:evo E y=some vr) (k:Nat) {i:Int} (hk:L[k]?=some (TblX T Ti v us l i))
  {u:Sl} {r:List α} (hu:idx us i=some u) (hi:idx l i=some r) (hv:∃of0 cap,v= .slice (some ⟨g,of0,none⟩) us.length cap∧off=of0+i.toNat*1) (ht:∀w,(sizeOf Tx).run P w= .ok 1 w)
  (K:∀w,Hp Z ρ (L.set k (bT T Ti v (us.set i.toNat ur) (l.set i.toNat r'))) w→wpL Rn P ops Q rest a w):wpL Rn P ops Q (o::rest) a w:=by
 subst he
 have h0:Hp Z ρ (aA T v us::aA Ti ur.v r'::dV Ti (us.eraseIdx i.toNat) (l.eraseIdx i.toNat)::L.eraseIdx k) w:=
  (hp.get (k+1) (A:=TblX T Ti v us l i) (by simpa using hk)).to fun s=>Sep.cons_mono (fun ρ h=>Sep.swap) (Sep.two.1 s)
 refine mY wk hd hE h0 ho hx hy 0 rfl hu hv 0 ht rfl ur.cells ur.one ⟨rfl,rfl⟩ fun w hw=>K w ?_
 refine Hp.put k (List.getElem?_eq_some_iff.1 hk).1 (Hp.tblShut (hw.to fun s=>?_))
 refine Sep.cons_mono (fun ρ h s=>?_) s
 obtain⟨_,hui,hus⟩:=kN hu
 obtain⟨_,hli,hls⟩:=kN hi
 refine(dV.take (us:=us.set i.toNat ur) (l:=l.set i.toNat r') (u:=ur) (r:=r') i.toNat (by rw[List.getElem?_set_self (by omega)]) (by rw[List.getElem?_set_self (by omega)])).2 ?_
 rw[List.eraseIdx_set_eq,List.eraseIdx_set_eq]
 exact s
end
section
variable {Rn:Option Nat} {P:Program} {fn:Func} {R:Ending→World→Prop} {a:Act} {w:World} {Df:List Deferred} {N:Nat} {E:Ent}
theorem retct (hE:Env N E a) {t u:Nat} {T:TypeId} (hr:fn.results= #[.cell t T,.tmp u]) {p:Addr} (hv:lk E t=some (.pointer (some p))) {x:Value} (hu:lk E u=some x) {v:Value} (hl:(loadVar T p).run P w= .ok v w) (h:R (.returned (.tuple #[v,x])) w):bodyPost P fn R .ret a w:=by
 refine⟨hE.defers,_,?_,h⟩
 have h1:=hE.val t _ hv
 have h2:=hE.val u _ hu
 simp[results,hr,Array.getD_eq_getD_getElem?,h1,h2,asAddr,hl]
end
class Rep1 (α:Type) [Rep α]:Prop where
 one:∀{ρ:PH} {a:α} {cs:List Value},Rep.ok ρ a cs→∀v∈cs,v.oneCell'=true
 pos:0<Rep.sz α
def wQ {α:Type} [Rep α] (T:TypeId) (v:Value) (l:List α) (xs:List Value):bZ:=Row T (Rep.sz α) v l.length xs
section
variable {α:Type} [Rep α] {ρ ρ':PH} {l m:List α} {xs ys:List Value}
theorem jT.nil:jT ρ ([]:List α) []:=rfl
theorem jT.mono (h:ρ.le ρ'):∀{l:List α} {xs:List Value},jT ρ l xs→jT ρ' l xs
 | [],_,e=>e
 |a::l,_,⟨c,r,e,hc,hr⟩=>⟨c,r,e,Rep.mono h hc,jT.mono h hr⟩
theorem jT.len:∀{l:List α} {xs:List Value},jT ρ l xs→xs.length=l.length*Rep.sz α
 | [],_,e=>by rw[e];simp
 |a::l,_,⟨c,r,e,hc,hr⟩=>by
  rw[e,List.length_append,Rep.len hc,jT.len hr,List.length_cons,Nat.add_mul];omega
theorem jT.app:∀{l:List α} {xs:List Value},jT ρ l xs→jT ρ m ys→jT ρ (l++m) (xs++ys)
 | [],_,e,h=>by rw[e];exact h
 |a::l,_,⟨c,r,e,hc,hr⟩,h=>⟨c,r++ys,by rw[e,List.append_assoc],hc,jT.app hr h⟩
theorem jT.one1 [Rep1 α]:∀{l:List α} {xs:List Value},jT ρ l xs→∀v∈xs,v.oneCell'=true
 | [],_,e,v,hv=>by rw[e] at hv;simp at hv
 |a::l,_,⟨c,r,e,hc,hr⟩,v,hv=>by
  rw[e,List.mem_append] at hv
  rcases hv with hv|hv
  ·exact Rep1.one hc v hv
  exact jT.one1 hr v hv
theorem jT.set:∀{l:List α} {xs:List Value} (i:Nat) {a:α} {cs:List Value},jT ρ l xs→i<l.length→Rep.ok ρ a cs→jT ρ (l.set i a) (xs.take (i*Rep.sz α)++cs++xs.drop ((i+1)*Rep.sz α))
 |b::l,_,0,a,cs,⟨c,r,e,hc,hr⟩,_,ha=>by
  rw[e,Nat.zero_mul,List.take_zero,List.nil_append,Nat.zero_add,Nat.one_mul,←Rep.len hc,List.drop_left,List.set_cons_zero]
  exact⟨cs,r,rfl,ha,hr⟩
 |b::l,_,i+1,a,cs,⟨c,r,e,hc,hr⟩,hi,ha=>by
  have:=jT.set i hr (by simpa using hi) ha
  have hl:=Rep.len hc
  rw[e,List.set_cons_succ,Nat.add_mul,Nat.one_mul,show i*Rep.sz α+Rep.sz α=c.length+i*Rep.sz α by omega,List.take_append,List.take_of_length_le (by omega),Nat.add_sub_cancel_left,
   show(i+1+1)*Rep.sz α=c.length+(i+1)*Rep.sz α by rw[Nat.add_mul (i+1)];omega,List.drop_append,List.drop_of_length_le (by omega),List.nil_append,Nat.add_sub_cancel_left]
  exact⟨c,_,by simp only[List.append_assoc],hc,this⟩
end
section
variable {α:Type} [Rep α] {Rn:Option Nat} {P:Program} {Z:World} {ρ:PH} {L:List bZ} {w:World} {T El:TypeId} {v:Value} {l:List α} {xs:List Value}
theorem wQ.nil (T:TypeId):wQ T (.slice none 0 0) ([]:List α) [] PH.emp:=Row.nil T _ none
theorem wQ.len {sz bytes:Nat} (hp:Hp Z ρ L w) (k:Nat) (hk:L[k]?=some (wQ El v l xs)) (ht:SlTy P T El sz bytes) (w':World) (ty:TypeId):(Builtin.len_ #[T] ty #[v]).run P w'= .ok (.int .i64 l.length) w':=by
 rcases(hp.get k hk).row.2 with⟨A,rfl,hn⟩|⟨g,off,cap,cur,rfl,_,_⟩
 ·rw[hn];exact run_len ht A 0 0 w' ty
 exact run_len ht _ _ cap w' ty
theorem wQ.cells (hp:Hp Z ρ L w) (k:Nat) (hk:L[k]?=some (wQ El v l xs)):v.cells= #[v]:=by
 rcases(hp.get k hk).row.2 with⟨A,rfl,_⟩|⟨g,off,cap,cur,rfl,_⟩<;>rfl
theorem wQ.one (hp:Hp Z ρ L w) (k:Nat) (hk:L[k]?=some (wQ El v l xs)):v.oneCell'=true:=by
 rcases(hp.get k hk).row.2 with⟨A,rfl,_⟩|⟨g,off,cap,cur,rfl,_⟩<;>rfl
theorem wQ.ro {k:PH} (d:ρ.dj k) (h:wQ T v l xs k) (hR:jT ρ l xs):bW (ρ.un k) v l:=by
 obtain⟨hxl,h⟩:=h
 rcases h with⟨A,rfl,hn⟩|⟨g,off,cap,cur,rfl,rfl,h1,h2,h3,h4⟩
 ·obtain rfl:=List.eq_nil_of_length_eq_zero hn
  exact⟨A,0,rfl,Nat.le_refl _,fun i a h=>by simp at h⟩
 refine⟨some ⟨g,off,none⟩,cap,rfl,h1,fun i a hi=>?_⟩
 obtain⟨c,hc,hg⟩:=hR.get i a hi
 refine⟨g,off,c,rfl,Rep.mono (PH.le_un _ _) hc,fun j u hj=>?_⟩
 have hb:(ρ.un (PH.one g (.cells cur T (0,0)))) g=some (.cells cur T (0,0)):=PH.le_un_r d g _ (by simp[PH.one])
 unfold cellAt
 rw[hb]
 simp only
 have hf:=hg j u hj
 rw[←h4,List.getElem?_take] at hf
 split at hf
 ·rw[List.getElem?_drop,←Nat.add_assoc] at hf
  rw[←Array.getElem?_toList]
  exact hf
 cases hf
theorem wQ.at {bytes:Nat} (hp:Hp Z ρ L w) (k:Nat) (hk:L[k]?=some (wQ El v l xs)) (hR:jT ρ l xs) (ht:SlTy P T El (Rep.sz α) bytes) {i:Int} {e:α} (hi:idx l i=some e):
  ∃g off cs,(∀w,(Instr.indexAt T v (.int .i64 i)).run P w= .ok (.pointer (some ⟨g,off,none⟩)) w)∧(∃of0 cap,v= .slice (some ⟨g,of0,none⟩) l.length cap∧off=of0+i.toNat*Rep.sz α)∧Rep.ok ρ e cs∧∀(j:Nat) (u:Value),cs[j]?=some u→∀ρ' L' w,Hp Z ρ' (wQ El v l xs::L') w→w.cell? ⟨g,off+j,none⟩=some u:=by
 obtain⟨i0,i1,i2⟩:=kN hi
 rcases(hp.get k hk).row.2 with⟨_,_,hn⟩|⟨g,of0,cap,cur,rfl,_,_⟩
 ·omega
 obtain⟨c,hc,hg⟩:=hR.get i.toNat e i2
 refine⟨g,of0+i.toNat*Rep.sz α,c,fun w=>run_index ht g of0 _ cap i0 i1 w,⟨of0,cap,rfl,rfl⟩,hc,fun j u hj ρ' L' w' hw'=>?_⟩
 rcases hw'.row.2 with⟨A,hA,hn⟩|⟨g',of1,cap',cur',e2,hpt,h2,h3,h4,h5⟩
 ·omega
 simp only[Value.slice.injEq,Option.some.injEq,Addr.mk.injEq,and_true,true_and] at e2
 obtain⟨⟨rfl,rfl⟩,rfl⟩:=e2
 have hlook:=hpt.look 0 rfl
 have hf:=hg j u hj
 rw[←h5,List.getElem?_take] at hf
 split at hf
 ·rw[List.getElem?_drop,←Nat.add_assoc] at hf
  simp[World.cell?,hlook,←Array.getElem?_toList,hf]
 cases hf
end
section
variable {α:Type} [Rep α] {ρ:PH}
theorem bW.rowR {v:Value} {l:List α} (h:bW ρ v l) (hl:0<l.length):∃b off c ys,v= .slice (some ⟨b,off,none⟩) l.length c∧jT ρ l ys∧AtP ρ b off ys:=by
 obtain⟨A,c,rfl,_,hh⟩:=h
 obtain⟨b,off,cs,e1,_,_⟩:=hh 0 l[0] (List.getElem?_eq_getElem hl)
 subst e1
 have key:∀(m:List α) (o:Nat),(∀i a,m[i]?=some a→∃cs,Rep.ok ρ a cs∧AtP ρ b (o+i*Rep.sz α) cs)→∃ys,jT ρ m ys∧AtP ρ b o ys:=by
  intro m
  induction m with
  |nil=>intro o _;exact⟨[],rfl,fun j u h=>by simp at h⟩
  |cons a m ih=>
   intro o hm
   obtain⟨cs,h1,h2⟩:=hm 0 a rfl
   rw[Nat.zero_mul,Nat.add_zero] at h2
   obtain⟨ys,h3,h4⟩:=ih (o+Rep.sz α) (fun i a' hi=>by
    obtain⟨cs,h5,h6⟩:=hm (i+1) a' (by simpa using hi)
    rw[Nat.add_mul,Nat.one_mul,show o+(i*Rep.sz α+Rep.sz α)=o+Rep.sz α+i*Rep.sz α by omega] at h6
    exact⟨cs,h5,h6⟩)
   refine⟨cs++ys,⟨cs,ys,rfl,h1,h3⟩,fun j u hj=>?_⟩
   have hc:=Rep.len h1
   rcases Nat.lt_or_ge j cs.length with h|h
   ·rw[List.getElem?_append_left h] at hj;exact h2 j u hj
   rw[List.getElem?_append_right h] at hj
   have:=h4 _ u hj
   rw[show o+Rep.sz α+(j-cs.length)=o+j by omega] at this
   exact this
 obtain⟨ys,h1,h2⟩:=key l off (fun i a hi=>by
  obtain⟨b2,o2,cs2,e2,h4,h5⟩:=hh i a hi
  simp only[Option.some.injEq,Addr.mk.injEq,and_true] at e2
  obtain⟨rfl,rfl⟩:=e2
  exact⟨cs2,h4,h5⟩)
 exact⟨b,off,c,ys,rfl,h1,h2⟩
end
section
variable {α:Type} [Rep α] [Rep1 α] {Rn:Option Nat} {P:Program} {ops:Array Oper} {Q:Exit→Act→World→Prop} {rest:List Oper} {o:Oper} {a:Act} {w:World} {Df:List Deferred} {N:Nat} {E:Ent} {d:Nat} {Z:World} {ρ:PH} {L:List bZ}
theorem s_appR (wk:Region.wanted o (yielded ops a.tmps)=true) (hd:o.dst=some d) (hN:Nat.blt d N=true) (hE:EnvD Df N E a) (hp:Hp Z ρ L w) {x y:Operand} {t:TypeId} (ho:o.op= .call {callee:= .builtin .append,args:= #[x,y],argTypes:= #[t,t] }) {El:TypeId} {bytes:Nat} (ht:SlTy P t El (Rep.sz α) bytes) (hby:Nat.ble bytes 16384=true)
  {v:Value} (hx:evo E x=some v) (i:Nat) {l:List α} {xs:List Value} (hi:L[i]?=some (wQ El v l xs)) {b off m c:Nat} (hy:evo E y=some (.slice (some ⟨b,off,none⟩) m c)) {l2 r:List α} {ys:List Value} (hm:l2.length=m) (hR2:jT ρ l2 ys) (hn:∀j u,ys[j]?=some u→w.cell? ⟨b,off+j,none⟩=some u) (hr:app l l2=some r)
  (K:∀v' a w,EnvD Df N ((d,v')::E) a→Hp Z ρ (L.set i (wQ El v' r (xs++ys))) w→wpL Rn P ops Q rest a w):wpL Rn P ops Q (o::rest) a w:=by
 obtain⟨hlen,rfl⟩:=vC hr
 have hby':bytes≤16384:=by simpa using hby
 have hb2:(l.length+m)*bytes≤4294967296*16384:=Nat.mul_le_mul (by omega) hby'
 obtain⟨v',w',hrun,hp'⟩:=run_app (P:=P) ht Rep1.pos o.type (hp.get i hi) ⟨b,off,none⟩ m c ys (by rw[hR2.len,hm]) (fun j u hj=>by rw[Addr.add_lit];exact hn j u hj) hR2.one1 (by unfold maxLen;omega) (by omega)
 refine G8 wk hd hN hE (v:=v') (w':=w') ?_ fun a' hE'=>K v' a' w' hE' ?_
 ·simp only[execOp,ho,resolve,invoke,builtin,Sem.run_bind,Sem.run_pure,Result.andThen_ok,List.map_toArray,List.map_cons,List.map_nil,hE.eval hx,hE.eval hy,hrun]
 refine Hp.put i (aA8 (A:=wQ El v l xs) (_B:=wQ El v l xs) hi).2 ?_
 unfold wQ
 rw[List.length_append,hm]
 exact hp'
end
instance rep1Enc {α:Type} [Enc α]:Rep1 α:=⟨fun h v hv=>by
 have h':_=Enc.enc _:=h
 rw[h'] at hv;exact Enc.one _ v hv,Enc.pos⟩
abbrev Facts:=List (List Nat×(World→Prop))
def alive (G:List Nat) (listed:Array Bool):Bool:=G.all fun g=> !listed.getD g true
def invV:Facts→Array Bool→World→Prop
 | [],_,_=>True
 |p::r,listed,w=>(alive p.1 listed=true→p.2 w)∧invV r listed w
theorem invV.get {listed:Array Bool} {w:World} {G:List Nat} {C:World→Prop}:∀{F:Facts} (n:Nat),F[n]?=some (G,C)→alive G listed=true→invV F listed w→C w
 | [],_,h,_,_=>by simp at h
 |p::r,0,h,ha,hi=>by
  simp only[List.getElem?_cons_zero,Option.some.injEq] at h
  subst h
  exact hi.1 ha
 |p::r,n+1,h,ha,hi=>invV.get (F:=r) n (by simpa using h) ha hi.2
theorem alive_set {G:List Nat} {listed:Array Bool} {i:Nat} (h:alive G (listed.setIfInBounds i true)=true):alive G listed=true:=by
 unfold alive at*
 rw[List.all_eq_true] at*
 intro g hg
 have:=h g hg
 by_cases e:i=g
 ·subst e
  rcases Nat.lt_or_ge i listed.size with h'|h'
  ·simp[h'] at this
  simp[Array.getElem?_eq_none h'] at this
 rw[getD_set_ne true e] at this;exact this
theorem invV.weak {listed:Array Bool} {w:World} {i:Nat}:∀{F:Facts},invV F listed w→invV F (listed.setIfInBounds i true) w
 | [],h=>trivial
 |p::r,h=>⟨fun ha=>h.1 (alive_set ha),invV.weak h.2⟩
def zT:Facts→Nat→Bool
 | [],_=>true
 |p::r,i=> !p.1.contains i&&zT r i
theorem alive_of_set {G:List Nat} {listed:Array Bool} {i:Nat} (hc:G.contains i=false) (h:alive G listed=true):alive G (listed.setIfInBounds i true)=true:=by
 unfold alive at*
 rw[List.all_eq_true] at*
 intro g hg
 have hne:i≠g:=fun e=>by
  subst e
  have:G.contains i=true:=by simpa using hg
  rw[hc] at this;cases this
 rw[getD_set_ne true hne];exact h g hg
theorem invV.back {listed:Array Bool} {w:World} {i:Nat}:∀{F:Facts},zT F i=true→invV F (listed.setIfInBounds i true) w→invV F listed w
 | [],_,_=>trivial
 |p::r,hn,h=>by
  simp only[zT,Bool.and_eq_true,Bool.not_eq_true'] at hn
  exact⟨fun ha=>h.1 (alive_of_set hn.1 ha),invV.back hn.2 h.2⟩
section
variable {Rn:Option Nat} {P:Program} {ops:Array Oper} {Q:Exit→Act→World→Prop} {md:Region.Mode} {F:Facts}
def kL (P:Program) (md:Region.Mode) (ops:Array Oper) (Q:Exit→Act→World→Prop) (F:Facts):Nat→Array Bool→Act→World→Prop
 |0,listed,a,w=>Region.ready md ops listed=[]∧Q .normal a w
 |fuel+1,listed,a,w=>
  (Region.ready md ops listed=[]→Q .normal a w)∧
  ∀i∈Region.ready md ops listed,wpOp P ops Q i (fun a' w'=>invV F (listed.setIfInBounds i true) w'∧kL P md ops Q F fuel (listed.setIfInBounds i true) a' w') a w
theorem wpAny_of_V:∀(fuel:Nat) (listed:Array Bool) (a:Act) (w:World),kL P md ops Q F fuel listed a w→wpAny P md ops Q fuel listed a w
 |0,_,_,_,h=>h
 |fuel+1,_,_,_,h=>⟨h.1,fun i hi=>wpOp_mono (fun a' w' h'=>wpAny_of_V fuel _ a' w' h'.2) (h.2 i hi)⟩
def waits (md:Region.Mode) (ops:Array Oper) (G:List Nat) (i:Nat):Bool:=G.all fun g=>match ops[g]? with|some o=>o.after.any fun e=>Region.binds md e&&e.on==i|none=>false
theorem waits_spec {G:List Nat} {i:Nat} (h:waits md ops G i=true) {g:Nat} (hg:g∈G):∃o,ops[g]?=some o∧∃e∈o.after,Region.binds md e=true∧e.on=i:=by
 have h1:=List.all_eq_true.1 h g hg
 cases ho:ops[g]? with
 |none=>simp[ho] at h1
 |some o=>
  simp only[ho] at h1
  obtain⟨e,he,hb⟩:=Array.any_eq_true'.1 h1
  simp only[Bool.and_eq_true,beq_iff_eq] at hb
  exact⟨o,rfl,e,he,hb.1,hb.2⟩
theorem aJ6 {i:Nat} {oi:Oper} {v:Value} (hi:ops[i]?=some oi) (hsel:∀(j:Nat) (o:Oper) cs b,ops[j]?=some o→o.op≠ .select cs b)
  (hQ:∀c a w,Q (.panic c) (a.put oi.dst v) w→Q (.panic c) a w) {n:Nat} {G:List Nat} {C:World→Prop} (hn:F[n]?=some (G,C)) (hG:waits md ops G i=true) (hN:zT F i=true):
  ∀(fuel:Nat) (listed:Array Bool) (a:Act) (w:World),
   (∀j oj,ops[j]?=some oj→j≠i→listed.getD j true=false→(∀e∈oj.after,Region.binds md e=true→e.on≠i)→oi.apart ops oj=true)→
   i∈Region.ready md ops listed→YieldsIf P ops C oi v a→alive G listed=true→invV F listed w→
   kL P md ops Q F fuel (listed.setIfInBounds i true) (a.put oi.dst v) w→kL P md ops Q F (fuel+1) listed a w:=by
 intro fuel
 induction fuel with
 |zero=>
  intro listed a w _ hr hy ha hS H
  refine⟨fun h=>(by rw[h] at hr;cases hr),fun j hj=>?_⟩
  by_cases hji:j=i
  ·subst hji;exact hy.wpOp hi (hS.get n hn ha) ⟨hS.weak,H⟩
  have:=ready_mono hj hji
  rw[H.1] at this
  cases this
 |succ fuel ih=>
  intro listed a w hfree hr hy ha hS H
  refine⟨fun h=>(by rw[h] at hr;cases hr),fun j hj=>?_⟩
  by_cases hji:j=i
  ·subst hji;exact hy.wpOp hi (hS.get n hn ha) ⟨hS.weak,H⟩
  have h1:=H.2 j (ready_mono hj hji)
  obtain⟨hjun,oj,hoj,hall⟩:=mem_ready.1 hj
  have hnot:∀e∈oj.after,Region.binds md e=true→e.on≠i:=fun e he hb heq=>by
   have h1:=hall e he hb
   have h0:=(mem_ready.1 hr).1
   rw[heq] at h1
   rcases Nat.lt_or_ge i listed.size with h'|h'
   ·simp[h'] at h0 h1;rw[h0] at h1;cases h1
   simp[Array.getElem?_eq_none h'] at h1
  have hjG:j∉G:=fun hm=>by
   obtain⟨o,ho,e,he,hb,heq⟩:=waits_spec hG hm
   rw[hoj] at ho
   obtain rfl:=Option.some.inj ho
   exact hnot e he hb heq
  have ha':alive G (listed.setIfInBounds j true)=true:=by
   unfold alive at*
   rw[List.all_eq_true] at*
   intro g hg
   have hne:j≠g:=fun e=>hjG (e▸hg)
   rw[getD_set_ne true hne];exact ha g hg
  have h2:=wpOp_putIf hoj (hfree j oj hoj hji hjun hnot) (fun cs b=>hsel i oi cs b hi) (fun cs b=>hsel j oj cs b hoj) hQ hy h1
  have hfree':∀k ok,ops[k]?=some ok→k≠i→(listed.setIfInBounds j true).getD k true=false→
    (∀e∈ok.after,Region.binds md e=true→e.on≠i)→oi.apart ops ok=true:=fun k ok hk hki hun hno=>by
   refine hfree k ok hk hki ?_ hno
   by_cases hjk:j=k
   ·subst hjk;exact hjun
   rw[getD_set_ne true hjk] at hun;exact hun
  refine wpOp_mono (fun a' w' h3=>?_) h2
  obtain⟨hy',hinv,hrest⟩:=h3
  rw[Array.setIfInBounds_comm _ _ (Ne.symm hji)] at hinv hrest
  have hinv':invV F (listed.setIfInBounds j true) w':=invV.back hN hinv
  refine⟨hinv',ih (listed.setIfInBounds j true) a' w' hfree' (ready_mono hr (Ne.symm hji)) hy' ha' hinv' ?_⟩
  exact hrest
end
section
variable {Rn:Option Nat} {P:Program} {ops:Array Oper} {a:Act} {w:World} {Df:List Deferred} {N:Nat} {E:Ent} {d:Nat} {J:Act→World→Prop} {fuel:Nat} {listed:Array Bool} {o:Oper} {F:Facts}
theorem jS {Q:Exit→Act→World→Prop} {cs:List Code} {id:Nat} {l:List Oper} (F:Facts) (J:Act→World→Prop) (hm:P.follows .mixedOrders=true) (h0:invV F (Array.replicate l.length false) w.drew)
  (h:invV F (Array.replicate l.length false) w.drew→kL P .any l.toArray (QJ J) F l.length (Array.replicate l.length false) a w.drew) (hk:∀a w,J a w→wpK none P Q cs a w):wpK none P Q (.region id l.toArray true::cs) a w:=by
 have h1:(Code.region id l.toArray true).wp P (QJ J) a w:=wp_region_any hm (by simpa using wpAny_of_V _ _ _ _ (h h0))
 exact wpIn_wide.2 <| Code.wp_mono (fun e a w q=>by
  cases e with
  |normal=>exact hk a w q
  |_=>exact q.elim) h1
def At0 (Z:World) (ρ:PH):World→Prop:=fun w=>∃L,Hp Z ρ L w
def At1 (Z:World) (ρ:PH) (A:bZ):World→Prop:=fun w=>∃L,Hp Z ρ (A::L) w
variable {Z:World} {ρ:PH} {A:bZ}
theorem v_take (i n:Nat) {G:List Nat} {C:World→Prop} (wk:Region.wanted o (yielded ops a.tmps)=true) (hi:ops[i]?=some o) (hd:o.dst=some d) (hN:Nat.blt d N=true) (hE:EnvD Df N E a) (hs:Region.noSelect ops=true) (hf:Region.free .any ops listed i=true) (hr:(Region.ready .any ops listed).contains i=true)
  (hn:F[n]?=some (G,C)) (hG:(waits .any ops G i&&alive G listed&&zT F i)=true) (hS:invV F listed w) {v:Value} (hx:Ex P C a o v)
  (K:∀a,EnvD Df N ((d,v)::E) a→invV F (listed.setIfInBounds i true) w→kL P .any ops (QJ J) F fuel (listed.setIfInBounds i true) a w):kL P .any ops (QJ J) F (fuel+1) listed a w:=by
 simp only[Bool.and_eq_true] at hG
 exact aJ6 hi (Region.noSelect_spec hs) (fun _ _ _ q=>q.elim) hn hG.1.1 hG.2 fuel listed a w (Region.free_spec hi hf) (by simpa using hr) (Or.inl ⟨wk,hx⟩) hG.1.2 hS (by rw[hd];exact K _ (hE.put hN v) hS.weak)
theorem v_take0 (i:Nat) (wk:Region.wanted o (yielded ops a.tmps)=true) (hi:ops[i]?=some o) (hd:o.dst=some d) (hN:Nat.blt d N=true) (hE:EnvD Df N E a) (hs:Region.noSelect ops=true) (hf:Region.free .any ops listed i=true) (hr:(Region.ready .any ops listed).contains i=true)
  (hn:F[0]?=some ([],At0 Z ρ)) (hG:(waits .any ops [] i&&alive [] listed&&zT F i)=true) (hS:invV F listed w) {v:Value} (hx:∀L,Ex P (Hp Z ρ L) a o v)
  (K:∀a,EnvD Df N ((d,v)::E) a→invV F (listed.setIfInBounds i true) w→kL P .any ops (QJ J) F fuel (listed.setIfInBounds i true) a w):kL P .any ops (QJ J) F (fuel+1) listed a w:=
 v_take i 0 wk hi hd hN hE hs hf hr hn hG hS (fun w ⟨L,hw⟩=>hx L w hw) K
theorem v_take1 (i n:Nat) {G:List Nat} (wk:Region.wanted o (yielded ops a.tmps)=true) (hi:ops[i]?=some o) (hd:o.dst=some d) (hN:Nat.blt d N=true) (hE:EnvD Df N E a) (hs:Region.noSelect ops=true) (hf:Region.free .any ops listed i=true) (hr:(Region.ready .any ops listed).contains i=true)
  (hn:F[n]?=some (G,At1 Z ρ A)) (hG:(waits .any ops G i&&alive G listed&&zT F i)=true) (hS:invV F listed w) {v:Value} (hx:∀L,Ex P (Hp Z ρ (A::L)) a o v)
  (K:∀a,EnvD Df N ((d,v)::E) a→invV F (listed.setIfInBounds i true) w→kL P .any ops (QJ J) F fuel (listed.setIfInBounds i true) a w):kL P .any ops (QJ J) F (fuel+1) listed a w:=
 v_take i n wk hi hd hN hE hs hf hr hn hG hS (fun w ⟨L,hw⟩=>hx L w hw) K
theorem v_skip (i:Nat) (wk:Region.wanted o (yielded ops a.tmps)=false) (hi:ops[i]?=some o) (hd:o.dst=some d) (hN:Nat.blt d N=true) (hE:EnvD Df N E a) (hs:Region.noSelect ops=true) (hf:Region.free .any ops listed i=true) (hr:(Region.ready .any ops listed).contains i=true)
  (hn:F[0]?=some ([],At0 Z ρ)) (hG:zT F i=true) (hS:invV F listed w)
  (K:∀a,EnvD Df N ((d,undef)::E) a→invV F (listed.setIfInBounds i true) w→kL P .any ops (QJ J) F fuel (listed.setIfInBounds i true) a w):kL P .any ops (QJ J) F (fuel+1) listed a w:=
 aJ6 hi (Region.noSelect_spec hs) (fun _ _ _ q=>q.elim) hn rfl hG fuel listed a w (Region.free_spec hi hf) (by simpa using hr) (Or.inr ⟨wk,rfl⟩) rfl hS (by rw[hd];exact K _ (hE.put hN undef) hS.weak)
theorem aI {p q:Prop} (h:p) (k:p→q):p∧q:=⟨h,k h⟩
theorem jH (rs:List Nat) (hr:Region.ready .any ops listed=rs) (hne:rs.isEmpty=false) (h:∀i∈rs,wpOp P ops (QJ J) i (fun a' w'=>invV F (listed.setIfInBounds i true) w'∧kL P .any ops (QJ J) F fuel (listed.setIfInBounds i true) a' w') a w):kL P .any ops (QJ J) F (fuel+1) listed a w:=
 ⟨fun h0=>absurd (hr▸h0) (by intro e;rw[e] at hne;cases hne),hr▸h⟩
theorem eG (hr:Region.ready .any ops listed=[]) (h:J a w):kL P .any ops (QJ J) F fuel listed a w:=by
 cases fuel with
 |zero=>exact⟨hr,h⟩
 |succ n=>exact⟨fun _=>h,by rw[hr];simp⟩
theorem dead {G:List Nat} {p:Prop} (h:alive G listed=false):alive G listed=true→p:=fun e=>by rw[h] at e;cases e
end
instance rep1List {α:Type} [Rep α]:Rep1 (List α):=⟨fun h v hv=>by
 obtain⟨u,rfl,h⟩:=h
 rw[List.mem_singleton.1 hv];exact h.one,Nat.one_pos⟩
section
variable {Rn:Option Nat} {P:Program} {ops:Array Oper} {Q:Exit→Act→World→Prop} {rest:List Oper} {o:Oper} {a:Act} {w:World} {Df:List Deferred} {N:Nat} {E:Ent} {d:Nat} {Z:World} {ρ:PH} {L:List bZ}
variable {α:Type} [Enc α] {T El:TypeId} {bytes:Nat} {v:Value} {l r:List α}
theorem aA.view (hp:Hp Z ρ L w) (k:Nat) (hk:L[k]?=some (aA El v l)) (ht:SlTy P T El (Enc.sz α) bytes) (lo hi:Option (IntKind×Int)) {i j:Int} (hlo:i=match lo with|none=>0|some p=>p.2) (hhi:j=match hi with|none=>(l.length:Int)|some p=>p.2) (hr:sub l i j=some r):
  ∃v',∀w,(Instr.sliceAt T v (lo.map fun p=> .int p.1 p.2) (hi.map fun p=> .int p.1 p.2) none).run P w= .ok v' w:=by
 obtain⟨κ,ha,hd,_⟩:=(hp.get k hk).lend
 obtain⟨v',h,_⟩:=bW.part (aA.ro hd ha) ht lo hi hlo hhi hr
 exact⟨v',h⟩
omit [Enc α] in
theorem sl_det [Rep α] (w:World) {x y:Option Value} {v1 v2:Value} (h1:∀w,(Instr.sliceAt T v x y none).run P w= .ok v1 w) (h2:∀w,(Instr.sliceAt T v x y none).run P w= .ok v2 w) (h:bW ρ v1 l):bW ρ v2 l:=by
 have:=(h1 w).symm.trans (h2 w)
 injection this with e
 exact e▸h
end
theorem map_add0 (A:Option Addr):A.map (fun x=>x.add 0)=A:=by
 cases A with
 |none=>rfl
 |some a=>simp[Addr.add]
theorem run_sl3 {P:Program} {T El:TypeId} {sz bytes:Nat} (ht:SlTy P T El sz bytes) (A:Option Addr) (n c:Nat) {k k':IntKind} {j:Int} (h0:0≤j) (h2:j≤c) (w:World):
  (Instr.sliceAt T (.slice A n c) none (some (.int k j)) (some (.int k' j))).run P w= .ok (.slice A j.toNat j.toNat) w:=by
 obtain⟨inf,z,hI,hz,hsz,hby,hzs⟩:=ht.inf
 have hjc:j.toNat≤c:=by omega
 have hmx:max j 0=j:=by omega
 simp[Instr.sliceAt,Instr.slice,Instr.sliceBounds,Instr.sliceBound,asIntOf,run_underlying ht.und,sizeOf,typeInfo,hI,hsz,h0,h2,hjc,hmx,map_add0]
def RoFull {α:Type} [Rep α] (ρ:PH) (v:Value) (l:List α):Prop:=bW ρ v l∧∃A,v= .slice A l.length l.length
theorem RoFull.mono {α:Type} [Rep α] {ρ ρ':PH} {v:Value} {l:List α} (h:RoFull ρ v l) (hl:ρ.le ρ'):RoFull ρ' v l:=⟨h.1.mono hl,h.2⟩
theorem bW.full {P:Program} {α:Type} [Rep α] {ρ:PH} {v:Value} {l:List α} (h:bW ρ v l) {T El:TypeId} {bytes:Nat} (ht:SlTy P T El (Rep.sz α) bytes) (k k':IntKind):
  ∃v',(∀w,(Instr.sliceAt T v none (some (.int k (l.length:Int))) (some (.int k' (l.length:Int)))).run P w= .ok v' w)∧RoFull ρ v' l:=by
 obtain⟨A,c,rfl,h2,h3⟩:=h
 exact⟨_,fun w=>run_sl3 ht A l.length c (by omega) (by omega) w,⟨A,l.length,by simp,Nat.le_refl _,h3⟩,A,by simp⟩
theorem run_sl30 {P:Program} {T El:TypeId} {sz bytes:Nat} (ht:SlTy P T El sz bytes) {v:Value} (hv:∃A n c,v= .slice A n c) (k k':IntKind):∃A,∀w,(Instr.sliceAt T v none (some (.int k 0)) (some (.int k' 0))).run P w= .ok (.slice A 0 0) w:=by
 obtain⟨A,n,c,rfl⟩:=hv
 exact⟨A,fun w=>run_sl3 ht A n c (j:=0) (by omega) (by omega) w⟩
section
variable {P:Program} {o:Oper} {a:Act} {C:World→Prop} {Df:List Deferred} {N:Nat} {E:Ent}
theorem ex_sl3 {t:TypeId} {x h m:Operand} (ho:o.op= .slice t x none (some h) (some m)) (hE:EnvD Df N E a) {p v:Value} (hx:evo E x=some p) {k k':IntKind} {i j:Int} (hh:evo E h=some (.int k i)) (hm:evo E m=some (.int k' j)) (hr:∀w,(Instr.sliceAt t p none (some (.int k i)) (some (.int k' j))).run P w= .ok v w):Ex P C a o v:=
 ex_slice ho hE hx fun w=>by simp only[Option.map_none,Option.map_some,hE.eval hh,hE.eval hm];exact hr w
end
section
variable {α:Type} [Rep α] [Rep1 α] {Rn:Option Nat} {P:Program} {ops:Array Oper} {Q:Exit→Act→World→Prop} {rest:List Oper} {o:Oper} {a:Act} {w:World} {Df:List Deferred} {N:Nat} {E:Ent} {d:Nat} {Z:World} {ρ:PH} {L:List bZ}
theorem s_appC (wk:Region.wanted o (yielded ops a.tmps)=true) (hd:o.dst=some d) (hN:Nat.blt d N=true) (hE:EnvD Df N E a) (hp:Hp Z ρ L w) {x y:Operand} {t:TypeId} (ho:o.op= .call {callee:= .builtin .append,args:= #[x,y],argTypes:= #[t,t] }) {El:TypeId} {bytes:Nat} (ht:SlTy P t El (Rep.sz α) bytes) (hby:Nat.ble bytes 16384=true)
  {v:Value} (hx:evo E x=some v) {l:List α} (hs:RoFull ρ v l) {b off m c:Nat} (hy:evo E y=some (.slice (some ⟨b,off,none⟩) m c)) {l2 r:List α} {ys:List Value} (hm:l2.length=m) (hm0:Nat.blt 0 m=true) (hR2:jT ρ l2 ys) (hn:∀j u,ys[j]?=some u→w.cell? ⟨b,off+j,none⟩=some u) (hr:app l l2=some r)
  (K:∀v' xs a w,jT ρ l xs→EnvD Df N ((d,v')::E) a→Hp Z ρ (wQ El v' r (xs++ys)::L) w→wpL Rn P ops Q rest a w):wpL Rn P ops Q (o::rest) a w:=by
 obtain⟨hs,A,rfl⟩:=hs
 rcases Nat.eq_zero_or_pos l.length with h0|h0
 ·have hnil:=List.eq_nil_of_length_eq_zero h0
  subst hnil
  have hp':Hp Z ρ (wQ El (.slice A 0 0) ([]:List α) []::L) w:=hp.emp (Row.nil El _ A)
  exact s_appR wk hd hN hE hp' ho ht hby hx 0 rfl hy hm hR2 hn hr fun v' a w hE hp=>K v' [] a w rfl hE hp
 obtain⟨hlen,rfl⟩:=vC hr
 have hm0':0<m:=by simpa using hm0
 have hby':bytes≤16384:=by simpa using hby
 have hb2:(l.length+m)*bytes≤4294967296*16384:=Nat.mul_le_mul (by omega) hby'
 obtain⟨b0,off0,c0,xs,e0,hR,hat⟩:=hs.rowR h0
 simp only[Value.slice.injEq] at e0
 obtain⟨rfl,_,_⟩:=e0
 obtain⟨i,z,hi,hz,hsize,hbyt,hzs⟩:=ht.inf
 have hxl:xs.length=l.length*i.size:=by rw[hR.len,hsize]
 have hyl:ys.length=m*i.size:=by rw[hR2.len,hm,hsize]
 have hcell:∀j u,xs[j]?=some u→w.cell? ((⟨b0,off0,none⟩:Addr).add j)=some u:=fun j u hj=>by rw[Addr.add_lit];exact cell_of hp.le (hat j u hj)
 have hrun:=run_append_grow (P:=P) w t o.type El i z ht.und hi hz ⟨b0,off0,none⟩ l.length l.length xs hxl hcell ⟨b,off,none⟩ m c ys hyl (fun j u hj=>by rw[Addr.add_lit];exact hn j u hj) (by omega) (by omega) (growslice_fits (by omega) (by rw[hbyt];omega))
 obtain⟨v',w',hrun2,hp'⟩:∃v' w',(Builtin.append_ #[t,t] o.type #[.slice (some ⟨b0,off0,none⟩) l.length l.length,.slice (some ⟨b,off,none⟩) m c]).run P w= .ok v' w'∧Hp Z ρ (wQ El v' (l++l2) (xs++ys)::L) w':=by
  refine⟨_,_,hrun,?_⟩
  have hge:=grownCap_ge w (l.length+m) l.length El
  have hcm:grownCap w (l.length+m) l.length El≤maxLen:=grownCap_le_maxLen w (l.length+m) l.length El (by unfold maxLen;omega)
  unfold wQ
  rw[List.length_append,hm]
  refine(hp.drew.alloc _).shut hge hcm ?_ ?_
  ·simp only[Array.size_append,List.size_toArray,size_zeroCells,hzs,hxl,hyl,List.length_append,←hsize,←Nat.add_mul]
   congr 1
   omega
  have hlen:(xs++ys).length=(l.length+m)*i.size:=by rw[List.length_append,hxl,hyl,Nat.add_mul]
  simp only[Array.toList_append,List.append_assoc]
  rw[←List.append_assoc,←hsize,←hlen]
  exact List.take_left
 refine G8 wk hd hN hE (v:=v') (w':=w') ?_ fun a' hE'=>K v' xs a' w' hR hE' hp'
 simp only[execOp,ho,resolve,invoke,builtin,Sem.run_bind,Sem.run_pure,Result.andThen_ok,List.map_toArray,List.map_cons,List.map_nil,hE.eval hx,hE.eval hy,hrun2]
end
end Go.Proofs.Ytpkhmndpeipfmaa
