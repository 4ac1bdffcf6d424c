/- An arena of rows, and tables whose elements name its rows; a table of which one row is looked at while others grow. Plain theorems over any program. -/
import Derived.Test.YtpkhmndpeipfmaaKUn3
import Derived.Laws.Pointers
import Derived.Test.YtpkhmndpeipfmaaKUn2
import Derived.Test.YtpkhmndpeipfmaaProg
import Derived.Test.YtpkhmndpeipfmaaRows
import Derived.Sort.OwnSortedInts
import Derived.Lib.ItoaNum
import Derived.Lib.SlicesCompact
import Derived.Lib.AtoiAll
import Derived.Lib.IndexMore
import Derived.Lib.Split
set_option linter.unusedVariables false
set_option linter.unusedSimpArgs false
namespace Go.Proofs.Ytpkhmndpeipfmaa
open Go.RowKit
def hd (au:List Sl) (i:Nat):Sl:=au.getD i Sl.nil
def wI (au:List Sl) (ids:List (List Nat)):List (List Sl):=ids.map fun r=>r.map (hd au)
def idsOk (n:Nat) (ids:List (List Nat)):Bool:=ids.all fun r=>r.all fun i=>decide (i<n)
def arPut {α:Type} (l:List (List α)) (ids:List (List Nat)) (c:List α):Option (List (List α)):=if idsOk l.length ids=true then some (l++[c]) else none
theorem H9 {α:Type} {l r:List (List α)} {ids:List (List Nat)} {c:List α} (h:arPut l ids c=some r):idsOk l.length ids=true∧r=l++[c]:=by
 unfold arPut at h
 split at h
 ·exact⟨by assumption,(Option.some.inj h).symm⟩
 cases h
theorem hd_app {au:List Sl} {s:Sl} {i:Nat} (h:i<au.length):hd (au++[s]) i=hd au i:=by
 unfold hd;rw[List.getD_eq_getElem?_getD,List.getD_eq_getElem?_getD,List.getElem?_append_left h]
theorem hd_new {au:List Sl} {s:Sl}:hd (au++[s]) au.length=s:=by
 unfold hd;rw[List.getD_eq_getElem?_getD,List.getElem?_append_right (Nat.le_refl _)];simp
theorem hd_get {au:List Sl} {i:Nat} {u:Sl} (h:au[i]?=some u):hd au i=u:=by unfold hd;rw[List.getD_eq_getElem?_getD,h];rfl
theorem wmap_app {au:List Sl} {s:Sl} {ids:List (List Nat)} (h:idsOk au.length ids=true):wI (au++[s]) ids=wI au ids:=by
 unfold idsOk at h
 simp only[List.all_eq_true,decide_eq_true_eq] at h
 unfold wI
 refine List.map_congr_left fun r hr=>List.map_congr_left fun i hi=>hd_app (h r hr i hi)
theorem F5 {α β:Type} {f:α→β} {l:List α} {i:Int} {a:α} (h:idx l i=some a):idx (l.map f) i=some (f a):=by
 obtain⟨h0,_,h1⟩:=kN h
 unfold idx;rw[if_pos h0,List.getElem?_map,h1];rfl
theorem qI {α β:Type} {f:α→β} {l l2 r:List α} (h:app l l2=some r):app (l.map f) (l2.map f)=some (r.map f):=by
 obtain⟨h1,rfl⟩:=vC h
 unfold app;rw[if_pos (by simpa using h1),List.map_append]
theorem sub_map {α β:Type} {f:α→β} {l r:List α} {i j:Int} (h:sub l i j=some r):sub (l.map f) i j=some (r.map f):=by
 unfold sub at h⊢
 split at h
 ·rename_i hc
  rw[if_pos (by simpa using hc)]
  obtain rfl:=Option.some.inj h
  rw[←List.map_take,←List.map_drop]
 cases h
theorem xE {au:List Sl} {ids:List (List Nat)} {i:Int} {r:List Nat} (h:idx ids i=some r):idx (wI au ids) i=some (r.map (hd au)):=F5 h
theorem wmap_set {au:List Sl} {ids:List (List Nat)} {i:Nat} {r:List Nat}:wI au (ids.set i r)=(wI au ids).set i (r.map (hd au)):=by unfold wI;rw[List.map_set]
theorem wmap_len {au:List Sl} {ids:List (List Nat)}:(wI au ids).length=ids.length:=by unfold wI;rw[List.length_map]
theorem wmap_nils {au:List Sl} (n:Nat):wI au (List.replicate n [])=List.replicate n []:=by unfold wI;simp
section
variable {Z:World} {ρ:PH} {L:List bZ} {w:World} {α:Type} [Enc α] {Ti:TypeId} {au:List Sl} {l:List (List α)}
theorem Hp.arPut {s:Sl} {vr:Value} (he:s.v=vr) {c:List α} (hp:Hp Z ρ (aA Ti vr c::dV Ti au l::L) w):Hp Z ρ (dV Ti (au++[s]) (l++[c])::L) w:=by
 subst he;exact hp.to dV.snoc
theorem Hp.arLen (hp:Hp Z ρ (dV Ti au l::L) w):au.length=l.length:=dV.len hp.sep
def ArX (Ti:TypeId) (au:List Sl) (l:List (List α)) (i:Nat):bZ:=dV Ti (au.eraseIdx i) (l.eraseIdx i)
theorem Hp.arTake {i:Nat} {c:List α} (hi:l[i]?=some c) (hp:Hp Z ρ (dV Ti au l::L) w):Hp Z ρ (aA Ti (hd au i).v c::ArX Ti au l i::L) w:=by
 have hl:=hp.arLen
 obtain⟨h1,_⟩:=List.getElem?_eq_some_iff.1 hi
 have hu:au[i]?=some au[i]:=List.getElem?_eq_getElem (by omega)
 rw[hd_get hu]
 exact hp.to (dV.take i hu hi).1
theorem Hp.arBack {i:Nat} {c c':List α} (hi:l[i]?=some c) (hl:au.length=l.length) (hp:Hp Z ρ (aA Ti (hd au i).v c'::ArX Ti au l i::L) w):Hp Z ρ (dV Ti au (l.set i c')::L) w:=by
 obtain⟨h1,_⟩:=List.getElem?_eq_some_iff.1 hi
 have hu:au[i]?=some au[i]:=List.getElem?_eq_getElem (by omega)
 rw[hd_get hu] at hp
 refine hp.to fun s=>(dV.take (us:=au) (l:=l.set i c') (r:=c') i hu (by rw[List.getElem?_set_self h1])).2 ?_
 rw[List.eraseIdx_set_eq];exact s
end
def vP {α:Type} [Enc α] (T Ti:TypeId) (v:Value) (us:List Sl) (l:List (List α)) (i:Int):bZ:=star (aA T v us) (dV Ti (us.set i.toNat Sl.nil) (l.set i.toNat []))
def TblZX {α:Type} [Enc α] (T Ti:TypeId) (v:Value) (us:List Sl) (l:List (List α)) (i j:Int):bZ:=star (aA T v us) (dV Ti ((us.set i.toNat Sl.nil).eraseIdx j.toNat) ((l.set i.toNat []).eraseIdx j.toNat))
section
variable {Rn:Option Nat} {P:Program} {ops:Array Oper} {Q:Exit→Act→World→Prop} {rest:List Oper} {o:Oper} {a:Act} {w:World} {Df:List Deferred} {N:Nat} {E:Ent} {d:Nat} {Z:World} {ρ:PH} {L:List bZ}
variable {α:Type} [Enc α] {T Ti To Tr:TypeId} {v:Value} {us:List Sl} {l:List (List α)} {bytes:Nat}
theorem bT.lendRow (hp:Hp Z ρ L w) (k:Nat) (hk:L[k]?=some (bT T Ti v us l)) {i:Int} {u:Sl} {r:List α} (hu:idx us i=some u) (hi:idx l i=some r):
  Hp Z ρ (aA Ti u.v r::vP T Ti v us l i::L.eraseIdx k) w:=by
 obtain⟨_,hui,hus⟩:=kN hu
 obtain⟨_,hli,hls⟩:=kN hi
 refine(bT.focus hp k hk hu hi).to fun s=>Sep.cons_mono (fun ρ h s=>Sep.two.2 (Sep.swap ?_)) s
 refine(dV.take (us:=us.set i.toNat Sl.nil) (l:=l.set i.toNat []) (u:=Sl.nil) (r:=([]:List α)) i.toNat (by rw[List.getElem?_set_self (by omega)]) (by rw[List.getElem?_set_self (by omega)])).2 ?_
 rw[List.eraseIdx_set_eq,List.eraseIdx_set_eq]
 refine⟨PH.emp,aA.nil Ti,PH.dj_emp ρ,?_⟩
 have e:ρ.un PH.emp=ρ:=by funext b;unfold PH.un PH.emp;cases ρ b<;>rfl
 rw[e];exact s
theorem vP.lens {i:Int} (hp:Hp Z ρ (vP T Ti v us l i::L) w):us.length=l.length:=by
 have:=dV.len (Sep.swap (hp.to Sep.two.1).sep)
 simpa using this
theorem vP.hdr {i:Int} (hp:Hp Z ρ L w) (k:Nat) (hk:L[k]?=some (vP T Ti v us l i)) (ht:SlTy P To T 1 bytes) {j:Int} {r:List α} (hi:idx l j=some r):
  ∃(u:Sl) (g off:Nat),idx us j=some u∧(∀w,(Instr.indexAt To v (.int .i64 j)).run P w= .ok (.pointer (some ⟨g,off,none⟩)) w)∧(∃of0 cap,v= .slice (some ⟨g,of0,none⟩) us.length cap∧off=of0+j.toNat*1)∧
   ∀(q:Nat) (x:Value),[u.v][q]?=some x→∀ρ' L' w,Hp Z ρ' (vP T Ti v us l i::L') w→w.cell? ⟨g,off+q,none⟩=some x:=by
 have h:=(hp.get k hk)
 obtain⟨i0,i1,i2⟩:=kN hi
 have hl:=vP.lens h
 have hu:idx us j=some us[j.toNat]:=by unfold idx;rw[if_pos i0];exact List.getElem?_eq_getElem (by omega)
 obtain⟨g,off,e1,e2,e3⟩:=aA.at (h.to Sep.two.1) 0 rfl ht hu
 exact⟨_,g,off,hu,e1,e2,fun q x hx ρ' L' w hw=>e3 q x hx _ _ w (hw.to Sep.two.1)⟩
theorem vP.takeRow {i:Int} (hp:Hp Z ρ L w) (k:Nat) (hk:L[k]?=some (vP T Ti v us l i)) {j:Int} (hne:j.toNat≠i.toNat) {u:Sl} {r:List α} (hu:idx us j=some u) (hi:idx l j=some r):
  Hp Z ρ (aA Ti u.v r::TblZX T Ti v us l i j::L.eraseIdx k) w:=by
 obtain⟨_,_,hus⟩:=kN hu
 obtain⟨_,_,hls⟩:=kN hi
 refine((hp.get k hk).to Sep.two.1).to fun s=>?_
 have h2:=(dV.take (us:=us.set i.toNat Sl.nil) (l:=l.set i.toNat []) (u:=u) (r:=r) j.toNat (by rw[List.getElem?_set,if_neg (fun e=>hne e.symm)];exact hus) (by rw[List.getElem?_set,if_neg (fun e=>hne e.symm)];exact hls)).1 s.swap
 exact Sep.cons_mono (fun ρ h s=>Sep.two.2 (Sep.swap s)) h2
theorem TblZX.adr {i j:Int} (hp:Hp Z ρ L w) (k:Nat) (hk:L[k]?=some (TblZX T Ti v us l i j)) (ht:SlTy P To T 1 bytes) {m:Int} {u:Sl} (hu:idx us m=some u):
  ∃(g off:Nat),(∀w,(Instr.indexAt To v (.int .i64 m)).run P w= .ok (.pointer (some ⟨g,off,none⟩)) w)∧(∃of0 cap,v= .slice (some ⟨g,of0,none⟩) us.length cap∧off=of0+m.toNat*1):=by
 obtain⟨g,off,e1,e2,_⟩:=aA.at ((hp.get k hk).to Sep.two.1) 0 rfl ht hu
 exact⟨g,off,e1,e2⟩
theorem vP.adr {i:Int} (hp:Hp Z ρ L w) (k:Nat) (hk:L[k]?=some (vP T Ti v us l i)) (ht:SlTy P To T 1 bytes) {m:Int} {u:Sl} (hu:idx us m=some u):
  ∃(g off:Nat),(∀w,(Instr.indexAt To v (.int .i64 m)).run P w= .ok (.pointer (some ⟨g,off,none⟩)) w)∧(∃of0 cap,v= .slice (some ⟨g,of0,none⟩) us.length cap∧off=of0+m.toNat*1):=by
 obtain⟨g,off,e1,e2,_⟩:=aA.at ((hp.get k hk).to Sep.two.1) 0 rfl ht hu
 exact⟨g,off,e1,e2⟩
theorem s_tputZ (wk:Region.wanted o (yielded ops a.tmps)=true) (hd:o.dst=none) (hE:EnvD Df N E a) {ur:Sl} {vr:Value} (he:ur.v=vr) {r':List α} (hp:Hp Z ρ (aA Ti vr r'::L) w) {Tx:TypeId} {x y:Operand} (ho:o.op= .store Tx x y) {g off:Nat} (hx:evo E x=some (.pointer (some ⟨g,off,none⟩))) (hy:evo E y=some vr) (k:Nat) {i j:Int} (hk:L[k]?=some (TblZX T Ti v us l i j)) (hne:j.toNat≠i.toNat)
  {u:Sl} {r:List α} (hu:idx us j=some u) (hi:idx l j=some r) (hv:∃of0 cap,v= .slice (some ⟨g,of0,none⟩) us.length cap∧off=of0+j.toNat*1) (ht:∀w,(sizeOf Tx).run P w= .ok 1 w)
  (K:∀w,Hp Z ρ (L.set k (vP T Ti v (us.set j.toNat ur) (l.set j.toNat r') i)) w→wpL Rn P ops Q rest a w):wpL Rn P ops Q (o::rest) a w:=by
 subst he
 obtain⟨_,hui,hus⟩:=kN hu
 obtain⟨_,hli,hls⟩:=kN hi
 have h0:Hp Z ρ (aA T v us::aA Ti ur.v r'::dV Ti ((us.set i.toNat Sl.nil).eraseIdx j.toNat) ((l.set i.toNat []).eraseIdx j.toNat)::L.eraseIdx k) w:=
  (hp.get (k+1) (A:=TblZX T Ti v us l i j) (by simpa using hk)).to fun s=>Sep.cons_mono (fun ρ h=>Sep.swap) (Sep.two.1 s)
 refine mY wk hd hE h0 ho hx hy 0 rfl hu hv 0 ht rfl ur.cells ur.one ⟨rfl,rfl⟩ fun w hw=>K w ?_
 refine Hp.put k (List.getElem?_eq_some_iff.1 hk).1 (hw.to fun s=>Sep.two.2 (Sep.cons_mono (fun ρ h s=>?_) s))
 rw[List.set_comm _ _ hne,List.set_comm _ _ hne]
 refine(dV.take (us:=(us.set i.toNat Sl.nil).set j.toNat ur) (l:=(l.set i.toNat []).set j.toNat r') (u:=ur) (r:=r') j.toNat (by rw[List.getElem?_set_self (by simpa using(by omega:j.toNat<us.length))]) (by rw[List.getElem?_set_self (by simpa using(by omega:j.toNat<l.length))])).2 ?_
 rw[List.eraseIdx_set_eq,List.eraseIdx_set_eq]
 exact s
theorem s_tputI (wk:Region.wanted o (yielded ops a.tmps)=true) (hd:o.dst=none) (hE:EnvD Df N E a) {ur:Sl} {vr:Value} (he:ur.v=vr) {r':List α} (hp:Hp Z ρ (aA Ti vr r'::L) w) {Tx:TypeId} {x y:Operand} (ho:o.op= .store Tx x y) {g off:Nat} (hx:evo E x=some (.pointer (some ⟨g,off,none⟩))) (hy:evo E y=some vr) (k:Nat) {i:Int} (hk:L[k]?=some (vP T Ti v us l i))
  {u:Sl} {r:List α} (hu:idx us i=some u) (hi:idx l i=some r) (hv:∃of0 cap,v= .slice (some ⟨g,of0,none⟩) us.length cap∧off=of0+i.toNat*1) (ht:∀w,(sizeOf Tx).run P w= .ok 1 w)
  (K:∀w,Hp Z ρ (L.set k (bT T Ti v (us.set i.toNat ur) (l.set i.toNat r'))) w→wpL Rn P ops Q rest a w):wpL Rn P ops Q (o::rest) a w:=by
 subst he
 obtain⟨_,hui,hus⟩:=kN hu
 obtain⟨_,hli,hls⟩:=kN hi
 have h0:Hp Z ρ (aA T v us::aA Ti ur.v r'::dV Ti (us.set i.toNat Sl.nil) (l.set i.toNat [])::L.eraseIdx k) w:=
  (hp.get (k+1) (A:=vP T Ti v us l i) (by simpa using hk)).to fun s=>Sep.cons_mono (fun ρ h=>Sep.swap) (Sep.two.1 s)
 refine mY wk hd hE h0 ho hx hy 0 rfl hu hv 0 ht rfl ur.cells ur.one ⟨rfl,rfl⟩ fun w hw=>K w ?_
 refine Hp.put k (List.getElem?_eq_some_iff.1 hk).1 (Hp.tblShut (hw.to fun s=>Sep.cons_mono (fun ρ h s=>?_) s))
 refine(dV.take (us:=us.set i.toNat ur) (l:=l.set i.toNat r') (u:=ur) (r:=r') i.toNat (by rw[List.getElem?_set_self (by omega)]) (by rw[List.getElem?_set_self (by omega)])).2 ?_
 rw[List.eraseIdx_set_eq,List.eraseIdx_set_eq]
 refine Sep.cons_mono (fun ρ h s=>?_) s
 have h2:=(dV.take (us:=us.set i.toNat Sl.nil) (l:=l.set i.toNat []) (u:=Sl.nil) (r:=([]:List α)) i.toNat (by rw[List.getElem?_set_self (by omega)]) (by rw[List.getElem?_set_self (by omega)])).1 s
 rw[List.eraseIdx_set_eq,List.eraseIdx_set_eq] at h2
 exact Sep.drop h2
def WTb (T Ti Tc:TypeId) (v:Value) (ua:List Sl×List Sl) (W:List (List Nat)×List (List Int)):bZ:=star (bT T Ti v ua.1 (wI ua.2 W.1)) (dV Tc ua.2 W.2)
variable {Tc:TypeId} {ua:List Sl×List Sl} {W:List (List Nat)×List (List Int)}
theorem WTb.opn (h:Hp Z ρ (WTb T Ti Tc v ua W::L) w):Hp Z ρ (bT T Ti v ua.1 (wI ua.2 W.1)::dV Tc ua.2 W.2::L) w:=h.to Sep.two.1
theorem WTb.shut (h:Hp Z ρ (bT T Ti v ua.1 (wI ua.2 W.1)::dV Tc ua.2 W.2::L) w):Hp Z ρ (WTb T Ti Tc v ua W::L) w:=h.to Sep.two.2
theorem WTb.slice (hp:Hp Z ρ L w) (k:Nat) (hk:L[k]?=some (WTb T Ti Tc v ua W)):∃s:Sl,s.v=v:=bT.slice (WTb.opn (hp.get k hk)) 0 rfl
theorem WTb.cells (hp:Hp Z ρ L w) (k:Nat) (hk:L[k]?=some (WTb T Ti Tc v ua W)):v.cells= #[v]:=by obtain⟨s,rfl⟩:=WTb.slice hp k hk;exact s.cells
theorem WTb.one (hp:Hp Z ρ L w) (k:Nat) (hk:L[k]?=some (WTb T Ti Tc v ua W)):v.oneCell'=true:=by obtain⟨s,rfl⟩:=WTb.slice hp k hk;exact s.one
theorem WTb.len (hp:Hp Z ρ L w) (k:Nat) (hk:L[k]?=some (WTb T Ti Tc v ua W)) (ht:SlTy P To T 1 bytes) (w:World) (ty:TypeId):(Builtin.len_ #[To] ty #[v]).run P w= .ok (.int .i64 W.1.length) w:=by
 rw[←wmap_len (au:=ua.2)]
 exact bT.len (WTb.opn (hp.get k hk)) 0 rfl ht w ty
theorem WTb.start (Tc:TypeId) {n:Nat} {us:List Sl} (hp:Hp Z ρ (bT T Ti v us (List.replicate n ([]:List Sl))::L) w):Hp Z ρ (WTb T Ti Tc v (us,[]) (List.replicate n [],[])::L) w:=by
 refine WTb.shut ?_
 rw[wmap_nils]
 exact hp.to fun s=>Sep.cons_mono (fun ρ h s=>Sep.emp1.2 s) s
theorem s_wmake (wk:Region.wanted o (yielded ops a.tmps)=true) (hd:o.dst=some d) (hN:Nat.blt d N=true) (hE:EnvD Df N E a) (hp:Hp Z ρ L w) {x y:Operand} (ho:o.op= .makeSlice To x y) (hu:P.underlying To=some (.slice T))
  (hi:(P.info? T).map (fun i=>(i.zero.map Value.cells,i.size,i.bytes))=some (some #[.slice none 0 0],1,bytes)) (hby:Nat.ble bytes 16384=true) {k k':IntKind} {n c:Int} (hx:evo E x=some (.int k n)) (hy:evo E y=some (.int k' c)) {r:List (List Nat)} (hr:mkc n c ([]:List Nat)=some r) (Ti Tc:TypeId)
  (K:∀v ua a w,EnvD Df N ((d,v)::E) a→Hp Z ρ (WTb T Ti Tc v ua (r,[])::L) w→wpL Rn P ops Q rest a w):wpL Rn P ops Q (o::rest) a w:=by
 obtain⟨h0,h1,h2,rfl⟩:=G6 hr
 exact s_tmake (α:=Sl) wk hd hN hE hp ho hu hi hby hx hy (r:=List.replicate n.toNat []) (by unfold mkc;rw[if_pos ⟨h0,h1,h2⟩]) Ti fun v us a w hE hp=>K v (us,[]) a w hE (WTb.start Tc hp)
theorem WTb.give {s:Sl} {vr:Value} (he:s.v=vr) {c:List Int} {l':List (List Int)} (hl:Go.Proofs.Ytpkhmndpeipfmaa.arPut W.2 W.1 c=some l') (hp:Hp Z ρ (aA Tc vr c::WTb T Ti Tc v ua W::L) w):
  Hp Z ρ (WTb T Ti Tc v (ua.1,ua.2++[s]) (W.1,l')::L) w∧hd (ua.2++[s]) W.2.length=s:=by
 obtain⟨hok,rfl⟩:=H9 hl
 have h1:Hp Z ρ (aA Tc vr c::dV Tc ua.2 W.2::bT T Ti v ua.1 (wI ua.2 W.1)::L) w:=hp.to fun s=>Sep.cons_mono (fun ρ h s=>Sep.swap (Sep.two.1 s)) s
 have hlen:ua.2.length=W.2.length:=(h1.to fun s=>s.swap).arLen
 have h2:=Hp.arPut he h1
 refine⟨WTb.shut ?_,by rw[←hlen];exact hd_new⟩
 rw[wmap_app (by rw[hlen];exact hok)]
 exact h2.to fun s=>s.swap
def TblL (T Ti:TypeId) (v:Value) (us:List Sl) (l:List (List Sl)):Option Int→bZ
 |none=>bT T Ti v us l
 |some i=>vP T Ti v us l i
def ArL (Tc:TypeId) (au:List Sl) (l:List (List Int)):Option (Nat×Value)→bZ
 |none=>dV Tc au l
 |some h=>fun k=>ArX Tc au l h.1 k∧au.length=l.length∧h.1<l.length∧(hd au h.1).v=h.2
def fD (T Ti Tc:TypeId) (v:Value) (ua:List Sl×List Sl) (W:List (List Nat)×List (List Int)) (li:Option Int) (ai:Option (Nat×Value)):bZ:=
 star (TblL T Ti v ua.1 (wI ua.2 W.1) li) (ArL Tc ua.2 W.2 ai)
theorem fD.of (h:Hp Z ρ (WTb T Ti Tc v ua W::L) w):Hp Z ρ (fD T Ti Tc v ua W none none::L) w:=h
theorem fD.to (h:Hp Z ρ (fD T Ti Tc v ua W none none::L) w):Hp Z ρ (WTb T Ti Tc v ua W::L) w:=h
theorem aA.sl30 {β:Type} [Enc β] {r:List β} (hp:Hp Z ρ L w) (k:Nat) (hk:L[k]?=some (aA T v r)) {Tq:TypeId} {sz:Nat} (ht:SlTy P Tq T sz bytes) (i i':IntKind):∃A,∀w,(Instr.sliceAt Tq v none (some (.int i 0)) (some (.int i' 0))).run P w= .ok (.slice A 0 0) w:=by
 obtain⟨s,rfl⟩:=aA.toSl hp k hk
 exact run_sl30 ht s.2 i i'
theorem OwnH.len {au:List Sl} {r:List Nat} (hp:Hp Z ρ L w) (k:Nat) (hk:L[k]?=some (aA T v (r.map (hd au)))) (ht:SlTy P To T 1 bytes) (w:World) (ty:TypeId):(Builtin.len_ #[To] ty #[v]).run P w= .ok (.int .i64 r.length) w:=by
 have:=aA.len hp k hk ht w ty
 rwa [List.length_map] at this
theorem OwnH.at {au:List Sl} {r:List Nat} {i:Int} {h:Nat} (hp:Hp Z ρ L w) (k:Nat) (hk:L[k]?=some (aA T v (r.map (hd au)))) (ht:SlTy P To T 1 bytes) (hi:idx r i=some h):
  ∃g off,(∀w,(Instr.indexAt To v (.int .i64 i)).run P w= .ok (.pointer (some ⟨g,off,none⟩)) w)∧
   ∀(j:Nat) (x:Value),([(hd au h).v]:List Value)[j]?=some x→∀ρ' L' w,Hp Z ρ' (aA T v (r.map (hd au))::L') w→w.cell? ⟨g,off+j,none⟩=some x:=by
 obtain⟨g,off,e1,_,e3⟩:=aA.at hp k hk ht (F5 (f:=hd au) hi)
 exact⟨g,off,e1,e3⟩
theorem fD.slice {li:Option Int} {ai:Option (Nat×Value)} (hp:Hp Z ρ L w) (k:Nat) (hk:L[k]?=some (fD T Ti Tc v ua W li ai)):∃s:Sl,s.v=v:=by
 cases li with
 |none=>exact bT.slice ((hp.get k hk).to Sep.two.1) 0 rfl
 |some i=>exact aA.toSl (((hp.get k hk).to Sep.two.1).to Sep.two.1) 0 rfl
theorem fD.cells {li:Option Int} {ai:Option (Nat×Value)} (hp:Hp Z ρ L w) (k:Nat) (hk:L[k]?=some (fD T Ti Tc v ua W li ai)):v.cells= #[v]:=by obtain⟨s,rfl⟩:=fD.slice hp k hk;exact s.cells
theorem fD.one {li:Option Int} {ai:Option (Nat×Value)} (hp:Hp Z ρ L w) (k:Nat) (hk:L[k]?=some (fD T Ti Tc v ua W li ai)):v.oneCell'=true:=by obtain⟨s,rfl⟩:=fD.slice hp k hk;exact s.one
theorem s_wmakeG (wk:Region.wanted o (yielded ops a.tmps)=true) (hd:o.dst=some d) (hN:Nat.blt d N=true) (hE:EnvD Df N E a) (hp:Hp Z ρ L w) {x y:Operand} (ho:o.op= .makeSlice To x y) (hu:P.underlying To=some (.slice T))
  (hi:(P.info? T).map (fun i=>(i.zero.map Value.cells,i.size,i.bytes))=some (some #[.slice none 0 0],1,bytes)) (hby:Nat.ble bytes 16384=true) {k k':IntKind} {n c:Int} (hx:evo E x=some (.int k n)) (hy:evo E y=some (.int k' c)) {r:List (List Nat)} (hr:mkc n c ([]:List Nat)=some r) (Ti Tc:TypeId)
  (K:∀v ua a w,EnvD Df N ((d,v)::E) a→Hp Z ρ (fD T Ti Tc v ua (r,[]) none none::L) w→wpL Rn P ops Q rest a w):wpL Rn P ops Q (o::rest) a w:=
 s_wmake wk hd hN hE hp ho hu hi hby hx hy hr Ti Tc fun v ua a w hE hp=>K v ua a w hE (fD.of hp)
theorem fD.lend {ai:Option (Nat×Value)} {i:Int} {u:Sl} {r:List Nat} (hu:idx ua.1 i=some u) (hi:idx W.1 i=some r) (hp:Hp Z ρ (fD T Ti Tc v ua W none ai::L) w):
  Hp Z ρ (aA Ti u.v (r.map (hd ua.2))::fD T Ti Tc v ua W (some i) ai::L) w:=by
 have h2:=bT.lendRow (hp.to Sep.two.1) 0 rfl hu (xE hi)
 exact h2.to fun s=>Sep.cons_mono (fun ρ h s=>Sep.two.2 s) s
theorem fD.take {li:Option Int} {i:Nat} {c:List Int} (hi:W.2[i]?=some c) (hp:Hp Z ρ (fD T Ti Tc v ua W li none::L) w):∃vc,(hd ua.2 i).v=vc∧Hp Z ρ (aA Tc vc c::fD T Ti Tc v ua W li (some (i,vc))::L) w:=by
 have h1:Hp Z ρ (dV Tc ua.2 W.2::TblL T Ti v ua.1 (wI ua.2 W.1) li::L) w:=hp.to fun s=>Sep.swap (Sep.two.1 s)
 have hl:=h1.arLen
 have hlt:=(List.getElem?_eq_some_iff.1 hi).1
 exact⟨_,rfl,(Hp.arTake hi h1).to fun s=>Sep.cons_mono (fun ρ h s=>Sep.two.2 (Sep.swap (s.imp fun _ a=>⟨a,hl,hlt,rfl⟩))) s⟩
theorem fD.back {li:Option Int} {i:Nat} {vc:Value} {c':List Int} (hp:Hp Z ρ (aA Tc vc c'::fD T Ti Tc v ua W li (some (i,vc))::L) w):Hp Z ρ (fD T Ti Tc v ua (W.1,W.2.set i c') li none::L) w:=by
 have h1:Hp Z ρ ((fun k=>ArX Tc ua.2 W.2 i k∧ua.2.length=W.2.length∧i<W.2.length∧(hd ua.2 i).v=vc)::aA Tc vc c'::TblL T Ti v ua.1 (wI ua.2 W.1) li::L) w:=
  hp.to fun s=>Sep.swap (Sep.cons_mono (fun ρ h s=>Sep.swap (Sep.two.1 s)) s)
 obtain⟨_,hl,hlt,hv⟩:=Hp.fact (A:=ArX Tc ua.2 W.2 i) h1
 subst hv
 have h2:Hp Z ρ (aA Tc (hd ua.2 i).v c'::ArX Tc ua.2 W.2 i::TblL T Ti v ua.1 (wI ua.2 W.1) li::L) w:=(h1.imp fun _ a=>a.1).to fun s=>s.swap
 exact(Hp.arBack (List.getElem?_eq_getElem hlt) hl h2).to fun s=>Sep.two.2 s.swap
theorem fD.away {li:Option Int} {i:Nat} {vc:Value} (hp:Hp Z ρ L w) (k:Nat) (hk:L[k]?=some (fD T Ti Tc v ua W li (some (i,vc)))):(hd ua.2 i).v=vc:=by
 have h1:Hp Z ρ ((fun k=>ArX Tc ua.2 W.2 i k∧ua.2.length=W.2.length∧i<W.2.length∧(hd ua.2 i).v=vc)::TblL T Ti v ua.1 (wI ua.2 W.1) li::L.eraseIdx k) w:=(hp.get k hk).to fun s=>Sep.swap (Sep.two.1 s)
 exact(Hp.fact (A:=ArX Tc ua.2 W.2 i) h1).2.2.2
theorem fD.give {vr:Value} {c:List Int} {l':List (List Int)} (hl:Go.Proofs.Ytpkhmndpeipfmaa.arPut W.2 W.1 c=some l') (hp:Hp Z ρ (aA Tc vr c::fD T Ti Tc v ua W none none::L) w):
  ∃au:List Sl×List Sl,Hp Z ρ (aA Tc vr c::fD T Ti Tc v au (W.1,l') none (some (W.2.length,vr))::L) w:=by
 obtain⟨s,hs⟩:=aA.toSl hp 0 rfl
 obtain⟨h1,h2⟩:=WTb.give hs hl hp
 obtain⟨_,rfl⟩:=H9 hl
 obtain⟨vc,e1,h3⟩:=fD.take (c:=c) (i:=W.2.length) (ua:=(ua.1,ua.2++[s])) (W:=(W.1,W.2++[c])) (by simp) (fD.of h1)
 rw[h2,hs] at e1
 subst e1
 exact⟨_,h3⟩
def TblLX (T Ti:TypeId) (v:Value) (us:List Sl) (l:List (List Sl)) (j:Int):Option Int→bZ
 |none=>TblX T Ti v us l j
 |some i=>TblZX T Ti v us l i j
def neL (j:Int):Option Int→Prop
 |none=>True
 |some i=>j.toNat≠i.toNat
def Q7 (T Ti Tc:TypeId) (v:Value) (ua:List Sl×List Sl) (W:List (List Nat)×List (List Int)) (li:Option Int) (ai:Option (Nat×Value)) (j:Int):bZ:=star (TblLX T Ti v ua.1 (wI ua.2 W.1) j li) (ArL Tc ua.2 W.2 ai)
theorem fD.takeRow {li:Option Int} {ai:Option (Nat×Value)} {j:Int} (hne:neL j li) {u:Sl} {r:List Nat} (hu:idx ua.1 j=some u) (hi:idx W.1 j=some r) (hp:Hp Z ρ (fD T Ti Tc v ua W li ai::L) w):
  Hp Z ρ (aA Ti u.v (r.map (hd ua.2))::Q7 T Ti Tc v ua W li ai j::L) w:=by
 cases li with
 |none=>exact(bT.takeRow (hp.to Sep.two.1) 0 rfl hu (xE hi)).to fun s=>Sep.cons_mono (fun ρ h s=>Sep.two.2 s) s
 |some i=>exact(vP.takeRow (hp.to Sep.two.1) 0 rfl hne hu (xE hi)).to fun s=>Sep.cons_mono (fun ρ h s=>Sep.two.2 s) s
theorem Q7.away {li:Option Int} {i:Nat} {vc:Value} {j:Int} (hp:Hp Z ρ L w) (k:Nat) (hk:L[k]?=some (Q7 T Ti Tc v ua W li (some (i,vc)) j)):(hd ua.2 i).v=vc:=by
 have h1:Hp Z ρ ((fun k=>ArX Tc ua.2 W.2 i k∧ua.2.length=W.2.length∧i<W.2.length∧(hd ua.2 i).v=vc)::TblLX T Ti v ua.1 (wI ua.2 W.1) j li::L.eraseIdx k) w:=(hp.get k hk).to fun s=>Sep.swap (Sep.two.1 s)
 exact(Hp.fact (A:=ArX Tc ua.2 W.2 i) h1).2.2.2
theorem Q7.adr {li:Option Int} {ai:Option (Nat×Value)} {j:Int} (hp:Hp Z ρ (Q7 T Ti Tc v ua W li ai j::L) w) (ht:SlTy P To T 1 bytes) {u:Sl} (hu:idx ua.1 j=some u):
  ∃(g off:Nat),(∀w,(Instr.indexAt To v (.int .i64 j)).run P w= .ok (.pointer (some ⟨g,off,none⟩)) w)∧(∃of0 cap,v= .slice (some ⟨g,of0,none⟩) ua.1.length cap∧off=of0+j.toNat*1):=by
 cases li with
 |none=>exact TblX.adr (hp.to Sep.two.1) 0 rfl ht hu
 |some i=>exact TblZX.adr (hp.to Sep.two.1) 0 rfl ht hu
theorem fD.lens {li:Option Int} {ai:Option (Nat×Value)} (hp:Hp Z ρ (fD T Ti Tc v ua W li ai::L) w):ua.1.length=W.1.length:=by
 rw[←wmap_len (au:=ua.2)]
 cases li with
 |none=>exact bT.lens (hp.to Sep.two.1)
 |some i=>exact vP.lens (hp.to Sep.two.1)
theorem fD.adr {li:Option Int} {ai:Option (Nat×Value)} {j:Int} (hp:Hp Z ρ (fD T Ti Tc v ua W li ai::L) w) (ht:SlTy P To T 1 bytes) {u:Sl} (hu:idx ua.1 j=some u):
  ∃(g off:Nat),(∀w,(Instr.indexAt To v (.int .i64 j)).run P w= .ok (.pointer (some ⟨g,off,none⟩)) w)∧(∃of0 cap,v= .slice (some ⟨g,of0,none⟩) ua.1.length cap∧off=of0+j.toNat*1):=by
 cases li with
 |none=>
  obtain⟨g,off,e1,e2,_⟩:=aA.at ((hp.to Sep.two.1).to Sep.two.1) 0 rfl ht hu
  exact⟨g,off,e1,e2⟩
 |some i=>exact vP.adr (hp.to Sep.two.1) 0 rfl ht hu
theorem fD.hdr {li:Option Int} {ai:Option (Nat×Value)} {j:Int} (hp:Hp Z ρ (fD T Ti Tc v ua W li ai::L) w) (ht:SlTy P To T 1 bytes) {r:List Nat} (hi:idx W.1 j=some r):
  ∃(u:Sl) (g off:Nat),idx ua.1 j=some u∧(∀w,(Instr.indexAt To v (.int .i64 j)).run P w= .ok (.pointer (some ⟨g,off,none⟩)) w)∧(∃of0 cap,v= .slice (some ⟨g,of0,none⟩) ua.1.length cap∧off=of0+j.toNat*1)∧
   ∀(q:Nat) (x:Value),[u.v][q]?=some x→∀ρ' L' w,Hp Z ρ' (fD T Ti Tc v ua W li ai::L') w→w.cell? ⟨g,off+q,none⟩=some x:=by
 cases li with
 |none=>
  obtain⟨u,g,off,e1,e2,e3,e4⟩:=bT.hdr (hp.to Sep.two.1) 0 rfl ht (xE hi)
  exact⟨u,g,off,e1,e2,e3,fun q x hx ρ' L' w hw=>e4 q x hx ρ' _ w (hw.to Sep.two.1)⟩
 |some i=>
  obtain⟨u,g,off,e1,e2,e3,e4⟩:=vP.hdr (hp.to Sep.two.1) 0 rfl ht (xE hi)
  exact⟨u,g,off,e1,e2,e3,fun q x hx ρ' L' w hw=>e4 q x hx ρ' _ w (hw.to Sep.two.1)⟩
theorem s_wput (wk:Region.wanted o (yielded ops a.tmps)=true) (hd':o.dst=none) (hE:EnvD Df N E a) {ur:Sl} {vr:Value} (he:ur.v=vr) {r':List Nat} {li:Option Int} {ai:Option (Nat×Value)} {j:Int} (hp:Hp Z ρ (aA Ti vr (r'.map (hd ua.2))::Q7 T Ti Tc v ua W li ai j::L) w) {Tx:TypeId} {x y:Operand} (ho:o.op= .store Tx x y) {g off:Nat} (hx:evo E x=some (.pointer (some ⟨g,off,none⟩))) (hy:evo E y=some vr) (hne:neL j li)
  {u:Sl} {r:List Nat} (hu:idx ua.1 j=some u) (hi:idx W.1 j=some r) (hv:∃of0 cap,v= .slice (some ⟨g,of0,none⟩) ua.1.length cap∧off=of0+j.toNat*1) (ht:∀w,(sizeOf Tx).run P w= .ok 1 w)
  (K:∀w,Hp Z ρ (fD T Ti Tc v (ua.1.set j.toNat ur,ua.2) (W.1.set j.toNat r',W.2) li ai::L) w→wpL Rn P ops Q rest a w):wpL Rn P ops Q (o::rest) a w:=by
 have h0:Hp Z ρ (aA Ti vr (r'.map (hd ua.2))::TblLX T Ti v ua.1 (wI ua.2 W.1) j li::ArL Tc ua.2 W.2 ai::L) w:=hp.to fun s=>Sep.cons_mono (fun ρ h s=>Sep.two.1 s) s
 cases li with
 |none=>exact s_tputX wk hd' hE he h0 ho hx hy 0 rfl hu (xE hi) hv ht fun w hw=>K w (by
   have hw:Hp Z ρ (bT T Ti v (ua.1.set j.toNat ur) ((wI ua.2 W.1).set j.toNat (r'.map (hd ua.2)))::ArL Tc ua.2 W.2 ai::L) w:=hw
   rw[←wmap_set] at hw
   exact hw.to Sep.two.2)
 |some i=>exact s_tputZ wk hd' hE he h0 ho hx hy 0 rfl hne hu (xE hi) hv ht fun w hw=>K w (by
   have hw:Hp Z ρ (vP T Ti v (ua.1.set j.toNat ur) ((wI ua.2 W.1).set j.toNat (r'.map (hd ua.2))) i::ArL Tc ua.2 W.2 ai::L) w:=hw
   rw[←wmap_set] at hw
   exact hw.to Sep.two.2)
theorem s_wputI (wk:Region.wanted o (yielded ops a.tmps)=true) (hd':o.dst=none) (hE:EnvD Df N E a) {ur:Sl} {vr:Value} (he:ur.v=vr) {r':List Nat} {ai:Option (Nat×Value)} {i j:Int} (hji:j=i) (hp:Hp Z ρ (aA Ti vr (r'.map (hd ua.2))::fD T Ti Tc v ua W (some i) ai::L) w) {Tx:TypeId} {x y:Operand} (ho:o.op= .store Tx x y) {g off:Nat} (hx:evo E x=some (.pointer (some ⟨g,off,none⟩))) (hy:evo E y=some vr)
  {u:Sl} {r:List Nat} (hu:idx ua.1 j=some u) (hi:idx W.1 j=some r) (hv:∃of0 cap,v= .slice (some ⟨g,of0,none⟩) ua.1.length cap∧off=of0+j.toNat*1) (ht:∀w,(sizeOf Tx).run P w= .ok 1 w)
  (K:∀w,Hp Z ρ (fD T Ti Tc v (ua.1.set i.toNat ur,ua.2) (W.1.set i.toNat r',W.2) none ai::L) w→wpL Rn P ops Q rest a w):wpL Rn P ops Q (o::rest) a w:=by
 subst hji
 have h0:Hp Z ρ (aA Ti vr (r'.map (hd ua.2))::vP T Ti v ua.1 (wI ua.2 W.1) j::ArL Tc ua.2 W.2 ai::L) w:=hp.to fun s=>Sep.cons_mono (fun ρ h s=>Sep.two.1 s) s
 exact s_tputI wk hd' hE he h0 ho hx hy 0 rfl hu (xE hi) hv ht fun w hw=>K w (by
  have hw:Hp Z ρ (bT T Ti v (ua.1.set j.toNat ur) ((wI ua.2 W.1).set j.toNat (r'.map (hd ua.2)))::ArL Tc ua.2 W.2 ai::L) w:=hw
  rw[←wmap_set] at hw
  exact hw.to Sep.two.2)
end
section
variable {P:Program} {Z:World} {ρ:PH} {L:List bZ} {w:World} {α:Type} [Enc α] {T El:TypeId} {bytes:Nat} {v v':Value} {l r:List α}
def D5 (El:TypeId) (v:Value) (l:List α) (v':Value) (r:List α):Prop:=∀ρ k,PH.dj ρ k→aA El v l k→bW (ρ.un k) v' r
theorem aA.viewF (hp:Hp Z ρ L w) (k:Nat) (hk:L[k]?=some (aA El v l)) (ht:SlTy P T El (Enc.sz α) bytes) (lo hi:Option (IntKind×Int)) {i j:Int} (hlo:i=match lo with|none=>0|some p=>p.2) (hhi:j=match hi with|none=>(l.length:Int)|some p=>p.2) (hr:sub l i j=some r):
  ∃v',(∀w,(Instr.sliceAt T v (lo.map fun p=> .int p.1 p.2) (hi.map fun p=> .int p.1 p.2) none).run P w= .ok v' w)∧D5 El v l v' r:=by
 obtain⟨κ,ha,hd,_⟩:=(hp.get k hk).lend
 obtain⟨v',h,_⟩:=bW.part (aA.ro hd ha) ht lo hi hlo hhi hr
 refine⟨v',h,fun ρ' κ' hd' ha'=>?_⟩
 obtain⟨v2,h2,h3⟩:=bW.part (aA.ro hd' ha') ht lo hi hlo hhi hr
 exact sl_det w h2 h h3
theorem D5.len {sz:Nat} (h:D5 El v l v' r) (hp:Hp Z ρ L w) (k:Nat) (hk:L[k]?=some (aA El v l)) (ht:SlTy P T El sz bytes) (w:World) (ty:TypeId):(Builtin.len_ #[T] ty #[v']).run P w= .ok (.int .i64 r.length) w:=by
 obtain⟨κ,ha,hd,_⟩:=(hp.get k hk).lend
 exact(h _ _ hd ha).len ht w ty
theorem D5.at (h:D5 El v l v' r) (hp:Hp Z ρ L w) (k:Nat) (hk:L[k]?=some (aA El v l)) (ht:SlTy P T El (Enc.sz α) bytes) {i:Int} {e:α} (hi:idx r i=some e):
  ∃g off,(∀w,(Instr.indexAt T v' (.int .i64 i)).run P w= .ok (.pointer (some ⟨g,off,none⟩)) w)∧
   ∀(j:Nat) (u:Value),(Enc.enc e)[j]?=some u→∀ρ' L' w,Hp Z ρ' (aA El v l::L') w→w.cell? ⟨g,off+j,none⟩=some u:=by
 obtain⟨κ,ha,hd,hh⟩:=(hp.get k hk).lend
 obtain⟨b,o,cs,e1,_,_⟩:=(h _ _ hd ha).at ht hi
 refine⟨b,o,e1,fun j u hj ρ' L' w' hw'=>?_⟩
 obtain⟨κ',ha',hd',hh'⟩:=hw'.lend
 obtain⟨b',o',cs',e1',e2',hat⟩:=(h _ _ hd' ha').at ht hi
 have e3:=(e1 w).symm.trans (e1' w)
 simp only[Result.ok.injEq,Value.pointer.injEq,Option.some.injEq,Addr.mk.injEq,and_true] at e3
 obtain⟨rfl,rfl⟩:=e3
 have e2'':cs'=Enc.enc e:=e2'
 subst e2''
 exact cell_of hh'.le (hat j u hj)
end
def aA2 (i j:Int):Option Unit:=if i.toNat=j.toNat then none else some ()
theorem sV {i j:Int} {u:Unit} (h:aA2 i j=some u):i.toNat≠j.toNat:=by
 unfold aA2 at h
 split at h
 ·cases h
 assumption
structure Pc where
 b:Nat
 s:Sl
def Pc.v (p:Pc):Value:= .pointer (some ⟨p.b,0,none⟩)
theorem Pc.one (p:Pc):p.v.oneCell'=true:=rfl
theorem Pc.cells (p:Pc):p.v.cells= #[p.v]:=rfl
instance encPc:Enc Pc:=⟨1,fun p=>[p.v],fun _=>rfl,fun p v h=>by rw[List.mem_singleton.1 h];exact p.one,by decide⟩
def pqv:Option Pc→Value
 |none=> .pointer none
 |some p=>p.v
theorem pqv.one (p:Option Pc):(pqv p).oneCell'=true:=by cases p<;>rfl
theorem pqv.cells (p:Option Pc):(pqv p).cells= #[pqv p]:=by cases p<;>rfl
instance encPq:Enc (Option Pc):=⟨1,fun p=>[pqv p],fun _=>rfl,fun p v h=>by rw[List.mem_singleton.1 h];exact pqv.one p,by decide⟩
def hdP (au:List Pc) (i:Nat):Pc:=au.getD i ⟨0,Sl.nil⟩
def hq (au:List Pc) (e:Option Nat):Option Pc:=e.map (hdP au)
def qW (au:List Pc) (ids:List (List Nat)):List (List Pc):=ids.map fun r=>r.map (hdP au)
theorem hdP_app {au:List Pc} {s:Pc} {i:Nat} (h:i<au.length):hdP (au++[s]) i=hdP au i:=by
 unfold hdP;rw[List.getD_eq_getElem?_getD,List.getD_eq_getElem?_getD,List.getElem?_append_left h]
theorem hdP_new {au:List Pc} {s:Pc}:hdP (au++[s]) au.length=s:=by
 unfold hdP;rw[List.getD_eq_getElem?_getD,List.getElem?_append_right (Nat.le_refl _)];simp
theorem hdP_get {au:List Pc} {i:Nat} {u:Pc} (h:au[i]?=some u):hdP au i=u:=by unfold hdP;rw[List.getD_eq_getElem?_getD,h];rfl
theorem wmapP_app {au:List Pc} {s:Pc} {ids:List (List Nat)} (h:idsOk au.length ids=true):qW (au++[s]) ids=qW au ids:=by
 unfold idsOk at h
 simp only[List.all_eq_true,decide_eq_true_eq] at h
 unfold qW
 refine List.map_congr_left fun r hr=>List.map_congr_left fun i hi=>hdP_app (h r hr i hi)
theorem uV {au:List Pc} {ids:List (List Nat)} {i:Int} {r:List Nat} (h:idx ids i=some r):idx (qW au ids) i=some (r.map (hdP au)):=F5 h
theorem wmapP_set {au:List Pc} {ids:List (List Nat)} {i:Nat} {r:List Nat}:qW au (ids.set i r)=(qW au ids).set i (r.map (hdP au)):=by unfold qW;rw[List.map_set]
theorem wmapP_len {au:List Pc} {ids:List (List Nat)}:(qW au ids).length=ids.length:=by unfold qW;rw[List.length_map]
theorem wmapP_nils {au:List Pc} (n:Nat):qW au (List.replicate n [])=List.replicate n []:=by unfold qW;simp
def ClA (Tc:TypeId×TypeId) (p:Pc) (c:List Int):bZ:=star (Pt p.b (.cells #[p.s.v] Tc.1 (0,0))) (aA Tc.2 p.s.v c)
def wP (Tc:TypeId×TypeId):List Pc→List (List Int)→bZ
 | [],[]=>fun k=>k=PH.emp
 |u::us,r::l=>star (ClA Tc u r) (wP Tc us l)
 |_,_=>fun _=>False
section
variable {Tc:TypeId×TypeId} {L:List bZ} {ρ h:PH}
theorem wP.len {us:List Pc} {l:List (List Int)} (hs:Sep ρ (wP Tc us l::L) h):us.length=l.length:=by
 induction us generalizing l ρ L with
 |nil=>
  cases l with
  |nil=>rfl
  |cons r l=>obtain⟨k,a,_⟩:=hs;exact a.elim
 |cons u us ih=>
  cases l with
  |nil=>obtain⟨k,a,_⟩:=hs;exact a.elim
  |cons r l=>simp only[List.length_cons];rw[ih (Sep.swap (Sep.two.1 hs))]
theorem wP.take:∀{us:List Pc} {l:List (List Int)} (i:Nat) {u:Pc} {r:List Int} {ρ h:PH} {L:List bZ},us[i]?=some u→l[i]?=some r→
  (Sep ρ (wP Tc us l::L) h↔Sep ρ (ClA Tc u r::wP Tc (us.eraseIdx i) (l.eraseIdx i)::L) h)
 | [],_,i,_,_,_,_,_,h1,_=>by simp at h1
 |_::_,[],i,_,_,_,_,_,_,h2=>by simp at h2
 |u0::us,r0::l,0,u,r,ρ,h,L,h1,h2=>by
  simp only[List.getElem?_cons_zero,Option.some.injEq] at h1 h2
  subst h1 h2
  exact Sep.two
 |u0::us,r0::l,i+1,u,r,ρ,h,L,h1,h2=>by
  simp only[List.getElem?_cons_succ] at h1 h2
  constructor
  ·intro hs
   exact Sep.cons_mono (fun ρ h=>Sep.two.2) (Sep.swap (Sep.cons_mono (fun ρ h=>(wP.take i h1 h2).1) (Sep.two.1 hs)))
  intro hs
  exact Sep.two.2 (Sep.cons_mono (fun ρ h=>(wP.take i h1 h2).2) (Sep.swap (Sep.cons_mono (fun ρ h=>Sep.two.1) hs)))
theorem wP.snoc:∀{us:List Pc} {l:List (List Int)} {u:Pc} {r:List Int} {ρ h:PH} {L:List bZ},Sep ρ (ClA Tc u r::wP Tc us l::L) h→Sep ρ (wP Tc (us++[u]) (l++[r])::L) h
 | [],[],u,r,ρ,h,L,hs=>Sep.two.2 (Sep.cons_mono (fun ρ h h1=>Sep.emp1.2 (Sep.emp1.1 h1)) hs)
 | [],_::_,_,_,_,_,_,hs=>by obtain⟨_,_,_,k,a,_⟩:=hs;exact a.elim
 |_::_,[],_,_,_,_,_,hs=>by obtain⟨_,_,_,k,a,_⟩:=hs;exact a.elim
 |u0::us,r0::l,u,r,ρ,h,L,hs=>Sep.two.2 (Sep.cons_mono (fun ρ h=>wP.snoc) (Sep.swap (Sep.cons_mono (fun ρ h=>Sep.two.1) hs)))
end
section
variable {Z:World} {ρ:PH} {L:List bZ} {w:World} {Tc:TypeId×TypeId} {au:List Pc} {l:List (List Int)}
theorem Hp.apLen (hp:Hp Z ρ (wP Tc au l::L) w):au.length=l.length:=wP.len hp.sep
def ArPX (Tc:TypeId×TypeId) (au:List Pc) (l:List (List Int)) (i:Nat):bZ:=wP Tc (au.eraseIdx i) (l.eraseIdx i)
theorem Hp.apTake {i:Nat} {c:List Int} (hi:l[i]?=some c) (hp:Hp Z ρ (wP Tc au l::L) w):Hp Z ρ (ClA Tc (hdP au i) c::ArPX Tc au l i::L) w:=by
 have hl:=hp.apLen
 obtain⟨h1,_⟩:=List.getElem?_eq_some_iff.1 hi
 have hu:au[i]?=some au[i]:=List.getElem?_eq_getElem (by omega)
 rw[hdP_get hu]
 exact hp.to (wP.take i hu hi).1
theorem Hp.apBack {i:Nat} {c c':List Int} (hi:l[i]?=some c) (hl:au.length=l.length) (hp:Hp Z ρ (ClA Tc (hdP au i) c'::ArPX Tc au l i::L) w):Hp Z ρ (wP Tc au (l.set i c')::L) w:=by
 obtain⟨h1,_⟩:=List.getElem?_eq_some_iff.1 hi
 have hu:au[i]?=some au[i]:=List.getElem?_eq_getElem (by omega)
 rw[hdP_get hu] at hp
 refine hp.to fun s=>(wP.take (us:=au) (l:=l.set i c') (r:=c') i hu (by rw[List.getElem?_set_self h1])).2 ?_
 rw[List.eraseIdx_set_eq];exact s
end
section
variable {Rn:Option Nat} {P:Program} {ops:Array Oper} {Q:Exit→Act→World→Prop} {rest:List Oper} {o:Oper} {a:Act} {w:World} {Df:List Deferred} {N:Nat} {E:Ent} {d:Nat} {Z:World} {ρ:PH} {L:List bZ}
variable {T Ti To Tr:TypeId} {v:Value} {bytes:Nat}
def WPb (T Ti:TypeId) (Tc:TypeId×TypeId) (v:Value) (ua:List Sl×List Pc) (W:List (List Nat)×List (List Int)):bZ:=star (bT T Ti v ua.1 (qW ua.2 W.1)) (wP Tc ua.2 W.2)
variable {Tc:TypeId×TypeId} {ua:List Sl×List Pc} {W:List (List Nat)×List (List Int)}
theorem WPb.opn (h:Hp Z ρ (WPb T Ti Tc v ua W::L) w):Hp Z ρ (bT T Ti v ua.1 (qW ua.2 W.1)::wP Tc ua.2 W.2::L) w:=h.to Sep.two.1
theorem WPb.shut (h:Hp Z ρ (bT T Ti v ua.1 (qW ua.2 W.1)::wP Tc ua.2 W.2::L) w):Hp Z ρ (WPb T Ti Tc v ua W::L) w:=h.to Sep.two.2
theorem WPb.slice (hp:Hp Z ρ L w) (k:Nat) (hk:L[k]?=some (WPb T Ti Tc v ua W)):∃s:Sl,s.v=v:=bT.slice (WPb.opn (hp.get k hk)) 0 rfl
theorem WPb.cells (hp:Hp Z ρ L w) (k:Nat) (hk:L[k]?=some (WPb T Ti Tc v ua W)):v.cells= #[v]:=by obtain⟨s,rfl⟩:=WPb.slice hp k hk;exact s.cells
theorem WPb.one (hp:Hp Z ρ L w) (k:Nat) (hk:L[k]?=some (WPb T Ti Tc v ua W)):v.oneCell'=true:=by obtain⟨s,rfl⟩:=WPb.slice hp k hk;exact s.one
theorem WPb.len (hp:Hp Z ρ L w) (k:Nat) (hk:L[k]?=some (WPb T Ti Tc v ua W)) (ht:SlTy P To T 1 bytes) (w:World) (ty:TypeId):(Builtin.len_ #[To] ty #[v]).run P w= .ok (.int .i64 W.1.length) w:=by
 rw[←wmapP_len (au:=ua.2)]
 exact bT.len (WPb.opn (hp.get k hk)) 0 rfl ht w ty
theorem WPb.start (Tc:TypeId×TypeId) {n:Nat} {us:List Sl} (hp:Hp Z ρ (bT T Ti v us (List.replicate n ([]:List Pc))::L) w):Hp Z ρ (WPb T Ti Tc v (us,[]) (List.replicate n [],[])::L) w:=by
 refine WPb.shut ?_
 rw[wmapP_nils]
 exact hp.to fun s=>Sep.cons_mono (fun ρ h s=>Sep.emp1.2 s) s
theorem s_pmake (wk:Region.wanted o (yielded ops a.tmps)=true) (hd:o.dst=some d) (hN:Nat.blt d N=true) (hE:EnvD Df N E a) (hp:Hp Z ρ L w) {x y:Operand} (ho:o.op= .makeSlice To x y) (hu:P.underlying To=some (.slice T))
  (hi:(P.info? T).map (fun i=>(i.zero.map Value.cells,i.size,i.bytes))=some (some #[.slice none 0 0],1,bytes)) (hby:Nat.ble bytes 16384=true) {k k':IntKind} {n c:Int} (hx:evo E x=some (.int k n)) (hy:evo E y=some (.int k' c)) {r:List (List Nat)} (hr:mkc n c ([]:List Nat)=some r) (Ti:TypeId) (Tc:TypeId×TypeId)
  (K:∀v ua a w,EnvD Df N ((d,v)::E) a→Hp Z ρ (WPb T Ti Tc v ua (r,[])::L) w→wpL Rn P ops Q rest a w):wpL Rn P ops Q (o::rest) a w:=by
 obtain⟨h0,h1,h2,rfl⟩:=G6 hr
 exact s_tmake (α:=Pc) wk hd hN hE hp ho hu hi hby hx hy (r:=List.replicate n.toNat []) (by unfold mkc;rw[if_pos ⟨h0,h1,h2⟩]) Ti fun v us a w hE hp=>K v (us,[]) a w hE (WPb.start Tc hp)
theorem WPb.give {p:Pc} {c:List Int} {l':List (List Int)} (hl:Go.Proofs.Ytpkhmndpeipfmaa.arPut W.2 W.1 c=some l') (hp:Hp Z ρ (ClA Tc p c::WPb T Ti Tc v ua W::L) w):
  Hp Z ρ (WPb T Ti Tc v (ua.1,ua.2++[p]) (W.1,l')::L) w∧hdP (ua.2++[p]) W.2.length=p∧ua.2.length=W.2.length:=by
 obtain⟨hok,rfl⟩:=H9 hl
 have h1:Hp Z ρ (ClA Tc p c::wP Tc ua.2 W.2::bT T Ti v ua.1 (qW ua.2 W.1)::L) w:=hp.to fun s=>Sep.cons_mono (fun ρ h s=>Sep.swap (Sep.two.1 s)) s
 have hlen:ua.2.length=W.2.length:=(h1.to fun s=>s.swap).apLen
 have h2:=h1.to wP.snoc
 refine⟨WPb.shut ?_,by rw[←hlen];exact hdP_new,hlen⟩
 rw[wmapP_app (by rw[hlen];exact hok)]
 exact h2.to fun s=>s.swap
def TblPL (T Ti:TypeId) (v:Value) (us:List Sl) (l:List (List Pc)):Option Int→bZ
 |none=>bT T Ti v us l
 |some i=>vP T Ti v us l i
def ArPL (Tc:TypeId×TypeId) (au:List Pc) (l:List (List Int)):Option (Nat×Pc)→bZ
 |none=>wP Tc au l
 |some h=>fun k=>ArPX Tc au l h.1 k∧au.length=l.length∧h.1<l.length∧hdP au h.1=h.2
def cO (T Ti:TypeId) (Tc:TypeId×TypeId) (v:Value) (ua:List Sl×List Pc) (W:List (List Nat)×List (List Int)) (li:Option Int) (ai:Option (Nat×Pc)):bZ:=
 star (TblPL T Ti v ua.1 (qW ua.2 W.1) li) (ArPL Tc ua.2 W.2 ai)
theorem cO.of (h:Hp Z ρ (WPb T Ti Tc v ua W::L) w):Hp Z ρ (cO T Ti Tc v ua W none none::L) w:=h
theorem cO.to (h:Hp Z ρ (cO T Ti Tc v ua W none none::L) w):Hp Z ρ (WPb T Ti Tc v ua W::L) w:=h
theorem OwnP.len {au:List Pc} {r:List Nat} (hp:Hp Z ρ L w) (k:Nat) (hk:L[k]?=some (aA T v (r.map (hdP au)))) (ht:SlTy P To T 1 bytes) (w:World) (ty:TypeId):(Builtin.len_ #[To] ty #[v]).run P w= .ok (.int .i64 r.length) w:=by
 have:=aA.len hp k hk ht w ty
 rwa [List.length_map] at this
theorem OwnP.at {au:List Pc} {r:List Nat} {i:Int} {h:Nat} (hp:Hp Z ρ L w) (k:Nat) (hk:L[k]?=some (aA T v (r.map (hdP au)))) (ht:SlTy P To T 1 bytes) (hi:idx r i=some h):
  ∃g off,(∀w,(Instr.indexAt To v (.int .i64 i)).run P w= .ok (.pointer (some ⟨g,off,none⟩)) w)∧
   ∀(j:Nat) (x:Value),([(hdP au h).v]:List Value)[j]?=some x→∀ρ' L' w,Hp Z ρ' (aA T v (r.map (hdP au))::L') w→w.cell? ⟨g,off+j,none⟩=some x:=by
 obtain⟨g,off,e1,_,e3⟩:=aA.at hp k hk ht (F5 (f:=hdP au) hi)
 exact⟨g,off,e1,e3⟩
theorem cO.slice {li:Option Int} {ai:Option (Nat×Pc)} (hp:Hp Z ρ L w) (k:Nat) (hk:L[k]?=some (cO T Ti Tc v ua W li ai)):∃s:Sl,s.v=v:=by
 cases li with
 |none=>exact bT.slice ((hp.get k hk).to Sep.two.1) 0 rfl
 |some i=>exact aA.toSl (((hp.get k hk).to Sep.two.1).to Sep.two.1) 0 rfl
theorem cO.cells {li:Option Int} {ai:Option (Nat×Pc)} (hp:Hp Z ρ L w) (k:Nat) (hk:L[k]?=some (cO T Ti Tc v ua W li ai)):v.cells= #[v]:=by obtain⟨s,rfl⟩:=cO.slice hp k hk;exact s.cells
theorem cO.one {li:Option Int} {ai:Option (Nat×Pc)} (hp:Hp Z ρ L w) (k:Nat) (hk:L[k]?=some (cO T Ti Tc v ua W li ai)):v.oneCell'=true:=by obtain⟨s,rfl⟩:=cO.slice hp k hk;exact s.one
theorem oJ (wk:Region.wanted o (yielded ops a.tmps)=true) (hd:o.dst=some d) (hN:Nat.blt d N=true) (hE:EnvD Df N E a) (hp:Hp Z ρ L w) {x y:Operand} (ho:o.op= .makeSlice To x y) (hu:P.underlying To=some (.slice T))
  (hi:(P.info? T).map (fun i=>(i.zero.map Value.cells,i.size,i.bytes))=some (some #[.slice none 0 0],1,bytes)) (hby:Nat.ble bytes 16384=true) {k k':IntKind} {n c:Int} (hx:evo E x=some (.int k n)) (hy:evo E y=some (.int k' c)) {r:List (List Nat)} (hr:mkc n c ([]:List Nat)=some r) (Ti:TypeId) (Tc:TypeId×TypeId)
  (K:∀v ua a w,EnvD Df N ((d,v)::E) a→Hp Z ρ (cO T Ti Tc v ua (r,[]) none none::L) w→wpL Rn P ops Q rest a w):wpL Rn P ops Q (o::rest) a w:=
 s_pmake wk hd hN hE hp ho hu hi hby hx hy hr Ti Tc fun v ua a w hE hp=>K v ua a w hE (cO.of hp)
theorem cO.lend {ai:Option (Nat×Pc)} {i:Int} {u:Sl} {r:List Nat} (hu:idx ua.1 i=some u) (hi:idx W.1 i=some r) (hp:Hp Z ρ (cO T Ti Tc v ua W none ai::L) w):
  Hp Z ρ (aA Ti u.v (r.map (hdP ua.2))::cO T Ti Tc v ua W (some i) ai::L) w:=by
 have h2:=bT.lendRow (hp.to Sep.two.1) 0 rfl hu (uV hi)
 exact h2.to fun s=>Sep.cons_mono (fun ρ h s=>Sep.two.2 s) s
theorem cO.take {li:Option Int} {i:Nat} {c:List Int} (hi:W.2[i]?=some c) (hp:Hp Z ρ (cO T Ti Tc v ua W li none::L) w):∃p:Pc,hdP ua.2 i=p∧Hp Z ρ (aA Tc.2 (Sl.v (Pc.s p)) c::Pt (Pc.b p) (.cells #[Sl.v (Pc.s p)] Tc.1 (0,0))::cO T Ti Tc v ua W li (some (i,p))::L) w:=by
 have h1:Hp Z ρ (wP Tc ua.2 W.2::TblPL T Ti v ua.1 (qW ua.2 W.1) li::L) w:=hp.to fun s=>Sep.swap (Sep.two.1 s)
 have hl:=h1.apLen
 have hlt:=(List.getElem?_eq_some_iff.1 hi).1
 refine⟨_,rfl,(Hp.apTake hi h1).to fun s=>?_⟩
 have s2:=Sep.swap (Sep.two.1 s)
 exact Sep.cons_mono (fun ρ h s=>Sep.cons_mono (fun ρ h s=>Sep.two.2 (Sep.swap (s.imp fun _ a=>⟨a,hl,hlt,rfl⟩))) s) s2
theorem cO.back {li:Option Int} {i:Nat} {p:Pc} {c':List Int} (hp:Hp Z ρ (aA Tc.2 (Sl.v (Pc.s p)) c'::Pt (Pc.b p) (.cells #[Sl.v (Pc.s p)] Tc.1 (0,0))::cO T Ti Tc v ua W li (some (i,p))::L) w):Hp Z ρ (cO T Ti Tc v ua (W.1,W.2.set i c') li none::L) w∧hdP ua.2 i=p:=by
 have h0:Hp Z ρ (ClA Tc p c'::cO T Ti Tc v ua W li (some (i,p))::L) w:=hp.to fun s=>Sep.two.2 s.swap
 have h1:Hp Z ρ ((fun k=>ArPX Tc ua.2 W.2 i k∧ua.2.length=W.2.length∧i<W.2.length∧hdP ua.2 i=p)::ClA Tc p c'::TblPL T Ti v ua.1 (qW ua.2 W.1) li::L) w:=
  h0.to fun s=>Sep.swap (Sep.cons_mono (fun ρ h s=>Sep.swap (Sep.two.1 s)) s)
 obtain⟨_,hl,hlt,hv⟩:=Hp.fact (A:=ArPX Tc ua.2 W.2 i) h1
 subst hv
 have h2:Hp Z ρ (ClA Tc (hdP ua.2 i) c'::ArPX Tc ua.2 W.2 i::TblPL T Ti v ua.1 (qW ua.2 W.1) li::L) w:=(h1.imp fun _ a=>a.1).to fun s=>s.swap
 exact⟨(Hp.apBack (List.getElem?_eq_getElem hlt) hl h2).to fun s=>Sep.two.2 s.swap,rfl⟩
theorem cO.away {li:Option Int} {i:Nat} {p:Pc} (hp:Hp Z ρ L w) (k:Nat) (hk:L[k]?=some (cO T Ti Tc v ua W li (some (i,p)))):hdP ua.2 i=p:=by
 have h1:Hp Z ρ ((fun k=>ArPX Tc ua.2 W.2 i k∧ua.2.length=W.2.length∧i<W.2.length∧hdP ua.2 i=p)::TblPL T Ti v ua.1 (qW ua.2 W.1) li::L.eraseIdx k) w:=(hp.get k hk).to fun s=>Sep.swap (Sep.two.1 s)
 exact(Hp.fact (A:=ArPX Tc ua.2 W.2 i) h1).2.2.2
def idsOkQ (n:Nat) (r:List (Option Nat)):Bool:=r.all fun o=>match o with|none=>true|some i=>decide (i<n)
def guardQ (n:Nat) (r:List (Option Nat)):Option Unit:=if idsOkQ n r=true then some () else none
theorem hq_app {au:List Pc} {p:Pc} {r:List (Option Nat)} {u:Unit} (h:guardQ au.length r=some u):r.map (hq (au++[p]))=r.map (hq au):=by
 unfold guardQ at h
 split at h
 ·rename_i h2
  unfold idsOkQ at h2
  rw[List.all_eq_true] at h2
  refine List.map_congr_left fun o ho=>?_
  have:=h2 o ho
  cases o with
  |none=>rfl
  |some i=>exact congrArg some (hdP_app (by simpa using this))
 cases h
theorem cO.give {b:Nat} {vr:Value} {c:List Int} {l':List (List Int)} {Tr:TypeId} {vq:Value} {rq:List (Option Nat)} {u:Unit} (hl:Go.Proofs.Ytpkhmndpeipfmaa.arPut W.2 W.1 c=some l') (hg:guardQ W.2.length rq=some u)
  (hp:Hp Z ρ (aA Tc.2 vr c::Pt b (.cells #[vr] Tc.1 (0,0))::cO T Ti Tc v ua W none none::aA Tr vq (rq.map (hq ua.2))::L) w):
  ∃(au:List Sl×List Pc) (p:Pc),p.b=b∧p.s.v=vr∧Hp Z ρ (aA Tc.2 (Sl.v (Pc.s p)) c::Pt (Pc.b p) (.cells #[Sl.v (Pc.s p)] Tc.1 (0,0))::cO T Ti Tc v au (W.1,l') none (some (W.2.length,p))::aA Tr vq (rq.map (hq au.2))::L) w:=by
 obtain⟨s,hs⟩:=aA.toSl hp 0 rfl
 subst hs
 have h0:Hp Z ρ (ClA Tc ⟨b,s⟩ c::WPb T Ti Tc v ua W::aA Tr vq (rq.map (hq ua.2))::L) w:=hp.to fun s=>Sep.two.2 s.swap
 obtain⟨h1,h2,h3⟩:=WPb.give (p:=⟨b,s⟩) hl h0
 obtain⟨_,rfl⟩:=H9 hl
 obtain⟨p,e1,h4⟩:=cO.take (c:=c) (i:=W.2.length) (ua:=(ua.1,ua.2++[⟨b,s⟩])) (W:=(W.1,W.2++[c])) (by simp) (cO.of h1)
 rw[h2] at e1
 subst e1
 refine⟨(ua.1,ua.2++[⟨b,s⟩]),⟨b,s⟩,rfl,rfl,?_⟩
 have e:rq.map (hq (ua.1,ua.2++[(⟨b,s⟩:Pc)]).2)=rq.map (hq ua.2):=hq_app (by rw[h3];exact hg)
 rw[e]
 exact h4
def TblPX (T Ti:TypeId) (v:Value) (us:List Sl) (l:List (List Pc)) (j:Int):Option Int→bZ
 |none=>TblX T Ti v us l j
 |some i=>TblZX T Ti v us l i j
def Q5 (T Ti:TypeId) (Tc:TypeId×TypeId) (v:Value) (ua:List Sl×List Pc) (W:List (List Nat)×List (List Int)) (li:Option Int) (ai:Option (Nat×Pc)) (j:Int):bZ:=star (TblPX T Ti v ua.1 (qW ua.2 W.1) j li) (ArPL Tc ua.2 W.2 ai)
theorem cO.takeRow {li:Option Int} {ai:Option (Nat×Pc)} {j:Int} (hne:neL j li) {u:Sl} {r:List Nat} (hu:idx ua.1 j=some u) (hi:idx W.1 j=some r) (hp:Hp Z ρ (cO T Ti Tc v ua W li ai::L) w):
  Hp Z ρ (aA Ti u.v (r.map (hdP ua.2))::Q5 T Ti Tc v ua W li ai j::L) w:=by
 cases li with
 |none=>exact(bT.takeRow (hp.to Sep.two.1) 0 rfl hu (uV hi)).to fun s=>Sep.cons_mono (fun ρ h s=>Sep.two.2 s) s
 |some i=>exact(vP.takeRow (hp.to Sep.two.1) 0 rfl hne hu (uV hi)).to fun s=>Sep.cons_mono (fun ρ h s=>Sep.two.2 s) s
theorem Q5.away {li:Option Int} {i:Nat} {p:Pc} {j:Int} (hp:Hp Z ρ L w) (k:Nat) (hk:L[k]?=some (Q5 T Ti Tc v ua W li (some (i,p)) j)):hdP ua.2 i=p:=by
 have h1:Hp Z ρ ((fun k=>ArPX Tc ua.2 W.2 i k∧ua.2.length=W.2.length∧i<W.2.length∧hdP ua.2 i=p)::TblPX T Ti v ua.1 (qW ua.2 W.1) j li::L.eraseIdx k) w:=(hp.get k hk).to fun s=>Sep.swap (Sep.two.1 s)
 exact(Hp.fact (A:=ArPX Tc ua.2 W.2 i) h1).2.2.2
theorem Q5.adr {li:Option Int} {ai:Option (Nat×Pc)} {j:Int} (hp:Hp Z ρ (Q5 T Ti Tc v ua W li ai j::L) w) (ht:SlTy P To T 1 bytes) {u:Sl} (hu:idx ua.1 j=some u):
  ∃(g off:Nat),(∀w,(Instr.indexAt To v (.int .i64 j)).run P w= .ok (.pointer (some ⟨g,off,none⟩)) w)∧(∃of0 cap,v= .slice (some ⟨g,of0,none⟩) ua.1.length cap∧off=of0+j.toNat*1):=by
 cases li with
 |none=>exact TblX.adr (hp.to Sep.two.1) 0 rfl ht hu
 |some i=>exact TblZX.adr (hp.to Sep.two.1) 0 rfl ht hu
theorem cO.lens {li:Option Int} {ai:Option (Nat×Pc)} (hp:Hp Z ρ (cO T Ti Tc v ua W li ai::L) w):ua.1.length=W.1.length:=by
 rw[←wmapP_len (au:=ua.2)]
 cases li with
 |none=>exact bT.lens (hp.to Sep.two.1)
 |some i=>exact vP.lens (hp.to Sep.two.1)
theorem cO.adr {li:Option Int} {ai:Option (Nat×Pc)} {j:Int} (hp:Hp Z ρ (cO T Ti Tc v ua W li ai::L) w) (ht:SlTy P To T 1 bytes) {u:Sl} (hu:idx ua.1 j=some u):
  ∃(g off:Nat),(∀w,(Instr.indexAt To v (.int .i64 j)).run P w= .ok (.pointer (some ⟨g,off,none⟩)) w)∧(∃of0 cap,v= .slice (some ⟨g,of0,none⟩) ua.1.length cap∧off=of0+j.toNat*1):=by
 cases li with
 |none=>
  obtain⟨g,off,e1,e2,_⟩:=aA.at ((hp.to Sep.two.1).to Sep.two.1) 0 rfl ht hu
  exact⟨g,off,e1,e2⟩
 |some i=>exact vP.adr (hp.to Sep.two.1) 0 rfl ht hu
theorem cO.hdr {li:Option Int} {ai:Option (Nat×Pc)} {j:Int} (hp:Hp Z ρ (cO T Ti Tc v ua W li ai::L) w) (ht:SlTy P To T 1 bytes) {r:List Nat} (hi:idx W.1 j=some r):
  ∃(u:Sl) (g off:Nat),idx ua.1 j=some u∧(∀w,(Instr.indexAt To v (.int .i64 j)).run P w= .ok (.pointer (some ⟨g,off,none⟩)) w)∧(∃of0 cap,v= .slice (some ⟨g,of0,none⟩) ua.1.length cap∧off=of0+j.toNat*1)∧
   ∀(q:Nat) (x:Value),[u.v][q]?=some x→∀ρ' L' w,Hp Z ρ' (cO T Ti Tc v ua W li ai::L') w→w.cell? ⟨g,off+q,none⟩=some x:=by
 cases li with
 |none=>
  obtain⟨u,g,off,e1,e2,e3,e4⟩:=bT.hdr (hp.to Sep.two.1) 0 rfl ht (uV hi)
  exact⟨u,g,off,e1,e2,e3,fun q x hx ρ' L' w hw=>e4 q x hx ρ' _ w (hw.to Sep.two.1)⟩
 |some i=>
  obtain⟨u,g,off,e1,e2,e3,e4⟩:=vP.hdr (hp.to Sep.two.1) 0 rfl ht (uV hi)
  exact⟨u,g,off,e1,e2,e3,fun q x hx ρ' L' w hw=>e4 q x hx ρ' _ w (hw.to Sep.two.1)⟩
theorem s_pput (wk:Region.wanted o (yielded ops a.tmps)=true) (hd':o.dst=none) (hE:EnvD Df N E a) {ur:Sl} {vr:Value} (he:ur.v=vr) {r':List Nat} {li:Option Int} {ai:Option (Nat×Pc)} {j:Int} (hp:Hp Z ρ (aA Ti vr (r'.map (hdP ua.2))::Q5 T Ti Tc v ua W li ai j::L) w) {Tx:TypeId} {x y:Operand} (ho:o.op= .store Tx x y) {g off:Nat} (hx:evo E x=some (.pointer (some ⟨g,off,none⟩))) (hy:evo E y=some vr) (hne:neL j li)
  {u:Sl} {r:List Nat} (hu:idx ua.1 j=some u) (hi:idx W.1 j=some r) (hv:∃of0 cap,v= .slice (some ⟨g,of0,none⟩) ua.1.length cap∧off=of0+j.toNat*1) (ht:∀w,(sizeOf Tx).run P w= .ok 1 w)
  (K:∀w,Hp Z ρ (cO T Ti Tc v (ua.1.set j.toNat ur,ua.2) (W.1.set j.toNat r',W.2) li ai::L) w→wpL Rn P ops Q rest a w):wpL Rn P ops Q (o::rest) a w:=by
 have h0:Hp Z ρ (aA Ti vr (r'.map (hdP ua.2))::TblPX T Ti v ua.1 (qW ua.2 W.1) j li::ArPL Tc ua.2 W.2 ai::L) w:=hp.to fun s=>Sep.cons_mono (fun ρ h s=>Sep.two.1 s) s
 cases li with
 |none=>exact s_tputX wk hd' hE he h0 ho hx hy 0 rfl hu (uV hi) hv ht fun w hw=>K w (by
   have hw:Hp Z ρ (bT T Ti v (ua.1.set j.toNat ur) ((qW ua.2 W.1).set j.toNat (r'.map (hdP ua.2)))::ArPL Tc ua.2 W.2 ai::L) w:=hw
   rw[←wmapP_set] at hw
   exact hw.to Sep.two.2)
 |some i=>exact s_tputZ wk hd' hE he h0 ho hx hy 0 rfl hne hu (uV hi) hv ht fun w hw=>K w (by
   have hw:Hp Z ρ (vP T Ti v (ua.1.set j.toNat ur) ((qW ua.2 W.1).set j.toNat (r'.map (hdP ua.2))) i::ArPL Tc ua.2 W.2 ai::L) w:=hw
   rw[←wmapP_set] at hw
   exact hw.to Sep.two.2)
theorem s_pputI (wk:Region.wanted o (yielded ops a.tmps)=true) (hd':o.dst=none) (hE:EnvD Df N E a) {ur:Sl} {vr:Value} (he:ur.v=vr) {r':List Nat} {ai:Option (Nat×Pc)} {i j:Int} (hji:j=i) (hp:Hp Z ρ (aA Ti vr (r'.map (hdP ua.2))::cO T Ti Tc v ua W (some i) ai::L) w) {Tx:TypeId} {x y:Operand} (ho:o.op= .store Tx x y) {g off:Nat} (hx:evo E x=some (.pointer (some ⟨g,off,none⟩))) (hy:evo E y=some vr)
  {u:Sl} {r:List Nat} (hu:idx ua.1 j=some u) (hi:idx W.1 j=some r) (hv:∃of0 cap,v= .slice (some ⟨g,of0,none⟩) ua.1.length cap∧off=of0+j.toNat*1) (ht:∀w,(sizeOf Tx).run P w= .ok 1 w)
  (K:∀w,Hp Z ρ (cO T Ti Tc v (ua.1.set i.toNat ur,ua.2) (W.1.set i.toNat r',W.2) none ai::L) w→wpL Rn P ops Q rest a w):wpL Rn P ops Q (o::rest) a w:=by
 subst hji
 have h0:Hp Z ρ (aA Ti vr (r'.map (hdP ua.2))::vP T Ti v ua.1 (qW ua.2 W.1) j::ArPL Tc ua.2 W.2 ai::L) w:=hp.to fun s=>Sep.cons_mono (fun ρ h s=>Sep.two.1 s) s
 exact s_tputI wk hd' hE he h0 ho hx hy 0 rfl hu (uV hi) hv ht fun w hw=>K w (by
  have hw:Hp Z ρ (bT T Ti v (ua.1.set j.toNat ur) ((qW ua.2 W.1).set j.toNat (r'.map (hdP ua.2)))::ArPL Tc ua.2 W.2 ai::L) w:=hw
  rw[←wmapP_set] at hw
  exact hw.to Sep.two.2)
end
section
variable {Rn:Option Nat} {P:Program} {ops:Array Oper} {Q:Exit→Act→World→Prop} {rest:List Oper} {o:Oper} {a:Act} {w:World} {Df:List Deferred} {N:Nat} {E:Ent} {d:Nat} {Z:World} {ρ:PH} {L:List bZ}
variable {T Ti To Tr:TypeId} {v:Value} {bytes:Nat} {Tc:TypeId×TypeId} {ua:List Sl×List Pc} {W:List (List Nat)×List (List Int)} {au:List Pc}
theorem OwnQ.len {r:List (Option Nat)} (hp:Hp Z ρ L w) (k:Nat) (hk:L[k]?=some (aA T v (r.map (hq au)))) (ht:SlTy P To T 1 bytes) (w:World) (ty:TypeId):(Builtin.len_ #[To] ty #[v]).run P w= .ok (.int .i64 r.length) w:=by
 have:=aA.len hp k hk ht w ty
 rwa [List.length_map] at this
theorem OwnQ.at {r:List (Option Nat)} {i:Int} {h:Option Nat} (hp:Hp Z ρ L w) (k:Nat) (hk:L[k]?=some (aA T v (r.map (hq au)))) (ht:SlTy P To T 1 bytes) (hi:idx r i=some h):
  ∃g off,(∀w,(Instr.indexAt To v (.int .i64 i)).run P w= .ok (.pointer (some ⟨g,off,none⟩)) w)∧(∃of0 cap,v= .slice (some ⟨g,of0,none⟩) r.length cap∧off=of0+i.toNat*1)∧
   ∀(j:Nat) (x:Value),([pqv (hq au h)]:List Value)[j]?=some x→∀ρ' L' w,Hp Z ρ' (aA T v (r.map (hq au))::L') w→w.cell? ⟨g,off+j,none⟩=some x:=by
 obtain⟨g,off,e1,e2,e3⟩:=aA.at hp k hk ht (F5 (f:=hq au) hi)
 rw[List.length_map] at e2
 exact⟨g,off,e1,e2,e3⟩
theorem pqv_hq (au:List Pc) (i:Nat):pqv (hq au (some i))=Pc.v (hdP au i):=rfl
theorem s_qstel (wk:Region.wanted o (yielded ops a.tmps)=true) (hd:o.dst=none) (hE:EnvD Df N E a) (hp:Hp Z ρ L w) {Tx:TypeId} {x y:Operand} (ho:o.op= .store Tx x y) {g off:Nat} (hx:evo E x=some (.pointer (some ⟨g,off,none⟩))) {u:Value} (hy:evo E y=some u) (k:Nat) {r:List (Option Nat)} (hk:L[k]?=some (aA T v (r.map (hq au))))
  {i:Int} {e:Option Nat} (hi:idx r i=some e) (hv:∃of0 cap,v= .slice (some ⟨g,of0,none⟩) r.length cap∧off=of0+i.toNat*1) {e':Option Nat} (hu:u=pqv (hq au e')) (ht:∀w,(sizeOf Tx).run P w= .ok 1 w)
  (K:∀w,Hp Z ρ (L.set k (aA T v ((r.set i.toNat e').map (hq au)))) w→wpL Rn P ops Q rest a w):wpL Rn P ops Q (o::rest) a w:=by
 subst hu
 refine mY wk hd hE hp ho hx hy k hk (F5 (f:=hq au) hi) (by rw[List.length_map];exact hv) 0 (e':=hq au e') ht rfl (pqv.cells _) (pqv.one _) ⟨rfl,rfl⟩ fun w hw=>K w ?_
 rw[List.map_set];exact hw
theorem hq_nils (au au':List Pc) (n:Nat):(List.replicate n (none:Option Nat)).map (hq au)=(List.replicate n none).map (hq au'):=by simp[hq]
theorem wW {n c:Int} {r:List (Option Nat)} (h:mkc n c (none:Option Nat)=some r) (au au':List Pc):r.map (hq au)=r.map (hq au'):=by
 obtain⟨_,_,_,rfl⟩:=G6 h
 exact hq_nils ..
theorem qK (au:List Pc) (wk:Region.wanted o (yielded ops a.tmps)=true) (hd:o.dst=some d) (hN:Nat.blt d N=true) (hE:EnvD Df N E a) (hp:Hp Z ρ L w) {T:TypeId} {x y:Operand} (ho:o.op= .makeSlice T x y) {El:TypeId} {bytes:Nat} (hu:P.underlying T=some (.slice El))
  (hi:(P.info? El).map (fun i=>(i.zero.map Value.cells,i.size,i.bytes))=some (some #[.pointer none],1,bytes)) (hby:Nat.ble bytes 16384=true) {k k':IntKind} {n c:Int} (hx:evo E x=some (.int k n)) (hy:evo E y=some (.int k' c)) {r:List (Option Nat)} (hr:mkc n c (none:Option Nat)=some r)
  (K:∀v a w,EnvD Df N ((d,v)::E) a→Hp Z ρ (aA El v (r.map (hq au))::L) w→wpL Rn P ops Q rest a w):wpL Rn P ops Q (o::rest) a w:=by
 obtain⟨h0,h1,h2,rfl⟩:=G6 hr
 have e:(List.replicate n.toNat (none:Option Nat)).map (hq au)=List.replicate n.toNat none:=by simp[hq]
 rw[e] at K
 exact fH wk hd hN hE hp ho hu (none:Option Pc) hi hby hx hy (by unfold mkc;rw[if_pos ⟨h0,h1,h2⟩]) K
theorem ex_qnil {C:World→Prop} {t t':TypeId} (ht:P.underlying t=some (.pointer (P.pointee t))) {x y:Operand} (ho:o.op= .binOp .eql t x y t') (hE:EnvD Df N E a) {e:Option Nat} (hx:evo E x=some (pqv (hq au e))) (hy:evo E y=some (.pointer none)):Ex P C a o (.bool e.isNone):=tV ho hE hx hy fun w _=>by
 cases e with
 |none=>have:=run_eql_pointer_nil (P:=P) (w:=w) t none ht;simp[eqGuard,hq,pqv,this]
 |some i=>have:=run_eql_pointer_nil (P:=P) (w:=w) t (some ⟨(hdP au i).b,0,none⟩) ht;simp[eqGuard,hq,pqv,Pc.v,this]
theorem cO.back0 {li:Option Int} {i:Nat} {p:Pc} {c:List Int} (hi:W.2[i]?=some c) (hp:Hp Z ρ (aA Tc.2 (Sl.v (Pc.s p)) c::Pt (Pc.b p) (.cells #[Sl.v (Pc.s p)] Tc.1 (0,0))::cO T Ti Tc v ua W li (some (i,p))::L) w):Hp Z ρ (cO T Ti Tc v ua W li none::L) w∧hdP ua.2 i=p:=by
 obtain⟨h1,h2⟩:=cO.back hp
 have e:(W.1,W.2.set i c)=W:=by rw[set_self hi]
 rw[e] at h1
 exact⟨h1,h2⟩
end
def yB (v:Value) (m:Nat):Value:=match v with| .slice A _ c=> .slice A m c|v=>v
theorem run_sl2 {P:Program} {T El:TypeId} {sz bytes:Nat} (ht:SlTy P T El sz bytes) (A:Option Addr) (n c:Nat) {k:IntKind} {j:Int} (h0:0≤j) (h2:j≤c) (w:World):
  (Instr.sliceAt T (.slice A n c) none (some (.int k j)) none).run P w= .ok (.slice A j.toNat c) w:=by
 obtain⟨inf,z,hI,hz,hsz,hby,hzs⟩:=ht.inf
 have hjc:j.toNat≤c:=by omega
 have hmx:max j 0=j:=by omega
 simp[Instr.sliceAt,Instr.slice,Instr.sliceBounds,Instr.sliceBound,asIntOf,run_underlying ht.und,sizeOf,typeInfo,hI,hsz,h0,h2,hjc,hmx,map_add0]
theorem flat_pc (l:List Pc):flat l=l.map Pc.v:=by
 induction l with
 |nil=>rfl
 |cons a l ih=>
  have:flat (a::l)=[a.v]++flat l:=rfl
  rw[this,ih];rfl
section
variable {Rn:Option Nat} {P:Program} {ops:Array Oper} {Q:Exit→Act→World→Prop} {rest:List Oper} {o:Oper} {a:Act} {w:World} {Df:List Deferred} {N:Nat} {E:Ent} {d:Nat} {Z:World} {ρ:PH} {L:List bZ}
variable {T To:TypeId} {v:Value} {bytes:Nat} {au:List Pc}
theorem aA.shrRun {α:Type} [Enc α] {r:List α} (hp:Hp Z ρ L w) (k:Nat) (hk:L[k]?=some (aA T v r)) (ht:SlTy P To T (Enc.sz α) bytes) {i:IntKind} {j:Int} (h0:0≤j) (h2:j≤r.length) (w:World):(Instr.sliceAt To v none (some (.int i j)) none).run P w= .ok (yB v j.toNat) w:=by
 rcases(hp.get k hk).row.2 with⟨A,rfl,hn⟩|⟨g,off,cap,cur,rfl,_,hnc,_⟩
 ·have:j=0:=by omega
  subst this
  exact run_sl2 ht A 0 0 (by omega) (by omega) w
 exact run_sl2 ht _ _ cap h0 (by omega) w
theorem aA.shr {α:Type} [Enc α] {r:List α} {m:Nat} (hp:Hp Z ρ (aA T v r::L) w) (ht:SlTy P To T (Enc.sz α) bytes) (hm:m≤r.length):Hp Z ρ (aA T (yB v m) (r.take m)::L) w:=by
 obtain⟨v',h1,h2⟩:=aA.head hp ht (some (.i64,(m:Int))) (j:=(m:Int)) rfl (r:=r.take m) (by unfold sub;rw[if_pos ⟨by omega,by omega,by omega⟩];simp)
 have h3:=aA.shrRun hp 0 rfl ht (i:= .i64) (j:=(m:Int)) (by omega) (by omega) w
 have h4:=(h1 w).symm.trans h3
 simp only[Result.ok.injEq,and_true,Int.toNat_natCast] at h4
 rw[←h4];exact h2
theorem s_kapp (wk:Region.wanted o (yielded ops a.tmps)=true) (hd:o.dst=some d) (hN:Nat.blt d N=true) (hE:EnvD Df N E a) (hp:Hp Z ρ L w) {x y:Operand} {t:TypeId} (ho:o.op= .call {callee:= .builtin .append,args:= #[x,y],argTypes:= #[t,t] }) (ht:SlTy P t T 1 bytes)
  {m:Nat} (hx:evo E x=some (yB v m)) (k:Nat) {r:List Nat} (hk:L[k]?=some (aA T v (r.map (hdP au)))) {b off c:Nat} (hy:evo E y=some (.slice (some ⟨b,off,none⟩) 1 c)) {h:Nat} (hn:w.cell? ⟨b,off,none⟩=some (hdP au h).v) (hm:m<r.length)
  (K:∀a w,EnvD Df N ((d,yB v (m+1))::E) a→Hp Z ρ (L.set k (aA T v ((r.set m h).map (hdP au)))) w→wpL Rn P ops Q rest a w):wpL Rn P ops Q (o::rest) a w:=by
 have h0:=hp.get k hk
 have hlt:=(List.getElem?_eq_some_iff.1 hk).1
 rcases h0.row.2 with⟨A,_,hn0⟩|⟨g,of0,cap,cur,e0,hpt,hnc,hcm,hcs,htake⟩
 ·rw[List.length_map] at hn0;omega
 subst e0
 obtain⟨i,z,hi,hz,hsize,hby,hzs⟩:=ht.inf
 rw[List.length_map] at hnc htake
 have hsz1:Enc.sz Pc=1:=rfl
 rw[hsz1] at hcs htake
 have hg:=hpt.look 0 rfl
 have hf:=run_firstCells_some (P:=P) w i.size 1 ⟨b,off,none⟩ 1 c [(hdP au h).v] (by rw[hsize];rfl) (fun j u hj=>by
  cases j with
  |zero=>simp only[List.getElem?_cons_zero,Option.some.injEq] at hj;subst hj;rw[Addr.add_lit];exact hn
  |succ j=>simp at hj)
 have hst:=run_storeCells_at P g (of0+m*i.size) T [(hdP au h).v] 0 cur w hg (by rw[hsize];simp;omega) (fun u hu=>by rw[List.mem_singleton.1 hu];rfl)
 simp only[Nat.add_zero] at hst
 have hroom:m+1≤cap:=by omega
 have hr:(Builtin.append_ #[t,t] o.type #[yB (.slice (some ⟨g,of0,none⟩) ((r.map (hdP au)).length) cap) m,.slice (some ⟨b,off,none⟩) 1 c]).run P w=
   .ok (yB (.slice (some ⟨g,of0,none⟩) ((r.map (hdP au)).length) cap) (m+1)) (w.setRow g (cur.toList.take (of0+m*i.size)++[(hdP au h).v]++cur.toList.drop (of0+m*i.size+1)).toArray):=by
  simp[yB,Builtin.append_,run_underlying ht.und,sizeOf,typeInfo,hi,Builtin.lenOf,hroom,hf,Addr.add_lit,hst]
 refine G8 wk hd hN hE (v:=yB (.slice (some ⟨g,of0,none⟩) ((r.map (hdP au)).length) cap) (m+1)) (w':=w.setRow g (cur.toList.take (of0+m*i.size)++[(hdP au h).v]++cur.toList.drop (of0+m*i.size+1)).toArray) ?_ fun a' hE'=>K a' _ hE' (Hp.put k hlt ?_)
 ·simp only[execOp,ho,resolve,invoke,builtin,Sem.run_bind,Sem.run_pure,Result.andThen_ok,List.map_toArray,List.map_cons,List.map_nil,hE.eval hx,hE.eval hy,hr]
 have e1:cur.toList.take (of0+m*i.size)++[(hdP au h).v]++cur.toList.drop (of0+m*i.size+1)=cur.toList.set (of0+m) (hdP au h).v:=by
  rw[hsize,Nat.mul_one,List.set_eq_take_append_cons_drop,if_pos (by rw[Array.length_toList];omega)];simp
 rw[e1]
 unfold aA
 rw[List.length_map,List.length_map,List.length_set]
 refine(Hp.set (w':=w.setRow g _) hpt rfl rfl rfl (setRow_heap w g cur _ T _ hg) (fun k hk=>setRow_other w g k _ hk)).shutO hnc hcm ?_ ?_
 ·rw[hsz1];simp only[List.size_toArray,List.length_set,Array.length_toList];omega
 rw[hsz1]
 show List.take (r.length*1) (List.drop of0 (cur.toList.set (of0+m) (hdP au h).v))=_
 rw[List.drop_set,if_neg (by omega),show of0+m-of0=m by omega,List.take_set,htake,flat_pc,flat_pc,List.map_set,List.map_set]
def kappF (r:List Nat) (m lo:Nat):Option (List Nat):=if m≤lo∧lo≤r.length∧0<r.length then some (r.take m++r.drop lo) else none
theorem s_kapps (wk:Region.wanted o (yielded ops a.tmps)=true) (hd:o.dst=some d) (hN:Nat.blt d N=true) (hE:EnvD Df N E a) (hp:Hp Z ρ L w) {x y:Operand} {t:TypeId} (ho:o.op= .call {callee:= .builtin .append,args:= #[x,y],argTypes:= #[t,t] }) (ht:SlTy P t T 1 bytes)
  {m:Nat} (hx:evo E x=some (yB v m)) (k:Nat) {r:List Nat} (hk:L[k]?=some (aA T v (r.map (hdP au)))) {vy:Value} (hy:evo E y=some vy) {ki:IntKind} {lo:Nat} (hvy:∀w,(Instr.sliceAt t v (some (.int ki (lo:Int))) none none).run P w= .ok vy w) {r':List Nat} (hr':kappF r m lo=some r')
  (K:∀v' a w,EnvD Df N ((d,v')::E) a→Hp Z ρ (L.set k (aA T v' (r'.map (hdP au)))) w→wpL Rn P ops Q rest a w):wpL Rn P ops Q (o::rest) a w:=by
 unfold kappF at hr'
 split at hr'
 ·rename_i hc
  obtain⟨hml,hlo,hpos⟩:=hc
  obtain rfl:=Option.some.inj hr'
  have h0:=hp.get k hk
  have hlt:=(List.getElem?_eq_some_iff.1 hk).1
  rcases h0.row.2 with⟨A,_,hn0⟩|⟨g,of0,cap,cur,e0,hpt,hnc,hcm,hcs,htake⟩
  ·rw[List.length_map] at hn0;omega
  subst e0
  obtain⟨i,z,hi,hz,hsize,hby,hzs⟩:=ht.inf
  rw[List.length_map] at hnc htake
  have hsz1:Enc.sz Pc=1:=rfl
  rw[hsz1] at hcs htake
  have hg:=hpt.look 0 rfl
  have hv:=(hvy w).symm.trans (run_sl ht (some ⟨g,of0,none⟩) (r.map (hdP au)).length cap (some (ki,(lo:Int))) none (i:=(lo:Int)) (j:=((r.map (hdP au)).length:Int)) rfl rfl (by omega) (by rw[List.length_map];omega) (by rw[List.length_map];omega) w)
  simp only[Result.ok.injEq,and_true] at hv
  subst hv
  obtain⟨ad,had,had2⟩:∃ad:Addr,(if cap=(lo:Int).toNat then(some (⟨g,of0,none⟩:Addr)) else(some (⟨g,of0,none⟩:Addr)).map (·.add ((lo:Int).toNat*1)))=some ad∧(lo<r.length→ad=⟨g,of0+lo,none⟩):=by
   by_cases hcl:cap=(lo:Int).toNat
   ·exact⟨⟨g,of0,none⟩,by rw[if_pos hcl],fun h=>by omega⟩
   exact⟨⟨g,of0+lo,none⟩,by rw[if_neg hcl];simp[Addr.add],fun _=>rfl⟩
  have e5:((((r.map (hdP au)).length:Int)).toNat-(lo:Int).toNat)=r.length-lo:=by rw[List.length_map];omega
  have e6:cap-(lo:Int).toNat=cap-lo:=by omega
  rw[had,e5,e6] at hy
  have hnl:((r.drop lo).map fun j=>(hdP au j).v).length=r.length-lo:=by rw[List.length_map,List.length_drop]
  have hf:=run_firstCells_some (P:=P) w i.size (r.length-lo) ad (r.length-lo) (cap-lo) ((r.drop lo).map fun j=>(hdP au j).v) (by rw[hsize,hnl,Nat.mul_one]) (fun j u hj=>by
   rw[List.getElem?_map,List.getElem?_drop,Option.map_eq_some_iff] at hj
   obtain⟨q,hq,rfl⟩:=hj
   have hql:=(List.getElem?_eq_some_iff.1 hq).1
   rw[had2 (by omega)]
   have hat:idx (r.map (hdP au)) ((lo+j:Nat):Int)=some (hdP au q):=by
    unfold idx;rw[if_pos (by omega),Int.toNat_natCast,List.getElem?_map,hq];rfl
   obtain⟨g',off',e1,⟨of1,cap1,e2,e3⟩,e4⟩:=aA.at h0 0 rfl ht hat
   simp only[Value.slice.injEq,Option.some.injEq,Addr.mk.injEq,and_true] at e2
   obtain⟨⟨rfl,rfl⟩,_⟩:=e2
   have:=e4 0 (hdP au q).v rfl _ _ w h0
   rw[Addr.add_lit]
   rw[e3,hsz1] at this
   rw[show of0+lo+j=of0+((lo+j:Nat):Int).toNat*1+0 by omega]
   exact this)
  have hst:=run_storeCells_at P g (of0+m*i.size) T ((r.drop lo).map fun j=>(hdP au j).v) 0 cur w hg (by rw[hsize,hnl];omega) (fun u hu=>by obtain⟨q,_,rfl⟩:=List.mem_map.1 hu;rfl)
  simp only[Nat.add_zero] at hst
  generalize hnw:(r.drop lo).map (fun j=>(hdP au j).v)=news at hf hst hnl
  have hroom:m+(r.length-lo)≤cap:=by omega
  have hrun:(Builtin.append_ #[t,t] o.type #[yB (.slice (some ⟨g,of0,none⟩) ((r.map (hdP au)).length) cap) m,.slice (some ad) (r.length-lo) (cap-lo)]).run P w=
    .ok (.slice (some ⟨g,of0,none⟩) (m+(r.length-lo)) cap) (w.setRow g (cur.toList.take (of0+m*i.size)++news++cur.toList.drop (of0+m*i.size+news.length)).toArray):=by
   simp[yB,Builtin.append_,run_underlying ht.und,sizeOf,typeInfo,hi,Builtin.lenOf,hroom,hf,Addr.add_lit,hst]
  refine G8 wk hd hN hE (v:= .slice (some ⟨g,of0,none⟩) (m+(r.length-lo)) cap) (w':=w.setRow g (cur.toList.take (of0+m*i.size)++news++cur.toList.drop (of0+m*i.size+news.length)).toArray) ?_ fun a' hE'=>K _ a' _ hE' (Hp.put k hlt ?_)
  ·simp only[execOp,ho,resolve,invoke,builtin,Sem.run_bind,Sem.run_pure,Result.andThen_ok,List.map_toArray,List.map_cons,List.map_nil,hE.eval hx,hE.eval hy,hrun]
  unfold aA
  have hl2:(List.map (hdP au) (r.take m++r.drop lo)).length=m+(r.length-lo):=by simp;omega
  rw[hl2]
  refine(Hp.set (w':=w.setRow g _) hpt rfl rfl rfl (setRow_heap w g cur _ T _ hg) (fun k hk=>setRow_other w g k _ hk)).shutO hroom hcm ?_ ?_
  ·rw[hsz1,hsize];simp only[List.size_toArray,List.length_append,List.length_take,List.length_drop,Array.length_toList,hnl];omega
  rw[hsz1,hsize]
  have ht2:(cur.toList.take (of0+m*1)).drop of0=(flat (r.map (hdP au))).take m:=by
   rw[←htake,List.take_take,List.drop_take];congr 1;omega
  have hl3:(cur.toList.take (of0+m*1)).length=of0+m:=by rw[List.length_take,Array.length_toList];omega
  show List.take ((m+(r.length-lo))*1) (List.drop of0 (cur.toList.take (of0+m*1)++news++cur.toList.drop _))=_
  have hl4:((flat (r.map (hdP au))).take m++news).length=m+(r.length-lo):=by rw[List.length_append,hnl,flat_pc,List.length_take,List.length_map,List.length_map];omega
  rw[List.append_assoc,List.drop_append_of_le_length (by omega),ht2,←List.append_assoc,List.take_append_of_le_length (by rw[hl4];omega),List.take_of_length_le (by rw[hl4];omega),←hnw,flat_pc,flat_pc,List.map_append,List.map_append,List.map_take,List.map_take,List.map_map,List.map_map]
  rfl
 cases hr'
def J5 (m n:Nat):Option Unit:=if m<n then some () else none
theorem J6 {m n:Nat} {u:Unit} (h:J5 m n=some u):m<n:=by
 unfold J5 at h;split at h
 ·assumption
 cases h
theorem OwnP.shr {r:List Nat} {m:Nat} (hp:Hp Z ρ (aA T v (r.map (hdP au))::L) w) (ht:SlTy P To T 1 bytes) (hm:m<r.length+1):Hp Z ρ (aA T (yB v m) ((r.take m).map (hdP au))::L) w:=by
 rw[List.map_take]
 exact aA.shr hp ht (by rw[List.length_map];omega)
theorem OwnP.shr0 {r:List Nat} (hp:Hp Z ρ L w) (k:Nat) (hk:L[k]?=some (aA T v (r.map (hdP au)))) (ht:SlTy P To T 1 bytes) (i:IntKind) (w:World):(Instr.sliceAt To v none (some (.int i 0)) none).run P w= .ok (yB v 0) w:=
 aA.shrRun hp k hk ht (by omega) (by omega) w
end
section
variable {Rn:Option Nat} {P:Program} {ops:Array Oper} {Q:Exit→Act→World→Prop} {rest:List Oper} {o:Oper} {a:Act} {w:World} {Df:List Deferred} {N:Nat} {E:Ent} {d:Nat} {C:World→Prop}
theorem ex_mki {t:TypeId} {x:Operand} (ho:o.op= .makeInterface t x) (hE:EnvD Df N E a) {p v:Value} (hx:evo E x=some p) (h:∀w,(Instr.makeInterface t p).run P w= .ok v w):Ex P C a o v:=fun w _=>by simp[execOp,ho,hE.eval hx,h w]
theorem ex_tas {t u:TypeId} {ok:Bool} {x:Operand} (ho:o.op= .typeAssert x t u ok) (hE:EnvD Df N E a) {p v:Value} (hx:evo E x=some p) (h:∀w,(Instr.typeAssert p t u ok).run P w= .ok v w):Ex P C a o v:=fun w _=>by simp[execOp,ho,hE.eval hx,h w]
theorem wL (wk:Region.wanted o (yielded ops a.tmps)=true) (hd:o.dst=some d) (hN:Nat.blt d N=true) (hE:EnvD Df N E a) {x:Operand} {name:String} {f:FuncId} {xs:List Operand} {ts:Array TypeId} (ho:o.op= .call {callee:= .invoke x name,args:=xs.toArray,argTypes:=ts}) {rv rv':Value} (hf:evo E x=some rv) (vs:List Value) (hx:evA E xs vs)
  (he:∀w,(invoke (.fn (.method name) #[]) (rv::vs).toArray).run P w= .ok (.enter f (rv'::vs).toArray) w) {R:Ending→World→Prop} (hc:Calls P f (rv'::vs).toArray w R) (hr:∀e w,R e w→∃v,e= .returned v)
  (K:∀v a w,R (.returned v) w→EnvD Df N ((d,v)::E) a→wpL Rn P ops Q rest a w):wpL Rn P ops Q (o::rest) a w:=by
 have hxs:xs.toArray.map a.eval=vs.toArray:=by rw[List.map_toArray,I9 hE hx]
 have hex:(execOp a.eval o).run P w= .ok (.enter f (rv'::vs).toArray) w:=by
  have h1: #[a.eval x]++xs.toArray.map a.eval=(rv::vs).toArray:=by rw[hxs,hE.eval hf];simp
  simp only[execOp,ho,resolve,h1,Sem.run_bind,Sem.run_pure,Result.andThen_ok]
  exact he w
 exact l_enter wk hex hc hr (fun v w hR=>by rw[hd];exact K v _ w hR (hE.put hN v))
end
structure Formula where
 vars:Int
 clauses:List (List Int)
structure PEng where
 value:List Int
 trail:List Int
 head:Int
 watches:List (List Nat)×List (List Int)
 fails:Bool
structure Que where
 list:List Int
 isin:List Bool
structure Sol where
 value:List Int
 level:List Int
 reason:List (Option Nat)
 saved:List Int
 watches:List (List Nat)×List (List Int)
 trail:List Int
 starts:List Int
 head:Int
 queue:Que
 proof:List (List Int)
 literals:Int
 broken:Bool
structure Answer where
 kind:Int
 model:List Int
 proof:List (List Int)
 conflicts:Int
def FWf (f:Formula):Prop:=I64 f.vars∧LW (LW I64) f.clauses
instance repFormula:Rep Formula:=⟨2,fun ρ f cs=>∃v,cs=[.int .i64 f.vars,v]∧bW ρ v f.clauses,fun⟨_,h,_⟩=>by rw[h];rfl,fun hl ⟨v,h1,h2⟩=>⟨v,h1,h2.mono hl⟩⟩
open Go.ChangeShapes Go.WideShapes Go.ChangeAt Go.RowKit
theorem reads_i:Reads Try.prog 3 Int I64:=reads_int Try.underlying3 (by kernel_rfl)
theorem reads_ints:Reads Try.prog 25 (List Int) (LW I64):=⟨by kernel_rfl,by decide,fun h=>by
 obtain⟨l,v,rfl,h1,h2⟩:=reads_slice reads_i Try.underlying25 h
 exact⟨l,⟨v,rfl,h1⟩,h2⟩⟩
set_option maxRecDepth 100000 in
theorem reads_formula:Reads Try.prog 24 Formula FWf:=⟨by kernel_rfl,by decide,fun{H enc w base spare held fuel cs x} h=>by
 obtain⟨xs,n,_,_,hl,hx,hf⟩:=DataW.trod_struct Try.underlying24 h
 have hl2:cs.length=2:=hl.trans (by kernel_rfl)
 have hx2:xs.length=2:=hx
 have ki:Try.prog.cellsOf 3=1:=by kernel_rfl
 have kl:Try.prog.cellsOf 22=1:=by kernel_rfl
 match cs,hl2,xs,hx2 with
 | [c0,c1],_,[y0,y1],_=>
  have z0:=hf 0 _ rfl
  have z1:=hf 1 _ rfl
  simp[ki] at z0
  simp[kl] at z1
  obtain⟨n0,e0,_,w0⟩:=DataW.trod_int Try.underlying3 z0
  obtain⟨l,v,e1,h1,h2⟩:=reads_slice reads_ints Try.underlying22 z1
  simp only[List.cons.injEq,and_true] at e0 e1
  subst e0 e1
  exact⟨⟨n0,l⟩,⟨_,rfl,h1⟩,I64.of w0,h2⟩⟩
theorem own_:ownKnob Try.prog.godebug=none:=by kernel_rfl
theorem laidOut_:laidOutB Try.prog=true:=by kernel_rfl
open Go.RowKit Go.Sort
section
variable {Z:World} {ρ:PH} {L:List bZ} {w:World}
theorem flat_int (l:List Int):flat l=l.map (Value.int .i64):=by
 induction l with
 |nil=>rfl
 |cons x l ih=>rw[qO,ih];rfl
end
def vr (l:Int):Int:=max l (0-l)
def ltN (x y:Int):Bool:=decide (vr x<vr y∨vr x=vr y∧x<y)
def litOk (l:List Int):Bool:=l.all fun x=>decide (-4611686018427387904≤x∧x≤4611686018427387904)
def aA3 (l:List Int):Option (List Int):=if l.length<17592186044417∧litOk l=true then some (l.mergeSort fun x y=> !ltN y x) else none
def wH (l:List Int):Option (List Int):=if l.length<17592186044417 then some (Lib.compact l) else none
end Go.Proofs.Ytpkhmndpeipfmaa
