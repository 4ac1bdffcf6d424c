/- An arena of rows, and tables whose elements name its rows; a table of which one row is looked at while others grow. Plain theorems over any program. -/
import Derived.Test.YtopnldfjcciieaaGreatKFoT
import Derived.Test.YtopnldfjcciieaaGreatKFo4
import Derived.Test.YtopnldfjcciieaaGreatProg
import Derived.Test.YtopnldfjcciieaaGreatKFo3
set_option linter.unusedVariables false
set_option linter.unusedSimpArgs false
set_option maxRecDepth 100000
set_option maxHeartbeats 4000000
namespace Go.Proofs.YtopnldfjcciieaaGreat
open Go.RowKit
def hd (au:List Sl) (i:Nat):Sl:=au.getD i Sl.nil
def wmap (au:List Sl) (ids:List (List Nat)):List (List Sl):=ids.map fun r=>r.map (hd au)
theorem hd_get {au:List Sl} {i:Nat} {u:Sl} (h:au[i]?=some u):hd au i=u:=by unfold hd;rw[List.getD_eq_getElem?_getD,h];rfl
theorem idx_map' {α β:Type} {f:α→β} {l:List α} {i:Int} {a:α} (h:idx l i=some a):idx (l.map f) i=some (f a):=by
 obtain⟨h0,_,h1⟩:=pG h
 unfold idx;rw[if_pos h0,List.getElem?_map,h1];rfl
theorem wmap_idx {au:List Sl} {ids:List (List Nat)} {i:Int} {r:List Nat} (h:idx ids i=some r):idx (wmap au ids) i=some (r.map (hd au)):=idx_map' h
theorem wmap_len {au:List Sl} {ids:List (List Nat)}:(wmap au ids).length=ids.length:=by unfold wmap;rw[List.length_map]
theorem wmap_nils {au:List Sl} (n:Nat):wmap au (List.replicate n [])=List.replicate n []:=by unfold wmap;simp
section
variable {Z:World} {ρ:PH} {L:List bK} {w:World} {α:Type} [Enc α] {Ti:TypeId} {au:List Sl} {l:List (List α)}
theorem Hp.arLen (hp:Hp Z ρ (gY Ti au l::L) w):au.length=l.length:=gY.len hp.sep
def ArX (Ti:TypeId) (au:List Sl) (l:List (List α)) (i:Nat):bK:=gY Ti (au.eraseIdx i) (l.eraseIdx i)
theorem Hp.arTake {i:Nat} {c:List α} (hi:l[i]?=some c) (hp:Hp Z ρ (gY Ti au l::L) w):Hp Z ρ (aC Ti (hd au i).v c::ArX Ti au l i::L) w:=by
 have hl:=hp.arLen
 obtain⟨h1,_⟩:=List.getElem?_eq_some_iff.1 hi
 have hu:au[i]?=some au[i]:=List.getElem?_eq_getElem (by omega)
 rw[hd_get hu]
 exact hp.to (gY.take i hu hi).1
theorem Hp.arBack {i:Nat} {c c':List α} (hi:l[i]?=some c) (hl:au.length=l.length) (hp:Hp Z ρ (aC Ti (hd au i).v c'::ArX Ti au l i::L) w):Hp Z ρ (gY Ti au (l.set i c')::L) w:=by
 obtain⟨h1,_⟩:=List.getElem?_eq_some_iff.1 hi
 have hu:au[i]?=some au[i]:=List.getElem?_eq_getElem (by omega)
 rw[hd_get hu] at hp
 refine hp.to fun s=>(gY.take (us:=au) (l:=l.set i c') (r:=c') i hu (by rw[List.getElem?_set_self h1])).2 ?_
 rw[List.eraseIdx_set_eq];exact s
end
def TblZ {α:Type} [Enc α] (T Ti:TypeId) (v:Value) (us:List Sl) (l:List (List α)) (i:Int):bK:=star (aC T v us) (gY Ti (us.set i.toNat Sl.nil) (l.set i.toNat []))
section
variable {Rn:Option Nat} {P:Program} {ops:Array Oper} {Q:Exit→Act→World→Prop} {rest:List Oper} {o:Oper} {a:Act} {w:World} {Df:List Deferred} {N:Nat} {E:Ent} {d:Nat} {Z:World} {ρ:PH} {L:List bK}
variable {α:Type} [Enc α] {T Ti To Tr:TypeId} {v:Value} {us:List Sl} {l:List (List α)} {bytes:Nat}
theorem cO.lendRow (hp:Hp Z ρ L w) (k:Nat) (hk:L[k]?=some (cO T Ti v us l)) {i:Int} {u:Sl} {r:List α} (hu:idx us i=some u) (hi:idx l i=some r):
  Hp Z ρ (aC Ti u.v r::TblZ T Ti v us l i::L.eraseIdx k) w:=by
 obtain⟨_,hui,hus⟩:=pG hu
 obtain⟨_,hli,hls⟩:=pG hi
 refine(cO.focus hp k hk hu hi).to fun s=>Sep.cons_mono (fun ρ h s=>Sep.two.2 (Sep.swap ?_)) s
 refine(gY.take (us:=us.set i.toNat Sl.nil) (l:=l.set i.toNat []) (u:=Sl.nil) (r:=([]:List α)) i.toNat (by rw[List.getElem?_set_self (by omega)]) (by rw[List.getElem?_set_self (by omega)])).2 ?_
 rw[List.eraseIdx_set_eq,List.eraseIdx_set_eq]
 refine⟨PH.emp,aC.nil Ti,PH.dj_emp ρ,?_⟩
 have e:ρ.un PH.emp=ρ:=by funext b;unfold PH.un PH.emp;cases ρ b<;>rfl
 rw[e];exact s
theorem TblZ.lens {i:Int} (hp:Hp Z ρ (TblZ T Ti v us l i::L) w):us.length=l.length:=by
 have:=gY.len (Sep.swap (hp.to Sep.two.1).sep)
 simpa using this
theorem TblZ.hdr {i:Int} (hp:Hp Z ρ L w) (k:Nat) (hk:L[k]?=some (TblZ T Ti v us l i)) (ht:SlTy P To T 1 bytes) {j:Int} {r:List α} (hi:idx l j=some r):
  ∃(u:Sl) (g off:Nat),idx us j=some u∧(∀w,(Instr.indexAt To v (Iv j)).run P w= .ok (Pv g off) w)∧(∃of0 cap,v= .slice (some ⟨g,of0,none⟩) us.length cap∧off=of0+j.toNat*1)∧
   ∀(q:Nat) (x:Value),[u.v][q]?=some x→∀ρ' L' w,Hp Z ρ' (TblZ T Ti v us l i::L') w→w.cell? ⟨g,off+q,none⟩=some x:=by
 have h:=(hp.get k hk)
 obtain⟨i0,i1,i2⟩:=pG hi
 have hl:=TblZ.lens h
 have hu:idx us j=some us[j.toNat]:=by unfold idx;rw[if_pos i0];exact List.getElem?_eq_getElem (by omega)
 obtain⟨g,off,e1,e2,e3⟩:=aC.at (h.to Sep.two.1) 0 rfl ht hu
 exact⟨_,g,off,hu,e1,e2,fun q x hx ρ' L' w hw=>e3 q x hx _ _ w (hw.to Sep.two.1)⟩
def WTb (T Ti Tc:TypeId) (v:Value) (ua:List Sl×List Sl) (W:List (List Nat)×List (List Int)):bK:=star (cO T Ti v ua.1 (wmap ua.2 W.1)) (gY Tc ua.2 W.2)
variable {Tc:TypeId} {ua:List Sl×List Sl} {W:List (List Nat)×List (List Int)}
theorem WTb.opn (h:Hp Z ρ (WTb T Ti Tc v ua W::L) w):Hp Z ρ (cO T Ti v ua.1 (wmap ua.2 W.1)::gY Tc ua.2 W.2::L) w:=h.to Sep.two.1
theorem WTb.shut (h:Hp Z ρ (cO T Ti v ua.1 (wmap ua.2 W.1)::gY Tc ua.2 W.2::L) w):Hp Z ρ (WTb T Ti Tc v ua W::L) w:=h.to Sep.two.2
theorem WTb.slice (hp:Hp Z ρ L w) (k:Nat) (hk:L[k]?=some (WTb T Ti Tc v ua W)):∃s:Sl,s.v=v:=cO.slice (WTb.opn (hp.get k hk)) 0 rfl
theorem WTb.cells (hp:Hp Z ρ L w) (k:Nat) (hk:L[k]?=some (WTb T Ti Tc v ua W)):v.cells= #[v]:=by obtain⟨s,rfl⟩:=WTb.slice hp k hk;exact s.cells
theorem WTb.one (hp:Hp Z ρ L w) (k:Nat) (hk:L[k]?=some (WTb T Ti Tc v ua W)):v.oneCell'=true:=by obtain⟨s,rfl⟩:=WTb.slice hp k hk;exact s.one
theorem WTb.len (hp:Hp Z ρ L w) (k:Nat) (hk:L[k]?=some (WTb T Ti Tc v ua W)) (ht:SlTy P To T 1 bytes) (w:World) (ty:TypeId):(Builtin.len_ #[To] ty #[v]).run P w= .ok (Iv W.1.length) w:=by
 rw[←wmap_len (au:=ua.2)]
 exact cO.len (WTb.opn (hp.get k hk)) 0 rfl ht w ty
theorem WTb.start (Tc:TypeId) {n:Nat} {us:List Sl} (hp:Hp Z ρ (cO T Ti v us (List.replicate n ([]:List Sl))::L) w):Hp Z ρ (WTb T Ti Tc v (us,[]) (List.replicate n [],[])::L) w:=by
 refine WTb.shut ?_
 rw[wmap_nils]
 exact hp.to fun s=>Sep.cons_mono (fun ρ h s=>Sep.emp1.2 s) s
def TblL (T Ti:TypeId) (v:Value) (us:List Sl) (l:List (List Sl)):Option Int→bK
 |none=>cO T Ti v us l
 |some i=>TblZ T Ti v us l i
def ArL (Tc:TypeId) (au:List Sl) (l:List (List Int)):Option (Nat×Value)→bK
 |none=>gY Tc au l
 |some h=>fun k=>ArX Tc au l h.1 k∧au.length=l.length∧h.1<l.length∧(hd au h.1).v=h.2
def D7 (T Ti Tc:TypeId) (v:Value) (ua:List Sl×List Sl) (W:List (List Nat)×List (List Int)) (li:Option Int) (ai:Option (Nat×Value)):bK:=
 star (TblL T Ti v ua.1 (wmap ua.2 W.1) li) (ArL Tc ua.2 W.2 ai)
theorem D7.of (h:Hp Z ρ (WTb T Ti Tc v ua W::L) w):Hp Z ρ (D7 T Ti Tc v ua W none none::L) w:=h
theorem D7.to (h:Hp Z ρ (D7 T Ti Tc v ua W none none::L) w):Hp Z ρ (WTb T Ti Tc v ua W::L) w:=h
theorem OwnH.len {au:List Sl} {r:List Nat} (hp:Hp Z ρ L w) (k:Nat) (hk:L[k]?=some (aC T v (r.map (hd au)))) (ht:SlTy P To T 1 bytes) (w:World) (ty:TypeId):(Builtin.len_ #[To] ty #[v]).run P w= .ok (Iv r.length) w:=by
 have:=aC.len hp k hk ht w ty
 rwa [List.length_map] at this
theorem OwnH.at {au:List Sl} {r:List Nat} {i:Int} {h:Nat} (hp:Hp Z ρ L w) (k:Nat) (hk:L[k]?=some (aC T v (r.map (hd au)))) (ht:SlTy P To T 1 bytes) (hi:idx r i=some h):
  ∃g off,(∀w,(Instr.indexAt To v (Iv i)).run P w= .ok (Pv g off) w)∧
   ∀(j:Nat) (x:Value),([(hd au h).v]:List Value)[j]?=some x→∀ρ' L' w,Hp Z ρ' (aC T v (r.map (hd au))::L') w→w.cell? ⟨g,off+j,none⟩=some x:=by
 obtain⟨g,off,e1,_,e3⟩:=aC.at hp k hk ht (idx_map' (f:=hd au) hi)
 exact⟨g,off,e1,e3⟩
theorem D7.slice {li:Option Int} {ai:Option (Nat×Value)} (hp:Hp Z ρ L w) (k:Nat) (hk:L[k]?=some (D7 T Ti Tc v ua W li ai)):∃s:Sl,s.v=v:=by
 cases li with
 |none=>exact cO.slice ((hp.get k hk).to Sep.two.1) 0 rfl
 |some i=>exact aC.toSl (((hp.get k hk).to Sep.two.1).to Sep.two.1) 0 rfl
theorem D7.cells {li:Option Int} {ai:Option (Nat×Value)} (hp:Hp Z ρ L w) (k:Nat) (hk:L[k]?=some (D7 T Ti Tc v ua W li ai)):v.cells= #[v]:=by obtain⟨s,rfl⟩:=D7.slice hp k hk;exact s.cells
theorem D7.one {li:Option Int} {ai:Option (Nat×Value)} (hp:Hp Z ρ L w) (k:Nat) (hk:L[k]?=some (D7 T Ti Tc v ua W li ai)):v.oneCell'=true:=by obtain⟨s,rfl⟩:=D7.slice hp k hk;exact s.one
theorem D7.lend {ai:Option (Nat×Value)} {i:Int} {u:Sl} {r:List Nat} (hu:idx ua.1 i=some u) (hi:idx W.1 i=some r) (hp:Hp Z ρ (D7 T Ti Tc v ua W none ai::L) w):
  Hp Z ρ (aC Ti u.v (r.map (hd ua.2))::D7 T Ti Tc v ua W (some i) ai::L) w:=by
 have h2:=cO.lendRow (hp.to Sep.two.1) 0 rfl hu (wmap_idx hi)
 exact h2.to fun s=>Sep.cons_mono (fun ρ h s=>Sep.two.2 s) s
theorem D7.take {li:Option Int} {i:Nat} {c:List Int} (hi:W.2[i]?=some c) (hp:Hp Z ρ (D7 T Ti Tc v ua W li none::L) w):∃vc,(hd ua.2 i).v=vc∧Hp Z ρ (aC Tc vc c::D7 T Ti Tc v ua W li (some (i,vc))::L) w:=by
 have h1:Hp Z ρ (gY Tc ua.2 W.2::TblL T Ti v ua.1 (wmap ua.2 W.1) li::L) w:=hp.to fun s=>Sep.swap (Sep.two.1 s)
 have hl:=h1.arLen
 have hlt:=(List.getElem?_eq_some_iff.1 hi).1
 exact⟨_,rfl,(Hp.arTake hi h1).to fun s=>Sep.cons_mono (fun ρ h s=>Sep.two.2 (Sep.swap (s.imp fun _ a=>⟨a,hl,hlt,rfl⟩))) s⟩
theorem D7.back {li:Option Int} {i:Nat} {vc:Value} {c':List Int} (hp:Hp Z ρ (aC Tc vc c'::D7 T Ti Tc v ua W li (some (i,vc))::L) w):Hp Z ρ (D7 T Ti Tc v ua (W.1,W.2.set i c') li none::L) w:=by
 have h1:Hp Z ρ ((fun k=>ArX Tc ua.2 W.2 i k∧ua.2.length=W.2.length∧i<W.2.length∧(hd ua.2 i).v=vc)::aC Tc vc c'::TblL T Ti v ua.1 (wmap ua.2 W.1) li::L) w:=
  hp.to fun s=>Sep.swap (Sep.cons_mono (fun ρ h s=>Sep.swap (Sep.two.1 s)) s)
 obtain⟨_,hl,hlt,hv⟩:=Hp.fact (A:=ArX Tc ua.2 W.2 i) h1
 subst hv
 have h2:Hp Z ρ (aC Tc (hd ua.2 i).v c'::ArX Tc ua.2 W.2 i::TblL T Ti v ua.1 (wmap ua.2 W.1) li::L) w:=(h1.imp fun _ a=>a.1).to fun s=>s.swap
 exact(Hp.arBack (List.getElem?_eq_getElem hlt) hl h2).to fun s=>Sep.two.2 s.swap
theorem D7.lens {li:Option Int} {ai:Option (Nat×Value)} (hp:Hp Z ρ (D7 T Ti Tc v ua W li ai::L) w):ua.1.length=W.1.length:=by
 rw[←wmap_len (au:=ua.2)]
 cases li with
 |none=>exact cO.lens (hp.to Sep.two.1)
 |some i=>exact TblZ.lens (hp.to Sep.two.1)
theorem D7.hdr {li:Option Int} {ai:Option (Nat×Value)} {j:Int} (hp:Hp Z ρ (D7 T Ti Tc v ua W li ai::L) w) (ht:SlTy P To T 1 bytes) {r:List Nat} (hi:idx W.1 j=some r):
  ∃(u:Sl) (g off:Nat),idx ua.1 j=some u∧(∀w,(Instr.indexAt To v (Iv j)).run P w= .ok (Pv g off) w)∧(∃of0 cap,v= .slice (some ⟨g,of0,none⟩) ua.1.length cap∧off=of0+j.toNat*1)∧
   ∀(q:Nat) (x:Value),[u.v][q]?=some x→∀ρ' L' w,Hp Z ρ' (D7 T Ti Tc v ua W li ai::L') w→w.cell? ⟨g,off+q,none⟩=some x:=by
 cases li with
 |none=>
  obtain⟨u,g,off,e1,e2,e3,e4⟩:=cO.hdr (hp.to Sep.two.1) 0 rfl ht (wmap_idx hi)
  exact⟨u,g,off,e1,e2,e3,fun q x hx ρ' L' w hw=>e4 q x hx ρ' _ w (hw.to Sep.two.1)⟩
 |some i=>
  obtain⟨u,g,off,e1,e2,e3,e4⟩:=TblZ.hdr (hp.to Sep.two.1) 0 rfl ht (wmap_idx hi)
  exact⟨u,g,off,e1,e2,e3,fun q x hx ρ' L' w hw=>e4 q x hx ρ' _ w (hw.to Sep.two.1)⟩
end
section
variable {P:Program} {Z:World} {ρ:PH} {L:List bK} {w:World} {α:Type} [Enc α] {T El:TypeId} {bytes:Nat} {v v':Value} {l r:List α}
def ViewF (El:TypeId) (v:Value) (l:List α) (v':Value) (r:List α):Prop:=∀ρ k,PH.dj ρ k→aC El v l k→aH (ρ.un k) v' r
theorem aC.viewF (hp:Hp Z ρ L w) (k:Nat) (hk:L[k]?=some (aC El v l)) (ht:SlTy P T El (Enc.sz α) bytes) (lo hi:Option (IntKind×Int)) {i j:Int} (hlo:i=match lo with|none=>0|some p=>p.2) (hhi:j=match hi with|none=>(l.length:Int)|some p=>p.2) (hr:sub l i j=some r):
  ∃v',(∀w,(Instr.sliceAt T v (lo.map fun p=> .int p.1 p.2) (hi.map fun p=> .int p.1 p.2) none).run P w= .ok v' w)∧ViewF El v l v' r:=by
 obtain⟨κ,ha,hd,_⟩:=(hp.get k hk).lend
 obtain⟨v',h,_⟩:=aH.part (aC.ro hd ha) ht lo hi hlo hhi hr
 refine⟨v',h,fun ρ' κ' hd' ha'=>?_⟩
 obtain⟨v2,h2,h3⟩:=aH.part (aC.ro hd' ha') ht lo hi hlo hhi hr
 exact sl_det w h2 h h3
theorem ViewF.len {sz:Nat} (h:ViewF El v l v' r) (hp:Hp Z ρ L w) (k:Nat) (hk:L[k]?=some (aC El v l)) (ht:SlTy P T El sz bytes) (w:World) (ty:TypeId):(Builtin.len_ #[T] ty #[v']).run P w= .ok (Iv r.length) w:=by
 obtain⟨κ,ha,hd,_⟩:=(hp.get k hk).lend
 exact(h _ _ hd ha).len ht w ty
theorem ViewF.at (h:ViewF El v l v' r) (hp:Hp Z ρ L w) (k:Nat) (hk:L[k]?=some (aC El v l)) (ht:SlTy P T El (Enc.sz α) bytes) {i:Int} {e:α} (hi:idx r i=some e):
  ∃g off,(∀w,(Instr.indexAt T v' (Iv i)).run P w= .ok (Pv g off) w)∧
   ∀(j:Nat) (u:Value),(Enc.enc e)[j]?=some u→∀ρ' L' w,Hp Z ρ' (aC El v l::L') w→w.cell? ⟨g,off+j,none⟩=some u:=by
 obtain⟨κ,ha,hd,hh⟩:=(hp.get k hk).lend
 obtain⟨b,o,cs,e1,_,_⟩:=(h _ _ hd ha).at ht hi
 refine⟨b,o,e1,fun j u hj ρ' L' w' hw'=>?_⟩
 obtain⟨κ',ha',hd',hh'⟩:=hw'.lend
 obtain⟨b',o',cs',e1',e2',hat⟩:=(h _ _ hd' ha').at ht hi
 have e3:=(e1 w).symm.trans (e1' w)
 simp only[Result.ok.injEq,Value.pointer.injEq,Option.some.injEq,Addr.mk.injEq,and_true] at e3
 obtain⟨rfl,rfl⟩:=e3
 have e2'':cs'=Enc.enc e:=e2'
 subst e2''
 exact cell_of hh'.le (hat j u hj)
end
theorem sU:mY Tryz.prog 24 4 4:=fun b o w=>by simp[Instr.fieldAt,go_sem]
theorem iT:VarTy Tryz.prog 22 false 1:=⟨fun w=>by simp[isAgg,go_sem],fun w=>by simp[sizeOf,go_sem]<;>rfl⟩
theorem jI:SlTy Tryz.prog 22 24 5 64:=SlTy.of (z:= .agg #[.int .i64 0,.string ByteArray.empty,.int .i64 0,.int .i64 0,.slice none 0 0]) (by kernel_rfl) (by kernel_rfl) rfl
theorem bY:VarTy Tryz.prog 24 true 5:=⟨fun w=>by simp[isAgg,go_sem],fun w=>by simp[sizeOf,go_sem]<;>rfl⟩
theorem yD:mY Tryz.prog 24 0 0:=fun b o w=>by simp[Instr.fieldAt,go_sem]
theorem aT:VarTy Tryz.prog 3 false 1:=⟨fun w=>by simp[isAgg,go_sem],fun w=>by simp[sizeOf,go_sem]<;>rfl⟩
theorem wV:mY Tryz.prog 24 1 1:=fun b o w=>by simp[Instr.fieldAt,go_sem]
theorem xR:VarTy Tryz.prog 9 false 1:=⟨fun w=>by simp[isAgg,go_sem],fun w=>by simp[sizeOf,go_sem]<;>rfl⟩
theorem ent82:∀args w,(callFunc 82 args).run Tryz.prog w= .ok (.enter 82 args) w:=enters Tryz.func82 (by kernel_rfl) rfl
theorem ent55:∀args w,(callFunc 55 args).run Tryz.prog w= .ok (.enter 55 args) w:=enters Tryz.func55 (by kernel_rfl) rfl
theorem sty9:Tryz.prog.underlying 9=some .string:=by kernel_rfl
theorem ent58:∀args w,(callFunc 58 args).run Tryz.prog w= .ok (.enter 58 args) w:=enters Tryz.func58 (by kernel_rfl) rfl
theorem aY:VarTy Tryz.prog 73 false 1:=⟨fun w=>by simp[isAgg,go_sem],fun w=>by simp[sizeOf,go_sem]<;>rfl⟩
theorem bI:SlTy Tryz.prog 73 3 1 8:=SlTy.of (z:= .int .i64 0) (by kernel_rfl) (by kernel_rfl) rfl
theorem jD:SlTy Tryz.prog 83 73 1 24:=SlTy.of (z:= .slice none 0 0) (by kernel_rfl) (by kernel_rfl) rfl
theorem ent64:∀args w,(callFunc 64 args).run Tryz.prog w= .ok (.enter 64 args) w:=enters Tryz.func64 (by kernel_rfl) rfl
theorem ent89:∀args w,(callFunc 89 args).run Tryz.prog w= .ok (.enter 89 args) w:=enters Tryz.func89 (by kernel_rfl) rfl
theorem ent103:∀args w,(callFunc 103 args).run Tryz.prog w= .ok (.enter 103 args) w:=enters Tryz.func103 (by kernel_rfl) rfl
theorem ent88:∀args w,(callFunc 88 args).run Tryz.prog w= .ok (.enter 88 args) w:=enters Tryz.func88 (by kernel_rfl) rfl
theorem jB:mY Tryz.prog 135 0 0:=fun b o w=>by simp[Instr.fieldAt,go_sem]
theorem kH:VarTy Tryz.prog 133 false 1:=⟨fun w=>by simp[isAgg,go_sem],fun w=>by simp[sizeOf,go_sem]<;>rfl⟩
theorem rD:SlTy Tryz.prog 133 156 2 24:=SlTy.of (z:= .agg #[.int .i64 0,.string ByteArray.empty]) (by kernel_rfl) (by kernel_rfl) rfl
theorem varty154:VarTy Tryz.prog 154 false 1:=⟨fun w=>by simp[isAgg,go_sem],fun w=>by simp[sizeOf,go_sem]<;>rfl⟩
theorem ent104:∀args w,(callFunc 104 args).run Tryz.prog w= .ok (.enter 104 args) w:=enters Tryz.func104 (by kernel_rfl) rfl
theorem iE:mY Tryz.prog 135 1 1:=fun b o w=>by simp[Instr.fieldAt,go_sem]
theorem jP:mY Tryz.prog 135 2 2:=fun b o w=>by simp[Instr.fieldAt,go_sem]
theorem iF:VarTy Tryz.prog 135 true 3:=⟨fun w=>by simp[isAgg,go_sem],fun w=>by simp[sizeOf,go_sem]<;>rfl⟩
theorem kt3:KT Tryz.prog 3 Int:=kt_int (by kernel_rfl)
theorem mapty157:Tryz.prog.underlying 157=some (.map 3 3):=by kernel_rfl
theorem ent107:∀args w,(callFunc 107 args).run Tryz.prog w= .ok (.enter 107 args) w:=enters Tryz.func107 (by kernel_rfl) rfl
theorem ent106:∀args w,(callFunc 106 args).run Tryz.prog w= .ok (.enter 106 args) w:=enters Tryz.func106 (by kernel_rfl) rfl
theorem ent91:∀args w,(callFunc 91 args).run Tryz.prog w= .ok (.enter 91 args) w:=enters Tryz.func91 (by kernel_rfl) rfl
theorem varty83:VarTy Tryz.prog 83 false 1:=⟨fun w=>by simp[isAgg,go_sem],fun w=>by simp[sizeOf,go_sem]<;>rfl⟩
theorem varty156:VarTy Tryz.prog 156 true 2:=⟨fun w=>by simp[isAgg,go_sem],fun w=>by simp[sizeOf,go_sem]<;>rfl⟩
theorem eqst156 (a0:Int) (a1:ByteArray) (b0:Int) (b1:ByteArray):EqSt Tryz.prog 156 [.int .i64 a0,.string a1] [.int .i64 b0,.string b1] ((decide (a0=b0))&&(decide (a1=b1))):=eqst_of (by kernel_rfl) (by kernel_rfl) (by kernel_rfl) fun w=>by
 simp only[Program.fieldsOf,Tryz.underlying156]
 go_simp
 by_cases h0:a0=b0<;>by_cases h1:a1=b1<;>simp[*,ba_inj]
theorem I9:∀args w,(callFunc 90 args).run Tryz.prog w= .ok (.enter 90 args) w:=enters Tryz.func90 (by kernel_rfl) rfl
theorem ent92:∀args w,(callFunc 92 args).run Tryz.prog w= .ok (.enter 92 args) w:=enters Tryz.func92 (by kernel_rfl) rfl
theorem ent93:∀args w,(callFunc 93 args).run Tryz.prog w= .ok (.enter 93 args) w:=enters Tryz.func93 (by kernel_rfl) rfl
theorem ent105:∀args w,(callFunc 105 args).run Tryz.prog w= .ok (.enter 105 args) w:=enters Tryz.func105 (by kernel_rfl) rfl
theorem ent67:∀args w,(callFunc 67 args).run Tryz.prog w= .ok (.enter 67 args) w:=enters Tryz.func67 (by kernel_rfl) rfl
theorem ent68:∀args w,(callFunc 68 args).run Tryz.prog w= .ok (.enter 68 args) w:=enters Tryz.func68 (by kernel_rfl) rfl
theorem iQ:SlTy Tryz.prog 66 70 4 40:=SlTy.of (z:= .agg #[.int .i64 0,.string ByteArray.empty,.int .i64 0,.int .i64 0]) (by kernel_rfl) (by kernel_rfl) rfl
theorem ent62:∀args w,(callFunc 62 args).run Tryz.prog w= .ok (.enter 62 args) w:=enters Tryz.func62 (by kernel_rfl) rfl
theorem aA6:mY Tryz.prog 70 2 2:=fun b o w=>by simp[Instr.fieldAt,go_sem]
theorem ent37:∀args w,(callFunc 37 args).run Tryz.prog w= .ok (.enter 37 args) w:=enters Tryz.func37 (by kernel_rfl) rfl
theorem dW:SlTy Tryz.prog 25 46 2 16:=SlTy.of (z:= .agg #[.int .i64 0,.int .i64 0]) (by kernel_rfl) (by kernel_rfl) rfl
theorem rH:SlTy Tryz.prog 68 4 1 1:=SlTy.of (z:= .bool false) (by kernel_rfl) (by kernel_rfl) rfl
theorem fF:VarTy Tryz.prog 46 true 2:=⟨fun w=>by simp[isAgg,go_sem],fun w=>by simp[sizeOf,go_sem]<;>rfl⟩
theorem fA:mY Tryz.prog 46 0 0:=fun b o w=>by simp[Instr.fieldAt,go_sem]
theorem dK:mY Tryz.prog 46 1 1:=fun b o w=>by simp[Instr.fieldAt,go_sem]
theorem vH:VarTy Tryz.prog 4 false 1:=⟨fun w=>by simp[isAgg,go_sem],fun w=>by simp[sizeOf,go_sem]<;>rfl⟩
theorem bty4:Tryz.prog.underlying 4=some .bool:=by kernel_rfl
theorem J9:mY Tryz.prog 70 0 0:=fun b o w=>by simp[Instr.fieldAt,go_sem]
theorem L6:mY Tryz.prog 70 1 1:=fun b o w=>by simp[Instr.fieldAt,go_sem]
theorem uQ:SlTy Tryz.prog 34 58 6 56:=SlTy.of (z:= .agg #[.int .i64 0,.int .i64 0,.int .i64 0,.int .i64 0,.int .i64 0,.string ByteArray.empty]) (by kernel_rfl) (by kernel_rfl) rfl
theorem xA:VarTy Tryz.prog 58 true 6:=⟨fun w=>by simp[isAgg,go_sem],fun w=>by simp[sizeOf,go_sem]<;>rfl⟩
theorem eqst58 (a0:Int) (a1:Int) (a2:Int) (a3:Int) (a4:Int) (a5:ByteArray) (b0:Int) (b1:Int) (b2:Int) (b3:Int) (b4:Int) (b5:ByteArray):EqSt Tryz.prog 58 [.int .i64 a0,.int .i64 a1,.int .i64 a2,.int .i64 a3,.int .i64 a4,.string a5] [.int .i64 b0,.int .i64 b1,.int .i64 b2,.int .i64 b3,.int .i64 b4,.string b5] ((decide (a0=b0))&&(decide (a1=b1))&&(decide (a2=b2))&&(decide (a3=b3))&&(decide (a4=b4))&&(decide (a5=b5))):=eqst_of (by kernel_rfl) (by kernel_rfl) (by kernel_rfl) fun w=>by
 simp only[Program.fieldsOf,Tryz.underlying58]
 go_simp
 by_cases h0:a0=b0<;>by_cases h1:a1=b1<;>by_cases h2:a2=b2<;>by_cases h3:a3=b3<;>by_cases h4:a4=b4<;>by_cases h5:a5=b5<;>simp[*,ba_inj]
theorem zM:mY Tryz.prog 70 3 3:=fun b o w=>by simp[Instr.fieldAt,go_sem]
theorem ent47:∀args w,(callFunc 47 args).run Tryz.prog w= .ok (.enter 47 args) w:=enters Tryz.func47 (by kernel_rfl) rfl
theorem aA4:mY Tryz.prog 58 2 2:=fun b o w=>by simp[Instr.fieldAt,go_sem]
theorem aA5:mY Tryz.prog 58 3 3:=fun b o w=>by simp[Instr.fieldAt,go_sem]
theorem aA3:mY Tryz.prog 58 1 1:=fun b o w=>by simp[Instr.fieldAt,go_sem]
theorem fldty58_0:mY Tryz.prog 58 0 0:=fun b o w=>by simp[Instr.fieldAt,go_sem]
theorem uY:mY Tryz.prog 75 1 1:=fun b o w=>by simp[Instr.fieldAt,go_sem]
theorem kK:mY Tryz.prog 75 0 0:=fun b o w=>by simp[Instr.fieldAt,go_sem]
theorem pO:mY Tryz.prog 75 2 2:=fun b o w=>by simp[Instr.fieldAt,go_sem]
theorem varty110:VarTy Tryz.prog 110 false 1:=⟨fun w=>by simp[isAgg,go_sem],fun w=>by simp[sizeOf,go_sem]<;>rfl⟩
theorem ent63:∀args w,(callFunc 63 args).run Tryz.prog w= .ok (.enter 63 args) w:=enters Tryz.func63 (by kernel_rfl) rfl
theorem dD:VarTy Tryz.prog 75 true 3:=⟨fun w=>by simp[isAgg,go_sem],fun w=>by simp[sizeOf,go_sem]<;>rfl⟩
theorem varty115:VarTy Tryz.prog 115 false 1:=⟨fun w=>by simp[isAgg,go_sem],fun w=>by simp[sizeOf,go_sem]<;>rfl⟩
theorem ent69:∀args w,(callFunc 69 args).run Tryz.prog w= .ok (.enter 69 args) w:=enters Tryz.func69 (by kernel_rfl) rfl
theorem ent39:∀args w,(callFunc 39 args).run Tryz.prog w= .ok (.enter 39 args) w:=enters Tryz.func39 (by kernel_rfl) rfl
theorem ent38:∀args w,(callFunc 38 args).run Tryz.prog w= .ok (.enter 38 args) w:=enters Tryz.func38 (by kernel_rfl) rfl
theorem fldty88_0:mY Tryz.prog 88 0 0:=fun b o w=>by simp[Instr.fieldAt,go_sem]
theorem L8:mY Tryz.prog 88 2 6:=fun b o w=>by simp[Instr.fieldAt,go_sem]
theorem fldty88_1:mY Tryz.prog 88 1 3:=fun b o w=>by simp[Instr.fieldAt,go_sem]
theorem L9:mY Tryz.prog 88 4 8:=fun b o w=>by simp[Instr.fieldAt,go_sem]
theorem ent41:∀args w,(callFunc 41 args).run Tryz.prog w= .ok (.enter 41 args) w:=enters Tryz.func41 (by kernel_rfl) rfl
theorem zN:mY Tryz.prog 88 3 7:=fun b o w=>by simp[Instr.fieldAt,go_sem]
theorem zO:mY Tryz.prog 88 5 9:=fun b o w=>by simp[Instr.fieldAt,go_sem]
theorem ent72:∀args w,(callFunc 72 args).run Tryz.prog w= .ok (.enter 72 args) w:=enters Tryz.func72 (by kernel_rfl) rfl
theorem fldty88_6:mY Tryz.prog 88 6 10:=fun b o w=>by simp[Instr.fieldAt,go_sem]
theorem ent71:∀args w,(callFunc 71 args).run Tryz.prog w= .ok (.enter 71 args) w:=enters Tryz.func71 (by kernel_rfl) rfl
theorem aA7:mY Tryz.prog 88 7 11:=fun b o w=>by simp[Instr.fieldAt,go_sem]
theorem aA8:mY Tryz.prog 88 8 12:=fun b o w=>by simp[Instr.fieldAt,go_sem]
theorem ent51:∀args w,(callFunc 51 args).run Tryz.prog w= .ok (.enter 51 args) w:=enters Tryz.func51 (by kernel_rfl) rfl
theorem ent66:∀args w,(callFunc 66 args).run Tryz.prog w= .ok (.enter 66 args) w:=enters Tryz.func66 (by kernel_rfl) rfl
theorem jM:∀args w,(callFunc 40 args).run Tryz.prog w= .ok (.enter 40 args) w:=enters Tryz.func40 (by kernel_rfl) rfl
theorem ent45:∀args w,(callFunc 45 args).run Tryz.prog w= .ok (.enter 45 args) w:=enters Tryz.func45 (by kernel_rfl) rfl
theorem ent46:∀args w,(callFunc 46 args).run Tryz.prog w= .ok (.enter 46 args) w:=enters Tryz.func46 (by kernel_rfl) rfl
theorem ent17:∀args w,(callFunc 17 args).run Tryz.prog w= .ok (.enter 17 args) w:=enters Tryz.func17 (by kernel_rfl) rfl
theorem ent100:∀args w,(callFunc 100 args).run Tryz.prog w= .ok (.enter 100 args) w:=enters Tryz.func100 (by kernel_rfl) rfl
theorem ent85:∀args w,(callFunc 85 args).run Tryz.prog w= .ok (.enter 85 args) w:=enters Tryz.func85 (by kernel_rfl) rfl
theorem ent84:∀args w,(callFunc 84 args).run Tryz.prog w= .ok (.enter 84 args) w:=enters Tryz.func84 (by kernel_rfl) rfl
theorem ent123:∀args w,(callFunc 123 args).run Tryz.prog w= .ok (.enter 123 args) w:=enters Tryz.func123 (by kernel_rfl) rfl
theorem ent118:∀args w,(callFunc 118 args).run Tryz.prog w= .ok (.enter 118 args) w:=enters Tryz.func118 (by kernel_rfl) rfl
theorem ent113:∀args w,(callFunc 113 args).run Tryz.prog w= .ok (.enter 113 args) w:=enters Tryz.func113 (by kernel_rfl) rfl
theorem ent112:∀args w,(callFunc 112 args).run Tryz.prog w= .ok (.enter 112 args) w:=enters Tryz.func112 (by kernel_rfl) rfl
theorem ent99:∀args w,(callFunc 99 args).run Tryz.prog w= .ok (.enter 99 args) w:=enters Tryz.func99 (by kernel_rfl) rfl
theorem ent83:∀args w,(callFunc 83 args).run Tryz.prog w= .ok (.enter 83 args) w:=enters Tryz.func83 (by kernel_rfl) rfl
theorem ent56:∀args w,(callFunc 56 args).run Tryz.prog w= .ok (.enter 56 args) w:=enters Tryz.func56 (by kernel_rfl) rfl
theorem ent13:∀args w,(callFunc 13 args).run Tryz.prog w= .ok (.enter 13 args) w:=enters Tryz.func13 (by kernel_rfl) rfl
theorem mapty103:Tryz.prog.underlying 103=some (.map 3 4):=by kernel_rfl
theorem zero4:∀w,(zeroValue 4).run Tryz.prog w= .ok (.bool false) w:=fun w=>by simp[go_sem]<;>rfl
theorem slty111:SlTy Tryz.prog 111 34 1 24:=SlTy.of (z:= .slice none 0 0) (by kernel_rfl) (by kernel_rfl) rfl
theorem varty34:VarTy Tryz.prog 34 false 1:=⟨fun w=>by simp[isAgg,go_sem],fun w=>by simp[sizeOf,go_sem]<;>rfl⟩
theorem ent65:∀args w,(callFunc 65 args).run Tryz.prog w= .ok (.enter 65 args) w:=enters Tryz.func65 (by kernel_rfl) rfl
theorem ent42:∀args w,(callFunc 42 args).run Tryz.prog w= .ok (.enter 42 args) w:=enters Tryz.func42 (by kernel_rfl) rfl
theorem ent43:∀args w,(callFunc 43 args).run Tryz.prog w= .ok (.enter 43 args) w:=enters Tryz.func43 (by kernel_rfl) rfl
theorem ent44:∀args w,(callFunc 44 args).run Tryz.prog w= .ok (.enter 44 args) w:=enters Tryz.func44 (by kernel_rfl) rfl
theorem ent95:∀args w,(callFunc 95 args).run Tryz.prog w= .ok (.enter 95 args) w:=enters Tryz.func95 (by kernel_rfl) rfl
theorem ent70:∀args w,(callFunc 70 args).run Tryz.prog w= .ok (.enter 70 args) w:=enters Tryz.func70 (by kernel_rfl) rfl
theorem ent48:∀args w,(callFunc 48 args).run Tryz.prog w= .ok (.enter 48 args) w:=enters Tryz.func48 (by kernel_rfl) rfl
theorem ent49:∀args w,(callFunc 49 args).run Tryz.prog w= .ok (.enter 49 args) w:=enters Tryz.func49 (by kernel_rfl) rfl
theorem ent50:∀args w,(callFunc 50 args).run Tryz.prog w= .ok (.enter 50 args) w:=enters Tryz.func50 (by kernel_rfl) rfl
theorem ent31:∀args w,(callFunc 31 args).run Tryz.prog w= .ok (.enter 31 args) w:=enters Tryz.func31 (by kernel_rfl) rfl
theorem ent36:∀args w,(callFunc 36 args).run Tryz.prog w= .ok (.enter 36 args) w:=enters Tryz.func36 (by kernel_rfl) rfl
theorem ent35:∀args w,(callFunc 35 args).run Tryz.prog w= .ok (.enter 35 args) w:=enters Tryz.func35 (by kernel_rfl) rfl
theorem ent15:∀args w,(callFunc 15 args).run Tryz.prog w= .ok (.enter 15 args) w:=enters Tryz.func15 (by kernel_rfl) rfl
theorem ent16:∀args w,(callFunc 16 args).run Tryz.prog w= .ok (.enter 16 args) w:=enters Tryz.func16 (by kernel_rfl) rfl
theorem ent24:∀args w,(callFunc 24 args).run Tryz.prog w= .ok (.enter 24 args) w:=enters Tryz.func24 (by kernel_rfl) rfl
theorem ent21:∀args w,(callFunc 21 args).run Tryz.prog w= .ok (.enter 21 args) w:=enters Tryz.func21 (by kernel_rfl) rfl
theorem ent19:∀args w,(callFunc 19 args).run Tryz.prog w= .ok (.enter 19 args) w:=enters Tryz.func19 (by kernel_rfl) rfl
theorem ent25:∀args w,(callFunc 25 args).run Tryz.prog w= .ok (.enter 25 args) w:=enters Tryz.func25 (by kernel_rfl) rfl
theorem ent26:∀args w,(callFunc 26 args).run Tryz.prog w= .ok (.enter 26 args) w:=enters Tryz.func26 (by kernel_rfl) rfl
theorem ent29:∀args w,(callFunc 29 args).run Tryz.prog w= .ok (.enter 29 args) w:=enters Tryz.func29 (by kernel_rfl) rfl
theorem ent10:∀args w,(callFunc 10 args).run Tryz.prog w= .ok (.enter 10 args) w:=enters Tryz.func10 (by kernel_rfl) rfl
theorem ent11:∀args w,(callFunc 11 args).run Tryz.prog w= .ok (.enter 11 args) w:=enters Tryz.func11 (by kernel_rfl) rfl
theorem ent12:∀args w,(callFunc 12 args).run Tryz.prog w= .ok (.enter 12 args) w:=enters Tryz.func12 (by kernel_rfl) rfl
theorem ent14:∀args w,(callFunc 14 args).run Tryz.prog w= .ok (.enter 14 args) w:=enters Tryz.func14 (by kernel_rfl) rfl
theorem ent18:∀args w,(callFunc 18 args).run Tryz.prog w= .ok (.enter 18 args) w:=enters Tryz.func18 (by kernel_rfl) rfl
theorem ent20:∀args w,(callFunc 20 args).run Tryz.prog w= .ok (.enter 20 args) w:=enters Tryz.func20 (by kernel_rfl) rfl
theorem aD3 {Z:World} {ρ:PH} {L:List bK} {w:World} (p0:Node) (aI:Value) (bD:aH ρ aI p0.kids) (p1:Node) (aJ:Value) (bH:aH ρ aJ p1.kids) (hp:Hp Z ρ (L) w) (r:Bool) (hm:vF p0 p1=some r):
  Calls Tryz.prog 82 #[(.agg #[(Iv p0.kind),(.string p0.text),(Iv p0.at_),(Iv p0.fin),aI]),(.agg #[(Iv p1.kind),(.string p1.text),(Iv p1.at_),(Iv p1.fin),aJ])] w (Ret fun v w'=>v=(.bool r)∧Hp Z ρ (L) w'):=by
 refine enter (N:=17) Tryz.func82 rfl rfl [(0,(.agg #[(Iv p0.kind),(.string p0.text),(Iv p0.at_),(Iv p0.fin),aI])),(1,(.agg #[(Iv p1.kind),(.string p1.text),(Iv p1.at_),(Iv p1.fin),aJ]))] rfl (bC ⟨rfl,rfl,trivial⟩) fun a hE=>?_
 unfold vF at hm
 refine aG (aA ?_)
 refine iI (wk0 rfl) rfl rfl hE hp rfl (v:=(.agg #[(Iv p0.kind),(.string p0.text),(Iv p0.at_),(Iv p0.fin),aI])) rfl ?_
 intro a w b1 hE hp
 have hp:=r1 hp
 refine iI (wk0 rfl) rfl rfl hE hp rfl (v:=(.agg #[(Iv p1.kind),(.string p1.text),(Iv p1.at_),(Iv p1.fin),aJ])) rfl ?_
 intro a w b2 hE hp
 have hp:=r2 hp
 refine S hE 1 rfl fun a hE=>aB (aG ?_)
 refine aA (V hE hp rfl (xf hE yD rfl rfl) fun a hE=>?_)
 refine V hE hp rfl (xl hE aT 1 rfl rfl rfl rfl) fun a hE=>V hE hp rfl (xf hE yD rfl rfl) fun a hE=>V hE hp rfl (xl hE aT 0 rfl rfl rfl rfl) fun a hE=>S hE 2 rfl fun a hE=>?_
 refine iL [_,_,_,_,_,_] (fun a w=>Env 17 [(16,(.bool ((decide (p0.kind=p1.kind))&&(decide (p0.text=p1.text)))))] a∧Hp Z ρ (Pt b2 (.cells #[(Iv p1.kind),(.string p1.text),(Iv p1.at_),(Iv p1.fin),aJ] 24 (0,0))::Pt b1 (.cells #[(Iv p0.kind),(.string p0.text),(Iv p0.at_),(Iv p0.fin),aI] 24 (0,0))::L) w) ?_ ?_
 ·rcases Bool.eq_false_or_eq_true (decide (p0.kind=p1.kind)) with hc1|hc1
  ·
   refine G hE hp hc1 rfl (xf hE wV rfl rfl) fun a hE=>G hE hp hc1 rfl (xl hE xR 1 rfl rfl rfl rfl) fun a hE=>G hE hp hc1 rfl (xf hE wV rfl rfl) fun a hE=>G hE hp hc1 rfl (xl hE xR 0 rfl rfl rfl rfl) fun a hE=>G hE hp hc1 rfl (v:=(.bool (decide (p0.text=p1.text)))) (ex_seql rfl hE rfl rfl) fun a hE=>pk1 hE hc1 rfl rfl rfl rfl fun a hE=>?_
   have hE:=hE.eqv (v':=(.bool ((decide (p0.kind=p1.kind))&&(decide (p0.text=p1.text))))) (by rw[hc1];rfl)
   exact aB ⟨hE.cut ⟨rfl,trivial⟩,hp⟩
  refine Gk hE hc1 rfl fun a hE=>Gk hE hc1 rfl fun a hE=>Gk hE hc1 rfl fun a hE=>Gk hE hc1 rfl fun a hE=>Gk hE hc1 rfl fun a hE=>pk0 hE hc1 rfl rfl rfl rfl fun a hE=>?_
  have hE:=hE.eqv (v':=(.bool ((decide (p0.kind=p1.kind))&&(decide (p0.text=p1.text))))) (by rw[hc1];rfl)
  exact aB ⟨hE.cut ⟨rfl,trivial⟩,hp⟩
 rintro a w ⟨hE,hp⟩
 refine S hE 1 rfl fun a hE=>aB (bZ ?_)
 obtain rfl:=oj hm
 exact gJ hE rfl rfl ⟨_,rfl,rfl,(((hp.get 1 rfl).drop).drop)⟩
theorem X4 (self:Node→Node→Option Bool) (hself:∀{Z:World} {ρ:PH} {L:List bK} {w:World} (p0:Node) (aI:Value) (bD:aH ρ aI p0.kids) (p1:Node) (aJ:Value) (bH:aH ρ aJ p1.kids) (hp:Hp Z ρ (L) w) (r:Bool) (hm:self p0 p1=some r),Calls Tryz.prog 55 #[(.agg #[(Iv p0.kind),(.string p0.text),(Iv p0.at_),(Iv p0.fin),aI]),(.agg #[(Iv p1.kind),(.string p1.text),(Iv p1.at_),(Iv p1.fin),aJ])] w (Ret fun v w'=>v=(.bool r)∧Hp Z ρ (L) w')) {Z:World} {ρ:PH} {L:List bK} {w:World} (p0:Node) (aI:Value) (bD:aH ρ aI p0.kids) (p1:Node) (aJ:Value) (bH:aH ρ aJ p1.kids) (hp:Hp Z ρ (L) w) (r:Bool) (hm:rF self p0 p1=some r):
  Calls Tryz.prog 55 #[(.agg #[(Iv p0.kind),(.string p0.text),(Iv p0.at_),(Iv p0.fin),aI]),(.agg #[(Iv p1.kind),(.string p1.text),(Iv p1.at_),(Iv p1.fin),aJ])] w (Ret fun v w'=>v=(.bool r)∧Hp Z ρ (L) w'):=by
 refine enter (N:=38) Tryz.func55 rfl rfl [(0,(.agg #[(Iv p0.kind),(.string p0.text),(Iv p0.at_),(Iv p0.fin),aI])),(1,(.agg #[(Iv p1.kind),(.string p1.text),(Iv p1.at_),(Iv p1.fin),aJ]))] rfl (bC ⟨rfl,rfl,trivial⟩) fun a hE=>?_
 unfold rF at hm
 refine aG (aA ?_)
 refine iI (wk0 rfl) rfl rfl hE hp rfl (v:=(.agg #[(Iv p0.kind),(.string p0.text),(Iv p0.at_),(Iv p0.fin),aI])) rfl ?_
 intro a w b1 hE hp
 have hp:=r1 hp
 refine iI (wk0 rfl) rfl rfl hE hp rfl (v:=(.agg #[(Iv p1.kind),(.string p1.text),(Iv p1.at_),(Iv p1.fin),aJ])) rfl ?_
 intro a w b2 hE hp
 have hp:=r2 hp
 refine S hE 1 rfl fun a hE=>aB (aG ?_)
 refine aG (aA ?_)
 refine V hE hp rfl (aK rfl hE rfl (fun w hw=>aW (cs:=[(Iv p0.kind),(.string p0.text),(Iv p0.at_),(Iv p0.fin),aI]) bY (Hp.cN 1 rfl 0 _ (aS rfl) w hw))) fun a hE=>V hE hp rfl (aK rfl hE rfl (fun w hw=>aW (cs:=[(Iv p1.kind),(.string p1.text),(Iv p1.at_),(Iv p1.fin),aJ]) bY (Hp.cN 0 rfl 0 _ (aS rfl) w hw))) fun a hE=>?_
 obtain⟨x1,ex1,hm⟩:=bnd hm
 refine Cl hE rfl rfl ent82 (aD3 p0 aI bD p1 aJ bH hp x1 ex1) ⟨rfl,rfl,trivial⟩ fun v a w hR hE=>?_
 obtain⟨rfl,hp⟩:=hR
 have hp:=r2 hp
 refine S hE 2 rfl fun a hE=>?_
 refine iL [_,_,_,_,_,_,_,_] (fun a w=>Env 38 [(18,(.bool ((!x1)||(!decide ((p0.kids.length:Int)=(p1.kids.length:Int)))))),(2,(Pv b1 0)),(3,(Pv b2 0))] a∧Hp Z ρ (Pt b2 (.cells #[(Iv p1.kind),(.string p1.text),(Iv p1.at_),(Iv p1.fin),aJ] 24 (0,0))::Pt b1 (.cells #[(Iv p0.kind),(.string p0.text),(Iv p0.at_),(Iv p0.fin),aI] 24 (0,0))::L) w) ?_ ?_
 ·rcases Bool.eq_false_or_eq_true (!x1) with hc1|hc1
  ·
   refine Gk hE hc1 rfl fun a hE=>Gk hE hc1 rfl fun a hE=>Gk hE hc1 rfl fun a hE=>Gk hE hc1 rfl fun a hE=>Gk hE hc1 rfl fun a hE=>Gk hE hc1 rfl fun a hE=>Gk hE hc1 rfl fun a hE=>pk1 hE hc1 rfl rfl rfl rfl fun a hE=>?_
   have hE:=hE.eqv (v':=(.bool ((!x1)||(!decide ((p0.kids.length:Int)=(p1.kids.length:Int)))))) (by rw[hc1];rfl)
   exact aB ⟨hE.cut ⟨rfl,rfl,rfl,trivial⟩,hp⟩
  refine G hE hp hc1 rfl (xf hE sU rfl rfl) fun a hE=>G hE hp hc1 rfl (xl hE iT 1 rfl rfl rfl rfl) fun a hE=>G hE hp hc1 rfl (bT rfl hE rfl (aH.len bD jI)) fun a hE=>G hE hp hc1 rfl (xf hE sU rfl rfl) fun a hE=>G hE hp hc1 rfl (xl hE iT 0 rfl rfl rfl rfl) fun a hE=>G hE hp hc1 rfl (bT rfl hE rfl (aH.len bH jI)) fun a hE=>Gs hE hc1 rfl rfl fun a hE=>pk0 hE hc1 rfl rfl rfl rfl fun a hE=>?_
  have hE:=hE.eqv (v':=(.bool ((!x1)||(!decide ((p0.kids.length:Int)=(p1.kids.length:Int)))))) (by rw[hc1];rfl)
  exact aB ⟨hE.cut ⟨rfl,rfl,rfl,trivial⟩,hp⟩
 rintro a w ⟨hE,hp⟩
 refine aB ?_
 refine dE hE rfl (fun hc2=>?_) (fun hc2=>?_)
 ·replace hm:=(it hc2).symm.trans hm
  refine aG (aA ?_)
  refine S hE 1 rfl fun a hE=>aB (bZ ?_)
  obtain rfl:=oj hm
  exact gJ hE rfl rfl ⟨_,rfl,rfl,(((hp.get 1 rfl).drop).drop)⟩
 replace hm:=(ie hc2).symm.trans hm
 refine aZ (aG ?_)
 refine aG (aA ?_)
 refine S hE 1 rfl fun a hE=>aB ?_
 obtain⟨b3,hc3,hm⟩:=bnd hm
 refine dH (fun a w=>∃s:Unit,b3= .brk s∧(Env 38 [] a∧Hp Z ρ (Pt b2 (.cells #[(Iv p1.kind),(.string p1.text),(Iv p1.at_),(Iv p1.fin),aJ] 24 (0,0))::Pt b1 (.cells #[(Iv p0.kind),(.string p0.text),(Iv p0.at_),(Iv p0.fin),aI] 24 (0,0))::L) w)) ?_ ?_
 ·refine dZ hc3 (fun s a w=>Env 38 [(2,(Pv b1 0)),(3,(Pv b2 0)),(5,(Iv s))] a∧Hp Z ρ (Pt b2 (.cells #[(Iv p1.kind),(.string p1.text),(Iv p1.at_),(Iv p1.fin),aJ] 24 (0,0))::Pt b1 (.cells #[(Iv p0.kind),(.string p0.text),(Iv p0.at_),(Iv p0.fin),aI] 24 (0,0))::L) w) ?_ ?_
  ·exact⟨hE.cut ⟨rfl,rfl,rfl,trivial⟩,hp⟩
  rintro aP st a w ⟨hE,hp⟩ hl1
  unfold uI at hl1
  refine aG (aG ?_)
  refine aA (S hE 1 rfl fun a hE=>?_)
  refine V hE hp rfl (xf hE sU rfl rfl) fun a hE=>V hE hp rfl (xl hE iT 1 rfl rfl rfl rfl) fun a hE=>V hE hp rfl (bT rfl hE rfl (aH.len bD jI)) fun a hE=>S hE 1 rfl fun a hE=>aB ?_
  refine dE hE rfl (fun hc4=>?_) (fun hc4=>?_)
  ·replace hl1:=(it hc4).symm.trans hl1
   refine aZ (aG ?_)
   refine dM (aG ?_)
   refine jR (by kernel_rfl) (by kernel_rfl) hp ?_
   refine Vq hE rfl (xf hE sU rfl rfl) fun a hE=>Vq hE rfl (xl hE iT 1 rfl rfl rfl rfl) fun a hE=>Sq hE 1 rfl fun a hE=>?_
   obtain⟨x2,ex2,hl1⟩:=bnd hl1
   obtain⟨b4,b4o,b4c,b4r,b4k,b4f⟩:=aH.at bD jI ex2
   obtain⟨rY,rfl,aE9⟩:=NodeAt.opens b4k
   have b4f:AtP ρ b4 b4o [(Iv x2.kind),(.string x2.text),(Iv x2.at_),(Iv x2.fin),rY]:=b4f
   refine Vq hE rfl (aN rfl hE rfl rfl b4r) fun a hE=>Vq hE rfl (aK rfl hE rfl (fun w hw=>aW (cs:=[(Iv x2.kind),(.string x2.text),(Iv x2.at_),(Iv x2.fin),rY]) bY (fun j u hj=>cell_of hw.le (b4f j u hj)))) fun a hE=>Vq hE rfl (xf hE sU rfl rfl) fun a hE=>Vq hE rfl (xl hE iT 0 rfl rfl rfl rfl) fun a hE=>Sq hE 1 rfl fun a hE=>?_
   obtain⟨x3,ex3,hl1⟩:=bnd hl1
   obtain⟨b5,b5o,b5c,b5r,b5k,b5f⟩:=aH.at bH jI ex3
   obtain⟨aJ8,rfl,hb5_kids⟩:=NodeAt.opens b5k
   have b5f:AtP ρ b5 b5o [(Iv x3.kind),(.string x3.text),(Iv x3.at_),(Iv x3.fin),aJ8]:=b5f
   refine Vq hE rfl (aN rfl hE rfl rfl b5r) fun a hE=>Vq hE rfl (aK rfl hE rfl (fun w hw=>aW (cs:=[(Iv x3.kind),(.string x3.text),(Iv x3.at_),(Iv x3.fin),aJ8]) bY (fun j u hj=>cell_of hw.le (b5f j u hj)))) fun a hE=>?_
   obtain⟨x4,ex4,hl1⟩:=bnd hl1
   refine Y7 (wk0 rfl) rfl rfl hE rfl [(.agg #[(Iv x2.kind),(.string x2.text),(Iv x2.at_),(Iv x2.fin),rY]),(.agg #[(Iv x3.kind),(.string x3.text),(Iv x3.at_),(Iv x3.fin),aJ8])] ⟨rfl,rfl,trivial⟩ ent55 (v:=(.bool x4)) (fun w hw=>Calls.mono (hself x2 rY aE9 x3 aJ8 hb5_kids hw x4 ex4) fun e w' ⟨v,he,hv,hh⟩=>⟨by rw[he,hv],hh⟩) ?_
   intro a hE
   refine Sq hE 1 rfl fun a hE=>?_
   refine iM fun w hp=>?_
   have hp:=r2 hp
   refine dE hE rfl (fun hc5=>?_) (fun hc5=>?_)
   ·replace hl1:=(it hc5).symm.trans hl1
    refine aG (aA ?_)
    refine S hE 1 rfl fun a hE=>aB (bZ ?_)
    refine⟨_,(oj hl1).symm,fun hb=>?_⟩
    subst hb
    obtain rfl:=oj hm
    exact gJ hE rfl rfl ⟨_,rfl,rfl,(((hp.get 1 rfl).drop).drop)⟩
   replace hl1:=(ie hc5).symm.trans hl1
   refine aZ (aA ?_)
   refine S hE 1 rfl fun a hE=>?_
   obtain⟨x5,ex5,hl1⟩:=bnd hl1
   refine V hE hp rfl (bF rfl hE rfl rfl (aO ex5)) fun a hE=>S hE 1 rfl fun a hE=>aB ?_
   exact⟨_,(oj hl1).symm,hE.cut ⟨rfl,rfl,rfl,trivial⟩,hp⟩
  replace hl1:=(ie hc4).symm.trans hl1
  refine dS ?_
  refine⟨_,(oj hl1).symm,fun hbb=>?_⟩
  exact⟨_,hbb.symm,hE.cut trivial,hp⟩
 rintro a w ⟨b3s,rfl,hE,hp⟩
 dsimp only at hm
 refine aG (aA ?_)
 refine S hE 1 rfl fun a hE=>aB ?_
 have hE:=hE.cut (E':=[(4,(.bool true))]) ⟨rfl,trivial⟩
 refine bZ ?_
 obtain rfl:=oj hm
 exact gJ hE rfl rfl ⟨_,rfl,rfl,(((hp.get 1 rfl).drop).drop)⟩
theorem aC2:∀(n:Nat),∀{Z:World} {ρ:PH} {L:List bK} {w:World} (p0:Node) (aI:Value) (bD:aH ρ aI p0.kids) (p1:Node) (aJ:Value) (bH:aH ρ aJ p1.kids) (hp:Hp Z ρ (L) w) (r:Bool) (hm:qK n p0 p1=some r),Calls Tryz.prog 55 #[(.agg #[(Iv p0.kind),(.string p0.text),(Iv p0.at_),(Iv p0.fin),aI]),(.agg #[(Iv p1.kind),(.string p1.text),(Iv p1.at_),(Iv p1.fin),aJ])] w (Ret fun v w'=>v=(.bool r)∧Hp Z ρ (L) w'):=by
 intro n
 induction n with
 |zero=>intro Z ρ L w p0 aI bD p1 aJ bH hp r hm;cases hm
 |succ n ih=>intro Z ρ L w p0 aI bD p1 aJ bH hp r hm;exact X4 (qK n) ih p0 aI bD p1 aJ bH hp r hm
theorem aE1 {Z:World} {ρ:PH} {L:List bK} {w:World} (p0:Node) (aI:Value) (bD:aH ρ aI p0.kids) (p1:Node) (aJ:Value) (bH:aH ρ aJ p1.kids) (hp:Hp Z ρ (L) w) (r:Bool) (hm:F7 p0 p1=some r):
  Calls Tryz.prog 55 #[(.agg #[(Iv p0.kind),(.string p0.text),(Iv p0.at_),(Iv p0.fin),aI]),(.agg #[(Iv p1.kind),(.string p1.text),(Iv p1.at_),(Iv p1.fin),aJ])] w (Ret fun v w'=>v=(.bool r)∧Hp Z ρ (L) w'):=aC2 _ p0 aI bD p1 aJ bH hp r hm
theorem Y2 (self:Node→Int→Option Int) (hself:∀{Z:World} {ρ:PH} {L:List bK} {w:World} (p0:Node) (aI:Value) (bD:aH ρ aI p0.kids) (p1:Int) (hp:Hp Z ρ (L) w) (r:Int) (hm:self p0 p1=some r),Calls Tryz.prog 58 #[(.agg #[(Iv p0.kind),(.string p0.text),(Iv p0.at_),(Iv p0.fin),aI]),(Iv p1)] w (Ret fun v w'=>v=(Iv r)∧Hp Z ρ (L) w')) {Z:World} {ρ:PH} {L:List bK} {w:World} (p0:Node) (aI:Value) (bD:aH ρ aI p0.kids) (p1:Int) (hp:Hp Z ρ (L) w) (r:Int) (hm:oV self p0 p1=some r):
  Calls Tryz.prog 58 #[(.agg #[(Iv p0.kind),(.string p0.text),(Iv p0.at_),(Iv p0.fin),aI]),(Iv p1)] w (Ret fun v w'=>v=(Iv r)∧Hp Z ρ (L) w'):=by
 refine enter (N:=35) Tryz.func58 rfl rfl [(0,(.agg #[(Iv p0.kind),(.string p0.text),(Iv p0.at_),(Iv p0.fin),aI])),(1,(Iv p1))] rfl (bC ⟨rfl,rfl,trivial⟩) fun a hE=>?_
 unfold oV at hm
 refine aG (aA ?_)
 refine iI (wk0 rfl) rfl rfl hE hp rfl (v:=(.agg #[(Iv p0.kind),(.string p0.text),(Iv p0.at_),(Iv p0.fin),aI])) rfl ?_
 intro a w b1 hE hp
 have hp:=r1 hp
 refine S hE 1 rfl fun a hE=>aB (aG ?_)
 refine aG (aA ?_)
 refine S hE 3 rfl fun a hE=>?_
 refine iL [_,_,_,_,_] (fun a w=>Env 35 [(13,(.bool ((decide (p1<1))||(decide (40<(p0.text.size:Int)))))),(1,(Iv p1)),(2,(Pv b1 0))] a∧Hp Z ρ (Pt b1 (.cells #[(Iv p0.kind),(.string p0.text),(Iv p0.at_),(Iv p0.fin),aI] 24 (0,0))::L) w) ?_ ?_
 ·rcases Bool.eq_false_or_eq_true (decide (p1<1)) with hc1|hc1
  ·
   refine Gk hE hc1 rfl fun a hE=>Gk hE hc1 rfl fun a hE=>Gk hE hc1 rfl fun a hE=>Gk hE hc1 rfl fun a hE=>pk1 hE hc1 rfl rfl rfl rfl fun a hE=>?_
   have hE:=hE.eqv (v':=(.bool ((decide (p1<1))||(decide (40<(p0.text.size:Int)))))) (by rw[hc1];rfl)
   exact aB ⟨hE.cut ⟨rfl,rfl,rfl,trivial⟩,hp⟩
  refine G hE hp hc1 rfl (xf hE wV rfl rfl) fun a hE=>G hE hp hc1 rfl (xl hE xR 0 rfl rfl rfl rfl) fun a hE=>G hE hp hc1 rfl (v:=(Iv (p0.text.size:Int))) (ex_slen sty9 rfl hE rfl) fun a hE=>Gs hE hc1 rfl rfl fun a hE=>pk0 hE hc1 rfl rfl rfl rfl fun a hE=>?_
  have hE:=hE.eqv (v':=(.bool ((decide (p1<1))||(decide (40<(p0.text.size:Int)))))) (by rw[hc1];rfl)
  exact aB ⟨hE.cut ⟨rfl,rfl,rfl,trivial⟩,hp⟩
 rintro a w ⟨hE,hp⟩
 refine aB ?_
 refine dE hE rfl (fun hc2=>?_) (fun hc2=>?_)
 ·replace hm:=(it hc2).symm.trans hm
  refine aG (aA ?_)
  refine S hE 1 rfl fun a hE=>aB (bZ ?_)
  obtain rfl:=oj hm
  exact gJ hE rfl rfl ⟨_,rfl,rfl,(hp.drop)⟩
 replace hm:=(ie hc2).symm.trans hm
 refine aZ (aG ?_)
 refine aA (S hE 1 rfl fun a hE=>?_)
 obtain⟨x1,ex1,hm⟩:=bnd hm
 refine V hE hp rfl (dQ rfl hE rfl rfl (aO ex1)) fun a hE=>S hE 1 rfl fun a hE=>aB (aG ?_)
 refine aG (aA ?_)
 refine S hE 1 rfl fun a hE=>aB ?_
 obtain⟨b2,hc3,hm⟩:=bnd hm
 refine dH (fun a w=>Env 35 [(1,(Iv b2))] a∧Hp Z ρ (Pt b1 (.cells #[(Iv p0.kind),(.string p0.text),(Iv p0.at_),(Iv p0.fin),aI] 24 (0,0))::L) w) ?_ ?_
 ·refine dZ hc3 (fun s a w=>Env 35 [(1,(Iv s.1)),(2,(Pv b1 0)),(5,(Iv s.2))] a∧Hp Z ρ (Pt b1 (.cells #[(Iv p0.kind),(.string p0.text),(Iv p0.at_),(Iv p0.fin),aI] 24 (0,0))::L) w) ?_ ?_
  ·exact⟨hE.cut ⟨rfl,rfl,rfl,trivial⟩,hp⟩
  rintro⟨aP,aU⟩ st a w ⟨hE,hp⟩ hl1
  dsimp only at hE hp hl1
  unfold jF at hl1
  refine aG (aG ?_)
  refine aA (S hE 1 rfl fun a hE=>?_)
  refine V hE hp rfl (xf hE sU rfl rfl) fun a hE=>V hE hp rfl (xl hE iT 0 rfl rfl rfl rfl) fun a hE=>V hE hp rfl (bT rfl hE rfl (aH.len bD jI)) fun a hE=>S hE 2 rfl fun a hE=>?_
  refine iL [_,_,_] (fun a w=>Env 35 [(24,(.bool ((decide (aU<(p0.kids.length:Int)))&&(decide (0≤aP))))),(1,(Iv aP)),(2,(Pv b1 0)),(5,(Iv aU))] a∧Hp Z ρ (Pt b1 (.cells #[(Iv p0.kind),(.string p0.text),(Iv p0.at_),(Iv p0.fin),aI] 24 (0,0))::L) w) ?_ ?_
  ·rcases Bool.eq_false_or_eq_true (decide (aU<(p0.kids.length:Int))) with hc4|hc4
   ·
    refine Gs hE hc4 rfl rfl fun a hE=>Gs hE hc4 rfl rfl fun a hE=>pk1 hE hc4 rfl rfl rfl rfl fun a hE=>?_
    have hE:=hE.eqv (v':=(.bool ((decide (aU<(p0.kids.length:Int)))&&(decide (0≤aP))))) (by rw[hc4];rfl)
    exact aB ⟨hE.cut ⟨rfl,rfl,rfl,rfl,trivial⟩,hp⟩
   refine Gk hE hc4 rfl fun a hE=>Gk hE hc4 rfl fun a hE=>pk0 hE hc4 rfl rfl rfl rfl fun a hE=>?_
   have hE:=hE.eqv (v':=(.bool ((decide (aU<(p0.kids.length:Int)))&&(decide (0≤aP))))) (by rw[hc4];rfl)
   exact aB ⟨hE.cut ⟨rfl,rfl,rfl,rfl,trivial⟩,hp⟩
  rintro a w ⟨hE,hp⟩
  refine aB ?_
  refine dE hE rfl (fun hc5=>?_) (fun hc5=>?_)
  ·replace hl1:=(it hc5).symm.trans hl1
   refine aZ (aG ?_)
   refine dM (aA ?_)
   refine V hE hp rfl (xf hE sU rfl rfl) fun a hE=>V hE hp rfl (xl hE iT 0 rfl rfl rfl rfl) fun a hE=>S hE 1 rfl fun a hE=>?_
   obtain⟨x2,ex2,hl1⟩:=bnd hl1
   obtain⟨b3,b3o,b3c,b3r,b3k,b3f⟩:=aH.at bD jI ex2
   obtain⟨qU,rfl,aA9⟩:=NodeAt.opens b3k
   have b3f:AtP ρ b3 b3o [(Iv x2.kind),(.string x2.text),(Iv x2.at_),(Iv x2.fin),qU]:=b3f
   refine V hE hp rfl (aN rfl hE rfl rfl b3r) fun a hE=>V hE hp rfl (aK rfl hE rfl (fun w hw=>aW (cs:=[(Iv x2.kind),(.string x2.text),(Iv x2.at_),(Iv x2.fin),qU]) bY (fun j u hj=>cell_of hw.le (b3f j u hj)))) fun a hE=>S hE 1 rfl fun a hE=>?_
   obtain⟨x3,ex3,hl1⟩:=bnd hl1
   refine Cl hE rfl rfl ent58 (hself x2 qU aA9 aP hp x3 ex3) ⟨rfl,rfl,trivial⟩ fun v a w hR hE=>?_
   obtain⟨rfl,hp⟩:=hR
   have hp:=r1 hp
   refine S hE 1 rfl fun a hE=>aB (aA ?_)
   refine S hE 1 rfl fun a hE=>?_
   obtain⟨x4,ex4,hl1⟩:=bnd hl1
   refine V hE hp rfl (bF rfl hE rfl rfl (aO ex4)) fun a hE=>S hE 1 rfl fun a hE=>aB ?_
   exact⟨_,(oj hl1).symm,hE.cut ⟨rfl,rfl,rfl,trivial⟩,hp⟩
  replace hl1:=(ie hc5).symm.trans hl1
  refine dS ?_
  refine⟨_,(oj hl1).symm,fun hbb=>?_⟩
  subst hbb
  exact⟨hE.cut ⟨rfl,trivial⟩,hp⟩
 rintro a w ⟨hE,hp⟩
 refine aG (aA ?_)
 refine S hE 2 rfl fun a hE=>aB (bZ ?_)
 obtain rfl:=oj hm
 exact gJ hE rfl rfl ⟨_,rfl,rfl,(hp.drop)⟩
theorem aD4:∀(n:Nat),∀{Z:World} {ρ:PH} {L:List bK} {w:World} (p0:Node) (aI:Value) (bD:aH ρ aI p0.kids) (p1:Int) (hp:Hp Z ρ (L) w) (r:Int) (hm:jQ n p0 p1=some r),Calls Tryz.prog 58 #[(.agg #[(Iv p0.kind),(.string p0.text),(Iv p0.at_),(Iv p0.fin),aI]),(Iv p1)] w (Ret fun v w'=>v=(Iv r)∧Hp Z ρ (L) w'):=by
 intro n
 induction n with
 |zero=>intro Z ρ L w p0 aI bD p1 hp r hm;cases hm
 |succ n ih=>intro Z ρ L w p0 aI bD p1 hp r hm;exact Y2 (jQ n) ih p0 aI bD p1 hp r hm
theorem aH3 {Z:World} {ρ:PH} {L:List bK} {w:World} (p0:Node) (aI:Value) (bD:aH ρ aI p0.kids) (p1:Int) (hp:Hp Z ρ (L) w) (r:Int) (hm:xI p0 p1=some r):
  Calls Tryz.prog 58 #[(.agg #[(Iv p0.kind),(.string p0.text),(Iv p0.at_),(Iv p0.fin),aI]),(Iv p1)] w (Ret fun v w'=>v=(Iv r)∧Hp Z ρ (L) w'):=aD4 _ p0 aI bD p1 hp r hm
theorem I8 {Z:World} {ρ:PH} {L:List bK} {w:World} (p0:Node) (aI:Value) (bD:aH ρ aI p0.kids) (p1:Int) (hp:Hp Z ρ (L) w) (r:Bool) (hm:nO p0 p1=some r):
  Calls Tryz.prog 31 #[(.agg #[(Iv p0.kind),(.string p0.text),(Iv p0.at_),(Iv p0.fin),aI]),(Iv p1)] w (Ret fun v w'=>v=(.bool r)∧Hp Z ρ (L) w'):=by
 refine enter (N:=9) Tryz.func31 rfl rfl [(0,(.agg #[(Iv p0.kind),(.string p0.text),(Iv p0.at_),(Iv p0.fin),aI])),(1,(Iv p1))] rfl (bC ⟨rfl,rfl,trivial⟩) fun a hE=>?_
 unfold nO at hm
 refine aG (aA ?_)
 refine iI (wk0 rfl) rfl rfl hE hp rfl (v:=(.agg #[(Iv p0.kind),(.string p0.text),(Iv p0.at_),(Iv p0.fin),aI])) rfl ?_
 intro a w b1 hE hp
 have hp:=r1 hp
 refine S hE 1 rfl fun a hE=>aB (aG ?_)
 refine aA (V hE hp rfl (aK rfl hE rfl (fun w hw=>aW (cs:=[(Iv p0.kind),(.string p0.text),(Iv p0.at_),(Iv p0.fin),aI]) bY (Hp.cN 0 rfl 0 _ (aS rfl) w hw))) fun a hE=>?_)
 refine S hE 1 rfl fun a hE=>?_
 obtain⟨x1,ex1,hm⟩:=bnd hm
 refine Cl hE rfl rfl ent58 (aH3 p0 aI bD p1 hp x1 ex1) ⟨rfl,rfl,trivial⟩ fun v a w hR hE=>?_
 obtain⟨rfl,hp⟩:=hR
 have hp:=r1 hp
 refine S hE 2 rfl fun a hE=>aB (bZ ?_)
 obtain rfl:=oj hm
 exact gJ hE rfl rfl ⟨_,rfl,rfl,(hp.drop)⟩
theorem aH2 {Z:World} {ρ:PH} {L:List bK} {w:World} (p0:Node) (aI:Value) (bD:aH ρ aI p0.kids) (p1:Node) (aJ:Value) (bH:aH ρ aJ p1.kids) (p2:Int) (hp:Hp Z ρ (L) w) (r:Bool) (hm:qH p0 p1 p2=some r):
  Calls Tryz.prog 11 #[(.agg #[(Iv p0.kind),(.string p0.text),(Iv p0.at_),(Iv p0.fin),aI]),(.agg #[(Iv p1.kind),(.string p1.text),(Iv p1.at_),(Iv p1.fin),aJ]),(Iv p2)] w (Ret fun v w'=>v=(.bool r)∧Hp Z ρ (L) w'):=by
 refine enter (N:=15) Tryz.func11 rfl rfl [(0,(.agg #[(Iv p0.kind),(.string p0.text),(Iv p0.at_),(Iv p0.fin),aI])),(1,(.agg #[(Iv p1.kind),(.string p1.text),(Iv p1.at_),(Iv p1.fin),aJ])),(2,(Iv p2))] rfl (bC ⟨rfl,rfl,rfl,trivial⟩) fun a hE=>?_
 unfold qH at hm
 refine aG (aA ?_)
 refine iI (wk0 rfl) rfl rfl hE hp rfl (v:=(.agg #[(Iv p0.kind),(.string p0.text),(Iv p0.at_),(Iv p0.fin),aI])) rfl ?_
 intro a w b1 hE hp
 have hp:=r1 hp
 refine iI (wk0 rfl) rfl rfl hE hp rfl (v:=(.agg #[(Iv p1.kind),(.string p1.text),(Iv p1.at_),(Iv p1.fin),aJ])) rfl ?_
 intro a w b2 hE hp
 have hp:=r2 hp
 refine S hE 1 rfl fun a hE=>aB (aG ?_)
 refine aA (V hE hp rfl (aK rfl hE rfl (fun w hw=>aW (cs:=[(Iv p0.kind),(.string p0.text),(Iv p0.at_),(Iv p0.fin),aI]) bY (Hp.cN 1 rfl 0 _ (aS rfl) w hw))) fun a hE=>?_)
 refine S hE 1 rfl fun a hE=>?_
 obtain⟨x1,ex1,hm⟩:=bnd hm
 refine Cl hE rfl rfl ent31 (I8 p0 aI bD p2 hp x1 ex1) ⟨rfl,rfl,trivial⟩ fun v a w hR hE=>?_
 obtain⟨rfl,hp⟩:=hR
 have hp:=r2 hp
 refine S hE 1 rfl fun a hE=>?_
 obtain⟨m1,hg1,hm⟩:=bnd hm
 refine iL [_,_,_,_] (fun a w=>Env 15 [(14,(.bool m1))] a∧Hp Z ρ (Pt b2 (.cells #[(Iv p1.kind),(.string p1.text),(Iv p1.at_),(Iv p1.fin),aJ] 24 (0,0))::Pt b1 (.cells #[(Iv p0.kind),(.string p0.text),(Iv p0.at_),(Iv p0.fin),aI] 24 (0,0))::L) w) ?_ ?_
 ·rcases Bool.eq_false_or_eq_true x1 with hc1|hc1
  ·
   replace hg1:=(it hc1).symm.trans hg1
   refine G hE hp hc1 rfl (aK rfl hE rfl (fun w hw=>aW (cs:=[(Iv p1.kind),(.string p1.text),(Iv p1.at_),(Iv p1.fin),aJ]) bY (Hp.cN 0 rfl 0 _ (aS rfl) w hw))) fun a hE=>Gs hE hc1 rfl rfl fun a hE=>?_
   obtain⟨x2,ex2,hg1⟩:=bnd hg1
   refine Cg hE hc1 rfl rfl ent31 (I8 p1 aJ bH p2 hp x2 ex2) ⟨rfl,rfl,trivial⟩ fun v a w hR hE=>?_
   obtain⟨rfl,hp⟩:=hR
   have hp:=r2 hp
   refine pk1 hE hc1 rfl rfl rfl rfl fun a hE=>?_
   obtain rfl:=oj hg1
   exact aB ⟨hE.cut ⟨rfl,trivial⟩,hp⟩
  replace hg1:=(ie hc1).symm.trans hg1
  refine Gk hE hc1 rfl fun a hE=>Gk hE hc1 rfl fun a hE=>Gk hE hc1 rfl fun a hE=>pk0 hE hc1 rfl rfl rfl rfl fun a hE=>?_
  obtain rfl:=oj hg1
  exact aB ⟨hE.cut ⟨rfl,trivial⟩,hp⟩
 rintro a w ⟨hE,hp⟩
 refine S hE 1 rfl fun a hE=>aB (bZ ?_)
 obtain rfl:=oj hm
 exact gJ hE rfl rfl ⟨_,rfl,rfl,(((hp.get 1 rfl).drop).drop)⟩
theorem oZ {Z:World} {ρ:PH} {L:List bK} {w:World} (p0:ByteArray) (hp:Hp Z ρ (L) w) (r:Node) (hm:kE p0=some r):
  Calls Tryz.prog 36 #[(.string p0)] w (Ret fun v w'=>∃(ρ':PH) (V7:Value),ρ.le ρ'∧v=(.agg #[(Iv r.kind),(.string r.text),(Iv r.at_),(Iv r.fin),V7])∧aH ρ' V7 r.kids∧Hp Z ρ' (L) w'):=by
 refine enter (N:=5) Tryz.func36 rfl rfl [(0,(.string p0))] rfl (bC ⟨rfl,trivial⟩) fun a hE=>?_
 unfold kE at hm
 refine aG (aA ?_)
 refine dL (wk0 rfl) rfl rfl hE hp rfl [(Iv 0),(.string ByteArray.empty),(Iv 0),(Iv 0),N0] (fun w=>by simp[Instr.alloc,go_sem]<;>rfl) ?_
 intro a w b1 hE hp
 have hp:=r1 hp
 refine aB (aG ?_)
 refine aA (S hE 1 rfl fun a hE=>?_)
 refine V hE hp rfl (v:=(.agg #[(Iv 20),(.string p0),(Iv 0),(Iv 0),N0])) (lW rfl hE [(0,(Iv 20)),(1,(.string p0))] (by exact⟨⟨rfl,rfl⟩,⟨rfl,rfl⟩,trivial⟩) (fun w=>by simp[Instr.build,Instr.fill,Value.cells,go_sem])) fun a hE=>?_
 refine aX (wk0 rfl) rfl hE hp rfl rfl rfl 0 rfl bY.size_ rfl (aQ ⟨rfl,rfl,rfl,rfl,rfl,trivial⟩) [(Iv 20),(.string p0),(Iv 0),(Iv 0),N0] rfl ?_
 intro w hp
 have hp:=r1 hp
 refine aB (bZ ?_)
 obtain rfl:=oj hm
 exact retc1 hE rfl rfl (aG6 (cs:=[(Iv 20),(.string p0),(Iv 0),(Iv 0),N0]) bY (Hp.cN 0 rfl 0 _ (aS rfl) _ hp)) ⟨_,rfl,_,_,(PH.le.rf _),rfl,(aH.nil _),(hp.drop)⟩
theorem uK {Z:World} {ρ:PH} {L:List bK} {w:World} (p0:ByteArray) (p1:Node) (aJ:Value) (bH:aH ρ aJ p1.kids) (p2:Node) (G6:Value) (hp2_kids:aH ρ G6 p2.kids) (hp:Hp Z ρ (L) w) (r:Node) (hm:nD p0 p1 p2=some r):
  Calls Tryz.prog 35 #[(.string p0),(.agg #[(Iv p1.kind),(.string p1.text),(Iv p1.at_),(Iv p1.fin),aJ]),(.agg #[(Iv p2.kind),(.string p2.text),(Iv p2.at_),(Iv p2.fin),G6])] w (Ret fun v w'=>∃(ρ':PH) (V7:Value),ρ.le ρ'∧v=(.agg #[(Iv r.kind),(.string r.text),(Iv r.at_),(Iv r.fin),V7])∧aH ρ' V7 r.kids∧Hp Z ρ' (L) w'):=by
 refine enter (N:=12) Tryz.func35 rfl rfl [(0,(.string p0)),(1,(.agg #[(Iv p1.kind),(.string p1.text),(Iv p1.at_),(Iv p1.fin),aJ])),(2,(.agg #[(Iv p2.kind),(.string p2.text),(Iv p2.at_),(Iv p2.fin),G6]))] rfl (bC ⟨rfl,rfl,rfl,trivial⟩) fun a hE=>?_
 unfold nD at hm
 refine aG (aA ?_)
 refine iI (wk0 rfl) rfl rfl hE hp rfl (v:=(.agg #[(Iv p1.kind),(.string p1.text),(Iv p1.at_),(Iv p1.fin),aJ])) rfl ?_
 intro a w b1 hE hp
 have hp:=r1 hp
 refine iI (wk0 rfl) rfl rfl hE hp rfl (v:=(.agg #[(Iv p2.kind),(.string p2.text),(Iv p2.at_),(Iv p2.fin),G6])) rfl ?_
 intro a w b2 hE hp
 have hp:=r2 hp
 refine dL (wk0 rfl) rfl rfl hE hp rfl [(Iv 0),(.string ByteArray.empty),(Iv 0),(Iv 0),N0] (fun w=>by simp[Instr.alloc,go_sem]<;>rfl) ?_
 intro a w b3 hE hp
 have hp:=r3 hp
 refine aB (aG ?_)
 refine aA (S hE 1 rfl fun a hE=>?_)
 refine V hE hp rfl (aK rfl hE rfl (fun w hw=>aW (cs:=[(Iv p1.kind),(.string p1.text),(Iv p1.at_),(Iv p1.fin),aJ]) bY (Hp.cN 2 rfl 0 _ (aS rfl) w hw))) fun a hE=>V hE hp rfl (aK rfl hE rfl (fun w hw=>aW (cs:=[(Iv p2.kind),(.string p2.text),(Iv p2.at_),(Iv p2.fin),G6]) bY (Hp.cN 1 rfl 0 _ (aS rfl) w hw))) fun a hE=>?_
 refine fP (wk0 rfl) rfl rfl hE hp rfl [(0,(.agg #[(Iv p1.kind),(.string p1.text),(Iv p1.at_),(Iv p1.fin),aJ])),(1,(.agg #[(Iv p2.kind),(.string p2.text),(Iv p2.at_),(Iv p2.fin),G6]))] ⟨⟨rfl,rfl⟩,⟨rfl,rfl⟩,trivial⟩ [(Iv p1.kind),(.string p1.text),(Iv p1.at_),(Iv p1.fin),aJ,(Iv p2.kind),(.string p2.text),(Iv p2.at_),(Iv p2.fin),G6] 24 (fun w=>by have hc0:=aH.cells bH;simp only[Value.cells] at hc0;have hc1:=aH.cells hp2_kids;simp only[Value.cells] at hc1;simp[Instr.buildSlice,Instr.fill,Value.cells,hc0,hc1,go_sem]) ?_
 intro a w b4 hE hp
 have hp:=r4 hp
 obtain⟨k1,k1a,k1d,hp⟩:=(hp.get 0 rfl).lend
 have f1:aH (ρ.un k1) (.slice (some ⟨b4,0,none⟩) 2 2) ([p1,p2]:List Node):=aH.of_all (l:=(([p1,p2]:List Node))) k1d k1a ⟨_,_,rfl,(show NodeAt (ρ.un k1) p1 [(Iv p1.kind),(.string p1.text),(Iv p1.at_),(Iv p1.fin),aJ] from NodeAt.shutv ((aH.mono bH (PH.le_un _ k1)))),⟨_,_,rfl,(show NodeAt (ρ.un k1) p2 [(Iv p2.kind),(.string p2.text),(Iv p2.at_),(Iv p2.fin),G6] from NodeAt.shutv ((aH.mono hp2_kids (PH.le_un _ k1)))),rfl⟩⟩
 have hp:=r3 hp
 refine V hE hp rfl (v:=(.agg #[(Iv 29),(.string p0),(Iv 0),(Iv 0),(.slice (some ⟨b4,0,none⟩) 2 2)])) (lW rfl hE [(0,(Iv 29)),(1,(.string p0)),(4,(.slice (some ⟨b4,0,none⟩) 2 2))] (by exact⟨⟨rfl,rfl⟩,⟨rfl,rfl⟩,⟨rfl,rfl⟩,trivial⟩) (fun w=>by have hc0:=aH.cells f1;simp only[Value.cells] at hc0;simp[Instr.build,Instr.fill,Value.cells,hc0,go_sem])) fun a hE=>?_
 refine aX (wk0 rfl) rfl hE hp rfl rfl rfl 0 rfl bY.size_ rfl (aQ ⟨rfl,rfl,rfl,rfl,(aH.one f1),trivial⟩) [(Iv 29),(.string p0),(Iv 0),(Iv 0),(.slice (some ⟨b4,0,none⟩) 2 2)] rfl ?_
 intro w hp
 have hp:=r3 hp
 refine aB (bZ ?_)
 obtain rfl:=oj hm
 exact retc1 hE rfl rfl (aG6 (cs:=[(Iv 29),(.string p0),(Iv 0),(Iv 0),(.slice (some ⟨b4,0,none⟩) 2 2)]) bY (Hp.cN 0 rfl 0 _ (aS rfl) _ hp)) ⟨_,rfl,_,_,(PH.le_un _ k1),rfl,f1,(((((hp.get 2 rfl).drop).get 1 rfl).drop).drop)⟩
end Go.Proofs.YtopnldfjcciieaaGreat
