/- An arena of rows, and tables whose elements name its rows; a table of which one row is looked at while others grow. Plain theorems over any program. -/
import Derived.Test.YtopnldfjcciieaaGreatKCoT
import Derived.Test.YtopnldfjcciieaaGreatKCo4
import Derived.Test.YtopnldfjcciieaaGreatProg
import Derived.Test.YtopnldfjcciieaaGreatKCo3
set_option linter.unusedVariables false
set_option linter.unusedSimpArgs false
set_option maxRecDepth 100000
set_option maxHeartbeats 4000000
namespace Go.Proofs.YtopnldfjcciieaaGreat
open Go.RowKit
def hd (au:List Sl) (i:Nat):Sl:=au.getD i Sl.nil
def wmap (au:List Sl) (ids:List (List Nat)):List (List Sl):=ids.map fun r=>r.map (hd au)
theorem hd_get {au:List Sl} {i:Nat} {u:Sl} (h:au[i]?=some u):hd au i=u:=by unfold hd;rw[List.getD_eq_getElem?_getD,h];rfl
theorem idx_map' {α β:Type} {f:α→β} {l:List α} {i:Int} {a:α} (h:idx l i=some a):idx (l.map f) i=some (f a):=by
 obtain⟨h0,_,h1⟩:=oJ h
 unfold idx;rw[if_pos h0,wT,h1];rfl
theorem wmap_idx {au:List Sl} {ids:List (List Nat)} {i:Int} {r:List Nat} (h:idx ids i=some r):idx (wmap au ids) i=some (r.map (hd au)):=idx_map' h
theorem wmap_len {au:List Sl} {ids:List (List Nat)}:(wmap au ids).length=ids.length:=by unfold wmap;rw[List.length_map]
theorem wmap_nils {au:List Sl} (n:Nat):wmap au (List.replicate n [])=List.replicate n []:=by unfold wmap;simp
section
variable {Z:World} {ρ:PH} {L:List bP} {w:World} {α:Type} [Enc α] {Ti:TypeId} {au:List Sl} {l:List (List α)}
theorem Hp.arLen (A:Hp Z ρ (iH Ti au l::L) w):au.length=l.length:=iH.len A.sep
def ArX (Ti:TypeId) (au:List Sl) (l:List (List α)) (i:Nat):bP:=iH Ti (au.eraseIdx i) (l.eraseIdx i)
theorem Hp.arTake {i:Nat} {c:List α} (hi:l[i]?=some c) (A:Hp Z ρ (iH Ti au l::L) w):Hp Z ρ (aF Ti (hd au i).v c::ArX Ti au l i::L) w:=by
 have hl:=A.arLen
 obtain⟨h1,_⟩:=uL.1 hi
 have hu:au[i]?=some au[i]:=vA (by omega)
 rw[hd_get hu]
 exact A.to (iH.take i hu hi).1
theorem Hp.arBack {i:Nat} {c c':List α} (hi:l[i]?=some c) (hl:au.length=l.length) (A:Hp Z ρ (aF Ti (hd au i).v c'::ArX Ti au l i::L) w):Hp Z ρ (iH Ti au (l.set i c')::L) w:=by
 obtain⟨h1,_⟩:=uL.1 hi
 have hu:au[i]?=some au[i]:=vA (by omega)
 rw[hd_get hu] at A
 refine A.to fun s=>(iH.take (us:=au) (l:=l.set i c') (r:=c') i hu (by rw[xL h1])).2 ?_
 rw[List.eraseIdx_set_eq];exact s
end
def TblZ {α:Type} [Enc α] (T Ti:TypeId) (v:Value) (us:List Sl) (l:List (List α)) (i:Int):bP:=star (aF T v us) (iH Ti (us.set i.toNat Sl.nil) (l.set i.toNat []))
section
variable {Rn:Option Nat} {P:Program} {ops:Array Oper} {Q:Exit→Act→World→Prop} {rest:List Oper} {o:Oper} {a:Act} {w:World} {Df:List Deferred} {N:Nat} {E:Ent} {d:Nat} {Z:World} {ρ:PH} {L:List bP}
variable {α:Type} [Enc α] {T Ti To Tr:TypeId} {v:Value} {us:List Sl} {l:List (List α)} {bytes:Nat}
theorem bY.lendRow (A:Hp Z ρ L w) (k:Nat) (hk:L[k]?=some (bY T Ti v us l)) {i:Int} {u:Sl} {r:List α} (hu:idx us i=some u) (hi:idx l i=some r):
  Hp Z ρ (aF Ti u.v r::TblZ T Ti v us l i::L.eraseIdx k) w:=by
 obtain⟨_,hui,hus⟩:=oJ hu
 obtain⟨_,hli,hls⟩:=oJ hi
 refine(bY.focus A k hk hu hi).to fun s=>Sep.cons_mono (fun ρ h s=>Sep.two.2 (Sep.swap ?_)) s
 refine(iH.take (us:=us.set i.toNat Sl.nil) (l:=l.set i.toNat []) (u:=Sl.nil) (r:=([]:List α)) i.toNat (by rw[xL (by omega)]) (by rw[xL (by omega)])).2 ?_
 rw[List.eraseIdx_set_eq,List.eraseIdx_set_eq]
 refine⟨PH.emp,aF.nil Ti,PH.dj_emp ρ,?_⟩
 have e:ρ.un PH.emp=ρ:=by funext b;unfold PH.un PH.emp;cases ρ b<;>rfl
 rw[e];exact s
theorem TblZ.lens {i:Int} (A:Hp Z ρ (TblZ T Ti v us l i::L) w):us.length=l.length:=by
 have:=iH.len (Sep.swap (A.to Sep.two.1).sep)
 simpa using this
theorem TblZ.hdr {i:Int} (C:Hp Z ρ L w) (k:Nat) (hk:L[k]?=some (TblZ T Ti v us l i)) (ht:SlTy P To T 1 bytes) {j:Int} {r:List α} (hi:idx l j=some r):
  ∃(u:Sl) (g off:Nat),idx us j=some u∧(∀w,(Instr.indexAt To v (Iv j)).run P w= .ok (Pv g off) w)∧(∃of0 cap,v= .slice (some ⟨g,of0,none⟩) us.length cap∧off=of0+j.toNat*1)∧
   ∀(q:Nat) (x:Value),[u.v][q]?=some x→∀ρ' L' w,Hp Z ρ' (TblZ T Ti v us l i::L') w→w.cell? ⟨g,off+q,none⟩=some x:=by
 have h:=(C.get k hk)
 obtain⟨i0,i1,i2⟩:=oJ hi
 have hl:=TblZ.lens h
 have hu:idx us j=some us[j.toNat]:=by unfold idx;rw[if_pos i0];exact vA (by omega)
 obtain⟨g,off,e1,e2,e3⟩:=aF.at (h.to Sep.two.1) 0 O ht hu
 exact⟨_,g,off,hu,e1,e2,fun q x A ρ' L' w B=>e3 q x A _ _ w (B.to Sep.two.1)⟩
def WTb (T Ti Tc:TypeId) (v:Value) (ua:List Sl×List Sl) (W:List (List Nat)×List (List Int)):bP:=star (bY T Ti v ua.1 (wmap ua.2 W.1)) (iH Tc ua.2 W.2)
variable {Tc:TypeId} {ua:List Sl×List Sl} {W:List (List Nat)×List (List Int)}
theorem WTb.opn (h:Hp Z ρ (WTb T Ti Tc v ua W::L) w):Hp Z ρ (bY T Ti v ua.1 (wmap ua.2 W.1)::iH Tc ua.2 W.2::L) w:=h.to Sep.two.1
theorem WTb.shut (h:Hp Z ρ (bY T Ti v ua.1 (wmap ua.2 W.1)::iH Tc ua.2 W.2::L) w):Hp Z ρ (WTb T Ti Tc v ua W::L) w:=h.to Sep.two.2
theorem WTb.slice (A:Hp Z ρ L w) (k:Nat) (hk:L[k]?=some (WTb T Ti Tc v ua W)):∃s:Sl,s.v=v:=bY.slice (WTb.opn (A.get k hk)) 0 O
theorem WTb.cells (A:Hp Z ρ L w) (k:Nat) (hk:L[k]?=some (WTb T Ti Tc v ua W)):v.cells= #[v]:=by obtain⟨s,rfl⟩:=WTb.slice A k hk;exact s.cells
theorem WTb.one (A:Hp Z ρ L w) (k:Nat) (hk:L[k]?=some (WTb T Ti Tc v ua W)):v.oneCell'=true:=by obtain⟨s,rfl⟩:=WTb.slice A k hk;exact s.one
theorem WTb.len (A:Hp Z ρ L w) (k:Nat) (hk:L[k]?=some (WTb T Ti Tc v ua W)) (ht:SlTy P To T 1 bytes) (w:World) (ty:TypeId):(Builtin.len_ #[To] ty #[v]).run P w= .ok (Iv W.1.length) w:=by
 rw[←wmap_len (au:=ua.2)]
 exact bY.len (WTb.opn (A.get k hk)) 0 O ht w ty
theorem WTb.start (Tc:TypeId) {n:Nat} {us:List Sl} (A:Hp Z ρ (bY T Ti v us (List.replicate n ([]:List Sl))::L) w):Hp Z ρ (WTb T Ti Tc v (us,[]) (List.replicate n [],[])::L) w:=by
 refine WTb.shut ?_
 rw[wmap_nils]
 exact A.to fun s=>Sep.cons_mono (fun ρ h s=>Sep.emp1.2 s) s
def TblL (T Ti:TypeId) (v:Value) (us:List Sl) (l:List (List Sl)):Option Int→bP
 |none=>bY T Ti v us l
 |some i=>TblZ T Ti v us l i
def ArL (Tc:TypeId) (au:List Sl) (l:List (List Int)):Option (Nat×Value)→bP
 |none=>iH Tc au l
 |some h=>fun k=>ArX Tc au l h.1 k∧au.length=l.length∧h.1<l.length∧(hd au h.1).v=h.2
def zA (T Ti Tc:TypeId) (v:Value) (ua:List Sl×List Sl) (W:List (List Nat)×List (List Int)) (li:Option Int) (ai:Option (Nat×Value)):bP:=
 star (TblL T Ti v ua.1 (wmap ua.2 W.1) li) (ArL Tc ua.2 W.2 ai)
theorem zA.of (h:Hp Z ρ (WTb T Ti Tc v ua W::L) w):Hp Z ρ (zA T Ti Tc v ua W none none::L) w:=h
theorem zA.to (h:Hp Z ρ (zA T Ti Tc v ua W none none::L) w):Hp Z ρ (WTb T Ti Tc v ua W::L) w:=h
theorem OwnH.len {au:List Sl} {r:List Nat} (A:Hp Z ρ L w) (k:Nat) (hk:L[k]?=some (aF T v (r.map (hd au)))) (ht:SlTy P To T 1 bytes) (w:World) (ty:TypeId):(Builtin.len_ #[To] ty #[v]).run P w= .ok (Iv r.length) w:=by
 have:=aF.len A k hk ht w ty
 rwa [List.length_map] at this
theorem OwnH.at {au:List Sl} {r:List Nat} {i:Int} {h:Nat} (A:Hp Z ρ L w) (k:Nat) (hk:L[k]?=some (aF T v (r.map (hd au)))) (ht:SlTy P To T 1 bytes) (hi:idx r i=some h):
  ∃g off,(∀w,(Instr.indexAt To v (Iv i)).run P w= .ok (Pv g off) w)∧
   ∀(j:Nat) (x:Value),([(hd au h).v]:List Value)[j]?=some x→∀ρ' L' w,Hp Z ρ' (aF T v (r.map (hd au))::L') w→w.cell? ⟨g,off+j,none⟩=some x:=by
 obtain⟨g,off,e1,_,e3⟩:=aF.at A k hk ht (idx_map' (f:=hd au) hi)
 exact⟨g,off,e1,e3⟩
theorem zA.slice {li:Option Int} {ai:Option (Nat×Value)} (A:Hp Z ρ L w) (k:Nat) (hk:L[k]?=some (zA T Ti Tc v ua W li ai)):∃s:Sl,s.v=v:=by
 cases li with
 |none=>exact bY.slice ((A.get k hk).to Sep.two.1) 0 rfl
 |some i=>exact aF.toSl (((A.get k hk).to Sep.two.1).to Sep.two.1) 0 rfl
theorem zA.cells {li:Option Int} {ai:Option (Nat×Value)} (A:Hp Z ρ L w) (k:Nat) (hk:L[k]?=some (zA T Ti Tc v ua W li ai)):v.cells= #[v]:=by obtain⟨s,rfl⟩:=zA.slice A k hk;exact s.cells
theorem zA.one {li:Option Int} {ai:Option (Nat×Value)} (A:Hp Z ρ L w) (k:Nat) (hk:L[k]?=some (zA T Ti Tc v ua W li ai)):v.oneCell'=true:=by obtain⟨s,rfl⟩:=zA.slice A k hk;exact s.one
theorem zA.lend {ai:Option (Nat×Value)} {i:Int} {u:Sl} {r:List Nat} (hu:idx ua.1 i=some u) (hi:idx W.1 i=some r) (A:Hp Z ρ (zA T Ti Tc v ua W none ai::L) w):
  Hp Z ρ (aF Ti u.v (r.map (hd ua.2))::zA T Ti Tc v ua W (some i) ai::L) w:=by
 have h2:=bY.lendRow (A.to Sep.two.1) 0 O hu (wmap_idx hi)
 exact h2.to fun s=>Sep.cons_mono (fun ρ h s=>Sep.two.2 s) s
theorem zA.take {li:Option Int} {i:Nat} {c:List Int} (hi:W.2[i]?=some c) (A:Hp Z ρ (zA T Ti Tc v ua W li none::L) w):∃vc,(hd ua.2 i).v=vc∧Hp Z ρ (aF Tc vc c::zA T Ti Tc v ua W li (some (i,vc))::L) w:=by
 have h1:Hp Z ρ (iH Tc ua.2 W.2::TblL T Ti v ua.1 (wmap ua.2 W.1) li::L) w:=A.to fun s=>Sep.swap (Sep.two.1 s)
 have B:=h1.arLen
 have hlt:=(uL.1 hi).1
 exact⟨_,O,(Hp.arTake hi h1).to fun s=>Sep.cons_mono (fun ρ h s=>Sep.two.2 (Sep.swap (s.imp fun _ a=>⟨a,B,hlt,O⟩))) s⟩
theorem zA.back {li:Option Int} {i:Nat} {vc:Value} {c':List Int} (B:Hp Z ρ (aF Tc vc c'::zA T Ti Tc v ua W li (some (i,vc))::L) w):Hp Z ρ (zA T Ti Tc v ua (W.1,W.2.set i c') li none::L) w:=by
 have h1:Hp Z ρ ((fun k=>ArX Tc ua.2 W.2 i k∧ua.2.length=W.2.length∧i<W.2.length∧(hd ua.2 i).v=vc)::aF Tc vc c'::TblL T Ti v ua.1 (wmap ua.2 W.1) li::L) w:=
  B.to fun s=>Sep.swap (Sep.cons_mono (fun ρ h s=>Sep.swap (Sep.two.1 s)) s)
 obtain⟨_,C,hlt,hv⟩:=Hp.fact (A:=ArX Tc ua.2 W.2 i) h1
 subst hv
 have h2:Hp Z ρ (aF Tc (hd ua.2 i).v c'::ArX Tc ua.2 W.2 i::TblL T Ti v ua.1 (wmap ua.2 W.1) li::L) w:=(h1.imp fun _ a=>a.1).to fun s=>s.swap
 exact(Hp.arBack (vA hlt) C h2).to fun s=>Sep.two.2 s.swap
theorem zA.lens {li:Option Int} {ai:Option (Nat×Value)} (A:Hp Z ρ (zA T Ti Tc v ua W li ai::L) w):ua.1.length=W.1.length:=by
 rw[←wmap_len (au:=ua.2)]
 cases li with
 |none=>exact bY.lens (A.to Sep.two.1)
 |some i=>exact TblZ.lens (A.to Sep.two.1)
theorem zA.hdr {li:Option Int} {ai:Option (Nat×Value)} {j:Int} (C:Hp Z ρ (zA T Ti Tc v ua W li ai::L) w) (ht:SlTy P To T 1 bytes) {r:List Nat} (hi:idx W.1 j=some r):
  ∃(u:Sl) (g off:Nat),idx ua.1 j=some u∧(∀w,(Instr.indexAt To v (Iv j)).run P w= .ok (Pv g off) w)∧(∃of0 cap,v= .slice (some ⟨g,of0,none⟩) ua.1.length cap∧off=of0+j.toNat*1)∧
   ∀(q:Nat) (x:Value),[u.v][q]?=some x→∀ρ' L' w,Hp Z ρ' (zA T Ti Tc v ua W li ai::L') w→w.cell? ⟨g,off+q,none⟩=some x:=by
 cases li with
 |none=>
  obtain⟨u,g,off,e1,e2,e3,e4⟩:=bY.hdr (C.to Sep.two.1) 0 O ht (wmap_idx hi)
  exact⟨u,g,off,e1,e2,e3,fun q x A ρ' L' w B=>e4 q x A ρ' _ w (B.to Sep.two.1)⟩
 |some i=>
  obtain⟨u,g,off,e1,e2,e3,e4⟩:=TblZ.hdr (C.to Sep.two.1) 0 O ht (wmap_idx hi)
  exact⟨u,g,off,e1,e2,e3,fun q x A ρ' L' w B=>e4 q x A ρ' _ w (B.to Sep.two.1)⟩
end
section
variable {P:Program} {Z:World} {ρ:PH} {L:List bP} {w:World} {α:Type} [Enc α] {T El:TypeId} {bytes:Nat} {v v':Value} {l r:List α}
def ViewF (El:TypeId) (v:Value) (l:List α) (v':Value) (r:List α):Prop:=∀ρ k,PH.dj ρ k→aF El v l k→aH (ρ.un k) v' r
theorem aF.viewF (A:Hp Z ρ L w) (k:Nat) (hk:L[k]?=some (aF El v l)) (ht:SlTy P T El (Enc.sz α) bytes) (lo hi:Option (IntKind×Int)) {i j:Int} (hlo:i=match lo with|none=>0|some p=>p.2) (hhi:j=match hi with|none=>(l.length:Int)|some p=>p.2) (hr:sub l i j=some r):
  ∃v',(∀w,(Instr.sliceAt T v (lo.map fun p=> .int p.1 p.2) (hi.map fun p=> .int p.1 p.2) none).run P w= .ok v' w)∧ViewF El v l v' r:=by
 obtain⟨κ,ha,hd,_⟩:=(A.get k hk).lend
 obtain⟨v',h,_⟩:=aH.part (aF.ro hd ha) ht lo hi hlo hhi hr
 refine⟨v',h,fun ρ' κ' hd' ha'=>?_⟩
 obtain⟨v2,h2,h3⟩:=aH.part (aF.ro hd' ha') ht lo hi hlo hhi hr
 exact dO w h2 h h3
theorem ViewF.len {sz:Nat} (h:ViewF El v l v' r) (A:Hp Z ρ L w) (k:Nat) (hk:L[k]?=some (aF El v l)) (ht:SlTy P T El sz bytes) (w:World) (ty:TypeId):(Builtin.len_ #[T] ty #[v']).run P w= .ok (Iv r.length) w:=by
 obtain⟨κ,ha,hd,_⟩:=(A.get k hk).lend
 exact(h _ _ hd ha).len ht w ty
theorem ViewF.at (h:ViewF El v l v' r) (A:Hp Z ρ L w) (k:Nat) (hk:L[k]?=some (aF El v l)) (ht:SlTy P T El (Enc.sz α) bytes) {i:Int} {e:α} (hi:idx r i=some e):
  ∃g off,(∀w,(Instr.indexAt T v' (Iv i)).run P w= .ok (Pv g off) w)∧
   ∀(j:Nat) (u:Value),(Enc.enc e)[j]?=some u→∀ρ' L' w,Hp Z ρ' (aF El v l::L') w→w.cell? ⟨g,off+j,none⟩=some u:=by
 obtain⟨κ,ha,hd,hh⟩:=(A.get k hk).lend
 obtain⟨b,o,cs,e1,_,_⟩:=(h _ _ hd ha).at ht hi
 refine⟨b,o,e1,fun j u B ρ' L' w' hw'=>?_⟩
 obtain⟨κ',ha',hd',hh'⟩:=hw'.lend
 obtain⟨b',o',cs',e1',e2',hat⟩:=(h _ _ hd' ha').at ht hi
 have e3:=(e1 w).symm.trans (e1' w)
 simp only[Result.ok.injEq,Value.pointer.injEq,vR,Addr.mk.injEq,and_true] at e3
 obtain⟨rfl,rfl⟩:=e3
 have e2'':cs'=Enc.enc e:=e2'
 subst e2''
 exact cell_of hh'.le (hat j u B)
end
theorem vZ:nY Tryz.prog 24 4 4:=fun b o w=>by simp[Instr.fieldAt,go_sem]
theorem jR:VarTy Tryz.prog 22 false 1:=⟨fun w=>by simp[isAgg,go_sem],fun w=>by simp[sizeOf,go_sem]<;>rfl⟩
theorem kK:SlTy Tryz.prog 22 24 5 64:=SlTy.of (z:= .agg #[.int .i64 0,.string ByteArray.empty,.int .i64 0,.int .i64 0,.slice none 0 0]) kr kr O
theorem dC:VarTy Tryz.prog 24 true 5:=⟨fun w=>by simp[isAgg,go_sem],fun w=>by simp[sizeOf,go_sem]<;>rfl⟩
theorem yJ:nY Tryz.prog 24 0 0:=fun b o w=>by simp[Instr.fieldAt,go_sem]
theorem aY:VarTy Tryz.prog 3 false 1:=⟨fun w=>by simp[isAgg,go_sem],fun w=>by simp[sizeOf,go_sem]<;>rfl⟩
theorem wX:nY Tryz.prog 24 1 1:=fun b o w=>by simp[Instr.fieldAt,go_sem]
theorem aC6:VarTy Tryz.prog 9 false 1:=⟨fun w=>by simp[isAgg,go_sem],fun w=>by simp[sizeOf,go_sem]<;>rfl⟩
theorem ent82:∀args w,(callFunc 82 args).run Tryz.prog w= .ok (.enter 82 args) w:=enters Tryz.func82 kr O
theorem ent55:∀args w,(callFunc 55 args).run Tryz.prog w= .ok (.enter 55 args) w:=enters Tryz.func55 kr O
theorem sty9:Tryz.prog.underlying 9=some .string:=by kernel_rfl
theorem ent58:∀args w,(callFunc 58 args).run Tryz.prog w= .ok (.enter 58 args) w:=enters Tryz.func58 kr O
theorem aW:VarTy Tryz.prog 73 false 1:=⟨fun w=>by simp[isAgg,go_sem],fun w=>by simp[sizeOf,go_sem]<;>rfl⟩
theorem bJ:SlTy Tryz.prog 73 3 1 8:=SlTy.of (z:= .int .i64 0) kr kr O
theorem jQ:SlTy Tryz.prog 83 73 1 24:=SlTy.of (z:= .slice none 0 0) kr kr O
theorem ent64:∀args w,(callFunc 64 args).run Tryz.prog w= .ok (.enter 64 args) w:=enters Tryz.func64 kr O
theorem ent89:∀args w,(callFunc 89 args).run Tryz.prog w= .ok (.enter 89 args) w:=enters Tryz.func89 kr O
theorem ent103:∀args w,(callFunc 103 args).run Tryz.prog w= .ok (.enter 103 args) w:=enters Tryz.func103 kr O
theorem ent88:∀args w,(callFunc 88 args).run Tryz.prog w= .ok (.enter 88 args) w:=enters Tryz.func88 kr O
theorem jL:nY Tryz.prog 135 0 0:=fun b o w=>by simp[Instr.fieldAt,go_sem]
theorem kU:VarTy Tryz.prog 133 false 1:=⟨fun w=>by simp[isAgg,go_sem],fun w=>by simp[sizeOf,go_sem]<;>rfl⟩
theorem qK:SlTy Tryz.prog 133 156 2 24:=SlTy.of (z:= .agg #[.int .i64 0,.string ByteArray.empty]) kr kr O
theorem varty154:VarTy Tryz.prog 154 false 1:=⟨fun w=>by simp[isAgg,go_sem],fun w=>by simp[sizeOf,go_sem]<;>rfl⟩
theorem ent104:∀args w,(callFunc 104 args).run Tryz.prog w= .ok (.enter 104 args) w:=enters Tryz.func104 kr O
theorem iM:nY Tryz.prog 135 1 1:=fun b o w=>by simp[Instr.fieldAt,go_sem]
theorem kG:nY Tryz.prog 135 2 2:=fun b o w=>by simp[Instr.fieldAt,go_sem]
theorem iO:VarTy Tryz.prog 135 true 3:=⟨fun w=>by simp[isAgg,go_sem],fun w=>by simp[sizeOf,go_sem]<;>rfl⟩
theorem kt3:KT Tryz.prog 3 Int:=kt_int kr
theorem mapty157:Tryz.prog.underlying 157=some (.map 3 3):=by kernel_rfl
theorem ent107:∀args w,(callFunc 107 args).run Tryz.prog w= .ok (.enter 107 args) w:=enters Tryz.func107 kr O
theorem ent106:∀args w,(callFunc 106 args).run Tryz.prog w= .ok (.enter 106 args) w:=enters Tryz.func106 kr O
theorem ent91:∀args w,(callFunc 91 args).run Tryz.prog w= .ok (.enter 91 args) w:=enters Tryz.func91 kr O
theorem varty83:VarTy Tryz.prog 83 false 1:=⟨fun w=>by simp[isAgg,go_sem],fun w=>by simp[sizeOf,go_sem]<;>rfl⟩
theorem varty156:VarTy Tryz.prog 156 true 2:=⟨fun w=>by simp[isAgg,go_sem],fun w=>by simp[sizeOf,go_sem]<;>rfl⟩
theorem eqst156 (a0:Int) (a1:ByteArray) (b0:Int) (b1:ByteArray):EqSt Tryz.prog 156 [.int .i64 a0,.string a1] [.int .i64 b0,.string b1] ((decide (a0=b0))&&(decide (a1=b1))):=eqst_of kr kr kr fun w=>by
 simp only[Program.fieldsOf,Tryz.underlying156]
 go_simp
 by_cases h0:a0=b0<;>by_cases h1:a1=b1<;>simp[*,ba_inj]
theorem D5:∀args w,(callFunc 90 args).run Tryz.prog w= .ok (.enter 90 args) w:=enters Tryz.func90 kr O
theorem ent92:∀args w,(callFunc 92 args).run Tryz.prog w= .ok (.enter 92 args) w:=enters Tryz.func92 kr O
theorem ent93:∀args w,(callFunc 93 args).run Tryz.prog w= .ok (.enter 93 args) w:=enters Tryz.func93 kr O
theorem ent105:∀args w,(callFunc 105 args).run Tryz.prog w= .ok (.enter 105 args) w:=enters Tryz.func105 kr O
theorem ent67:∀args w,(callFunc 67 args).run Tryz.prog w= .ok (.enter 67 args) w:=enters Tryz.func67 kr O
theorem ent68:∀args w,(callFunc 68 args).run Tryz.prog w= .ok (.enter 68 args) w:=enters Tryz.func68 kr O
theorem aJ:SlTy Tryz.prog 25 46 2 16:=SlTy.of (z:= .agg #[.int .i64 0,.int .i64 0]) kr kr O
theorem zZ:SlTy Tryz.prog 68 4 1 1:=SlTy.of (z:= .bool false) kr kr O
theorem fO:VarTy Tryz.prog 46 true 2:=⟨fun w=>by simp[isAgg,go_sem],fun w=>by simp[sizeOf,go_sem]<;>rfl⟩
theorem eQ:nY Tryz.prog 46 0 0:=fun b o w=>by simp[Instr.fieldAt,go_sem]
theorem eP:nY Tryz.prog 46 1 1:=fun b o w=>by simp[Instr.fieldAt,go_sem]
theorem aC5:VarTy Tryz.prog 4 false 1:=⟨fun w=>by simp[isAgg,go_sem],fun w=>by simp[sizeOf,go_sem]<;>rfl⟩
theorem bty4:Tryz.prog.underlying 4=some .bool:=by kernel_rfl
theorem ent86:∀args w,(callFunc 86 args).run Tryz.prog w= .ok (.enter 86 args) w:=enters Tryz.func86 kr O
theorem ent57:∀args w,(callFunc 57 args).run Tryz.prog w= .ok (.enter 57 args) w:=enters Tryz.func57 kr O
theorem eqst46 (a0:Int) (a1:Int) (b0:Int) (b1:Int):EqSt Tryz.prog 46 [.int .i64 a0,.int .i64 a1] [.int .i64 b0,.int .i64 b1] ((decide (a0=b0))&&(decide (a1=b1))):=eqst_of kr kr kr fun w=>by
 simp only[Program.fieldsOf,Tryz.underlying46]
 go_simp
 by_cases h0:a0=b0<;>by_cases h1:a1=b1<;>simp[*]
theorem wO:SlTy Tryz.prog 34 58 6 56:=SlTy.of (z:= .agg #[.int .i64 0,.int .i64 0,.int .i64 0,.int .i64 0,.int .i64 0,.string ByteArray.empty]) kr kr O
theorem yB:VarTy Tryz.prog 58 true 6:=⟨fun w=>by simp[isAgg,go_sem],fun w=>by simp[sizeOf,go_sem]<;>rfl⟩
theorem eqst58 (a0:Int) (a1:Int) (a2:Int) (a3:Int) (a4:Int) (a5:ByteArray) (b0:Int) (b1:Int) (b2:Int) (b3:Int) (b4:Int) (b5:ByteArray):EqSt Tryz.prog 58 [.int .i64 a0,.int .i64 a1,.int .i64 a2,.int .i64 a3,.int .i64 a4,.string a5] [.int .i64 b0,.int .i64 b1,.int .i64 b2,.int .i64 b3,.int .i64 b4,.string b5] ((decide (a0=b0))&&(decide (a1=b1))&&(decide (a2=b2))&&(decide (a3=b3))&&(decide (a4=b4))&&(decide (a5=b5))):=eqst_of kr kr kr fun w=>by
 simp only[Program.fieldsOf,Tryz.underlying58]
 go_simp
 by_cases h0:a0=b0<;>by_cases h1:a1=b1<;>by_cases h2:a2=b2<;>by_cases h3:a3=b3<;>by_cases h4:a4=b4<;>by_cases h5:a5=b5<;>simp[*,ba_inj]
theorem fldty58_2:nY Tryz.prog 58 2 2:=fun b o w=>by simp[Instr.fieldAt,go_sem]
theorem fldty58_3:nY Tryz.prog 58 3 3:=fun b o w=>by simp[Instr.fieldAt,go_sem]
theorem V4:nY Tryz.prog 58 1 1:=fun b o w=>by simp[Instr.fieldAt,go_sem]
theorem fldty58_0:nY Tryz.prog 58 0 0:=fun b o w=>by simp[Instr.fieldAt,go_sem]
theorem uG:nY Tryz.prog 75 1 1:=fun b o w=>by simp[Instr.fieldAt,go_sem]
theorem kW:nY Tryz.prog 75 0 0:=fun b o w=>by simp[Instr.fieldAt,go_sem]
theorem oO:nY Tryz.prog 75 2 2:=fun b o w=>by simp[Instr.fieldAt,go_sem]
theorem varty110:VarTy Tryz.prog 110 false 1:=⟨fun w=>by simp[isAgg,go_sem],fun w=>by simp[sizeOf,go_sem]<;>rfl⟩
theorem ent63:∀args w,(callFunc 63 args).run Tryz.prog w= .ok (.enter 63 args) w:=enters Tryz.func63 kr O
theorem dD:VarTy Tryz.prog 75 true 3:=⟨fun w=>by simp[isAgg,go_sem],fun w=>by simp[sizeOf,go_sem]<;>rfl⟩
theorem varty115:VarTy Tryz.prog 115 false 1:=⟨fun w=>by simp[isAgg,go_sem],fun w=>by simp[sizeOf,go_sem]<;>rfl⟩
theorem ent69:∀args w,(callFunc 69 args).run Tryz.prog w= .ok (.enter 69 args) w:=enters Tryz.func69 kr O
theorem ent39:∀args w,(callFunc 39 args).run Tryz.prog w= .ok (.enter 39 args) w:=enters Tryz.func39 kr O
theorem ent38:∀args w,(callFunc 38 args).run Tryz.prog w= .ok (.enter 38 args) w:=enters Tryz.func38 kr O
theorem fldty88_0:nY Tryz.prog 88 0 0:=fun b o w=>by simp[Instr.fieldAt,go_sem]
theorem F5:nY Tryz.prog 88 2 6:=fun b o w=>by simp[Instr.fieldAt,go_sem]
theorem fldty88_1:nY Tryz.prog 88 1 3:=fun b o w=>by simp[Instr.fieldAt,go_sem]
theorem F6:nY Tryz.prog 88 4 8:=fun b o w=>by simp[Instr.fieldAt,go_sem]
theorem ent41:∀args w,(callFunc 41 args).run Tryz.prog w= .ok (.enter 41 args) w:=enters Tryz.func41 kr O
theorem yK:nY Tryz.prog 88 3 7:=fun b o w=>by simp[Instr.fieldAt,go_sem]
theorem yL:nY Tryz.prog 88 5 9:=fun b o w=>by simp[Instr.fieldAt,go_sem]
theorem ent72:∀args w,(callFunc 72 args).run Tryz.prog w= .ok (.enter 72 args) w:=enters Tryz.func72 kr O
theorem fldty88_6:nY Tryz.prog 88 6 10:=fun b o w=>by simp[Instr.fieldAt,go_sem]
theorem ent71:∀args w,(callFunc 71 args).run Tryz.prog w= .ok (.enter 71 args) w:=enters Tryz.func71 kr O
theorem V5:nY Tryz.prog 88 7 11:=fun b o w=>by simp[Instr.fieldAt,go_sem]
theorem V6:nY Tryz.prog 88 8 12:=fun b o w=>by simp[Instr.fieldAt,go_sem]
theorem ent51:∀args w,(callFunc 51 args).run Tryz.prog w= .ok (.enter 51 args) w:=enters Tryz.func51 kr O
theorem ent66:∀args w,(callFunc 66 args).run Tryz.prog w= .ok (.enter 66 args) w:=enters Tryz.func66 kr O
theorem kE:∀args w,(callFunc 40 args).run Tryz.prog w= .ok (.enter 40 args) w:=enters Tryz.func40 kr O
theorem ent45:∀args w,(callFunc 45 args).run Tryz.prog w= .ok (.enter 45 args) w:=enters Tryz.func45 kr O
theorem ent46:∀args w,(callFunc 46 args).run Tryz.prog w= .ok (.enter 46 args) w:=enters Tryz.func46 kr O
theorem ent17:∀args w,(callFunc 17 args).run Tryz.prog w= .ok (.enter 17 args) w:=enters Tryz.func17 kr O
theorem ent100:∀args w,(callFunc 100 args).run Tryz.prog w= .ok (.enter 100 args) w:=enters Tryz.func100 kr O
theorem ent85:∀args w,(callFunc 85 args).run Tryz.prog w= .ok (.enter 85 args) w:=enters Tryz.func85 kr O
theorem ent84:∀args w,(callFunc 84 args).run Tryz.prog w= .ok (.enter 84 args) w:=enters Tryz.func84 kr O
theorem ent123:∀args w,(callFunc 123 args).run Tryz.prog w= .ok (.enter 123 args) w:=enters Tryz.func123 kr O
theorem ent118:∀args w,(callFunc 118 args).run Tryz.prog w= .ok (.enter 118 args) w:=enters Tryz.func118 kr O
theorem ent113:∀args w,(callFunc 113 args).run Tryz.prog w= .ok (.enter 113 args) w:=enters Tryz.func113 kr O
theorem ent112:∀args w,(callFunc 112 args).run Tryz.prog w= .ok (.enter 112 args) w:=enters Tryz.func112 kr O
theorem ent99:∀args w,(callFunc 99 args).run Tryz.prog w= .ok (.enter 99 args) w:=enters Tryz.func99 kr O
theorem ent83:∀args w,(callFunc 83 args).run Tryz.prog w= .ok (.enter 83 args) w:=enters Tryz.func83 kr O
theorem ent56:∀args w,(callFunc 56 args).run Tryz.prog w= .ok (.enter 56 args) w:=enters Tryz.func56 kr O
theorem ent13:∀args w,(callFunc 13 args).run Tryz.prog w= .ok (.enter 13 args) w:=enters Tryz.func13 kr O
theorem mapty103:Tryz.prog.underlying 103=some (.map 3 4):=by kernel_rfl
theorem zero4:∀w,(zeroValue 4).run Tryz.prog w= .ok (.bool false) w:=fun w=>by simp[go_sem]<;>rfl
theorem slty111:SlTy Tryz.prog 111 34 1 24:=SlTy.of (z:= .slice none 0 0) kr kr O
theorem varty34:VarTy Tryz.prog 34 false 1:=⟨fun w=>by simp[isAgg,go_sem],fun w=>by simp[sizeOf,go_sem]<;>rfl⟩
theorem ent65:∀args w,(callFunc 65 args).run Tryz.prog w= .ok (.enter 65 args) w:=enters Tryz.func65 kr O
theorem ent42:∀args w,(callFunc 42 args).run Tryz.prog w= .ok (.enter 42 args) w:=enters Tryz.func42 kr O
theorem ent43:∀args w,(callFunc 43 args).run Tryz.prog w= .ok (.enter 43 args) w:=enters Tryz.func43 kr O
theorem ent44:∀args w,(callFunc 44 args).run Tryz.prog w= .ok (.enter 44 args) w:=enters Tryz.func44 kr O
theorem ent95:∀args w,(callFunc 95 args).run Tryz.prog w= .ok (.enter 95 args) w:=enters Tryz.func95 kr O
theorem ent70:∀args w,(callFunc 70 args).run Tryz.prog w= .ok (.enter 70 args) w:=enters Tryz.func70 kr O
theorem ent48:∀args w,(callFunc 48 args).run Tryz.prog w= .ok (.enter 48 args) w:=enters Tryz.func48 kr O
theorem ent49:∀args w,(callFunc 49 args).run Tryz.prog w= .ok (.enter 49 args) w:=enters Tryz.func49 kr O
theorem ent50:∀args w,(callFunc 50 args).run Tryz.prog w= .ok (.enter 50 args) w:=enters Tryz.func50 kr O
theorem ent31:∀args w,(callFunc 31 args).run Tryz.prog w= .ok (.enter 31 args) w:=enters Tryz.func31 kr O
theorem ent36:∀args w,(callFunc 36 args).run Tryz.prog w= .ok (.enter 36 args) w:=enters Tryz.func36 kr O
theorem ent35:∀args w,(callFunc 35 args).run Tryz.prog w= .ok (.enter 35 args) w:=enters Tryz.func35 kr O
theorem ent15:∀args w,(callFunc 15 args).run Tryz.prog w= .ok (.enter 15 args) w:=enters Tryz.func15 kr O
theorem ent16:∀args w,(callFunc 16 args).run Tryz.prog w= .ok (.enter 16 args) w:=enters Tryz.func16 kr O
theorem ent24:∀args w,(callFunc 24 args).run Tryz.prog w= .ok (.enter 24 args) w:=enters Tryz.func24 kr O
theorem ent21:∀args w,(callFunc 21 args).run Tryz.prog w= .ok (.enter 21 args) w:=enters Tryz.func21 kr O
theorem ent19:∀args w,(callFunc 19 args).run Tryz.prog w= .ok (.enter 19 args) w:=enters Tryz.func19 kr O
theorem ent25:∀args w,(callFunc 25 args).run Tryz.prog w= .ok (.enter 25 args) w:=enters Tryz.func25 kr O
theorem ent26:∀args w,(callFunc 26 args).run Tryz.prog w= .ok (.enter 26 args) w:=enters Tryz.func26 kr O
theorem ent29:∀args w,(callFunc 29 args).run Tryz.prog w= .ok (.enter 29 args) w:=enters Tryz.func29 kr O
theorem ent10:∀args w,(callFunc 10 args).run Tryz.prog w= .ok (.enter 10 args) w:=enters Tryz.func10 kr O
theorem ent11:∀args w,(callFunc 11 args).run Tryz.prog w= .ok (.enter 11 args) w:=enters Tryz.func11 kr O
theorem ent27:∀args w,(callFunc 27 args).run Tryz.prog w= .ok (.enter 27 args) w:=enters Tryz.func27 kr O
theorem ent30:∀args w,(callFunc 30 args).run Tryz.prog w= .ok (.enter 30 args) w:=enters Tryz.func30 kr O
theorem aA7 {Z:World} {ρ:PH} {L:List bP} {w:World} (D:Node) (aI:Value) (bG:aH ρ aI D.kids) (C:Node) (aN:Value) (bT:aH ρ aN C.kids) (F:Hp Z ρ (L) w) (r:Bool) (H:uK D C=some r):
  Calls Tryz.prog 82 #[(.agg #[(Iv D.kind),(.string D.text),(Iv D.at_),(Iv D.fin),aI]),(.agg #[(Iv C.kind),(.string C.text),(Iv C.at_),(Iv C.fin),aN])] w (Ret fun v w'=>v=(.bool r)∧Hp Z ρ (L) w'):=by
 refine enter (N:=17) Tryz.func82 O O [(0,(.agg #[(Iv D.kind),(.string D.text),(Iv D.at_),(Iv D.fin),aI])),(1,(.agg #[(Iv C.kind),(.string C.text),(Iv C.at_),(Iv C.fin),aN]))] O (bC ⟨O,O,tv⟩) fun a A=>?_
 unfold uK at H
 refine aG (aC ?_)
 refine jD (wk0 O) O O A F O (v:=(.agg #[(Iv D.kind),(.string D.text),(Iv D.at_),(Iv D.fin),aI])) O ?_
 intro a w b1 A F
 have F:=r1 F
 refine jD (wk0 O) O O A F O (v:=(.agg #[(Iv C.kind),(.string C.text),(Iv C.at_),(Iv C.fin),aN])) O ?_
 intro a w b2 A F
 have F:=r2 F
 refine S A 1 O fun a A=>aA (aG ?_)
 refine aC (V A F O (xf A yJ O O) fun a A=>?_)
 refine V A F O (xl A aY 1 O O O O) fun a A=>V A F O (xf A yJ O O) fun a A=>V A F O (xl A aY 0 O O O O) fun a A=>S A 2 O fun a A=>?_
 refine jH [_,_,_,_,_,_] (fun a w=>Env 17 [(16,(.bool ((decide (D.kind=C.kind))&&(decide (D.text=C.text)))))] a∧Hp Z ρ (Pt b2 (.cells #[(Iv C.kind),(.string C.text),(Iv C.at_),(Iv C.fin),aN] 24 (0,0))::Pt b1 (.cells #[(Iv D.kind),(.string D.text),(Iv D.at_),(Iv D.fin),aI] 24 (0,0))::L) w) ?_ ?_
 ·rcases uW (decide (D.kind=C.kind)) with B|B
  ·
   refine G A F B O (xf A wX O O) fun a A=>G A F B O (xl A aC6 1 O O O O) fun a A=>G A F B O (xf A wX O O) fun a A=>G A F B O (xl A aC6 0 O O O O) fun a A=>G A F B O (v:=(.bool (decide (D.text=C.text)))) (ex_seql O A O O) fun a A=>pk1 A B O O O O fun a A=>?_
   have A:=A.eqv (v':=(.bool ((decide (D.kind=C.kind))&&(decide (D.text=C.text))))) (by rw[B];rfl)
   exact aA ⟨A.cut ⟨O,tv⟩,F⟩
  refine Gk A B O fun a A=>Gk A B O fun a A=>Gk A B O fun a A=>Gk A B O fun a A=>Gk A B O fun a A=>pk0 A B O O O O fun a A=>?_
  have A:=A.eqv (v':=(.bool ((decide (D.kind=C.kind))&&(decide (D.text=C.text))))) (by rw[B];rfl)
  exact aA ⟨A.cut ⟨O,tv⟩,F⟩
 rintro a w ⟨A,F⟩
 refine S A 1 O fun a A=>aA (dF ?_)
 obtain rfl:=oj H
 exact iK A O O ⟨_,O,O,(((F.get 1 O).drop).drop)⟩
theorem P7 (self:Node→Node→Option Bool) (hself:∀{Z:World} {ρ:PH} {L:List bP} {w:World} (C:Node) (aI:Value) (bG:aH ρ aI C.kids) (B:Node) (aN:Value) (bT:aH ρ aN B.kids) (F:Hp Z ρ (L) w) (r:Bool) (I:self C B=some r),Calls Tryz.prog 55 #[(.agg #[(Iv C.kind),(.string C.text),(Iv C.at_),(Iv C.fin),aI]),(.agg #[(Iv B.kind),(.string B.text),(Iv B.at_),(Iv B.fin),aN])] w (Ret fun v w'=>v=(.bool r)∧Hp Z ρ (L) w')) {Z:World} {ρ:PH} {L:List bP} {w:World} (C:Node) (aI:Value) (bG:aH ρ aI C.kids) (B:Node) (aN:Value) (bT:aH ρ aN B.kids) (F:Hp Z ρ (L) w) (r:Bool) (I:qN self C B=some r):
  Calls Tryz.prog 55 #[(.agg #[(Iv C.kind),(.string C.text),(Iv C.at_),(Iv C.fin),aI]),(.agg #[(Iv B.kind),(.string B.text),(Iv B.at_),(Iv B.fin),aN])] w (Ret fun v w'=>v=(.bool r)∧Hp Z ρ (L) w'):=by
 refine enter (N:=38) Tryz.func55 O O [(0,(.agg #[(Iv C.kind),(.string C.text),(Iv C.at_),(Iv C.fin),aI])),(1,(.agg #[(Iv B.kind),(.string B.text),(Iv B.at_),(Iv B.fin),aN]))] O (bC ⟨O,O,tv⟩) fun a A=>?_
 unfold qN at I
 refine aG (aC ?_)
 refine jD (wk0 O) O O A F O (v:=(.agg #[(Iv C.kind),(.string C.text),(Iv C.at_),(Iv C.fin),aI])) O ?_
 intro a w b1 A F
 have F:=r1 F
 refine jD (wk0 O) O O A F O (v:=(.agg #[(Iv B.kind),(.string B.text),(Iv B.at_),(Iv B.fin),aN])) O ?_
 intro a w b2 A F
 have F:=r2 F
 refine S A 1 O fun a A=>aA (aG ?_)
 refine aG (aC ?_)
 refine V A F O (aK O A O (fun w M=>aV (cs:=[(Iv C.kind),(.string C.text),(Iv C.at_),(Iv C.fin),aI]) dC (Hp.cN 1 O 0 _ (aS O) w M))) fun a A=>V A F O (aK O A O (fun w M=>aV (cs:=[(Iv B.kind),(.string B.text),(Iv B.at_),(Iv B.fin),aN]) dC (Hp.cN 0 O 0 _ (aS O) w M))) fun a A=>?_
 obtain⟨Y,k,I⟩:=bnd I
 refine Cl A O O ent82 (aA7 C aI bG B aN bT F Y k) ⟨O,O,tv⟩ fun v a w n A=>?_
 obtain⟨rfl,F⟩:=n
 have F:=r2 F
 refine S A 2 O fun a A=>?_
 refine jH [_,_,_,_,_,_,_,_] (fun a w=>Env 38 [(18,(.bool ((!Y)||(!decide ((C.kids.length:Int)=(B.kids.length:Int)))))),(2,(Pv b1 0)),(3,(Pv b2 0))] a∧Hp Z ρ (Pt b2 (.cells #[(Iv B.kind),(.string B.text),(Iv B.at_),(Iv B.fin),aN] 24 (0,0))::Pt b1 (.cells #[(Iv C.kind),(.string C.text),(Iv C.at_),(Iv C.fin),aI] 24 (0,0))::L) w) ?_ ?_
 ·rcases uW (!Y) with H|H
  ·
   refine Gk A H O fun a A=>Gk A H O fun a A=>Gk A H O fun a A=>Gk A H O fun a A=>Gk A H O fun a A=>Gk A H O fun a A=>Gk A H O fun a A=>pk1 A H O O O O fun a A=>?_
   have A:=A.eqv (v':=(.bool ((!Y)||(!decide ((C.kids.length:Int)=(B.kids.length:Int)))))) (by rw[H];rfl)
   exact aA ⟨A.cut ⟨O,O,O,tv⟩,F⟩
  refine G A F H O (xf A vZ O O) fun a A=>G A F H O (xl A jR 1 O O O O) fun a A=>G A F H O (dB O A O (aH.len bG kK)) fun a A=>G A F H O (xf A vZ O O) fun a A=>G A F H O (xl A jR 0 O O O O) fun a A=>G A F H O (dB O A O (aH.len bT kK)) fun a A=>Gs A H O O fun a A=>pk0 A H O O O O fun a A=>?_
  have A:=A.eqv (v':=(.bool ((!Y)||(!decide ((C.kids.length:Int)=(B.kids.length:Int)))))) (by rw[H];rfl)
  exact aA ⟨A.cut ⟨O,O,O,tv⟩,F⟩
 rintro a w ⟨A,F⟩
 refine aA ?_
 refine dJ A O (fun X=>?_) (fun X=>?_)
 ·replace I:=(it X).symm.trans I
  refine aG (aC ?_)
  refine S A 1 O fun a A=>aA (dF ?_)
  obtain rfl:=oj I
  exact iK A O O ⟨_,O,O,(((F.get 1 O).drop).drop)⟩
 replace I:=(ie X).symm.trans I
 refine bD (aG ?_)
 refine aG (aC ?_)
 refine S A 1 O fun a A=>aA ?_
 obtain⟨b3,c,I⟩:=bnd I
 refine dQ (fun a w=>∃s:Unit,b3= .brk s∧(Env 38 [] a∧Hp Z ρ (Pt b2 (.cells #[(Iv B.kind),(.string B.text),(Iv B.at_),(Iv B.fin),aN] 24 (0,0))::Pt b1 (.cells #[(Iv C.kind),(.string C.text),(Iv C.at_),(Iv C.fin),aI] 24 (0,0))::L) w)) ?_ ?_
 ·refine fK c (fun s a w=>Env 38 [(2,(Pv b1 0)),(3,(Pv b2 0)),(5,(Iv s))] a∧Hp Z ρ (Pt b2 (.cells #[(Iv B.kind),(.string B.text),(Iv B.at_),(Iv B.fin),aN] 24 (0,0))::Pt b1 (.cells #[(Iv C.kind),(.string C.text),(Iv C.at_),(Iv C.fin),aI] 24 (0,0))::L) w) ?_ ?_
  ·exact⟨A.cut ⟨O,O,O,tv⟩,F⟩
  rintro aT st a w ⟨A,F⟩ D
  unfold tN at D
  refine aG (aG ?_)
  refine aC (S A 1 O fun a A=>?_)
  refine V A F O (xf A vZ O O) fun a A=>V A F O (xl A jR 1 O O O O) fun a A=>V A F O (dB O A O (aH.len bG kK)) fun a A=>S A 1 O fun a A=>aA ?_
  refine dJ A O (fun U=>?_) (fun U=>?_)
  ·replace D:=(it U).symm.trans D
   refine bD (aG ?_)
   refine dS (aG ?_)
   refine kJ kr kr F ?_
   refine Vq A O (xf A vZ O O) fun a A=>Vq A O (xl A jR 1 O O O O) fun a A=>Sq A 1 O fun a A=>?_
   obtain⟨K,i,D⟩:=bnd D
   obtain⟨b4,b4o,b4c,b4r,b4k,b4f⟩:=aH.at bG kK i
   obtain⟨yC,rfl,hb4_kids⟩:=NodeAt.opens b4k
   have b4f:AtP ρ b4 b4o [(Iv K.kind),(.string K.text),(Iv K.at_),(Iv K.fin),yC]:=b4f
   refine Vq A O (aP O A O O b4r) fun a A=>Vq A O (aK O A O (fun w M=>aV (cs:=[(Iv K.kind),(.string K.text),(Iv K.at_),(Iv K.fin),yC]) dC (fun j u b=>cell_of M.le (b4f j u b)))) fun a A=>Vq A O (xf A vZ O O) fun a A=>Vq A O (xl A jR 0 O O O O) fun a A=>Sq A 1 O fun a A=>?_
   obtain⟨J,h,D⟩:=bnd D
   obtain⟨b5,b5o,b5c,b5r,b5k,b5f⟩:=aH.at bT kK h
   obtain⟨aG6,rfl,hb5_kids⟩:=NodeAt.opens b5k
   have b5f:AtP ρ b5 b5o [(Iv J.kind),(.string J.text),(Iv J.at_),(Iv J.fin),aG6]:=b5f
   refine Vq A O (aP O A O O b5r) fun a A=>Vq A O (aK O A O (fun w M=>aV (cs:=[(Iv J.kind),(.string J.text),(Iv J.at_),(Iv J.fin),aG6]) dC (fun j u b=>cell_of M.le (b5f j u b)))) fun a A=>?_
   obtain⟨m,g,D⟩:=bnd D
   refine J7 (wk0 O) O O A O [(.agg #[(Iv K.kind),(.string K.text),(Iv K.at_),(Iv K.fin),yC]),(.agg #[(Iv J.kind),(.string J.text),(Iv J.at_),(Iv J.fin),aG6])] ⟨O,O,tv⟩ ent55 (v:=(.bool m)) (fun w M=>Calls.mono (hself K yC hb4_kids J aG6 hb5_kids M m g) fun e w' ⟨v,he,hv,hh⟩=>⟨by rw[he,hv],hh⟩) ?_
   intro a A
   refine Sq A 1 O fun a A=>?_
   refine jY fun w F=>?_
   have F:=r2 F
   refine dJ A O (fun R=>?_) (fun R=>?_)
   ·replace D:=(it R).symm.trans D
    refine aG (aC ?_)
    refine S A 1 O fun a A=>aA (dF ?_)
    refine⟨_,(oj D).symm,fun hb=>?_⟩
    subst hb
    obtain rfl:=oj I
    exact iK A O O ⟨_,O,O,(((F.get 1 O).drop).drop)⟩
   replace D:=(ie R).symm.trans D
   refine bD (aC ?_)
   refine S A 1 O fun a A=>?_
   obtain⟨x5,f,D⟩:=bnd D
   refine V A F O (bI O A O O (aO f)) fun a A=>S A 1 O fun a A=>aA ?_
   exact⟨_,(oj D).symm,A.cut ⟨O,O,O,tv⟩,F⟩
  replace D:=(ie U).symm.trans D
  refine eU ?_
  refine⟨_,(oj D).symm,fun hbb=>?_⟩
  exact⟨_,hbb.symm,A.cut trivial,F⟩
 rintro a w ⟨b3s,rfl,A,F⟩
 dsimp only at I
 refine aG (aC ?_)
 refine S A 1 O fun a A=>aA ?_
 have A:=A.cut (E':=[(4,(.bool true))]) ⟨O,tv⟩
 refine dF ?_
 obtain rfl:=oj I
 exact iK A O O ⟨_,O,O,(((F.get 1 O).drop).drop)⟩
theorem Y4:∀(n:Nat),∀{Z:World} {ρ:PH} {L:List bP} {w:World} (B:Node) (aI:Value) (bG:aH ρ aI B.kids) (A:Node) (aN:Value) (bT:aH ρ aN A.kids) (D:Hp Z ρ (L) w) (r:Bool) (C:pU n B A=some r),Calls Tryz.prog 55 #[(.agg #[(Iv B.kind),(.string B.text),(Iv B.at_),(Iv B.fin),aI]),(.agg #[(Iv A.kind),(.string A.text),(Iv A.at_),(Iv A.fin),aN])] w (Ret fun v w'=>v=(.bool r)∧Hp Z ρ (L) w'):=by
 intro n
 induction n with
 |zero=>intro Z ρ L w B aI bG A aN bT D r C;cases C
 |succ n ih=>intro Z ρ L w B aI bG A aN bT D r C;exact P7 (pU n) ih B aI bG A aN bT D r C
theorem aB4 {Z:World} {ρ:PH} {L:List bP} {w:World} (B:Node) (aI:Value) (bG:aH ρ aI B.kids) (A:Node) (aN:Value) (bT:aH ρ aN A.kids) (C:Hp Z ρ (L) w) (r:Bool) (D:zG B A=some r):
  Calls Tryz.prog 55 #[(.agg #[(Iv B.kind),(.string B.text),(Iv B.at_),(Iv B.fin),aI]),(.agg #[(Iv A.kind),(.string A.text),(Iv A.at_),(Iv A.fin),aN])] w (Ret fun v w'=>v=(.bool r)∧Hp Z ρ (L) w'):=Y4 _ B aI bG A aN bT C r D
theorem S9 (self:Node→Int→Option Int) (hself:∀{Z:World} {ρ:PH} {L:List bP} {w:World} (B:Node) (aI:Value) (bG:aH ρ aI B.kids) (J:Int) (C:Hp Z ρ (L) w) (r:Int) (I:self B J=some r),Calls Tryz.prog 58 #[(.agg #[(Iv B.kind),(.string B.text),(Iv B.at_),(Iv B.fin),aI]),(Iv J)] w (Ret fun v w'=>v=(Iv r)∧Hp Z ρ (L) w')) {Z:World} {ρ:PH} {L:List bP} {w:World} (B:Node) (aI:Value) (bG:aH ρ aI B.kids) (J:Int) (C:Hp Z ρ (L) w) (r:Int) (I:oD self B J=some r):
  Calls Tryz.prog 58 #[(.agg #[(Iv B.kind),(.string B.text),(Iv B.at_),(Iv B.fin),aI]),(Iv J)] w (Ret fun v w'=>v=(Iv r)∧Hp Z ρ (L) w'):=by
 refine enter (N:=35) Tryz.func58 O O [(0,(.agg #[(Iv B.kind),(.string B.text),(Iv B.at_),(Iv B.fin),aI])),(1,(Iv J))] O (bC ⟨O,O,tv⟩) fun a A=>?_
 unfold oD at I
 refine aG (aC ?_)
 refine jD (wk0 O) O O A C O (v:=(.agg #[(Iv B.kind),(.string B.text),(Iv B.at_),(Iv B.fin),aI])) O ?_
 intro a w b1 A C
 have C:=r1 C
 refine S A 1 O fun a A=>aA (aG ?_)
 refine aG (aC ?_)
 refine S A 3 O fun a A=>?_
 refine jH [_,_,_,_,_] (fun a w=>Env 35 [(13,(.bool ((decide (J<1))||(decide (40<(B.text.size:Int)))))),(1,(Iv J)),(2,(Pv b1 0))] a∧Hp Z ρ (Pt b1 (.cells #[(Iv B.kind),(.string B.text),(Iv B.at_),(Iv B.fin),aI] 24 (0,0))::L) w) ?_ ?_
 ·rcases uW (decide (J<1)) with F|F
  ·
   refine Gk A F O fun a A=>Gk A F O fun a A=>Gk A F O fun a A=>Gk A F O fun a A=>pk1 A F O O O O fun a A=>?_
   have A:=A.eqv (v':=(.bool ((decide (J<1))||(decide (40<(B.text.size:Int)))))) (by rw[F];rfl)
   exact aA ⟨A.cut ⟨O,O,O,tv⟩,C⟩
  refine G A C F O (xf A wX O O) fun a A=>G A C F O (xl A aC6 0 O O O O) fun a A=>G A C F O (v:=(Iv (B.text.size:Int))) (ex_slen sty9 O A O) fun a A=>Gs A F O O fun a A=>pk0 A F O O O O fun a A=>?_
  have A:=A.eqv (v':=(.bool ((decide (J<1))||(decide (40<(B.text.size:Int)))))) (by rw[F];rfl)
  exact aA ⟨A.cut ⟨O,O,O,tv⟩,C⟩
 rintro a w ⟨A,C⟩
 refine aA ?_
 refine dJ A O (fun R=>?_) (fun R=>?_)
 ·replace I:=(it R).symm.trans I
  refine aG (aC ?_)
  refine S A 1 O fun a A=>aA (dF ?_)
  obtain rfl:=oj I
  exact iK A O O ⟨_,O,O,(C.drop)⟩
 replace I:=(ie R).symm.trans I
 refine bD (aG ?_)
 refine aC (S A 1 O fun a A=>?_)
 obtain⟨x1,c,I⟩:=bnd I
 refine V A C O (dX O A O O (aO c)) fun a A=>S A 1 O fun a A=>aA (aG ?_)
 refine aG (aC ?_)
 refine S A 1 O fun a A=>aA ?_
 obtain⟨b2,U,I⟩:=bnd I
 refine dQ (fun a w=>Env 35 [(1,(Iv b2))] a∧Hp Z ρ (Pt b1 (.cells #[(Iv B.kind),(.string B.text),(Iv B.at_),(Iv B.fin),aI] 24 (0,0))::L) w) ?_ ?_
 ·refine fK U (fun s a w=>Env 35 [(1,(Iv s.1)),(2,(Pv b1 0)),(5,(Iv s.2))] a∧Hp Z ρ (Pt b1 (.cells #[(Iv B.kind),(.string B.text),(Iv B.at_),(Iv B.fin),aI] 24 (0,0))::L) w) ?_ ?_
  ·exact⟨A.cut ⟨O,O,O,tv⟩,C⟩
  rintro⟨aT,aU⟩ st a w ⟨A,C⟩ D
  dsimp only at A C D
  unfold jU at D
  refine aG (aG ?_)
  refine aC (S A 1 O fun a A=>?_)
  refine V A C O (xf A vZ O O) fun a A=>V A C O (xl A jR 0 O O O O) fun a A=>V A C O (dB O A O (aH.len bG kK)) fun a A=>S A 2 O fun a A=>?_
  refine jH [_,_,_] (fun a w=>Env 35 [(24,(.bool ((decide (aU<(B.kids.length:Int)))&&(decide (0≤aT))))),(1,(Iv aT)),(2,(Pv b1 0)),(5,(Iv aU))] a∧Hp Z ρ (Pt b1 (.cells #[(Iv B.kind),(.string B.text),(Iv B.at_),(Iv B.fin),aI] 24 (0,0))::L) w) ?_ ?_
  ·rcases uW (decide (aU<(B.kids.length:Int))) with H|H
   ·
    refine Gs A H O O fun a A=>Gs A H O O fun a A=>pk1 A H O O O O fun a A=>?_
    have A:=A.eqv (v':=(.bool ((decide (aU<(B.kids.length:Int)))&&(decide (0≤aT))))) (by rw[H];rfl)
    exact aA ⟨A.cut ⟨O,O,O,O,tv⟩,C⟩
   refine Gk A H O fun a A=>Gk A H O fun a A=>pk0 A H O O O O fun a A=>?_
   have A:=A.eqv (v':=(.bool ((decide (aU<(B.kids.length:Int)))&&(decide (0≤aT))))) (by rw[H];rfl)
   exact aA ⟨A.cut ⟨O,O,O,O,tv⟩,C⟩
  rintro a w ⟨A,C⟩
  refine aA ?_
  refine dJ A O (fun M=>?_) (fun M=>?_)
  ·replace D:=(it M).symm.trans D
   refine bD (aG ?_)
   refine dS (aC ?_)
   refine V A C O (xf A vZ O O) fun a A=>V A C O (xl A jR 0 O O O O) fun a A=>S A 1 O fun a A=>?_
   obtain⟨K,b,D⟩:=bnd D
   obtain⟨b3,b3o,b3c,b3r,b3k,b3f⟩:=aH.at bG kK b
   obtain⟨qC,rfl,V7⟩:=NodeAt.opens b3k
   have b3f:AtP ρ b3 b3o [(Iv K.kind),(.string K.text),(Iv K.at_),(Iv K.fin),qC]:=b3f
   refine V A C O (aP O A O O b3r) fun a A=>V A C O (aK O A O (fun w f=>aV (cs:=[(Iv K.kind),(.string K.text),(Iv K.at_),(Iv K.fin),qC]) dC (fun j u g=>cell_of f.le (b3f j u g)))) fun a A=>S A 1 O fun a A=>?_
   obtain⟨e,Y,D⟩:=bnd D
   refine Cl A O O ent58 (hself K qC V7 aT C e Y) ⟨O,O,tv⟩ fun v a w h A=>?_
   obtain⟨rfl,C⟩:=h
   have C:=r1 C
   refine S A 1 O fun a A=>aA (aC ?_)
   refine S A 1 O fun a A=>?_
   obtain⟨x4,X,D⟩:=bnd D
   refine V A C O (bI O A O O (aO X)) fun a A=>S A 1 O fun a A=>aA ?_
   exact⟨_,(oj D).symm,A.cut ⟨O,O,O,tv⟩,C⟩
  replace D:=(ie M).symm.trans D
  refine eU ?_
  refine⟨_,(oj D).symm,fun hbb=>?_⟩
  subst hbb
  exact⟨A.cut ⟨O,tv⟩,C⟩
 rintro a w ⟨A,C⟩
 refine aG (aC ?_)
 refine S A 2 O fun a A=>aA (dF ?_)
 obtain rfl:=oj I
 exact iK A O O ⟨_,O,O,(C.drop)⟩
theorem aA8:∀(n:Nat),∀{Z:World} {ρ:PH} {L:List bP} {w:World} (A:Node) (aI:Value) (bG:aH ρ aI A.kids) (B:Int) (D:Hp Z ρ (L) w) (r:Int) (C:kH n A B=some r),Calls Tryz.prog 58 #[(.agg #[(Iv A.kind),(.string A.text),(Iv A.at_),(Iv A.fin),aI]),(Iv B)] w (Ret fun v w'=>v=(Iv r)∧Hp Z ρ (L) w'):=by
 intro n
 induction n with
 |zero=>intro Z ρ L w A aI bG B D r C;cases C
 |succ n ih=>intro Z ρ L w A aI bG B D r C;exact S9 (kH n) ih A aI bG B D r C
theorem aE1 {Z:World} {ρ:PH} {L:List bP} {w:World} (A:Node) (aI:Value) (bG:aH ρ aI A.kids) (B:Int) (C:Hp Z ρ (L) w) (r:Int) (D:wG A B=some r):
  Calls Tryz.prog 58 #[(.agg #[(Iv A.kind),(.string A.text),(Iv A.at_),(Iv A.fin),aI]),(Iv B)] w (Ret fun v w'=>v=(Iv r)∧Hp Z ρ (L) w'):=aA8 _ A aI bG B C r D
theorem C9 {Z:World} {ρ:PH} {L:List bP} {w:World} (A:Node) (aI:Value) (bG:aH ρ aI A.kids) (D:Int) (C:Hp Z ρ (L) w) (r:Bool) (F:nG A D=some r):
  Calls Tryz.prog 31 #[(.agg #[(Iv A.kind),(.string A.text),(Iv A.at_),(Iv A.fin),aI]),(Iv D)] w (Ret fun v w'=>v=(.bool r)∧Hp Z ρ (L) w'):=by
 refine enter (N:=9) Tryz.func31 O O [(0,(.agg #[(Iv A.kind),(.string A.text),(Iv A.at_),(Iv A.fin),aI])),(1,(Iv D))] O (bC ⟨O,O,tv⟩) fun a B=>?_
 unfold nG at F
 refine aG (aC ?_)
 refine jD (wk0 O) O O B C O (v:=(.agg #[(Iv A.kind),(.string A.text),(Iv A.at_),(Iv A.fin),aI])) O ?_
 intro a w b1 B C
 have C:=r1 C
 refine S B 1 O fun a B=>aA (aG ?_)
 refine aC (V B C O (aK O B O (fun w I=>aV (cs:=[(Iv A.kind),(.string A.text),(Iv A.at_),(Iv A.fin),aI]) dC (Hp.cN 0 O 0 _ (aS O) w I))) fun a B=>?_)
 refine S B 1 O fun a B=>?_
 obtain⟨H,G,F⟩:=bnd F
 refine Cl B O O ent58 (aE1 A aI bG D C H G) ⟨O,O,tv⟩ fun v a w J B=>?_
 obtain⟨rfl,C⟩:=J
 have C:=r1 C
 refine S B 2 O fun a B=>aA (dF ?_)
 obtain rfl:=oj F
 exact iK B O O ⟨_,O,O,(C.drop)⟩
theorem A8 {Z:World} {ρ:PH} {L:List bP} {w:World} (C:Node) (aI:Value) (bG:aH ρ aI C.kids) (B:Node) (aN:Value) (bT:aH ρ aN B.kids) (I:Int) (F:Hp Z ρ (L) w) (r:Bool) (H:nD C B I=some r):
  Calls Tryz.prog 11 #[(.agg #[(Iv C.kind),(.string C.text),(Iv C.at_),(Iv C.fin),aI]),(.agg #[(Iv B.kind),(.string B.text),(Iv B.at_),(Iv B.fin),aN]),(Iv I)] w (Ret fun v w'=>v=(.bool r)∧Hp Z ρ (L) w'):=by
 refine enter (N:=15) Tryz.func11 O O [(0,(.agg #[(Iv C.kind),(.string C.text),(Iv C.at_),(Iv C.fin),aI])),(1,(.agg #[(Iv B.kind),(.string B.text),(Iv B.at_),(Iv B.fin),aN])),(2,(Iv I))] O (bC ⟨O,O,O,tv⟩) fun a A=>?_
 unfold nD at H
 refine aG (aC ?_)
 refine jD (wk0 O) O O A F O (v:=(.agg #[(Iv C.kind),(.string C.text),(Iv C.at_),(Iv C.fin),aI])) O ?_
 intro a w b1 A F
 have F:=r1 F
 refine jD (wk0 O) O O A F O (v:=(.agg #[(Iv B.kind),(.string B.text),(Iv B.at_),(Iv B.fin),aN])) O ?_
 intro a w b2 A F
 have F:=r2 F
 refine S A 1 O fun a A=>aA (aG ?_)
 refine aC (V A F O (aK O A O (fun w J=>aV (cs:=[(Iv C.kind),(.string C.text),(Iv C.at_),(Iv C.fin),aI]) dC (Hp.cN 1 O 0 _ (aS O) w J))) fun a A=>?_)
 refine S A 1 O fun a A=>?_
 obtain⟨U,R,H⟩:=bnd H
 refine Cl A O O ent31 (C9 C aI bG I F U R) ⟨O,O,tv⟩ fun v a w K A=>?_
 obtain⟨rfl,F⟩:=K
 have F:=r2 F
 refine S A 1 O fun a A=>?_
 obtain⟨m1,hg1,H⟩:=bnd H
 refine jH [_,_,_,_] (fun a w=>Env 15 [(14,(.bool m1))] a∧Hp Z ρ (Pt b2 (.cells #[(Iv B.kind),(.string B.text),(Iv B.at_),(Iv B.fin),aN] 24 (0,0))::Pt b1 (.cells #[(Iv C.kind),(.string C.text),(Iv C.at_),(Iv C.fin),aI] 24 (0,0))::L) w) ?_ ?_
 ·rcases uW U with D|D
  ·
   replace hg1:=(it D).symm.trans hg1
   refine G A F D O (aK O A O (fun w J=>aV (cs:=[(Iv B.kind),(.string B.text),(Iv B.at_),(Iv B.fin),aN]) dC (Hp.cN 0 O 0 _ (aS O) w J))) fun a A=>Gs A D O O fun a A=>?_
   obtain⟨X,M,hg1⟩:=bnd hg1
   refine Cg A D O O ent31 (C9 B aN bT I F X M) ⟨O,O,tv⟩ fun v a w K A=>?_
   obtain⟨rfl,F⟩:=K
   have F:=r2 F
   refine pk1 A D O O O O fun a A=>?_
   obtain rfl:=oj hg1
   exact aA ⟨A.cut ⟨O,tv⟩,F⟩
  replace hg1:=(ie D).symm.trans hg1
  refine Gk A D O fun a A=>Gk A D O fun a A=>Gk A D O fun a A=>pk0 A D O O O O fun a A=>?_
  obtain rfl:=oj hg1
  exact aA ⟨A.cut ⟨O,tv⟩,F⟩
 rintro a w ⟨A,F⟩
 refine S A 1 O fun a A=>aA (dF ?_)
 obtain rfl:=oj H
 exact iK A O O ⟨_,O,O,(((F.get 1 O).drop).drop)⟩
theorem oH {Z:World} {ρ:PH} {L:List bP} {w:World} (C:ByteArray) (A:Hp Z ρ (L) w) (r:Node) (D:kQ C=some r):
  Calls Tryz.prog 36 #[(.string C)] w (Ret fun v w'=>∃(ρ':PH) (O6:Value),ρ.le ρ'∧v=(.agg #[(Iv r.kind),(.string r.text),(Iv r.at_),(Iv r.fin),O6])∧aH ρ' O6 r.kids∧Hp Z ρ' (L) w'):=by
 refine enter (N:=5) Tryz.func36 O O [(0,(.string C))] O (bC ⟨O,tv⟩) fun a B=>?_
 unfold kQ at D
 refine aG (aC ?_)
 refine dM (wk0 O) O O B A O [(Iv 0),(.string ByteArray.empty),(Iv 0),(Iv 0),N0] (fun w=>by simp[Instr.alloc,go_sem]<;>rfl) ?_
 intro a w b1 B A
 have A:=r1 A
 refine aA (aG ?_)
 refine aC (S B 1 O fun a B=>?_)
 refine V B A O (v:=(.agg #[(Iv 20),(.string C),(Iv 0),(Iv 0),N0])) (mJ O B [(0,(Iv 20)),(1,(.string C))] (by exact⟨⟨O,O⟩,⟨O,O⟩,tv⟩) (fun w=>by simp[Instr.build,Instr.fill,Value.cells,go_sem])) fun a B=>?_
 refine aX (wk0 O) O B A O O O 0 O dC.size_ O (aQ ⟨O,O,O,O,O,tv⟩) [(Iv 20),(.string C),(Iv 0),(Iv 0),N0] O ?_
 intro w A
 have A:=r1 A
 refine aA (dF ?_)
 obtain rfl:=oj D
 exact retc1 B O O (aD6 (cs:=[(Iv 20),(.string C),(Iv 0),(Iv 0),N0]) dC (Hp.cN 0 O 0 _ (aS O) _ A)) ⟨_,O,_,_,(PH.le.rf _),O,(aH.nil _),(A.drop)⟩
theorem tX {Z:World} {ρ:PH} {L:List bP} {w:World} (G:ByteArray) (B:Node) (aN:Value) (bT:aH ρ aN B.kids) (A:Node) (iG:Value) (xW:aH ρ iG A.kids) (C:Hp Z ρ (L) w) (r:Node) (J:mQ G B A=some r):
  Calls Tryz.prog 35 #[(.string G),(.agg #[(Iv B.kind),(.string B.text),(Iv B.at_),(Iv B.fin),aN]),(.agg #[(Iv A.kind),(.string A.text),(Iv A.at_),(Iv A.fin),iG])] w (Ret fun v w'=>∃(ρ':PH) (O6:Value),ρ.le ρ'∧v=(.agg #[(Iv r.kind),(.string r.text),(Iv r.at_),(Iv r.fin),O6])∧aH ρ' O6 r.kids∧Hp Z ρ' (L) w'):=by
 refine enter (N:=12) Tryz.func35 O O [(0,(.string G)),(1,(.agg #[(Iv B.kind),(.string B.text),(Iv B.at_),(Iv B.fin),aN])),(2,(.agg #[(Iv A.kind),(.string A.text),(Iv A.at_),(Iv A.fin),iG]))] O (bC ⟨O,O,O,tv⟩) fun a D=>?_
 unfold mQ at J
 refine aG (aC ?_)
 refine jD (wk0 O) O O D C O (v:=(.agg #[(Iv B.kind),(.string B.text),(Iv B.at_),(Iv B.fin),aN])) O ?_
 intro a w b1 D C
 have C:=r1 C
 refine jD (wk0 O) O O D C O (v:=(.agg #[(Iv A.kind),(.string A.text),(Iv A.at_),(Iv A.fin),iG])) O ?_
 intro a w b2 D C
 have C:=r2 C
 refine dM (wk0 O) O O D C O [(Iv 0),(.string ByteArray.empty),(Iv 0),(Iv 0),N0] (fun w=>by simp[Instr.alloc,go_sem]<;>rfl) ?_
 intro a w b3 D C
 have C:=r3 C
 refine aA (aG ?_)
 refine aC (S D 1 O fun a D=>?_)
 refine V D C O (aK O D O (fun w I=>aV (cs:=[(Iv B.kind),(.string B.text),(Iv B.at_),(Iv B.fin),aN]) dC (Hp.cN 2 O 0 _ (aS O) w I))) fun a D=>V D C O (aK O D O (fun w I=>aV (cs:=[(Iv A.kind),(.string A.text),(Iv A.at_),(Iv A.fin),iG]) dC (Hp.cN 1 O 0 _ (aS O) w I))) fun a D=>?_
 refine dR (wk0 O) O O D C O [(0,(.agg #[(Iv B.kind),(.string B.text),(Iv B.at_),(Iv B.fin),aN])),(1,(.agg #[(Iv A.kind),(.string A.text),(Iv A.at_),(Iv A.fin),iG]))] ⟨⟨O,O⟩,⟨O,O⟩,tv⟩ [(Iv B.kind),(.string B.text),(Iv B.at_),(Iv B.fin),aN,(Iv A.kind),(.string A.text),(Iv A.at_),(Iv A.fin),iG] 24 (fun w=>by have F:=aH.cells bT;simp only[Value.cells] at F;have H:=aH.cells xW;simp only[Value.cells] at H;simp[Instr.buildSlice,Instr.fill,Value.cells,F,H,go_sem]) ?_
 intro a w b4 D C
 have C:=r4 C
 obtain⟨k1,k1a,k1d,C⟩:=(C.get 0 O).lend
 have f1:aH (ρ.un k1) (.slice (some ⟨b4,0,none⟩) 2 2) ([B,A]:List Node):=aH.of_all (l:=(([B,A]:List Node))) k1d k1a ⟨_,_,O,(show NodeAt (ρ.un k1) B [(Iv B.kind),(.string B.text),(Iv B.at_),(Iv B.fin),aN] from NodeAt.shutv ((aH.mono bT (PH.le_un _ k1)))),⟨_,_,O,(show NodeAt (ρ.un k1) A [(Iv A.kind),(.string A.text),(Iv A.at_),(Iv A.fin),iG] from NodeAt.shutv ((aH.mono xW (PH.le_un _ k1)))),O⟩⟩
 have C:=r3 C
 refine V D C O (v:=(.agg #[(Iv 29),(.string G),(Iv 0),(Iv 0),(.slice (some ⟨b4,0,none⟩) 2 2)])) (mJ O D [(0,(Iv 29)),(1,(.string G)),(4,(.slice (some ⟨b4,0,none⟩) 2 2))] (by exact⟨⟨O,O⟩,⟨O,O⟩,⟨O,O⟩,tv⟩) (fun w=>by have F:=aH.cells f1;simp only[Value.cells] at F;simp[Instr.build,Instr.fill,Value.cells,F,go_sem])) fun a D=>?_
 refine aX (wk0 O) O D C O O O 0 O dC.size_ O (aQ ⟨O,O,O,O,(aH.one f1),tv⟩) [(Iv 29),(.string G),(Iv 0),(Iv 0),(.slice (some ⟨b4,0,none⟩) 2 2)] O ?_
 intro w C
 have C:=r3 C
 refine aA (dF ?_)
 obtain rfl:=oj J
 exact retc1 D O O (aD6 (cs:=[(Iv 29),(.string G),(Iv 0),(Iv 0),(.slice (some ⟨b4,0,none⟩) 2 2)]) dC (Hp.cN 0 O 0 _ (aS O) _ C)) ⟨_,O,_,_,(PH.le_un _ k1),O,f1,(((((C.get 2 O).drop).get 1 O).drop).drop)⟩
end Go.Proofs.YtopnldfjcciieaaGreat
