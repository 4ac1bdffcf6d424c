/- Parts of owned slices that are looked at; clear; elements of many cells that are turned. Plain theorems over any program. -/
import Derived.Test.YtopnldfjcciieaaGreatKLeT
import Derived.Test.YtopnldfjcciieaaGreatKLe4
import Derived.Test.YtopnldfjcciieaaGreatKLe3
import Derived.Test.YtopnldfjcciieaaGreatProg
set_option linter.unusedVariables false
set_option linter.unusedSimpArgs false
set_option maxRecDepth 100000
set_option maxHeartbeats 4000000
namespace Go.Proofs.YtopnldfjcciieaaGreat
open Go.RowKit
instance rep1List {α:Type} [Rep α]:Rep1 (List α):=⟨fun h v hv=>by
 obtain⟨u,rfl,h⟩:=h
 rw[List.mem_singleton.1 hv];exact h.one,Nat.one_pos⟩
section
variable {Rn:Option Nat} {P:Program} {ops:Array Oper} {Q:Exit→Act→World→Prop} {rest:List Oper} {o:Oper} {a:Act} {w:World} {Df:List Deferred} {N:Nat} {E:Ent} {d:Nat} {Z:World} {ρ:PH} {L:List bQ}
variable {α:Type} [Enc α] {T El:TypeId} {bytes:Nat} {v:Value} {l r:List α}
theorem aC.view (A:Hp Z ρ L w) (k:Nat) (hk:L[k]?=some (aC El v l)) (ht:SlTy P T El (Enc.sz α) bytes) (lo hi:Option (IntKind×Int)) {i j:Int} (hlo:i=match lo with|none=>0|some p=>p.2) (hhi:j=match hi with|none=>(l.length:Int)|some p=>p.2) (hr:sub l i j=some r):
  ∃v',∀w,(Instr.sliceAt T v (lo.map fun p=> .int p.1 p.2) (hi.map fun p=> .int p.1 p.2) none).run P w= .ok v' w:=by
 obtain⟨κ,ha,hd,_⟩:=(A.get k hk).lend
 obtain⟨v',h,_⟩:=aH.part (aC.ro hd ha) ht lo hi hlo hhi hr
 exact⟨v',h⟩
omit [Enc α] in
theorem sl_det [Rep α] (w:World) {x y:Option Value} {v1 v2:Value} (h1:∀w,(Instr.sliceAt T v x y none).run P w= .ok v1 w) (h2:∀w,(Instr.sliceAt T v x y none).run P w= .ok v2 w) (h:aH ρ v1 l):aH ρ v2 l:=by
 have:=(h1 w).symm.trans (h2 w)
 injection this with e
 exact e▸h
theorem repAll_flat:∀(l:List α),gU ρ l (flat l)
 | []=>rfl
 |a::l=>⟨Enc.enc a,flat l,by simp[flat],rfl,repAll_flat l⟩
theorem repAll_eq:∀{l:List α} {xs:List Value},gU ρ l xs→xs=flat l
 | [],_,e=>e
 |a::l,_,⟨c,r,e,A,hr⟩=>by
  have hc':c=Enc.enc a:=A
  rw[e,hc',repAll_eq hr];simp[flat]
theorem O6 (wk:Region.wanted o (yielded ops a.tmps)=true) (hd:o.dst=none) (H:EnvD Df N E a) (C:Hp Z ρ L w) {x y:Operand} (D:o.op= .store T x y) {g off:Nat} (B:evo E x=some (Pv g off)) {u:Value} (hy:evo E y=some u) (k:Nat) (hk:L[k]?=some (aC El v l))
  {i:Int} {e:α} (hi:idx l i=some e) (hv:∃of0 cap,v= .slice (some ⟨g,of0,none⟩) l.length cap∧off=of0+i.toNat*Enc.sz α) {e':α} (ht:∀w,(sizeOf T).run P w= .ok (Enc.enc e').length w) (F:u.cells=(Enc.enc e').toArray) (hgc:∀(q:Nat) (z:Value),(Enc.enc e)[q]?=some z→w.cell? ⟨g,off+q,none⟩=some z)
  (K:∀w,Hp Z ρ (L.set k (aC El v (l.set i.toNat e'))) w→wpL Rn P ops Q rest a w):wpL Rn P ops Q (o::rest) a w:=by
 have h1:=Enc.len e'
 have h2:=Enc.len e
 refine s_stelR wk hd H C D B hy k (xs:=flat l) hk (repAll_flat l) hi hv 0 ht O F (cs:=Enc.enc e) (e':=e') O hgc ?_ ?_ fun w xs' G A=>K w ?_
 ·show _=Enc.enc e'
  rw[List.take_zero,List.nil_append,Nat.zero_add,List.drop_of_length_le (by omega),List.append_nil]
 ·show Nat.ble (0+(Enc.enc e').length) (Enc.sz α)=true
  rw[Nat.ble_eq];omega
 rw[repAll_eq G] at A
 exact A
omit [Enc α] in
theorem s_unitV (wk:Region.wanted o (yielded ops a.tmps)=true) (hd:o.dst=none) (hE:EnvD Df N E a) {u:Value} {w':World} (A:(execOp a.eval o).run P w= .ok (.value u) w') (K:wpL Rn P ops Q rest a w'):wpL Rn P ops Q (o::rest) a w:=
 l_value wk A (by rw[hd];exact K)
end
def hd (au:List Sl) (i:Nat):Sl:=au.getD i Sl.nil
def wmap (au:List Sl) (ids:List (List Nat)):List (List Sl):=ids.map fun r=>r.map (hd au)
theorem hd_get {au:List Sl} {i:Nat} {u:Sl} (h:au[i]?=some u):hd au i=u:=by unfold hd;rw[List.getD_eq_getElem?_getD,h];rfl
theorem idx_map' {α β:Type} {f:α→β} {l:List α} {i:Int} {a:α} (h:idx l i=some a):idx (l.map f) i=some (f a):=by
 obtain⟨h0,_,h1⟩:=rO h
 unfold idx;rw[if_pos h0,xF,h1];rfl
theorem wmap_idx {au:List Sl} {ids:List (List Nat)} {i:Int} {r:List Nat} (h:idx ids i=some r):idx (wmap au ids) i=some (r.map (hd au)):=idx_map' h
theorem wmap_len {au:List Sl} {ids:List (List Nat)}:(wmap au ids).length=ids.length:=by unfold wmap;rw[List.length_map]
theorem wmap_nils {au:List Sl} (n:Nat):wmap au (List.replicate n [])=List.replicate n []:=by unfold wmap;simp
section
variable {Z:World} {ρ:PH} {L:List bQ} {w:World} {α:Type} [Enc α] {Ti:TypeId} {au:List Sl} {l:List (List α)}
theorem Hp.arLen (A:Hp Z ρ (iG Ti au l::L) w):au.length=l.length:=iG.len A.sep
def ArX (Ti:TypeId) (au:List Sl) (l:List (List α)) (i:Nat):bQ:=iG Ti (au.eraseIdx i) (l.eraseIdx i)
theorem Hp.arTake {i:Nat} {c:List α} (hi:l[i]?=some c) (A:Hp Z ρ (iG Ti au l::L) w):Hp Z ρ (aC Ti (hd au i).v c::ArX Ti au l i::L) w:=by
 have hl:=A.arLen
 obtain⟨h1,_⟩:=uR.1 hi
 have hu:au[i]?=some au[i]:=vB (by omega)
 rw[hd_get hu]
 exact A.to (iG.take i hu hi).1
theorem Hp.arBack {i:Nat} {c c':List α} (hi:l[i]?=some c) (hl:au.length=l.length) (A:Hp Z ρ (aC Ti (hd au i).v c'::ArX Ti au l i::L) w):Hp Z ρ (iG Ti au (l.set i c')::L) w:=by
 obtain⟨h1,_⟩:=uR.1 hi
 have hu:au[i]?=some au[i]:=vB (by omega)
 rw[hd_get hu] at A
 refine A.to fun s=>(iG.take (us:=au) (l:=l.set i c') (r:=c') i hu (by rw[xT h1])).2 ?_
 rw[List.eraseIdx_set_eq];exact s
end
def TblZ {α:Type} [Enc α] (T Ti:TypeId) (v:Value) (us:List Sl) (l:List (List α)) (i:Int):bQ:=star (aC T v us) (iG Ti (us.set i.toNat Sl.nil) (l.set i.toNat []))
section
variable {Rn:Option Nat} {P:Program} {ops:Array Oper} {Q:Exit→Act→World→Prop} {rest:List Oper} {o:Oper} {a:Act} {w:World} {Df:List Deferred} {N:Nat} {E:Ent} {d:Nat} {Z:World} {ρ:PH} {L:List bQ}
variable {α:Type} [Enc α] {T Ti To Tr:TypeId} {v:Value} {us:List Sl} {l:List (List α)} {bytes:Nat}
theorem bM.lendRow (A:Hp Z ρ L w) (k:Nat) (hk:L[k]?=some (bM T Ti v us l)) {i:Int} {u:Sl} {r:List α} (hu:idx us i=some u) (hi:idx l i=some r):
  Hp Z ρ (aC Ti u.v r::TblZ T Ti v us l i::L.eraseIdx k) w:=by
 obtain⟨_,hui,hus⟩:=rO hu
 obtain⟨_,hli,hls⟩:=rO hi
 refine(bM.focus A k hk hu hi).to fun s=>Sep.cons_mono (fun ρ h s=>Sep.two.2 (Sep.swap ?_)) s
 refine(iG.take (us:=us.set i.toNat Sl.nil) (l:=l.set i.toNat []) (u:=Sl.nil) (r:=([]:List α)) i.toNat (by rw[xT (by omega)]) (by rw[xT (by omega)])).2 ?_
 rw[List.eraseIdx_set_eq,List.eraseIdx_set_eq]
 refine⟨PH.emp,aC.nil Ti,PH.dj_emp ρ,?_⟩
 have e:ρ.un PH.emp=ρ:=by funext b;unfold PH.un PH.emp;cases ρ b<;>rfl
 rw[e];exact s
theorem TblZ.lens {i:Int} (A:Hp Z ρ (TblZ T Ti v us l i::L) w):us.length=l.length:=by
 have:=iG.len (Sep.swap (A.to Sep.two.1).sep)
 simpa using this
theorem TblZ.hdr {i:Int} (C:Hp Z ρ L w) (k:Nat) (hk:L[k]?=some (TblZ T Ti v us l i)) (ht:SlTy P To T 1 bytes) {j:Int} {r:List α} (hi:idx l j=some r):
  ∃(u:Sl) (g off:Nat),idx us j=some u∧(∀w,(Instr.indexAt To v (Iv j)).run P w= .ok (Pv g off) w)∧(∃of0 cap,v= .slice (some ⟨g,of0,none⟩) us.length cap∧off=of0+j.toNat*1)∧
   ∀(q:Nat) (x:Value),[u.v][q]?=some x→∀ρ' L' w,Hp Z ρ' (TblZ T Ti v us l i::L') w→w.cell? ⟨g,off+q,none⟩=some x:=by
 have h:=(C.get k hk)
 obtain⟨i0,i1,i2⟩:=rO hi
 have hl:=TblZ.lens h
 have hu:idx us j=some us[j.toNat]:=by unfold idx;rw[if_pos i0];exact vB (by omega)
 obtain⟨g,off,e1,e2,e3⟩:=aC.at (h.to Sep.two.1) 0 O ht hu
 exact⟨_,g,off,hu,e1,e2,fun q x A ρ' L' w B=>e3 q x A _ _ w (B.to Sep.two.1)⟩
def WTb (T Ti Tc:TypeId) (v:Value) (ua:List Sl×List Sl) (W:List (List Nat)×List (List Int)):bQ:=star (bM T Ti v ua.1 (wmap ua.2 W.1)) (iG Tc ua.2 W.2)
variable {Tc:TypeId} {ua:List Sl×List Sl} {W:List (List Nat)×List (List Int)}
theorem WTb.opn (h:Hp Z ρ (WTb T Ti Tc v ua W::L) w):Hp Z ρ (bM T Ti v ua.1 (wmap ua.2 W.1)::iG Tc ua.2 W.2::L) w:=h.to Sep.two.1
theorem WTb.shut (h:Hp Z ρ (bM T Ti v ua.1 (wmap ua.2 W.1)::iG Tc ua.2 W.2::L) w):Hp Z ρ (WTb T Ti Tc v ua W::L) w:=h.to Sep.two.2
theorem WTb.slice (A:Hp Z ρ L w) (k:Nat) (hk:L[k]?=some (WTb T Ti Tc v ua W)):∃s:Sl,s.v=v:=bM.slice (WTb.opn (A.get k hk)) 0 O
theorem WTb.cells (A:Hp Z ρ L w) (k:Nat) (hk:L[k]?=some (WTb T Ti Tc v ua W)):v.cells= #[v]:=by obtain⟨s,rfl⟩:=WTb.slice A k hk;exact s.cells
theorem WTb.one (A:Hp Z ρ L w) (k:Nat) (hk:L[k]?=some (WTb T Ti Tc v ua W)):v.oneCell'=true:=by obtain⟨s,rfl⟩:=WTb.slice A k hk;exact s.one
theorem WTb.len (A:Hp Z ρ L w) (k:Nat) (hk:L[k]?=some (WTb T Ti Tc v ua W)) (ht:SlTy P To T 1 bytes) (w:World) (ty:TypeId):(Builtin.len_ #[To] ty #[v]).run P w= .ok (Iv W.1.length) w:=by
 rw[←wmap_len (au:=ua.2)]
 exact bM.len (WTb.opn (A.get k hk)) 0 O ht w ty
theorem WTb.start (Tc:TypeId) {n:Nat} {us:List Sl} (A:Hp Z ρ (bM T Ti v us (List.replicate n ([]:List Sl))::L) w):Hp Z ρ (WTb T Ti Tc v (us,[]) (List.replicate n [],[])::L) w:=by
 refine WTb.shut ?_
 rw[wmap_nils]
 exact A.to fun s=>Sep.cons_mono (fun ρ h s=>Sep.emp1.2 s) s
def TblL (T Ti:TypeId) (v:Value) (us:List Sl) (l:List (List Sl)):Option Int→bQ
 |none=>bM T Ti v us l
 |some i=>TblZ T Ti v us l i
def ArL (Tc:TypeId) (au:List Sl) (l:List (List Int)):Option (Nat×Value)→bQ
 |none=>iG Tc au l
 |some h=>fun k=>ArX Tc au l h.1 k∧au.length=l.length∧h.1<l.length∧(hd au h.1).v=h.2
def O7 (T Ti Tc:TypeId) (v:Value) (ua:List Sl×List Sl) (W:List (List Nat)×List (List Int)) (li:Option Int) (ai:Option (Nat×Value)):bQ:=
 star (TblL T Ti v ua.1 (wmap ua.2 W.1) li) (ArL Tc ua.2 W.2 ai)
theorem O7.of (h:Hp Z ρ (WTb T Ti Tc v ua W::L) w):Hp Z ρ (O7 T Ti Tc v ua W none none::L) w:=h
theorem O7.to (h:Hp Z ρ (O7 T Ti Tc v ua W none none::L) w):Hp Z ρ (WTb T Ti Tc v ua W::L) w:=h
theorem OwnH.len {au:List Sl} {r:List Nat} (A:Hp Z ρ L w) (k:Nat) (hk:L[k]?=some (aC T v (r.map (hd au)))) (ht:SlTy P To T 1 bytes) (w:World) (ty:TypeId):(Builtin.len_ #[To] ty #[v]).run P w= .ok (Iv r.length) w:=by
 have:=aC.len A k hk ht w ty
 rwa [List.length_map] at this
theorem OwnH.at {au:List Sl} {r:List Nat} {i:Int} {h:Nat} (A:Hp Z ρ L w) (k:Nat) (hk:L[k]?=some (aC T v (r.map (hd au)))) (ht:SlTy P To T 1 bytes) (hi:idx r i=some h):
  ∃g off,(∀w,(Instr.indexAt To v (Iv i)).run P w= .ok (Pv g off) w)∧
   ∀(j:Nat) (x:Value),([(hd au h).v]:List Value)[j]?=some x→∀ρ' L' w,Hp Z ρ' (aC T v (r.map (hd au))::L') w→w.cell? ⟨g,off+j,none⟩=some x:=by
 obtain⟨g,off,e1,_,e3⟩:=aC.at A k hk ht (idx_map' (f:=hd au) hi)
 exact⟨g,off,e1,e3⟩
theorem O7.slice {li:Option Int} {ai:Option (Nat×Value)} (A:Hp Z ρ L w) (k:Nat) (hk:L[k]?=some (O7 T Ti Tc v ua W li ai)):∃s:Sl,s.v=v:=by
 cases li with
 |none=>exact bM.slice ((A.get k hk).to Sep.two.1) 0 rfl
 |some i=>exact aC.toSl (((A.get k hk).to Sep.two.1).to Sep.two.1) 0 rfl
theorem O7.cells {li:Option Int} {ai:Option (Nat×Value)} (A:Hp Z ρ L w) (k:Nat) (hk:L[k]?=some (O7 T Ti Tc v ua W li ai)):v.cells= #[v]:=by obtain⟨s,rfl⟩:=O7.slice A k hk;exact s.cells
theorem O7.one {li:Option Int} {ai:Option (Nat×Value)} (A:Hp Z ρ L w) (k:Nat) (hk:L[k]?=some (O7 T Ti Tc v ua W li ai)):v.oneCell'=true:=by obtain⟨s,rfl⟩:=O7.slice A k hk;exact s.one
theorem O7.lend {ai:Option (Nat×Value)} {i:Int} {u:Sl} {r:List Nat} (hu:idx ua.1 i=some u) (hi:idx W.1 i=some r) (A:Hp Z ρ (O7 T Ti Tc v ua W none ai::L) w):
  Hp Z ρ (aC Ti u.v (r.map (hd ua.2))::O7 T Ti Tc v ua W (some i) ai::L) w:=by
 have h2:=bM.lendRow (A.to Sep.two.1) 0 O hu (wmap_idx hi)
 exact h2.to fun s=>Sep.cons_mono (fun ρ h s=>Sep.two.2 s) s
theorem O7.take {li:Option Int} {i:Nat} {c:List Int} (hi:W.2[i]?=some c) (A:Hp Z ρ (O7 T Ti Tc v ua W li none::L) w):∃vc,(hd ua.2 i).v=vc∧Hp Z ρ (aC Tc vc c::O7 T Ti Tc v ua W li (some (i,vc))::L) w:=by
 have h1:Hp Z ρ (iG Tc ua.2 W.2::TblL T Ti v ua.1 (wmap ua.2 W.1) li::L) w:=A.to fun s=>Sep.swap (Sep.two.1 s)
 have B:=h1.arLen
 have hlt:=(uR.1 hi).1
 exact⟨_,O,(Hp.arTake hi h1).to fun s=>Sep.cons_mono (fun ρ h s=>Sep.two.2 (Sep.swap (s.imp fun _ a=>⟨a,B,hlt,O⟩))) s⟩
theorem O7.back {li:Option Int} {i:Nat} {vc:Value} {c':List Int} (B:Hp Z ρ (aC Tc vc c'::O7 T Ti Tc v ua W li (some (i,vc))::L) w):Hp Z ρ (O7 T Ti Tc v ua (W.1,W.2.set i c') li none::L) w:=by
 have h1:Hp Z ρ ((fun k=>ArX Tc ua.2 W.2 i k∧ua.2.length=W.2.length∧i<W.2.length∧(hd ua.2 i).v=vc)::aC Tc vc c'::TblL T Ti v ua.1 (wmap ua.2 W.1) li::L) w:=
  B.to fun s=>Sep.swap (Sep.cons_mono (fun ρ h s=>Sep.swap (Sep.two.1 s)) s)
 obtain⟨_,C,hlt,hv⟩:=Hp.fact (A:=ArX Tc ua.2 W.2 i) h1
 subst hv
 have h2:Hp Z ρ (aC Tc (hd ua.2 i).v c'::ArX Tc ua.2 W.2 i::TblL T Ti v ua.1 (wmap ua.2 W.1) li::L) w:=(h1.imp fun _ a=>a.1).to fun s=>s.swap
 exact(Hp.arBack (vB hlt) C h2).to fun s=>Sep.two.2 s.swap
theorem O7.lens {li:Option Int} {ai:Option (Nat×Value)} (A:Hp Z ρ (O7 T Ti Tc v ua W li ai::L) w):ua.1.length=W.1.length:=by
 rw[←wmap_len (au:=ua.2)]
 cases li with
 |none=>exact bM.lens (A.to Sep.two.1)
 |some i=>exact TblZ.lens (A.to Sep.two.1)
theorem O7.hdr {li:Option Int} {ai:Option (Nat×Value)} {j:Int} (C:Hp Z ρ (O7 T Ti Tc v ua W li ai::L) w) (ht:SlTy P To T 1 bytes) {r:List Nat} (hi:idx W.1 j=some r):
  ∃(u:Sl) (g off:Nat),idx ua.1 j=some u∧(∀w,(Instr.indexAt To v (Iv j)).run P w= .ok (Pv g off) w)∧(∃of0 cap,v= .slice (some ⟨g,of0,none⟩) ua.1.length cap∧off=of0+j.toNat*1)∧
   ∀(q:Nat) (x:Value),[u.v][q]?=some x→∀ρ' L' w,Hp Z ρ' (O7 T Ti Tc v ua W li ai::L') w→w.cell? ⟨g,off+q,none⟩=some x:=by
 cases li with
 |none=>
  obtain⟨u,g,off,e1,e2,e3,e4⟩:=bM.hdr (C.to Sep.two.1) 0 O ht (wmap_idx hi)
  exact⟨u,g,off,e1,e2,e3,fun q x A ρ' L' w B=>e4 q x A ρ' _ w (B.to Sep.two.1)⟩
 |some i=>
  obtain⟨u,g,off,e1,e2,e3,e4⟩:=TblZ.hdr (C.to Sep.two.1) 0 O ht (wmap_idx hi)
  exact⟨u,g,off,e1,e2,e3,fun q x A ρ' L' w B=>e4 q x A ρ' _ w (B.to Sep.two.1)⟩
end
section
variable {P:Program} {Z:World} {ρ:PH} {L:List bQ} {w:World} {α:Type} [Enc α] {T El:TypeId} {bytes:Nat} {v v':Value} {l r:List α}
def ViewF (El:TypeId) (v:Value) (l:List α) (v':Value) (r:List α):Prop:=∀ρ k,PH.dj ρ k→aC El v l k→aH (ρ.un k) v' r
theorem aC.viewF (A:Hp Z ρ L w) (k:Nat) (hk:L[k]?=some (aC El v l)) (ht:SlTy P T El (Enc.sz α) bytes) (lo hi:Option (IntKind×Int)) {i j:Int} (hlo:i=match lo with|none=>0|some p=>p.2) (hhi:j=match hi with|none=>(l.length:Int)|some p=>p.2) (hr:sub l i j=some r):
  ∃v',(∀w,(Instr.sliceAt T v (lo.map fun p=> .int p.1 p.2) (hi.map fun p=> .int p.1 p.2) none).run P w= .ok v' w)∧ViewF El v l v' r:=by
 obtain⟨κ,ha,hd,_⟩:=(A.get k hk).lend
 obtain⟨v',h,_⟩:=aH.part (aC.ro hd ha) ht lo hi hlo hhi hr
 refine⟨v',h,fun ρ' κ' hd' ha'=>?_⟩
 obtain⟨v2,h2,h3⟩:=aH.part (aC.ro hd' ha') ht lo hi hlo hhi hr
 exact sl_det w h2 h h3
theorem ViewF.len {sz:Nat} (h:ViewF El v l v' r) (A:Hp Z ρ L w) (k:Nat) (hk:L[k]?=some (aC El v l)) (ht:SlTy P T El sz bytes) (w:World) (ty:TypeId):(Builtin.len_ #[T] ty #[v']).run P w= .ok (Iv r.length) w:=by
 obtain⟨κ,ha,hd,_⟩:=(A.get k hk).lend
 exact(h _ _ hd ha).len ht w ty
theorem ViewF.at (h:ViewF El v l v' r) (A:Hp Z ρ L w) (k:Nat) (hk:L[k]?=some (aC El v l)) (ht:SlTy P T El (Enc.sz α) bytes) {i:Int} {e:α} (hi:idx r i=some e):
  ∃g off,(∀w,(Instr.indexAt T v' (Iv i)).run P w= .ok (Pv g off) w)∧
   ∀(j:Nat) (u:Value),(Enc.enc e)[j]?=some u→∀ρ' L' w,Hp Z ρ' (aC El v l::L') w→w.cell? ⟨g,off+j,none⟩=some u:=by
 obtain⟨κ,ha,hd,hh⟩:=(A.get k hk).lend
 obtain⟨b,o,cs,e1,_,_⟩:=(h _ _ hd ha).at ht hi
 refine⟨b,o,e1,fun j u B ρ' L' w' hw'=>?_⟩
 obtain⟨κ',ha',hd',hh'⟩:=hw'.lend
 obtain⟨b',o',cs',e1',e2',hat⟩:=(h _ _ hd' ha').at ht hi
 have e3:=(e1 w).symm.trans (e1' w)
 simp only[Result.ok.injEq,Value.pointer.injEq,wA,Addr.mk.injEq,and_true] at e3
 obtain⟨rfl,rfl⟩:=e3
 have e2'':cs'=Enc.enc e:=e2'
 subst e2''
 exact cell_of hh'.le (hat j u B)
end
theorem qA:oI Tryz.prog 24 4 4:=fun b o w=>by simp[Instr.fieldAt,go_sem]
theorem iK:VarTy Tryz.prog 22 false 1:=⟨fun w=>by simp[isAgg,go_sem],fun w=>by simp[sizeOf,go_sem]<;>rfl⟩
theorem iZ:SlTy Tryz.prog 22 24 5 64:=SlTy.of (z:= .agg #[.int .i64 0,.string ByteArray.empty,.int .i64 0,.int .i64 0,.slice none 0 0]) kr kr O
theorem cO:VarTy Tryz.prog 24 true 5:=⟨fun w=>by simp[isAgg,go_sem],fun w=>by simp[sizeOf,go_sem]<;>rfl⟩
theorem ent23:∀args w,(callFunc 23 args).run Tryz.prog w= .ok (.enter 23 args) w:=enters Tryz.func23 kr O
theorem zH:oI Tryz.prog 24 0 0:=fun b o w=>by simp[Instr.fieldAt,go_sem]
theorem aW:VarTy Tryz.prog 3 false 1:=⟨fun w=>by simp[isAgg,go_sem],fun w=>by simp[sizeOf,go_sem]<;>rfl⟩
theorem xC:oI Tryz.prog 24 1 1:=fun b o w=>by simp[Instr.fieldAt,go_sem]
theorem V8:VarTy Tryz.prog 9 false 1:=⟨fun w=>by simp[isAgg,go_sem],fun w=>by simp[sizeOf,go_sem]<;>rfl⟩
theorem ent82:∀args w,(callFunc 82 args).run Tryz.prog w= .ok (.enter 82 args) w:=enters Tryz.func82 kr O
theorem ent55:∀args w,(callFunc 55 args).run Tryz.prog w= .ok (.enter 55 args) w:=enters Tryz.func55 kr O
theorem sty9:Tryz.prog.underlying 9=some .string:=by kernel_rfl
theorem ent58:∀args w,(callFunc 58 args).run Tryz.prog w= .ok (.enter 58 args) w:=enters Tryz.func58 kr O
theorem qU:oI Tryz.prog 123 0 0:=fun b o w=>by simp[Instr.fieldAt,go_sem]
theorem aT:VarTy Tryz.prog 73 false 1:=⟨fun w=>by simp[isAgg,go_sem],fun w=>by simp[sizeOf,go_sem]<;>rfl⟩
theorem bD:SlTy Tryz.prog 73 3 1 8:=SlTy.of (z:= .int .i64 0) kr kr O
theorem iM:VarTy Tryz.prog 123 true 4:=⟨fun w=>by simp[isAgg,go_sem],fun w=>by simp[sizeOf,go_sem]<;>rfl⟩
theorem P5:∀args w,(callFunc 73 args).run Tryz.prog w= .ok (.enter 73 args) w:=enters Tryz.func73 kr O
theorem aI1:oI Tryz.prog 123 1 1:=fun b o w=>by simp[Instr.fieldAt,go_sem]
theorem aS3:VarTy Tryz.prog 121 false 1:=⟨fun w=>by simp[isAgg,go_sem],fun w=>by simp[sizeOf,go_sem]<;>rfl⟩
theorem slty121:SlTy Tryz.prog 121 9 1 16:=SlTy.of (z:= .string ByteArray.empty) kr kr O
theorem yF:oI Tryz.prog 123 2 2:=fun b o w=>by simp[Instr.fieldAt,go_sem]
theorem aI2:oI Tryz.prog 123 3 3:=fun b o w=>by simp[Instr.fieldAt,go_sem]
theorem iE:SlTy Tryz.prog 83 73 1 24:=SlTy.of (z:= .slice none 0 0) kr kr O
theorem ent74:∀args w,(callFunc 74 args).run Tryz.prog w= .ok (.enter 74 args) w:=enters Tryz.func74 kr O
theorem ent75:∀args w,(callFunc 75 args).run Tryz.prog w= .ok (.enter 75 args) w:=enters Tryz.func75 kr O
theorem ent52:∀args w,(callFunc 52 args).run Tryz.prog w= .ok (.enter 52 args) w:=enters Tryz.func52 kr O
theorem ent64:∀args w,(callFunc 64 args).run Tryz.prog w= .ok (.enter 64 args) w:=enters Tryz.func64 kr O
theorem ent89:∀args w,(callFunc 89 args).run Tryz.prog w= .ok (.enter 89 args) w:=enters Tryz.func89 kr O
theorem ent103:∀args w,(callFunc 103 args).run Tryz.prog w= .ok (.enter 103 args) w:=enters Tryz.func103 kr O
theorem ent88:∀args w,(callFunc 88 args).run Tryz.prog w= .ok (.enter 88 args) w:=enters Tryz.func88 kr O
theorem jT:oI Tryz.prog 135 0 0:=fun b o w=>by simp[Instr.fieldAt,go_sem]
theorem lM:VarTy Tryz.prog 133 false 1:=⟨fun w=>by simp[isAgg,go_sem],fun w=>by simp[sizeOf,go_sem]<;>rfl⟩
theorem uF:SlTy Tryz.prog 133 156 2 24:=SlTy.of (z:= .agg #[.int .i64 0,.string ByteArray.empty]) kr kr O
theorem varty154:VarTy Tryz.prog 154 false 1:=⟨fun w=>by simp[isAgg,go_sem],fun w=>by simp[sizeOf,go_sem]<;>rfl⟩
theorem ent104:∀args w,(callFunc 104 args).run Tryz.prog w= .ok (.enter 104 args) w:=enters Tryz.func104 kr O
theorem iL:oI Tryz.prog 135 1 1:=fun b o w=>by simp[Instr.fieldAt,go_sem]
theorem kP:oI Tryz.prog 135 2 2:=fun b o w=>by simp[Instr.fieldAt,go_sem]
theorem iO:VarTy Tryz.prog 135 true 3:=⟨fun w=>by simp[isAgg,go_sem],fun w=>by simp[sizeOf,go_sem]<;>rfl⟩
theorem kt3:KT Tryz.prog 3 Int:=kt_int kr
theorem mapty157:Tryz.prog.underlying 157=some (.map 3 3):=by kernel_rfl
theorem ent107:∀args w,(callFunc 107 args).run Tryz.prog w= .ok (.enter 107 args) w:=enters Tryz.func107 kr O
theorem ent106:∀args w,(callFunc 106 args).run Tryz.prog w= .ok (.enter 106 args) w:=enters Tryz.func106 kr O
theorem ent91:∀args w,(callFunc 91 args).run Tryz.prog w= .ok (.enter 91 args) w:=enters Tryz.func91 kr O
theorem varty83:VarTy Tryz.prog 83 false 1:=⟨fun w=>by simp[isAgg,go_sem],fun w=>by simp[sizeOf,go_sem]<;>rfl⟩
theorem varty156:VarTy Tryz.prog 156 true 2:=⟨fun w=>by simp[isAgg,go_sem],fun w=>by simp[sizeOf,go_sem]<;>rfl⟩
theorem eqst156 (a0:Int) (a1:ByteArray) (b0:Int) (b1:ByteArray):EqSt Tryz.prog 156 [.int .i64 a0,.string a1] [.int .i64 b0,.string b1] ((decide (a0=b0))&&(decide (a1=b1))):=eqst_of kr kr kr fun w=>by
 simp only[Program.fieldsOf,Tryz.underlying156]
 go_simp
 by_cases h0:a0=b0<;>by_cases h1:a1=b1<;>simp[*,ba_inj]
theorem W9:∀args w,(callFunc 90 args).run Tryz.prog w= .ok (.enter 90 args) w:=enters Tryz.func90 kr O
theorem ent92:∀args w,(callFunc 92 args).run Tryz.prog w= .ok (.enter 92 args) w:=enters Tryz.func92 kr O
theorem ent93:∀args w,(callFunc 93 args).run Tryz.prog w= .ok (.enter 93 args) w:=enters Tryz.func93 kr O
theorem ent105:∀args w,(callFunc 105 args).run Tryz.prog w= .ok (.enter 105 args) w:=enters Tryz.func105 kr O
theorem ent67:∀args w,(callFunc 67 args).run Tryz.prog w= .ok (.enter 67 args) w:=enters Tryz.func67 kr O
theorem ent68:∀args w,(callFunc 68 args).run Tryz.prog w= .ok (.enter 68 args) w:=enters Tryz.func68 kr O
theorem zQ:SlTy Tryz.prog 66 70 4 40:=SlTy.of (z:= .agg #[.int .i64 0,.string ByteArray.empty,.int .i64 0,.int .i64 0]) kr kr O
theorem ent62:∀args w,(callFunc 62 args).run Tryz.prog w= .ok (.enter 62 args) w:=enters Tryz.func62 kr O
theorem fldty70_2:oI Tryz.prog 70 2 2:=fun b o w=>by simp[Instr.fieldAt,go_sem]
theorem ent37:∀args w,(callFunc 37 args).run Tryz.prog w= .ok (.enter 37 args) w:=enters Tryz.func37 kr O
theorem fE:SlTy Tryz.prog 25 46 2 16:=SlTy.of (z:= .agg #[.int .i64 0,.int .i64 0]) kr kr O
theorem yY:SlTy Tryz.prog 68 4 1 1:=SlTy.of (z:= .bool false) kr kr O
theorem fH:VarTy Tryz.prog 46 true 2:=⟨fun w=>by simp[isAgg,go_sem],fun w=>by simp[sizeOf,go_sem]<;>rfl⟩
theorem fV:oI Tryz.prog 46 0 0:=fun b o w=>by simp[Instr.fieldAt,go_sem]
theorem eF:oI Tryz.prog 46 1 1:=fun b o w=>by simp[Instr.fieldAt,go_sem]
theorem N8:VarTy Tryz.prog 4 false 1:=⟨fun w=>by simp[isAgg,go_sem],fun w=>by simp[sizeOf,go_sem]<;>rfl⟩
theorem bty4:Tryz.prog.underlying 4=some .bool:=by kernel_rfl
theorem eqst46 (a0:Int) (a1:Int) (b0:Int) (b1:Int):EqSt Tryz.prog 46 [.int .i64 a0,.int .i64 a1] [.int .i64 b0,.int .i64 b1] ((decide (a0=b0))&&(decide (a1=b1))):=eqst_of kr kr kr fun w=>by
 simp only[Program.fieldsOf,Tryz.underlying46]
 go_simp
 by_cases h0:a0=b0<;>by_cases h1:a1=b1<;>simp[*]
theorem zY:SlTy Tryz.prog 34 58 6 56:=SlTy.of (z:= .agg #[.int .i64 0,.int .i64 0,.int .i64 0,.int .i64 0,.int .i64 0,.string ByteArray.empty]) kr kr O
theorem H7:VarTy Tryz.prog 58 true 6:=⟨fun w=>by simp[isAgg,go_sem],fun w=>by simp[sizeOf,go_sem]<;>rfl⟩
theorem eqst58 (a0:Int) (a1:Int) (a2:Int) (a3:Int) (a4:Int) (a5:ByteArray) (b0:Int) (b1:Int) (b2:Int) (b3:Int) (b4:Int) (b5:ByteArray):EqSt Tryz.prog 58 [.int .i64 a0,.int .i64 a1,.int .i64 a2,.int .i64 a3,.int .i64 a4,.string a5] [.int .i64 b0,.int .i64 b1,.int .i64 b2,.int .i64 b3,.int .i64 b4,.string b5] ((decide (a0=b0))&&(decide (a1=b1))&&(decide (a2=b2))&&(decide (a3=b3))&&(decide (a4=b4))&&(decide (a5=b5))):=eqst_of kr kr kr fun w=>by
 simp only[Program.fieldsOf,Tryz.underlying58]
 go_simp
 by_cases h0:a0=b0<;>by_cases h1:a1=b1<;>by_cases h2:a2=b2<;>by_cases h3:a3=b3<;>by_cases h4:a4=b4<;>by_cases h5:a5=b5<;>simp[*,ba_inj]
theorem fldty58_2:oI Tryz.prog 58 2 2:=fun b o w=>by simp[Instr.fieldAt,go_sem]
theorem fldty58_3:oI Tryz.prog 58 3 3:=fun b o w=>by simp[Instr.fieldAt,go_sem]
theorem aF7:oI Tryz.prog 58 1 1:=fun b o w=>by simp[Instr.fieldAt,go_sem]
theorem fldty58_0:oI Tryz.prog 58 0 0:=fun b o w=>by simp[Instr.fieldAt,go_sem]
theorem xE:oI Tryz.prog 75 1 1:=fun b o w=>by simp[Instr.fieldAt,go_sem]
theorem lQ:oI Tryz.prog 75 0 0:=fun b o w=>by simp[Instr.fieldAt,go_sem]
theorem rY:oI Tryz.prog 75 2 2:=fun b o w=>by simp[Instr.fieldAt,go_sem]
theorem varty110:VarTy Tryz.prog 110 false 1:=⟨fun w=>by simp[isAgg,go_sem],fun w=>by simp[sizeOf,go_sem]<;>rfl⟩
theorem ent63:∀args w,(callFunc 63 args).run Tryz.prog w= .ok (.enter 63 args) w:=enters Tryz.func63 kr O
theorem dG:VarTy Tryz.prog 75 true 3:=⟨fun w=>by simp[isAgg,go_sem],fun w=>by simp[sizeOf,go_sem]<;>rfl⟩
theorem varty115:VarTy Tryz.prog 115 false 1:=⟨fun w=>by simp[isAgg,go_sem],fun w=>by simp[sizeOf,go_sem]<;>rfl⟩
theorem ent69:∀args w,(callFunc 69 args).run Tryz.prog w= .ok (.enter 69 args) w:=enters Tryz.func69 kr O
theorem ent39:∀args w,(callFunc 39 args).run Tryz.prog w= .ok (.enter 39 args) w:=enters Tryz.func39 kr O
theorem ent38:∀args w,(callFunc 38 args).run Tryz.prog w= .ok (.enter 38 args) w:=enters Tryz.func38 kr O
theorem fldty88_0:oI Tryz.prog 88 0 0:=fun b o w=>by simp[Instr.fieldAt,go_sem]
theorem Y0:oI Tryz.prog 88 2 6:=fun b o w=>by simp[Instr.fieldAt,go_sem]
theorem fldty88_1:oI Tryz.prog 88 1 3:=fun b o w=>by simp[Instr.fieldAt,go_sem]
theorem Y1:oI Tryz.prog 88 4 8:=fun b o w=>by simp[Instr.fieldAt,go_sem]
theorem ent41:∀args w,(callFunc 41 args).run Tryz.prog w= .ok (.enter 41 args) w:=enters Tryz.func41 kr O
theorem J6:oI Tryz.prog 88 3 7:=fun b o w=>by simp[Instr.fieldAt,go_sem]
theorem J7:oI Tryz.prog 88 5 9:=fun b o w=>by simp[Instr.fieldAt,go_sem]
theorem ent72:∀args w,(callFunc 72 args).run Tryz.prog w= .ok (.enter 72 args) w:=enters Tryz.func72 kr O
theorem fldty88_6:oI Tryz.prog 88 6 10:=fun b o w=>by simp[Instr.fieldAt,go_sem]
theorem ent71:∀args w,(callFunc 71 args).run Tryz.prog w= .ok (.enter 71 args) w:=enters Tryz.func71 kr O
theorem aF8:oI Tryz.prog 88 7 11:=fun b o w=>by simp[Instr.fieldAt,go_sem]
theorem aF9:oI Tryz.prog 88 8 12:=fun b o w=>by simp[Instr.fieldAt,go_sem]
theorem ent51:∀args w,(callFunc 51 args).run Tryz.prog w= .ok (.enter 51 args) w:=enters Tryz.func51 kr O
theorem ent66:∀args w,(callFunc 66 args).run Tryz.prog w= .ok (.enter 66 args) w:=enters Tryz.func66 kr O
theorem kL:∀args w,(callFunc 40 args).run Tryz.prog w= .ok (.enter 40 args) w:=enters Tryz.func40 kr O
theorem ent45:∀args w,(callFunc 45 args).run Tryz.prog w= .ok (.enter 45 args) w:=enters Tryz.func45 kr O
theorem ent46:∀args w,(callFunc 46 args).run Tryz.prog w= .ok (.enter 46 args) w:=enters Tryz.func46 kr O
theorem ent17:∀args w,(callFunc 17 args).run Tryz.prog w= .ok (.enter 17 args) w:=enters Tryz.func17 kr O
theorem ent100:∀args w,(callFunc 100 args).run Tryz.prog w= .ok (.enter 100 args) w:=enters Tryz.func100 kr O
theorem ent85:∀args w,(callFunc 85 args).run Tryz.prog w= .ok (.enter 85 args) w:=enters Tryz.func85 kr O
theorem ent84:∀args w,(callFunc 84 args).run Tryz.prog w= .ok (.enter 84 args) w:=enters Tryz.func84 kr O
theorem ent123:∀args w,(callFunc 123 args).run Tryz.prog w= .ok (.enter 123 args) w:=enters Tryz.func123 kr O
theorem ent118:∀args w,(callFunc 118 args).run Tryz.prog w= .ok (.enter 118 args) w:=enters Tryz.func118 kr O
theorem ent113:∀args w,(callFunc 113 args).run Tryz.prog w= .ok (.enter 113 args) w:=enters Tryz.func113 kr O
theorem ent112:∀args w,(callFunc 112 args).run Tryz.prog w= .ok (.enter 112 args) w:=enters Tryz.func112 kr O
theorem ent99:∀args w,(callFunc 99 args).run Tryz.prog w= .ok (.enter 99 args) w:=enters Tryz.func99 kr O
theorem ent83:∀args w,(callFunc 83 args).run Tryz.prog w= .ok (.enter 83 args) w:=enters Tryz.func83 kr O
theorem ent56:∀args w,(callFunc 56 args).run Tryz.prog w= .ok (.enter 56 args) w:=enters Tryz.func56 kr O
theorem ent13:∀args w,(callFunc 13 args).run Tryz.prog w= .ok (.enter 13 args) w:=enters Tryz.func13 kr O
theorem mapty103:Tryz.prog.underlying 103=some (.map 3 4):=by kernel_rfl
theorem zero4:∀w,(zeroValue 4).run Tryz.prog w= .ok (.bool false) w:=fun w=>by simp[go_sem]<;>rfl
theorem slty111:SlTy Tryz.prog 111 34 1 24:=SlTy.of (z:= .slice none 0 0) kr kr O
theorem varty34:VarTy Tryz.prog 34 false 1:=⟨fun w=>by simp[isAgg,go_sem],fun w=>by simp[sizeOf,go_sem]<;>rfl⟩
theorem ent65:∀args w,(callFunc 65 args).run Tryz.prog w= .ok (.enter 65 args) w:=enters Tryz.func65 kr O
theorem ent42:∀args w,(callFunc 42 args).run Tryz.prog w= .ok (.enter 42 args) w:=enters Tryz.func42 kr O
theorem ent43:∀args w,(callFunc 43 args).run Tryz.prog w= .ok (.enter 43 args) w:=enters Tryz.func43 kr O
theorem ent44:∀args w,(callFunc 44 args).run Tryz.prog w= .ok (.enter 44 args) w:=enters Tryz.func44 kr O
theorem ent95:∀args w,(callFunc 95 args).run Tryz.prog w= .ok (.enter 95 args) w:=enters Tryz.func95 kr O
theorem ent70:∀args w,(callFunc 70 args).run Tryz.prog w= .ok (.enter 70 args) w:=enters Tryz.func70 kr O
theorem ent48:∀args w,(callFunc 48 args).run Tryz.prog w= .ok (.enter 48 args) w:=enters Tryz.func48 kr O
theorem ent49:∀args w,(callFunc 49 args).run Tryz.prog w= .ok (.enter 49 args) w:=enters Tryz.func49 kr O
theorem ent50:∀args w,(callFunc 50 args).run Tryz.prog w= .ok (.enter 50 args) w:=enters Tryz.func50 kr O
theorem ent31:∀args w,(callFunc 31 args).run Tryz.prog w= .ok (.enter 31 args) w:=enters Tryz.func31 kr O
theorem ent36:∀args w,(callFunc 36 args).run Tryz.prog w= .ok (.enter 36 args) w:=enters Tryz.func36 kr O
theorem ent35:∀args w,(callFunc 35 args).run Tryz.prog w= .ok (.enter 35 args) w:=enters Tryz.func35 kr O
theorem ent15:∀args w,(callFunc 15 args).run Tryz.prog w= .ok (.enter 15 args) w:=enters Tryz.func15 kr O
theorem ent16:∀args w,(callFunc 16 args).run Tryz.prog w= .ok (.enter 16 args) w:=enters Tryz.func16 kr O
theorem ent24:∀args w,(callFunc 24 args).run Tryz.prog w= .ok (.enter 24 args) w:=enters Tryz.func24 kr O
theorem ent21:∀args w,(callFunc 21 args).run Tryz.prog w= .ok (.enter 21 args) w:=enters Tryz.func21 kr O
theorem ent19:∀args w,(callFunc 19 args).run Tryz.prog w= .ok (.enter 19 args) w:=enters Tryz.func19 kr O
theorem ent25:∀args w,(callFunc 25 args).run Tryz.prog w= .ok (.enter 25 args) w:=enters Tryz.func25 kr O
theorem ent26:∀args w,(callFunc 26 args).run Tryz.prog w= .ok (.enter 26 args) w:=enters Tryz.func26 kr O
theorem ent29:∀args w,(callFunc 29 args).run Tryz.prog w= .ok (.enter 29 args) w:=enters Tryz.func29 kr O
theorem ent10:∀args w,(callFunc 10 args).run Tryz.prog w= .ok (.enter 10 args) w:=enters Tryz.func10 kr O
theorem ent11:∀args w,(callFunc 11 args).run Tryz.prog w= .ok (.enter 11 args) w:=enters Tryz.func11 kr O
theorem ent12:∀args w,(callFunc 12 args).run Tryz.prog w= .ok (.enter 12 args) w:=enters Tryz.func12 kr O
theorem ent22:∀args w,(callFunc 22 args).run Tryz.prog w= .ok (.enter 22 args) w:=enters Tryz.func22 kr O
theorem Z9 (self:Node→Option Int) (hself:∀{Z:World} {ρ:PH} {L:List bQ} {w:World} (C:Node) (aI:Value) (aY:aH ρ aI C.kids) (D:Hp Z ρ (L) w) (r:Int) (H:self C=some r),Calls Tryz.prog 23 #[(.agg #[(Iv C.kind),(.string C.text),(Iv C.at_),(Iv C.fin),aI])] w (Ret fun v w'=>v=(Iv r)∧Hp Z ρ (L) w')) {Z:World} {ρ:PH} {L:List bQ} {w:World} (C:Node) (aI:Value) (aY:aH ρ aI C.kids) (D:Hp Z ρ (L) w) (r:Int) (H:pM self C=some r):
  Calls Tryz.prog 23 #[(.agg #[(Iv C.kind),(.string C.text),(Iv C.at_),(Iv C.fin),aI])] w (Ret fun v w'=>v=(Iv r)∧Hp Z ρ (L) w'):=by
 refine enter (N:=21) Tryz.func23 O O [(0,(.agg #[(Iv C.kind),(.string C.text),(Iv C.at_),(Iv C.fin),aI]))] O (bH ⟨O,tv⟩) fun a A=>?_
 unfold pM at H
 refine aG (aA ?_)
 refine iH (wk0 O) O O A D O (v:=(.agg #[(Iv C.kind),(.string C.text),(Iv C.at_),(Iv C.fin),aI])) O ?_
 intro a w b1 A D
 have D:=r1 D
 refine S A 1 O fun a A=>aB (aG ?_)
 refine aA (S A 1 O fun a A=>?_)
 refine aB (aG ?_)
 refine aG (aA ?_)
 refine S A 1 O fun a A=>aB ?_
 obtain⟨b2,I,H⟩:=bnd H
 refine dM (fun a w=>Env 21 [(3,(Iv b2))] a∧Hp Z ρ (Pt b1 (.cells #[(Iv C.kind),(.string C.text),(Iv C.at_),(Iv C.fin),aI] 24 (0,0))::L) w) ?_ ?_
 ·refine eQ I (fun s a w=>Env 21 [(1,(Pv b1 0)),(3,(Iv s.1)),(4,(Iv s.2))] a∧Hp Z ρ (Pt b1 (.cells #[(Iv C.kind),(.string C.text),(Iv C.at_),(Iv C.fin),aI] 24 (0,0))::L) w) ?_ ?_
  ·exact⟨A.cut ⟨O,O,O,tv⟩,D⟩
  rintro⟨aQ,aU⟩ st a w ⟨A,D⟩ B
  dsimp only at A D B
  unfold lX at B
  refine aG (aG ?_)
  refine aA (S A 1 O fun a A=>?_)
  refine V A D O (xf A qA O O) fun a A=>V A D O (xl A iK 0 O O O O) fun a A=>V A D O (bW O A O (aH.len aY iZ)) fun a A=>S A 1 O fun a A=>aB ?_
  have A:=A.cut (E':=[(1,(Pv b1 0)),(3,(Iv aQ)),(4,(Iv aU)),(9,(.bool (decide (aU<(C.kids.length:Int)))))]) ⟨O,O,O,O,tv⟩
  refine dK A O (fun G=>?_) (fun G=>?_)
  ·replace B:=(it G).symm.trans B
   refine bI (aG ?_)
   refine dN (aA ?_)
   refine S A 1 O fun a A=>V A D O (xf A qA O O) fun a A=>V A D O (xl A iK 0 O O O O) fun a A=>S A 1 O fun a A=>?_
   obtain⟨F,R,B⟩:=bnd B
   obtain⟨b3,b3o,b3c,b3r,b3k,b3f⟩:=aH.at aY iZ R
   obtain⟨pU,rfl,P6⟩:=NodeAt.opens b3k
   have b3f:AtP ρ b3 b3o [(Iv F.kind),(.string F.text),(Iv F.at_),(Iv F.fin),pU]:=b3f
   refine V A D O (aO O A O O b3r) fun a A=>V A D O (aK O A O (fun w X=>aX (cs:=[(Iv F.kind),(.string F.text),(Iv F.at_),(Iv F.fin),pU]) cO (fun j u Y=>cell_of X.le (b3f j u Y)))) fun a A=>?_
   obtain⟨U,M,B⟩:=bnd B
   refine Cl A O O ent23 (hself F pU P6 D U M) ⟨O,tv⟩ fun v a w b A=>?_
   obtain⟨rfl,D⟩:=b
   have D:=r1 D
   obtain⟨x3,K,B⟩:=bnd B
   refine V A D O (bF O A O O (aN K)) fun a A=>S A 1 O fun a A=>aB (aA ?_)
   refine S A 1 O fun a A=>?_
   obtain⟨x4,J,B⟩:=bnd B
   refine V A D O (bF O A O O (aN J)) fun a A=>S A 1 O fun a A=>aB ?_
   exact⟨_,(oj B).symm,A.cut ⟨O,O,O,tv⟩,D⟩
  replace B:=(ie G).symm.trans B
  refine dZ ?_
  refine⟨_,(oj B).symm,fun hbb=>?_⟩
  subst hbb
  exact⟨A.cut ⟨O,tv⟩,D⟩
 rintro a w ⟨A,D⟩
 refine aG (aA ?_)
 refine S A 2 O fun a A=>aB (cZ ?_)
 obtain rfl:=oj H
 exact gY A O O ⟨_,O,O,(D.drop)⟩
theorem aF1:∀(n:Nat),∀{Z:World} {ρ:PH} {L:List bQ} {w:World} (A:Node) (aI:Value) (aY:aH ρ aI A.kids) (C:Hp Z ρ (L) w) (r:Int) (B:kY n A=some r),Calls Tryz.prog 23 #[(.agg #[(Iv A.kind),(.string A.text),(Iv A.at_),(Iv A.fin),aI])] w (Ret fun v w'=>v=(Iv r)∧Hp Z ρ (L) w'):=by
 intro n
 induction n with
 |zero=>intro Z ρ L w A aI aY C r B;cases B
 |succ n ih=>intro Z ρ L w A aI aY C r B;exact Z9 (kY n) ih A aI aY C r B
theorem I5 {Z:World} {ρ:PH} {L:List bQ} {w:World} (A:Node) (aI:Value) (aY:aH ρ aI A.kids) (B:Hp Z ρ (L) w) (r:Int) (C:uC A=some r):
  Calls Tryz.prog 23 #[(.agg #[(Iv A.kind),(.string A.text),(Iv A.at_),(Iv A.fin),aI])] w (Ret fun v w'=>v=(Iv r)∧Hp Z ρ (L) w'):=aF1 _ A aI aY B r C
theorem aK4 {Z:World} {ρ:PH} {L:List bQ} {w:World} (D:Node) (aI:Value) (aY:aH ρ aI D.kids) (C:Node) (aJ:Value) (bG:aH ρ aJ C.kids) (F:Hp Z ρ (L) w) (r:Bool) (H:xK D C=some r):
  Calls Tryz.prog 82 #[(.agg #[(Iv D.kind),(.string D.text),(Iv D.at_),(Iv D.fin),aI]),(.agg #[(Iv C.kind),(.string C.text),(Iv C.at_),(Iv C.fin),aJ])] w (Ret fun v w'=>v=(.bool r)∧Hp Z ρ (L) w'):=by
 refine enter (N:=17) Tryz.func82 O O [(0,(.agg #[(Iv D.kind),(.string D.text),(Iv D.at_),(Iv D.fin),aI])),(1,(.agg #[(Iv C.kind),(.string C.text),(Iv C.at_),(Iv C.fin),aJ]))] O (bH ⟨O,O,tv⟩) fun a A=>?_
 unfold xK at H
 refine aG (aA ?_)
 refine iH (wk0 O) O O A F O (v:=(.agg #[(Iv D.kind),(.string D.text),(Iv D.at_),(Iv D.fin),aI])) O ?_
 intro a w b1 A F
 have F:=r1 F
 refine iH (wk0 O) O O A F O (v:=(.agg #[(Iv C.kind),(.string C.text),(Iv C.at_),(Iv C.fin),aJ])) O ?_
 intro a w b2 A F
 have F:=r2 F
 refine S A 1 O fun a A=>aB (aG ?_)
 refine aA (V A F O (xf A zH O O) fun a A=>?_)
 refine V A F O (xl A aW 1 O O O O) fun a A=>V A F O (xf A zH O O) fun a A=>V A F O (xl A aW 0 O O O O) fun a A=>S A 2 O fun a A=>?_
 refine jI [_,_,_,_,_,_] (fun a w=>Env 17 [(16,(.bool ((decide (D.kind=C.kind))&&(decide (D.text=C.text)))))] a∧Hp Z ρ (Pt b2 (.cells #[(Iv C.kind),(.string C.text),(Iv C.at_),(Iv C.fin),aJ] 24 (0,0))::Pt b1 (.cells #[(Iv D.kind),(.string D.text),(Iv D.at_),(Iv D.fin),aI] 24 (0,0))::L) w) ?_ ?_
 ·rcases vA (decide (D.kind=C.kind)) with B|B
  ·
   refine G A F B O (xf A xC O O) fun a A=>G A F B O (xl A V8 1 O O O O) fun a A=>G A F B O (xf A xC O O) fun a A=>G A F B O (xl A V8 0 O O O O) fun a A=>G A F B O (v:=(.bool (decide (D.text=C.text)))) (ex_seql O A O O) fun a A=>pk1 A B O O O O fun a A=>?_
   have A:=A.eqv (v':=(.bool ((decide (D.kind=C.kind))&&(decide (D.text=C.text))))) (by rw[B];rfl)
   exact aB ⟨A.cut ⟨O,tv⟩,F⟩
  refine Gk A B O fun a A=>Gk A B O fun a A=>Gk A B O fun a A=>Gk A B O fun a A=>Gk A B O fun a A=>pk0 A B O O O O fun a A=>?_
  have A:=A.eqv (v':=(.bool ((decide (D.kind=C.kind))&&(decide (D.text=C.text))))) (by rw[B];rfl)
  exact aB ⟨A.cut ⟨O,tv⟩,F⟩
 rintro a w ⟨A,F⟩
 refine S A 1 O fun a A=>aB (cZ ?_)
 obtain rfl:=oj H
 exact gY A O O ⟨_,O,O,(((F.get 1 O).drop).drop)⟩
theorem aC9 (self:Node→Node→Option Bool) (hself:∀{Z:World} {ρ:PH} {L:List bQ} {w:World} (C:Node) (aI:Value) (aY:aH ρ aI C.kids) (B:Node) (aJ:Value) (bG:aH ρ aJ B.kids) (F:Hp Z ρ (L) w) (r:Bool) (I:self C B=some r),Calls Tryz.prog 55 #[(.agg #[(Iv C.kind),(.string C.text),(Iv C.at_),(Iv C.fin),aI]),(.agg #[(Iv B.kind),(.string B.text),(Iv B.at_),(Iv B.fin),aJ])] w (Ret fun v w'=>v=(.bool r)∧Hp Z ρ (L) w')) {Z:World} {ρ:PH} {L:List bQ} {w:World} (C:Node) (aI:Value) (aY:aH ρ aI C.kids) (B:Node) (aJ:Value) (bG:aH ρ aJ B.kids) (F:Hp Z ρ (L) w) (r:Bool) (I:uG self C B=some r):
  Calls Tryz.prog 55 #[(.agg #[(Iv C.kind),(.string C.text),(Iv C.at_),(Iv C.fin),aI]),(.agg #[(Iv B.kind),(.string B.text),(Iv B.at_),(Iv B.fin),aJ])] w (Ret fun v w'=>v=(.bool r)∧Hp Z ρ (L) w'):=by
 refine enter (N:=38) Tryz.func55 O O [(0,(.agg #[(Iv C.kind),(.string C.text),(Iv C.at_),(Iv C.fin),aI])),(1,(.agg #[(Iv B.kind),(.string B.text),(Iv B.at_),(Iv B.fin),aJ]))] O (bH ⟨O,O,tv⟩) fun a A=>?_
 unfold uG at I
 refine aG (aA ?_)
 refine iH (wk0 O) O O A F O (v:=(.agg #[(Iv C.kind),(.string C.text),(Iv C.at_),(Iv C.fin),aI])) O ?_
 intro a w b1 A F
 have F:=r1 F
 refine iH (wk0 O) O O A F O (v:=(.agg #[(Iv B.kind),(.string B.text),(Iv B.at_),(Iv B.fin),aJ])) O ?_
 intro a w b2 A F
 have F:=r2 F
 refine S A 1 O fun a A=>aB (aG ?_)
 refine aG (aA ?_)
 refine V A F O (aK O A O (fun w M=>aX (cs:=[(Iv C.kind),(.string C.text),(Iv C.at_),(Iv C.fin),aI]) cO (Hp.cN 1 O 0 _ (aS O) w M))) fun a A=>V A F O (aK O A O (fun w M=>aX (cs:=[(Iv B.kind),(.string B.text),(Iv B.at_),(Iv B.fin),aJ]) cO (Hp.cN 0 O 0 _ (aS O) w M))) fun a A=>?_
 obtain⟨Y,k,I⟩:=bnd I
 refine Cl A O O ent82 (aK4 C aI aY B aJ bG F Y k) ⟨O,O,tv⟩ fun v a w n A=>?_
 obtain⟨rfl,F⟩:=n
 have F:=r2 F
 refine S A 2 O fun a A=>?_
 refine jI [_,_,_,_,_,_,_,_] (fun a w=>Env 38 [(18,(.bool ((!Y)||(!decide ((C.kids.length:Int)=(B.kids.length:Int)))))),(2,(Pv b1 0)),(3,(Pv b2 0))] a∧Hp Z ρ (Pt b2 (.cells #[(Iv B.kind),(.string B.text),(Iv B.at_),(Iv B.fin),aJ] 24 (0,0))::Pt b1 (.cells #[(Iv C.kind),(.string C.text),(Iv C.at_),(Iv C.fin),aI] 24 (0,0))::L) w) ?_ ?_
 ·rcases vA (!Y) with H|H
  ·
   refine Gk A H O fun a A=>Gk A H O fun a A=>Gk A H O fun a A=>Gk A H O fun a A=>Gk A H O fun a A=>Gk A H O fun a A=>Gk A H O fun a A=>pk1 A H O O O O fun a A=>?_
   have A:=A.eqv (v':=(.bool ((!Y)||(!decide ((C.kids.length:Int)=(B.kids.length:Int)))))) (by rw[H];rfl)
   exact aB ⟨A.cut ⟨O,O,O,tv⟩,F⟩
  refine G A F H O (xf A qA O O) fun a A=>G A F H O (xl A iK 1 O O O O) fun a A=>G A F H O (bW O A O (aH.len aY iZ)) fun a A=>G A F H O (xf A qA O O) fun a A=>G A F H O (xl A iK 0 O O O O) fun a A=>G A F H O (bW O A O (aH.len bG iZ)) fun a A=>Gs A H O O fun a A=>pk0 A H O O O O fun a A=>?_
  have A:=A.eqv (v':=(.bool ((!Y)||(!decide ((C.kids.length:Int)=(B.kids.length:Int)))))) (by rw[H];rfl)
  exact aB ⟨A.cut ⟨O,O,O,tv⟩,F⟩
 rintro a w ⟨A,F⟩
 refine aB ?_
 refine dK A O (fun X=>?_) (fun X=>?_)
 ·replace I:=(it X).symm.trans I
  refine aG (aA ?_)
  refine S A 1 O fun a A=>aB (cZ ?_)
  obtain rfl:=oj I
  exact gY A O O ⟨_,O,O,(((F.get 1 O).drop).drop)⟩
 replace I:=(ie X).symm.trans I
 refine bI (aG ?_)
 refine aG (aA ?_)
 refine S A 1 O fun a A=>aB ?_
 obtain⟨b3,c,I⟩:=bnd I
 refine dM (fun a w=>∃s:Unit,b3= .brk s∧(Env 38 [] a∧Hp Z ρ (Pt b2 (.cells #[(Iv B.kind),(.string B.text),(Iv B.at_),(Iv B.fin),aJ] 24 (0,0))::Pt b1 (.cells #[(Iv C.kind),(.string C.text),(Iv C.at_),(Iv C.fin),aI] 24 (0,0))::L) w)) ?_ ?_
 ·refine eQ c (fun s a w=>Env 38 [(2,(Pv b1 0)),(3,(Pv b2 0)),(5,(Iv s))] a∧Hp Z ρ (Pt b2 (.cells #[(Iv B.kind),(.string B.text),(Iv B.at_),(Iv B.fin),aJ] 24 (0,0))::Pt b1 (.cells #[(Iv C.kind),(.string C.text),(Iv C.at_),(Iv C.fin),aI] 24 (0,0))::L) w) ?_ ?_
  ·exact⟨A.cut ⟨O,O,O,tv⟩,F⟩
  rintro aQ st a w ⟨A,F⟩ D
  unfold wR at D
  refine aG (aG ?_)
  refine aA (S A 1 O fun a A=>?_)
  refine V A F O (xf A qA O O) fun a A=>V A F O (xl A iK 1 O O O O) fun a A=>V A F O (bW O A O (aH.len aY iZ)) fun a A=>S A 1 O fun a A=>aB ?_
  refine dK A O (fun U=>?_) (fun U=>?_)
  ·replace D:=(it U).symm.trans D
   refine bI (aG ?_)
   refine dN (aG ?_)
   refine jU kr kr F ?_
   refine Vq A O (xf A qA O O) fun a A=>Vq A O (xl A iK 1 O O O O) fun a A=>Sq A 1 O fun a A=>?_
   obtain⟨K,i,D⟩:=bnd D
   obtain⟨b4,b4o,b4c,b4r,b4k,b4f⟩:=aH.at aY iZ i
   obtain⟨uQ,rfl,aL8⟩:=NodeAt.opens b4k
   have b4f:AtP ρ b4 b4o [(Iv K.kind),(.string K.text),(Iv K.at_),(Iv K.fin),uQ]:=b4f
   refine Vq A O (aO O A O O b4r) fun a A=>Vq A O (aK O A O (fun w M=>aX (cs:=[(Iv K.kind),(.string K.text),(Iv K.at_),(Iv K.fin),uQ]) cO (fun j u b=>cell_of M.le (b4f j u b)))) fun a A=>Vq A O (xf A qA O O) fun a A=>Vq A O (xl A iK 0 O O O O) fun a A=>Sq A 1 O fun a A=>?_
   obtain⟨J,h,D⟩:=bnd D
   obtain⟨b5,b5o,b5c,b5r,b5k,b5f⟩:=aH.at bG iZ h
   obtain⟨aS4,rfl,hb5_kids⟩:=NodeAt.opens b5k
   have b5f:AtP ρ b5 b5o [(Iv J.kind),(.string J.text),(Iv J.at_),(Iv J.fin),aS4]:=b5f
   refine Vq A O (aO O A O O b5r) fun a A=>Vq A O (aK O A O (fun w M=>aX (cs:=[(Iv J.kind),(.string J.text),(Iv J.at_),(Iv J.fin),aS4]) cO (fun j u b=>cell_of M.le (b5f j u b)))) fun a A=>?_
   obtain⟨m,g,D⟩:=bnd D
   refine aE8 (wk0 O) O O A O [(.agg #[(Iv K.kind),(.string K.text),(Iv K.at_),(Iv K.fin),uQ]),(.agg #[(Iv J.kind),(.string J.text),(Iv J.at_),(Iv J.fin),aS4])] ⟨O,O,tv⟩ ent55 (v:=(.bool m)) (fun w M=>Calls.mono (hself K uQ aL8 J aS4 hb5_kids M m g) fun e w' ⟨v,he,hv,hh⟩=>⟨by rw[he,hv],hh⟩) ?_
   intro a A
   refine Sq A 1 O fun a A=>?_
   refine jQ fun w F=>?_
   have F:=r2 F
   refine dK A O (fun R=>?_) (fun R=>?_)
   ·replace D:=(it R).symm.trans D
    refine aG (aA ?_)
    refine S A 1 O fun a A=>aB (cZ ?_)
    refine⟨_,(oj D).symm,fun hb=>?_⟩
    subst hb
    obtain rfl:=oj I
    exact gY A O O ⟨_,O,O,(((F.get 1 O).drop).drop)⟩
   replace D:=(ie R).symm.trans D
   refine bI (aA ?_)
   refine S A 1 O fun a A=>?_
   obtain⟨x5,f,D⟩:=bnd D
   refine V A F O (bF O A O O (aN f)) fun a A=>S A 1 O fun a A=>aB ?_
   exact⟨_,(oj D).symm,A.cut ⟨O,O,O,tv⟩,F⟩
  replace D:=(ie U).symm.trans D
  refine dZ ?_
  refine⟨_,(oj D).symm,fun hbb=>?_⟩
  exact⟨_,hbb.symm,A.cut trivial,F⟩
 rintro a w ⟨b3s,rfl,A,F⟩
 dsimp only at I
 refine aG (aA ?_)
 refine S A 1 O fun a A=>aB ?_
 have A:=A.cut (E':=[(4,(.bool true))]) ⟨O,tv⟩
 refine cZ ?_
 obtain rfl:=oj I
 exact gY A O O ⟨_,O,O,(((F.get 1 O).drop).drop)⟩
theorem aH6:∀(n:Nat),∀{Z:World} {ρ:PH} {L:List bQ} {w:World} (B:Node) (aI:Value) (aY:aH ρ aI B.kids) (A:Node) (aJ:Value) (bG:aH ρ aJ A.kids) (D:Hp Z ρ (L) w) (r:Bool) (C:sZ n B A=some r),Calls Tryz.prog 55 #[(.agg #[(Iv B.kind),(.string B.text),(Iv B.at_),(Iv B.fin),aI]),(.agg #[(Iv A.kind),(.string A.text),(Iv A.at_),(Iv A.fin),aJ])] w (Ret fun v w'=>v=(.bool r)∧Hp Z ρ (L) w'):=by
 intro n
 induction n with
 |zero=>intro Z ρ L w B aI aY A aJ bG D r C;cases C
 |succ n ih=>intro Z ρ L w B aI aY A aJ bG D r C;exact aC9 (sZ n) ih B aI aY A aJ bG D r C
theorem aL3 {Z:World} {ρ:PH} {L:List bQ} {w:World} (B:Node) (aI:Value) (aY:aH ρ aI B.kids) (A:Node) (aJ:Value) (bG:aH ρ aJ A.kids) (C:Hp Z ρ (L) w) (r:Bool) (D:Q3 B A=some r):
  Calls Tryz.prog 55 #[(.agg #[(Iv B.kind),(.string B.text),(Iv B.at_),(Iv B.fin),aI]),(.agg #[(Iv A.kind),(.string A.text),(Iv A.at_),(Iv A.fin),aJ])] w (Ret fun v w'=>v=(.bool r)∧Hp Z ρ (L) w'):=aH6 _ B aI aY A aJ bG C r D
theorem aE3 (self:Node→Int→Option Int) (hself:∀{Z:World} {ρ:PH} {L:List bQ} {w:World} (B:Node) (aI:Value) (aY:aH ρ aI B.kids) (J:Int) (C:Hp Z ρ (L) w) (r:Int) (I:self B J=some r),Calls Tryz.prog 58 #[(.agg #[(Iv B.kind),(.string B.text),(Iv B.at_),(Iv B.fin),aI]),(Iv J)] w (Ret fun v w'=>v=(Iv r)∧Hp Z ρ (L) w')) {Z:World} {ρ:PH} {L:List bQ} {w:World} (B:Node) (aI:Value) (aY:aH ρ aI B.kids) (J:Int) (C:Hp Z ρ (L) w) (r:Int) (I:rH self B J=some r):
  Calls Tryz.prog 58 #[(.agg #[(Iv B.kind),(.string B.text),(Iv B.at_),(Iv B.fin),aI]),(Iv J)] w (Ret fun v w'=>v=(Iv r)∧Hp Z ρ (L) w'):=by
 refine enter (N:=35) Tryz.func58 O O [(0,(.agg #[(Iv B.kind),(.string B.text),(Iv B.at_),(Iv B.fin),aI])),(1,(Iv J))] O (bH ⟨O,O,tv⟩) fun a A=>?_
 unfold rH at I
 refine aG (aA ?_)
 refine iH (wk0 O) O O A C O (v:=(.agg #[(Iv B.kind),(.string B.text),(Iv B.at_),(Iv B.fin),aI])) O ?_
 intro a w b1 A C
 have C:=r1 C
 refine S A 1 O fun a A=>aB (aG ?_)
 refine aG (aA ?_)
 refine S A 3 O fun a A=>?_
 refine jI [_,_,_,_,_] (fun a w=>Env 35 [(13,(.bool ((decide (J<1))||(decide (40<(B.text.size:Int)))))),(1,(Iv J)),(2,(Pv b1 0))] a∧Hp Z ρ (Pt b1 (.cells #[(Iv B.kind),(.string B.text),(Iv B.at_),(Iv B.fin),aI] 24 (0,0))::L) w) ?_ ?_
 ·rcases vA (decide (J<1)) with F|F
  ·
   refine Gk A F O fun a A=>Gk A F O fun a A=>Gk A F O fun a A=>Gk A F O fun a A=>pk1 A F O O O O fun a A=>?_
   have A:=A.eqv (v':=(.bool ((decide (J<1))||(decide (40<(B.text.size:Int)))))) (by rw[F];rfl)
   exact aB ⟨A.cut ⟨O,O,O,tv⟩,C⟩
  refine G A C F O (xf A xC O O) fun a A=>G A C F O (xl A V8 0 O O O O) fun a A=>G A C F O (v:=(Iv (B.text.size:Int))) (ex_slen sty9 O A O) fun a A=>Gs A F O O fun a A=>pk0 A F O O O O fun a A=>?_
  have A:=A.eqv (v':=(.bool ((decide (J<1))||(decide (40<(B.text.size:Int)))))) (by rw[F];rfl)
  exact aB ⟨A.cut ⟨O,O,O,tv⟩,C⟩
 rintro a w ⟨A,C⟩
 refine aB ?_
 refine dK A O (fun R=>?_) (fun R=>?_)
 ·replace I:=(it R).symm.trans I
  refine aG (aA ?_)
  refine S A 1 O fun a A=>aB (cZ ?_)
  obtain rfl:=oj I
  exact gY A O O ⟨_,O,O,(C.drop)⟩
 replace I:=(ie R).symm.trans I
 refine bI (aG ?_)
 refine aA (S A 1 O fun a A=>?_)
 obtain⟨x1,c,I⟩:=bnd I
 refine V A C O (dQ O A O O (aN c)) fun a A=>S A 1 O fun a A=>aB (aG ?_)
 refine aG (aA ?_)
 refine S A 1 O fun a A=>aB ?_
 obtain⟨b2,U,I⟩:=bnd I
 refine dM (fun a w=>Env 35 [(1,(Iv b2))] a∧Hp Z ρ (Pt b1 (.cells #[(Iv B.kind),(.string B.text),(Iv B.at_),(Iv B.fin),aI] 24 (0,0))::L) w) ?_ ?_
 ·refine eQ U (fun s a w=>Env 35 [(1,(Iv s.1)),(2,(Pv b1 0)),(5,(Iv s.2))] a∧Hp Z ρ (Pt b1 (.cells #[(Iv B.kind),(.string B.text),(Iv B.at_),(Iv B.fin),aI] 24 (0,0))::L) w) ?_ ?_
  ·exact⟨A.cut ⟨O,O,O,tv⟩,C⟩
  rintro⟨aQ,aU⟩ st a w ⟨A,C⟩ D
  dsimp only at A C D
  unfold kE at D
  refine aG (aG ?_)
  refine aA (S A 1 O fun a A=>?_)
  refine V A C O (xf A qA O O) fun a A=>V A C O (xl A iK 0 O O O O) fun a A=>V A C O (bW O A O (aH.len aY iZ)) fun a A=>S A 2 O fun a A=>?_
  refine jI [_,_,_] (fun a w=>Env 35 [(24,(.bool ((decide (aU<(B.kids.length:Int)))&&(decide (0≤aQ))))),(1,(Iv aQ)),(2,(Pv b1 0)),(5,(Iv aU))] a∧Hp Z ρ (Pt b1 (.cells #[(Iv B.kind),(.string B.text),(Iv B.at_),(Iv B.fin),aI] 24 (0,0))::L) w) ?_ ?_
  ·rcases vA (decide (aU<(B.kids.length:Int))) with H|H
   ·
    refine Gs A H O O fun a A=>Gs A H O O fun a A=>pk1 A H O O O O fun a A=>?_
    have A:=A.eqv (v':=(.bool ((decide (aU<(B.kids.length:Int)))&&(decide (0≤aQ))))) (by rw[H];rfl)
    exact aB ⟨A.cut ⟨O,O,O,O,tv⟩,C⟩
   refine Gk A H O fun a A=>Gk A H O fun a A=>pk0 A H O O O O fun a A=>?_
   have A:=A.eqv (v':=(.bool ((decide (aU<(B.kids.length:Int)))&&(decide (0≤aQ))))) (by rw[H];rfl)
   exact aB ⟨A.cut ⟨O,O,O,O,tv⟩,C⟩
  rintro a w ⟨A,C⟩
  refine aB ?_
  refine dK A O (fun M=>?_) (fun M=>?_)
  ·replace D:=(it M).symm.trans D
   refine bI (aG ?_)
   refine dN (aA ?_)
   refine V A C O (xf A qA O O) fun a A=>V A C O (xl A iK 0 O O O O) fun a A=>S A 1 O fun a A=>?_
   obtain⟨K,b,D⟩:=bnd D
   obtain⟨b3,b3o,b3c,b3r,b3k,b3f⟩:=aH.at aY iZ b
   obtain⟨pU,rfl,P6⟩:=NodeAt.opens b3k
   have b3f:AtP ρ b3 b3o [(Iv K.kind),(.string K.text),(Iv K.at_),(Iv K.fin),pU]:=b3f
   refine V A C O (aO O A O O b3r) fun a A=>V A C O (aK O A O (fun w f=>aX (cs:=[(Iv K.kind),(.string K.text),(Iv K.at_),(Iv K.fin),pU]) cO (fun j u g=>cell_of f.le (b3f j u g)))) fun a A=>S A 1 O fun a A=>?_
   obtain⟨e,Y,D⟩:=bnd D
   refine Cl A O O ent58 (hself K pU P6 aQ C e Y) ⟨O,O,tv⟩ fun v a w h A=>?_
   obtain⟨rfl,C⟩:=h
   have C:=r1 C
   refine S A 1 O fun a A=>aB (aA ?_)
   refine S A 1 O fun a A=>?_
   obtain⟨x4,X,D⟩:=bnd D
   refine V A C O (bF O A O O (aN X)) fun a A=>S A 1 O fun a A=>aB ?_
   exact⟨_,(oj D).symm,A.cut ⟨O,O,O,tv⟩,C⟩
  replace D:=(ie M).symm.trans D
  refine dZ ?_
  refine⟨_,(oj D).symm,fun hbb=>?_⟩
  subst hbb
  exact⟨A.cut ⟨O,tv⟩,C⟩
 rintro a w ⟨A,C⟩
 refine aG (aA ?_)
 refine S A 2 O fun a A=>aB (cZ ?_)
 obtain rfl:=oj I
 exact gY A O O ⟨_,O,O,(C.drop)⟩
theorem aK5:∀(n:Nat),∀{Z:World} {ρ:PH} {L:List bQ} {w:World} (A:Node) (aI:Value) (aY:aH ρ aI A.kids) (B:Int) (D:Hp Z ρ (L) w) (r:Int) (C:kQ n A B=some r),Calls Tryz.prog 58 #[(.agg #[(Iv A.kind),(.string A.text),(Iv A.at_),(Iv A.fin),aI]),(Iv B)] w (Ret fun v w'=>v=(Iv r)∧Hp Z ρ (L) w'):=by
 intro n
 induction n with
 |zero=>intro Z ρ L w A aI aY B D r C;cases C
 |succ n ih=>intro Z ρ L w A aI aY B D r C;exact aE3 (kQ n) ih A aI aY B D r C
theorem aP3 {Z:World} {ρ:PH} {L:List bQ} {w:World} (A:Node) (aI:Value) (aY:aH ρ aI A.kids) (B:Int) (C:Hp Z ρ (L) w) (r:Int) (D:zN A B=some r):
  Calls Tryz.prog 58 #[(.agg #[(Iv A.kind),(.string A.text),(Iv A.at_),(Iv A.fin),aI]),(Iv B)] w (Ret fun v w'=>v=(Iv r)∧Hp Z ρ (L) w'):=aK5 _ A aI aY B C r D
theorem V9 {Z:World} {ρ:PH} {L:List bQ} {w:World} (A:Node) (aI:Value) (aY:aH ρ aI A.kids) (D:Int) (C:Hp Z ρ (L) w) (r:Bool) (F:qB A D=some r):
  Calls Tryz.prog 31 #[(.agg #[(Iv A.kind),(.string A.text),(Iv A.at_),(Iv A.fin),aI]),(Iv D)] w (Ret fun v w'=>v=(.bool r)∧Hp Z ρ (L) w'):=by
 refine enter (N:=9) Tryz.func31 O O [(0,(.agg #[(Iv A.kind),(.string A.text),(Iv A.at_),(Iv A.fin),aI])),(1,(Iv D))] O (bH ⟨O,O,tv⟩) fun a B=>?_
 unfold qB at F
 refine aG (aA ?_)
 refine iH (wk0 O) O O B C O (v:=(.agg #[(Iv A.kind),(.string A.text),(Iv A.at_),(Iv A.fin),aI])) O ?_
 intro a w b1 B C
 have C:=r1 C
 refine S B 1 O fun a B=>aB (aG ?_)
 refine aA (V B C O (aK O B O (fun w I=>aX (cs:=[(Iv A.kind),(.string A.text),(Iv A.at_),(Iv A.fin),aI]) cO (Hp.cN 0 O 0 _ (aS O) w I))) fun a B=>?_)
 refine S B 1 O fun a B=>?_
 obtain⟨H,G,F⟩:=bnd F
 refine Cl B O O ent58 (aP3 A aI aY D C H G) ⟨O,O,tv⟩ fun v a w J B=>?_
 obtain⟨rfl,C⟩:=J
 have C:=r1 C
 refine S B 2 O fun a B=>aB (cZ ?_)
 obtain rfl:=oj F
 exact gY B O O ⟨_,O,O,(C.drop)⟩
end Go.Proofs.YtopnldfjcciieaaGreat
