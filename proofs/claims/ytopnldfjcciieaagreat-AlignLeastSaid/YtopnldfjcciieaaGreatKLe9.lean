/- copy between two parts of one owned slice. Plain theorems over any program. -/
import Derived.Test.YtopnldfjcciieaaGreatKLeT
import Derived.Test.YtopnldfjcciieaaGreatKLe5
import Derived.Test.YtopnldfjcciieaaGreatKLe3
import Derived.Lib.AppendZerosOnto
set_option linter.unusedVariables false
set_option linter.unusedSimpArgs false
set_option maxRecDepth 100000
set_option maxHeartbeats 4000000
namespace Go.Proofs.YtopnldfjcciieaaGreat
open Go.RowKit
section
variable {Rn:Option Nat} {P:Program} {ops:Array Oper} {Q:Exit→Act→World→Prop} {rest:List Oper} {o:Oper} {a:Act} {w:World} {Df:List Deferred} {N:Nat} {E:Ent} {d:Nat} {Z:World} {ρ:PH} {L:List bQ}
variable {α:Type} [Enc α] {T El:TypeId} {bytes:Nat} {v:Value} {l r:List α}
theorem aG7 {sz:Nat} (ht:SlTy P T El sz bytes) {A:Option Addr} {n c:Nat} (lo hi:Option (IntKind×Int)) {i j:Int} (hlo:i=match lo with|none=>0|some p=>p.2) (hhi:j=match hi with|none=>(n:Int)|some p=>p.2) (h0:0≤i) (h1:i≤j) (h2:j≤c) {nv:Value}
  (h:∀w,(Instr.sliceAt T (.slice A n c) (lo.map fun p=> .int p.1 p.2) (hi.map fun p=> .int p.1 p.2) none).run P w= .ok nv w) (w:World):nv= .slice (if c=i.toNat then A else A.map (·.add (i.toNat*sz))) (j.toNat-i.toNat) (c-i.toNat):=by
 have e:=(h w).symm.trans (run_sl ht A n c lo hi hlo hhi h0 h1 h2 w)
 injection e
theorem run_copy0 (ht:SlTy P T El (Enc.sz α) bytes) {t2 ty:TypeId} (A B:Option Addr) (n c m c2:Nat) (C:min m n=0) (w:World):(Builtin.copy_ #[T,t2] ty #[.slice A n c,.slice B m c2]).run P w= .ok (Iv (0:Nat)) w:=by
 obtain⟨inf,z,hI,hz,hsz,hby,hzs⟩:=ht.inf
 have hm2:Nat.min m n=0:=C
 cases A<;>cases B<;>simp[Builtin.copy_,run_underlying ht.und,sizeOf,typeInfo,hI,Builtin.lenOf,Builtin.firstCells,hm2,storeCells,loadCells,loadCellsFrom,goInt]
theorem s_copyVV (wk:Region.wanted o (yielded ops a.tmps)=true) (hd:o.dst=some d) (hN:Nat.blt d N=true) (H:EnvD Df N E a) (J:Hp Z ρ L w) {x y:Operand} {t2:TypeId} (M:o.op= .call {callee:= .builtin .copy,args:= #[x,y],argTypes:= #[T,t2] }) (ht:SlTy P T El (Enc.sz α) bytes)
  (k:Nat) (hk:L[k]?=some (aC El v l)) {v1 v2:Value} (I:evo E x=some v1) (hy:evo E y=some v2) (lo1:IntKind×Int) (lo2 hi2:Option (IntKind×Int)) {i2 j2:Int} (hlo2:i2=match lo2 with|none=>0|some p=>p.2) (hhi2:j2=match hi2 with|none=>(l.length:Int)|some p=>p.2)
  {r1 r2:List α} (e1:sub l lo1.2 (l.length:Int)=some r1) (h1:∀w,(Instr.sliceAt T v ((some lo1).map fun p=> .int p.1 p.2) none none).run P w= .ok v1 w)
  (e2:sub l i2 j2=some r2) (h2:∀w,(Instr.sliceAt T v (lo2.map fun p=> .int p.1 p.2) (hi2.map fun p=> .int p.1 p.2) none).run P w= .ok v2 w)
  (K:∀a w,EnvD Df N ((d,.int .i64 (min r2.length r1.length:Nat))::E) a→Hp Z ρ (L.set k (aC El v (l.take lo1.2.toNat++cpy r1 r2))) w→wpL Rn P ops Q rest a w):wpL Rn P ops Q (o::rest) a w:=by
 obtain⟨a0,a1,_,rfl⟩:=aS1 e1
 obtain⟨b0,b1,b2,rfl⟩:=aS1 e2
 have hlt:=(uR.1 hk).1
 have D:((l.take (l.length:Int).toNat).drop lo1.2.toNat).length=l.length-lo1.2.toNat:=by simp
 have C:((l.take j2.toNat).drop i2.toNat).length=j2.toNat-i2.toNat:=by simp;omega
 have hr1:(l.take (l.length:Int).toNat).drop lo1.2.toNat=l.drop lo1.2.toNat:=by simp
 obtain⟨hxl,hv⟩:=(J.get k hk).row
 by_cases G:min ((l.take j2.toNat).drop i2.toNat).length ((l.take (l.length:Int).toNat).drop lo1.2.toNat).length=0
 ·have hnew:l.take lo1.2.toNat++cpy ((l.take (l.length:Int).toNat).drop lo1.2.toNat) ((l.take j2.toNat).drop i2.toNat)=l:=by
   unfold cpy
   rw[Nat.min_comm] at G
   rw[G,List.take_zero,List.nil_append,List.drop_zero,hr1,zR]
  have hsh:∃A B c c2,v1= .slice A (l.length-lo1.2.toNat) c∧v2= .slice B (j2.toNat-i2.toNat) c2:=by
   rcases hv with⟨A,rfl,hn⟩|⟨g,off0,cap,cur,rfl,_,hc,_⟩
   ·have:=aG7 ht (some lo1) none (i:=lo1.2) (j:=0) O O a0 (by omega) (by omega) h1 w
    have q:=aG7 ht lo2 hi2 hlo2 (j:=j2) (by rw[hhi2,hn]) b0 b1 (by omega) h2 w
    exact⟨_,_,_,_,by rw[this];congr 1;omega,q⟩
   have:=aG7 ht (some lo1) none (i:=lo1.2) (j:=(l.length:Int)) O O a0 (by omega) (by omega) h1 w
   have q:=aG7 ht lo2 hi2 hlo2 (j:=j2) hhi2 b0 b1 (by omega) h2 w
   exact⟨_,_,_,_,by rw[this];congr 1,q⟩
  obtain⟨A,B,c,c2,rfl,rfl⟩:=hsh
  refine F7 wk hd hN H (v:= .int .i64 (min ((l.take j2.toNat).drop i2.toNat).length ((l.take (l.length:Int).toNat).drop lo1.2.toNat).length:Nat)) (w':=w) ?_ fun a' hE'=>K a' w hE' ?_
  ·rw[G]
   rw[D,C] at G
   simp[execOp,M,resolve,invoke,builtin,H.eval I,H.eval hy,run_copy0 ht A B _ c _ c2 G w]
  rw[hnew,set_same hk];exact J
 rw[D,C] at G
 rcases hv with⟨A,rfl,hn⟩|⟨g,off,cap,cur,rfl,hpt,c1,c2,c3,c4⟩
 ·omega
 have q1:=aG7 ht (some lo1) none (i:=lo1.2) (j:=(l.length:Int)) O O a0 (by omega) (by omega) h1 w
 have q2:=aG7 ht lo2 hi2 hlo2 (j:=j2) hhi2 b0 b1 (by omega) h2 w
 rw[if_neg (by omega)] at q1
 rw[if_neg (by omega)] at q2
 simp only[Option.map_some,Addr.add_lit,xL] at q1 q2
 have hpl:lo1.2.toNat≤l.length:=by omega
 have hzl:j2.toNat≤l.length:=by omega
 clear e1 e2 h1 h2
 generalize lo1.2.toNat=p at D hr1 G q1 K hpl
 generalize i2.toNat=q at C G q2 K
 generalize j2.toNat=z at C G q2 K hzl
 obtain⟨inf,zz,hI,hz,hsz,hby,hzs⟩:=ht.inf
 have hg:=hpt.look 0 O
 generalize hs:(l.take z).drop q=s at C K
 generalize hd1:(l.take (l.length:Int).toNat).drop p=t at D hr1 K
 have hmm:Nat.min (z-q) (l.length-p)=min t.length s.length:=by rw[D,C];show min _ _=_;omega
 have hcs:((flat s).take (min t.length s.length*Enc.sz α)).length=Nat.min (z-q) (l.length-p)*Enc.sz α:=by
  rw[vQ,rM,hmm,Nat.min_eq_left (zE _ (by omega))]
 have hpc:p*Enc.sz α+min t.length s.length*Enc.sz α≤l.length*Enc.sz α:=by
  rw[←Nat.add_mul];exact zE _ (by omega)
 have hlc:l.length*Enc.sz α≤cap*Enc.sz α:=zE _ c1
 have hrun:=run_copyP (P:=P) w T t2 o.type El g (off+p*Enc.sz α) (l.length-p) (cap-p) ⟨g,off+q*Enc.sz α,none⟩ (z-q) (cap-q) (Enc.sz α) cur El ((flat s).take (min t.length s.length*Enc.sz α)) ht.und (by rw[hI,Option.map_some,hsz]) hg hcs
  (fun j u F=>by
   rw[Addr.add_lit]
   rw[xD] at F
   split at F
   ·rename_i hjl
    rw[←hs,aF5,aF6,yW,xD] at F
    split at F
    ·rename_i hjz
     rw[cell_of_row w g _ cur El (0,0) hg]
     have hf:flat l=(cur.toList.drop off).take (l.length*Enc.sz α):=c4.symm
     rw[hf,xD] at F
     split at F
     ·rw[yW] at F
      rw[←Array.getElem?_toList,Nat.add_assoc];exact F
     cases F
    cases F
   cases F) (by rw[hcs,hmm,c3];omega) (fun u hu=>aR4 s u (List.mem_of_mem_take hu))
 generalize hnew:((cur.toList.take (off+p*Enc.sz α)++(flat s).take (min t.length s.length*Enc.sz α)++cur.toList.drop (off+p*Enc.sz α+((flat s).take (min t.length s.length*Enc.sz α)).length)).toArray:Array Value)=new at hrun
 refine F7 wk hd hN H (v:= .int .i64 (min s.length t.length:Nat)) (w':=w.setRow g new) ?_ fun a' hE'=>K a' _ hE' ?_
 ·have hmin:Nat.min (z-q) (l.length-p)=min s.length t.length:=by rw[hmm,Nat.min_comm]
  simp[execOp,M,resolve,invoke,builtin,H.eval I,H.eval hy,q1,q2,hrun,goInt,hmin]
 refine Hp.put k hlt ?_
 have hln:(l.take p++cpy t s).length=l.length:=by rw[uW,cpy_len,vQ,D];omega
 unfold aC
 rw[hln]
 refine(Hp.set (w':=w.setRow g new) hpt O O O (setRow_heap w g cur _ El _ hg) (fun k hk=>setRow_other w g k _ hk)).shutO c1 c2 ?_ ?_
 ·rw[←hnew]
  simp only[List.size_toArray,uW,vQ,List.length_drop,Array.length_toList,rM,c3]
  have:=zE (Enc.sz α) (Nat.min_le_right t.length s.length)
  omega
 rw[←hnew]
 have e3:(cur.toList.take (off+p*Enc.sz α)).length=off+p*Enc.sz α:=by rw[vQ,Array.length_toList];omega
 have e4:(cur.toList.take (off+p*Enc.sz α)).drop off=(flat l).take (p*Enc.sz α):=by
  have hf:flat l=(cur.toList.drop off).take (l.length*Enc.sz α):=c4.symm
  rw[hf,List.take_take,Nat.min_eq_left (by omega),List.drop_take,Nat.add_sub_cancel_left]
 have e5:((flat l).take (p*Enc.sz α)).length=p*Enc.sz α:=by rw[vQ,rM];omega
 simp only[List.toList_toArray,hcs,hmm]
 rw[vD,List.drop_append_of_le_length (by omega),e4]
 unfold cpy
 rw[vM,aF6,vM,aF6,aF5]
 rw[List.take_append,wN (by rw[e5];omega),e5]
 congr 1
 rw[List.take_append,wN (by rw[hcs,hmm,←Nat.sub_mul];exact zE _ (by omega)),hcs,hmm]
 congr 1
 have ht':flat t=(flat l).drop (p*Enc.sz α):=by rw[hr1,aF5]
 have hf:flat l=(cur.toList.drop off).take (l.length*Enc.sz α):=c4.symm
 rw[ht',hf,List.drop_drop,List.drop_take,List.drop_drop]
 rw[show off+(p*Enc.sz α+min t.length s.length*Enc.sz α)=off+p*Enc.sz α+min t.length s.length*Enc.sz α by omega]
 congr 1
 omega
end
theorem grSl:SlTy Tryz.prog 34 58 6 56:=SlTy.of (z:= .agg #[.int .i64 0,.int .i64 0,.int .i64 0,.int .i64 0,.int .i64 0,.string ByteArray.empty]) kr kr O
theorem ex_cap {P:Program} {C:World→Prop} {a:Act} {o:Oper} {Df:List Deferred} {N:Nat} {E:Ent} {t:TypeId} {x:Operand} (B:o.op= .call {callee:= .builtin .cap,args:= #[x],argTypes:= #[t] }) (D:EnvD Df N E a) {p v:Value} (A:evo E x=some p) (h:∀w ty,(Builtin.cap_ #[t] ty #[p]).run P w= .ok v w):Ex P C a o v:=ex_b1 B D A fun w c _=>by simp[builtin,h w]
theorem c_grow {Z:World} {ρ:PH} {L:List bQ} {w:World} (B:Int) (C:Hp Z ρ L w) (r:List Chg) (F:m_grow B=some r):
  Calls Tryz.prog 65 #[N0,(Iv B)] w (Ret fun v w'=>∃v1,v=v1∧Hp Z ρ (aC 58 v1 r::L) w'):=by
 unfold m_grow at F
 split at F
 case isFalse=>cases F
 rename_i hb
 obtain⟨I,H⟩:=hb
 obtain rfl:=oj F
 refine enter (N:=27) Tryz.func65 O O [(0,N0),(1,(Iv B))] O (bH ⟨O,O,tv⟩) fun a A=>?_
 repeat (refine aG ?_)
 refine aA (S A 1 O fun a A=>?_)
 refine aB ?_
 repeat (refine aG ?_)
 refine aA (S A 2 O fun a A=>?_)
 refine aB ?_
 refine dK A O (fun D=>?_) (fun D=>?_)
 ·exact absurd (of_decide_eq_true D) (by omega)
 refine bI ?_
 repeat (refine aG ?_)
 refine aA (S A 2 O fun a A=>?_)
 refine V A C O (v:= .int .i64 0) (ex_cap O A O (fun w ty=>by simp[Builtin.cap_,run_underlying grSl.und,goInt])) fun a A=>S A 1 O fun a A=>V A C O (v:= .int .i64 0) (bW O A O (fun w ty=>by simp[Builtin.len_,run_underlying grSl.und,goInt])) fun a A=>V A C O (v:= .int .i64 0) (dQ O A O O (by decide)) fun a A=>V A C O (v:= .int .i64 B) (dQ O A O O (by rw[IntKind.wrap_i64];omega)) fun a A=>S A 1 O fun a A=>aB ?_
 repeat (refine aG ?_)
 refine aA (S A 2 O fun a A=>?_)
 refine aB ?_
 refine dK A O (fun D=>?_) (fun D=>?_)
 ·have D:0<B:=of_decide_eq_true D
  refine aA (S A 2 O fun a A=>?_)
  refine V A C O (v:= .int .i64 0) (ex_cap O A O (fun w ty=>by simp[Builtin.cap_,run_underlying grSl.und,goInt])) fun a A=>V A C O (v:= .slice none 0 0) (rX O A O none (some (.i64,0)) (by exact trivial) (by exact O) (fun w=>run_sl grSl none 0 0 none (some (.i64,0)) O O (by decide) (by decide) (by decide) w)) fun a A=>S A 1 O fun a A=>?_
  obtain⟨inf,z,hI,hz,hsz,hby,hzs⟩:=grSl.inf
  have hk:(B.toNat:Int)=B:=by omega
  have hrun:=Lib.run_append_grow_zeros (P:=Tryz.prog) w 34 3 34 58 inf z .i64 .i64 grSl.und Tryz.underlying3 hI hz none 0 0 [] (run_firstCells_none w.drew inf.size 0 0 0) B.toNat (by omega) (by omega) (by omega) (by omega) (by rw[hby];omega) (by rw[hby];exact growslice_fits (by omega) (by omega))
  rw[hk] at hrun
  simp only[Nat.zero_add] at hrun
  rw[show(([]:List Value).toArray++Builtin.zeroCells z.cells B.toNat)=Builtin.zeroCells z.cells B.toNat by simp] at hrun
  generalize hG:grownCap w B.toNat 0 58=G at hrun
  have hGn:B.toNat≤G:=by rw[←hG];exact grownCap_ge w _ _ _
  have hGm:G≤maxLen:=by rw[←hG];exact grownCap_le_maxLen w _ _ _ (by unfold maxLen;omega)
  refine F7 (wk0 O) O O A (v:= .slice (some ⟨w.heap.size,0,none⟩) B.toNat G) (w':=w.drew.alloc (.cells (Builtin.zeroCells z.cells B.toNat++Builtin.zeroCells z.cells (G-B.toNat)) 58)) ?_ fun a A=>?_
  ·simp only[execOp,resolve,invoke,builtin,Sem.run_bind,Sem.run_pure,Result.andThen_ok,List.map_toArray,List.map_cons,List.map_nil]
   rw[A.eval (x:= .tmp 20) rfl,A.eval (x:= .tmp 21) rfl]
   simp only[hrun]
   rfl
  have hp2:=C.drew.alloc (.cells (Builtin.zeroCells z.cells B.toNat++Builtin.zeroCells z.cells (G-B.toNat)) 58)
  have hp3:=hp2.shut (n:=0) (cap:=G) (sz:=6) (xs:=[]) (by omega) hGm (by simp only[Array.size_append,size_zeroCells,hzs];omega) (by simp)
  have C:Hp Z ρ (aC 58 (.slice (some ⟨w.heap.size,0,none⟩) 0 G) ([]:List Chg)::L) _:=hp3
  refine S A 1 O fun a A=>V A C O (v:= .int .i64 0) (bW O A O (fun w ty=>by simp[Builtin.len_,run_underlying grSl.und,goInt])) fun a A=>?_
  refine s_val (wk0 O) O O A C (v:= .slice (some ⟨w.heap.size,0,none⟩) 0 G) (rX O A O none (some (.i64,0)) (by exact trivial) (by exact O) (fun w'=>by
   have:=run_sl (P:=Tryz.prog) grSl (some ⟨w.heap.size,0,none⟩) B.toNat G none (some (.i64,0)) (i:=0) (j:=0) O O (by decide) (by decide) (by omega) w'
   simpa[Addr.add] using this)) ?_
  intro a A
  refine S A 1 O fun a A=>aB ?_
  repeat (refine aG ?_)
  refine aA (S A 2 O fun a A=>?_)
  refine aB (cZ ?_)
  exact gY A O O ⟨_,O,_,O,C⟩
 refine bI ?_
 repeat (refine aG ?_)
 refine aA (S A 2 O fun a A=>?_)
 refine aB (cZ ?_)
 exact gY A O O ⟨_,O,_,O,C.emp (aC.nil (α:=Chg) 58)⟩
end Go.Proofs.YtopnldfjcciieaaGreat
