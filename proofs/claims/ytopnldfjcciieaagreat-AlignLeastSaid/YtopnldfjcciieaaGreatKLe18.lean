/- Trees that are owned: rows of nodes whose last cell is the head of the kids' row. Plain theorems over any program. -/
import Derived.Test.YtopnldfjcciieaaGreatKLeT
import Derived.Test.YtopnldfjcciieaaGreatKLe2
import Derived.Test.YtopnldfjcciieaaGreatKLe3
import Derived.Test.YtopnldfjcciieaaGreatKLe6
import Derived.Test.YtopnldfjcciieaaGreatKLe9
import Derived.Lib.AppendZerosOnto
import Derived.Lib.Overlaps
import Derived.Laws.Externs
import Derived.Test.YtopnldfjcciieaaGreatKLe5
import Derived.Test.YtopnldfjcciieaaGreatProg
set_option linter.unusedVariables false
set_option linter.unusedSimpArgs false
set_option maxRecDepth 100000
set_option maxHeartbeats 4000000
namespace Go.Proofs.YtopnldfjcciieaaGreat
open Go.RowKit
structure NdH where
 kind:Int
 text:ByteArray
 at_:Int
 fin:Int
 kids:Sl
instance encNdH:Enc NdH:=⟨5,fun a=>[.int .i64 a.kind,.string a.text,.int .i64 a.at_,.int .i64 a.fin,a.kids.v],fun _=>rfl,fun a v h=>by
 simp only[List.mem_cons,List.not_mem_nil,or_false] at h
 rcases h with rfl|rfl|rfl|rfl|rfl<;>first|rfl|exact Sl.one _,by decide⟩
abbrev ndV (h:NdH):Value:= .agg #[.int .i64 h.kind,.string h.text,.int .i64 h.at_,.int .i64 h.fin,h.kids.v]
def NdW (n:Node) (h:NdH):Prop:=h.kind=n.kind∧h.text=n.text∧h.at_=n.at_∧h.fin=n.fin
mutual
def NdA (T:TypeId):Node→NdH→bQ
 |⟨k,t,a,f,kids⟩,h=>fun H=>NdW ⟨k,t,a,f,kids⟩ h∧∃l:List NdH,star (aC T h.kids.v l) (KdA T kids l) H
def KdA (T:TypeId):List Node→List NdH→bQ
 | [],hs=>fun H=>hs=[]∧H=PH.emp
 |n::ns,hs=>fun H=>∃h hs',hs=h::hs'∧star (NdA T n h) (KdA T ns hs') H
end
def lH (T:TypeId) (v:Value) (ts:List Node):bQ:=fun H=>∃l:List NdH,star (aC T v l) (KdA T ts l) H
section
variable {T:TypeId} {Z:World} {ρ:PH} {L:List bQ} {w:World}
theorem NdA_eq (n:Node) (h:NdH):NdA T n h=fun H=>NdW n h∧lH T h.kids.v n.kids H:=by
 obtain⟨k,t,a,f,kids⟩:=n
 rw[NdA];rfl
theorem aN4 (hs:List NdH):KdA T [] hs=fun H=>hs=[]∧H=PH.emp:=by rw[KdA]
theorem Z5 (n:Node) (ns:List Node) (hs:List NdH):KdA T (n::ns) hs=fun H=>∃h hs',hs=h::hs'∧star (NdA T n h) (KdA T ns hs') H:=by rw[KdA]
theorem KdA_len:∀{ts:List Node} {l:List NdH} {H:PH},KdA T ts l H→l.length=ts.length
 | [],l,H,h=>by rw[aN4] at h;rw[h.1];rfl
 |n::ts,l,H,h=>by
  rw[Z5] at h
  obtain⟨x,l',rfl,H1,H2,_,h2,_⟩:=h
  rw[uA0,uA0,KdA_len h2]
theorem Hp.two {A B:bQ} (h:Hp Z ρ (star A B::L) w):Hp Z ρ (A::B::L) w:=h.to Sep.two.1
theorem Hp.one2 {A B:bQ} (h:Hp Z ρ (A::B::L) w):Hp Z ρ (star A B::L) w:=h.to Sep.two.2
theorem Hp.pure {A:bQ} {p:Prop} (h:Hp Z ρ (A::L) w) (hi:∀k,A k→p):p:=by
 obtain⟨k,a,_⟩:=h.lend
 exact hi k a
theorem Hp.forO {v:Value} {ts:List Node} (h:Hp Z ρ (lH T v ts::L) w):∃l,Hp Z ρ (aC T v l::KdA T ts l::L) w:=by
 obtain⟨l,h⟩:=Hp.exO h
 exact⟨l,h.two⟩
theorem Hp.forI {v:Value} {ts:List Node} {l:List NdH} (h:Hp Z ρ (aC T v l::KdA T ts l::L) w):Hp Z ρ (lH T v ts::L) w:=Hp.exI l h.one2
theorem Hp.ndO {n:Node} {x:NdH} (h:Hp Z ρ (NdA T n x::L) w):NdW n x∧Hp Z ρ (lH T x.kids.v n.kids::L) w:=by
 rw[NdA_eq] at h
 exact⟨h.pure fun k hk=>hk.1,h.imp fun k hk=>hk.2⟩
theorem Hp.ndI {n:Node} {x:NdH} (A:NdW n x) (h:Hp Z ρ (lH T x.kids.v n.kids::L) w):Hp Z ρ (NdA T n x::L) w:=by
 rw[NdA_eq]
 exact h.imp fun k hk=>⟨A,hk⟩
theorem Sep.kdApp:∀{ts us:List Node} {l m:List NdH} {ρ h:PH} {L:List bQ},Sep ρ (KdA T ts l::KdA T us m::L) h→Sep ρ (KdA T (ts++us) (l++m)::L) h
 | [],us,l,m,ρ,h,L,hs=>by
  rw[aN4] at hs
  obtain⟨k,⟨rfl,rfl⟩,d,hs⟩:=hs
  rw[un_emp] at hs
  exact hs
 |n::ts,us,l,m,ρ,h,L,hs=>by
  rw[Z5] at hs
  obtain⟨k,⟨x,l',rfl,hk⟩,d,hs⟩:=hs
  have hs:Sep ρ (NdA T n x::KdA T ts l'::KdA T us m::L) h:=Sep.two.1 ⟨k,hk,d,hs⟩
  have hs:Sep ρ (NdA T n x::KdA T (ts++us) (l'++m)::L) h:=Sep.cons_mono (fun ρ h hh=>Sep.kdApp hh) hs
  obtain⟨k,hk,d,hs⟩:=Sep.two.2 hs
  refine⟨k,?_,d,hs⟩
  show KdA T (n::(ts++us)) (x::l'++m) k
  rw[Z5]
  exact⟨x,l'++m,O,hk⟩
theorem Sep.kdSplit:∀{ts us:List Node} {l:List NdH} {ρ h:PH} {L:List bQ},Sep ρ (KdA T (ts++us) l::L) h→Sep ρ (KdA T ts (l.take ts.length)::KdA T us (l.drop ts.length)::L) h
 | [],us,l,ρ,h,L,hs=>by
  refine⟨PH.emp,?_,PH.dj_emp ρ,?_⟩
  ·rw[aN4];exact⟨rfl,rfl⟩
  rw[un_emp];exact hs
 |n::ts,us,l,ρ,h,L,hs=>by
  have hs:Sep ρ (KdA T (n::(ts++us)) l::L) h:=hs
  rw[Z5] at hs
  obtain⟨k,⟨x,l',rfl,hk⟩,d,hs⟩:=hs
  have hs:Sep ρ (NdA T n x::KdA T (ts++us) l'::L) h:=Sep.two.1 ⟨k,hk,d,hs⟩
  have hs:Sep ρ (NdA T n x::KdA T ts (l'.take ts.length)::KdA T us (l'.drop ts.length)::L) h:=Sep.cons_mono (fun ρ h hh=>Sep.kdSplit hh) hs
  obtain⟨k,hk,d,hs⟩:=Sep.two.2 hs
  refine⟨k,?_,d,hs⟩
  show KdA T (n::ts) ((x::l').take (ts.length+1)) k
  rw[Z5]
  exact⟨x,_,O,hk⟩
theorem Hp.kdApp {ts us:List Node} {l m:List NdH} (h:Hp Z ρ (KdA T ts l::KdA T us m::L) w):Hp Z ρ (KdA T (ts++us) (l++m)::L) w:=h.to Sep.kdApp
theorem Hp.kdSplit {ts us:List Node} {l:List NdH} (h:Hp Z ρ (KdA T (ts++us) l::L) w):Hp Z ρ (KdA T ts (l.take ts.length)::KdA T us (l.drop ts.length)::L) w:=h.to Sep.kdSplit
theorem Hp.kd1 {n:Node} {x:NdH} (h:Hp Z ρ (NdA T n x::L) w):Hp Z ρ (KdA T [n] [x]::L) w:=h.to fun hs=>by
 obtain⟨k,hk,d,hs⟩:=hs
 refine⟨k,?_,d,hs⟩
 rw[Z5]
 refine⟨x,[],O,k,PH.emp,hk,?_,PH.dj_emp k,(un_emp k).symm⟩
 rw[aN4];exact⟨rfl,rfl⟩
theorem Hp.kd1O {n:Node} {l:List NdH} (h:Hp Z ρ (KdA T [n] l::L) w):∃x,l=[x]∧Hp Z ρ (NdA T n x::L) w:=by
 have A:∃x,l=[x]:=by
  refine h.pure fun k hk=>?_
  have:=KdA_len hk
  match l,this with
  | [x],_=>exact⟨x,rfl⟩
 obtain⟨x,rfl⟩:=A
 refine⟨x,O,h.imp fun k hk=>?_⟩
 rw[Z5] at hk
 obtain⟨y,l',e,k1,k2,h1,h2,d,rfl⟩:=hk
 simp only[List.cons.injEq] at e
 obtain⟨rfl,rfl⟩:=e
 rw[aN4] at h2
 rw[h2.2,un_emp];exact h1
theorem Hp.kdLen {ts:List Node} {l:List NdH} (h:Hp Z ρ L w) (i:Nat) (e:L[i]?=some (KdA T ts l)):l.length=ts.length:=(h.get i e).pure fun k hk=>KdA_len hk
theorem KdA_emp:KdA T [] [] PH.emp:=by rw[aN4];exact⟨O,O⟩
end
theorem aO8 {a b c:PH} (h:b.le c) (d:a.dj c):(a.un b).le (a.un c):=PH.un_le (PH.le_un _ _) (h.tr (PH.le_un_r d))
mutual
theorem NdA_ro {T:TypeId}:∀(n:Node) (x:NdH) {ρ H:PH},ρ.dj H→NdA T n x H→NodeAt (ρ.un H) n (Enc.enc x)
 |⟨k,t,a,f,kids⟩,x,ρ,H,d,h=>by
  rw[NdA] at h
  obtain⟨⟨rfl,rfl,rfl,rfl⟩,l,H1,H2,h1,h2,d2,rfl⟩:=h
  have dd:=PH.dj_un.1 d.symm
  have hr:=aC.ro dd.1.symm h1
  have hk:=KdA_ro kids l (ρ:=ρ) dd.2.symm h2
  obtain⟨A,c,e1,hc,hh⟩:=hr
  have hlen:=KdA_len h2
  show NodeAt _ _ [_,_,_,_,x.kids.v]
  rw[e1,hlen]
  refine NodeAt.shut ⟨A,c,O,by omega,fun i m B=>?_⟩
  obtain⟨y,hy,hn⟩:=hk i m B
  obtain⟨b,o,cs,e2,e3,hat⟩:=hh i y hy
  have e3:cs=Enc.enc y:=e3
  subst e3
  refine⟨b,o,_,e2,hn.mono (aO8 (PH.le_un_r d2) d),hat.mono (aO8 (PH.le_un _ _) d)⟩
theorem KdA_ro {T:TypeId}:∀(ts:List Node) (l:List NdH) {ρ H:PH},ρ.dj H→KdA T ts l H→∀(i:Nat) (n:Node),ts[i]?=some n→∃x,l[i]?=some x∧NodeAt (ρ.un H) n (Enc.enc x)
 | [],l,ρ,H,d,h,i,n,hi=>by simp at hi
 |m::ts,l,ρ,H,d,h,i,n,hi=>by
  rw[KdA] at h
  obtain⟨x,l',rfl,H1,H2,h1,h2,d2,rfl⟩:=h
  have dd:=PH.dj_un.1 d.symm
  cases i with
  |zero=>
   simp only[List.getElem?_cons_zero,wA] at hi
   subst hi
   exact⟨x,O,(NdA_ro m x dd.1.symm h1).mono (aO8 (PH.le_un _ _) d)⟩
  |succ i=>
   obtain⟨y,hy,hn⟩:=KdA_ro ts l' dd.2.symm h2 i n (by simpa using hi)
   exact⟨y,by simpa using hy,hn.mono (aO8 (PH.le_un_r d2) d)⟩
end
theorem lH.ro {T:TypeId} {v:Value} {ts:List Node} {ρ k:PH} (d:ρ.dj k) (h:lH T v ts k):aH (ρ.un k) v ts:=by
 obtain⟨l,H1,H2,h1,h2,d2,rfl⟩:=h
 have dd:=PH.dj_un.1 d.symm
 obtain⟨A,c,e1,hc,hh⟩:=aC.ro dd.1.symm h1
 have hlen:=KdA_len h2
 refine⟨A,c,by rw[e1,hlen],by omega,fun i m B=>?_⟩
 obtain⟨y,hy,hn⟩:=KdA_ro ts l dd.2.symm h2 i m B
 obtain⟨b,o,cs,e2,e3,hat⟩:=hh i y hy
 have e3:cs=Enc.enc y:=e3
 subst e3
 exact⟨b,o,_,e2,hn.mono (aO8 (PH.le_un_r d2) d),hat.mono (aO8 (PH.le_un _ _) d)⟩
theorem lH.nil (T:TypeId):lH T N0 [] PH.emp:=⟨[],PH.emp,PH.emp,aC.nil T,KdA_emp,PH.dj_emp _,(un_emp _).symm⟩
theorem lH.sl {T:TypeId} {Z:World} {ρ:PH} {L:List bQ} {w:World} {v:Value} {ts:List Node} (A:Hp Z ρ (lH T v ts::L) w):∃s:Sl,s.v=v:=by
 obtain⟨l,A⟩:=A.forO
 exact aC.toSl A 0 O
theorem upd_app {p q r cs:List Value} (hq:q.length=cs.length):((p++q++r).take p.length++cs++(p++q++r).drop (p.length+cs.length))=p++cs++r:=by
 rw[←hq,vD p q r,List.take_left,←uW,←vD p q r,List.drop_left]
section
variable {Rn:Option Nat} {P:Program} {ops:Array Oper} {Q:Exit→Act→World→Prop} {rest:List Oper} {o:Oper} {a:Act} {w:World} {Df:List Deferred} {N:Nat} {E:Ent} {d:Nat} {Z:World} {ρ:PH} {L:List bQ}
variable {T El:TypeId} {bytes sz:Nat} {g:Nat}
theorem nP (ht:SlTy P T El sz bytes) (g off n cap:Nat) (lo hi:Option (IntKind×Int)) {i j:Nat} (hlo:(i:Int)=match lo with|none=>0|some p=>p.2) (hhi:(j:Int)=match hi with|none=>(n:Int)|some p=>p.2) (h1:i≤j) (h2:j≤cap):
  ∃A,(∀w,(Instr.sliceAt T (.slice (some ⟨g,off,none⟩) n cap) (lo.map fun p=> .int p.1 p.2) (hi.map fun p=> .int p.1 p.2) none).run P w= .ok (.slice A (j-i) (cap-i)) w)∧(j-i=0∨A=some ⟨g,off+i*sz,none⟩)∧(i=0→A=some ⟨g,off,none⟩):=by
 refine⟨if cap=i then some ⟨g,off,none⟩ else(some (⟨g,off,none⟩:Addr)).map (·.add (i*sz)),fun w=>?_,?_,?_⟩
 ·rw[run_sl ht (some ⟨g,off,none⟩) n cap lo hi hlo hhi (by omega) (by omega) (by omega) w]
  simp only[xL]
 ·by_cases h:cap=i
  ·left;omega
  right
  rw[if_neg h];simp[Addr.add_lit]
 rintro rfl
 split<;>simp[Addr.add_lit]
theorem run_copyB (ht:SlTy P T El sz bytes) {t2 ty:TypeId} {p q r cs:List Value} (F:Hp Z ρ (Pt g (.cells (p++q++r).toArray El (0,0))::L) w) {A B:Option Addr} {n m c1 c2:Nat} (hA:n=0∨A=some ⟨g,p.length,none⟩) (hq:q.length=cs.length) (H:cs.length=min m n*sz)
  (hs:∀(j:Nat) (u:Value),cs[j]?=some u→∃b,B=some b∧w.cell? (b.add j)=some u) (hs0:0<sz) (h1:∀u∈cs,u.oneCell'=true):
  ∃w',(Builtin.copy_ #[T,t2] ty #[.slice A n c1,.slice B m c2]).run P w= .ok (Iv (min m n:Nat)) w'∧Hp Z ρ (Pt g (.cells (p++cs++r).toArray El (0,0))::L) w':=by
 obtain⟨inf,zz,hI,hz,hsz,hby,hzs⟩:=ht.inf
 by_cases G:min m n=0
 ·have D:cs=[]:=wT (by rw[H,G,Nat.zero_mul])
  have hq0:q=[]:=wT (by rw[hq,D];rfl)
  subst D hq0
  refine⟨w,?_,F⟩
  have hm2:Nat.min m n=0:=G
  rw[G]
  cases A<;>cases B<;>simp[Builtin.copy_,run_underlying ht.und,sizeOf,typeInfo,hI,Builtin.lenOf,Builtin.firstCells,hm2,storeCells,loadCells,loadCellsFrom,goInt]
 have hpos:0<cs.length:=by rw[H];exact Nat.mul_pos (by omega) hs0
 obtain⟨b,rfl,_⟩:=hs 0 cs[0] (vB hpos)
 obtain rfl:A=some ⟨g,p.length,none⟩:=hA.resolve_left (by omega)
 have hg:=F.look 0 O
 have hrun:=run_copyP (P:=P) w T t2 ty El g p.length n c1 b m c2 sz (p++q++r).toArray El cs ht.und (by rw[hI,Option.map_some,hsz]) hg H
  (fun j u I=>by obtain⟨b',e,h⟩:=hs j u I;rw[wA] at e;rw[e];exact h) (by simp only[List.size_toArray,uW];omega) h1
 rw[List.toList_toArray,upd_app hq] at hrun
 refine⟨_,?_,Hp.set (w':=w.setRow g (p++cs++r).toArray) F O O O (setRow_heap w g _ _ El _ hg) (fun k hk=>setRow_other w g k _ hk)⟩
 rw[hrun];rfl
theorem O5 (wk:Region.wanted o (yielded ops a.tmps)=true) (hd:o.dst=some d) (hN:Nat.blt d N=true) (D:EnvD Df N E a) {x y:Operand} {t2:TypeId} (H:o.op= .call {callee:= .builtin .copy,args:= #[x,y],argTypes:= #[T,t2] }) (ht:SlTy P T El sz bytes) {p q r cs:List Value} (G:Hp Z ρ (Pt g (.cells (p++q++r).toArray El (0,0))::L) w)
  {A B:Option Addr} {n m c1 c2:Nat} (F:evo E x=some (.slice A n c1)) (hy:evo E y=some (.slice B m c2)) (hA:n=0∨A=some ⟨g,p.length,none⟩) (hq:q.length=cs.length) (I:cs.length=min m n*sz)
  (hs:∀(j:Nat) (u:Value),cs[j]?=some u→∃b,B=some b∧w.cell? (b.add j)=some u) (hs0:0<sz) (h1:∀u∈cs,u.oneCell'=true)
  (K:∀a w,EnvD Df N ((d,.int .i64 (min m n:Nat))::E) a→Hp Z ρ (Pt g (.cells (p++cs++r).toArray El (0,0))::L) w→wpL Rn P ops Q rest a w):wpL Rn P ops Q (o::rest) a w:=by
 obtain⟨w',hrun,hp'⟩:=run_copyB (t2:=t2) (ty:=o.type) (c1:=c1) (c2:=c2) ht G hA hq I hs hs0 h1
 refine F7 wk hd hN D (v:= .int .i64 (min m n:Nat)) (w':=w') ?_ fun a' hE'=>K a' w' hE' hp'
 simp only[execOp,H,resolve,invoke,builtin,Sem.run_bind,Sem.run_pure,Result.andThen_ok,List.map_toArray,List.map_cons,List.map_nil,D.eval F,D.eval hy,hrun]
theorem s_clearB (wk:Region.wanted o (yielded ops a.tmps)=true) (hd:o.dst=none) (B:EnvD Df N E a) {x:Operand} (G:o.op= .call {callee:= .builtin .clear,args:= #[x],argTypes:= #[T] }) (ht:SlTy P T El sz bytes) {z:Value} (hz:∀w,(zeroValue El).run P w= .ok z w) {p q r:List Value} (D:Hp Z ρ (Pt g (.cells (p++q++r).toArray El (0,0))::L) w)
  {A:Option Addr} {n c1:Nat} (F:evo E x=some (.slice A n c1)) (hA:n=0∨A=some ⟨g,p.length,none⟩) (hq:q.length=n*sz) (hs0:0<sz) (hz1:(Nat.beq z.cells.size sz&&z.cells.toList.all Value.oneCell')=true)
  (K:∀w q',q'.length=q.length→Hp Z ρ (Pt g (.cells (p++q'++r).toArray El (0,0))::L) w→wpL Rn P ops Q rest a w):wpL Rn P ops Q (o::rest) a w:=by
 rw[Bool.and_eq_true] at hz1
 obtain⟨hzs,hzo⟩:=hz1
 have hzs':z.cells.size=sz:=Nat.eq_of_beq_eq_true hzs
 cases n with
 |zero=>
  refine s_unitV (u:= .tuple #[]) wk hd B (w':=w) ?_ (K w q O D)
  cases A<;>simp[execOp,G,resolve,invoke,builtin,B.eval F,Builtin.clear_,run_underlying ht.und]
 |succ n=>
  obtain rfl:A=some ⟨g,p.length,none⟩:=hA.resolve_left (by omega)
  have hg:=D.look 0 O
  have hlen:((Builtin.zeroCells z.cells (n+1)).toList).length=q.length:=by rw[hq];simp[Builtin.zeroCells,hzs']
  have one1:∀y∈(Builtin.zeroCells z.cells (n+1)).toList,y.oneCell'=true:=by
   intro y hy
   simp only[Builtin.zeroCells,Array.toList_map,List.mem_map] at hy
   obtain⟨q,_,rfl⟩:=hy
   have hq:q % z.cells.size<z.cells.size:=Nat.mod_lt _ (by omega)
   rw[getElem!_pos z.cells _ hq]
   exact List.all_eq_true.1 hzo _ (by simp)
  have r1:=run_storeCells_at P g p.length El (Builtin.zeroCells z.cells (n+1)).toList 0 (p++q++r).toArray w hg (by rw[hlen];simp only[List.size_toArray,uW];omega) one1
  simp only[Nat.add_zero,List.toList_toArray] at r1
  rw[upd_app hlen.symm] at r1
  refine s_unitV (u:= .tuple #[]) wk hd B (w':=w.setRow g (p++(Builtin.zeroCells z.cells (n+1)).toList++r).toArray) ?_ (K _ _ hlen (Hp.set (w':=w.setRow g _) D O O O (setRow_heap w g _ _ El _ hg) (fun k hk=>setRow_other w g k _ hk)))
  simp[execOp,G,resolve,invoke,builtin,B.eval F,Builtin.clear_,run_underlying ht.und,hz] at r1⊢
  simp[r1]
theorem s_appRoom (wk:Region.wanted o (yielded ops a.tmps)=true) (hd:o.dst=some d) (hN:Nat.blt d N=true) (D:EnvD Df N E a) {x y:Operand} {t2:TypeId} (J:o.op= .call {callee:= .builtin .append,args:= #[x,y],argTypes:= #[T,T] }) (ht:SlTy P T El sz bytes) {p q r cs:List Value} (G:Hp Z ρ (Pt g (.cells (p++q++r).toArray El (0,0))::L) w)
  {B:Option Addr} {off n m c1 c2:Nat} (I:evo E x=some (.slice (some ⟨g,off,none⟩) n c1)) (hy:evo E y=some (.slice B m c2)) (hpl:off+n*sz=p.length) (hroom:n+m≤c1) (hq:q.length=cs.length) (H:cs.length=m*sz)
  (hs:∀(j:Nat) (u:Value),cs[j]?=some u→∃b,B=some b∧w.cell? (b.add j)=some u) (hs0:0<sz) (h1:∀u∈cs,u.oneCell'=true)
  (K:∀a w,EnvD Df N ((d,.slice (some ⟨g,off,none⟩) (n+m) c1)::E) a→Hp Z ρ (Pt g (.cells (p++cs++r).toArray El (0,0))::L) w→wpL Rn P ops Q rest a w):wpL Rn P ops Q (o::rest) a w:=by
 obtain⟨i,z,hi,hz,hsize,hby,hzs⟩:=ht.inf
 subst hsize
 rcases Nat.eq_zero_or_pos m with rfl|M
 ·have F:cs=[]:=wT (by rw[H,Nat.zero_mul])
  have hq0:q=[]:=wT (by rw[hq,F];rfl)
  subst F hq0
  refine F7 wk hd hN D (v:= .slice (some ⟨g,off,none⟩) (n+0) c1) (w':=w) ?_ fun a' hE'=>K a' w hE' G
  simp only[execOp,J,resolve,invoke,builtin,Sem.run_bind,Sem.run_pure,Result.andThen_ok,List.map_toArray,List.map_cons,List.map_nil,D.eval I,D.eval hy]
  cases B<;>simp[Builtin.append_,run_underlying ht.und,sizeOf,typeInfo,hi,Builtin.lenOf,Builtin.firstCells,loadCells,loadCellsFrom,storeCells,show n≤c1 by omega]
 have hpos:0<cs.length:=by rw[H];exact Nat.mul_pos M hs0
 obtain⟨b,rfl,_⟩:=hs 0 cs[0] (vB hpos)
 have hg:=G.look 0 O
 have hf:=run_firstCells_some (P:=P) w i.size m b m c2 cs H (fun j u R=>by obtain⟨b',e,h⟩:=hs j u R;rw[wA] at e;rw[e];exact h)
 have A:=run_storeCells_at P g (off+n*i.size) El cs 0 (p++q++r).toArray w hg (by simp only[List.size_toArray,uW];omega) h1
 simp only[Nat.add_zero,List.toList_toArray,hpl] at A
 rw[upd_app hq] at A
 have hr:(Builtin.append_ #[T,T] o.type #[.slice (some ⟨g,off,none⟩) n c1,.slice (some b) m c2]).run P w= .ok (.slice (some ⟨g,off,none⟩) (n+m) c1) (w.setRow g (p++cs++r).toArray):=by
  simp[Builtin.append_,run_underlying ht.und,sizeOf,typeInfo,hi,Builtin.lenOf,hroom,hf,Addr.add_lit,hpl,A] at A⊢
 refine F7 wk hd hN D (v:= .slice (some ⟨g,off,none⟩) (n+m) c1) (w':=w.setRow g (p++cs++r).toArray) ?_ fun a' hE'=>K a' _ hE' (Hp.set (w':=w.setRow g _) G O O O (setRow_heap w g _ _ El _ hg) (fun k hk=>setRow_other w g k _ hk))
 simp only[execOp,J,resolve,invoke,builtin,Sem.run_bind,Sem.run_pure,Result.andThen_ok,List.map_toArray,List.map_cons,List.map_nil,D.eval I,D.eval hy,hr]
theorem s_appZeros (wk:Region.wanted o (yielded ops a.tmps)=true) (hd:o.dst=some d) (hN:Nat.blt d N=true) (A:EnvD Df N E a) {x y:Operand} {tn:TypeId} (H:o.op= .call {callee:= .builtin .append,args:= #[x,y],argTypes:= #[T,tn] }) (ht:SlTy P T El sz bytes) (htn:P.underlying tn=some (.int .i64)) {p q r:List Value} (B:Hp Z ρ (Pt g (.cells (p++q++r).toArray El (0,0))::L) w)
  {n k c1:Nat} (F:evo E x=some (.slice (some ⟨g,p.length,none⟩) n c1)) (hy:evo E y=some (Iv k)) (hq:q.length=n*sz) (hg:c1<n+k) (hk:0<k) (hs0:0<sz) (hlim:n+k≤4294967296) (hby:Nat.ble bytes 16384=true)
  (K:∀a w h G zs,n+k≤G→G≤maxLen→zs.length=(G-n)*sz→EnvD Df N ((d,.slice (some ⟨h,0,none⟩) (n+k) G)::E) a→Hp Z ρ (Pt h (.cells (q++zs).toArray El (0,0))::Pt g (.cells (p++q++r).toArray El (0,0))::L) w→wpL Rn P ops Q rest a w):wpL Rn P ops Q (o::rest) a w:=by
 obtain⟨i,z,hi,hz,hsize,hb,hzs⟩:=ht.inf
 subst hsize hb
 have hby':i.bytes≤16384:=by simpa using hby
 have hlook:=B.look 0 O
 have holds:∀(w0:World),w0.heap=w.heap→(Builtin.firstCells i.size n (.slice (some ⟨g,p.length,none⟩) n c1)).run P w0= .ok q.toArray w0:=fun w0 hw0=>
  run_firstCells_some (P:=P) w0 i.size n ⟨g,p.length,none⟩ n c1 q hq (fun j u D=>by
   rw[Addr.add_lit]
   have I:=cell_of_row w g (p.length+j) _ El (0,0) hlook
   have:w0.cell? ⟨g,p.length+j,none⟩=w.cell? ⟨g,p.length+j,none⟩:=by simp only[World.cell?,hw0]
   rw[this,I,List.getElem?_toArray,vD,vE (by omega),Nat.add_sub_cancel_left,vR (uR.1 D).1,D])
 have M:(n+k)*i.bytes≤4294967296*16384:=Nat.mul_le_mul hlim hby'
 have J:k*i.bytes≤(n+k)*i.bytes:=zE _ (by omega)
 have hrun:=Lib.run_append_grow_zeros (P:=P) w T tn o.type El i z .i64 .i64 ht.und htn hi hz (some ⟨g,p.length,none⟩) n c1 q (holds w.drew O) k hk hs0 hg (by omega) (by omega) (growslice_fits hg (by omega))
 generalize hG:grownCap w (n+k) c1 El=G at hrun
 have hGn:n+k≤G:=by rw[←hG];exact grownCap_ge w _ _ _
 have hGm:G≤maxLen:=by rw[←hG];exact grownCap_le_maxLen w _ _ _ (by unfold maxLen;omega)
 have hp2:=B.drew.alloc (.cells (q.toArray++Builtin.zeroCells z.cells k++Builtin.zeroCells z.cells (G-(n+k))) El)
 have e1:(q.toArray++Builtin.zeroCells z.cells k++Builtin.zeroCells z.cells (G-(n+k)))=(q++((Builtin.zeroCells z.cells k).toList++(Builtin.zeroCells z.cells (G-(n+k))).toList)).toArray:=by
  apply Array.ext'
  simp
 rw[e1] at hp2 hrun
 refine F7 wk hd hN A (v:= .slice (some ⟨w.heap.size,0,none⟩) (n+k) G) (w':=w.drew.alloc (.cells (q++((Builtin.zeroCells z.cells k).toList++(Builtin.zeroCells z.cells (G-(n+k))).toList)).toArray El)) ?_ fun a' hE'=>K a' _ _ G _ hGn hGm ?_ hE' hp2
 ·simp only[execOp,H,resolve,invoke,builtin,Sem.run_bind,Sem.run_pure,Result.andThen_ok,List.map_toArray,List.map_cons,List.map_nil,A.eval F,A.eval hy,hrun]
 rw[uW,Array.length_toList,Array.length_toList,size_zeroCells,size_zeroCells,hzs,←Nat.add_mul];congr 1;omega
end
section
variable {P:Program} {w:World} {Z:World} {ρ:PH} {L:List bQ} {α:Type} [Enc α] {El:TypeId} {g:Nat}
theorem Hp.shutB {off cap:Nat} {p r:List Value} {l:List α} (h:Hp Z ρ (Pt g (.cells (p++flat l++r).toArray El (0,0))::L) w) (hp:p.length=off) (h1:l.length≤cap) (h2:cap≤maxLen) (h3:r.length=(cap-l.length)*Enc.sz α):Hp Z ρ (aC El (.slice (some ⟨g,off,none⟩) l.length cap) l::L) w:=by
 refine h.shutO h1 h2 ?_ ?_
 ·simp only[List.size_toArray,uW,rM,h3,hp]
  have:l.length*Enc.sz α+(cap-l.length)*Enc.sz α=cap*Enc.sz α:=by rw[←Nat.add_mul];congr 1;omega
  omega
 rw[List.toList_toArray,vD,←hp,List.drop_left,←rM,List.take_left]
theorem Hp.openB {v:Value} {l:List α} (h:Hp Z ρ (aC El v l::L) w):(∃A,v= .slice A 0 0∧l=[])∨∃g off cap p r,v= .slice (some ⟨g,off,none⟩) l.length cap∧p.length=off∧l.length≤cap∧cap≤maxLen∧r.length=(cap-l.length)*Enc.sz α∧Hp Z ρ (Pt g (.cells (p++flat l++r).toArray El (0,0))::L) w:=by
 rcases h.row.2 with⟨A,rfl,hn⟩|⟨g,off,cap,cur,rfl,hpt,h1,h2,h3,h4⟩
 ·exact Or.inl ⟨A,by rfl,wT hn⟩
 have hm:l.length*Enc.sz α+(cap-l.length)*Enc.sz α=cap*Enc.sz α:=by rw[←Nat.add_mul];congr 1;omega
 have e:cur=((cur.toList.take off)++flat l++(cur.toList.drop (off+l.length*Enc.sz α))).toArray:=by
  apply Array.ext'
  rw[List.toList_toArray,←h4,vD,←List.drop_drop,zR,zR]
 refine Or.inr ⟨g,off,cap,cur.toList.take off,cur.toList.drop (off+l.length*Enc.sz α),O,?_,h1,h2,?_,?_⟩
 ·rw[vQ,Array.length_toList];omega
 ·rw[List.length_drop,Array.length_toList];omega
 rw[←e];exact hpt
theorem aC.src {v:Value} {l:List α} (h:Hp Z ρ (aC El v l::L) w):∃B c,v= .slice B l.length c∧∀(j:Nat) (u:Value),(flat l)[j]?=some u→∃b,B=some b∧∀ρ' L' (w:World),Hp Z ρ' (aC El v l::L') w→w.cell? (b.add j)=some u:=by
 rcases h.openB with⟨A,rfl,rfl⟩|⟨g,off,cap,p,r,rfl,hp,h1,h2,h3,hpt⟩
 ·exact⟨A,0,O,fun j u D=>by simp[flat] at D⟩
 refine⟨_,cap,O,fun j u D=>⟨_,O,fun ρ' L' w F=>?_⟩⟩
 rcases F.openB with⟨A,e,rfl⟩|⟨g',off',cap',p',r',e,hp',h1',h2',h3',hpt'⟩
 ·simp[flat] at D
 simp only[Value.slice.injEq,wA,Addr.mk.injEq,and_true,true_and] at e
 obtain⟨⟨rfl,rfl⟩,rfl⟩:=e
 rw[Addr.add_lit,cell_of_row w g _ _ El (0,0) (hpt'.look 0 rfl),List.getElem?_toArray,vD,vE (by omega),hp',Nat.add_sub_cancel_left,vR (uR.1 D).1,D]
end
section
variable {P:Program} {C:World→Prop} {a:Act} {o:Oper} {w:World} {Df:List Deferred} {N:Nat} {E:Ent} {Z:World} {ρ:PH} {L:List bQ}
theorem ex_ext {f:FuncId} {xs:List Operand} {ts:Array TypeId} (D:o.op= .call {callee:= .value (.func f),args:=xs.toArray,argTypes:=ts}) (G:EnvD Df N E a) (vs:List Value) (A:evA E xs vs) {v:Value}
  (F:∀w,C w→(callFunc f vs.toArray).run P w= .ok (.value v) w):Ex P C a o v:=fun w B=>by
 have hxs:xs.toArray.map a.eval=vs.toArray:=by rw[List.map_toArray,aH9 G A]
 have hf:a.eval (.func f)= .func (.func f) #[] #[]:=rfl
 simp only[execOp,D,resolve,hf,hxs,Deferred.ofValue,invoke,Sem.run_bind,Sem.run_pure,Result.andThen_ok]
 simp[F w B]
theorem shape_pt {b:Nat} {cs:Array Value} {T:TypeId} (i:Nat) (A:Hp Z ρ L w) (e:L[i]?=some (Pt b (.cells cs T (0,0)))):w.shape? b=some (T,cs.size):=by
 have h:=A.look i e
 simp[World.shape?,h]
theorem pt_apart {b b':Nat} {o o':Obj} (A:Hp Z ρ (Pt b o::Pt b' o'::L) w):b≠b':=by
 rintro rfl
 obtain⟨k,a1,d,k2,a2,d2,s⟩:=A.sep
 have a1:k=PH.one b o:=a1
 have a2:k2=PH.one b o':=a2
 subst a1 a2
 have:=(PH.dj_un.1 d2).2 b
 simp[PH.one] at this
variable {α:Type} [Enc α] {T tR El:TypeId} {bytes:Nat}
theorem run_ovl (ht:SlTy P T El (Enc.sz α) bytes) {g:Nat} {c:List Value} {vv:Value} {vs:List α} (D:Hp Z ρ (Pt g (.cells c.toArray El (0,0))::aC El vv vs::L) w) {A:Option Addr} {o n c1:Nat} (hA:n=0∨A=some ⟨g,o,none⟩) (hn0:n≠0) (F:c≠[]) (hv0:vs.length≠0):
  (Extern.SlicesOverlaps.overlaps #[T,T] #[tR] #[.slice A n c1,vv]).run P w= .ok (.bool false) w∧(Extern.SlicesOverlaps.overlaps #[T,T] #[tR] #[vv,.slice A n c1]).run P w= .ok (.bool false) w:=by
 obtain⟨inf,zz,hI,hz,hsz,hby,hzs⟩:=ht.inf
 have hs:∀w,(Go.sizeOf El).run P w= .ok (Enc.sz α) w:=fun w=>by simp[sizeOf,typeInfo,hI,hsz]
 have hpos:0<Enc.sz α:=Enc.pos
 rcases(D.get 1 rfl).openB with⟨B,rfl,rfl⟩|⟨h,off,cap,p,r,rfl,e1,e2,e3,e4,hq⟩
 ·exact absurd O hv0
 obtain rfl:=hA.resolve_left hn0
 have hne:h≠g:=pt_apart hq
 have s1:=shape_pt 0 hq O
 have s2:=shape_pt 1 hq O
 have k1:(p++flat vs++r).toArray.size≠0:=by
  simp only[List.size_toArray,uW,rM]
  have:=Nat.mul_le_mul (show 1≤vs.length by omega) hpos
  omega
 have k2:c.toArray.size≠0:=by simpa using F
 exact⟨Lib.run_overlaps_apart w T tR El ht.und (Enc.sz α) hs ⟨g,o,none⟩ ⟨h,off,none⟩ _ _ _ _ hne.symm _ _ _ _ s2 s1 k1 (aN8 1 hq O _) (aN8 1 hq O _),
  Lib.run_overlaps_apart w T tR El ht.und (Enc.sz α) hs ⟨h,off,none⟩ ⟨g,o,none⟩ _ _ _ _ hne _ _ _ _ s1 s2 k2 (aN8 0 hq O _) (aN8 0 hq O _)⟩
end
theorem kG:SlTy Tryz.prog 22 24 5 64:=SlTy.of (z:= .agg #[.int .i64 0,.string ByteArray.empty,.int .i64 0,.int .i64 0,.slice none 0 0]) kr kr O
theorem ndZero:∀w,(zeroValue 24).run Tryz.prog w= .ok (.agg #[.int .i64 0,.string ByteArray.empty,.int .i64 0,.int .i64 0,.slice none 0 0]) w:=fun w=>by simp[go_sem]<;>rfl
theorem ndEntI:∀args w,(callFunc 108 args).run Tryz.prog w= .ok (.enter 108 args) w:=enters Tryz.func108 kr O
theorem fl5 (l:List NdH):(flat l).length=l.length*5:=rM l
theorem ex_capN {C:World→Prop} {a:Act} {o:Oper} {Df:List Deferred} {N:Nat} {E:Ent} {t:TypeId} {x:Operand} (B:o.op= .call {callee:= .builtin .cap,args:= #[x],argTypes:= #[t] }) (D:EnvD Df N E a) {p v:Value} (A:evo E x=some p) (h:∀w ty,(Builtin.cap_ #[t] ty #[p]).run Tryz.prog w= .ok v w):Ex Tryz.prog C a o v:=ex_b1 B D A fun w c _=>by simp[builtin,h w]
theorem one5 (l:List NdH):∀u∈flat l,u.oneCell'=true:=aR4 l
theorem cut2 (c:List Value) {n:Nat} (h:n≤c.length):∃x y,c=x++y∧x.length=n:=⟨c.take n,c.drop n,(zR _ _).symm,by rw[vQ];omega⟩
theorem c_insertN {Z:World} {ρ:PH} {L:List bQ} {w:World} (s vv:Value) (l vs:List NdH) (i:Nat) (hi:i≤l.length) (hlim:l.length+vs.length≤4294967296) (F:Hp Z ρ (aC 24 s l::aC 24 vv vs::L) w):
  Calls Tryz.prog 108 #[s,(Iv (i:Int)),vv] w (Ret fun v w'=>Hp Z ρ (aC 24 v (l.take i++vs++l.drop i)::aC 24 vv vs::L) w'):=by
 obtain⟨B,c2,rfl,hsrc⟩:=aC.src (F.get 1 O)
 refine enter (N:=95) Tryz.func108 O O [(0,s),(1,(Iv (i:Int))),(2,.slice B vs.length c2)] O (bH ⟨O,O,O,tv⟩) fun a D=>?_
 repeat (refine aG ?_)
 refine aA (S D 1 O fun a D=>?_)
 refine aB ?_
 repeat (refine aG ?_)
 refine aA (S D 2 O fun a D=>?_)
 obtain⟨v0,v0r⟩:=aC.view F 0 O kG (some (.i64,(i:Int))) none (i:=(i:Int)) (j:=(l.length:Int)) O O (r:=l.drop i) (by unfold sub;rw[if_pos (by omega)];simp)
 refine V D F O (v:=v0) (rX O D O (some (.i64,(i:Int))) none (by exact O) (by exact trivial) v0r) fun a D=>aB ?_
 repeat (refine aG ?_)
 refine aA (S D 1 O fun a D=>?_)
 refine V D F O (bW O D O (fun w ty=>tC kG _ _ _ w ty)) fun a D=>S D 1 O fun a D=>aB ?_
 repeat (refine aG ?_)
 refine aA (S D 2 O fun a D=>?_)
 refine aB ?_
 repeat (refine aG ?_)
 refine dK D O (fun J=>?_) (fun J=>?_)
 ·
  have h0:vs.length=0:=by have:=of_decide_eq_true J;omega
  obtain rfl:=wT h0
  repeat (refine aG ?_)
  refine aA (S D 2 O fun a D=>?_)
  refine aB ?_
  repeat (refine aG ?_)
  refine cZ ?_
  refine gY D O O ⟨_,O,?_⟩
  rw[List.append_nil,zR];exact F
 have hm:0<vs.length:=by
  rcases Nat.eq_zero_or_pos vs.length with h|h
  ·rw[h] at J;exact absurd J (by decide)
  exact h
 refine bI ?_
 repeat (refine aG ?_)
 refine aA (S D 1 O fun a D=>?_)
 refine V D F O (bW O D O (aC.len F 0 O kG)) fun a D=>S D 1 O fun a D=>aB ?_
 repeat (refine aG ?_)
 refine aA (S D 3 O fun a D=>?_)
 refine aB ?_
 repeat (refine aG ?_)
 refine dK D O (fun R=>?_) (fun R=>?_)
 ·
  have h1:i=l.length:=by have:=of_decide_eq_true R;omega
  subst h1
  repeat (refine aG ?_)
  refine aA (S D 2 O fun a D=>?_)
  obtain⟨b,rfl,_⟩:=hsrc 0 ((flat vs)[0]'(by rw[fl5];omega)) (vB _)
  obtain⟨v',w',hrun,hp'⟩:=run_app (P:=Tryz.prog) kG (by decide) 22 (show Hp Z ρ (Row 24 5 s l.length (flat l)::_) w from F) b vs.length c2 (flat vs) (fl5 vs) (fun j u I=>by
   obtain⟨b',e,h⟩:=hsrc j u I
   rw[wA] at e;rw[e];exact h _ _ _ (F.get 1 rfl)) (one5 vs) (by unfold maxLen;omega) (by omega)
  refine F7 (wk0 O) O O D (v:=v') (w':=w') ?_ fun a D=>?_
  ·simp only[execOp,resolve,invoke,builtin,Sem.run_bind,Sem.run_pure,Result.andThen_ok,List.map_toArray,List.map_cons,List.map_nil]
   rw[D.eval (x:= .tmp 23) rfl,D.eval (x:= .tmp 24) rfl]
   simp only[hrun]
   rfl
  have F:Hp Z ρ (aC 24 v' (l++vs)::aC 24 (.slice (some b) vs.length c2) vs::L) w':=by
   unfold aC
   rw[uW,vM];exact hp'
  refine S D 1 O fun a D=>aB ?_
  repeat (refine aG ?_)
  refine cZ ?_
  refine gY D O O ⟨_,O,?_⟩
  rw[List.take_length,List.drop_length,List.append_nil];exact F
 have hil:i<l.length:=by
  have:=of_decide_eq_false R;omega
 refine bI ?_
 rcases F.openB with⟨A,rfl,rfl⟩|⟨g,off,cap,p,r,rfl,hpl,hlc,hcm,hr,F⟩
 ·exact absurd hil (by simp)
 replace hr:r.length=(cap-l.length)*5:=hr
 have hfl:flat l=flat (l.take i)++flat (l.drop i):=by rw[←vM,zR]
 have hA5:(flat (l.take i)).length=i*5:=by rw[fl5,vQ];omega
 have hB5:(flat (l.drop i)).length=(l.length-i)*5:=by rw[fl5,List.length_drop]
 have hV5:=fl5 vs
 have hrl:(l.take i++vs++l.drop i).length=l.length+vs.length:=by simp only[uW,vQ,List.length_drop];omega
 have hrf:flat (l.take i++vs++l.drop i)=flat (l.take i)++flat vs++flat (l.drop i):=by rw[vM,vM]
 repeat (refine aG ?_)
 refine aA (S D 2 O fun a D=>?_)
 refine V D F O (v:=(Iv ((l.length+vs.length:Nat):Int))) (bF O D O O (by rw[IntKind.wrap_i64];omega)) fun a D=>S D 1 O fun a D=>V D F O (v:=(Iv (cap:Int))) (ex_capN O D O (fun w ty=>by simp[Builtin.cap_,run_underlying kG.und,goInt])) fun a D=>S D 1 O fun a D=>aB ?_
 repeat (refine aG ?_)
 refine dK D O (fun K=>?_) (fun K=>?_)
 ·
  have hg:cap<l.length+vs.length:=by have:=of_decide_eq_true K;omega
  repeat (refine aG ?_)
  refine aA (S D 2 O fun a D=>?_)
  obtain⟨A1,A1r,A1e,A1z⟩:=nP (P:=Tryz.prog) kG g (off) (l.length) (cap) none (some (.i64,(i:Int))) (i:=0) (j:=i) (by first|rfl|(dsimp only;omega)) (by first|rfl|(dsimp only;omega)) (by omega) (by omega)
  refine V D F O (v:= .slice A1 (i-0) (cap-0)) (rX O D O none (some (.i64,(i:Int))) (by exact trivial) (by exact O) A1r) fun a D=>?_
  obtain rfl:=A1z O
  refine S D 2 O fun a D=>V D F O (v:=(Iv ((l.length+vs.length:Nat):Int))) (bF O D O O (by rw[IntKind.wrap_i64];omega)) fun a D=>S D 1 O fun a D=>V D F O (v:=(Iv ((l.length+vs.length-i:Nat):Int))) (dQ O D O O (by rw[IntKind.wrap_i64];omega)) fun a D=>?_
  rw[hfl,←vD,vD (p++flat (l.take i))] at F
  refine s_appZeros (wk0 O) O O D O kG Tryz.underlying3 F (by rw[hpl];rfl) O (by rw[hA5];rfl) (by omega) (by omega) (by decide) (by omega) (by decide) ?_
  intro a w h G zs hG1 hG2 hzl D F
  have e1:i-0+(l.length+vs.length-i)=l.length+vs.length:=by omega
  rw[e1] at D hG1
  replace hzl:zs.length=(G-i)*5:=hzl
  obtain⟨z1,z23,rfl,hz1⟩:=cut2 zs (n:=vs.length*5) (by omega)
  obtain⟨z2,z3,rfl,hz2⟩:=cut2 z23 (n:=(l.length-i)*5) (by simp only[uW] at hzl;omega)
  simp only[uW] at hzl
  refine S D 1 O fun a D=>aB ?_
  repeat (refine aG ?_)
  refine aA (S D 2 O fun a D=>?_)
  obtain⟨A2,A2r,A2e,A2z⟩:=nP (P:=Tryz.prog) kG h (0) (l.length+vs.length) (G) (some (.i64,(i:Int))) none (i:=i) (j:=l.length+vs.length) (by first|rfl|(dsimp only;omega)) (by first|rfl|(dsimp only;omega)) (by omega) (by omega)
  refine V D F O (v:= .slice A2 ((l.length+vs.length)-i) (G-i)) (rX O D O (some (.i64,(i:Int))) none (by exact O) (by exact trivial) A2r) fun a D=>S D 1 O fun a D=>?_
  rw[←vD] at F
  refine O5 (wk0 O) O O D O kG F (cs:=flat vs) O O (by rw[hA5];simpa using A2e) (by omega) (by rw[hV5,Nat.min_eq_left (by omega)]) (fun j u I=>by
   obtain⟨b,e,hh⟩:=hsrc j u I
   exact⟨b,e,hh _ _ _ (F.get 2 O)⟩) (by decide) (one5 vs) ?_
  intro a w D F
  refine aB ?_
  have F:Hp Z ρ (Pt h (.cells ((flat (l.take i)++flat vs)++z2++z3).toArray 24 (0,0))::Pt g (.cells (p++flat (l.take i)++(flat (l.drop i)++r)).toArray 24 (0,0))::aC 24 (.slice B vs.length c2) vs::L) w:=by
   simpa only[vD] using F
  repeat (refine aG ?_)
  have F:=F.drew
  refine gK ([([],At0 Z ρ)]:Facts) (fun a w=>Env 95 [(9,.slice (some ⟨h,0,none⟩) (l.length+vs.length) G)] a∧Hp Z ρ (Pt h (.cells ((flat (l.take i)++flat vs)++flat (l.drop i)++z3).toArray 24 (0,0))::Pt g (.cells (p++flat (l.take i)++(flat (l.drop i)++r)).toArray 24 (0,0))::aC 24 (.slice B vs.length c2) vs::L) w) kr ⟨fun _=>⟨_,F⟩,tv⟩ (fun H=>?_) ?_
  ·
   generalize w.drew=w at H F⊢
   refine Ts [0,1,2] D H O O kr fun a D H=>T0 3 D H O O O kr (v:=(Iv ((i+vs.length:Nat):Int))) (fun _=>bF O D O O (by rw[IntKind.wrap_i64];omega)) fun a D H=>?_
   obtain⟨A3,A3r,A3e,A3z⟩:=nP (P:=Tryz.prog) kG h (0) (l.length+vs.length) (G) (some (.i64,((i+vs.length:Nat):Int))) none (i:=i+vs.length) (j:=l.length+vs.length) (by first|rfl|(dsimp only;omega)) (by first|rfl|(dsimp only;omega)) (by omega) (by omega)
   refine T0 4 D H O O O kr (v:= .slice A3 ((l.length+vs.length)-(i+vs.length)) (G-(i+vs.length))) (fun _=>rX O D O (some (.i64,((i+vs.length:Nat):Int))) none (by exact O) (by exact trivial) A3r) fun a D H=>Ts [5,6] D H O O kr fun a D H=>?_
   obtain⟨A4,A4r,A4e,A4z⟩:=nP (P:=Tryz.prog) kG g (off) (l.length) (cap) (some (.i64,(i:Int))) none (i:=i) (j:=l.length) (by first|rfl|(dsimp only;omega)) (by first|rfl|(dsimp only;omega)) (by omega) (by omega)
   refine T0 7 D H O O O kr (v:= .slice A4 ((l.length)-i) (cap-i)) (fun _=>rX O D O (some (.i64,(i:Int))) none (by exact O) (by exact trivial) A4r) fun a D H=>?_
   refine W1 8 kr O ?_
   refine O5 (wk0 O) O O D O kG F (cs:=flat (l.drop i)) O O (by rw[uW,hA5,hV5,←Nat.add_mul];simpa using A3e) (by omega) (by rw[hB5];congr 1;show _=min _ _;omega) (fun j u I=>by
    refine⟨_,A4e.resolve_left (by omega),?_⟩
    rw[Addr.add_lit,cell_of_row w g _ _ _ (0,0) (F.look 1 rfl),List.getElem?_toArray,vE (by simp only[uW];omega),vR (by simp only[uW];have:=(uR.1 I).1;omega),←I]
    congr 1;simp only[uW];omega) (by decide) (one5 _) ?_
   intro a w D F
   refine aB (aF ⟨gp0 F,tv⟩ fun H=>?_)
   exact bT kr ⟨D.cut ⟨O,tv⟩,F⟩
  rintro a w ⟨D,F⟩
  repeat (refine aG ?_)
  refine aA (S D 2 O fun a D=>?_)
  refine aB ?_
  repeat (refine aG ?_)
  refine cZ ?_
  refine gY D O O ⟨_,O,?_⟩
  rw[←hrf,←List.nil_append (flat _)] at F
  have F:=(Hp.shutB (α:=NdH) (l:=l.take i++vs++l.drop i) (off:=0) (cap:=G) F O (by omega) hG2 (by show _=_*5;rw[hrl];omega)).get 1 O |>.drop
  rw[hrl] at F
  exact F
 have hg:l.length+vs.length≤cap:=by have:=of_decide_eq_false K;omega
 refine bI ?_
 repeat (refine aG ?_)
 refine aA (S D 3 O fun a D=>?_)
 refine V D F O (v:=(Iv ((l.length+vs.length:Nat):Int))) (bF O D O O (by rw[IntKind.wrap_i64];omega)) fun a D=>?_
 obtain⟨A1,A1r,A1e,A1z⟩:=nP (P:=Tryz.prog) kG g (off) (l.length) (cap) none (some (.i64,((l.length+vs.length:Nat):Int))) (i:=0) (j:=l.length+vs.length) (by first|rfl|(dsimp only;omega)) (by first|rfl|(dsimp only;omega)) (by omega) (by omega)
 refine V D F O (v:= .slice A1 ((l.length+vs.length)-0) (cap-0)) (rX O D O none (some (.i64,((l.length+vs.length:Nat):Int))) (by exact trivial) (by exact O) A1r) fun a D=>?_
 obtain rfl:=A1z O
 refine S D 1 O fun a D=>aB ?_
 rw[Nat.sub_zero,Nat.sub_zero] at D
 obtain⟨M,qr,eM,hM⟩:=cut2 (flat (l.drop i)++r) (n:=vs.length*5) (by rw[uW];omega)
 obtain⟨q,r2,rfl,hq⟩:=cut2 qr (n:=(l.length-i)*5) (by have:=congrArg List.length eM;simp only[uW] at this;omega)
 have eMl:=congrArg List.length eM
 simp only[uW] at eMl
 have hcells:∀(j:Nat) (u:Value),(flat (l.drop i))[j]?=some u→(p++flat (l.take i)++M++q++r2)[off+i*5+j]?=some u:=fun j u I=>by
  have hjl:=(uR.1 I).1
  rw[vD,vD,←eM,vE (by simp only[uW];omega),vR (by simp only[uW];omega),←I]
  congr 1;simp only[uW];omega
 have F:Hp Z ρ (Pt g (.cells (p++flat (l.take i)++M++q++r2).toArray 24 (0,0))::aC 24 (.slice B vs.length c2) vs::L) w:=by
  have e:p++flat l++r=p++flat (l.take i)++M++q++r2:=by rw[hfl,vD _ M q,vD _ (M++q) r2,vD M q r2,←eM];simp only[vD]
  rw[←e];exact F
 repeat (refine aG ?_)
 refine aA (S D 4 O fun a D=>?_)
 refine V D F O (v:=(Iv ((i+vs.length:Nat):Int))) (bF O D O O (by rw[IntKind.wrap_i64];omega)) fun a D=>?_
 obtain⟨A2,A2r,A2e,A2z⟩:=nP (P:=Tryz.prog) kG g (off) (l.length+vs.length) (cap) (some (.i64,((i+vs.length:Nat):Int))) none (i:=i+vs.length) (j:=l.length+vs.length) (by first|rfl|(dsimp only;omega)) (by first|rfl|(dsimp only;omega)) (by omega) (by omega)
 refine V D F O (v:= .slice A2 ((l.length+vs.length)-(i+vs.length)) (cap-(i+vs.length))) (rX O D O (some (.i64,((i+vs.length:Nat):Int))) none (by exact O) (by exact trivial) A2r) fun a D=>V D F O (v:= .bool false) (ex_ext O D [.slice B vs.length c2,.slice A2 (l.length+vs.length-(i+vs.length)) (cap-(i+vs.length))] (by exact⟨O,O,tv⟩) (fun w U=>by rw[run_callFunc_extern Tryz.func109 kr kr kr (e:=Extern.SlicesOverlaps.overlaps #[22,22] #[4]) kr,(run_ovl (α:=NdH) kG U A2e (by omega) (by intro h;have:=congrArg List.length h;simp only[uW,List.length_nil] at this;omega) (by omega)).2];rfl)) fun a D=>S D 1 O fun a D=>aB ?_
 repeat (refine aG ?_)
 refine dK D O (fun _=>?_) (fun W=>by cases W)
 repeat (refine aG ?_)
 have F:=F.drew
 refine gK ([([],At0 Z ρ)]:Facts) (fun a w=>Env 95 [(0,.slice (some ⟨g,off,none⟩) (l.length+vs.length) cap),(1,(Iv (i:Int))),(2,.slice B vs.length c2)] a∧Hp Z ρ (Pt g (.cells (p++flat (l.take i)++M++flat (l.drop i)++r2).toArray 24 (0,0))::aC 24 (.slice B vs.length c2) vs::L) w) kr ⟨fun _=>⟨_,F⟩,tv⟩ (fun H=>?_) ?_
 ·
  generalize w.drew=w at H F⊢
  refine Ts [0,1,2] D H O O kr fun a D H=>T0 3 D H O O O kr (v:=(Iv ((i+vs.length:Nat):Int))) (fun _=>bF O D O O (by rw[IntKind.wrap_i64];omega)) fun a D H=>?_
  obtain⟨A3,A3r,A3e,A3z⟩:=nP (P:=Tryz.prog) kG g (off) (l.length+vs.length) (cap) (some (.i64,((i+vs.length:Nat):Int))) none (i:=i+vs.length) (j:=l.length+vs.length) (by first|rfl|(dsimp only;omega)) (by first|rfl|(dsimp only;omega)) (by omega) (by omega)
  refine T0 4 D H O O O kr (v:= .slice A3 ((l.length+vs.length)-(i+vs.length)) (cap-(i+vs.length))) (fun _=>rX O D O (some (.i64,((i+vs.length:Nat):Int))) none (by exact O) (by exact trivial) A3r) fun a D H=>Ts [5,6] D H O O kr fun a D H=>?_
  obtain⟨A4,A4r,A4e,A4z⟩:=nP (P:=Tryz.prog) kG g (off) (l.length+vs.length) (cap) (some (.i64,(i:Int))) none (i:=i) (j:=l.length+vs.length) (by first|rfl|(dsimp only;omega)) (by first|rfl|(dsimp only;omega)) (by omega) (by omega)
  refine T0 7 D H O O O kr (v:= .slice A4 ((l.length+vs.length)-i) (cap-i)) (fun _=>rX O D O (some (.i64,(i:Int))) none (by exact O) (by exact trivial) A4r) fun a D H=>?_
  refine W1 8 kr O ?_
  refine O5 (wk0 O) O O D O kG F (cs:=flat (l.drop i)) O O (by rw[uW,uW,hA5,hM,hpl,Nat.add_assoc,←Nat.add_mul];exact A3e) (by omega) (by rw[hB5];congr 1;show _=min _ _;omega) (fun j u I=>by
   refine⟨_,A4e.resolve_left (by omega),?_⟩
   rw[Addr.add_lit,cell_of_row w g _ _ _ (0,0) (F.look 0 rfl),List.getElem?_toArray]
   exact hcells j u I) (by decide) (one5 _) ?_
  intro a w D F
  refine aB (aF ⟨gp0 F,tv⟩ fun H=>?_)
  exact bT kr ⟨D.cut ⟨O,O,O,tv⟩,F⟩
 rintro a w ⟨D,F⟩
 rw[vD _ (flat (l.drop i)) r2] at F
 repeat (refine aG ?_)
 refine aA (S D 2 O fun a D=>?_)
 obtain⟨A5,A5r,A5e,A5z⟩:=nP (P:=Tryz.prog) kG g (off) (l.length+vs.length) (cap) (some (.i64,(i:Int))) none (i:=i) (j:=l.length+vs.length) (by first|rfl|(dsimp only;omega)) (by first|rfl|(dsimp only;omega)) (by omega) (by omega)
 refine V D F O (v:= .slice A5 ((l.length+vs.length)-i) (cap-i)) (rX O D O (some (.i64,(i:Int))) none (by exact O) (by exact trivial) A5r) fun a D=>S D 1 O fun a D=>?_
 refine O5 (wk0 O) O O D O kG F (cs:=flat vs) O O (by rw[uW,hA5,hpl];exact A5e) (by omega) (by rw[hV5,Nat.min_eq_left (by omega)]) (fun j u I=>by
  obtain⟨b,e,hh⟩:=hsrc j u I
  exact⟨b,e,hh _ _ _ (F.get 1 O)⟩) (by decide) (one5 vs) ?_
 intro a w D F
 refine aB ?_
 repeat (refine aG ?_)
 refine aA (S D 2 O fun a D=>?_)
 refine aB ?_
 repeat (refine aG ?_)
 refine cZ ?_
 refine gY D O O ⟨_,O,?_⟩
 have e:p++flat (l.take i)++flat vs++(flat (l.drop i)++r2)=p++flat (l.take i++vs++l.drop i)++r2:=by rw[hrf];simp only[vD]
 rw[e] at F
 have F:=Hp.shutB (α:=NdH) (l:=l.take i++vs++l.drop i) (off:=off) (cap:=cap) F hpl (by omega) hcm (by show _=_*5;rw[hrl];omega)
 rw[hrl] at F
 exact F
end Go.Proofs.YtopnldfjcciieaaGreat
