/- The code goes as its model: assessor/assessorref38.count, assessor/assessorref38.insert, assessor/assessorref38.change, assessor/assessorref38.Apply, assessor/a -/
import Derived.Test.YtopnldfjcciieaaGreatKFoT
import Derived.Test.YtopnldfjcciieaaGreatKFo3
import Derived.Test.YtopnldfjcciieaaGreatKFo5
import Derived.Test.YtopnldfjcciieaaGreatKFo4
import Derived.RangeFuncIn
import Derived.RangeFuncLeaves
import Derived.RangeFuncRecord
import Derived.RangeFuncSeq
import Derived.Test.YtopnldfjcciieaaGreatProg
import Derived.Test.YtopnldfjcciieaaGreatKFo2
set_option linter.unusedVariables false
set_option linter.unusedSimpArgs false
set_option maxRecDepth 100000
set_option maxHeartbeats 4000000
namespace Go.Proofs.YtopnldfjcciieaaGreat
open Go.RowKit
theorem Y3 {Z:World} {ρ:PH} {L:List bK} {w:World} (p0:(List Node)) (vp0:Value) (hp0:aH ρ vp0 p0) (p1:(List Node)) (vp1:Value) (hp1:aH ρ vp1 p1) (hp:Hp Z ρ (L) w) (r:Bool) (hm:sJ p0 p1=some r):
  Calls Tryz.prog 25 #[vp0,vp1] w (Ret fun v w'=>v=(.bool r)∧Hp Z ρ (L) w'):=by
 refine enter (N:=27) Tryz.func25 rfl rfl [(0,vp0),(1,vp1)] rfl (bC ⟨rfl,rfl,trivial⟩) fun a hE=>?_
 unfold sJ at hm
 refine aG (aA ?_)
 refine S hE 1 rfl fun a hE=>aB (aG ?_)
 refine aG (aA ?_)
 refine S hE 1 rfl fun a hE=>V hE hp rfl (bT rfl hE rfl (aH.len hp0 jI)) fun a hE=>S hE 1 rfl fun a hE=>V hE hp rfl (bT rfl hE rfl (aH.len hp1 jI)) fun a hE=>S hE 1 rfl fun a hE=>aB ?_
 refine dE hE rfl (fun hc1=>?_) (fun hc1=>?_)
 ·replace hm:=(it hc1).symm.trans hm
  refine aG (aA ?_)
  refine S hE 1 rfl fun a hE=>aB (bZ ?_)
  obtain rfl:=oj hm
  exact gJ hE rfl rfl ⟨_,rfl,rfl,hp⟩
 replace hm:=(ie hc1).symm.trans hm
 refine aZ (aG ?_)
 refine aG (aA ?_)
 refine S hE 1 rfl fun a hE=>aB ?_
 obtain⟨b1,hc2,hm⟩:=bnd hm
 refine dH (fun a w=>∃s:Unit,b1= .brk s∧(Env 27 [] a∧Hp Z ρ (L) w)) ?_ ?_
 ·refine dZ hc2 (fun s a w=>Env 27 [(0,vp0),(1,vp1),(5,(Iv s))] a∧Hp Z ρ (L) w) ?_ ?_
  ·exact⟨hE.cut ⟨rfl,rfl,rfl,trivial⟩,hp⟩
  rintro aP st a w ⟨hE,hp⟩ hl1
  unfold uV at hl1
  refine aG (aG ?_)
  refine aA (S hE 2 rfl fun a hE=>?_)
  refine V hE hp rfl (bT rfl hE rfl (aH.len hp0 jI)) fun a hE=>S hE 1 rfl fun a hE=>aB ?_
  refine dE hE rfl (fun hc3=>?_) (fun hc3=>?_)
  ·replace hl1:=(it hc3).symm.trans hl1
   refine aZ (aG ?_)
   refine dM (aG ?_)
   refine jR (by kernel_rfl) (by kernel_rfl) hp ?_
   refine Sq hE 2 rfl fun a hE=>?_
   obtain⟨x1,ex1,hl1⟩:=bnd hl1
   obtain⟨b2,b2o,b2c,b2r,b2k,b2f⟩:=aH.at hp0 jI ex1
   obtain⟨rX,rfl,aE8⟩:=NodeAt.opens b2k
   have b2f:AtP ρ b2 b2o [(Iv x1.kind),(.string x1.text),(Iv x1.at_),(Iv x1.fin),rX]:=b2f
   refine Vq hE rfl (aN rfl hE rfl rfl b2r) fun a hE=>Vq hE rfl (aK rfl hE rfl (fun w hw=>aW (cs:=[(Iv x1.kind),(.string x1.text),(Iv x1.at_),(Iv x1.fin),rX]) bY (fun j u hj=>cell_of hw.le (b2f j u hj)))) fun a hE=>Sq hE 2 rfl fun a hE=>?_
   obtain⟨x2,ex2,hl1⟩:=bnd hl1
   obtain⟨b3,b3o,b3c,b3r,b3k,b3f⟩:=aH.at hp1 jI ex2
   obtain⟨qU,rfl,aA9⟩:=NodeAt.opens b3k
   have b3f:AtP ρ b3 b3o [(Iv x2.kind),(.string x2.text),(Iv x2.at_),(Iv x2.fin),qU]:=b3f
   refine Vq hE rfl (aN rfl hE rfl rfl b3r) fun a hE=>Vq hE rfl (aK rfl hE rfl (fun w hw=>aW (cs:=[(Iv x2.kind),(.string x2.text),(Iv x2.at_),(Iv x2.fin),qU]) bY (fun j u hj=>cell_of hw.le (b3f j u hj)))) fun a hE=>?_
   obtain⟨x3,ex3,hl1⟩:=bnd hl1
   refine Y7 (wk0 rfl) rfl rfl hE rfl [(.agg #[(Iv x1.kind),(.string x1.text),(Iv x1.at_),(Iv x1.fin),rX]),(.agg #[(Iv x2.kind),(.string x2.text),(Iv x2.at_),(Iv x2.fin),qU])] ⟨rfl,rfl,trivial⟩ ent55 (v:=(.bool x3)) (fun w hw=>Calls.mono (aE1 x1 rX aE8 x2 qU aA9 hw x3 ex3) fun e w' ⟨v,he,hv,hh⟩=>⟨by rw[he,hv],hh⟩) ?_
   intro a hE
   refine Sq hE 1 rfl fun a hE=>?_
   refine iM fun w hp=>?_
   have hp:=r0 hp
   refine dE hE rfl (fun hc4=>?_) (fun hc4=>?_)
   ·replace hl1:=(it hc4).symm.trans hl1
    refine aG (aA ?_)
    refine S hE 1 rfl fun a hE=>aB (bZ ?_)
    refine⟨_,(oj hl1).symm,fun hb=>?_⟩
    subst hb
    obtain rfl:=oj hm
    exact gJ hE rfl rfl ⟨_,rfl,rfl,hp⟩
   replace hl1:=(ie hc4).symm.trans hl1
   refine aZ (aA ?_)
   refine S hE 1 rfl fun a hE=>?_
   obtain⟨x4,ex4,hl1⟩:=bnd hl1
   refine V hE hp rfl (bF rfl hE rfl rfl (aO ex4)) fun a hE=>S hE 1 rfl fun a hE=>aB ?_
   exact⟨_,(oj hl1).symm,hE.cut ⟨rfl,rfl,rfl,trivial⟩,hp⟩
  replace hl1:=(ie hc3).symm.trans hl1
  refine dS ?_
  refine⟨_,(oj hl1).symm,fun hbb=>?_⟩
  exact⟨_,hbb.symm,hE.cut trivial,hp⟩
 rintro a w ⟨b1s,rfl,hE,hp⟩
 dsimp only at hm
 refine aG (aA ?_)
 refine S hE 1 rfl fun a hE=>aB (bZ ?_)
 obtain rfl:=oj hm
 exact gJ hE rfl rfl ⟨_,rfl,rfl,hp⟩
def Stars:List bK→bK
 | []=>fun k=>k=PH.emp
 |A::l=>fun k=>∃k1 k2,A k1∧Stars l k2∧k1.dj k2∧k=k1.un k2
theorem un_emp (ρ:PH):ρ.un PH.emp=ρ:=by funext b;unfold PH.un PH.emp;cases ρ b<;>rfl
theorem Sep.stars:∀(l:List bK) {L:List bK} {ρ h:PH},Sep ρ (Stars l::L) h↔Sep ρ (l++L) h
 | [],L,ρ,h=>⟨fun⟨k,e,_,s⟩=>by
   have e:k=PH.emp:=e
   rw[e,un_emp] at s;exact s,fun s=>⟨PH.emp,rfl,PH.dj_emp _,by rw[un_emp];exact s⟩⟩
 |A::l,L,ρ,h=>⟨fun⟨k,⟨k1,k2,a,b,d,e⟩,d',s⟩=>by
   subst e
   have d1:=PH.dj_un.1 d'.symm
   exact⟨k1,a,d1.1.symm,(Sep.stars l).1 ⟨k2,b,PH.dj_un.2 ⟨d1.2.symm,d⟩,by rw[PH.un_assoc];exact s⟩⟩,
  fun⟨k1,a,d1,s⟩=>by
   obtain⟨k2,b,d2,s⟩:=(Sep.stars l).2 s
   have d3:=PH.dj_un.1 d2
   exact⟨k1.un k2,⟨k1,k2,a,b,d3.2,rfl⟩,(PH.dj_un.2 ⟨d1.symm,d3.1.symm⟩).symm,by rw[←PH.un_assoc];exact s⟩⟩
section
variable {Z:World} {ρ:PH} {L:List bK} {w:World}
theorem Hp.stars {l:List bK} (h:Hp Z ρ (l++L) w):Hp Z ρ (Stars l::L) w:=h.to (Sep.stars l).2
theorem Hp.unstar {l:List bK} (h:Hp Z ρ (Stars l::L) w):Hp Z ρ (l++L) w:=h.to (Sep.stars l).1
theorem Hp.exI {α:Type} {F:α→bK} (x:α) (h:Hp Z ρ (F x::L) w):Hp Z ρ ((fun k=>∃x,F x k)::L) w:=h.imp fun _ hk=>⟨x,hk⟩
theorem Hp.exO {α:Type} {F:α→bK} (h:Hp Z ρ ((fun k=>∃x,F x k)::L) w):∃x,Hp Z ρ (F x::L) w:=by
 obtain⟨k,⟨x,hk⟩,d,hs⟩:=h.lend
 exact⟨x,Hp.back hk d hs⟩
end
def Step.more {σ ε:Type}:Step σ ε→Bool
 | .next _=>true
 | .done _=>false
def yieldM {α σ ε:Type} (f:α→σ→Option (Step σ ε)) (x:α):Step σ ε→Option (Step σ ε)
 | .next s=>f x s
 | .done _=>none
theorem yieldM_some {α σ ε:Type} {f:α→σ→Option (Step σ ε)} {x:α} {S t:Step σ ε} (h:yieldM f x S=some t):∃s,S= .next s∧f x s=some t:=by
 cases S with
 |next s=>exact⟨s,rfl,h⟩
 |done r=>cases h
abbrev YieldOk {α σ ε:Type} (P:Program) (Z:World) (ρ:PH) (l:Nat) (vs:α→List Value) (f:α→σ→Option (Step σ ε)) (Y:Step σ ε→bK):Prop:=
 ∀(x:α) (s:σ) (st:Step σ ε) (L:List bK) (W:World),f x s=some st→Hp Z ρ (Y (.next s)::L) W→YieldAt Fence.wide 0 P l (vs x).toArray W (Ret fun v W'=>v= .bool st.more∧Hp Z ρ (Y st::L) W')
theorem YieldOk.at {α σ ε:Type} {P:Program} {Z:World} {ρ:PH} {l:Nat} {vs:α→List Value} {f:α→σ→Option (Step σ ε)} {Y:Step σ ε→bK} (h:YieldOk P Z ρ l vs f Y) {x:α} {S t:Step σ ε} (hy:yieldM f x S=some t) {L:List bK} {W:World} (hp:Hp Z ρ (Y S::L) W):
  YieldAt Fence.wide 0 P l (vs x).toArray W (Ret fun v W'=>v= .bool t.more∧Hp Z ρ (Y t::L) W'):=by
 obtain⟨s,rfl,hf⟩:=yieldM_some hy
 exact h x s t L W hf hp
section
variable {R:Option Nat} {P:Program} {ops:Array Oper} {Q:Exit→Act→World→Prop} {rest:List Oper} {o:Oper} {a:Act} {w:World} {Df:List Deferred} {N:Nat} {E:Ent} {d:Nat} {cs:List Code}
theorem k_regionY {id:Nat} {l:List Oper} (h:wpListIn (fR R) 0 P l.toArray (fun e a w=>match e with| .normal=>wpK R P Q cs a w|e=>Q e a w) l a w):wpK R P Q (.region id l.toArray false::cs) a w:=by
 have e:(fun e a w=>match e with| .normal=>wpK R P Q cs a w|e=>Q e a w)=Exit.then (wpK R P Q cs) Q:=by
  funext e a w;cases e<;>rfl
 rw[e] at h
 exact wpIn_region_lit h
theorem y_val {C:World→Prop} (wk:Region.wanted o (yielded ops a.tmps)=true) (hd:o.dst=some d) (hN:Nat.blt d N=true) (hE:EnvD Df N E a) (hC:C w) {v:Value} (hx:Ex P C a o v) (K:∀a,EnvD Df N ((d,v)::E) a→wpListIn (fR R) 0 P ops Q rest a w):wpListIn (fR R) 0 P ops Q (o::rest) a w:=by
 unfold wpListIn
 rw[if_pos wk]
 refine⟨fun f _=>fR_fn R f,?_⟩
 rw[Oper.semAt_eq _ _ _ (nd_of (hx w hC) (fun d h=>by cases h)),hx w hC]
 show wpListIn _ _ _ _ _ _ (a.put o.dst v) _
 rw[hd]
 exact K _ (hE.put hN v)
theorem y_nil (h:Q .normal a w):wpListIn (fR R) 0 P ops Q [] a w:=h
theorem yieldAt_in {l n:Nat} {args:Array Value} {W:World} {T:Ending→World→Prop} (h:YieldAt Fence.wide n P l args W T):∃fn tmps assign body,(Instr.yield l args).run P W= .ok (.round l fn tmps assign body) W∧RoundIn (fR R) n P l fn tmps assign body W T:=by
 obtain⟨fn,tmps,assign,body,h1,h2⟩:=h
 refine⟨fn,tmps,assign,body,h1,?_⟩
 cases R<;>exact h2
theorem y_yield {l:Nat} (wk:Region.wanted o (yielded ops a.tmps)=true) (hd:o.dst=some d) (hN:Nat.blt d N=true) (hE:EnvD Df N E a) {x:Operand} {xs:List Operand} {ts:Array TypeId} (ho:o.op= .call {callee:= .value x,args:=xs.toArray,argTypes:=ts})
  (hf:evo E x=some (.func (.yield l) #[] #[])) (vs:List Value) (hx:evA E xs vs) {T:Value→World→Prop} (hY:YieldAt Fence.wide 0 P l vs.toArray w (Ret T)) (K:∀v a w,T v w→EnvD Df N ((d,v)::E) a→wpListIn (fR R) 0 P ops Q rest a w):wpListIn (fR R) 0 P ops Q (o::rest) a w:=by
 obtain⟨fn,tmps,assign,body,hy,hR⟩:=yieldAt_in (R:=R) hY
 have hxs:xs.toArray.map a.eval=vs.toArray:=by rw[List.map_toArray,aC4 hE hx]
 have hex:(execOp a.eval o).run P w= .ok (.round l fn tmps assign body) w:=by
  simp only[execOp,ho,resolve,hE.eval hf,hxs,Deferred.ofValue,invoke,Sem.run_bind,Sem.run_pure,Result.andThen_ok]
  simp[hy]
 unfold wpListIn
 rw[if_pos wk]
 refine⟨fun f _=>fR_fn R f,?_⟩
 rw[Oper.semAt_eq _ _ _ (nd_of hex (fun d h=>by cases h)),hex,Oper.uponIn_round]
 refine⟨fR_depth R,hR.mono fun e w' he=>?_⟩
 obtain⟨v,rfl,hr⟩:=he
 rw[hd]
 exact K v _ w' hr (hE.put hN v)
end
def aF3:Ent→List (Nat×Value)→Ent
 |E,[]=>E
 |E,p::r=>aF3 (p::E) r
theorem env_round {N:Nat} {Df:List Deferred}:∀(l:List (Nat×Value)) {E:Ent} {t:Array Value},(∀p∈l,Nat.blt p.1 N=true)→EnvD Df N E ⟨t,Df⟩→EnvD Df N (aF3 E l) ⟨l.foldl (fun t p=>t.setIfInBounds p.1 p.2) t,Df⟩
 | [],E,t,_,h=>h
 |p::r,E,t,hb,h=>by
  have:=h.put (hb p (List.mem_cons_self ..)) p.2
  exact env_round r (E:=p::E) (t:=t.setIfInBounds p.1 p.2) (fun q hq=>hb q (List.mem_cons_of_mem _ hq)) this
def markOf (dd:Nat):Deferred:={target:= .collected dd,args:= #[] }
section
variable {P:Program} {Q:Exit→Act→World→Prop} {a:Act} {w:World} {N:Nat} {E:Ent} {cs:List Code} {Z:World} {ρ:PH} {L:List bK}
theorem enterM {f:FuncId} {fn:Func} {c:Code} {args:Array Value} {R:Ending→World→Prop} (hf:P.funcs[f]?=some fn) (hb:fn.body=some c) (hN:fn.ntmps=N) (E:Ent) (h1:Nat.ble args.size N=true) (hE:∀p∈E,args[p.1]?=some p.2)
  (h:∀a,Env N E a→wpK none P (bodyPostM Fence.wide 0 P fn R) [c] a w):Calls P f args w R:=
 (callsIn_wide (n:=0)).1 (callsIn_of_wp_marks hf hb trivial (by rw[hN];exact k_one (h _ (Env.start N args E (by simpa using h1) hE))) rfl)
theorem retM {fn:Func} {R:Ending→World→Prop} {e:Exit} (he:e= .ret∨e= .normal) {dd:Nat} (hE:EnvD [markOf dd] N E a) (hp:Hp Z ρ (Pt dd (.deferred (some []))::L) w) (h:∀a w,Env N E a→Hp Z ρ L w→bodyPost P fn R .ret a w):bodyPostM Fence.wide 0 P fn R e a w:=by
 have hl:=hp.look 0 rfl
 have hlt:=(Array.getElem?_eq_some_iff.1 hl).1
 have hq:=Hp.set (w':=World.putObj w dd (.deferred none)) hp rfl rfl rfl (World.putObj_heap_same hlt) (fun k hk=>World.putObj_heap_other hk)
 have hE':Env N E ⟨a.tmps,[]⟩:=⟨hE.size,rfl,hE.val⟩
 obtain⟨v,hv⟩:=(h _ _ hE' hq.drop).2
 rcases he with rfl|rfl<;>
 ·show LeavesInM _ _ _ _ _ _ _ _ _
  rw[hE.defers]
  refine⟨by simp,.inl ⟨dd,_,rfl,run_takeDeferred hl,?_⟩⟩
  exact⟨v,hv⟩
def recOf (fn dd:Nat) (tmps:Array Value) (ps:Array Tmp) (assign body:Code):Loop:={state:= .ready,pending:=none,fn:=fn,tmps:=tmps,params:=ps,assign:=assign,body:=body,defers:=dd}
def LoopAt {σ ε:Type} (J:σ→bK) (K:ε→bK) (l dd:Nat) (rec:Loop):Step σ ε→bK
 | .next s=>Stars [J s,Pt l (.loop rec),Pt dd (.deferred (some []))]
 | .done r=>Stars [K r,Pt l (.loop {rec with state:= .done,pending:=some .ret}),Pt dd (.deferred (some []))]
theorem round_of {σ ε α:Type} {J:σ→bK} {K:ε→bK} {l dd fn:Nat} {t0:Array Value} {ps:Array Tmp} {assign body:Code} {E2:α→Ent} (hE:Env N E ⟨t0,[]⟩) (vs:α→List Value) {f:α→σ→Option (Step σ ε)}
  (hps:∀x,(vs x).length=ps.size) (hpN:∀p∈ps,Nat.blt p N=true)
  (ha:∀(x:α) (a:Act) (L:List bK) (w:World),Env N (aF3 E (ps.toList.zip (vs x))) a→Hp Z ρ L w→wpK (some l) P (fun e a w=>match e with| .normal=>Env N (E2 x++aF3 E (ps.toList.zip (vs x))) a∧Hp Z ρ L w|_=>False) [assign] a w)
  (hb:∀(x:α) (s:σ) (st:Step σ ε) (a:Act) (L:List bK) (w:World),f x s=some st→Env N (E2 x++aF3 E (ps.toList.zip (vs x))) a→Hp Z ρ (J s::L) w→wpK (some l) P (fun e a w=>match e with| .normal=>∃s',st= .next s'∧Hp Z ρ (J s'::L) w| .ret=>∃r,st= .done r∧Hp Z ρ (K r::L) w|_=>False) [body] a w)
  (x:α) (s:σ) (st:Step σ ε) (L:List bK) (W:World) (hs:f x s=some st) (hp:Hp Z ρ (LoopAt J K l dd (recOf fn dd t0 ps assign body) (.next s)::L) W):
  YieldAt Fence.wide 0 P l (vs x).toArray W (Ret fun v W'=>v= .bool st.more∧Hp Z ρ (LoopAt J K l dd (recOf fn dd t0 ps assign body) st::L) W'):=by
 have hp1:Hp Z ρ (J s::Pt l (.loop (recOf fn dd t0 ps assign body))::Pt dd (.deferred (some []))::L) W:=hp.unstar
 have hl:=hp1.look 1 rfl
 have hy:=run_yield (P:=P) (args:=(vs x).toArray) hl (by simpa[recOf] using hps x)
 refine⟨fn,_,_,_,hy,roundIn_of_wpIn trivial ?_⟩
 have hE1:=env_round (ps.toList.zip (vs x)) (fun p hp=>hpN p.1 (by simpa using(List.of_mem_zip hp).1)) hE
 have e1:(ps.toList.zip (vs x)).foldl (fun t p=>t.setIfInBounds p.1 p.2) t0=(ps.zip (vs x).toArray).foldl (fun tmps (p:Tmp×Value)=>tmps.setIfInBounds p.1 p.2) t0:=by
  obtain⟨q⟩:=ps
  simp
 rw[e1] at hE1
 have h1:=k_one (ha x _ _ _ hE1 hp1)
 refine wpIn_mono h1 fun e a2 w2 q=>?_
 cases e with
 |normal=>
  obtain⟨hE2,hp2⟩:=q
  have hl2:=hp2.look 1 rfl
  have hlt:=(Array.getElem?_eq_some_iff.1 hl2).1
  refine⟨_,run_beginRound hl2 rfl,?_⟩
  have hp3:Hp Z ρ (Pt l (.loop {recOf fn dd t0 ps assign body with state:= .busy})::J s::Pt dd (.deferred (some []))::L) (w2.putObj l (.loop {recOf fn dd t0 ps assign body with state:= .busy})):=
   Hp.set (w':=World.putObj _ _ _) (hp2.get 1 rfl) rfl rfl rfl (World.putObj_heap_same hlt) (fun k hk=>World.putObj_heap_other hk)
  have hp3:=hp3.get 1 rfl
  refine wpIn_mono (k_one (hb x s st a2 _ _ hs hE2 hp3)) fun e a4 w4 q=>?_
  cases e with
  |normal=>
   obtain⟨s',rfl,hq⟩:=q
   have hl4:=hq.look 1 rfl
   have hlt4:=(Array.getElem?_eq_some_iff.1 hl4).1
   have h5:=Hp.set (w':=World.putObj w4 l (.loop (recOf fn dd t0 ps assign body))) (hq.get 1 rfl) rfl rfl rfl (World.putObj_heap_same hlt4) (fun k hk=>World.putObj_heap_other hk)
   exact⟨_,_,run_endRound none hl4,_,rfl,rfl,Hp.stars (l:=[J s',_,_]) (h5.get 1 rfl)⟩
  |ret=>
   obtain⟨r,rfl,hq⟩:=q
   have hl4:=hq.look 1 rfl
   have hlt4:=(Array.getElem?_eq_some_iff.1 hl4).1
   have h5:=Hp.set (w':=World.putObj w4 l (.loop {recOf fn dd t0 ps assign body with state:= .done,pending:=some .ret})) (hq.get 1 rfl) rfl rfl rfl (World.putObj_heap_same hlt4) (fun k hk=>World.putObj_heap_other hk)
   exact⟨_,_,run_endRound (some .ret) hl4,_,rfl,rfl,Hp.stars (l:=[K r,_,_]) (h5.get 1 rfl)⟩
  |exit i=>exact q.elim
  |goto t=>exact q.elim
  |panic c=>exact q.elim
  |outgrown=>exact q.elim
 |exit i=>exact q.elim
 |goto t=>exact q.elim
 |ret=>exact q.elim
 |panic c=>exact q.elim
 |outgrown=>exact q.elim
theorem k_rangeF {σ ε α:Type} {g:Operand} {ps:Array Tmp} {assign body:Code} {gf:FuncId} {lb:List Value} {s0:σ} {b:Step σ ε} {L L':List bK} {E2:α→Ent} (J:σ→bK) (K:ε→bK) (vs:α→List Value) (f:α→σ→Option (Step σ ε))
  (hE:Env N E a) (hg:evo E g=some (.func (.func gf) #[] lb.toArray)) (eg:∀args w,(callFunc gf args).run P w= .ok (.enter gf args) w) (hp:Hp Z ρ (J s0::L) w)
  (hps:∀x,(vs x).length=ps.size) (hpN:∀p∈ps,Nat.blt p N=true)
  (hc:∀(l:Nat) (Y:Step σ ε→bK) (w:World),YieldOk P Z ρ l vs f Y→
   Hp Z ρ (Y (.next s0)::L) w→Calls P gf (#[.func (.yield l) #[] #[]]++lb.toArray) w (Ret fun _ W'=>Hp Z ρ (Y b::L') W'))
  (ha:∀(l:Nat) (x:α) (a:Act) (L:List bK) (w:World),Env N (aF3 E (ps.toList.zip (vs x))) a→Hp Z ρ L w→wpK (some l) P (fun e a w=>match e with| .normal=>Env N (E2 x++aF3 E (ps.toList.zip (vs x))) a∧Hp Z ρ L w|_=>False) [assign] a w)
  (hb:∀(l:Nat) (x:α) (s:σ) (st:Step σ ε) (a:Act) (L:List bK) (w:World),f x s=some st→Env N (E2 x++aF3 E (ps.toList.zip (vs x))) a→Hp Z ρ (J s::L) w→wpK (some l) P (fun e a w=>match e with| .normal=>∃s',st= .next s'∧Hp Z ρ (J s'::L) w| .ret=>∃r,st= .done r∧Hp Z ρ (K r::L) w|_=>False) [body] a w)
  (hn:∀s,b= .next s→∀dd a w,EnvD [markOf dd] N E a→Hp Z ρ (J s::Pt dd (.deferred (some []))::L') w→wpK none P Q cs a w)
  (hr:∀r,b= .done r→∀dd a w,EnvD [markOf dd] N E a→Hp Z ρ (K r::Pt dd (.deferred (some []))::L') w→Q .ret a w):wpK none P Q (.rangeFunc g ps assign body::cs) a w:=by
 show(Code.rangeFunc g ps assign body).wpIn Fence.wide 0 P (Exit.then (wpK none P Q cs) Q) a w
 refine wpIn_rangeFunc fun fn _=>?_
 obtain⟨rec,hrec⟩:∃rec:Loop,rec=recOf fn w.heap.size a.tmps ps assign body:=⟨_,rfl⟩
 obtain⟨W1,hW1⟩:∃W1,(w.alloc (.deferred (some []))).alloc (.loop rec)=W1:=⟨_,rfl⟩
 have hp1:Hp Z ρ (Pt (w.heap.size+1) (.loop rec)::Pt w.heap.size (.deferred (some []))::J s0::L) W1:=by
  have:=(hp.alloc (.deferred (some []))).alloc (.loop rec)
  rwa [World.size_alloc,hW1] at this
 have hE0:Env N E ⟨a.tmps,[]⟩:=⟨hE.size,rfl,hE.val⟩
 have hp2:Hp Z ρ (LoopAt (ε:=ε) J K (w.heap.size+1) w.heap.size rec (.next s0)::L) W1:=Hp.stars (l:=[J s0,_,_]) (hp1.get 2 rfl)
 refine⟨w.heap.size+1,[{target:= .collected w.heap.size,args:= #[] }],W1,{target:= .fn (.func gf) lb.toArray,args:= #[.func (.yield (w.heap.size+1)) #[] #[]] },W1,gf,#[.func (.yield (w.heap.size+1)) #[] #[]]++lb.toArray,W1,?_,?_,?_,?_,?_,?_⟩
 ·rw[←hW1,hrec];exact run_enterLoop_outer _ _ _ _ _
 ·simp only[resolve,hE.eval hg]
  simp[go_sem]
 ·exact fun _ _=>trivial
 ·simp[invoke,go_sem,eg]
 ·intro h;simp[Fence.wide] at h
 refine callsIn_wide.2 (Calls.mono (hc (w.heap.size+1) (LoopAt J K (w.heap.size+1) w.heap.size rec) W1 (fun x s st L W hs h=>by
  rw[hrec] at h⊢
  exact round_of hE0 vs hps hpN (ha _) (hb _) x s st L W hs h) hp2) fun e W' he=>?_)
 obtain⟨v,rfl,hp'⟩:=he
 have hE':EnvD [markOf w.heap.size] N E {a with defers:=[{target:= .collected w.heap.size,args:= #[] }]++a.defers}:=⟨hE.size,by simp[hE.defers,markOf],hE.val⟩
 cases b with
 |next s=>
  have hp':Hp Z ρ (J s::Pt (w.heap.size+1) (.loop rec)::Pt w.heap.size (.deferred (some []))::L') W':=hp'.unstar
  have hl:=hp'.look 1 rfl
  have hlt:=(Array.getElem?_eq_some_iff.1 hl).1
  have hrun:=run_endLoop (P:=P) hl (by rw[hrec];simp[recOf])
  rw[show rec.pending=none by rw[hrec];rfl] at hrun
  refine⟨none,_,hrun,?_⟩
  exact hn s rfl _ _ _ hE' (Hp.set (w':=World.putObj _ _ _) (hp'.get 1 rfl) rfl rfl rfl (World.putObj_heap_same hlt) (fun k hk=>World.putObj_heap_other hk)).drop
 |done r=>
  have hp':Hp Z ρ (K r::Pt (w.heap.size+1) (.loop {rec with state:= .done,pending:=some .ret})::Pt w.heap.size (.deferred (some []))::L') W':=hp'.unstar
  have hl:=hp'.look 1 rfl
  have hlt:=(Array.getElem?_eq_some_iff.1 hl).1
  have hrun:=run_endLoop (P:=P) hl (by simp)
  refine⟨some .ret,_,hrun,?_⟩
  exact wpIn_ret (hr r rfl _ _ _ hE' (Hp.set (w':=World.putObj _ _ _) (hp'.get 1 rfl) rfl rfl rfl (World.putObj_heap_same hlt) (fun k hk=>World.putObj_heap_other hk)).drop)
end
theorem tcVN:VarTy Tryz.prog 24 true 5:=⟨fun w=>by simp[isAgg,go_sem],fun w=>by simp[sizeOf,go_sem]<;>rfl⟩
theorem tcVS:VarTy Tryz.prog 22 false 1:=⟨fun w=>by simp[isAgg,go_sem],fun w=>by simp[sizeOf,go_sem]<;>rfl⟩
theorem oP:VarTy Tryz.prog 3 false 1:=⟨fun w=>by simp[isAgg,go_sem],fun w=>by simp[sizeOf,go_sem]<;>rfl⟩
theorem tcF4:mY Tryz.prog 24 4 4:=fun b o w=>by simp[Instr.fieldAt,go_sem]
theorem tcSl:SlTy Tryz.prog 22 24 5 64:=SlTy.of (z:= .agg #[.int .i64 0,.string ByteArray.empty,.int .i64 0,.int .i64 0,.slice none 0 0]) (by kernel_rfl) (by kernel_rfl) rfl
theorem tcEv:∀args w,(callFunc 102 args).run Tryz.prog w= .ok (.enter 102 args) w:=enters Tryz.func102 (by kernel_rfl) rfl
theorem tcE1:∀args w,(callFunc 101 args).run Tryz.prog w= .ok (.enter 101 args) w:=enters Tryz.func101 (by kernel_rfl) rfl
theorem tcEn:∀args w,(callFunc 87 args).run Tryz.prog w= .ok (.enter 87 args) w:=enters Tryz.func87 (by kernel_rfl) rfl
theorem yC (n:Node) (l:List Node):qI (n::l)=bW n+qI l:=by rw[qI]
theorem yY (n:Node):bW n=1+qI n.kids:=by obtain⟨a,b,c,d,k⟩:=n;rw[bW]
theorem aJ3:∀(l m:List Node),qI (l++m)=qI l+qI m
 | [],m=>by simp[qI]
 |n::l,m=>by rw[List.cons_append,yC,yC,aJ3 l m];omega
theorem aA0 {l:List Node} {i:Nat} {n:Node} (h:l[i]?=some n):qI (l.take (i+1))=qI (l.take i)+bW n:=by
 obtain⟨h1,h2⟩:=List.getElem?_eq_some_iff.1 h
 rw[←h2,List.take_succ_eq_append_getElem h1,aJ3,yC];simp[qI]
theorem cntL_le (l:List Node) (i:Nat):qI (l.take i)≤qI l:=by
 have:=aJ3 (l.take i) (l.drop i)
 rw[List.take_append_drop] at this;omega
theorem node_sz {n m:Node} {i:Nat} (h:n.kids[i]?=some m):SizeOf.sizeOf m<SizeOf.sizeOf n:=by
 obtain⟨a,b,c,d,k⟩:=n
 change k[i]?=some m at h
 have:=List.sizeOf_lt_of_mem (List.mem_of_getElem? h)
 simp only[Node.mk.sizeOf_spec]
 omega
theorem D9:∀(l:List Node),l.length≤qI l
 | []=>Nat.zero_le _
 |n::l=>by
  have:=D9 l
  have h:=yY n
  rw[yC,List.length_cons];omega
def F5 (n i:Nat):Option (Step Nat Unit):=if i<n then some (.next (i+1)) else some (.done ())
theorem kidsLoop (n:Nat):∀(j i:Nat),i+j=n→dV (F5 n) i=some ()
 |0,i,h=>kC (by unfold F5;rw[if_neg (by omega)])
 |j+1,i,h=>by rw[wL (show F5 n i=some (.next (i+1)) by unfold F5;rw[if_pos (by omega)])];exact kidsLoop n j (i+1) (by omega)
abbrev rW (p0:Node) (v:Value):Value:= .agg #[.int .i64 p0.kind,.string p0.text,.int .i64 p0.at_,.int .i64 p0.fin,v]
def cntF (N:Nat) (_:Value) (c:Nat):Option (Step Nat Empty):=if c<N then some (.next (c+1)) else none
theorem visit_c {Z:World} {ρ:PH} {l N:Nat} {Y:Step Nat Empty→bK} (hN:N≤4611686018427387904)
  (hY:YieldOk Tryz.prog Z ρ l (fun x:Value=>[x]) (cntF N) Y):
  ∀(m:Nat) (p0:Node),SizeOf.sizeOf p0≤m→∀(c:Nat) (L:List bK) (w:World) (v:Value) (hv:aH ρ v p0.kids),c+bW p0≤N→Hp Z ρ (Y (.next c)::L) w→
   Calls Tryz.prog 102 #[rW p0 v,.func (.yield l) #[] #[]] w (Ret fun r w'=>r= .bool true∧Hp Z ρ (Y (.next (c+bW p0))::L) w'):=by
 intro m
 induction m with
 |zero=>intro p0 h;obtain⟨a,b,c,d,k⟩:=p0;simp only[Node.mk.sizeOf_spec] at h;omega
 |succ m ih=>
  intro p0 hsz c L w v hv hcN hp
  have hcnt:=yY p0
  refine enter (N:=23) Tryz.func102 rfl rfl [(0,rW p0 v),(1,.func (.yield l) #[] #[])] rfl (bC ⟨rfl,rfl,trivial⟩) fun a hE=>?_
  refine aG (aA ?_)
  refine iI (wk0 rfl) rfl rfl hE hp rfl (v:=rW p0 v) rfl ?_
  intro a w b1 hE hp
  have hp:=r2 hp
  refine S hE 1 rfl fun a hE=>aB (aG ?_)
  refine aG ?_
  refine k_regionY ?_
  refine y_val (wk0 rfl) rfl rfl hE hp (v:= .func (.yield l) #[] #[]) (eH rfl hE rfl) ?_
  intro a hE
  refine y_val (wk0 rfl) rfl rfl hE hp (v:=rW p0 v) (aK rfl hE rfl (fun w hw=>aW (cs:=[(Iv p0.kind),(.string p0.text),(Iv p0.at_),(Iv p0.fin),v]) tcVN (Hp.cN 0 rfl 0 _ (aS rfl) w hw))) ?_
  intro a hE
  have hp:Hp Z ρ (Y (.next c)::Pt b1 (.cells #[(Iv p0.kind),(.string p0.text),(Iv p0.at_),(Iv p0.fin),v] 24 (0,0))::L) w:=hp.get 1 rfl
  refine y_yield (wk0 rfl) rfl rfl hE rfl rfl [rW p0 v] ⟨rfl,trivial⟩ (hY (rW p0 v) c (.next (c+1)) _ w (by unfold cntF;rw[if_pos (by omega)]) hp) ?_
  rintro _ a w ⟨rfl,hp⟩ hE
  have hE:Env 23 ((9,.bool true)::_) a:=hE
  refine y_val (wk0 rfl) rfl rfl hE hp (v:= .bool (!true)) (ex_not rfl hE rfl) ?_
  intro a hE
  refine y_nil ?_
  refine dE hE rfl (fun hb=>by cases hb) (fun _=>?_)
  refine aZ (aG ?_)
  refine aG (aA ?_)
  refine V hE hp rfl (dF rfl hE rfl (tcF4 _ _)) fun a hE=>V hE hp rfl (xl hE tcVS 1 rfl rfl rfl rfl) fun a hE=>V hE hp rfl (bT rfl hE rfl (aH.len hv tcSl)) fun a hE=>S hE 1 rfl fun a hE=>aB ?_
  refine dH (fun a w=>Env 23 [] a∧Hp Z ρ (Y (.next (c+bW p0))::L) w) ?_ ?_
  ·refine dZ (kidsLoop p0.kids.length p0.kids.length 0 (by omega)) (fun i a w=>i≤p0.kids.length∧Env 23 [(1,.func (.yield l) #[] #[]),(12,v),(13,(Iv (p0.kids.length:Int))),(14,(Iv (i:Int)))] a∧∃L',Hp Z ρ (Y (.next (c+1+qI (p0.kids.take i)))::L') w∧∀c w,Hp Z ρ (Y (.next c)::L') w→Hp Z ρ (Y (.next c)::L) w) ?_ ?_
   ·refine⟨Nat.zero_le _,hE.cut ⟨rfl,rfl,rfl,rfl,trivial⟩,(Pt b1 (.cells #[(Iv p0.kind),(.string p0.text),(Iv p0.at_),(Iv p0.fin),v] 24 (0,0))::L),?_,fun c w h=>?_⟩
    ·rw[List.take_zero,qI,Nat.add_zero];exact hp
    exact(h.get 1 rfl).drop
   rintro i st a w ⟨hi,hE,L',hp,hL'⟩ hst
   refine aG (aA ?_)
   refine S hE 1 rfl fun a hE=>aB (aG ?_)
   refine dE hE rfl (fun hb=>?_) (fun hb=>?_)
   ·have hlt:i<p0.kids.length:=by simpa using hb
    obtain⟨x,hx⟩:∃x,p0.kids[i]?=some x:=⟨_,List.getElem?_eq_getElem hlt⟩
    refine aZ (aG ?_)
    refine dM (aG ?_)
    refine aA ?_
    have ex:idx p0.kids (i:Int)=some x:=by unfold idx;rw[if_pos (by omega)];simpa using hx
    obtain⟨b3,b3o,b3c,b3r,b3k,b3f⟩:=aH.at hv tcSl ex
    obtain⟨vk,rfl,hk⟩:=NodeAt.opens b3k
    refine V hE hp rfl (aN rfl hE rfl rfl b3r) fun a hE=>V hE hp rfl (aK rfl hE rfl (fun w hw=>aW (cs:=[(Iv x.kind),(.string x.text),(Iv x.at_),(Iv x.fin),vk]) tcVN (fun j u hj=>cell_of hw.le (b3f j u hj)))) fun a hE=>?_
    refine dL (wk0 rfl) rfl rfl hE hp rfl [(Iv 0),(.string ByteArray.empty),(Iv 0),(Iv 0),N0] (fun w=>by simp[Instr.alloc,go_sem]<;>rfl) ?_
    intro a w b2 hE hp
    refine aX (wk0 rfl) rfl hE hp rfl rfl (v:=rW x vk) rfl 0 rfl (by exact tcVN.size_) rfl (by
     have h1:=aH.one hk
     intro u hu
     simp[Value.cells] at hu
     rcases hu with rfl|rfl|rfl|rfl|rfl<;>first|rfl|exact h1) [(Iv x.kind),(.string x.text),(Iv x.at_),(Iv x.fin),vk] (by simp[Value.cells]) ?_
    intro w hp
    refine aB (aG ?_)
    refine aA (V hE hp rfl (aK rfl hE rfl (fun w hw=>aW (cs:=[(Iv x.kind),(.string x.text),(Iv x.at_),(Iv x.fin),vk]) tcVN (Hp.cN 0 rfl 0 _ (aS rfl) w hw))) fun a hE=>?_)
    refine S hE 1 rfl fun a hE=>?_
    have hp:=hp.drop
    have h1:=aA0 hx
    have h2:=cntL_le p0.kids (i+1)
    refine s_call (wk0 rfl) rfl rfl hE rfl [rW x vk,.func (.yield l) #[] #[]] ⟨rfl,rfl,trivial⟩ tcEv (ih x (by have:=node_sz hx;omega) _ _ w vk hk (by omega) hp) Ret.ret ?_
    intro v2 a w hR hE
    obtain⟨rfl,hp⟩:=Ret.of hR
    refine S hE 1 rfl fun a hE=>aB ?_
    refine dE hE rfl (fun hb=>by cases hb) (fun _=>?_)
    refine aZ (aA ?_)
    refine V hE hp rfl (v:=(Iv ((i+1:Nat):Int))) (bF rfl hE rfl rfl (by have:=D9 p0.kids;rw[IntKind.wrap_i64];omega)) fun a hE=>S hE 1 rfl fun a hE=>aB ?_
    refine⟨i+1,?_,by omega,hE.cut ⟨rfl,rfl,rfl,rfl,trivial⟩,L',?_,hL'⟩
    ·unfold F5 at hst;rw[if_pos hlt] at hst;exact(oj hst).symm
    rw[h1,←Nat.add_assoc];exact hp
   have hge:¬i<p0.kids.length:=by simpa using hb
   refine dS ?_
   refine⟨(),?_,fun _=>?_⟩
   ·unfold F5 at hst;rw[if_neg hge] at hst;exact(oj hst).symm
   refine⟨hE.cut trivial,?_⟩
   have:=hL' _ _ hp
   rw[List.take_of_length_le (by omega)] at this
   rw[hcnt,←Nat.add_assoc];exact this
  rintro a w ⟨hE,hp⟩
  refine aG (aA ?_)
  refine S hE 1 rfl fun a hE=>aB (bZ ?_)
  exact gJ hE rfl rfl ⟨_,rfl,rfl,hp⟩
theorem nodes_c {Z:World} {ρ:PH} {L:List bK} {w:World} (p0:Node) (v:Value) (hp:Hp Z ρ L w):
  Calls Tryz.prog 87 #[rW p0 v] w (Ret fun r w'=>∃b,r= .func (.func 101) #[] #[.pointer (some ⟨b,0,none⟩)]∧Hp Z ρ (Pt b (.cells #[(Iv p0.kind),(.string p0.text),(Iv p0.at_),(Iv p0.fin),v] 24 (0,0))::L) w'):=by
 refine enter (N:=4) Tryz.func87 rfl rfl [(0,rW p0 v)] rfl (bC ⟨rfl,trivial⟩) fun a hE=>?_
 refine aG (aA ?_)
 refine iI (wk0 rfl) rfl rfl hE hp rfl (v:=rW p0 v) rfl ?_
 intro a w b1 hE hp
 refine S hE 1 rfl fun a hE=>aB (aG ?_)
 refine aA (V hE hp rfl (v:= .func (.func 101) #[] #[.pointer (some ⟨b1,0,none⟩)]) (ex_fn rfl hE [.pointer (some ⟨b1,0,none⟩)] (by exact⟨rfl,trivial⟩)) fun a hE=>?_)
 refine S hE 1 rfl fun a hE=>aB (bZ ?_)
 exact gJ hE rfl rfl ⟨_,rfl,_,rfl,hp⟩
theorem nodes1_c {Z:World} {ρ:PH} {l N:Nat} {Y:Step Nat Empty→bK} (hN:N≤4611686018427387904)
  (hY:YieldOk Tryz.prog Z ρ l (fun x:Value=>[x]) (cntF N) Y)
  (p0:Node) (b:Nat) (L:List bK) (w:World) (v:Value) (hv:aH ρ v p0.kids) (hcN:bW p0≤N)
  (hp:Hp Z ρ (Y (.next 0)::Pt b (.cells #[(Iv p0.kind),(.string p0.text),(Iv p0.at_),(Iv p0.fin),v] 24 (0,0))::L) w):
  Calls Tryz.prog 101 #[.func (.yield l) #[] #[],.pointer (some ⟨b,0,none⟩)] w (Ret fun _ w'=>Hp Z ρ (Y (.next (bW p0))::L) w'):=by
 refine enter (N:=6) Tryz.func101 rfl rfl [(0,.func (.yield l) #[] #[]),(1,.pointer (some ⟨b,0,none⟩))] rfl (bC ⟨rfl,rfl,trivial⟩) fun a hE=>?_
 refine aA (V hE hp rfl (aK rfl hE rfl (fun w hw=>aW (cs:=[(Iv p0.kind),(.string p0.text),(Iv p0.at_),(Iv p0.fin),v]) tcVN (Hp.cN 1 rfl 0 _ (aS rfl) w hw))) fun a hE=>?_)
 refine S hE 1 rfl fun a hE=>?_
 refine s_call (wk0 rfl) rfl rfl hE rfl [rW p0 v,.func (.yield l) #[] #[]] ⟨rfl,rfl,trivial⟩ tcEv (visit_c hN hY _ p0 (Nat.le_refl _) 0 _ w v hv (by omega) hp) Ret.ret ?_
 intro v2 a w hR hE
 obtain⟨rfl,hp⟩:=Ret.of hR
 refine aB ?_
 refine⟨hE.defers,_,results_none rfl _ _ _,_,rfl,?_⟩
 rw[Nat.zero_add] at hp
 exact(hp.get 1 rfl).drop
theorem aF9 {Z:World} {ρ:PH} {L:List bK} {w:World} (p0:Node) (aI:Value) (bD:aH ρ aI p0.kids) (hp:Hp Z ρ (L) w) (r:Int) (hm:aC7 p0=some r):
  Calls Tryz.prog 64 #[(.agg #[(Iv p0.kind),(.string p0.text),(Iv p0.at_),(Iv p0.fin),aI])] w (Ret fun v w'=>v=(Iv r)∧Hp Z ρ (L) w'):=by
 obtain⟨hlt,rfl⟩:bW p0<4611686018427387904∧r=(bW p0:Int):=by
  unfold aC7 at hm
  split at hm
  ·exact⟨by assumption,(oj hm).symm⟩
  cases hm
 refine enterM (N:=10) Tryz.func64 rfl rfl [(0,rW p0 aI)] rfl (bC ⟨rfl,trivial⟩) fun a hE=>?_
 refine aG (aA ?_)
 refine iI (wk0 rfl) rfl rfl hE hp rfl (v:=rW p0 aI) rfl ?_
 intro a w b1 hE hp
 have hp:=r1 hp
 refine S hE 1 rfl fun a hE=>aB (aG ?_)
 refine aA ?_
 refine dL (wk0 rfl) rfl rfl hE hp rfl [.int .i64 0] (fun w=>by simp[Instr.alloc,go_sem]<;>rfl) ?_
 intro a w b2 hE hp
 refine aX (wk0 rfl) rfl hE hp rfl rfl (v:= .int .i64 0) rfl 0 rfl (by exact oP.size_) rfl (by simp[Value.cells,Value.oneCell']) [.int .i64 0] (by simp[Value.cells]) ?_
 intro w hp
 refine aB (aG ?_)
 refine aG (aA ?_)
 refine V hE hp rfl (aK rfl hE rfl (fun w hw=>aW (cs:=[(Iv p0.kind),(.string p0.text),(Iv p0.at_),(Iv p0.fin),aI]) tcVN (Hp.cN 1 rfl 0 _ (aS rfl) w hw))) fun a hE=>?_
 refine s_call (wk0 rfl) rfl rfl hE rfl [rW p0 aI] ⟨rfl,trivial⟩ tcEn (nodes_c p0 aI hp) Ret.ret ?_
 intro v2 a w hR hE
 obtain⟨b,rfl,hp⟩:=Ret.of hR
 refine aB (dM ?_)
 refine k_rangeF (fun c:Nat=>Pt b2 (.cells #[.int .i64 (c:Int)] 3 (0,0))) (fun r:Empty=>fun k=>False) (fun x:Value=>[x]) (cntF (bW p0)) (b:= .next (bW p0)) (L':=L) (E2:=fun x=>[]) (lb:=[.pointer (some ⟨b,0,none⟩)]) (s0:=0) hE rfl tcE1 ((hp.get 2 rfl).drop.get 1 rfl) (fun _=>rfl) (by decide) ?_ ?_ ?_ ?_ ?_
 ·intro yl Y w hY hp
  refine Calls.mono (nodes1_c (by omega) hY p0 b L w aI bD (Nat.le_refl _) hp) fun e w' he=>?_
  obtain⟨v,rfl,hh⟩:=he
  exact⟨_,rfl,hh⟩
 ·intro yl x a L w hE hp
  refine aZ ?_
  exact⟨hE,hp⟩
 ·rintro yl x c st a L w hst hE hp
  have hc:c<bW p0:=by
   unfold cntF at hst
   split at hst
   ·assumption
   cases hst
  unfold cntF at hst
  rw[if_pos hc] at hst
  refine dM (aA ?_)
  refine V hE hp rfl (xl hE oP 0 rfl rfl rfl rfl) fun a hE=>V hE hp rfl (v:= .int .i64 ((c+1:Nat):Int)) (bF rfl hE rfl rfl (by rw[IntKind.wrap_i64];omega)) fun a hE=>?_
  refine aX (wk0 rfl) rfl hE hp rfl rfl (v:= .int .i64 ((c+1:Nat):Int)) rfl 0 rfl (by exact oP.size_) rfl (by simp[Value.cells,Value.oneCell']) [.int .i64 ((c+1:Nat):Int)] (by simp[Value.cells]) ?_
  intro w hp
  refine aB ?_
  exact⟨_,(oj hst).symm,hp⟩
 ·intro s hs dd a w hE hp
  obtain rfl:=Step.next.inj hs
  refine aG (aA ?_)
  refine V hE hp rfl (xl hE oP 0 rfl rfl rfl rfl) fun a hE=>S hE 1 rfl fun a hE=>aB (bZ ?_)
  refine retM (.inl rfl) hE (hp.get 1 rfl) fun a w hE hp=>?_
  exact gJ hE rfl rfl ⟨_,rfl,rfl,hp.drop⟩
 intro r _ dd a w hE hp
 exact r.elim
end Go.Proofs.YtopnldfjcciieaaGreat
