/- The code goes as its model: (assessor/align.numbered).above, assessor/align.sameLabel, assessor/align.number$1, assessor/align.number, (assessor/align.numbered) -/
import Derived.Test.YtopnldfjcciieaaGreatKUnT
import Derived.Test.YtopnldfjcciieaaGreatKUn3
import Derived.Test.YtopnldfjcciieaaGreatKUn5
import Derived.Test.YtopnldfjcciieaaGreatKUn6
import Derived.Test.YtopnldfjcciieaaGreatKUn4
set_option linter.unusedVariables false
set_option linter.unusedSimpArgs false
set_option maxRecDepth 100000
set_option maxHeartbeats 4000000
namespace Go.Proofs.YtopnldfjcciieaaGreat
open Go.RowKit
theorem jQ {Z:World} {ρ:PH} {L:List bI} {w:World} (p0:Nmb) (eQ:Value) (yD:aH ρ eQ p0.nodes) (eU:Value) (E5:aH ρ eU p0.sizes) (dV:Value) (oH:aH ρ dV p0.parent) (p1:Int) (p2:Int) (hp:Hp Z ρ (L) w) (r:Bool) (hm:gZ p0 p1 p2=some r):
  Calls Tryz.prog 45 #[(.agg #[eQ,eU,dV]),(Iv p1),(Iv p2)] w (Ret fun v w'=>v=(.bool r)∧Hp Z ρ (L) w'):=by
 refine enter (N:=21) Tryz.func45 rfl rfl [(0,(.agg #[eQ,eU,dV])),(1,(Iv p1)),(2,(Iv p2))] rfl (aY ⟨rfl,rfl,rfl,trivial⟩) fun a hE=>?_
 unfold gZ at hm
 refine aF (aA ?_)
 refine iV (wk0 rfl) rfl rfl hE hp rfl (v:=(.agg #[eQ,eU,dV])) rfl ?_
 intro a w b1 hE hp
 have hp:=r1 hp
 refine S hE 1 rfl fun a hE=>aB (aF ?_)
 refine aA (S hE 4 rfl fun a hE=>?_)
 obtain⟨m1,hg1,hm⟩:=bnd hm
 refine jE [_,_,_,_,_,_,_,_,_,_] (fun a w=>Env 21 [(20,(.bool m1))] a∧Hp Z ρ (Pt b1 (.cells #[eQ,eU,dV] 75 (0,0))::L) w) ?_ ?_
 ·rcases Bool.eq_false_or_eq_true (decide (p1<p2)) with hc1|hc1
  ·
   replace hg1:=(it hc1).symm.trans hg1
   refine Gs hE hc1 rfl rfl fun a hE=>Gs hE hc1 rfl rfl fun a hE=>G hE hp hc1 rfl (xf hE tC rfl rfl) fun a hE=>G hE hp hc1 rfl (xl hE aV 0 rfl rfl rfl rfl) fun a hE=>Gs hE hc1 rfl rfl fun a hE=>?_
   obtain⟨x1,ex1,hg1⟩:=bnd hg1
   obtain⟨b2,b2o,b2c,b2r,b2k,b2f⟩:=aH.at E5 bH ex1
   obtain rfl:b2c=Enc.enc x1:=b2k
   have b2f:AtP ρ b2 b2o [(Iv x1)]:=b2f
   refine G hE hp hc1 rfl (aO rfl hE rfl rfl b2r) fun a hE=>G hE hp hc1 rfl (aJ rfl hE rfl (fun w hw=>bG aX (b2f.c 0 rfl w hw))) fun a hE=>?_
   obtain⟨x2,ex2,hg1⟩:=bnd hg1
   refine G hE hp hc1 rfl (bF rfl hE rfl rfl (aK ex2)) fun a hE=>Gs hE hc1 rfl rfl fun a hE=>pk1 hE hc1 rfl rfl rfl rfl fun a hE=>?_
   obtain rfl:=oj hg1
   exact aB ⟨hE.cut ⟨rfl,trivial⟩,hp⟩
  replace hg1:=(ie hc1).symm.trans hg1
  refine Gk hE hc1 rfl fun a hE=>Gk hE hc1 rfl fun a hE=>Gk hE hc1 rfl fun a hE=>Gk hE hc1 rfl fun a hE=>Gk hE hc1 rfl fun a hE=>Gk hE hc1 rfl fun a hE=>Gk hE hc1 rfl fun a hE=>Gk hE hc1 rfl fun a hE=>Gk hE hc1 rfl fun a hE=>pk0 hE hc1 rfl rfl rfl rfl fun a hE=>?_
  obtain rfl:=oj hg1
  exact aB ⟨hE.cut ⟨rfl,trivial⟩,hp⟩
 rintro a w ⟨hE,hp⟩
 refine S hE 1 rfl fun a hE=>aB (dD ?_)
 obtain rfl:=oj hm
 exact gK hE rfl rfl ⟨_,rfl,rfl,(hp.drop)⟩
theorem xG {Z:World} {ρ:PH} {L:List bI} {w:World} (p0:Node) (aI:Value) (aZ:aH ρ aI p0.kids) (p1:Node) (aP:Value) (bU:aH ρ aP p1.kids) (hp:Hp Z ρ (L) w) (r:Bool) (hm:qJ p0 p1=some r):
  Calls Tryz.prog 41 #[(.agg #[(Iv p0.kind),(.string p0.text),(Iv p0.at_),(Iv p0.fin),aI]),(.agg #[(Iv p1.kind),(.string p1.text),(Iv p1.at_),(Iv p1.fin),aP])] w (Ret fun v w'=>v=(.bool r)∧Hp Z ρ (L) w'):=by
 refine enter (N:=17) Tryz.func41 rfl rfl [(0,(.agg #[(Iv p0.kind),(.string p0.text),(Iv p0.at_),(Iv p0.fin),aI])),(1,(.agg #[(Iv p1.kind),(.string p1.text),(Iv p1.at_),(Iv p1.fin),aP]))] rfl (aY ⟨rfl,rfl,trivial⟩) fun a hE=>?_
 unfold qJ at hm
 refine aF (aA ?_)
 refine iV (wk0 rfl) rfl rfl hE hp rfl (v:=(.agg #[(Iv p0.kind),(.string p0.text),(Iv p0.at_),(Iv p0.fin),aI])) rfl ?_
 intro a w b1 hE hp
 have hp:=r1 hp
 refine iV (wk0 rfl) rfl rfl hE hp rfl (v:=(.agg #[(Iv p1.kind),(.string p1.text),(Iv p1.at_),(Iv p1.fin),aP])) rfl ?_
 intro a w b2 hE hp
 have hp:=r2 hp
 refine S hE 1 rfl fun a hE=>aB (aF ?_)
 refine aA (V hE hp rfl (xf hE wK rfl rfl) fun a hE=>?_)
 refine V hE hp rfl (xl hE aX 1 rfl rfl rfl rfl) fun a hE=>V hE hp rfl (xf hE wK rfl rfl) fun a hE=>V hE hp rfl (xl hE aX 0 rfl rfl rfl rfl) fun a hE=>S hE 2 rfl fun a hE=>?_
 refine jE [_,_,_,_,_,_] (fun a w=>Env 17 [(16,(.bool ((decide (p0.kind=p1.kind))&&(decide (p0.text=p1.text)))))] a∧Hp Z ρ (Pt b2 (.cells #[(Iv p1.kind),(.string p1.text),(Iv p1.at_),(Iv p1.fin),aP] 24 (0,0))::Pt b1 (.cells #[(Iv p0.kind),(.string p0.text),(Iv p0.at_),(Iv p0.fin),aI] 24 (0,0))::L) w) ?_ ?_
 ·rcases Bool.eq_false_or_eq_true (decide (p0.kind=p1.kind)) with hc1|hc1
  ·
   refine G hE hp hc1 rfl (xf hE vG rfl rfl) fun a hE=>G hE hp hc1 rfl (xl hE U5 1 rfl rfl rfl rfl) fun a hE=>G hE hp hc1 rfl (xf hE vG rfl rfl) fun a hE=>G hE hp hc1 rfl (xl hE U5 0 rfl rfl rfl rfl) fun a hE=>G hE hp hc1 rfl (v:=(.bool (decide (p0.text=p1.text)))) (ex_seql rfl hE rfl rfl) fun a hE=>pk1 hE hc1 rfl rfl rfl rfl fun a hE=>?_
   have hE:=hE.eqv (v':=(.bool ((decide (p0.kind=p1.kind))&&(decide (p0.text=p1.text))))) (by rw[hc1];rfl)
   exact aB ⟨hE.cut ⟨rfl,trivial⟩,hp⟩
  refine Gk hE hc1 rfl fun a hE=>Gk hE hc1 rfl fun a hE=>Gk hE hc1 rfl fun a hE=>Gk hE hc1 rfl fun a hE=>Gk hE hc1 rfl fun a hE=>pk0 hE hc1 rfl rfl rfl rfl fun a hE=>?_
  have hE:=hE.eqv (v':=(.bool ((decide (p0.kind=p1.kind))&&(decide (p0.text=p1.text))))) (by rw[hc1];rfl)
  exact aB ⟨hE.cut ⟨rfl,trivial⟩,hp⟩
 rintro a w ⟨hE,hp⟩
 refine S hE 1 rfl fun a hE=>aB (dD ?_)
 obtain rfl:=oj hm
 exact gK hE rfl rfl ⟨_,rfl,rfl,(((hp.get 1 rfl).drop).drop)⟩
theorem aA4 (self:Node→Int→Nmb→Option Nmb) (hself:∀{Z:World} {ρ:PH} {L:List bI} {w:World} (p0:Node) (aI:Value) (aZ:aH ρ aI p0.kids) (p1:Int) (bcp0:Nat) (cp0:Nmb) (kK:Value) (iG:List Value) (gY:Value) (dX:Value) (hRcp0_nodes:fC ρ (cp0.nodes:List Node) iG) (bcp1:Nat) (hp:Hp Z ρ (Pt bcp0 (.cells #[kK,gY,dX] 75 (0,0))::oQ 24 kK (cp0.nodes:(List Node)) iG::aG 3 gY cp0.sizes::aG 3 dX cp0.parent::Pt bcp1 (.cells #[(.func (.func 63) #[] #[(Pv bcp0 0),(Pv bcp1 0)])] 110 (0,0))::L) w) (r:Nmb) (hm:self p0 p1 cp0=some r),Calls Tryz.prog 63 #[(.agg #[(Iv p0.kind),(.string p0.text),(Iv p0.at_),(Iv p0.fin),aI]),(Iv p1),(Pv bcp0 0),(Pv bcp1 0)] w (Ret fun v w'=>∃(nU:Value) (lY:List Value) (nV:Value) (lV:Value),v= .tuple #[]∧fC ρ (r.nodes:List Node) lY∧Hp Z ρ (Pt bcp0 (.cells #[nU,nV,lV] 75 (0,0))::oQ 24 nU (r.nodes:(List Node)) lY::aG 3 nV r.sizes::aG 3 lV r.parent::Pt bcp1 (.cells #[(.func (.func 63) #[] #[(Pv bcp0 0),(Pv bcp1 0)])] 110 (0,0))::L) w')) {Z:World} {ρ:PH} {L:List bI} {w:World} (p0:Node) (aI:Value) (aZ:aH ρ aI p0.kids) (p1:Int) (bcp0:Nat) (cp0:Nmb) (kK:Value) (iG:List Value) (gY:Value) (dX:Value) (hRcp0_nodes:fC ρ (cp0.nodes:List Node) iG) (bcp1:Nat) (hp:Hp Z ρ (Pt bcp0 (.cells #[kK,gY,dX] 75 (0,0))::oQ 24 kK (cp0.nodes:(List Node)) iG::aG 3 gY cp0.sizes::aG 3 dX cp0.parent::Pt bcp1 (.cells #[(.func (.func 63) #[] #[(Pv bcp0 0),(Pv bcp1 0)])] 110 (0,0))::L) w) (r:Nmb) (hm:tN self p0 p1 cp0=some r):
  Calls Tryz.prog 63 #[(.agg #[(Iv p0.kind),(.string p0.text),(Iv p0.at_),(Iv p0.fin),aI]),(Iv p1),(Pv bcp0 0),(Pv bcp1 0)] w (Ret fun v w'=>∃(nU:Value) (lY:List Value) (nV:Value) (lV:Value),v= .tuple #[]∧fC ρ (r.nodes:List Node) lY∧Hp Z ρ (Pt bcp0 (.cells #[nU,nV,lV] 75 (0,0))::oQ 24 nU (r.nodes:(List Node)) lY::aG 3 nV r.sizes::aG 3 lV r.parent::Pt bcp1 (.cells #[(.func (.func 63) #[] #[(Pv bcp0 0),(Pv bcp1 0)])] 110 (0,0))::L) w'):=by
 refine enter (N:=43) Tryz.func63 rfl rfl [(0,(.agg #[(Iv p0.kind),(.string p0.text),(Iv p0.at_),(Iv p0.fin),aI])),(1,(Iv p1)),(2,(Pv bcp0 0)),(3,(Pv bcp1 0))] rfl (aY ⟨rfl,rfl,rfl,rfl,trivial⟩) fun a hE=>?_
 unfold tN at hm
 refine aF (aA ?_)
 refine iV (wk0 rfl) rfl rfl hE hp rfl (v:=(.agg #[(Iv p0.kind),(.string p0.text),(Iv p0.at_),(Iv p0.fin),aI])) rfl ?_
 intro a w b1 hE hp
 have hp:=r6 hp
 refine aB (aF ?_)
 refine aA (V hE hp rfl (xf hE jR rfl rfl) fun a hE=>?_)
 refine V hE hp rfl (xl hE iE 1 rfl rfl rfl rfl) fun a hE=>V hE hp rfl (dB rfl hE rfl (oQ.len hp 2 rfl gI)) fun a hE=>S hE 1 rfl fun a hE=>aB (aF ?_)
 obtain⟨x1,ex1,hm⟩:=bnd hm
 obtain⟨x2,ex2,hm⟩:=bnd hm
 obtain⟨x3,ex3,hm⟩:=bnd hm
 obtain⟨x4,ex4,hm⟩:=bnd hm
 have hp:=hp.drew
 refine fO ([([],At0 Z ρ),([],At1 Z ρ (Pt b1 (.cells #[(Iv p0.kind),(.string p0.text),(Iv p0.at_),(Iv p0.fin),aI] 24 (0,0)))),([17,19,21],At1 Z ρ (Pt bcp0 (.cells #[kK,gY,dX] 75 (0,0))))]:Facts) (fun a w=>∃y12:Nat,∃y11:Nat,∃y10:Nat,∃y3:Value,∃y4:Value,∃y2:Value,∃yxs2:List Value,fC ρ (x1:(List Node)) yxs2∧Env 43 [(3,(Pv bcp1 0)),(4,(Pv b1 0)),(6,(Iv (cp0.nodes.length:Int)))] a∧Hp Z ρ (Pt y12 (.cells #[(Iv p1)] 3 (0,0))::Pt y11 (.cells #[(Iv x2)] 3 (0,0))::Pt y10 (.cells #[(Iv p0.kind),(.string p0.text),(Iv p0.at_),(Iv p0.fin),aI] 24 (0,0))::Pt b1 (.cells #[(Iv p0.kind),(.string p0.text),(Iv p0.at_),(Iv p0.fin),aI] 24 (0,0))::Pt bcp0 (.cells #[y2,y3,y4] 75 (0,0))::oQ 24 y2 (x1:(List Node)) yxs2::aG 3 y3 x3::aG 3 y4 x4::Pt bcp1 (.cells #[(.func (.func 63) #[] #[(Pv bcp0 0),(Pv bcp1 0)])] 110 (0,0))::L) w) (by kernel_rfl) ⟨fun _=>⟨_,hp⟩,fun _=>⟨_,(hp.get 0 rfl)⟩,fun _=>⟨_,(hp.get 1 rfl)⟩,trivial⟩ (fun hS=>?_) ?_
 ·
  generalize w.drew=w at hS hp⊢
  refine T0 0 hE hS rfl rfl rfl (by kernel_rfl) (fun _=>xf hE jR rfl rfl) fun a hE hS=>T 1 2 hE hS rfl rfl rfl (by kernel_rfl) (fun _=>xl hE iE 0 rfl rfl rfl rfl) fun a hE hS=>T 2 1 hE hS rfl rfl rfl (by kernel_rfl) (fun _=>aJ rfl hE rfl (fun w hw=>aW (cs:=[(Iv p0.kind),(.string p0.text),(Iv p0.at_),(Iv p0.fin),aI]) bV (Hp.cN 0 rfl 0 _ (aS rfl) w hw))) fun a hE hS=>T0 5 hE hS rfl rfl rfl (by kernel_rfl) (fun _=>xf hE tC rfl rfl) fun a hE hS=>T 6 2 hE hS rfl rfl rfl (by kernel_rfl) (fun _=>xl hE aV 0 rfl rfl rfl rfl) fun a hE hS=>T 7 1 hE hS rfl rfl rfl (by kernel_rfl) (fun _=>aJ rfl hE rfl (fun w hw=>aW (cs:=[(Iv p0.kind),(.string p0.text),(Iv p0.at_),(Iv p0.fin),aI]) bV (Hp.cN 0 rfl 0 _ (aS rfl) w hw))) fun a hE hS=>T0 11 hE hS rfl rfl rfl (by kernel_rfl) (fun _=>xf hE nY rfl rfl) fun a hE hS=>T 12 2 hE hS rfl rfl rfl (by kernel_rfl) (fun _=>xl hE aV 0 rfl rfl rfl rfl) fun a hE hS=>Ts [13] hE hS rfl rfl (by kernel_rfl) fun a hE hS=>?_
  refine fQ [3,14] (by kernel_rfl) rfl ?_
  refine List.forall_mem_cons.2 ⟨?_,List.forall_mem_cons.2 ⟨?_,fun _ h=>absurd h (by simp)⟩⟩
  ·
   refine dQ rfl ?_
   refine fE (wk0 rfl) rfl rfl hE hp rfl [(0,(.agg #[(Iv p0.kind),(.string p0.text),(Iv p0.at_),(Iv p0.fin),aI]))] ⟨⟨rfl,rfl⟩,trivial⟩ [(Iv p0.kind),(.string p0.text),(Iv p0.at_),(Iv p0.fin),aI] 24 (fun w=>by have hc0:=aH.cells aZ;simp only[Value.cells] at hc0;simp[Instr.buildSlice,Instr.fill,Value.cells,hc0,go_sem]) ?_
   intro a w b5 hE hp
   have hp:=r7 hp
   refine aB (aC ⟨gp0 hp,gp 1 hp rfl,gp 2 hp rfl,trivial⟩ fun hS=>?_)
   refine fQ [4,14] (by kernel_rfl) rfl ?_
   refine List.forall_mem_cons.2 ⟨?_,List.forall_mem_cons.2 ⟨?_,fun _ h=>absurd h (by simp)⟩⟩
   ·
    refine dQ rfl ?_
    have hR4:fC ρ ([p0]:List Node) [(Iv p0.kind),(.string p0.text),(Iv p0.at_),(Iv p0.fin),aI]:=⟨_,_,rfl,(show NodeAt ρ p0 [(Iv p0.kind),(.string p0.text),(Iv p0.at_),(Iv p0.fin),aI] from NodeAt.shutv (aZ)),rfl⟩
    have hR3:fC ρ x1 (iG++[(Iv p0.kind),(.string p0.text),(Iv p0.at_),(Iv p0.fin),aI]):=(G9 ex1).2▸fC.app hRcp0_nodes hR4
    refine s_appR (wk0 rfl) rfl rfl hE hp rfl gI rfl rfl 3 rfl rfl (l2:=[p0]) (ys:=[(Iv p0.kind),(.string p0.text),(Iv p0.at_),(Iv p0.fin),aI]) rfl hR4 (fun j u hj=>by have:=Hp.cN 0 rfl 0 _ (aS rfl) w hp j u hj;simpa using this) ex1 ?_
    intro v4 a w hE hp
    have hp:=r7 hp
    refine aB (aC ⟨gp0 hp,gp 1 hp rfl,gp 2 hp rfl,trivial⟩ fun hS=>?_)
    refine T0 16 hE hS rfl rfl rfl (by kernel_rfl) (fun _=>xf hE jR rfl rfl) fun a hE hS=>?_
    refine fQ [8,14] (by kernel_rfl) rfl ?_
    refine List.forall_mem_cons.2 ⟨?_,List.forall_mem_cons.2 ⟨?_,fun _ h=>absurd h (by simp)⟩⟩
    ·
     refine dQ rfl ?_
     refine Cl hE rfl rfl ent64 (aC6 p0 aI aZ hp x2 ex2) ⟨rfl,trivial⟩ fun v a w hR hE=>?_
     obtain⟨rfl,hp⟩:=hR
     have hp:=r7 hp
     refine aB (aC ⟨gp0 hp,gp 1 hp rfl,gp 2 hp rfl,trivial⟩ fun hS=>?_)
     refine fQ [9,14] (by kernel_rfl) rfl ?_
     refine List.forall_mem_cons.2 ⟨?_,List.forall_mem_cons.2 ⟨?_,fun _ h=>absurd h (by simp)⟩⟩
     ·
      refine dQ rfl ?_
      refine fE (wk0 rfl) rfl rfl hE hp rfl [(0,(Iv x2))] ⟨⟨rfl,rfl⟩,trivial⟩ [(Iv x2)] 3 (fun w=>by simp[Instr.buildSlice,Instr.fill,Value.cells,go_sem]) ?_
      intro a w b6 hE hp
      have hp:=r8 hp
      refine aB (aC ⟨gp0 hp,gp 2 hp rfl,gp 3 hp rfl,trivial⟩ fun hS=>?_)
      refine fQ [10,14] (by kernel_rfl) rfl ?_
      refine List.forall_mem_cons.2 ⟨?_,List.forall_mem_cons.2 ⟨?_,fun _ h=>absurd h (by simp)⟩⟩
      ·
       refine dQ rfl ?_
       refine fM (wk0 rfl) rfl rfl hE hp rfl bH rfl rfl 5 rfl rfl (l2:=[x2]) rfl (fun j u hj=>by have:=Hp.cN 0 rfl 0 _ (aS rfl) w hp j u hj;simpa using this) ex3 ?_
       intro v5 a w hE hp
       have hp:=r8 hp
       refine aB (aC ⟨gp0 hp,gp 2 hp rfl,gp 3 hp rfl,trivial⟩ fun hS=>?_)
       refine W1 14 (by kernel_rfl) rfl ?_
       refine fE (wk0 rfl) rfl rfl hE hp rfl [(0,(Iv p1))] ⟨⟨rfl,rfl⟩,trivial⟩ [(Iv p1)] 3 (fun w=>by simp[Instr.buildSlice,Instr.fill,Value.cells,go_sem]) ?_
       intro a w b7 hE hp
       have hp:=r9 hp
       refine aB (aC ⟨gp0 hp,gp 3 hp rfl,gp 4 hp rfl,trivial⟩ fun hS=>?_)
       refine W1 15 (by kernel_rfl) rfl ?_
       refine fM (wk0 rfl) rfl rfl hE hp rfl bH rfl rfl 7 rfl rfl (l2:=[p1]) rfl (fun j u hj=>by have:=Hp.cN 0 rfl 0 _ (aS rfl) w hp j u hj;simpa using this) ex4 ?_
       intro v6 a w hE hp
       have hp:=r9 hp
       refine aB (aC ⟨gp0 hp,gp 3 hp rfl,gp 4 hp rfl,trivial⟩ fun hS=>?_)
       refine W1 17 (by kernel_rfl) rfl ?_
       refine bM (wk0 rfl) rfl hE hp rfl rfl rfl 4 rfl iE.size_ (oQ.cells hp 5 rfl) (oQ.one hp 5 rfl) rfl [v4,gY,dX] rfl ?_
       intro w hp
       have hp:=r9 hp
       refine aB (aC ⟨gp0 hp,gp 3 hp rfl,dead (by kernel_rfl),trivial⟩ fun hS=>?_)
       refine T0 18 hE hS rfl rfl rfl (by kernel_rfl) (fun _=>xf hE tC rfl rfl) fun a hE hS=>?_
       refine W1 19 (by kernel_rfl) rfl ?_
       refine bM (wk0 rfl) rfl hE hp rfl rfl rfl 4 rfl aV.size_ (aG.cells hp 6 rfl) (aG.one hp 6 rfl) rfl [v4,v5,dX] rfl ?_
       intro w hp
       have hp:=r9 hp
       refine aB (aC ⟨gp0 hp,gp 3 hp rfl,dead (by kernel_rfl),trivial⟩ fun hS=>?_)
       refine T0 20 hE hS rfl rfl rfl (by kernel_rfl) (fun _=>xf hE nY rfl rfl) fun a hE hS=>?_
       refine W1 21 (by kernel_rfl) rfl ?_
       refine bM (wk0 rfl) rfl hE hp rfl rfl rfl 4 rfl aV.size_ (aG.cells hp 7 rfl) (aG.one hp 7 rfl) rfl [v4,v5,v6] rfl ?_
       intro w hp
       have hp:=r9 hp
       refine aB (aC ⟨gp0 hp,gp 3 hp rfl,dead (by kernel_rfl),trivial⟩ fun hS=>?_)
       exact bP (by kernel_rfl) ⟨_,_,_,_,_,_,_,hR3,hE.cut ⟨rfl,rfl,rfl,trivial⟩,hp⟩
      refine dQ rfl ?_
      refine fE (wk0 rfl) rfl rfl hE hp rfl [(0,(Iv p1))] ⟨⟨rfl,rfl⟩,trivial⟩ [(Iv p1)] 3 (fun w=>by simp[Instr.buildSlice,Instr.fill,Value.cells,go_sem]) ?_
      intro a w b8 hE hp
      have hp:=r9 hp
      refine aB (aC ⟨gp0 hp,gp 3 hp rfl,gp 4 hp rfl,trivial⟩ fun hS=>?_)
      refine W1 10 (by kernel_rfl) rfl ?_
      refine fM (wk0 rfl) rfl rfl hE hp rfl bH rfl rfl 6 rfl rfl (l2:=[x2]) rfl (fun j u hj=>by have:=Hp.cN 1 rfl 0 _ (aS rfl) w hp j u hj;simpa using this) ex3 ?_
      intro v7 a w hE hp
      have hp:=r9 hp
      refine aB (aC ⟨gp0 hp,gp 3 hp rfl,gp 4 hp rfl,trivial⟩ fun hS=>?_)
      refine W1 15 (by kernel_rfl) rfl ?_
      refine fM (wk0 rfl) rfl rfl hE hp rfl bH rfl rfl 7 rfl rfl (l2:=[p1]) rfl (fun j u hj=>by have:=Hp.cN 0 rfl 0 _ (aS rfl) w hp j u hj;simpa using this) ex4 ?_
      intro v8 a w hE hp
      have hp:=r9 hp
      refine aB (aC ⟨gp0 hp,gp 3 hp rfl,gp 4 hp rfl,trivial⟩ fun hS=>?_)
      refine W1 17 (by kernel_rfl) rfl ?_
      refine bM (wk0 rfl) rfl hE hp rfl rfl rfl 4 rfl iE.size_ (oQ.cells hp 5 rfl) (oQ.one hp 5 rfl) rfl [v4,gY,dX] rfl ?_
      intro w hp
      have hp:=r9 hp
      refine aB (aC ⟨gp0 hp,gp 3 hp rfl,dead (by kernel_rfl),trivial⟩ fun hS=>?_)
      refine T0 18 hE hS rfl rfl rfl (by kernel_rfl) (fun _=>xf hE tC rfl rfl) fun a hE hS=>?_
      refine W1 19 (by kernel_rfl) rfl ?_
      refine bM (wk0 rfl) rfl hE hp rfl rfl rfl 4 rfl aV.size_ (aG.cells hp 6 rfl) (aG.one hp 6 rfl) rfl [v4,v7,dX] rfl ?_
      intro w hp
      have hp:=r9 hp
      refine aB (aC ⟨gp0 hp,gp 3 hp rfl,dead (by kernel_rfl),trivial⟩ fun hS=>?_)
      refine T0 20 hE hS rfl rfl rfl (by kernel_rfl) (fun _=>xf hE nY rfl rfl) fun a hE hS=>?_
      refine W1 21 (by kernel_rfl) rfl ?_
      refine bM (wk0 rfl) rfl hE hp rfl rfl rfl 4 rfl aV.size_ (aG.cells hp 7 rfl) (aG.one hp 7 rfl) rfl [v4,v7,v8] rfl ?_
      intro w hp
      have hp:=r9 hp
      refine aB (aC ⟨gp0 hp,gp 3 hp rfl,dead (by kernel_rfl),trivial⟩ fun hS=>?_)
      exact bP (by kernel_rfl) ⟨_,_,_,_,_,_,_,hR3,hE.cut ⟨rfl,rfl,rfl,trivial⟩,hp⟩
     refine dQ rfl ?_
     refine fE (wk0 rfl) rfl rfl hE hp rfl [(0,(Iv p1))] ⟨⟨rfl,rfl⟩,trivial⟩ [(Iv p1)] 3 (fun w=>by simp[Instr.buildSlice,Instr.fill,Value.cells,go_sem]) ?_
     intro a w b9 hE hp
     have hp:=r8 hp
     refine aB (aC ⟨gp0 hp,gp 2 hp rfl,gp 3 hp rfl,trivial⟩ fun hS=>?_)
     refine W1 9 (by kernel_rfl) rfl ?_
     refine fE (wk0 rfl) rfl rfl hE hp rfl [(0,(Iv x2))] ⟨⟨rfl,rfl⟩,trivial⟩ [(Iv x2)] 3 (fun w=>by simp[Instr.buildSlice,Instr.fill,Value.cells,go_sem]) ?_
     intro a w b10 hE hp
     have hp:=r9 hp
     refine aB (aC ⟨gp0 hp,gp 3 hp rfl,gp 4 hp rfl,trivial⟩ fun hS=>?_)
     refine W1 10 (by kernel_rfl) rfl ?_
     refine fM (wk0 rfl) rfl rfl hE hp rfl bH rfl rfl 6 rfl rfl (l2:=[x2]) rfl (fun j u hj=>by have:=Hp.cN 0 rfl 0 _ (aS rfl) w hp j u hj;simpa using this) ex3 ?_
     intro v9 a w hE hp
     have hp:=r9 hp
     refine aB (aC ⟨gp0 hp,gp 3 hp rfl,gp 4 hp rfl,trivial⟩ fun hS=>?_)
     refine W1 15 (by kernel_rfl) rfl ?_
     refine fM (wk0 rfl) rfl rfl hE hp rfl bH rfl rfl 7 rfl rfl (l2:=[p1]) rfl (fun j u hj=>by have:=Hp.cN 1 rfl 0 _ (aS rfl) w hp j u hj;simpa using this) ex4 ?_
     intro v10 a w hE hp
     have hp:=r9 hp
     refine aB (aC ⟨gp0 hp,gp 3 hp rfl,gp 4 hp rfl,trivial⟩ fun hS=>?_)
     refine W1 17 (by kernel_rfl) rfl ?_
     refine bM (wk0 rfl) rfl hE hp rfl rfl rfl 4 rfl iE.size_ (oQ.cells hp 5 rfl) (oQ.one hp 5 rfl) rfl [v4,gY,dX] rfl ?_
     intro w hp
     have hp:=r9 hp
     refine aB (aC ⟨gp0 hp,gp 3 hp rfl,dead (by kernel_rfl),trivial⟩ fun hS=>?_)
     refine T0 18 hE hS rfl rfl rfl (by kernel_rfl) (fun _=>xf hE tC rfl rfl) fun a hE hS=>?_
     refine W1 19 (by kernel_rfl) rfl ?_
     refine bM (wk0 rfl) rfl hE hp rfl rfl rfl 4 rfl aV.size_ (aG.cells hp 6 rfl) (aG.one hp 6 rfl) rfl [v4,v9,dX] rfl ?_
     intro w hp
     have hp:=r9 hp
     refine aB (aC ⟨gp0 hp,gp 3 hp rfl,dead (by kernel_rfl),trivial⟩ fun hS=>?_)
     refine T0 20 hE hS rfl rfl rfl (by kernel_rfl) (fun _=>xf hE nY rfl rfl) fun a hE hS=>?_
     refine W1 21 (by kernel_rfl) rfl ?_
     refine bM (wk0 rfl) rfl hE hp rfl rfl rfl 4 rfl aV.size_ (aG.cells hp 7 rfl) (aG.one hp 7 rfl) rfl [v4,v9,v10] rfl ?_
     intro w hp
     have hp:=r9 hp
     refine aB (aC ⟨gp0 hp,gp 3 hp rfl,dead (by kernel_rfl),trivial⟩ fun hS=>?_)
     exact bP (by kernel_rfl) ⟨_,_,_,_,_,_,_,hR3,hE.cut ⟨rfl,rfl,rfl,trivial⟩,(((((((((hp.get 8 rfl).get 8 rfl).get 8 rfl).get 8 rfl).get 8 rfl).get 8 rfl).get 8 rfl).get 7 rfl).get 8 rfl)⟩
    refine dQ rfl ?_
    refine fE (wk0 rfl) rfl rfl hE hp rfl [(0,(Iv p1))] ⟨⟨rfl,rfl⟩,trivial⟩ [(Iv p1)] 3 (fun w=>by simp[Instr.buildSlice,Instr.fill,Value.cells,go_sem]) ?_
    intro a w b11 hE hp
    have hp:=r8 hp
    refine aB (aC ⟨gp0 hp,gp 2 hp rfl,gp 3 hp rfl,trivial⟩ fun hS=>?_)
    refine W1 8 (by kernel_rfl) rfl ?_
    refine Cl hE rfl rfl ent64 (aC6 p0 aI aZ hp x2 ex2) ⟨rfl,trivial⟩ fun v a w hR hE=>?_
    obtain⟨rfl,hp⟩:=hR
    have hp:=r8 hp
    refine aB (aC ⟨gp0 hp,gp 2 hp rfl,gp 3 hp rfl,trivial⟩ fun hS=>?_)
    refine W1 9 (by kernel_rfl) rfl ?_
    refine fE (wk0 rfl) rfl rfl hE hp rfl [(0,(Iv x2))] ⟨⟨rfl,rfl⟩,trivial⟩ [(Iv x2)] 3 (fun w=>by simp[Instr.buildSlice,Instr.fill,Value.cells,go_sem]) ?_
    intro a w b12 hE hp
    have hp:=r9 hp
    refine aB (aC ⟨gp0 hp,gp 3 hp rfl,gp 4 hp rfl,trivial⟩ fun hS=>?_)
    refine W1 10 (by kernel_rfl) rfl ?_
    refine fM (wk0 rfl) rfl rfl hE hp rfl bH rfl rfl 6 rfl rfl (l2:=[x2]) rfl (fun j u hj=>by have:=Hp.cN 0 rfl 0 _ (aS rfl) w hp j u hj;simpa using this) ex3 ?_
    intro v11 a w hE hp
    have hp:=r9 hp
    refine aB (aC ⟨gp0 hp,gp 3 hp rfl,gp 4 hp rfl,trivial⟩ fun hS=>?_)
    refine W1 15 (by kernel_rfl) rfl ?_
    refine fM (wk0 rfl) rfl rfl hE hp rfl bH rfl rfl 7 rfl rfl (l2:=[p1]) rfl (fun j u hj=>by have:=Hp.cN 1 rfl 0 _ (aS rfl) w hp j u hj;simpa using this) ex4 ?_
    intro v12 a w hE hp
    have hp:=r9 hp
    refine aB (aC ⟨gp0 hp,gp 3 hp rfl,gp 4 hp rfl,trivial⟩ fun hS=>?_)
    refine W1 17 (by kernel_rfl) rfl ?_
    refine bM (wk0 rfl) rfl hE hp rfl rfl rfl 4 rfl iE.size_ (oQ.cells hp 5 rfl) (oQ.one hp 5 rfl) rfl [v4,gY,dX] rfl ?_
    intro w hp
    have hp:=r9 hp
    refine aB (aC ⟨gp0 hp,gp 3 hp rfl,dead (by kernel_rfl),trivial⟩ fun hS=>?_)
    refine T0 18 hE hS rfl rfl rfl (by kernel_rfl) (fun _=>xf hE tC rfl rfl) fun a hE hS=>?_
    refine W1 19 (by kernel_rfl) rfl ?_
    refine bM (wk0 rfl) rfl hE hp rfl rfl rfl 4 rfl aV.size_ (aG.cells hp 6 rfl) (aG.one hp 6 rfl) rfl [v4,v11,dX] rfl ?_
    intro w hp
    have hp:=r9 hp
    refine aB (aC ⟨gp0 hp,gp 3 hp rfl,dead (by kernel_rfl),trivial⟩ fun hS=>?_)
    refine T0 20 hE hS rfl rfl rfl (by kernel_rfl) (fun _=>xf hE nY rfl rfl) fun a hE hS=>?_
    refine W1 21 (by kernel_rfl) rfl ?_
    refine bM (wk0 rfl) rfl hE hp rfl rfl rfl 4 rfl aV.size_ (aG.cells hp 7 rfl) (aG.one hp 7 rfl) rfl [v4,v11,v12] rfl ?_
    intro w hp
    have hp:=r9 hp
    refine aB (aC ⟨gp0 hp,gp 3 hp rfl,dead (by kernel_rfl),trivial⟩ fun hS=>?_)
    exact bP (by kernel_rfl) ⟨_,_,_,_,_,_,_,hR3,hE.cut ⟨rfl,rfl,rfl,trivial⟩,(((((((((hp.get 8 rfl).get 8 rfl).get 8 rfl).get 8 rfl).get 8 rfl).get 8 rfl).get 8 rfl).get 7 rfl).get 8 rfl)⟩
   refine dQ rfl ?_
   refine fE (wk0 rfl) rfl rfl hE hp rfl [(0,(Iv p1))] ⟨⟨rfl,rfl⟩,trivial⟩ [(Iv p1)] 3 (fun w=>by simp[Instr.buildSlice,Instr.fill,Value.cells,go_sem]) ?_
   intro a w b13 hE hp
   have hp:=r8 hp
   refine aB (aC ⟨gp0 hp,gp 2 hp rfl,gp 3 hp rfl,trivial⟩ fun hS=>?_)
   refine W1 4 (by kernel_rfl) rfl ?_
   have hR6:fC ρ ([p0]:List Node) [(Iv p0.kind),(.string p0.text),(Iv p0.at_),(Iv p0.fin),aI]:=⟨_,_,rfl,(show NodeAt ρ p0 [(Iv p0.kind),(.string p0.text),(Iv p0.at_),(Iv p0.fin),aI] from NodeAt.shutv (aZ)),rfl⟩
   have hR5:fC ρ x1 (iG++[(Iv p0.kind),(.string p0.text),(Iv p0.at_),(Iv p0.fin),aI]):=(G9 ex1).2▸fC.app hRcp0_nodes hR6
   refine s_appR (wk0 rfl) rfl rfl hE hp rfl gI rfl rfl 4 rfl rfl (l2:=[p0]) (ys:=[(Iv p0.kind),(.string p0.text),(Iv p0.at_),(Iv p0.fin),aI]) rfl hR6 (fun j u hj=>by have:=Hp.cN 1 rfl 0 _ (aS rfl) w hp j u hj;simpa using this) ex1 ?_
   intro v13 a w hE hp
   have hp:=r8 hp
   refine aB (aC ⟨gp0 hp,gp 2 hp rfl,gp 3 hp rfl,trivial⟩ fun hS=>?_)
   refine T0 16 hE hS rfl rfl rfl (by kernel_rfl) (fun _=>xf hE jR rfl rfl) fun a hE hS=>?_
   refine W1 8 (by kernel_rfl) rfl ?_
   refine Cl hE rfl rfl ent64 (aC6 p0 aI aZ hp x2 ex2) ⟨rfl,trivial⟩ fun v a w hR hE=>?_
   obtain⟨rfl,hp⟩:=hR
   have hp:=r8 hp
   refine aB (aC ⟨gp0 hp,gp 2 hp rfl,gp 3 hp rfl,trivial⟩ fun hS=>?_)
   refine W1 9 (by kernel_rfl) rfl ?_
   refine fE (wk0 rfl) rfl rfl hE hp rfl [(0,(Iv x2))] ⟨⟨rfl,rfl⟩,trivial⟩ [(Iv x2)] 3 (fun w=>by simp[Instr.buildSlice,Instr.fill,Value.cells,go_sem]) ?_
   intro a w b14 hE hp
   have hp:=r9 hp
   refine aB (aC ⟨gp0 hp,gp 3 hp rfl,gp 4 hp rfl,trivial⟩ fun hS=>?_)
   refine W1 10 (by kernel_rfl) rfl ?_
   refine fM (wk0 rfl) rfl rfl hE hp rfl bH rfl rfl 6 rfl rfl (l2:=[x2]) rfl (fun j u hj=>by have:=Hp.cN 0 rfl 0 _ (aS rfl) w hp j u hj;simpa using this) ex3 ?_
   intro v14 a w hE hp
   have hp:=r9 hp
   refine aB (aC ⟨gp0 hp,gp 3 hp rfl,gp 4 hp rfl,trivial⟩ fun hS=>?_)
   refine W1 15 (by kernel_rfl) rfl ?_
   refine fM (wk0 rfl) rfl rfl hE hp rfl bH rfl rfl 7 rfl rfl (l2:=[p1]) rfl (fun j u hj=>by have:=Hp.cN 1 rfl 0 _ (aS rfl) w hp j u hj;simpa using this) ex4 ?_
   intro v15 a w hE hp
   have hp:=r9 hp
   refine aB (aC ⟨gp0 hp,gp 3 hp rfl,gp 4 hp rfl,trivial⟩ fun hS=>?_)
   refine W1 17 (by kernel_rfl) rfl ?_
   refine bM (wk0 rfl) rfl hE hp rfl rfl rfl 4 rfl iE.size_ (oQ.cells hp 5 rfl) (oQ.one hp 5 rfl) rfl [v13,gY,dX] rfl ?_
   intro w hp
   have hp:=r9 hp
   refine aB (aC ⟨gp0 hp,gp 3 hp rfl,dead (by kernel_rfl),trivial⟩ fun hS=>?_)
   refine T0 18 hE hS rfl rfl rfl (by kernel_rfl) (fun _=>xf hE tC rfl rfl) fun a hE hS=>?_
   refine W1 19 (by kernel_rfl) rfl ?_
   refine bM (wk0 rfl) rfl hE hp rfl rfl rfl 4 rfl aV.size_ (aG.cells hp 6 rfl) (aG.one hp 6 rfl) rfl [v13,v14,dX] rfl ?_
   intro w hp
   have hp:=r9 hp
   refine aB (aC ⟨gp0 hp,gp 3 hp rfl,dead (by kernel_rfl),trivial⟩ fun hS=>?_)
   refine T0 20 hE hS rfl rfl rfl (by kernel_rfl) (fun _=>xf hE nY rfl rfl) fun a hE hS=>?_
   refine W1 21 (by kernel_rfl) rfl ?_
   refine bM (wk0 rfl) rfl hE hp rfl rfl rfl 4 rfl aV.size_ (aG.cells hp 7 rfl) (aG.one hp 7 rfl) rfl [v13,v14,v15] rfl ?_
   intro w hp
   have hp:=r9 hp
   refine aB (aC ⟨gp0 hp,gp 3 hp rfl,dead (by kernel_rfl),trivial⟩ fun hS=>?_)
   exact bP (by kernel_rfl) ⟨_,_,_,_,_,_,_,hR5,hE.cut ⟨rfl,rfl,rfl,trivial⟩,(((((((((hp.get 8 rfl).get 8 rfl).get 8 rfl).get 8 rfl).get 8 rfl).get 8 rfl).get 8 rfl).get 7 rfl).get 8 rfl)⟩
  refine dQ rfl ?_
  refine fE (wk0 rfl) rfl rfl hE hp rfl [(0,(Iv p1))] ⟨⟨rfl,rfl⟩,trivial⟩ [(Iv p1)] 3 (fun w=>by simp[Instr.buildSlice,Instr.fill,Value.cells,go_sem]) ?_
  intro a w b15 hE hp
  have hp:=r7 hp
  refine aB (aC ⟨gp0 hp,gp 1 hp rfl,gp 2 hp rfl,trivial⟩ fun hS=>?_)
  refine W1 3 (by kernel_rfl) rfl ?_
  refine fE (wk0 rfl) rfl rfl hE hp rfl [(0,(.agg #[(Iv p0.kind),(.string p0.text),(Iv p0.at_),(Iv p0.fin),aI]))] ⟨⟨rfl,rfl⟩,trivial⟩ [(Iv p0.kind),(.string p0.text),(Iv p0.at_),(Iv p0.fin),aI] 24 (fun w=>by have hc0:=aH.cells aZ;simp only[Value.cells] at hc0;simp[Instr.buildSlice,Instr.fill,Value.cells,hc0,go_sem]) ?_
  intro a w b16 hE hp
  have hp:=r8 hp
  refine aB (aC ⟨gp0 hp,gp 2 hp rfl,gp 3 hp rfl,trivial⟩ fun hS=>?_)
  refine W1 4 (by kernel_rfl) rfl ?_
  have hR8:fC ρ ([p0]:List Node) [(Iv p0.kind),(.string p0.text),(Iv p0.at_),(Iv p0.fin),aI]:=⟨_,_,rfl,(show NodeAt ρ p0 [(Iv p0.kind),(.string p0.text),(Iv p0.at_),(Iv p0.fin),aI] from NodeAt.shutv (aZ)),rfl⟩
  have hR7:fC ρ x1 (iG++[(Iv p0.kind),(.string p0.text),(Iv p0.at_),(Iv p0.fin),aI]):=(G9 ex1).2▸fC.app hRcp0_nodes hR8
  refine s_appR (wk0 rfl) rfl rfl hE hp rfl gI rfl rfl 4 rfl rfl (l2:=[p0]) (ys:=[(Iv p0.kind),(.string p0.text),(Iv p0.at_),(Iv p0.fin),aI]) rfl hR8 (fun j u hj=>by have:=Hp.cN 0 rfl 0 _ (aS rfl) w hp j u hj;simpa using this) ex1 ?_
  intro v16 a w hE hp
  have hp:=r8 hp
  refine aB (aC ⟨gp0 hp,gp 2 hp rfl,gp 3 hp rfl,trivial⟩ fun hS=>?_)
  refine T0 16 hE hS rfl rfl rfl (by kernel_rfl) (fun _=>xf hE jR rfl rfl) fun a hE hS=>?_
  refine W1 8 (by kernel_rfl) rfl ?_
  refine Cl hE rfl rfl ent64 (aC6 p0 aI aZ hp x2 ex2) ⟨rfl,trivial⟩ fun v a w hR hE=>?_
  obtain⟨rfl,hp⟩:=hR
  have hp:=r8 hp
  refine aB (aC ⟨gp0 hp,gp 2 hp rfl,gp 3 hp rfl,trivial⟩ fun hS=>?_)
  refine W1 9 (by kernel_rfl) rfl ?_
  refine fE (wk0 rfl) rfl rfl hE hp rfl [(0,(Iv x2))] ⟨⟨rfl,rfl⟩,trivial⟩ [(Iv x2)] 3 (fun w=>by simp[Instr.buildSlice,Instr.fill,Value.cells,go_sem]) ?_
  intro a w b17 hE hp
  have hp:=r9 hp
  refine aB (aC ⟨gp0 hp,gp 3 hp rfl,gp 4 hp rfl,trivial⟩ fun hS=>?_)
  refine W1 10 (by kernel_rfl) rfl ?_
  refine fM (wk0 rfl) rfl rfl hE hp rfl bH rfl rfl 6 rfl rfl (l2:=[x2]) rfl (fun j u hj=>by have:=Hp.cN 0 rfl 0 _ (aS rfl) w hp j u hj;simpa using this) ex3 ?_
  intro v17 a w hE hp
  have hp:=r9 hp
  refine aB (aC ⟨gp0 hp,gp 3 hp rfl,gp 4 hp rfl,trivial⟩ fun hS=>?_)
  refine W1 15 (by kernel_rfl) rfl ?_
  refine fM (wk0 rfl) rfl rfl hE hp rfl bH rfl rfl 7 rfl rfl (l2:=[p1]) rfl (fun j u hj=>by have:=Hp.cN 2 rfl 0 _ (aS rfl) w hp j u hj;simpa using this) ex4 ?_
  intro v18 a w hE hp
  have hp:=r9 hp
  refine aB (aC ⟨gp0 hp,gp 3 hp rfl,gp 4 hp rfl,trivial⟩ fun hS=>?_)
  refine W1 17 (by kernel_rfl) rfl ?_
  refine bM (wk0 rfl) rfl hE hp rfl rfl rfl 4 rfl iE.size_ (oQ.cells hp 5 rfl) (oQ.one hp 5 rfl) rfl [v16,gY,dX] rfl ?_
  intro w hp
  have hp:=r9 hp
  refine aB (aC ⟨gp0 hp,gp 3 hp rfl,dead (by kernel_rfl),trivial⟩ fun hS=>?_)
  refine T0 18 hE hS rfl rfl rfl (by kernel_rfl) (fun _=>xf hE tC rfl rfl) fun a hE hS=>?_
  refine W1 19 (by kernel_rfl) rfl ?_
  refine bM (wk0 rfl) rfl hE hp rfl rfl rfl 4 rfl aV.size_ (aG.cells hp 6 rfl) (aG.one hp 6 rfl) rfl [v16,v17,dX] rfl ?_
  intro w hp
  have hp:=r9 hp
  refine aB (aC ⟨gp0 hp,gp 3 hp rfl,dead (by kernel_rfl),trivial⟩ fun hS=>?_)
  refine T0 20 hE hS rfl rfl rfl (by kernel_rfl) (fun _=>xf hE nY rfl rfl) fun a hE hS=>?_
  refine W1 21 (by kernel_rfl) rfl ?_
  refine bM (wk0 rfl) rfl hE hp rfl rfl rfl 4 rfl aV.size_ (aG.cells hp 7 rfl) (aG.one hp 7 rfl) rfl [v16,v17,v18] rfl ?_
  intro w hp
  have hp:=r9 hp
  refine aB (aC ⟨gp0 hp,gp 3 hp rfl,dead (by kernel_rfl),trivial⟩ fun hS=>?_)
  exact bP (by kernel_rfl) ⟨_,_,_,_,_,_,_,hR7,hE.cut ⟨rfl,rfl,rfl,trivial⟩,(((((((((hp.get 8 rfl).get 8 rfl).get 8 rfl).get 8 rfl).get 8 rfl).get 8 rfl).get 7 rfl).get 7 rfl).get 8 rfl)⟩
 rintro a w ⟨y12,y11,y10,y3,y4,y2,yxs2,yhR2,hE,hp⟩
 refine aF (aA ?_)
 refine V hE hp rfl (xf hE qE rfl rfl) fun a hE=>V hE hp rfl (xl hE iE 3 rfl rfl rfl rfl) fun a hE=>V hE hp rfl (dB rfl hE rfl (aH.len aZ gI)) fun a hE=>S hE 1 rfl fun a hE=>aB ?_
 obtain⟨b18,hc1,hm⟩:=bnd hm
 refine dJ (fun a w=>∃(w2:Value) (xs2:List Value) (w3:Value) (w4:Value),fC ρ (b18.1:(List Node)) xs2∧Env 43 [] a∧Hp Z ρ (Pt y12 (.cells #[(Iv p1)] 3 (0,0))::Pt y11 (.cells #[(Iv x2)] 3 (0,0))::Pt y10 (.cells #[(Iv p0.kind),(.string p0.text),(Iv p0.at_),(Iv p0.fin),aI] 24 (0,0))::Pt b1 (.cells #[(Iv p0.kind),(.string p0.text),(Iv p0.at_),(Iv p0.fin),aI] 24 (0,0))::Pt bcp0 (.cells #[w2,w3,w4] 75 (0,0))::oQ 24 w2 (b18.1:(List Node)) xs2::aG 3 w3 b18.2.1::aG 3 w4 b18.2.2::Pt bcp1 (.cells #[(.func (.func 63) #[] #[(Pv bcp0 0),(Pv bcp1 0)])] 110 (0,0))::L) w) ?_ ?_
 ·refine dY hc1 (fun s a w=>∃(w2:Value) (xs2:List Value) (w3:Value) (w4:Value),fC ρ (s.2.1:(List Node)) xs2∧Env 43 [(3,(Pv bcp1 0)),(6,(Iv (cp0.nodes.length:Int))),(32,aI),(33,(Iv (p0.kids.length:Int))),(34,(Iv s.1))] a∧Hp Z ρ (Pt y12 (.cells #[(Iv p1)] 3 (0,0))::Pt y11 (.cells #[(Iv x2)] 3 (0,0))::Pt y10 (.cells #[(Iv p0.kind),(.string p0.text),(Iv p0.at_),(Iv p0.fin),aI] 24 (0,0))::Pt b1 (.cells #[(Iv p0.kind),(.string p0.text),(Iv p0.at_),(Iv p0.fin),aI] 24 (0,0))::Pt bcp0 (.cells #[w2,w3,w4] 75 (0,0))::oQ 24 w2 (s.2.1:(List Node)) xs2::aG 3 w3 s.2.2.1::aG 3 w4 s.2.2.2::Pt bcp1 (.cells #[(.func (.func 63) #[] #[(Pv bcp0 0),(Pv bcp1 0)])] 110 (0,0))::L) w) ?_ ?_
  ·exact⟨_,_,_,_,yhR2,hE.cut ⟨rfl,rfl,rfl,rfl,rfl,trivial⟩,hp⟩
  rintro⟨aQ,aT,eF,iD⟩ st a w ⟨w2,xs2,w3,w4,hR2w,hE,hp⟩ hl1
  dsimp only at hE hp hR2w hl1
  unfold vK at hl1
  refine aF (aA ?_)
  refine S hE 1 rfl fun a hE=>aB (aF ?_)
  refine dI hE rfl (fun hc2=>?_) (fun hc2=>?_)
  ·replace hl1:=(it hc2).symm.trans hl1
   refine bC (aF ?_)
   refine dN (aF ?_)
   refine aA ?_
   obtain⟨x5,ex5,hl1⟩:=bnd hl1
   obtain⟨b19,b19o,b19c,b19r,b19k,b19f⟩:=aH.at aZ gI ex5
   obtain⟨F6,rfl,hb19_kids⟩:=NodeAt.opens b19k
   have b19f:AtP ρ b19 b19o [(Iv x5.kind),(.string x5.text),(Iv x5.at_),(Iv x5.fin),F6]:=b19f
   refine V hE hp rfl (aO rfl hE rfl rfl b19r) fun a hE=>V hE hp rfl (aJ rfl hE rfl (fun w hw=>aW (cs:=[(Iv x5.kind),(.string x5.text),(Iv x5.at_),(Iv x5.fin),F6]) bV (fun j u hj=>cell_of hw.le (b19f j u hj)))) fun a hE=>?_
   refine dH (wk0 rfl) rfl rfl hE hp rfl [(Iv 0),(.string ByteArray.empty),(Iv 0),(Iv 0),N0] (fun w=>by simp[Instr.alloc,go_sem]<;>rfl) ?_
   intro a w b20 hE hp
   have hp:=r10 hp
   refine aU (wk0 rfl) rfl hE hp rfl rfl rfl 0 rfl bV.size_ rfl (aN ⟨rfl,rfl,rfl,rfl,(aH.one hb19_kids),trivial⟩) [(Iv x5.kind),(.string x5.text),(Iv x5.at_),(Iv x5.fin),F6] rfl ?_
   intro w hp
   have hp:=r10 hp
   refine aB (aA ?_)
   refine V hE hp rfl (xl hE varty110 9 rfl rfl rfl rfl) fun a hE=>V hE hp rfl (aJ rfl hE rfl (fun w hw=>aW (cs:=[(Iv x5.kind),(.string x5.text),(Iv x5.at_),(Iv x5.fin),F6]) bV (Hp.cN 0 rfl 0 _ (aS rfl) w hw))) fun a hE=>S hE 1 rfl fun a hE=>?_
   obtain⟨x6,ex6,hl1⟩:=bnd hl1
   refine oG (wk0 rfl) rfl rfl hE rfl rfl [(.agg #[(Iv x5.kind),(.string x5.text),(Iv x5.at_),(Iv x5.fin),F6]),(Iv (cp0.nodes.length:Int))] ⟨rfl,rfl,trivial⟩ ent63 (hself x5 F6 hb19_kids (cp0.nodes.length:Int) bcp0 (Nmb.mk aT eF iD) w2 xs2 w3 w4 hR2w bcp1 (((((hp.get 9 rfl).get 9 rfl).get 9 rfl).get 9 rfl).get 9 rfl) x6 ex6) Ret.ret ?_
   intro v a w hR hE
   obtain⟨Y3,xsz1_nodes,Y4,O6,rfl,hRz1_nodes,hp⟩:=Ret.of hR
   have hp:=r10 hp
   refine aB ?_
   have hE:=hE.cut (E':=[(3,(Pv bcp1 0)),(6,(Iv (cp0.nodes.length:Int))),(32,aI),(33,(Iv (p0.kids.length:Int))),(34,(Iv aQ))]) ⟨rfl,rfl,rfl,rfl,rfl,trivial⟩
   refine aA ?_
   obtain⟨x7,ex7,hl1⟩:=bnd hl1
   refine V hE hp rfl (bF rfl hE rfl rfl (aK ex7)) fun a hE=>S hE 1 rfl fun a hE=>aB ?_
   exact⟨_,(oj hl1).symm,_,_,_,_,hRz1_nodes,hE.cut ⟨rfl,rfl,rfl,rfl,rfl,trivial⟩,(((((((((((hp.get 4 rfl).get 4 rfl).get 4 rfl).get 4 rfl).get 4 rfl).get 9 rfl).get 9 rfl).get 9 rfl).get 9 rfl).get 9 rfl).drop)⟩
  replace hl1:=(ie hc2).symm.trans hl1
  refine dU ?_
  refine⟨_,(oj hl1).symm,fun hbb=>?_⟩
  subst hbb
  exact⟨_,_,_,_,hR2w,hE.cut trivial,hp⟩
 rintro a w ⟨w2,xs2,w3,w4,hR2w,hE,hp⟩
 obtain rfl:=oj hm
 exact X5 hE rfl ⟨_,rfl,_,_,_,_,rfl,hR2w,(((((((hp.get 3 rfl).drop).get 2 rfl).drop).get 1 rfl).drop).drop)⟩
theorem aE4:∀(n:Nat),∀{Z:World} {ρ:PH} {L:List bI} {w:World} (p0:Node) (aI:Value) (aZ:aH ρ aI p0.kids) (p1:Int) (bcp0:Nat) (cp0:Nmb) (kK:Value) (iG:List Value) (gY:Value) (dX:Value) (hRcp0_nodes:fC ρ (cp0.nodes:List Node) iG) (bcp1:Nat) (hp:Hp Z ρ (Pt bcp0 (.cells #[kK,gY,dX] 75 (0,0))::oQ 24 kK (cp0.nodes:(List Node)) iG::aG 3 gY cp0.sizes::aG 3 dX cp0.parent::Pt bcp1 (.cells #[(.func (.func 63) #[] #[(Pv bcp0 0),(Pv bcp1 0)])] 110 (0,0))::L) w) (r:Nmb) (hm:sN n p0 p1 cp0=some r),Calls Tryz.prog 63 #[(.agg #[(Iv p0.kind),(.string p0.text),(Iv p0.at_),(Iv p0.fin),aI]),(Iv p1),(Pv bcp0 0),(Pv bcp1 0)] w (Ret fun v w'=>∃(nU:Value) (lY:List Value) (nV:Value) (lV:Value),v= .tuple #[]∧fC ρ (r.nodes:List Node) lY∧Hp Z ρ (Pt bcp0 (.cells #[nU,nV,lV] 75 (0,0))::oQ 24 nU (r.nodes:(List Node)) lY::aG 3 nV r.sizes::aG 3 lV r.parent::Pt bcp1 (.cells #[(.func (.func 63) #[] #[(Pv bcp0 0),(Pv bcp1 0)])] 110 (0,0))::L) w'):=by
 intro n
 induction n with
 |zero=>intro Z ρ L w p0 aI aZ p1 bcp0 cp0 kK iG gY dX hRcp0_nodes bcp1 hp r hm;cases hm
 |succ n ih=>intro Z ρ L w p0 aI aZ p1 bcp0 cp0 kK iG gY dX hRcp0_nodes bcp1 hp r hm;exact aA4 (sN n) ih p0 aI aZ p1 bcp0 cp0 kK iG gY dX hRcp0_nodes bcp1 hp r hm
theorem aG7 {Z:World} {ρ:PH} {L:List bI} {w:World} (p0:Node) (aI:Value) (aZ:aH ρ aI p0.kids) (p1:Int) (bcp0:Nat) (cp0:Nmb) (kK:Value) (iG:List Value) (gY:Value) (dX:Value) (hRcp0_nodes:fC ρ (cp0.nodes:List Node) iG) (bcp1:Nat) (hp:Hp Z ρ (Pt bcp0 (.cells #[kK,gY,dX] 75 (0,0))::oQ 24 kK (cp0.nodes:(List Node)) iG::aG 3 gY cp0.sizes::aG 3 dX cp0.parent::Pt bcp1 (.cells #[(.func (.func 63) #[] #[(Pv bcp0 0),(Pv bcp1 0)])] 110 (0,0))::L) w) (r:Nmb) (hm:W9 p0 p1 cp0=some r):
  Calls Tryz.prog 63 #[(.agg #[(Iv p0.kind),(.string p0.text),(Iv p0.at_),(Iv p0.fin),aI]),(Iv p1),(Pv bcp0 0),(Pv bcp1 0)] w (Ret fun v w'=>∃(nU:Value) (lY:List Value) (nV:Value) (lV:Value),v= .tuple #[]∧fC ρ (r.nodes:List Node) lY∧Hp Z ρ (Pt bcp0 (.cells #[nU,nV,lV] 75 (0,0))::oQ 24 nU (r.nodes:(List Node)) lY::aG 3 nV r.sizes::aG 3 lV r.parent::Pt bcp1 (.cells #[(.func (.func 63) #[] #[(Pv bcp0 0),(Pv bcp1 0)])] 110 (0,0))::L) w'):=aE4 _ p0 aI aZ p1 bcp0 cp0 kK iG gY dX hRcp0_nodes bcp1 hp r hm
theorem bD {Z:World} {ρ:PH} {L:List bI} {w:World} (p0:Node) (aI:Value) (aZ:aH ρ aI p0.kids) (hp:Hp Z ρ (L) w) (r:Nmb) (hm:kU p0=some r):
  Calls Tryz.prog 40 #[(.agg #[(Iv p0.kind),(.string p0.text),(Iv p0.at_),(Iv p0.fin),aI])] w (Ret fun v w'=>∃(ρ':PH) (vr1_nodes:Value) (vr1_sizes:Value) (vr1_parent:Value),ρ.le ρ'∧v=(.agg #[vr1_nodes,vr1_sizes,vr1_parent])∧aH ρ' vr1_nodes r.nodes∧aH ρ' vr1_sizes r.sizes∧aH ρ' vr1_parent r.parent∧Hp Z ρ' (L) w'):=by
 refine enter (N:=10) Tryz.func40 rfl rfl [(0,(.agg #[(Iv p0.kind),(.string p0.text),(Iv p0.at_),(Iv p0.fin),aI]))] rfl (aY ⟨rfl,trivial⟩) fun a hE=>?_
 unfold kU at hm
 refine aF (aA ?_)
 refine iV (wk0 rfl) rfl rfl hE hp rfl (v:=(.agg #[(Iv p0.kind),(.string p0.text),(Iv p0.at_),(Iv p0.fin),aI])) rfl ?_
 intro a w b1 hE hp
 have hp:=r1 hp
 refine dH (wk0 rfl) rfl rfl hE hp rfl [N0,N0,N0] (fun w=>by simp[Instr.alloc,go_sem]<;>rfl) ?_
 intro a w b2 hE hp
 have hp:=r2 hp
 refine aB (aF ?_)
 refine aA ?_
 refine dH (wk0 rfl) rfl rfl hE hp rfl [N0,N0,N0] (fun w=>by simp[Instr.alloc,go_sem]<;>rfl) ?_
 intro a w b3 hE hp
 have hp:=r3 hp
 refine aB (aF ?_)
 refine aA ?_
 refine dH (wk0 rfl) rfl rfl hE hp rfl [.nilFunc] (fun w=>by simp[Instr.alloc,go_sem]<;>rfl) ?_
 intro a w b4 hE hp
 have hp:=r4 hp
 refine aB (aF ?_)
 refine aA (V hE hp rfl (v:=(.func (.func 63) #[] #[(Pv b3 0),(Pv b4 0)])) (ex_fn rfl hE [(Pv b3 0),(Pv b4 0)] (by exact⟨rfl,rfl,trivial⟩)) fun a hE=>?_)
 refine aU (wk0 rfl) rfl hE hp rfl rfl rfl 0 rfl varty110.size_ rfl (aN ⟨rfl,trivial⟩) [(.func (.func 63) #[] #[(Pv b3 0),(Pv b4 0)])] rfl ?_
 intro w hp
 have hp:=r4 hp
 refine aB (aF ?_)
 refine aA (V hE hp rfl (xl hE varty110 0 rfl rfl rfl rfl) fun a hE=>?_)
 refine V hE hp rfl (aJ rfl hE rfl (fun w hw=>aW (cs:=[(Iv p0.kind),(.string p0.text),(Iv p0.at_),(Iv p0.fin),aI]) bV (Hp.cN 3 rfl 0 _ (aS rfl) w hw))) fun a hE=>?_
 have hp:=hp.emp (oQ.nil (α:=Node) 24)
 have hR1:fC ρ ([]:List Node) []:=fC.nil
 have hp:=r5 hp
 have hp:=hp.emp (aG.nil (α:=Int) 3)
 have hp:=r6 hp
 have hp:=hp.emp (aG.nil (α:=Int) 3)
 have hp:=r7 hp
 have hp:=r7 hp
 obtain⟨x1,ex1,hm⟩:=bnd hm
 refine oG (wk0 rfl) rfl rfl hE rfl rfl [(.agg #[(Iv p0.kind),(.string p0.text),(Iv p0.at_),(Iv p0.fin),aI]),(Iv (-1))] ⟨rfl,rfl,trivial⟩ ent63 (aG7 p0 aI aZ (-1) b3 (Nmb.mk ([]) ([]) ([])) N0 ([]) N0 N0 hR1 b4 (((((hp.get 3 rfl).get 1 rfl).get 2 rfl).get 3 rfl).get 4 rfl) x1 ex1) Ret.ret ?_
 intro v a w hR hE
 obtain⟨Y3,xsz1_nodes,Y4,O6,rfl,hRz1_nodes,hp⟩:=Ret.of hR
 have hp:=r7 hp
 refine aB (aF ?_)
 refine aA (V hE hp rfl (aJ rfl hE rfl (fun w hw=>aW (cs:=[Y3,Y4,O6]) dA (Hp.cN 0 rfl 0 _ (aS rfl) w hw))) fun a hE=>?_)
 refine aU (wk0 rfl) rfl hE hp rfl rfl rfl 5 rfl dA.size_ rfl (aN ⟨(oQ.one hp 1 rfl),(aG.one hp 2 rfl),(aG.one hp 3 rfl),trivial⟩) [Y3,Y4,O6] rfl ?_
 intro w hp
 have hp:=r7 hp
 refine aB (dD ?_)
 obtain⟨k1,k1a,k1d,hp⟩:=(hp.get 1 rfl).lend
 have f1:aH (ρ.un k1) Y3 x1.nodes:=oQ.ro k1d k1a hRz1_nodes
 have hp:=r6 hp
 obtain⟨k2,k2a,k2d,hp⟩:=(hp.get 1 rfl).lend
 have f2:aH ((ρ.un k1).un k2) Y4 x1.sizes:=aG.ro k2d k2a
 have hp:Hp Z ((ρ.un k1).un k2) (_::_::_::_::_::L) w:=hp
 obtain⟨k3,k3a,k3d,hp⟩:=(hp.get 1 rfl).lend
 have f3:aH (((ρ.un k1).un k2).un k3) O6 x1.parent:=aG.ro k3d k3a
 have hp:Hp Z (((ρ.un k1).un k2).un k3) (_::_::_::_::L) w:=hp
 obtain rfl:=oj hm
 exact retc1 hE rfl rfl (C9 (cs:=[Y3,Y4,O6]) dA (Hp.cN 2 rfl 0 _ (aS rfl) _ hp)) ⟨_,rfl,_,_,_,_,(PH.le.tr (PH.le.tr (PH.le_un _ k1) (PH.le_un _ k2)) (PH.le_un _ k3)),rfl,(aH.mono (aH.mono f1 (PH.le_un _ k2)) (PH.le_un _ k3)),(aH.mono f2 (PH.le_un _ k3)),f3,(((((((hp.get 3 rfl).drop).get 2 rfl).drop).get 1 rfl).drop).drop)⟩
theorem zN (self:Int→(List Int)→Nmb→(List Int)→Option ((List Int)×(List Int))) (hself:∀{Z:World} {ρ:PH} {L:List bI} {w:World} (p0:Int) (bcp0:Nat) (cp0:(List Int)) (vcp0:Value) (bcp1:Nat) (cp1:Nmb) (gV:Value) (uF:aH ρ gV cp1.nodes) (gW:Value) (qP:aH ρ gW cp1.sizes) (fJ:Value) (rU:aH ρ fJ cp1.parent) (bcp2:Nat) (bcp3:Nat) (cp3:(List Int)) (vcp3:Value) (hp:Hp Z ρ (Pt bcp0 (.cells #[vcp0] 73 (0,0))::aG 3 vcp0 cp0::Pt bcp1 (.cells #[gV,gW,fJ] 75 (0,0))::Pt bcp2 (.cells #[(.func (.func 69) #[] #[(Pv bcp0 0),(Pv bcp1 0),(Pv bcp2 0),(Pv bcp3 0)])] 115 (0,0))::Pt bcp3 (.cells #[vcp3] 73 (0,0))::aG 3 vcp3 cp3::L) w) (r:((List Int)×(List Int))) (hm:self p0 cp0 cp1 cp3=some r),Calls Tryz.prog 69 #[(Iv p0),(Pv bcp0 0),(Pv bcp1 0),(Pv bcp2 0),(Pv bcp3 0)] w (Ret fun v w'=>∃(vzcp0:Value) (vzcp3:Value),v= .tuple #[]∧Hp Z ρ (Pt bcp0 (.cells #[vzcp0] 73 (0,0))::aG 3 vzcp0 r.1::Pt bcp1 (.cells #[gV,gW,fJ] 75 (0,0))::Pt bcp2 (.cells #[(.func (.func 69) #[] #[(Pv bcp0 0),(Pv bcp1 0),(Pv bcp2 0),(Pv bcp3 0)])] 115 (0,0))::Pt bcp3 (.cells #[vzcp3] 73 (0,0))::aG 3 vzcp3 r.2::L) w')) {Z:World} {ρ:PH} {L:List bI} {w:World} (p0:Int) (bcp0:Nat) (cp0:(List Int)) (vcp0:Value) (bcp1:Nat) (cp1:Nmb) (gV:Value) (uF:aH ρ gV cp1.nodes) (gW:Value) (qP:aH ρ gW cp1.sizes) (fJ:Value) (rU:aH ρ fJ cp1.parent) (bcp2:Nat) (bcp3:Nat) (cp3:(List Int)) (vcp3:Value) (hp:Hp Z ρ (Pt bcp0 (.cells #[vcp0] 73 (0,0))::aG 3 vcp0 cp0::Pt bcp1 (.cells #[gV,gW,fJ] 75 (0,0))::Pt bcp2 (.cells #[(.func (.func 69) #[] #[(Pv bcp0 0),(Pv bcp1 0),(Pv bcp2 0),(Pv bcp3 0)])] 115 (0,0))::Pt bcp3 (.cells #[vcp3] 73 (0,0))::aG 3 vcp3 cp3::L) w) (r:((List Int)×(List Int))) (hm:oN self p0 cp0 cp1 cp3=some r):
  Calls Tryz.prog 69 #[(Iv p0),(Pv bcp0 0),(Pv bcp1 0),(Pv bcp2 0),(Pv bcp3 0)] w (Ret fun v w'=>∃(vzcp0:Value) (vzcp3:Value),v= .tuple #[]∧Hp Z ρ (Pt bcp0 (.cells #[vzcp0] 73 (0,0))::aG 3 vzcp0 r.1::Pt bcp1 (.cells #[gV,gW,fJ] 75 (0,0))::Pt bcp2 (.cells #[(.func (.func 69) #[] #[(Pv bcp0 0),(Pv bcp1 0),(Pv bcp2 0),(Pv bcp3 0)])] 115 (0,0))::Pt bcp3 (.cells #[vzcp3] 73 (0,0))::aG 3 vzcp3 r.2::L) w'):=by
 refine enter (N:=39) Tryz.func69 rfl rfl [(0,(Iv p0)),(1,(Pv bcp0 0)),(2,(Pv bcp1 0)),(3,(Pv bcp2 0)),(4,(Pv bcp3 0))] rfl (aY ⟨rfl,rfl,rfl,rfl,rfl,trivial⟩) fun a hE=>?_
 unfold oN at hm
 refine aF (aA ?_)
 refine V hE hp rfl (xl hE aV 0 rfl rfl rfl rfl) fun a hE=>V hE hp rfl (dB rfl hE rfl (aG.len hp 1 rfl bH)) fun a hE=>S hE 1 rfl fun a hE=>aB (aF ?_)
 refine aF (aA ?_)
 refine S hE 1 rfl fun a hE=>?_
 obtain⟨x1,ex1,hm⟩:=bnd hm
 refine V hE hp rfl (bF rfl hE rfl rfl (aK ex1)) fun a hE=>S hE 1 rfl fun a hE=>aB ?_
 obtain⟨b1,hc1,hm⟩:=bnd hm
 refine dJ (fun a w=>∃(w2:Value) (w6:Value),Env 39 [(0,(Iv p0)),(1,(Pv bcp0 0)),(4,(Pv bcp3 0)),(6,(Iv (cp0.length:Int)))] a∧Hp Z ρ (Pt bcp0 (.cells #[w2] 73 (0,0))::aG 3 w2 b1.1::Pt bcp1 (.cells #[gV,gW,fJ] 75 (0,0))::Pt bcp2 (.cells #[(.func (.func 69) #[] #[(Pv bcp0 0),(Pv bcp1 0),(Pv bcp2 0),(Pv bcp3 0)])] 115 (0,0))::Pt bcp3 (.cells #[w6] 73 (0,0))::aG 3 w6 b1.2::L) w) ?_ ?_
 ·refine dY hc1 (fun s a w=>∃(w2:Value) (w6:Value),Env 39 [(0,(Iv p0)),(1,(Pv bcp0 0)),(2,(Pv bcp1 0)),(3,(Pv bcp2 0)),(4,(Pv bcp3 0)),(6,(Iv (cp0.length:Int))),(7,(Iv s.1))] a∧Hp Z ρ (Pt bcp0 (.cells #[w2] 73 (0,0))::aG 3 w2 s.2.1::Pt bcp1 (.cells #[gV,gW,fJ] 75 (0,0))::Pt bcp2 (.cells #[(.func (.func 69) #[] #[(Pv bcp0 0),(Pv bcp1 0),(Pv bcp2 0),(Pv bcp3 0)])] 115 (0,0))::Pt bcp3 (.cells #[w6] 73 (0,0))::aG 3 w6 s.2.2::L) w) ?_ ?_
  ·exact⟨_,_,hE.cut ⟨rfl,rfl,rfl,rfl,rfl,rfl,rfl,trivial⟩,hp⟩
  rintro⟨aQ,aT,eF⟩ st a w ⟨w2,w6,hE,hp⟩ hl1
  dsimp only at hE hp hl1
  unfold qI at hl1
  refine aF (aF ?_)
  refine aA (S hE 2 rfl fun a hE=>?_)
  refine V hE hp rfl (xf hE tC rfl rfl) fun a hE=>V hE hp rfl (xl hE aV 2 rfl rfl rfl rfl) fun a hE=>S hE 1 rfl fun a hE=>?_
  obtain⟨x2,ex2,hl1⟩:=bnd hl1
  obtain⟨b2,b2o,b2c,b2r,b2k,b2f⟩:=aH.at qP bH ex2
  obtain rfl:b2c=Enc.enc x2:=b2k
  have b2f:AtP ρ b2 b2o [(Iv x2)]:=b2f
  refine V hE hp rfl (aO rfl hE rfl rfl b2r) fun a hE=>V hE hp rfl (aJ rfl hE rfl (fun w hw=>bG aX (b2f.c 0 rfl w hw))) fun a hE=>?_
  obtain⟨x3,ex3,hl1⟩:=bnd hl1
  refine V hE hp rfl (bF rfl hE rfl rfl (aK ex3)) fun a hE=>S hE 1 rfl fun a hE=>aB ?_
  refine dI hE rfl (fun hc2=>?_) (fun hc2=>?_)
  ·replace hl1:=(it hc2).symm.trans hl1
   refine bC (aF ?_)
   refine dN (aA ?_)
   refine V hE hp rfl (xl hE varty115 3 rfl rfl rfl rfl) fun a hE=>S hE 1 rfl fun a hE=>?_
   obtain⟨x4,ex4,hl1⟩:=bnd hl1
   refine oG (wk0 rfl) rfl rfl hE rfl rfl [(Iv aQ)] ⟨rfl,trivial⟩ ent69 (hself aQ bcp0 aT w2 bcp1 cp1 gV uF gW qP fJ rU bcp2 bcp3 eF w6 ((((((hp.get 5 rfl).get 5 rfl).get 5 rfl).get 5 rfl).get 5 rfl).get 5 rfl) x4 ex4) Ret.ret ?_
   intro v a w hR hE
   obtain⟨vz1,vz2,rfl,hp⟩:=Ret.of hR
   have hp:=r6 hp
   refine aB (aA ?_)
   refine S hE 1 rfl fun a hE=>V hE hp rfl (xf hE tC rfl rfl) fun a hE=>V hE hp rfl (xl hE aV 2 rfl rfl rfl rfl) fun a hE=>S hE 1 rfl fun a hE=>?_
   obtain⟨x5,ex5,hl1⟩:=bnd hl1
   obtain⟨b3,b3o,b3c,b3r,b3k,b3f⟩:=aH.at qP bH ex5
   obtain rfl:b3c=Enc.enc x5:=b3k
   have b3f:AtP ρ b3 b3o [(Iv x5)]:=b3f
   refine V hE hp rfl (aO rfl hE rfl rfl b3r) fun a hE=>V hE hp rfl (aJ rfl hE rfl (fun w hw=>bG aX (b3f.c 0 rfl w hw))) fun a hE=>?_
   obtain⟨x6,ex6,hl1⟩:=bnd hl1
   refine V hE hp rfl (bF rfl hE rfl rfl (aK ex6)) fun a hE=>S hE 1 rfl fun a hE=>aB ?_
   have hE:=hE.cut (E':=[(0,(Iv p0)),(1,(Pv bcp0 0)),(2,(Pv bcp1 0)),(3,(Pv bcp2 0)),(4,(Pv bcp3 0)),(6,(Iv (cp0.length:Int))),(7,(Iv x6))]) ⟨rfl,rfl,rfl,rfl,rfl,rfl,rfl,trivial⟩
   exact⟨_,(oj hl1).symm,_,_,hE.cut ⟨rfl,rfl,rfl,rfl,rfl,rfl,rfl,trivial⟩,hp⟩
  replace hl1:=(ie hc2).symm.trans hl1
  refine dU ?_
  refine⟨_,(oj hl1).symm,fun hbb=>?_⟩
  subst hbb
  exact⟨_,_,hE.cut ⟨rfl,rfl,rfl,rfl,trivial⟩,hp⟩
 rintro a w ⟨w2,w6,hE,hp⟩
 obtain⟨x7,ex7,hm⟩:=bnd hm
 obtain⟨x8,ex8,hm⟩:=bnd hm
 have hp:=hp.drew
 refine fO ([([],At0 Z ρ),([8],At1 Z ρ (Pt bcp0 (.cells #[w2] 73 (0,0)))),([9],At1 Z ρ (Pt bcp3 (.cells #[w6] 73 (0,0))))]:Facts) (fun a w=>∃y10:Nat,∃y9:Nat,∃y2:Value,∃y6:Value,Env 39 [] a∧Hp Z ρ (Pt y10 (.cells #[(Iv (cp0.length:Int))] 3 (0,0))::Pt y9 (.cells #[(Iv p0)] 3 (0,0))::Pt bcp0 (.cells #[y2] 73 (0,0))::aG 3 y2 x7::Pt bcp1 (.cells #[gV,gW,fJ] 75 (0,0))::Pt bcp2 (.cells #[(.func (.func 69) #[] #[(Pv bcp0 0),(Pv bcp1 0),(Pv bcp2 0),(Pv bcp3 0)])] 115 (0,0))::Pt bcp3 (.cells #[y6] 73 (0,0))::aG 3 y6 x8::L) w) (by kernel_rfl) ⟨fun _=>⟨_,hp⟩,fun _=>⟨_,(hp.get 0 rfl)⟩,fun _=>⟨_,(hp.get 4 rfl)⟩,trivial⟩ (fun hS=>?_) ?_
 ·
  generalize w.drew=w at hS hp⊢
  refine T 0 1 hE hS rfl rfl rfl (by kernel_rfl) (fun _=>xl hE aV 0 rfl rfl rfl rfl) fun a hE hS=>Ts [1] hE hS rfl rfl (by kernel_rfl) fun a hE hS=>T 4 2 hE hS rfl rfl rfl (by kernel_rfl) (fun _=>xl hE aV 0 rfl rfl rfl rfl) fun a hE hS=>Ts [5] hE hS rfl rfl (by kernel_rfl) fun a hE hS=>?_
  refine fQ [2,6] (by kernel_rfl) rfl ?_
  refine List.forall_mem_cons.2 ⟨?_,List.forall_mem_cons.2 ⟨?_,fun _ h=>absurd h (by simp)⟩⟩
  ·
   refine dQ rfl ?_
   refine fE (wk0 rfl) rfl rfl hE hp rfl [(0,(Iv p0))] ⟨⟨rfl,rfl⟩,trivial⟩ [(Iv p0)] 3 (fun w=>by simp[Instr.buildSlice,Instr.fill,Value.cells,go_sem]) ?_
   intro a w b6 hE hp
   have hp:=r7 hp
   refine aB (aC ⟨gp0 hp,gp 1 hp rfl,gp 5 hp rfl,trivial⟩ fun hS=>?_)
   refine fQ [3,6] (by kernel_rfl) rfl ?_
   refine List.forall_mem_cons.2 ⟨?_,List.forall_mem_cons.2 ⟨?_,fun _ h=>absurd h (by simp)⟩⟩
   ·
    refine dQ rfl ?_
    refine fM (wk0 rfl) rfl rfl hE hp rfl bH rfl rfl 2 rfl rfl (l2:=[p0]) rfl (fun j u hj=>by have:=Hp.cN 0 rfl 0 _ (aS rfl) w hp j u hj;simpa using this) ex7 ?_
    intro v3 a w hE hp
    have hp:=r7 hp
    refine aB (aC ⟨gp0 hp,gp 1 hp rfl,gp 5 hp rfl,trivial⟩ fun hS=>?_)
    refine W1 6 (by kernel_rfl) rfl ?_
    refine fE (wk0 rfl) rfl rfl hE hp rfl [(0,(Iv (cp0.length:Int)))] ⟨⟨rfl,rfl⟩,trivial⟩ [(Iv (cp0.length:Int))] 3 (fun w=>by simp[Instr.buildSlice,Instr.fill,Value.cells,go_sem]) ?_
    intro a w b7 hE hp
    have hp:=r8 hp
    refine aB (aC ⟨gp0 hp,gp 2 hp rfl,gp 6 hp rfl,trivial⟩ fun hS=>?_)
    refine W1 7 (by kernel_rfl) rfl ?_
    refine fM (wk0 rfl) rfl rfl hE hp rfl bH rfl rfl 7 rfl rfl (l2:=[(cp0.length:Int)]) rfl (fun j u hj=>by have:=Hp.cN 0 rfl 0 _ (aS rfl) w hp j u hj;simpa using this) ex8 ?_
    intro v4 a w hE hp
    have hp:=r8 hp
    refine aB (aC ⟨gp0 hp,gp 2 hp rfl,gp 6 hp rfl,trivial⟩ fun hS=>?_)
    refine W1 8 (by kernel_rfl) rfl ?_
    refine bM (wk0 rfl) rfl hE hp rfl rfl rfl 2 rfl aV.size_ (aG.cells hp 3 rfl) (aG.one hp 3 rfl) rfl [v3] rfl ?_
    intro w hp
    have hp:=r8 hp
    refine aB (aC ⟨gp0 hp,dead (by kernel_rfl),gp 6 hp rfl,trivial⟩ fun hS=>?_)
    refine W1 9 (by kernel_rfl) rfl ?_
    refine bM (wk0 rfl) rfl hE hp rfl rfl rfl 6 rfl aV.size_ (aG.cells hp 7 rfl) (aG.one hp 7 rfl) rfl [v4] rfl ?_
    intro w hp
    have hp:=r8 hp
    refine aB (aC ⟨gp0 hp,dead (by kernel_rfl),dead (by kernel_rfl),trivial⟩ fun hS=>?_)
    exact bP (by kernel_rfl) ⟨_,_,_,_,hE.cut trivial,hp⟩
   refine dQ rfl ?_
   refine fE (wk0 rfl) rfl rfl hE hp rfl [(0,(Iv (cp0.length:Int)))] ⟨⟨rfl,rfl⟩,trivial⟩ [(Iv (cp0.length:Int))] 3 (fun w=>by simp[Instr.buildSlice,Instr.fill,Value.cells,go_sem]) ?_
   intro a w b8 hE hp
   have hp:=r8 hp
   refine aB (aC ⟨gp0 hp,gp 2 hp rfl,gp 6 hp rfl,trivial⟩ fun hS=>?_)
   refine W1 3 (by kernel_rfl) rfl ?_
   refine fM (wk0 rfl) rfl rfl hE hp rfl bH rfl rfl 3 rfl rfl (l2:=[p0]) rfl (fun j u hj=>by have:=Hp.cN 1 rfl 0 _ (aS rfl) w hp j u hj;simpa using this) ex7 ?_
   intro v5 a w hE hp
   have hp:=r8 hp
   refine aB (aC ⟨gp0 hp,gp 2 hp rfl,gp 6 hp rfl,trivial⟩ fun hS=>?_)
   refine W1 7 (by kernel_rfl) rfl ?_
   refine fM (wk0 rfl) rfl rfl hE hp rfl bH rfl rfl 7 rfl rfl (l2:=[(cp0.length:Int)]) rfl (fun j u hj=>by have:=Hp.cN 0 rfl 0 _ (aS rfl) w hp j u hj;simpa using this) ex8 ?_
   intro v6 a w hE hp
   have hp:=r8 hp
   refine aB (aC ⟨gp0 hp,gp 2 hp rfl,gp 6 hp rfl,trivial⟩ fun hS=>?_)
   refine W1 8 (by kernel_rfl) rfl ?_
   refine bM (wk0 rfl) rfl hE hp rfl rfl rfl 2 rfl aV.size_ (aG.cells hp 3 rfl) (aG.one hp 3 rfl) rfl [v5] rfl ?_
   intro w hp
   have hp:=r8 hp
   refine aB (aC ⟨gp0 hp,dead (by kernel_rfl),gp 6 hp rfl,trivial⟩ fun hS=>?_)
   refine W1 9 (by kernel_rfl) rfl ?_
   refine bM (wk0 rfl) rfl hE hp rfl rfl rfl 6 rfl aV.size_ (aG.cells hp 7 rfl) (aG.one hp 7 rfl) rfl [v6] rfl ?_
   intro w hp
   have hp:=r8 hp
   refine aB (aC ⟨gp0 hp,dead (by kernel_rfl),dead (by kernel_rfl),trivial⟩ fun hS=>?_)
   exact bP (by kernel_rfl) ⟨_,_,_,_,hE.cut trivial,hp⟩
  refine dQ rfl ?_
  refine fE (wk0 rfl) rfl rfl hE hp rfl [(0,(Iv (cp0.length:Int)))] ⟨⟨rfl,rfl⟩,trivial⟩ [(Iv (cp0.length:Int))] 3 (fun w=>by simp[Instr.buildSlice,Instr.fill,Value.cells,go_sem]) ?_
  intro a w b9 hE hp
  have hp:=r7 hp
  refine aB (aC ⟨gp0 hp,gp 1 hp rfl,gp 5 hp rfl,trivial⟩ fun hS=>?_)
  refine W1 2 (by kernel_rfl) rfl ?_
  refine fE (wk0 rfl) rfl rfl hE hp rfl [(0,(Iv p0))] ⟨⟨rfl,rfl⟩,trivial⟩ [(Iv p0)] 3 (fun w=>by simp[Instr.buildSlice,Instr.fill,Value.cells,go_sem]) ?_
  intro a w b10 hE hp
  have hp:=r8 hp
  refine aB (aC ⟨gp0 hp,gp 2 hp rfl,gp 6 hp rfl,trivial⟩ fun hS=>?_)
  refine W1 3 (by kernel_rfl) rfl ?_
  refine fM (wk0 rfl) rfl rfl hE hp rfl bH rfl rfl 3 rfl rfl (l2:=[p0]) rfl (fun j u hj=>by have:=Hp.cN 0 rfl 0 _ (aS rfl) w hp j u hj;simpa using this) ex7 ?_
  intro v7 a w hE hp
  have hp:=r8 hp
  refine aB (aC ⟨gp0 hp,gp 2 hp rfl,gp 6 hp rfl,trivial⟩ fun hS=>?_)
  refine W1 7 (by kernel_rfl) rfl ?_
  refine fM (wk0 rfl) rfl rfl hE hp rfl bH rfl rfl 7 rfl rfl (l2:=[(cp0.length:Int)]) rfl (fun j u hj=>by have:=Hp.cN 1 rfl 0 _ (aS rfl) w hp j u hj;simpa using this) ex8 ?_
  intro v8 a w hE hp
  have hp:=r8 hp
  refine aB (aC ⟨gp0 hp,gp 2 hp rfl,gp 6 hp rfl,trivial⟩ fun hS=>?_)
  refine W1 8 (by kernel_rfl) rfl ?_
  refine bM (wk0 rfl) rfl hE hp rfl rfl rfl 2 rfl aV.size_ (aG.cells hp 3 rfl) (aG.one hp 3 rfl) rfl [v7] rfl ?_
  intro w hp
  have hp:=r8 hp
  refine aB (aC ⟨gp0 hp,dead (by kernel_rfl),gp 6 hp rfl,trivial⟩ fun hS=>?_)
  refine W1 9 (by kernel_rfl) rfl ?_
  refine bM (wk0 rfl) rfl hE hp rfl rfl rfl 6 rfl aV.size_ (aG.cells hp 7 rfl) (aG.one hp 7 rfl) rfl [v8] rfl ?_
  intro w hp
  have hp:=r8 hp
  refine aB (aC ⟨gp0 hp,dead (by kernel_rfl),dead (by kernel_rfl),trivial⟩ fun hS=>?_)
  exact bP (by kernel_rfl) ⟨_,_,_,_,hE.cut trivial,((((((((hp.get 7 rfl).get 7 rfl).get 7 rfl).get 7 rfl).get 7 rfl).get 7 rfl).get 6 rfl).get 7 rfl)⟩
 rintro a w ⟨y10,y9,y2,y6,hE,hp⟩
 obtain rfl:=oj hm
 exact X5 hE rfl ⟨_,rfl,_,_,rfl,(((hp.get 1 rfl).drop).drop)⟩
theorem O8:∀(n:Nat),∀{Z:World} {ρ:PH} {L:List bI} {w:World} (p0:Int) (bcp0:Nat) (cp0:(List Int)) (vcp0:Value) (bcp1:Nat) (cp1:Nmb) (gV:Value) (uF:aH ρ gV cp1.nodes) (gW:Value) (qP:aH ρ gW cp1.sizes) (fJ:Value) (rU:aH ρ fJ cp1.parent) (bcp2:Nat) (bcp3:Nat) (cp3:(List Int)) (vcp3:Value) (hp:Hp Z ρ (Pt bcp0 (.cells #[vcp0] 73 (0,0))::aG 3 vcp0 cp0::Pt bcp1 (.cells #[gV,gW,fJ] 75 (0,0))::Pt bcp2 (.cells #[(.func (.func 69) #[] #[(Pv bcp0 0),(Pv bcp1 0),(Pv bcp2 0),(Pv bcp3 0)])] 115 (0,0))::Pt bcp3 (.cells #[vcp3] 73 (0,0))::aG 3 vcp3 cp3::L) w) (r:((List Int)×(List Int))) (hm:mW n p0 cp0 cp1 cp3=some r),Calls Tryz.prog 69 #[(Iv p0),(Pv bcp0 0),(Pv bcp1 0),(Pv bcp2 0),(Pv bcp3 0)] w (Ret fun v w'=>∃(vzcp0:Value) (vzcp3:Value),v= .tuple #[]∧Hp Z ρ (Pt bcp0 (.cells #[vzcp0] 73 (0,0))::aG 3 vzcp0 r.1::Pt bcp1 (.cells #[gV,gW,fJ] 75 (0,0))::Pt bcp2 (.cells #[(.func (.func 69) #[] #[(Pv bcp0 0),(Pv bcp1 0),(Pv bcp2 0),(Pv bcp3 0)])] 115 (0,0))::Pt bcp3 (.cells #[vzcp3] 73 (0,0))::aG 3 vzcp3 r.2::L) w'):=by
 intro n
 induction n with
 |zero=>intro Z ρ L w p0 bcp0 cp0 vcp0 bcp1 cp1 gV uF gW qP fJ rU bcp2 bcp3 cp3 vcp3 hp r hm;cases hm
 |succ n ih=>intro Z ρ L w p0 bcp0 cp0 vcp0 bcp1 cp1 gV uF gW qP fJ rU bcp2 bcp3 cp3 vcp3 hp r hm;exact zN (mW n) ih p0 bcp0 cp0 vcp0 bcp1 cp1 gV uF gW qP fJ rU bcp2 bcp3 cp3 vcp3 hp r hm
theorem U7 {Z:World} {ρ:PH} {L:List bI} {w:World} (p0:Int) (bcp0:Nat) (cp0:(List Int)) (vcp0:Value) (bcp1:Nat) (cp1:Nmb) (gV:Value) (uF:aH ρ gV cp1.nodes) (gW:Value) (qP:aH ρ gW cp1.sizes) (fJ:Value) (rU:aH ρ fJ cp1.parent) (bcp2:Nat) (bcp3:Nat) (cp3:(List Int)) (vcp3:Value) (hp:Hp Z ρ (Pt bcp0 (.cells #[vcp0] 73 (0,0))::aG 3 vcp0 cp0::Pt bcp1 (.cells #[gV,gW,fJ] 75 (0,0))::Pt bcp2 (.cells #[(.func (.func 69) #[] #[(Pv bcp0 0),(Pv bcp1 0),(Pv bcp2 0),(Pv bcp3 0)])] 115 (0,0))::Pt bcp3 (.cells #[vcp3] 73 (0,0))::aG 3 vcp3 cp3::L) w) (r:((List Int)×(List Int))) (hm:wQ p0 cp0 cp1 cp3=some r):
  Calls Tryz.prog 69 #[(Iv p0),(Pv bcp0 0),(Pv bcp1 0),(Pv bcp2 0),(Pv bcp3 0)] w (Ret fun v w'=>∃(vzcp0:Value) (vzcp3:Value),v= .tuple #[]∧Hp Z ρ (Pt bcp0 (.cells #[vzcp0] 73 (0,0))::aG 3 vzcp0 r.1::Pt bcp1 (.cells #[gV,gW,fJ] 75 (0,0))::Pt bcp2 (.cells #[(.func (.func 69) #[] #[(Pv bcp0 0),(Pv bcp1 0),(Pv bcp2 0),(Pv bcp3 0)])] 115 (0,0))::Pt bcp3 (.cells #[vzcp3] 73 (0,0))::aG 3 vzcp3 r.2::L) w'):=O8 _ p0 bcp0 cp0 vcp0 bcp1 cp1 gV uF gW qP fJ rU bcp2 bcp3 cp3 vcp3 hp r hm
theorem xW {Z:World} {ρ:PH} {L:List bI} {w:World} (p0:Nmb) (eQ:Value) (yD:aH ρ eQ p0.nodes) (eU:Value) (E5:aH ρ eU p0.sizes) (dV:Value) (oH:aH ρ dV p0.parent) (hp:Hp Z ρ (L) w) (r:((List Int)×(List Int))) (hm:pU p0=some r):
  Calls Tryz.prog 49 #[(.agg #[eQ,eU,dV])] w (Ret fun v w'=>∃(ρ':PH) (vr1:Value) (vr2:Value),ρ.le ρ'∧v= .tuple #[vr1,vr2]∧aH ρ' vr1 r.1∧aH ρ' vr2 r.2∧Hp Z ρ' (L) w'):=by
 refine enter (N:=12) Tryz.func49 rfl rfl [(0,(.agg #[eQ,eU,dV]))] rfl (aY ⟨rfl,trivial⟩) fun a hE=>?_
 unfold pU at hm
 refine aF (aA ?_)
 refine iV (wk0 rfl) rfl rfl hE hp rfl (v:=(.agg #[eQ,eU,dV])) rfl ?_
 intro a w b1 hE hp
 have hp:=r1 hp
 refine S hE 2 rfl fun a hE=>aB (aF ?_)
 refine aA ?_
 refine dH (wk0 rfl) rfl rfl hE hp rfl [N0] (fun w=>by simp[Instr.alloc,go_sem]<;>rfl) ?_
 intro a w b2 hE hp
 have hp:=r2 hp
 refine dH (wk0 rfl) rfl rfl hE hp rfl [N0] (fun w=>by simp[Instr.alloc,go_sem]<;>rfl) ?_
 intro a w b3 hE hp
 have hp:=r3 hp
 refine aB (aF ?_)
 refine aA ?_
 refine dH (wk0 rfl) rfl rfl hE hp rfl [.nilFunc] (fun w=>by simp[Instr.alloc,go_sem]<;>rfl) ?_
 intro a w b4 hE hp
 have hp:=r4 hp
 refine aB (aF ?_)
 refine aA (V hE hp rfl (v:=(.func (.func 69) #[] #[(Pv b2 0),(Pv b1 0),(Pv b4 0),(Pv b3 0)])) (ex_fn rfl hE [(Pv b2 0),(Pv b1 0),(Pv b4 0),(Pv b3 0)] (by exact⟨rfl,rfl,rfl,rfl,trivial⟩)) fun a hE=>?_)
 refine aU (wk0 rfl) rfl hE hp rfl rfl rfl 0 rfl varty115.size_ rfl (aN ⟨rfl,trivial⟩) [(.func (.func 69) #[] #[(Pv b2 0),(Pv b1 0),(Pv b4 0),(Pv b3 0)])] rfl ?_
 intro w hp
 have hp:=r4 hp
 refine aB (aF ?_)
 refine aA (V hE hp rfl (xl hE varty115 0 rfl rfl rfl rfl) fun a hE=>?_)
 have hp:=hp.emp (aG.nil (α:=Int) 3)
 have hp:=r5 hp
 have hp:=r5 hp
 have hp:=hp.emp (aG.nil (α:=Int) 3)
 have hp:=r6 hp
 have hp:=r6 hp
 obtain⟨x1,ex1,hm⟩:=bnd hm
 refine oG (wk0 rfl) rfl rfl hE rfl rfl [(Iv 0)] ⟨rfl,trivial⟩ ent69 (U7 0 b2 [] N0 b1 p0 eQ yD eU E5 dV oH b4 b3 [] N0 (((((hp.get 3 rfl).get 3 rfl).get 5 rfl).get 4 rfl).get 5 rfl) x1 ex1) Ret.ret ?_
 intro v a w hR hE
 obtain⟨vz1,vz2,rfl,hp⟩:=Ret.of hR
 have hp:=r6 hp
 refine aB (aF ?_)
 refine kZ (by kernel_rfl) (by kernel_rfl) hp ?_
 refine Vq hE rfl (xl hE aV 0 rfl rfl rfl rfl) fun a hE=>Vq hE rfl (xl hE aV 4 rfl rfl rfl rfl) fun a hE=>Sq hE 2 rfl fun a hE=>?_
 refine lU fun w hp=>?_
 have hp:=r6 hp
 refine dD ?_
 obtain⟨k1,k1a,k1d,hp⟩:=(hp.get 1 rfl).lend
 have f1:aH (ρ.un k1) vz1 x1.1:=aG.ro k1d k1a
 have hp:=r5 hp
 obtain⟨k2,k2a,k2d,hp⟩:=(hp.get 4 rfl).lend
 have f2:aH ((ρ.un k1).un k2) vz2 x1.2:=aG.ro k2d k2a
 have hp:Hp Z ((ρ.un k1).un k2) (_::_::_::_::L) w:=hp
 obtain rfl:=oj hm
 exact yG hE rfl rfl rfl ⟨_,rfl,_,_,_,(PH.le.tr (PH.le_un _ k1) (PH.le_un _ k2)),rfl,(aH.mono f1 (PH.le_un _ k2)),f2,(((((((hp.get 3 rfl).drop).get 2 rfl).drop).get 1 rfl).drop).drop)⟩
end Go.Proofs.YtopnldfjcciieaaGreat
