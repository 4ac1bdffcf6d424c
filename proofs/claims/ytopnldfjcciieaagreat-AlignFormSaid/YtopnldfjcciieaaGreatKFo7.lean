/- The code goes as its model: (assessor/align.numbered).above, assessor/align.sameLabel, assessor/align.number$1, assessor/align.number, (assessor/align.numbered) -/
import Derived.Test.YtopnldfjcciieaaGreatKFoT
import Derived.Test.YtopnldfjcciieaaGreatKFo3
import Derived.Test.YtopnldfjcciieaaGreatKFo5
import Derived.Test.YtopnldfjcciieaaGreatKFo6
import Derived.Test.YtopnldfjcciieaaGreatKFo4
set_option linter.unusedVariables false
set_option linter.unusedSimpArgs false
set_option maxRecDepth 100000
set_option maxHeartbeats 4000000
namespace Go.Proofs.YtopnldfjcciieaaGreat
open Go.RowKit
theorem kJ {Z:World} {ρ:PH} {L:List bK} {w:World} (p0:Nmb) (fK:Value) (zQ:aH ρ fK p0.nodes) (fM:Value) (N7:aH ρ fM p0.sizes) (eG:Value) (pV:aH ρ eG p0.parent) (p1:Int) (p2:Int) (hp:Hp Z ρ (L) w) (r:Bool) (hm:eY p0 p1 p2=some r):
  Calls Tryz.prog 45 #[(.agg #[fK,fM,eG]),(Iv p1),(Iv p2)] w (Ret fun v w'=>v=(.bool r)∧Hp Z ρ (L) w'):=by
 refine enter (N:=21) Tryz.func45 rfl rfl [(0,(.agg #[fK,fM,eG])),(1,(Iv p1)),(2,(Iv p2))] rfl (bC ⟨rfl,rfl,rfl,trivial⟩) fun a hE=>?_
 unfold eY at hm
 refine aG (aA ?_)
 refine iI (wk0 rfl) rfl rfl hE hp rfl (v:=(.agg #[fK,fM,eG])) rfl ?_
 intro a w b1 hE hp
 have hp:=r1 hp
 refine S hE 1 rfl fun a hE=>aB (aG ?_)
 refine aA (S hE 4 rfl fun a hE=>?_)
 obtain⟨m1,hg1,hm⟩:=bnd hm
 refine iL [_,_,_,_,_,_,_,_,_,_] (fun a w=>Env 21 [(20,(.bool m1))] a∧Hp Z ρ (Pt b1 (.cells #[fK,fM,eG] 75 (0,0))::L) w) ?_ ?_
 ·rcases Bool.eq_false_or_eq_true (decide (p1<p2)) with hc1|hc1
  ·
   replace hg1:=(it hc1).symm.trans hg1
   refine Gs hE hc1 rfl rfl fun a hE=>Gs hE hc1 rfl rfl fun a hE=>G hE hp hc1 rfl (xf hE uY rfl rfl) fun a hE=>G hE hp hc1 rfl (xl hE aY 0 rfl rfl rfl rfl) fun a hE=>Gs hE hc1 rfl rfl fun a hE=>?_
   obtain⟨x1,ex1,hg1⟩:=bnd hg1
   obtain⟨b2,b2o,b2c,b2r,b2k,b2f⟩:=aH.at N7 bI ex1
   obtain rfl:b2c=Enc.enc x1:=b2k
   have b2f:AtP ρ b2 b2o [(Iv x1)]:=b2f
   refine G hE hp hc1 rfl (aN rfl hE rfl rfl b2r) fun a hE=>G hE hp hc1 rfl (aK rfl hE rfl (fun w hw=>aV aT (b2f.c 0 rfl w hw))) fun a hE=>?_
   obtain⟨x2,ex2,hg1⟩:=bnd hg1
   refine G hE hp hc1 rfl (bF rfl hE rfl rfl (aO ex2)) fun a hE=>Gs hE hc1 rfl rfl fun a hE=>pk1 hE hc1 rfl rfl rfl rfl fun a hE=>?_
   obtain rfl:=oj hg1
   exact aB ⟨hE.cut ⟨rfl,trivial⟩,hp⟩
  replace hg1:=(ie hc1).symm.trans hg1
  refine Gk hE hc1 rfl fun a hE=>Gk hE hc1 rfl fun a hE=>Gk hE hc1 rfl fun a hE=>Gk hE hc1 rfl fun a hE=>Gk hE hc1 rfl fun a hE=>Gk hE hc1 rfl fun a hE=>Gk hE hc1 rfl fun a hE=>Gk hE hc1 rfl fun a hE=>Gk hE hc1 rfl fun a hE=>pk0 hE hc1 rfl rfl rfl rfl fun a hE=>?_
  obtain rfl:=oj hg1
  exact aB ⟨hE.cut ⟨rfl,trivial⟩,hp⟩
 rintro a w ⟨hE,hp⟩
 refine S hE 1 rfl fun a hE=>aB (bZ ?_)
 obtain rfl:=oj hm
 exact gJ hE rfl rfl ⟨_,rfl,rfl,(hp.drop)⟩
theorem yX {Z:World} {ρ:PH} {L:List bK} {w:World} (p0:Node) (aI:Value) (bD:aH ρ aI p0.kids) (p1:Node) (aJ:Value) (bH:aH ρ aJ p1.kids) (hp:Hp Z ρ (L) w) (r:Bool) (hm:lK p0 p1=some r):
  Calls Tryz.prog 41 #[(.agg #[(Iv p0.kind),(.string p0.text),(Iv p0.at_),(Iv p0.fin),aI]),(.agg #[(Iv p1.kind),(.string p1.text),(Iv p1.at_),(Iv p1.fin),aJ])] w (Ret fun v w'=>v=(.bool r)∧Hp Z ρ (L) w'):=by
 refine enter (N:=17) Tryz.func41 rfl rfl [(0,(.agg #[(Iv p0.kind),(.string p0.text),(Iv p0.at_),(Iv p0.fin),aI])),(1,(.agg #[(Iv p1.kind),(.string p1.text),(Iv p1.at_),(Iv p1.fin),aJ]))] rfl (bC ⟨rfl,rfl,trivial⟩) fun a hE=>?_
 unfold lK at hm
 refine aG (aA ?_)
 refine iI (wk0 rfl) rfl rfl hE hp rfl (v:=(.agg #[(Iv p0.kind),(.string p0.text),(Iv p0.at_),(Iv p0.fin),aI])) rfl ?_
 intro a w b1 hE hp
 have hp:=r1 hp
 refine iI (wk0 rfl) rfl rfl hE hp rfl (v:=(.agg #[(Iv p1.kind),(.string p1.text),(Iv p1.at_),(Iv p1.fin),aJ])) rfl ?_
 intro a w b2 hE hp
 have hp:=r2 hp
 refine S hE 1 rfl fun a hE=>aB (aG ?_)
 refine aA (V hE hp rfl (xf hE yD rfl rfl) fun a hE=>?_)
 refine V hE hp rfl (xl hE aT 1 rfl rfl rfl rfl) fun a hE=>V hE hp rfl (xf hE yD rfl rfl) fun a hE=>V hE hp rfl (xl hE aT 0 rfl rfl rfl rfl) fun a hE=>S hE 2 rfl fun a hE=>?_
 refine iL [_,_,_,_,_,_] (fun a w=>Env 17 [(16,(.bool ((decide (p0.kind=p1.kind))&&(decide (p0.text=p1.text)))))] a∧Hp Z ρ (Pt b2 (.cells #[(Iv p1.kind),(.string p1.text),(Iv p1.at_),(Iv p1.fin),aJ] 24 (0,0))::Pt b1 (.cells #[(Iv p0.kind),(.string p0.text),(Iv p0.at_),(Iv p0.fin),aI] 24 (0,0))::L) w) ?_ ?_
 ·rcases Bool.eq_false_or_eq_true (decide (p0.kind=p1.kind)) with hc1|hc1
  ·
   refine G hE hp hc1 rfl (xf hE wV rfl rfl) fun a hE=>G hE hp hc1 rfl (xl hE xR 1 rfl rfl rfl rfl) fun a hE=>G hE hp hc1 rfl (xf hE wV rfl rfl) fun a hE=>G hE hp hc1 rfl (xl hE xR 0 rfl rfl rfl rfl) fun a hE=>G hE hp hc1 rfl (v:=(.bool (decide (p0.text=p1.text)))) (ex_seql rfl hE rfl rfl) fun a hE=>pk1 hE hc1 rfl rfl rfl rfl fun a hE=>?_
   have hE:=hE.eqv (v':=(.bool ((decide (p0.kind=p1.kind))&&(decide (p0.text=p1.text))))) (by rw[hc1];rfl)
   exact aB ⟨hE.cut ⟨rfl,trivial⟩,hp⟩
  refine Gk hE hc1 rfl fun a hE=>Gk hE hc1 rfl fun a hE=>Gk hE hc1 rfl fun a hE=>Gk hE hc1 rfl fun a hE=>Gk hE hc1 rfl fun a hE=>pk0 hE hc1 rfl rfl rfl rfl fun a hE=>?_
  have hE:=hE.eqv (v':=(.bool ((decide (p0.kind=p1.kind))&&(decide (p0.text=p1.text))))) (by rw[hc1];rfl)
  exact aB ⟨hE.cut ⟨rfl,trivial⟩,hp⟩
 rintro a w ⟨hE,hp⟩
 refine S hE 1 rfl fun a hE=>aB (bZ ?_)
 obtain rfl:=oj hm
 exact gJ hE rfl rfl ⟨_,rfl,rfl,(((hp.get 1 rfl).drop).drop)⟩
theorem aD1 (self:Node→Int→Nmb→Option Nmb) (hself:∀{Z:World} {ρ:PH} {L:List bK} {w:World} (p0:Node) (aI:Value) (bD:aH ρ aI p0.kids) (p1:Int) (bcp0:Nat) (cp0:Nmb) (lG:Value) (iR:List Value) (iK:Value) (eU:Value) (hRcp0_nodes:fV ρ (cp0.nodes:List Node) iR) (bcp1:Nat) (hp:Hp Z ρ (Pt bcp0 (.cells #[lG,iK,eU] 75 (0,0))::qG 24 lG (cp0.nodes:(List Node)) iR::aC 3 iK cp0.sizes::aC 3 eU cp0.parent::Pt bcp1 (.cells #[(.func (.func 63) #[] #[(Pv bcp0 0),(Pv bcp1 0)])] 110 (0,0))::L) w) (r:Nmb) (hm:self p0 p1 cp0=some r),Calls Tryz.prog 63 #[(.agg #[(Iv p0.kind),(.string p0.text),(Iv p0.at_),(Iv p0.fin),aI]),(Iv p1),(Pv bcp0 0),(Pv bcp1 0)] w (Ret fun v w'=>∃(pJ:Value) (nK:List Value) (pK:Value) (nH:Value),v= .tuple #[]∧fV ρ (r.nodes:List Node) nK∧Hp Z ρ (Pt bcp0 (.cells #[pJ,pK,nH] 75 (0,0))::qG 24 pJ (r.nodes:(List Node)) nK::aC 3 pK r.sizes::aC 3 nH r.parent::Pt bcp1 (.cells #[(.func (.func 63) #[] #[(Pv bcp0 0),(Pv bcp1 0)])] 110 (0,0))::L) w')) {Z:World} {ρ:PH} {L:List bK} {w:World} (p0:Node) (aI:Value) (bD:aH ρ aI p0.kids) (p1:Int) (bcp0:Nat) (cp0:Nmb) (lG:Value) (iR:List Value) (iK:Value) (eU:Value) (hRcp0_nodes:fV ρ (cp0.nodes:List Node) iR) (bcp1:Nat) (hp:Hp Z ρ (Pt bcp0 (.cells #[lG,iK,eU] 75 (0,0))::qG 24 lG (cp0.nodes:(List Node)) iR::aC 3 iK cp0.sizes::aC 3 eU cp0.parent::Pt bcp1 (.cells #[(.func (.func 63) #[] #[(Pv bcp0 0),(Pv bcp1 0)])] 110 (0,0))::L) w) (r:Nmb) (hm:qX self p0 p1 cp0=some r):
  Calls Tryz.prog 63 #[(.agg #[(Iv p0.kind),(.string p0.text),(Iv p0.at_),(Iv p0.fin),aI]),(Iv p1),(Pv bcp0 0),(Pv bcp1 0)] w (Ret fun v w'=>∃(pJ:Value) (nK:List Value) (pK:Value) (nH:Value),v= .tuple #[]∧fV ρ (r.nodes:List Node) nK∧Hp Z ρ (Pt bcp0 (.cells #[pJ,pK,nH] 75 (0,0))::qG 24 pJ (r.nodes:(List Node)) nK::aC 3 pK r.sizes::aC 3 nH r.parent::Pt bcp1 (.cells #[(.func (.func 63) #[] #[(Pv bcp0 0),(Pv bcp1 0)])] 110 (0,0))::L) w'):=by
 refine enter (N:=43) Tryz.func63 rfl rfl [(0,(.agg #[(Iv p0.kind),(.string p0.text),(Iv p0.at_),(Iv p0.fin),aI])),(1,(Iv p1)),(2,(Pv bcp0 0)),(3,(Pv bcp1 0))] rfl (bC ⟨rfl,rfl,rfl,rfl,trivial⟩) fun a hE=>?_
 unfold qX at hm
 refine aG (aA ?_)
 refine iI (wk0 rfl) rfl rfl hE hp rfl (v:=(.agg #[(Iv p0.kind),(.string p0.text),(Iv p0.at_),(Iv p0.fin),aI])) rfl ?_
 intro a w b1 hE hp
 have hp:=r6 hp
 refine aB (aG ?_)
 refine aA (V hE hp rfl (xf hE kK rfl rfl) fun a hE=>?_)
 refine V hE hp rfl (xl hE iT 1 rfl rfl rfl rfl) fun a hE=>V hE hp rfl (bT rfl hE rfl (qG.len hp 2 rfl jI)) fun a hE=>S hE 1 rfl fun a hE=>aB (aG ?_)
 obtain⟨x1,ex1,hm⟩:=bnd hm
 obtain⟨x2,ex2,hm⟩:=bnd hm
 obtain⟨x3,ex3,hm⟩:=bnd hm
 obtain⟨x4,ex4,hm⟩:=bnd hm
 have hp:=hp.drew
 refine fG ([([],At0 Z ρ),([],At1 Z ρ (Pt b1 (.cells #[(Iv p0.kind),(.string p0.text),(Iv p0.at_),(Iv p0.fin),aI] 24 (0,0)))),([17,19,21],At1 Z ρ (Pt bcp0 (.cells #[lG,iK,eU] 75 (0,0))))]:Facts) (fun a w=>∃y12:Nat,∃y11:Nat,∃y10:Nat,∃y3:Value,∃y4:Value,∃y2:Value,∃yxs2:List Value,fV ρ (x1:(List Node)) yxs2∧Env 43 [(3,(Pv bcp1 0)),(4,(Pv b1 0)),(6,(Iv (cp0.nodes.length:Int)))] a∧Hp Z ρ (Pt y12 (.cells #[(Iv p1)] 3 (0,0))::Pt y11 (.cells #[(Iv x2)] 3 (0,0))::Pt y10 (.cells #[(Iv p0.kind),(.string p0.text),(Iv p0.at_),(Iv p0.fin),aI] 24 (0,0))::Pt b1 (.cells #[(Iv p0.kind),(.string p0.text),(Iv p0.at_),(Iv p0.fin),aI] 24 (0,0))::Pt bcp0 (.cells #[y2,y3,y4] 75 (0,0))::qG 24 y2 (x1:(List Node)) yxs2::aC 3 y3 x3::aC 3 y4 x4::Pt bcp1 (.cells #[(.func (.func 63) #[] #[(Pv bcp0 0),(Pv bcp1 0)])] 110 (0,0))::L) w) (by kernel_rfl) ⟨fun _=>⟨_,hp⟩,fun _=>⟨_,(hp.get 0 rfl)⟩,fun _=>⟨_,(hp.get 1 rfl)⟩,trivial⟩ (fun hS=>?_) ?_
 ·
  generalize w.drew=w at hS hp⊢
  refine T0 0 hE hS rfl rfl rfl (by kernel_rfl) (fun _=>xf hE kK rfl rfl) fun a hE hS=>T 1 2 hE hS rfl rfl rfl (by kernel_rfl) (fun _=>xl hE iT 0 rfl rfl rfl rfl) fun a hE hS=>T 2 1 hE hS rfl rfl rfl (by kernel_rfl) (fun _=>aK rfl hE rfl (fun w hw=>aW (cs:=[(Iv p0.kind),(.string p0.text),(Iv p0.at_),(Iv p0.fin),aI]) bY (Hp.cN 0 rfl 0 _ (aS rfl) w hw))) fun a hE hS=>T0 5 hE hS rfl rfl rfl (by kernel_rfl) (fun _=>xf hE uY rfl rfl) fun a hE hS=>T 6 2 hE hS rfl rfl rfl (by kernel_rfl) (fun _=>xl hE aY 0 rfl rfl rfl rfl) fun a hE hS=>T 7 1 hE hS rfl rfl rfl (by kernel_rfl) (fun _=>aK rfl hE rfl (fun w hw=>aW (cs:=[(Iv p0.kind),(.string p0.text),(Iv p0.at_),(Iv p0.fin),aI]) bY (Hp.cN 0 rfl 0 _ (aS rfl) w hw))) fun a hE hS=>T0 11 hE hS rfl rfl rfl (by kernel_rfl) (fun _=>xf hE pO rfl rfl) fun a hE hS=>T 12 2 hE hS rfl rfl rfl (by kernel_rfl) (fun _=>xl hE aY 0 rfl rfl rfl rfl) fun a hE hS=>Ts [13] hE hS rfl rfl (by kernel_rfl) fun a hE hS=>?_
  refine gW [3,14] (by kernel_rfl) rfl ?_
  refine List.forall_mem_cons.2 ⟨?_,List.forall_mem_cons.2 ⟨?_,fun _ h=>absurd h (by simp)⟩⟩
  ·
   refine dX rfl ?_
   refine fP (wk0 rfl) rfl rfl hE hp rfl [(0,(.agg #[(Iv p0.kind),(.string p0.text),(Iv p0.at_),(Iv p0.fin),aI]))] ⟨⟨rfl,rfl⟩,trivial⟩ [(Iv p0.kind),(.string p0.text),(Iv p0.at_),(Iv p0.fin),aI] 24 (fun w=>by have hc0:=aH.cells bD;simp only[Value.cells] at hc0;simp[Instr.buildSlice,Instr.fill,Value.cells,hc0,go_sem]) ?_
   intro a w b5 hE hp
   have hp:=r7 hp
   refine aB (aF ⟨gp0 hp,gp 1 hp rfl,gp 2 hp rfl,trivial⟩ fun hS=>?_)
   refine gW [4,14] (by kernel_rfl) rfl ?_
   refine List.forall_mem_cons.2 ⟨?_,List.forall_mem_cons.2 ⟨?_,fun _ h=>absurd h (by simp)⟩⟩
   ·
    refine dX rfl ?_
    have hR4:fV ρ ([p0]:List Node) [(Iv p0.kind),(.string p0.text),(Iv p0.at_),(Iv p0.fin),aI]:=⟨_,_,rfl,(show NodeAt ρ p0 [(Iv p0.kind),(.string p0.text),(Iv p0.at_),(Iv p0.fin),aI] from NodeAt.shutv (bD)),rfl⟩
    have hR3:fV ρ x1 (iR++[(Iv p0.kind),(.string p0.text),(Iv p0.at_),(Iv p0.fin),aI]):=(O8 ex1).2▸fV.app hRcp0_nodes hR4
    refine s_appR (wk0 rfl) rfl rfl hE hp rfl jI rfl rfl 3 rfl rfl (l2:=[p0]) (ys:=[(Iv p0.kind),(.string p0.text),(Iv p0.at_),(Iv p0.fin),aI]) rfl hR4 (fun j u hj=>by have:=Hp.cN 0 rfl 0 _ (aS rfl) w hp j u hj;simpa using this) ex1 ?_
    intro v4 a w hE hp
    have hp:=r7 hp
    refine aB (aF ⟨gp0 hp,gp 1 hp rfl,gp 2 hp rfl,trivial⟩ fun hS=>?_)
    refine T0 16 hE hS rfl rfl rfl (by kernel_rfl) (fun _=>xf hE kK rfl rfl) fun a hE hS=>?_
    refine gW [8,14] (by kernel_rfl) rfl ?_
    refine List.forall_mem_cons.2 ⟨?_,List.forall_mem_cons.2 ⟨?_,fun _ h=>absurd h (by simp)⟩⟩
    ·
     refine dX rfl ?_
     refine Cl hE rfl rfl ent64 (aF9 p0 aI bD hp x2 ex2) ⟨rfl,trivial⟩ fun v a w hR hE=>?_
     obtain⟨rfl,hp⟩:=hR
     have hp:=r7 hp
     refine aB (aF ⟨gp0 hp,gp 1 hp rfl,gp 2 hp rfl,trivial⟩ fun hS=>?_)
     refine gW [9,14] (by kernel_rfl) rfl ?_
     refine List.forall_mem_cons.2 ⟨?_,List.forall_mem_cons.2 ⟨?_,fun _ h=>absurd h (by simp)⟩⟩
     ·
      refine dX rfl ?_
      refine fP (wk0 rfl) rfl rfl hE hp rfl [(0,(Iv x2))] ⟨⟨rfl,rfl⟩,trivial⟩ [(Iv x2)] 3 (fun w=>by simp[Instr.buildSlice,Instr.fill,Value.cells,go_sem]) ?_
      intro a w b6 hE hp
      have hp:=r8 hp
      refine aB (aF ⟨gp0 hp,gp 2 hp rfl,gp 3 hp rfl,trivial⟩ fun hS=>?_)
      refine gW [10,14] (by kernel_rfl) rfl ?_
      refine List.forall_mem_cons.2 ⟨?_,List.forall_mem_cons.2 ⟨?_,fun _ h=>absurd h (by simp)⟩⟩
      ·
       refine dX rfl ?_
       refine fU (wk0 rfl) rfl rfl hE hp rfl bI rfl rfl 5 rfl rfl (l2:=[x2]) rfl (fun j u hj=>by have:=Hp.cN 0 rfl 0 _ (aS rfl) w hp j u hj;simpa using this) ex3 ?_
       intro v5 a w hE hp
       have hp:=r8 hp
       refine aB (aF ⟨gp0 hp,gp 2 hp rfl,gp 3 hp rfl,trivial⟩ fun hS=>?_)
       refine W1 14 (by kernel_rfl) rfl ?_
       refine fP (wk0 rfl) rfl rfl hE hp rfl [(0,(Iv p1))] ⟨⟨rfl,rfl⟩,trivial⟩ [(Iv p1)] 3 (fun w=>by simp[Instr.buildSlice,Instr.fill,Value.cells,go_sem]) ?_
       intro a w b7 hE hp
       have hp:=r9 hp
       refine aB (aF ⟨gp0 hp,gp 3 hp rfl,gp 4 hp rfl,trivial⟩ fun hS=>?_)
       refine W1 15 (by kernel_rfl) rfl ?_
       refine fU (wk0 rfl) rfl rfl hE hp rfl bI rfl rfl 7 rfl rfl (l2:=[p1]) rfl (fun j u hj=>by have:=Hp.cN 0 rfl 0 _ (aS rfl) w hp j u hj;simpa using this) ex4 ?_
       intro v6 a w hE hp
       have hp:=r9 hp
       refine aB (aF ⟨gp0 hp,gp 3 hp rfl,gp 4 hp rfl,trivial⟩ fun hS=>?_)
       refine W1 17 (by kernel_rfl) rfl ?_
       refine bQ (wk0 rfl) rfl hE hp rfl rfl rfl 4 rfl iT.size_ (qG.cells hp 5 rfl) (qG.one hp 5 rfl) rfl [v4,iK,eU] rfl ?_
       intro w hp
       have hp:=r9 hp
       refine aB (aF ⟨gp0 hp,gp 3 hp rfl,dead (by kernel_rfl),trivial⟩ fun hS=>?_)
       refine T0 18 hE hS rfl rfl rfl (by kernel_rfl) (fun _=>xf hE uY rfl rfl) fun a hE hS=>?_
       refine W1 19 (by kernel_rfl) rfl ?_
       refine bQ (wk0 rfl) rfl hE hp rfl rfl rfl 4 rfl aY.size_ (aC.cells hp 6 rfl) (aC.one hp 6 rfl) rfl [v4,v5,eU] rfl ?_
       intro w hp
       have hp:=r9 hp
       refine aB (aF ⟨gp0 hp,gp 3 hp rfl,dead (by kernel_rfl),trivial⟩ fun hS=>?_)
       refine T0 20 hE hS rfl rfl rfl (by kernel_rfl) (fun _=>xf hE pO rfl rfl) fun a hE hS=>?_
       refine W1 21 (by kernel_rfl) rfl ?_
       refine bQ (wk0 rfl) rfl hE hp rfl rfl rfl 4 rfl aY.size_ (aC.cells hp 7 rfl) (aC.one hp 7 rfl) rfl [v4,v5,v6] rfl ?_
       intro w hp
       have hp:=r9 hp
       refine aB (aF ⟨gp0 hp,gp 3 hp rfl,dead (by kernel_rfl),trivial⟩ fun hS=>?_)
       exact bP (by kernel_rfl) ⟨_,_,_,_,_,_,_,hR3,hE.cut ⟨rfl,rfl,rfl,trivial⟩,hp⟩
      refine dX rfl ?_
      refine fP (wk0 rfl) rfl rfl hE hp rfl [(0,(Iv p1))] ⟨⟨rfl,rfl⟩,trivial⟩ [(Iv p1)] 3 (fun w=>by simp[Instr.buildSlice,Instr.fill,Value.cells,go_sem]) ?_
      intro a w b8 hE hp
      have hp:=r9 hp
      refine aB (aF ⟨gp0 hp,gp 3 hp rfl,gp 4 hp rfl,trivial⟩ fun hS=>?_)
      refine W1 10 (by kernel_rfl) rfl ?_
      refine fU (wk0 rfl) rfl rfl hE hp rfl bI rfl rfl 6 rfl rfl (l2:=[x2]) rfl (fun j u hj=>by have:=Hp.cN 1 rfl 0 _ (aS rfl) w hp j u hj;simpa using this) ex3 ?_
      intro v7 a w hE hp
      have hp:=r9 hp
      refine aB (aF ⟨gp0 hp,gp 3 hp rfl,gp 4 hp rfl,trivial⟩ fun hS=>?_)
      refine W1 15 (by kernel_rfl) rfl ?_
      refine fU (wk0 rfl) rfl rfl hE hp rfl bI rfl rfl 7 rfl rfl (l2:=[p1]) rfl (fun j u hj=>by have:=Hp.cN 0 rfl 0 _ (aS rfl) w hp j u hj;simpa using this) ex4 ?_
      intro v8 a w hE hp
      have hp:=r9 hp
      refine aB (aF ⟨gp0 hp,gp 3 hp rfl,gp 4 hp rfl,trivial⟩ fun hS=>?_)
      refine W1 17 (by kernel_rfl) rfl ?_
      refine bQ (wk0 rfl) rfl hE hp rfl rfl rfl 4 rfl iT.size_ (qG.cells hp 5 rfl) (qG.one hp 5 rfl) rfl [v4,iK,eU] rfl ?_
      intro w hp
      have hp:=r9 hp
      refine aB (aF ⟨gp0 hp,gp 3 hp rfl,dead (by kernel_rfl),trivial⟩ fun hS=>?_)
      refine T0 18 hE hS rfl rfl rfl (by kernel_rfl) (fun _=>xf hE uY rfl rfl) fun a hE hS=>?_
      refine W1 19 (by kernel_rfl) rfl ?_
      refine bQ (wk0 rfl) rfl hE hp rfl rfl rfl 4 rfl aY.size_ (aC.cells hp 6 rfl) (aC.one hp 6 rfl) rfl [v4,v7,eU] rfl ?_
      intro w hp
      have hp:=r9 hp
      refine aB (aF ⟨gp0 hp,gp 3 hp rfl,dead (by kernel_rfl),trivial⟩ fun hS=>?_)
      refine T0 20 hE hS rfl rfl rfl (by kernel_rfl) (fun _=>xf hE pO rfl rfl) fun a hE hS=>?_
      refine W1 21 (by kernel_rfl) rfl ?_
      refine bQ (wk0 rfl) rfl hE hp rfl rfl rfl 4 rfl aY.size_ (aC.cells hp 7 rfl) (aC.one hp 7 rfl) rfl [v4,v7,v8] rfl ?_
      intro w hp
      have hp:=r9 hp
      refine aB (aF ⟨gp0 hp,gp 3 hp rfl,dead (by kernel_rfl),trivial⟩ fun hS=>?_)
      exact bP (by kernel_rfl) ⟨_,_,_,_,_,_,_,hR3,hE.cut ⟨rfl,rfl,rfl,trivial⟩,hp⟩
     refine dX rfl ?_
     refine fP (wk0 rfl) rfl rfl hE hp rfl [(0,(Iv p1))] ⟨⟨rfl,rfl⟩,trivial⟩ [(Iv p1)] 3 (fun w=>by simp[Instr.buildSlice,Instr.fill,Value.cells,go_sem]) ?_
     intro a w b9 hE hp
     have hp:=r8 hp
     refine aB (aF ⟨gp0 hp,gp 2 hp rfl,gp 3 hp rfl,trivial⟩ fun hS=>?_)
     refine W1 9 (by kernel_rfl) rfl ?_
     refine fP (wk0 rfl) rfl rfl hE hp rfl [(0,(Iv x2))] ⟨⟨rfl,rfl⟩,trivial⟩ [(Iv x2)] 3 (fun w=>by simp[Instr.buildSlice,Instr.fill,Value.cells,go_sem]) ?_
     intro a w b10 hE hp
     have hp:=r9 hp
     refine aB (aF ⟨gp0 hp,gp 3 hp rfl,gp 4 hp rfl,trivial⟩ fun hS=>?_)
     refine W1 10 (by kernel_rfl) rfl ?_
     refine fU (wk0 rfl) rfl rfl hE hp rfl bI rfl rfl 6 rfl rfl (l2:=[x2]) rfl (fun j u hj=>by have:=Hp.cN 0 rfl 0 _ (aS rfl) w hp j u hj;simpa using this) ex3 ?_
     intro v9 a w hE hp
     have hp:=r9 hp
     refine aB (aF ⟨gp0 hp,gp 3 hp rfl,gp 4 hp rfl,trivial⟩ fun hS=>?_)
     refine W1 15 (by kernel_rfl) rfl ?_
     refine fU (wk0 rfl) rfl rfl hE hp rfl bI rfl rfl 7 rfl rfl (l2:=[p1]) rfl (fun j u hj=>by have:=Hp.cN 1 rfl 0 _ (aS rfl) w hp j u hj;simpa using this) ex4 ?_
     intro v10 a w hE hp
     have hp:=r9 hp
     refine aB (aF ⟨gp0 hp,gp 3 hp rfl,gp 4 hp rfl,trivial⟩ fun hS=>?_)
     refine W1 17 (by kernel_rfl) rfl ?_
     refine bQ (wk0 rfl) rfl hE hp rfl rfl rfl 4 rfl iT.size_ (qG.cells hp 5 rfl) (qG.one hp 5 rfl) rfl [v4,iK,eU] rfl ?_
     intro w hp
     have hp:=r9 hp
     refine aB (aF ⟨gp0 hp,gp 3 hp rfl,dead (by kernel_rfl),trivial⟩ fun hS=>?_)
     refine T0 18 hE hS rfl rfl rfl (by kernel_rfl) (fun _=>xf hE uY rfl rfl) fun a hE hS=>?_
     refine W1 19 (by kernel_rfl) rfl ?_
     refine bQ (wk0 rfl) rfl hE hp rfl rfl rfl 4 rfl aY.size_ (aC.cells hp 6 rfl) (aC.one hp 6 rfl) rfl [v4,v9,eU] rfl ?_
     intro w hp
     have hp:=r9 hp
     refine aB (aF ⟨gp0 hp,gp 3 hp rfl,dead (by kernel_rfl),trivial⟩ fun hS=>?_)
     refine T0 20 hE hS rfl rfl rfl (by kernel_rfl) (fun _=>xf hE pO rfl rfl) fun a hE hS=>?_
     refine W1 21 (by kernel_rfl) rfl ?_
     refine bQ (wk0 rfl) rfl hE hp rfl rfl rfl 4 rfl aY.size_ (aC.cells hp 7 rfl) (aC.one hp 7 rfl) rfl [v4,v9,v10] rfl ?_
     intro w hp
     have hp:=r9 hp
     refine aB (aF ⟨gp0 hp,gp 3 hp rfl,dead (by kernel_rfl),trivial⟩ fun hS=>?_)
     exact bP (by kernel_rfl) ⟨_,_,_,_,_,_,_,hR3,hE.cut ⟨rfl,rfl,rfl,trivial⟩,(((((((((hp.get 8 rfl).get 8 rfl).get 8 rfl).get 8 rfl).get 8 rfl).get 8 rfl).get 8 rfl).get 7 rfl).get 8 rfl)⟩
    refine dX rfl ?_
    refine fP (wk0 rfl) rfl rfl hE hp rfl [(0,(Iv p1))] ⟨⟨rfl,rfl⟩,trivial⟩ [(Iv p1)] 3 (fun w=>by simp[Instr.buildSlice,Instr.fill,Value.cells,go_sem]) ?_
    intro a w b11 hE hp
    have hp:=r8 hp
    refine aB (aF ⟨gp0 hp,gp 2 hp rfl,gp 3 hp rfl,trivial⟩ fun hS=>?_)
    refine W1 8 (by kernel_rfl) rfl ?_
    refine Cl hE rfl rfl ent64 (aF9 p0 aI bD hp x2 ex2) ⟨rfl,trivial⟩ fun v a w hR hE=>?_
    obtain⟨rfl,hp⟩:=hR
    have hp:=r8 hp
    refine aB (aF ⟨gp0 hp,gp 2 hp rfl,gp 3 hp rfl,trivial⟩ fun hS=>?_)
    refine W1 9 (by kernel_rfl) rfl ?_
    refine fP (wk0 rfl) rfl rfl hE hp rfl [(0,(Iv x2))] ⟨⟨rfl,rfl⟩,trivial⟩ [(Iv x2)] 3 (fun w=>by simp[Instr.buildSlice,Instr.fill,Value.cells,go_sem]) ?_
    intro a w b12 hE hp
    have hp:=r9 hp
    refine aB (aF ⟨gp0 hp,gp 3 hp rfl,gp 4 hp rfl,trivial⟩ fun hS=>?_)
    refine W1 10 (by kernel_rfl) rfl ?_
    refine fU (wk0 rfl) rfl rfl hE hp rfl bI rfl rfl 6 rfl rfl (l2:=[x2]) rfl (fun j u hj=>by have:=Hp.cN 0 rfl 0 _ (aS rfl) w hp j u hj;simpa using this) ex3 ?_
    intro v11 a w hE hp
    have hp:=r9 hp
    refine aB (aF ⟨gp0 hp,gp 3 hp rfl,gp 4 hp rfl,trivial⟩ fun hS=>?_)
    refine W1 15 (by kernel_rfl) rfl ?_
    refine fU (wk0 rfl) rfl rfl hE hp rfl bI rfl rfl 7 rfl rfl (l2:=[p1]) rfl (fun j u hj=>by have:=Hp.cN 1 rfl 0 _ (aS rfl) w hp j u hj;simpa using this) ex4 ?_
    intro v12 a w hE hp
    have hp:=r9 hp
    refine aB (aF ⟨gp0 hp,gp 3 hp rfl,gp 4 hp rfl,trivial⟩ fun hS=>?_)
    refine W1 17 (by kernel_rfl) rfl ?_
    refine bQ (wk0 rfl) rfl hE hp rfl rfl rfl 4 rfl iT.size_ (qG.cells hp 5 rfl) (qG.one hp 5 rfl) rfl [v4,iK,eU] rfl ?_
    intro w hp
    have hp:=r9 hp
    refine aB (aF ⟨gp0 hp,gp 3 hp rfl,dead (by kernel_rfl),trivial⟩ fun hS=>?_)
    refine T0 18 hE hS rfl rfl rfl (by kernel_rfl) (fun _=>xf hE uY rfl rfl) fun a hE hS=>?_
    refine W1 19 (by kernel_rfl) rfl ?_
    refine bQ (wk0 rfl) rfl hE hp rfl rfl rfl 4 rfl aY.size_ (aC.cells hp 6 rfl) (aC.one hp 6 rfl) rfl [v4,v11,eU] rfl ?_
    intro w hp
    have hp:=r9 hp
    refine aB (aF ⟨gp0 hp,gp 3 hp rfl,dead (by kernel_rfl),trivial⟩ fun hS=>?_)
    refine T0 20 hE hS rfl rfl rfl (by kernel_rfl) (fun _=>xf hE pO rfl rfl) fun a hE hS=>?_
    refine W1 21 (by kernel_rfl) rfl ?_
    refine bQ (wk0 rfl) rfl hE hp rfl rfl rfl 4 rfl aY.size_ (aC.cells hp 7 rfl) (aC.one hp 7 rfl) rfl [v4,v11,v12] rfl ?_
    intro w hp
    have hp:=r9 hp
    refine aB (aF ⟨gp0 hp,gp 3 hp rfl,dead (by kernel_rfl),trivial⟩ fun hS=>?_)
    exact bP (by kernel_rfl) ⟨_,_,_,_,_,_,_,hR3,hE.cut ⟨rfl,rfl,rfl,trivial⟩,(((((((((hp.get 8 rfl).get 8 rfl).get 8 rfl).get 8 rfl).get 8 rfl).get 8 rfl).get 8 rfl).get 7 rfl).get 8 rfl)⟩
   refine dX rfl ?_
   refine fP (wk0 rfl) rfl rfl hE hp rfl [(0,(Iv p1))] ⟨⟨rfl,rfl⟩,trivial⟩ [(Iv p1)] 3 (fun w=>by simp[Instr.buildSlice,Instr.fill,Value.cells,go_sem]) ?_
   intro a w b13 hE hp
   have hp:=r8 hp
   refine aB (aF ⟨gp0 hp,gp 2 hp rfl,gp 3 hp rfl,trivial⟩ fun hS=>?_)
   refine W1 4 (by kernel_rfl) rfl ?_
   have hR6:fV ρ ([p0]:List Node) [(Iv p0.kind),(.string p0.text),(Iv p0.at_),(Iv p0.fin),aI]:=⟨_,_,rfl,(show NodeAt ρ p0 [(Iv p0.kind),(.string p0.text),(Iv p0.at_),(Iv p0.fin),aI] from NodeAt.shutv (bD)),rfl⟩
   have hR5:fV ρ x1 (iR++[(Iv p0.kind),(.string p0.text),(Iv p0.at_),(Iv p0.fin),aI]):=(O8 ex1).2▸fV.app hRcp0_nodes hR6
   refine s_appR (wk0 rfl) rfl rfl hE hp rfl jI rfl rfl 4 rfl rfl (l2:=[p0]) (ys:=[(Iv p0.kind),(.string p0.text),(Iv p0.at_),(Iv p0.fin),aI]) rfl hR6 (fun j u hj=>by have:=Hp.cN 1 rfl 0 _ (aS rfl) w hp j u hj;simpa using this) ex1 ?_
   intro v13 a w hE hp
   have hp:=r8 hp
   refine aB (aF ⟨gp0 hp,gp 2 hp rfl,gp 3 hp rfl,trivial⟩ fun hS=>?_)
   refine T0 16 hE hS rfl rfl rfl (by kernel_rfl) (fun _=>xf hE kK rfl rfl) fun a hE hS=>?_
   refine W1 8 (by kernel_rfl) rfl ?_
   refine Cl hE rfl rfl ent64 (aF9 p0 aI bD hp x2 ex2) ⟨rfl,trivial⟩ fun v a w hR hE=>?_
   obtain⟨rfl,hp⟩:=hR
   have hp:=r8 hp
   refine aB (aF ⟨gp0 hp,gp 2 hp rfl,gp 3 hp rfl,trivial⟩ fun hS=>?_)
   refine W1 9 (by kernel_rfl) rfl ?_
   refine fP (wk0 rfl) rfl rfl hE hp rfl [(0,(Iv x2))] ⟨⟨rfl,rfl⟩,trivial⟩ [(Iv x2)] 3 (fun w=>by simp[Instr.buildSlice,Instr.fill,Value.cells,go_sem]) ?_
   intro a w b14 hE hp
   have hp:=r9 hp
   refine aB (aF ⟨gp0 hp,gp 3 hp rfl,gp 4 hp rfl,trivial⟩ fun hS=>?_)
   refine W1 10 (by kernel_rfl) rfl ?_
   refine fU (wk0 rfl) rfl rfl hE hp rfl bI rfl rfl 6 rfl rfl (l2:=[x2]) rfl (fun j u hj=>by have:=Hp.cN 0 rfl 0 _ (aS rfl) w hp j u hj;simpa using this) ex3 ?_
   intro v14 a w hE hp
   have hp:=r9 hp
   refine aB (aF ⟨gp0 hp,gp 3 hp rfl,gp 4 hp rfl,trivial⟩ fun hS=>?_)
   refine W1 15 (by kernel_rfl) rfl ?_
   refine fU (wk0 rfl) rfl rfl hE hp rfl bI rfl rfl 7 rfl rfl (l2:=[p1]) rfl (fun j u hj=>by have:=Hp.cN 1 rfl 0 _ (aS rfl) w hp j u hj;simpa using this) ex4 ?_
   intro v15 a w hE hp
   have hp:=r9 hp
   refine aB (aF ⟨gp0 hp,gp 3 hp rfl,gp 4 hp rfl,trivial⟩ fun hS=>?_)
   refine W1 17 (by kernel_rfl) rfl ?_
   refine bQ (wk0 rfl) rfl hE hp rfl rfl rfl 4 rfl iT.size_ (qG.cells hp 5 rfl) (qG.one hp 5 rfl) rfl [v13,iK,eU] rfl ?_
   intro w hp
   have hp:=r9 hp
   refine aB (aF ⟨gp0 hp,gp 3 hp rfl,dead (by kernel_rfl),trivial⟩ fun hS=>?_)
   refine T0 18 hE hS rfl rfl rfl (by kernel_rfl) (fun _=>xf hE uY rfl rfl) fun a hE hS=>?_
   refine W1 19 (by kernel_rfl) rfl ?_
   refine bQ (wk0 rfl) rfl hE hp rfl rfl rfl 4 rfl aY.size_ (aC.cells hp 6 rfl) (aC.one hp 6 rfl) rfl [v13,v14,eU] rfl ?_
   intro w hp
   have hp:=r9 hp
   refine aB (aF ⟨gp0 hp,gp 3 hp rfl,dead (by kernel_rfl),trivial⟩ fun hS=>?_)
   refine T0 20 hE hS rfl rfl rfl (by kernel_rfl) (fun _=>xf hE pO rfl rfl) fun a hE hS=>?_
   refine W1 21 (by kernel_rfl) rfl ?_
   refine bQ (wk0 rfl) rfl hE hp rfl rfl rfl 4 rfl aY.size_ (aC.cells hp 7 rfl) (aC.one hp 7 rfl) rfl [v13,v14,v15] rfl ?_
   intro w hp
   have hp:=r9 hp
   refine aB (aF ⟨gp0 hp,gp 3 hp rfl,dead (by kernel_rfl),trivial⟩ fun hS=>?_)
   exact bP (by kernel_rfl) ⟨_,_,_,_,_,_,_,hR5,hE.cut ⟨rfl,rfl,rfl,trivial⟩,(((((((((hp.get 8 rfl).get 8 rfl).get 8 rfl).get 8 rfl).get 8 rfl).get 8 rfl).get 8 rfl).get 7 rfl).get 8 rfl)⟩
  refine dX rfl ?_
  refine fP (wk0 rfl) rfl rfl hE hp rfl [(0,(Iv p1))] ⟨⟨rfl,rfl⟩,trivial⟩ [(Iv p1)] 3 (fun w=>by simp[Instr.buildSlice,Instr.fill,Value.cells,go_sem]) ?_
  intro a w b15 hE hp
  have hp:=r7 hp
  refine aB (aF ⟨gp0 hp,gp 1 hp rfl,gp 2 hp rfl,trivial⟩ fun hS=>?_)
  refine W1 3 (by kernel_rfl) rfl ?_
  refine fP (wk0 rfl) rfl rfl hE hp rfl [(0,(.agg #[(Iv p0.kind),(.string p0.text),(Iv p0.at_),(Iv p0.fin),aI]))] ⟨⟨rfl,rfl⟩,trivial⟩ [(Iv p0.kind),(.string p0.text),(Iv p0.at_),(Iv p0.fin),aI] 24 (fun w=>by have hc0:=aH.cells bD;simp only[Value.cells] at hc0;simp[Instr.buildSlice,Instr.fill,Value.cells,hc0,go_sem]) ?_
  intro a w b16 hE hp
  have hp:=r8 hp
  refine aB (aF ⟨gp0 hp,gp 2 hp rfl,gp 3 hp rfl,trivial⟩ fun hS=>?_)
  refine W1 4 (by kernel_rfl) rfl ?_
  have hR8:fV ρ ([p0]:List Node) [(Iv p0.kind),(.string p0.text),(Iv p0.at_),(Iv p0.fin),aI]:=⟨_,_,rfl,(show NodeAt ρ p0 [(Iv p0.kind),(.string p0.text),(Iv p0.at_),(Iv p0.fin),aI] from NodeAt.shutv (bD)),rfl⟩
  have hR7:fV ρ x1 (iR++[(Iv p0.kind),(.string p0.text),(Iv p0.at_),(Iv p0.fin),aI]):=(O8 ex1).2▸fV.app hRcp0_nodes hR8
  refine s_appR (wk0 rfl) rfl rfl hE hp rfl jI rfl rfl 4 rfl rfl (l2:=[p0]) (ys:=[(Iv p0.kind),(.string p0.text),(Iv p0.at_),(Iv p0.fin),aI]) rfl hR8 (fun j u hj=>by have:=Hp.cN 0 rfl 0 _ (aS rfl) w hp j u hj;simpa using this) ex1 ?_
  intro v16 a w hE hp
  have hp:=r8 hp
  refine aB (aF ⟨gp0 hp,gp 2 hp rfl,gp 3 hp rfl,trivial⟩ fun hS=>?_)
  refine T0 16 hE hS rfl rfl rfl (by kernel_rfl) (fun _=>xf hE kK rfl rfl) fun a hE hS=>?_
  refine W1 8 (by kernel_rfl) rfl ?_
  refine Cl hE rfl rfl ent64 (aF9 p0 aI bD hp x2 ex2) ⟨rfl,trivial⟩ fun v a w hR hE=>?_
  obtain⟨rfl,hp⟩:=hR
  have hp:=r8 hp
  refine aB (aF ⟨gp0 hp,gp 2 hp rfl,gp 3 hp rfl,trivial⟩ fun hS=>?_)
  refine W1 9 (by kernel_rfl) rfl ?_
  refine fP (wk0 rfl) rfl rfl hE hp rfl [(0,(Iv x2))] ⟨⟨rfl,rfl⟩,trivial⟩ [(Iv x2)] 3 (fun w=>by simp[Instr.buildSlice,Instr.fill,Value.cells,go_sem]) ?_
  intro a w b17 hE hp
  have hp:=r9 hp
  refine aB (aF ⟨gp0 hp,gp 3 hp rfl,gp 4 hp rfl,trivial⟩ fun hS=>?_)
  refine W1 10 (by kernel_rfl) rfl ?_
  refine fU (wk0 rfl) rfl rfl hE hp rfl bI rfl rfl 6 rfl rfl (l2:=[x2]) rfl (fun j u hj=>by have:=Hp.cN 0 rfl 0 _ (aS rfl) w hp j u hj;simpa using this) ex3 ?_
  intro v17 a w hE hp
  have hp:=r9 hp
  refine aB (aF ⟨gp0 hp,gp 3 hp rfl,gp 4 hp rfl,trivial⟩ fun hS=>?_)
  refine W1 15 (by kernel_rfl) rfl ?_
  refine fU (wk0 rfl) rfl rfl hE hp rfl bI rfl rfl 7 rfl rfl (l2:=[p1]) rfl (fun j u hj=>by have:=Hp.cN 2 rfl 0 _ (aS rfl) w hp j u hj;simpa using this) ex4 ?_
  intro v18 a w hE hp
  have hp:=r9 hp
  refine aB (aF ⟨gp0 hp,gp 3 hp rfl,gp 4 hp rfl,trivial⟩ fun hS=>?_)
  refine W1 17 (by kernel_rfl) rfl ?_
  refine bQ (wk0 rfl) rfl hE hp rfl rfl rfl 4 rfl iT.size_ (qG.cells hp 5 rfl) (qG.one hp 5 rfl) rfl [v16,iK,eU] rfl ?_
  intro w hp
  have hp:=r9 hp
  refine aB (aF ⟨gp0 hp,gp 3 hp rfl,dead (by kernel_rfl),trivial⟩ fun hS=>?_)
  refine T0 18 hE hS rfl rfl rfl (by kernel_rfl) (fun _=>xf hE uY rfl rfl) fun a hE hS=>?_
  refine W1 19 (by kernel_rfl) rfl ?_
  refine bQ (wk0 rfl) rfl hE hp rfl rfl rfl 4 rfl aY.size_ (aC.cells hp 6 rfl) (aC.one hp 6 rfl) rfl [v16,v17,eU] rfl ?_
  intro w hp
  have hp:=r9 hp
  refine aB (aF ⟨gp0 hp,gp 3 hp rfl,dead (by kernel_rfl),trivial⟩ fun hS=>?_)
  refine T0 20 hE hS rfl rfl rfl (by kernel_rfl) (fun _=>xf hE pO rfl rfl) fun a hE hS=>?_
  refine W1 21 (by kernel_rfl) rfl ?_
  refine bQ (wk0 rfl) rfl hE hp rfl rfl rfl 4 rfl aY.size_ (aC.cells hp 7 rfl) (aC.one hp 7 rfl) rfl [v16,v17,v18] rfl ?_
  intro w hp
  have hp:=r9 hp
  refine aB (aF ⟨gp0 hp,gp 3 hp rfl,dead (by kernel_rfl),trivial⟩ fun hS=>?_)
  exact bP (by kernel_rfl) ⟨_,_,_,_,_,_,_,hR7,hE.cut ⟨rfl,rfl,rfl,trivial⟩,(((((((((hp.get 8 rfl).get 8 rfl).get 8 rfl).get 8 rfl).get 8 rfl).get 8 rfl).get 7 rfl).get 7 rfl).get 8 rfl)⟩
 rintro a w ⟨y12,y11,y10,y3,y4,y2,yxs2,yhR2,hE,hp⟩
 refine aG (aA ?_)
 refine V hE hp rfl (xf hE sU rfl rfl) fun a hE=>V hE hp rfl (xl hE iT 3 rfl rfl rfl rfl) fun a hE=>V hE hp rfl (bT rfl hE rfl (aH.len bD jI)) fun a hE=>S hE 1 rfl fun a hE=>aB ?_
 obtain⟨b18,hc1,hm⟩:=bnd hm
 refine dH (fun a w=>∃(w2:Value) (xs2:List Value) (w3:Value) (w4:Value),fV ρ (b18.1:(List Node)) xs2∧Env 43 [] a∧Hp Z ρ (Pt y12 (.cells #[(Iv p1)] 3 (0,0))::Pt y11 (.cells #[(Iv x2)] 3 (0,0))::Pt y10 (.cells #[(Iv p0.kind),(.string p0.text),(Iv p0.at_),(Iv p0.fin),aI] 24 (0,0))::Pt b1 (.cells #[(Iv p0.kind),(.string p0.text),(Iv p0.at_),(Iv p0.fin),aI] 24 (0,0))::Pt bcp0 (.cells #[w2,w3,w4] 75 (0,0))::qG 24 w2 (b18.1:(List Node)) xs2::aC 3 w3 b18.2.1::aC 3 w4 b18.2.2::Pt bcp1 (.cells #[(.func (.func 63) #[] #[(Pv bcp0 0),(Pv bcp1 0)])] 110 (0,0))::L) w) ?_ ?_
 ·refine dZ hc1 (fun s a w=>∃(w2:Value) (xs2:List Value) (w3:Value) (w4:Value),fV ρ (s.2.1:(List Node)) xs2∧Env 43 [(3,(Pv bcp1 0)),(6,(Iv (cp0.nodes.length:Int))),(32,aI),(33,(Iv (p0.kids.length:Int))),(34,(Iv s.1))] a∧Hp Z ρ (Pt y12 (.cells #[(Iv p1)] 3 (0,0))::Pt y11 (.cells #[(Iv x2)] 3 (0,0))::Pt y10 (.cells #[(Iv p0.kind),(.string p0.text),(Iv p0.at_),(Iv p0.fin),aI] 24 (0,0))::Pt b1 (.cells #[(Iv p0.kind),(.string p0.text),(Iv p0.at_),(Iv p0.fin),aI] 24 (0,0))::Pt bcp0 (.cells #[w2,w3,w4] 75 (0,0))::qG 24 w2 (s.2.1:(List Node)) xs2::aC 3 w3 s.2.2.1::aC 3 w4 s.2.2.2::Pt bcp1 (.cells #[(.func (.func 63) #[] #[(Pv bcp0 0),(Pv bcp1 0)])] 110 (0,0))::L) w) ?_ ?_
  ·exact⟨_,_,_,_,yhR2,hE.cut ⟨rfl,rfl,rfl,rfl,rfl,trivial⟩,hp⟩
  rintro⟨aP,aU,dR,fQ⟩ st a w ⟨w2,xs2,w3,w4,hR2w,hE,hp⟩ hl1
  dsimp only at hE hp hR2w hl1
  unfold oC at hl1
  refine aG (aA ?_)
  refine S hE 1 rfl fun a hE=>aB (aG ?_)
  refine dE hE rfl (fun hc2=>?_) (fun hc2=>?_)
  ·replace hl1:=(it hc2).symm.trans hl1
   refine aZ (aG ?_)
   refine dM (aG ?_)
   refine aA ?_
   obtain⟨x5,ex5,hl1⟩:=bnd hl1
   obtain⟨b19,b19o,b19c,b19r,b19k,b19f⟩:=aH.at bD jI ex5
   obtain⟨N9,rfl,hb19_kids⟩:=NodeAt.opens b19k
   have b19f:AtP ρ b19 b19o [(Iv x5.kind),(.string x5.text),(Iv x5.at_),(Iv x5.fin),N9]:=b19f
   refine V hE hp rfl (aN rfl hE rfl rfl b19r) fun a hE=>V hE hp rfl (aK rfl hE rfl (fun w hw=>aW (cs:=[(Iv x5.kind),(.string x5.text),(Iv x5.at_),(Iv x5.fin),N9]) bY (fun j u hj=>cell_of hw.le (b19f j u hj)))) fun a hE=>?_
   refine dL (wk0 rfl) rfl rfl hE hp rfl [(Iv 0),(.string ByteArray.empty),(Iv 0),(Iv 0),N0] (fun w=>by simp[Instr.alloc,go_sem]<;>rfl) ?_
   intro a w b20 hE hp
   have hp:=r10 hp
   refine aX (wk0 rfl) rfl hE hp rfl rfl rfl 0 rfl bY.size_ rfl (aQ ⟨rfl,rfl,rfl,rfl,(aH.one hb19_kids),trivial⟩) [(Iv x5.kind),(.string x5.text),(Iv x5.at_),(Iv x5.fin),N9] rfl ?_
   intro w hp
   have hp:=r10 hp
   refine aB (aA ?_)
   refine V hE hp rfl (xl hE varty110 9 rfl rfl rfl rfl) fun a hE=>V hE hp rfl (aK rfl hE rfl (fun w hw=>aW (cs:=[(Iv x5.kind),(.string x5.text),(Iv x5.at_),(Iv x5.fin),N9]) bY (Hp.cN 0 rfl 0 _ (aS rfl) w hw))) fun a hE=>S hE 1 rfl fun a hE=>?_
   obtain⟨x6,ex6,hl1⟩:=bnd hl1
   refine pU (wk0 rfl) rfl rfl hE rfl rfl [(.agg #[(Iv x5.kind),(.string x5.text),(Iv x5.at_),(Iv x5.fin),N9]),(Iv (cp0.nodes.length:Int))] ⟨rfl,rfl,trivial⟩ ent63 (hself x5 N9 hb19_kids (cp0.nodes.length:Int) bcp0 (Nmb.mk aU dR fQ) w2 xs2 w3 w4 hR2w bcp1 (((((hp.get 9 rfl).get 9 rfl).get 9 rfl).get 9 rfl).get 9 rfl) x6 ex6) Ret.ret ?_
   intro v a w hR hE
   obtain⟨aB9,xsz1_nodes,aC0,W9,rfl,hRz1_nodes,hp⟩:=Ret.of hR
   have hp:=r10 hp
   refine aB ?_
   have hE:=hE.cut (E':=[(3,(Pv bcp1 0)),(6,(Iv (cp0.nodes.length:Int))),(32,aI),(33,(Iv (p0.kids.length:Int))),(34,(Iv aP))]) ⟨rfl,rfl,rfl,rfl,rfl,trivial⟩
   refine aA ?_
   obtain⟨x7,ex7,hl1⟩:=bnd hl1
   refine V hE hp rfl (bF rfl hE rfl rfl (aO ex7)) fun a hE=>S hE 1 rfl fun a hE=>aB ?_
   exact⟨_,(oj hl1).symm,_,_,_,_,hRz1_nodes,hE.cut ⟨rfl,rfl,rfl,rfl,rfl,trivial⟩,(((((((((((hp.get 4 rfl).get 4 rfl).get 4 rfl).get 4 rfl).get 4 rfl).get 9 rfl).get 9 rfl).get 9 rfl).get 9 rfl).get 9 rfl).drop)⟩
  replace hl1:=(ie hc2).symm.trans hl1
  refine dS ?_
  refine⟨_,(oj hl1).symm,fun hbb=>?_⟩
  subst hbb
  exact⟨_,_,_,_,hR2w,hE.cut trivial,hp⟩
 rintro a w ⟨w2,xs2,w3,w4,hR2w,hE,hp⟩
 obtain rfl:=oj hm
 exact aB2 hE rfl ⟨_,rfl,_,_,_,_,rfl,hR2w,(((((((hp.get 3 rfl).drop).get 2 rfl).drop).get 1 rfl).drop).drop)⟩
theorem aH8:∀(n:Nat),∀{Z:World} {ρ:PH} {L:List bK} {w:World} (p0:Node) (aI:Value) (bD:aH ρ aI p0.kids) (p1:Int) (bcp0:Nat) (cp0:Nmb) (lG:Value) (iR:List Value) (iK:Value) (eU:Value) (hRcp0_nodes:fV ρ (cp0.nodes:List Node) iR) (bcp1:Nat) (hp:Hp Z ρ (Pt bcp0 (.cells #[lG,iK,eU] 75 (0,0))::qG 24 lG (cp0.nodes:(List Node)) iR::aC 3 iK cp0.sizes::aC 3 eU cp0.parent::Pt bcp1 (.cells #[(.func (.func 63) #[] #[(Pv bcp0 0),(Pv bcp1 0)])] 110 (0,0))::L) w) (r:Nmb) (hm:oN n p0 p1 cp0=some r),Calls Tryz.prog 63 #[(.agg #[(Iv p0.kind),(.string p0.text),(Iv p0.at_),(Iv p0.fin),aI]),(Iv p1),(Pv bcp0 0),(Pv bcp1 0)] w (Ret fun v w'=>∃(pJ:Value) (nK:List Value) (pK:Value) (nH:Value),v= .tuple #[]∧fV ρ (r.nodes:List Node) nK∧Hp Z ρ (Pt bcp0 (.cells #[pJ,pK,nH] 75 (0,0))::qG 24 pJ (r.nodes:(List Node)) nK::aC 3 pK r.sizes::aC 3 nH r.parent::Pt bcp1 (.cells #[(.func (.func 63) #[] #[(Pv bcp0 0),(Pv bcp1 0)])] 110 (0,0))::L) w'):=by
 intro n
 induction n with
 |zero=>intro Z ρ L w p0 aI bD p1 bcp0 cp0 lG iR iK eU hRcp0_nodes bcp1 hp r hm;cases hm
 |succ n ih=>intro Z ρ L w p0 aI bD p1 bcp0 cp0 lG iR iK eU hRcp0_nodes bcp1 hp r hm;exact aD1 (oN n) ih p0 aI bD p1 bcp0 cp0 lG iR iK eU hRcp0_nodes bcp1 hp r hm
theorem aK3 {Z:World} {ρ:PH} {L:List bK} {w:World} (p0:Node) (aI:Value) (bD:aH ρ aI p0.kids) (p1:Int) (bcp0:Nat) (cp0:Nmb) (lG:Value) (iR:List Value) (iK:Value) (eU:Value) (hRcp0_nodes:fV ρ (cp0.nodes:List Node) iR) (bcp1:Nat) (hp:Hp Z ρ (Pt bcp0 (.cells #[lG,iK,eU] 75 (0,0))::qG 24 lG (cp0.nodes:(List Node)) iR::aC 3 iK cp0.sizes::aC 3 eU cp0.parent::Pt bcp1 (.cells #[(.func (.func 63) #[] #[(Pv bcp0 0),(Pv bcp1 0)])] 110 (0,0))::L) w) (r:Nmb) (hm:zT p0 p1 cp0=some r):
  Calls Tryz.prog 63 #[(.agg #[(Iv p0.kind),(.string p0.text),(Iv p0.at_),(Iv p0.fin),aI]),(Iv p1),(Pv bcp0 0),(Pv bcp1 0)] w (Ret fun v w'=>∃(pJ:Value) (nK:List Value) (pK:Value) (nH:Value),v= .tuple #[]∧fV ρ (r.nodes:List Node) nK∧Hp Z ρ (Pt bcp0 (.cells #[pJ,pK,nH] 75 (0,0))::qG 24 pJ (r.nodes:(List Node)) nK::aC 3 pK r.sizes::aC 3 nH r.parent::Pt bcp1 (.cells #[(.func (.func 63) #[] #[(Pv bcp0 0),(Pv bcp1 0)])] 110 (0,0))::L) w'):=aH8 _ p0 aI bD p1 bcp0 cp0 lG iR iK eU hRcp0_nodes bcp1 hp r hm
theorem bG {Z:World} {ρ:PH} {L:List bK} {w:World} (p0:Node) (aI:Value) (bD:aH ρ aI p0.kids) (hp:Hp Z ρ (L) w) (r:Nmb) (hm:jE p0=some r):
  Calls Tryz.prog 40 #[(.agg #[(Iv p0.kind),(.string p0.text),(Iv p0.at_),(Iv p0.fin),aI])] w (Ret fun v w'=>∃(ρ':PH) (vr1_nodes:Value) (vr1_sizes:Value) (vr1_parent:Value),ρ.le ρ'∧v=(.agg #[vr1_nodes,vr1_sizes,vr1_parent])∧aH ρ' vr1_nodes r.nodes∧aH ρ' vr1_sizes r.sizes∧aH ρ' vr1_parent r.parent∧Hp Z ρ' (L) w'):=by
 refine enter (N:=10) Tryz.func40 rfl rfl [(0,(.agg #[(Iv p0.kind),(.string p0.text),(Iv p0.at_),(Iv p0.fin),aI]))] rfl (bC ⟨rfl,trivial⟩) fun a hE=>?_
 unfold jE at hm
 refine aG (aA ?_)
 refine iI (wk0 rfl) rfl rfl hE hp rfl (v:=(.agg #[(Iv p0.kind),(.string p0.text),(Iv p0.at_),(Iv p0.fin),aI])) rfl ?_
 intro a w b1 hE hp
 have hp:=r1 hp
 refine dL (wk0 rfl) rfl rfl hE hp rfl [N0,N0,N0] (fun w=>by simp[Instr.alloc,go_sem]<;>rfl) ?_
 intro a w b2 hE hp
 have hp:=r2 hp
 refine aB (aG ?_)
 refine aA ?_
 refine dL (wk0 rfl) rfl rfl hE hp rfl [N0,N0,N0] (fun w=>by simp[Instr.alloc,go_sem]<;>rfl) ?_
 intro a w b3 hE hp
 have hp:=r3 hp
 refine aB (aG ?_)
 refine aA ?_
 refine dL (wk0 rfl) rfl rfl hE hp rfl [.nilFunc] (fun w=>by simp[Instr.alloc,go_sem]<;>rfl) ?_
 intro a w b4 hE hp
 have hp:=r4 hp
 refine aB (aG ?_)
 refine aA (V hE hp rfl (v:=(.func (.func 63) #[] #[(Pv b3 0),(Pv b4 0)])) (ex_fn rfl hE [(Pv b3 0),(Pv b4 0)] (by exact⟨rfl,rfl,trivial⟩)) fun a hE=>?_)
 refine aX (wk0 rfl) rfl hE hp rfl rfl rfl 0 rfl varty110.size_ rfl (aQ ⟨rfl,trivial⟩) [(.func (.func 63) #[] #[(Pv b3 0),(Pv b4 0)])] rfl ?_
 intro w hp
 have hp:=r4 hp
 refine aB (aG ?_)
 refine aA (V hE hp rfl (xl hE varty110 0 rfl rfl rfl rfl) fun a hE=>?_)
 refine V hE hp rfl (aK rfl hE rfl (fun w hw=>aW (cs:=[(Iv p0.kind),(.string p0.text),(Iv p0.at_),(Iv p0.fin),aI]) bY (Hp.cN 3 rfl 0 _ (aS rfl) w hw))) fun a hE=>?_
 have hp:=hp.emp (qG.nil (α:=Node) 24)
 have hR1:fV ρ ([]:List Node) []:=fV.nil
 have hp:=r5 hp
 have hp:=hp.emp (aC.nil (α:=Int) 3)
 have hp:=r6 hp
 have hp:=hp.emp (aC.nil (α:=Int) 3)
 have hp:=r7 hp
 have hp:=r7 hp
 obtain⟨x1,ex1,hm⟩:=bnd hm
 refine pU (wk0 rfl) rfl rfl hE rfl rfl [(.agg #[(Iv p0.kind),(.string p0.text),(Iv p0.at_),(Iv p0.fin),aI]),(Iv (-1))] ⟨rfl,rfl,trivial⟩ ent63 (aK3 p0 aI bD (-1) b3 (Nmb.mk ([]) ([]) ([])) N0 ([]) N0 N0 hR1 b4 (((((hp.get 3 rfl).get 1 rfl).get 2 rfl).get 3 rfl).get 4 rfl) x1 ex1) Ret.ret ?_
 intro v a w hR hE
 obtain⟨aB9,xsz1_nodes,aC0,W9,rfl,hRz1_nodes,hp⟩:=Ret.of hR
 have hp:=r7 hp
 refine aB (aG ?_)
 refine aA (V hE hp rfl (aK rfl hE rfl (fun w hw=>aW (cs:=[aB9,aC0,W9]) dD (Hp.cN 0 rfl 0 _ (aS rfl) w hw))) fun a hE=>?_)
 refine aX (wk0 rfl) rfl hE hp rfl rfl rfl 5 rfl dD.size_ rfl (aQ ⟨(qG.one hp 1 rfl),(aC.one hp 2 rfl),(aC.one hp 3 rfl),trivial⟩) [aB9,aC0,W9] rfl ?_
 intro w hp
 have hp:=r7 hp
 refine aB (bZ ?_)
 obtain⟨k1,k1a,k1d,hp⟩:=(hp.get 1 rfl).lend
 have f1:aH (ρ.un k1) aB9 x1.nodes:=qG.ro k1d k1a hRz1_nodes
 have hp:=r6 hp
 obtain⟨k2,k2a,k2d,hp⟩:=(hp.get 1 rfl).lend
 have f2:aH ((ρ.un k1).un k2) aC0 x1.sizes:=aC.ro k2d k2a
 have hp:Hp Z ((ρ.un k1).un k2) (_::_::_::_::_::L) w:=hp
 obtain⟨k3,k3a,k3d,hp⟩:=(hp.get 1 rfl).lend
 have f3:aH (((ρ.un k1).un k2).un k3) W9 x1.parent:=aC.ro k3d k3a
 have hp:Hp Z (((ρ.un k1).un k2).un k3) (_::_::_::_::L) w:=hp
 obtain rfl:=oj hm
 exact retc1 hE rfl rfl (aG6 (cs:=[aB9,aC0,W9]) dD (Hp.cN 2 rfl 0 _ (aS rfl) _ hp)) ⟨_,rfl,_,_,_,_,(PH.le.tr (PH.le.tr (PH.le_un _ k1) (PH.le_un _ k2)) (PH.le_un _ k3)),rfl,(aH.mono (aH.mono f1 (PH.le_un _ k2)) (PH.le_un _ k3)),(aH.mono f2 (PH.le_un _ k3)),f3,(((((((hp.get 3 rfl).drop).get 2 rfl).drop).get 1 rfl).drop).drop)⟩
theorem I4 (self:Int→(List Int)→Nmb→(List Int)→Option ((List Int)×(List Int))) (hself:∀{Z:World} {ρ:PH} {L:List bK} {w:World} (p0:Int) (bcp0:Nat) (cp0:(List Int)) (vcp0:Value) (bcp1:Nat) (cp1:Nmb) (iG:Value) (vU:aH ρ iG cp1.nodes) (iH:Value) (sD:aH ρ iH cp1.sizes) (gK:Value) (tY:aH ρ gK cp1.parent) (bcp2:Nat) (bcp3:Nat) (cp3:(List Int)) (vcp3:Value) (hp:Hp Z ρ (Pt bcp0 (.cells #[vcp0] 73 (0,0))::aC 3 vcp0 cp0::Pt bcp1 (.cells #[iG,iH,gK] 75 (0,0))::Pt bcp2 (.cells #[(.func (.func 69) #[] #[(Pv bcp0 0),(Pv bcp1 0),(Pv bcp2 0),(Pv bcp3 0)])] 115 (0,0))::Pt bcp3 (.cells #[vcp3] 73 (0,0))::aC 3 vcp3 cp3::L) w) (r:((List Int)×(List Int))) (hm:self p0 cp0 cp1 cp3=some r),Calls Tryz.prog 69 #[(Iv p0),(Pv bcp0 0),(Pv bcp1 0),(Pv bcp2 0),(Pv bcp3 0)] w (Ret fun v w'=>∃(vzcp0:Value) (vzcp3:Value),v= .tuple #[]∧Hp Z ρ (Pt bcp0 (.cells #[vzcp0] 73 (0,0))::aC 3 vzcp0 r.1::Pt bcp1 (.cells #[iG,iH,gK] 75 (0,0))::Pt bcp2 (.cells #[(.func (.func 69) #[] #[(Pv bcp0 0),(Pv bcp1 0),(Pv bcp2 0),(Pv bcp3 0)])] 115 (0,0))::Pt bcp3 (.cells #[vzcp3] 73 (0,0))::aC 3 vzcp3 r.2::L) w')) {Z:World} {ρ:PH} {L:List bK} {w:World} (p0:Int) (bcp0:Nat) (cp0:(List Int)) (vcp0:Value) (bcp1:Nat) (cp1:Nmb) (iG:Value) (vU:aH ρ iG cp1.nodes) (iH:Value) (sD:aH ρ iH cp1.sizes) (gK:Value) (tY:aH ρ gK cp1.parent) (bcp2:Nat) (bcp3:Nat) (cp3:(List Int)) (vcp3:Value) (hp:Hp Z ρ (Pt bcp0 (.cells #[vcp0] 73 (0,0))::aC 3 vcp0 cp0::Pt bcp1 (.cells #[iG,iH,gK] 75 (0,0))::Pt bcp2 (.cells #[(.func (.func 69) #[] #[(Pv bcp0 0),(Pv bcp1 0),(Pv bcp2 0),(Pv bcp3 0)])] 115 (0,0))::Pt bcp3 (.cells #[vcp3] 73 (0,0))::aC 3 vcp3 cp3::L) w) (r:((List Int)×(List Int))) (hm:qE self p0 cp0 cp1 cp3=some r):
  Calls Tryz.prog 69 #[(Iv p0),(Pv bcp0 0),(Pv bcp1 0),(Pv bcp2 0),(Pv bcp3 0)] w (Ret fun v w'=>∃(vzcp0:Value) (vzcp3:Value),v= .tuple #[]∧Hp Z ρ (Pt bcp0 (.cells #[vzcp0] 73 (0,0))::aC 3 vzcp0 r.1::Pt bcp1 (.cells #[iG,iH,gK] 75 (0,0))::Pt bcp2 (.cells #[(.func (.func 69) #[] #[(Pv bcp0 0),(Pv bcp1 0),(Pv bcp2 0),(Pv bcp3 0)])] 115 (0,0))::Pt bcp3 (.cells #[vzcp3] 73 (0,0))::aC 3 vzcp3 r.2::L) w'):=by
 refine enter (N:=39) Tryz.func69 rfl rfl [(0,(Iv p0)),(1,(Pv bcp0 0)),(2,(Pv bcp1 0)),(3,(Pv bcp2 0)),(4,(Pv bcp3 0))] rfl (bC ⟨rfl,rfl,rfl,rfl,rfl,trivial⟩) fun a hE=>?_
 unfold qE at hm
 refine aG (aA ?_)
 refine V hE hp rfl (xl hE aY 0 rfl rfl rfl rfl) fun a hE=>V hE hp rfl (bT rfl hE rfl (aC.len hp 1 rfl bI)) fun a hE=>S hE 1 rfl fun a hE=>aB (aG ?_)
 refine aG (aA ?_)
 refine S hE 1 rfl fun a hE=>?_
 obtain⟨x1,ex1,hm⟩:=bnd hm
 refine V hE hp rfl (bF rfl hE rfl rfl (aO ex1)) fun a hE=>S hE 1 rfl fun a hE=>aB ?_
 obtain⟨b1,hc1,hm⟩:=bnd hm
 refine dH (fun a w=>∃(w2:Value) (w6:Value),Env 39 [(0,(Iv p0)),(1,(Pv bcp0 0)),(4,(Pv bcp3 0)),(6,(Iv (cp0.length:Int)))] a∧Hp Z ρ (Pt bcp0 (.cells #[w2] 73 (0,0))::aC 3 w2 b1.1::Pt bcp1 (.cells #[iG,iH,gK] 75 (0,0))::Pt bcp2 (.cells #[(.func (.func 69) #[] #[(Pv bcp0 0),(Pv bcp1 0),(Pv bcp2 0),(Pv bcp3 0)])] 115 (0,0))::Pt bcp3 (.cells #[w6] 73 (0,0))::aC 3 w6 b1.2::L) w) ?_ ?_
 ·refine dZ hc1 (fun s a w=>∃(w2:Value) (w6:Value),Env 39 [(0,(Iv p0)),(1,(Pv bcp0 0)),(2,(Pv bcp1 0)),(3,(Pv bcp2 0)),(4,(Pv bcp3 0)),(6,(Iv (cp0.length:Int))),(7,(Iv s.1))] a∧Hp Z ρ (Pt bcp0 (.cells #[w2] 73 (0,0))::aC 3 w2 s.2.1::Pt bcp1 (.cells #[iG,iH,gK] 75 (0,0))::Pt bcp2 (.cells #[(.func (.func 69) #[] #[(Pv bcp0 0),(Pv bcp1 0),(Pv bcp2 0),(Pv bcp3 0)])] 115 (0,0))::Pt bcp3 (.cells #[w6] 73 (0,0))::aC 3 w6 s.2.2::L) w) ?_ ?_
  ·exact⟨_,_,hE.cut ⟨rfl,rfl,rfl,rfl,rfl,rfl,rfl,trivial⟩,hp⟩
  rintro⟨aP,aU,dR⟩ st a w ⟨w2,w6,hE,hp⟩ hl1
  dsimp only at hE hp hl1
  unfold rU at hl1
  refine aG (aG ?_)
  refine aA (S hE 2 rfl fun a hE=>?_)
  refine V hE hp rfl (xf hE uY rfl rfl) fun a hE=>V hE hp rfl (xl hE aY 2 rfl rfl rfl rfl) fun a hE=>S hE 1 rfl fun a hE=>?_
  obtain⟨x2,ex2,hl1⟩:=bnd hl1
  obtain⟨b2,b2o,b2c,b2r,b2k,b2f⟩:=aH.at sD bI ex2
  obtain rfl:b2c=Enc.enc x2:=b2k
  have b2f:AtP ρ b2 b2o [(Iv x2)]:=b2f
  refine V hE hp rfl (aN rfl hE rfl rfl b2r) fun a hE=>V hE hp rfl (aK rfl hE rfl (fun w hw=>aV aT (b2f.c 0 rfl w hw))) fun a hE=>?_
  obtain⟨x3,ex3,hl1⟩:=bnd hl1
  refine V hE hp rfl (bF rfl hE rfl rfl (aO ex3)) fun a hE=>S hE 1 rfl fun a hE=>aB ?_
  refine dE hE rfl (fun hc2=>?_) (fun hc2=>?_)
  ·replace hl1:=(it hc2).symm.trans hl1
   refine aZ (aG ?_)
   refine dM (aA ?_)
   refine V hE hp rfl (xl hE varty115 3 rfl rfl rfl rfl) fun a hE=>S hE 1 rfl fun a hE=>?_
   obtain⟨x4,ex4,hl1⟩:=bnd hl1
   refine pU (wk0 rfl) rfl rfl hE rfl rfl [(Iv aP)] ⟨rfl,trivial⟩ ent69 (hself aP bcp0 aU w2 bcp1 cp1 iG vU iH sD gK tY bcp2 bcp3 dR w6 ((((((hp.get 5 rfl).get 5 rfl).get 5 rfl).get 5 rfl).get 5 rfl).get 5 rfl) x4 ex4) Ret.ret ?_
   intro v a w hR hE
   obtain⟨vz1,vz2,rfl,hp⟩:=Ret.of hR
   have hp:=r6 hp
   refine aB (aA ?_)
   refine S hE 1 rfl fun a hE=>V hE hp rfl (xf hE uY rfl rfl) fun a hE=>V hE hp rfl (xl hE aY 2 rfl rfl rfl rfl) fun a hE=>S hE 1 rfl fun a hE=>?_
   obtain⟨x5,ex5,hl1⟩:=bnd hl1
   obtain⟨b3,b3o,b3c,b3r,b3k,b3f⟩:=aH.at sD bI ex5
   obtain rfl:b3c=Enc.enc x5:=b3k
   have b3f:AtP ρ b3 b3o [(Iv x5)]:=b3f
   refine V hE hp rfl (aN rfl hE rfl rfl b3r) fun a hE=>V hE hp rfl (aK rfl hE rfl (fun w hw=>aV aT (b3f.c 0 rfl w hw))) fun a hE=>?_
   obtain⟨x6,ex6,hl1⟩:=bnd hl1
   refine V hE hp rfl (bF rfl hE rfl rfl (aO ex6)) fun a hE=>S hE 1 rfl fun a hE=>aB ?_
   have hE:=hE.cut (E':=[(0,(Iv p0)),(1,(Pv bcp0 0)),(2,(Pv bcp1 0)),(3,(Pv bcp2 0)),(4,(Pv bcp3 0)),(6,(Iv (cp0.length:Int))),(7,(Iv x6))]) ⟨rfl,rfl,rfl,rfl,rfl,rfl,rfl,trivial⟩
   exact⟨_,(oj hl1).symm,_,_,hE.cut ⟨rfl,rfl,rfl,rfl,rfl,rfl,rfl,trivial⟩,hp⟩
  replace hl1:=(ie hc2).symm.trans hl1
  refine dS ?_
  refine⟨_,(oj hl1).symm,fun hbb=>?_⟩
  subst hbb
  exact⟨_,_,hE.cut ⟨rfl,rfl,rfl,rfl,trivial⟩,hp⟩
 rintro a w ⟨w2,w6,hE,hp⟩
 obtain⟨x7,ex7,hm⟩:=bnd hm
 obtain⟨x8,ex8,hm⟩:=bnd hm
 have hp:=hp.drew
 refine fG ([([],At0 Z ρ),([8],At1 Z ρ (Pt bcp0 (.cells #[w2] 73 (0,0)))),([9],At1 Z ρ (Pt bcp3 (.cells #[w6] 73 (0,0))))]:Facts) (fun a w=>∃y10:Nat,∃y9:Nat,∃y2:Value,∃y6:Value,Env 39 [] a∧Hp Z ρ (Pt y10 (.cells #[(Iv (cp0.length:Int))] 3 (0,0))::Pt y9 (.cells #[(Iv p0)] 3 (0,0))::Pt bcp0 (.cells #[y2] 73 (0,0))::aC 3 y2 x7::Pt bcp1 (.cells #[iG,iH,gK] 75 (0,0))::Pt bcp2 (.cells #[(.func (.func 69) #[] #[(Pv bcp0 0),(Pv bcp1 0),(Pv bcp2 0),(Pv bcp3 0)])] 115 (0,0))::Pt bcp3 (.cells #[y6] 73 (0,0))::aC 3 y6 x8::L) w) (by kernel_rfl) ⟨fun _=>⟨_,hp⟩,fun _=>⟨_,(hp.get 0 rfl)⟩,fun _=>⟨_,(hp.get 4 rfl)⟩,trivial⟩ (fun hS=>?_) ?_
 ·
  generalize w.drew=w at hS hp⊢
  refine T 0 1 hE hS rfl rfl rfl (by kernel_rfl) (fun _=>xl hE aY 0 rfl rfl rfl rfl) fun a hE hS=>Ts [1] hE hS rfl rfl (by kernel_rfl) fun a hE hS=>T 4 2 hE hS rfl rfl rfl (by kernel_rfl) (fun _=>xl hE aY 0 rfl rfl rfl rfl) fun a hE hS=>Ts [5] hE hS rfl rfl (by kernel_rfl) fun a hE hS=>?_
  refine gW [2,6] (by kernel_rfl) rfl ?_
  refine List.forall_mem_cons.2 ⟨?_,List.forall_mem_cons.2 ⟨?_,fun _ h=>absurd h (by simp)⟩⟩
  ·
   refine dX rfl ?_
   refine fP (wk0 rfl) rfl rfl hE hp rfl [(0,(Iv p0))] ⟨⟨rfl,rfl⟩,trivial⟩ [(Iv p0)] 3 (fun w=>by simp[Instr.buildSlice,Instr.fill,Value.cells,go_sem]) ?_
   intro a w b6 hE hp
   have hp:=r7 hp
   refine aB (aF ⟨gp0 hp,gp 1 hp rfl,gp 5 hp rfl,trivial⟩ fun hS=>?_)
   refine gW [3,6] (by kernel_rfl) rfl ?_
   refine List.forall_mem_cons.2 ⟨?_,List.forall_mem_cons.2 ⟨?_,fun _ h=>absurd h (by simp)⟩⟩
   ·
    refine dX rfl ?_
    refine fU (wk0 rfl) rfl rfl hE hp rfl bI rfl rfl 2 rfl rfl (l2:=[p0]) rfl (fun j u hj=>by have:=Hp.cN 0 rfl 0 _ (aS rfl) w hp j u hj;simpa using this) ex7 ?_
    intro v3 a w hE hp
    have hp:=r7 hp
    refine aB (aF ⟨gp0 hp,gp 1 hp rfl,gp 5 hp rfl,trivial⟩ fun hS=>?_)
    refine W1 6 (by kernel_rfl) rfl ?_
    refine fP (wk0 rfl) rfl rfl hE hp rfl [(0,(Iv (cp0.length:Int)))] ⟨⟨rfl,rfl⟩,trivial⟩ [(Iv (cp0.length:Int))] 3 (fun w=>by simp[Instr.buildSlice,Instr.fill,Value.cells,go_sem]) ?_
    intro a w b7 hE hp
    have hp:=r8 hp
    refine aB (aF ⟨gp0 hp,gp 2 hp rfl,gp 6 hp rfl,trivial⟩ fun hS=>?_)
    refine W1 7 (by kernel_rfl) rfl ?_
    refine fU (wk0 rfl) rfl rfl hE hp rfl bI rfl rfl 7 rfl rfl (l2:=[(cp0.length:Int)]) rfl (fun j u hj=>by have:=Hp.cN 0 rfl 0 _ (aS rfl) w hp j u hj;simpa using this) ex8 ?_
    intro v4 a w hE hp
    have hp:=r8 hp
    refine aB (aF ⟨gp0 hp,gp 2 hp rfl,gp 6 hp rfl,trivial⟩ fun hS=>?_)
    refine W1 8 (by kernel_rfl) rfl ?_
    refine bQ (wk0 rfl) rfl hE hp rfl rfl rfl 2 rfl aY.size_ (aC.cells hp 3 rfl) (aC.one hp 3 rfl) rfl [v3] rfl ?_
    intro w hp
    have hp:=r8 hp
    refine aB (aF ⟨gp0 hp,dead (by kernel_rfl),gp 6 hp rfl,trivial⟩ fun hS=>?_)
    refine W1 9 (by kernel_rfl) rfl ?_
    refine bQ (wk0 rfl) rfl hE hp rfl rfl rfl 6 rfl aY.size_ (aC.cells hp 7 rfl) (aC.one hp 7 rfl) rfl [v4] rfl ?_
    intro w hp
    have hp:=r8 hp
    refine aB (aF ⟨gp0 hp,dead (by kernel_rfl),dead (by kernel_rfl),trivial⟩ fun hS=>?_)
    exact bP (by kernel_rfl) ⟨_,_,_,_,hE.cut trivial,hp⟩
   refine dX rfl ?_
   refine fP (wk0 rfl) rfl rfl hE hp rfl [(0,(Iv (cp0.length:Int)))] ⟨⟨rfl,rfl⟩,trivial⟩ [(Iv (cp0.length:Int))] 3 (fun w=>by simp[Instr.buildSlice,Instr.fill,Value.cells,go_sem]) ?_
   intro a w b8 hE hp
   have hp:=r8 hp
   refine aB (aF ⟨gp0 hp,gp 2 hp rfl,gp 6 hp rfl,trivial⟩ fun hS=>?_)
   refine W1 3 (by kernel_rfl) rfl ?_
   refine fU (wk0 rfl) rfl rfl hE hp rfl bI rfl rfl 3 rfl rfl (l2:=[p0]) rfl (fun j u hj=>by have:=Hp.cN 1 rfl 0 _ (aS rfl) w hp j u hj;simpa using this) ex7 ?_
   intro v5 a w hE hp
   have hp:=r8 hp
   refine aB (aF ⟨gp0 hp,gp 2 hp rfl,gp 6 hp rfl,trivial⟩ fun hS=>?_)
   refine W1 7 (by kernel_rfl) rfl ?_
   refine fU (wk0 rfl) rfl rfl hE hp rfl bI rfl rfl 7 rfl rfl (l2:=[(cp0.length:Int)]) rfl (fun j u hj=>by have:=Hp.cN 0 rfl 0 _ (aS rfl) w hp j u hj;simpa using this) ex8 ?_
   intro v6 a w hE hp
   have hp:=r8 hp
   refine aB (aF ⟨gp0 hp,gp 2 hp rfl,gp 6 hp rfl,trivial⟩ fun hS=>?_)
   refine W1 8 (by kernel_rfl) rfl ?_
   refine bQ (wk0 rfl) rfl hE hp rfl rfl rfl 2 rfl aY.size_ (aC.cells hp 3 rfl) (aC.one hp 3 rfl) rfl [v5] rfl ?_
   intro w hp
   have hp:=r8 hp
   refine aB (aF ⟨gp0 hp,dead (by kernel_rfl),gp 6 hp rfl,trivial⟩ fun hS=>?_)
   refine W1 9 (by kernel_rfl) rfl ?_
   refine bQ (wk0 rfl) rfl hE hp rfl rfl rfl 6 rfl aY.size_ (aC.cells hp 7 rfl) (aC.one hp 7 rfl) rfl [v6] rfl ?_
   intro w hp
   have hp:=r8 hp
   refine aB (aF ⟨gp0 hp,dead (by kernel_rfl),dead (by kernel_rfl),trivial⟩ fun hS=>?_)
   exact bP (by kernel_rfl) ⟨_,_,_,_,hE.cut trivial,hp⟩
  refine dX rfl ?_
  refine fP (wk0 rfl) rfl rfl hE hp rfl [(0,(Iv (cp0.length:Int)))] ⟨⟨rfl,rfl⟩,trivial⟩ [(Iv (cp0.length:Int))] 3 (fun w=>by simp[Instr.buildSlice,Instr.fill,Value.cells,go_sem]) ?_
  intro a w b9 hE hp
  have hp:=r7 hp
  refine aB (aF ⟨gp0 hp,gp 1 hp rfl,gp 5 hp rfl,trivial⟩ fun hS=>?_)
  refine W1 2 (by kernel_rfl) rfl ?_
  refine fP (wk0 rfl) rfl rfl hE hp rfl [(0,(Iv p0))] ⟨⟨rfl,rfl⟩,trivial⟩ [(Iv p0)] 3 (fun w=>by simp[Instr.buildSlice,Instr.fill,Value.cells,go_sem]) ?_
  intro a w b10 hE hp
  have hp:=r8 hp
  refine aB (aF ⟨gp0 hp,gp 2 hp rfl,gp 6 hp rfl,trivial⟩ fun hS=>?_)
  refine W1 3 (by kernel_rfl) rfl ?_
  refine fU (wk0 rfl) rfl rfl hE hp rfl bI rfl rfl 3 rfl rfl (l2:=[p0]) rfl (fun j u hj=>by have:=Hp.cN 0 rfl 0 _ (aS rfl) w hp j u hj;simpa using this) ex7 ?_
  intro v7 a w hE hp
  have hp:=r8 hp
  refine aB (aF ⟨gp0 hp,gp 2 hp rfl,gp 6 hp rfl,trivial⟩ fun hS=>?_)
  refine W1 7 (by kernel_rfl) rfl ?_
  refine fU (wk0 rfl) rfl rfl hE hp rfl bI rfl rfl 7 rfl rfl (l2:=[(cp0.length:Int)]) rfl (fun j u hj=>by have:=Hp.cN 1 rfl 0 _ (aS rfl) w hp j u hj;simpa using this) ex8 ?_
  intro v8 a w hE hp
  have hp:=r8 hp
  refine aB (aF ⟨gp0 hp,gp 2 hp rfl,gp 6 hp rfl,trivial⟩ fun hS=>?_)
  refine W1 8 (by kernel_rfl) rfl ?_
  refine bQ (wk0 rfl) rfl hE hp rfl rfl rfl 2 rfl aY.size_ (aC.cells hp 3 rfl) (aC.one hp 3 rfl) rfl [v7] rfl ?_
  intro w hp
  have hp:=r8 hp
  refine aB (aF ⟨gp0 hp,dead (by kernel_rfl),gp 6 hp rfl,trivial⟩ fun hS=>?_)
  refine W1 9 (by kernel_rfl) rfl ?_
  refine bQ (wk0 rfl) rfl hE hp rfl rfl rfl 6 rfl aY.size_ (aC.cells hp 7 rfl) (aC.one hp 7 rfl) rfl [v8] rfl ?_
  intro w hp
  have hp:=r8 hp
  refine aB (aF ⟨gp0 hp,dead (by kernel_rfl),dead (by kernel_rfl),trivial⟩ fun hS=>?_)
  exact bP (by kernel_rfl) ⟨_,_,_,_,hE.cut trivial,((((((((hp.get 7 rfl).get 7 rfl).get 7 rfl).get 7 rfl).get 7 rfl).get 7 rfl).get 6 rfl).get 7 rfl)⟩
 rintro a w ⟨y10,y9,y2,y6,hE,hp⟩
 obtain rfl:=oj hm
 exact aB2 hE rfl ⟨_,rfl,_,_,rfl,(((hp.get 1 rfl).drop).drop)⟩
theorem X3:∀(n:Nat),∀{Z:World} {ρ:PH} {L:List bK} {w:World} (p0:Int) (bcp0:Nat) (cp0:(List Int)) (vcp0:Value) (bcp1:Nat) (cp1:Nmb) (iG:Value) (vU:aH ρ iG cp1.nodes) (iH:Value) (sD:aH ρ iH cp1.sizes) (gK:Value) (tY:aH ρ gK cp1.parent) (bcp2:Nat) (bcp3:Nat) (cp3:(List Int)) (vcp3:Value) (hp:Hp Z ρ (Pt bcp0 (.cells #[vcp0] 73 (0,0))::aC 3 vcp0 cp0::Pt bcp1 (.cells #[iG,iH,gK] 75 (0,0))::Pt bcp2 (.cells #[(.func (.func 69) #[] #[(Pv bcp0 0),(Pv bcp1 0),(Pv bcp2 0),(Pv bcp3 0)])] 115 (0,0))::Pt bcp3 (.cells #[vcp3] 73 (0,0))::aC 3 vcp3 cp3::L) w) (r:((List Int)×(List Int))) (hm:oD n p0 cp0 cp1 cp3=some r),Calls Tryz.prog 69 #[(Iv p0),(Pv bcp0 0),(Pv bcp1 0),(Pv bcp2 0),(Pv bcp3 0)] w (Ret fun v w'=>∃(vzcp0:Value) (vzcp3:Value),v= .tuple #[]∧Hp Z ρ (Pt bcp0 (.cells #[vzcp0] 73 (0,0))::aC 3 vzcp0 r.1::Pt bcp1 (.cells #[iG,iH,gK] 75 (0,0))::Pt bcp2 (.cells #[(.func (.func 69) #[] #[(Pv bcp0 0),(Pv bcp1 0),(Pv bcp2 0),(Pv bcp3 0)])] 115 (0,0))::Pt bcp3 (.cells #[vzcp3] 73 (0,0))::aC 3 vzcp3 r.2::L) w'):=by
 intro n
 induction n with
 |zero=>intro Z ρ L w p0 bcp0 cp0 vcp0 bcp1 cp1 iG vU iH sD gK tY bcp2 bcp3 cp3 vcp3 hp r hm;cases hm
 |succ n ih=>intro Z ρ L w p0 bcp0 cp0 vcp0 bcp1 cp1 iG vU iH sD gK tY bcp2 bcp3 cp3 vcp3 hp r hm;exact I4 (oD n) ih p0 bcp0 cp0 vcp0 bcp1 cp1 iG vU iH sD gK tY bcp2 bcp3 cp3 vcp3 hp r hm
theorem Y9 {Z:World} {ρ:PH} {L:List bK} {w:World} (p0:Int) (bcp0:Nat) (cp0:(List Int)) (vcp0:Value) (bcp1:Nat) (cp1:Nmb) (iG:Value) (vU:aH ρ iG cp1.nodes) (iH:Value) (sD:aH ρ iH cp1.sizes) (gK:Value) (tY:aH ρ gK cp1.parent) (bcp2:Nat) (bcp3:Nat) (cp3:(List Int)) (vcp3:Value) (hp:Hp Z ρ (Pt bcp0 (.cells #[vcp0] 73 (0,0))::aC 3 vcp0 cp0::Pt bcp1 (.cells #[iG,iH,gK] 75 (0,0))::Pt bcp2 (.cells #[(.func (.func 69) #[] #[(Pv bcp0 0),(Pv bcp1 0),(Pv bcp2 0),(Pv bcp3 0)])] 115 (0,0))::Pt bcp3 (.cells #[vcp3] 73 (0,0))::aC 3 vcp3 cp3::L) w) (r:((List Int)×(List Int))) (hm:yI p0 cp0 cp1 cp3=some r):
  Calls Tryz.prog 69 #[(Iv p0),(Pv bcp0 0),(Pv bcp1 0),(Pv bcp2 0),(Pv bcp3 0)] w (Ret fun v w'=>∃(vzcp0:Value) (vzcp3:Value),v= .tuple #[]∧Hp Z ρ (Pt bcp0 (.cells #[vzcp0] 73 (0,0))::aC 3 vzcp0 r.1::Pt bcp1 (.cells #[iG,iH,gK] 75 (0,0))::Pt bcp2 (.cells #[(.func (.func 69) #[] #[(Pv bcp0 0),(Pv bcp1 0),(Pv bcp2 0),(Pv bcp3 0)])] 115 (0,0))::Pt bcp3 (.cells #[vzcp3] 73 (0,0))::aC 3 vzcp3 r.2::L) w'):=X3 _ p0 bcp0 cp0 vcp0 bcp1 cp1 iG vU iH sD gK tY bcp2 bcp3 cp3 vcp3 hp r hm
theorem zH {Z:World} {ρ:PH} {L:List bK} {w:World} (p0:Nmb) (fK:Value) (zQ:aH ρ fK p0.nodes) (fM:Value) (N7:aH ρ fM p0.sizes) (eG:Value) (pV:aH ρ eG p0.parent) (hp:Hp Z ρ (L) w) (r:((List Int)×(List Int))) (hm:qY p0=some r):
  Calls Tryz.prog 49 #[(.agg #[fK,fM,eG])] w (Ret fun v w'=>∃(ρ':PH) (vr1:Value) (vr2:Value),ρ.le ρ'∧v= .tuple #[vr1,vr2]∧aH ρ' vr1 r.1∧aH ρ' vr2 r.2∧Hp Z ρ' (L) w'):=by
 refine enter (N:=12) Tryz.func49 rfl rfl [(0,(.agg #[fK,fM,eG]))] rfl (bC ⟨rfl,trivial⟩) fun a hE=>?_
 unfold qY at hm
 refine aG (aA ?_)
 refine iI (wk0 rfl) rfl rfl hE hp rfl (v:=(.agg #[fK,fM,eG])) rfl ?_
 intro a w b1 hE hp
 have hp:=r1 hp
 refine S hE 2 rfl fun a hE=>aB (aG ?_)
 refine aA ?_
 refine dL (wk0 rfl) rfl rfl hE hp rfl [N0] (fun w=>by simp[Instr.alloc,go_sem]<;>rfl) ?_
 intro a w b2 hE hp
 have hp:=r2 hp
 refine dL (wk0 rfl) rfl rfl hE hp rfl [N0] (fun w=>by simp[Instr.alloc,go_sem]<;>rfl) ?_
 intro a w b3 hE hp
 have hp:=r3 hp
 refine aB (aG ?_)
 refine aA ?_
 refine dL (wk0 rfl) rfl rfl hE hp rfl [.nilFunc] (fun w=>by simp[Instr.alloc,go_sem]<;>rfl) ?_
 intro a w b4 hE hp
 have hp:=r4 hp
 refine aB (aG ?_)
 refine aA (V hE hp rfl (v:=(.func (.func 69) #[] #[(Pv b2 0),(Pv b1 0),(Pv b4 0),(Pv b3 0)])) (ex_fn rfl hE [(Pv b2 0),(Pv b1 0),(Pv b4 0),(Pv b3 0)] (by exact⟨rfl,rfl,rfl,rfl,trivial⟩)) fun a hE=>?_)
 refine aX (wk0 rfl) rfl hE hp rfl rfl rfl 0 rfl varty115.size_ rfl (aQ ⟨rfl,trivial⟩) [(.func (.func 69) #[] #[(Pv b2 0),(Pv b1 0),(Pv b4 0),(Pv b3 0)])] rfl ?_
 intro w hp
 have hp:=r4 hp
 refine aB (aG ?_)
 refine aA (V hE hp rfl (xl hE varty115 0 rfl rfl rfl rfl) fun a hE=>?_)
 have hp:=hp.emp (aC.nil (α:=Int) 3)
 have hp:=r5 hp
 have hp:=r5 hp
 have hp:=hp.emp (aC.nil (α:=Int) 3)
 have hp:=r6 hp
 have hp:=r6 hp
 obtain⟨x1,ex1,hm⟩:=bnd hm
 refine pU (wk0 rfl) rfl rfl hE rfl rfl [(Iv 0)] ⟨rfl,trivial⟩ ent69 (Y9 0 b2 [] N0 b1 p0 fK zQ fM N7 eG pV b4 b3 [] N0 (((((hp.get 3 rfl).get 3 rfl).get 5 rfl).get 4 rfl).get 5 rfl) x1 ex1) Ret.ret ?_
 intro v a w hR hE
 obtain⟨vz1,vz2,rfl,hp⟩:=Ret.of hR
 have hp:=r6 hp
 refine aB (aG ?_)
 refine jR (by kernel_rfl) (by kernel_rfl) hp ?_
 refine Vq hE rfl (xl hE aY 0 rfl rfl rfl rfl) fun a hE=>Vq hE rfl (xl hE aY 4 rfl rfl rfl rfl) fun a hE=>Sq hE 2 rfl fun a hE=>?_
 refine iM fun w hp=>?_
 have hp:=r6 hp
 refine bZ ?_
 obtain⟨k1,k1a,k1d,hp⟩:=(hp.get 1 rfl).lend
 have f1:aH (ρ.un k1) vz1 x1.1:=aC.ro k1d k1a
 have hp:=r5 hp
 obtain⟨k2,k2a,k2d,hp⟩:=(hp.get 4 rfl).lend
 have f2:aH ((ρ.un k1).un k2) vz2 x1.2:=aC.ro k2d k2a
 have hp:Hp Z ((ρ.un k1).un k2) (_::_::_::_::L) w:=hp
 obtain rfl:=oj hm
 exact yU hE rfl rfl rfl ⟨_,rfl,_,_,_,(PH.le.tr (PH.le_un _ k1) (PH.le_un _ k2)),rfl,(aH.mono f1 (PH.le_un _ k2)),f2,(((((((hp.get 3 rfl).drop).get 2 rfl).drop).get 1 rfl).drop).drop)⟩
end Go.Proofs.YtopnldfjcciieaaGreat
