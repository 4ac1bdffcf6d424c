/- The code goes as its model: assessor/assessorref26.Variable, assessor/assessorref26.IsClause, assessor/assessorref26.Valid, assessor/assessorref26.Clauses, asse -/
import Derived.Test.YtpkhmndpeipfmaaKLeT
import Derived.Test.YtpkhmndpeipfmaaKLe6
set_option linter.unusedVariables false
set_option linter.unusedSimpArgs false
set_option maxRecDepth 100000
set_option maxHeartbeats 4000000
namespace Go.Proofs.Ytpkhmndpeipfmaa
open Go.RowKit
theorem gQ {Z:World} {ρ:PH} {L:List bZ} {w:World} (p0:Int) (hp:Hp Z ρ (L) w) (r:Int) (hm:dL p0=some r):
  Calls Try.prog 25 #[(Iv p0)] w (Ret fun v w'=>v=(Iv r)∧Hp Z ρ (L) w'):=by
 refine enter (N:=8) Try.func25 rfl rfl [(0,(Iv p0))] rfl (bT ⟨rfl,trivial⟩) fun a hE=>?_
 unfold dL at hm
 refine aG (aB ?_)
 refine S hE 1 rfl fun a hE=>aC (aG ?_)
 refine aG (aB ?_)
 refine S hE 2 rfl fun a hE=>aC ?_
 refine dK hE rfl (fun hc1=>?_) (fun hc1=>?_)
 ·replace hm:=(it hc1).symm.trans hm
  refine aG (aB ?_)
  refine S hE 1 rfl fun a hE=>?_
  obtain⟨x1,ex1,hm⟩:=bnd hm
  refine V hE hp rfl (pV rfl hE rfl (bD ex1)) fun a hE=>S hE 1 rfl fun a hE=>aC (dC ?_)
  obtain rfl:=oj hm
  exact gK hE rfl rfl ⟨_,rfl,rfl,hp⟩
 replace hm:=(ie hc1).symm.trans hm
 refine bQ (aG ?_)
 refine aB (S hE 2 rfl fun a hE=>?_)
 refine aC (dC ?_)
 obtain rfl:=oj hm
 exact gK hE rfl rfl ⟨_,rfl,rfl,hp⟩
theorem oP {Z:World} {ρ:PH} {L:List bZ} {w:World} (p0:(List Int)) (vp0:Value) (hp0:bJ ρ vp0 p0) (p1:Int) (hp:Hp Z ρ (L) w) (r:Bool) (hm:gU p0 p1=some r):
  Calls Try.prog 32 #[vp0,(Iv p1)] w (Ret fun v w'=>v=(.bool r)∧Hp Z ρ (L) w'):=by
 refine enter (N:=52) Try.func32 rfl rfl [(0,vp0),(1,(Iv p1))] rfl (bT ⟨rfl,rfl,trivial⟩) fun a hE=>?_
 unfold gU at hm
 refine aG (aB ?_)
 refine S hE 1 rfl fun a hE=>aC (aG ?_)
 refine aG (aB ?_)
 refine S hE 1 rfl fun a hE=>aC ?_
 obtain⟨b1,hc1,hm⟩:=bnd hm
 refine dI (fun a w=>∃s:Unit,b1= .brk s∧(Env 52 [] a∧Hp Z ρ (L) w)) ?_ ?_
 ·refine eX hc1 (fun s a w=>Env 52 [(0,vp0),(1,(Iv p1)),(5,(Iv s))] a∧Hp Z ρ (L) w) ?_ ?_
  ·exact⟨hE.cut ⟨rfl,rfl,rfl,trivial⟩,hp⟩
  rintro aW st a w ⟨hE,hp⟩ hl1
  unfold jK at hl1
  refine aG (aG ?_)
  refine aB (S hE 2 rfl fun a hE=>?_)
  refine V hE hp rfl (dD rfl hE rfl (bJ.len hp0 aY)) fun a hE=>S hE 1 rfl fun a hE=>aC ?_
  refine dK hE rfl (fun hc2=>?_) (fun hc2=>?_)
  ·replace hl1:=(it hc2).symm.trans hl1
   refine bQ (aG ?_)
   refine dG (aG ?_)
   refine lG (by kernel_rfl) (by kernel_rfl) hp ?_
   refine Sq hE 2 rfl fun a hE=>?_
   obtain⟨x1,ex1,hl1⟩:=bnd hl1
   obtain⟨b2,b2o,b2c,b2r,b2k,b2f⟩:=bJ.at hp0 aY ex1
   obtain rfl:b2c=Enc.enc x1:=b2k
   have b2f:AtP ρ b2 b2o [(Iv x1)]:=b2f
   refine Vq hE rfl (aS rfl hE rfl rfl b2r) fun a hE=>Vq hE rfl (aX rfl hE rfl (fun w hw=>bF bG (b2f.c 0 rfl w hw))) fun a hE=>Sq hE 2 rfl fun a hE=>?_
   obtain⟨m1,hg1,hl1⟩:=bnd hl1
   refine q_cut [_,_,_,_,_,_,_,_] (fun a=>Env 52 [(25,(.bool m1)),(0,vp0),(1,(Iv p1)),(5,(Iv aW))] a) ?_ ?_
   ·rcases Bool.eq_false_or_eq_true (decide (x1=0)) with hc3|hc3
    ·
     replace hg1:=(it hc3).symm.trans hg1
     refine Gkq hE hc3 rfl fun a hE=>Gkq hE hc3 rfl fun a hE=>Gkq hE hc3 rfl fun a hE=>Gkq hE hc3 rfl fun a hE=>Gkq hE hc3 rfl fun a hE=>Gkq hE hc3 rfl fun a hE=>Gkq hE hc3 rfl fun a hE=>Vq hE rfl (mD rfl hE rfl hc3 rfl) fun a hE=>?_
     obtain rfl:=oj hg1
     exact oO (hE.cut ⟨rfl,rfl,rfl,rfl,trivial⟩)
    replace hg1:=(ie hc3).symm.trans hg1
    refine Gq hE hc3 rfl (mZ rfl hE rfl) fun a hE=>Gq hE hc3 rfl (mZ rfl hE rfl) fun a hE=>?_
    obtain⟨x2,ex2,hg1⟩:=bnd hg1
    obtain⟨b3,b3o,b3c,b3r,b3k,b3f⟩:=bJ.at hp0 aY ex2
    obtain rfl:b3c=Enc.enc x2:=b3k
    have b3f:AtP ρ b3 b3o [(Iv x2)]:=b3f
    refine Gq hE hc3 rfl (aS rfl hE rfl rfl b3r) fun a hE=>Gq hE hc3 rfl (aX rfl hE rfl (fun w hw=>bF bG (b3f.c 0 rfl w hw))) fun a hE=>Gq hE hc3 rfl (mZ rfl hE rfl) fun a hE=>?_
    obtain⟨x3,ex3,hg1⟩:=bnd hg1
    refine Gq hE hc3 rfl (pV rfl hE rfl (bD ex3)) fun a hE=>Gq hE hc3 rfl (ex_lss rfl hE rfl rfl) fun a hE=>Vq hE rfl (dF rfl hE rfl hc3 rfl) fun a hE=>?_
    obtain rfl:=oj hg1
    exact oO (hE.cut ⟨rfl,rfl,rfl,rfl,trivial⟩)
   intro a hE
   refine Sq hE 1 rfl fun a hE=>?_
   obtain⟨m2,hg2,hl1⟩:=bnd hl1
   refine q_cut [_,_,_,_,_,_,_] (fun a=>Env 52 [(33,(.bool m2)),(0,vp0),(1,(Iv p1)),(5,(Iv aW))] a) ?_ ?_
   ·rcases Bool.eq_false_or_eq_true m1 with hc4|hc4
    ·
     replace hg2:=(it hc4).symm.trans hg2
     refine Gkq hE hc4 rfl fun a hE=>Gkq hE hc4 rfl fun a hE=>Gkq hE hc4 rfl fun a hE=>Gkq hE hc4 rfl fun a hE=>Gkq hE hc4 rfl fun a hE=>Gkq hE hc4 rfl fun a hE=>Vq hE rfl (mD rfl hE rfl hc4 rfl) fun a hE=>?_
     obtain rfl:=oj hg2
     exact oO (hE.cut ⟨rfl,rfl,rfl,rfl,trivial⟩)
    replace hg2:=(ie hc4).symm.trans hg2
    refine Gq hE hc4 rfl (mZ rfl hE rfl) fun a hE=>Gq hE hc4 rfl (mZ rfl hE rfl) fun a hE=>?_
    obtain⟨x4,ex4,hg2⟩:=bnd hg2
    obtain⟨b4,b4o,b4c,b4r,b4k,b4f⟩:=bJ.at hp0 aY ex4
    obtain rfl:b4c=Enc.enc x4:=b4k
    have b4f:AtP ρ b4 b4o [(Iv x4)]:=b4f
    refine Gq hE hc4 rfl (aS rfl hE rfl rfl b4r) fun a hE=>Gq hE hc4 rfl (aX rfl hE rfl (fun w hw=>bF bG (b4f.c 0 rfl w hw))) fun a hE=>Gq hE hc4 rfl (mZ rfl hE rfl) fun a hE=>Gq hE hc4 rfl (ex_gtr rfl hE rfl rfl) fun a hE=>Vq hE rfl (dF rfl hE rfl hc4 rfl) fun a hE=>?_
    obtain rfl:=oj hg2
    exact oO (hE.cut ⟨rfl,rfl,rfl,rfl,trivial⟩)
   intro a hE
   refine Sq hE 1 rfl fun a hE=>?_
   obtain⟨m3,hg3,hl1⟩:=bnd hl1
   refine q_cut [_,_,_,_,_,_,_,_,_,_,_,_,_,_,_,_,_] (fun a=>Env 52 [(51,(.bool m3)),(0,vp0),(1,(Iv p1)),(5,(Iv aW))] a) ?_ ?_
   ·rcases Bool.eq_false_or_eq_true m2 with hc5|hc5
    ·
     replace hg3:=(it hc5).symm.trans hg3
     refine Gkq hE hc5 rfl fun a hE=>Gkq hE hc5 rfl fun a hE=>Gkq hE hc5 rfl fun a hE=>?_
     refine q_skip (wk3 hE rfl rfl rfl) rfl rfl hE ?_
     intro a hE
     refine q_skip (wk3 hE rfl rfl rfl) rfl rfl hE ?_
     intro a hE
     refine q_skip (wk3 hE rfl rfl rfl) rfl rfl hE ?_
     intro a hE
     refine q_skip (wk3 hE rfl rfl rfl) rfl rfl hE ?_
     intro a hE
     refine q_skip (wk3 hE rfl rfl rfl) rfl rfl hE ?_
     intro a hE
     refine q_skip (wk3 hE rfl rfl rfl) rfl rfl hE ?_
     intro a hE
     refine q_skip (wk3 hE rfl rfl rfl) rfl rfl hE ?_
     intro a hE
     refine q_skip (wk3 hE rfl rfl rfl) rfl rfl hE ?_
     intro a hE
     refine q_skip (wk3 hE rfl rfl rfl) rfl rfl hE ?_
     intro a hE
     refine q_skip (wk3 hE rfl rfl rfl) rfl rfl hE ?_
     intro a hE
     refine q_skip (wk3 hE rfl rfl rfl) rfl rfl hE ?_
     intro a hE
     refine q_skip (wk3 hE rfl rfl rfl) rfl rfl hE ?_
     intro a hE
     refine Gkq hE hc5 rfl fun a hE=>Vq hE rfl (mD rfl hE rfl hc5 rfl) fun a hE=>?_
     obtain rfl:=oj hg3
     exact oO (hE.cut ⟨rfl,rfl,rfl,rfl,trivial⟩)
    replace hg3:=(ie hc5).symm.trans hg3
    refine Gq hE hc5 rfl (mZ rfl hE rfl) fun a hE=>Gq hE hc5 rfl (ex_gtr rfl hE rfl rfl) fun a hE=>Gq hE hc5 rfl (mZ rfl hE rfl) fun a hE=>?_
    obtain⟨m4,hg4,hg3⟩:=bnd hg3
    refine q_cut [_,_,_,_,_,_,_,_,_,_,_,_,_] (fun a=>Env 52 [(50,(.bool m4)),(0,vp0),(1,(Iv p1)),(5,(Iv aW)),(34,(.bool m2)),(35,(Iv aW)),(36,(.bool (decide (0<aW)))),(37,(.bool (decide (0<aW))))] a) ?_ ?_
    ·rcases Bool.eq_false_or_eq_true (decide (0<aW)) with hc6|hc6
     ·
      replace hg4:=(it hc6).symm.trans hg4
      refine Gq hE hc6 rfl (mZ rfl hE rfl) fun a hE=>Gq hE hc6 rfl (mZ rfl hE rfl) fun a hE=>?_
      obtain⟨x5,ex5,hg4⟩:=bnd hg4
      obtain⟨b5,b5o,b5c,b5r,b5k,b5f⟩:=bJ.at hp0 aY ex5
      obtain rfl:b5c=Enc.enc x5:=b5k
      have b5f:AtP ρ b5 b5o [(Iv x5)]:=b5f
      refine Gq hE hc6 rfl (aS rfl hE rfl rfl b5r) fun a hE=>Gq hE hc6 rfl (aX rfl hE rfl (fun w hw=>bF bG (b5f.c 0 rfl w hw))) fun a hE=>?_
      obtain⟨x6,ex6,hg4⟩:=bnd hg4
      refine vF (wk1 hE rfl rfl rfl hc6) rfl rfl hE rfl [(Iv x5)] ⟨rfl,trivial⟩ ent25 (v:=(Iv x6)) (fun w hw=>Calls.mono (gQ x5 hw x6 ex6) fun e w' ⟨v,he,hv,hh⟩=>⟨by rw[he,hv],hh⟩) ?_
      intro a hE
      refine Gq hE hc6 rfl (mZ rfl hE rfl) fun a hE=>Gq hE hc6 rfl (mZ rfl hE rfl) fun a hE=>?_
      obtain⟨x7,ex7,hg4⟩:=bnd hg4
      refine Gq hE hc6 rfl (tX rfl hE rfl rfl (bD ex7)) fun a hE=>?_
      obtain⟨x8,ex8,hg4⟩:=bnd hg4
      obtain⟨b6,b6o,b6c,b6r,b6k,b6f⟩:=bJ.at hp0 aY ex8
      obtain rfl:b6c=Enc.enc x8:=b6k
      have b6f:AtP ρ b6 b6o [(Iv x8)]:=b6f
      refine Gq hE hc6 rfl (aS rfl hE rfl rfl b6r) fun a hE=>Gq hE hc6 rfl (aX rfl hE rfl (fun w hw=>bF bG (b6f.c 0 rfl w hw))) fun a hE=>?_
      obtain⟨x9,ex9,hg4⟩:=bnd hg4
      refine vF (wk1 hE rfl rfl rfl hc6) rfl rfl hE rfl [(Iv x8)] ⟨rfl,trivial⟩ ent25 (v:=(Iv x9)) (fun w hw=>Calls.mono (gQ x8 hw x9 ex9) fun e w' ⟨v,he,hv,hh⟩=>⟨by rw[he,hv],hh⟩) ?_
      intro a hE
      refine Gq hE hc6 rfl (ex_leq rfl hE rfl rfl) fun a hE=>Gq hE hc5 rfl (mD rfl hE rfl hc6 rfl) fun a hE=>?_
      obtain rfl:=oj hg4
      exact oO (hE.cut ⟨rfl,rfl,rfl,rfl,rfl,rfl,rfl,rfl,trivial⟩)
     replace hg4:=(ie hc6).symm.trans hg4
     refine Gkq hE hc6 rfl fun a hE=>Gkq hE hc6 rfl fun a hE=>Gkq hE hc6 rfl fun a hE=>Gkq hE hc6 rfl fun a hE=>Gkq hE hc6 rfl fun a hE=>Gkq hE hc6 rfl fun a hE=>Gkq hE hc6 rfl fun a hE=>Gkq hE hc6 rfl fun a hE=>Gkq hE hc6 rfl fun a hE=>Gkq hE hc6 rfl fun a hE=>Gkq hE hc6 rfl fun a hE=>Gkq hE hc6 rfl fun a hE=>Gq hE hc5 rfl (dF rfl hE rfl hc6 rfl) fun a hE=>?_
     obtain rfl:=oj hg4
     exact oO (hE.cut ⟨rfl,rfl,rfl,rfl,rfl,rfl,rfl,rfl,trivial⟩)
    intro a hE
    refine Vq hE rfl (dF rfl hE rfl hc5 rfl) fun a hE=>?_
    obtain rfl:=oj hg3
    exact oO (hE.cut ⟨rfl,rfl,rfl,rfl,trivial⟩)
   intro a hE
   refine oO fun w hp=>?_
   have hp:=r0 hp
   refine dK hE rfl (fun hc7=>?_) (fun hc7=>?_)
   ·replace hl1:=(it hc7).symm.trans hl1
    refine aG (aB ?_)
    refine S hE 1 rfl fun a hE=>aC (dC ?_)
    refine⟨_,(oj hl1).symm,fun hb=>?_⟩
    subst hb
    obtain rfl:=oj hm
    exact gK hE rfl rfl ⟨_,rfl,rfl,hp⟩
   replace hl1:=(ie hc7).symm.trans hl1
   refine bQ (aB ?_)
   refine S hE 1 rfl fun a hE=>?_
   obtain⟨x10,ex10,hl1⟩:=bnd hl1
   refine V hE hp rfl (dH rfl hE rfl rfl (bD ex10)) fun a hE=>S hE 1 rfl fun a hE=>aC ?_
   exact⟨_,(oj hl1).symm,hE.cut ⟨rfl,rfl,rfl,trivial⟩,hp⟩
  replace hl1:=(ie hc2).symm.trans hl1
  refine dR ?_
  refine⟨_,(oj hl1).symm,fun hbb=>?_⟩
  exact⟨_,hbb.symm,hE.cut trivial,hp⟩
 rintro a w ⟨b1s,rfl,hE,hp⟩
 dsimp only at hm
 refine aG (aB ?_)
 refine S hE 1 rfl fun a hE=>aC (dC ?_)
 obtain rfl:=oj hm
 exact gK hE rfl rfl ⟨_,rfl,rfl,hp⟩
theorem tJ {Z:World} {ρ:PH} {L:List bZ} {w:World} (p0:Formula) (aF:Value) (bH:bJ ρ aF p0.clauses) (hp:Hp Z ρ (L) w) (r:Bool) (hm:jR p0=some r):
  Calls Try.prog 31 #[(.agg #[(Iv p0.vars),aF])] w (Ret fun v w'=>v=(.bool r)∧Hp Z ρ (L) w'):=by
 refine enter (N:=34) Try.func31 rfl rfl [(0,(.agg #[(Iv p0.vars),aF]))] rfl (bT ⟨rfl,trivial⟩) fun a hE=>?_
 unfold jR at hm
 refine aG (aB ?_)
 refine qH (wk0 rfl) rfl rfl hE hp rfl (v:=(.agg #[(Iv p0.vars),aF])) rfl ?_
 intro a w b1 hE hp
 have hp:=r1 hp
 refine S hE 1 rfl fun a hE=>aC (aG ?_)
 refine aG (aB ?_)
 refine V hE hp rfl (xf hE kP rfl rfl) fun a hE=>V hE hp rfl (xl hE bG 0 rfl rfl rfl rfl) fun a hE=>S hE 2 rfl fun a hE=>?_
 refine iD [_,_,_,_] (fun a w=>Env 34 [(11,(.bool ((decide (p0.vars<0))||(decide (65536<p0.vars))))),(1,(Pv b1 0))] a∧Hp Z ρ (Pt b1 (.cells #[(Iv p0.vars),aF] 24 (0,0))::L) w) ?_ ?_
 ·rcases Bool.eq_false_or_eq_true (decide (p0.vars<0)) with hc1|hc1
  ·
   refine Gk hE hc1 rfl fun a hE=>Gk hE hc1 rfl fun a hE=>Gk hE hc1 rfl fun a hE=>pk1 hE hc1 rfl rfl rfl rfl fun a hE=>?_
   have hE:=hE.eqv (v':=(.bool ((decide (p0.vars<0))||(decide (65536<p0.vars))))) (by rw[hc1];rfl)
   exact aC ⟨hE.cut ⟨rfl,rfl,trivial⟩,hp⟩
  refine G hE hp hc1 rfl (xf hE kP rfl rfl) fun a hE=>G hE hp hc1 rfl (xl hE bG 0 rfl rfl rfl rfl) fun a hE=>Gs hE hc1 rfl rfl fun a hE=>pk0 hE hc1 rfl rfl rfl rfl fun a hE=>?_
  have hE:=hE.eqv (v':=(.bool ((decide (p0.vars<0))||(decide (65536<p0.vars))))) (by rw[hc1];rfl)
  exact aC ⟨hE.cut ⟨rfl,rfl,trivial⟩,hp⟩
 rintro a w ⟨hE,hp⟩
 refine S hE 1 rfl fun a hE=>?_
 refine iD [_,_,_,_,_] (fun a w=>Env 34 [(17,(.bool (((decide (p0.vars<0))||(decide (65536<p0.vars)))||(decide (262144<(p0.clauses.length:Int)))))),(1,(Pv b1 0))] a∧Hp Z ρ (Pt b1 (.cells #[(Iv p0.vars),aF] 24 (0,0))::L) w) ?_ ?_
 ·rcases Bool.eq_false_or_eq_true ((decide (p0.vars<0))||(decide (65536<p0.vars))) with hc2|hc2
  ·
   refine Gk hE hc2 rfl fun a hE=>Gk hE hc2 rfl fun a hE=>Gk hE hc2 rfl fun a hE=>Gk hE hc2 rfl fun a hE=>pk1 hE hc2 rfl rfl rfl rfl fun a hE=>?_
   have hE:=hE.eqv (v':=(.bool (((decide (p0.vars<0))||(decide (65536<p0.vars)))||(decide (262144<(p0.clauses.length:Int)))))) (by rw[hc2];rfl)
   exact aC ⟨hE.cut ⟨rfl,rfl,trivial⟩,hp⟩
  refine G hE hp hc2 rfl (xf hE lI rfl rfl) fun a hE=>G hE hp hc2 rfl (xl hE kD 0 rfl rfl rfl rfl) fun a hE=>G hE hp hc2 rfl (dD rfl hE rfl (bJ.len bH gY)) fun a hE=>Gs hE hc2 rfl rfl fun a hE=>pk0 hE hc2 rfl rfl rfl rfl fun a hE=>?_
  have hE:=hE.eqv (v':=(.bool (((decide (p0.vars<0))||(decide (65536<p0.vars)))||(decide (262144<(p0.clauses.length:Int)))))) (by rw[hc2];rfl)
  exact aC ⟨hE.cut ⟨rfl,rfl,trivial⟩,hp⟩
 rintro a w ⟨hE,hp⟩
 refine aC ?_
 refine dK hE rfl (fun hc3=>?_) (fun hc3=>?_)
 ·replace hm:=(it hc3).symm.trans hm
  refine aG (aB ?_)
  refine S hE 1 rfl fun a hE=>aC (dC ?_)
  obtain rfl:=oj hm
  exact gK hE rfl rfl ⟨_,rfl,rfl,(hp.drop)⟩
 replace hm:=(ie hc3).symm.trans hm
 refine bQ (aG ?_)
 refine aG (aB ?_)
 refine S hE 1 rfl fun a hE=>aC ?_
 obtain⟨b2,hc4,hm⟩:=bnd hm
 refine dI (fun a w=>∃s:Unit,b2= .brk s∧(Env 34 [] a∧Hp Z ρ (Pt b1 (.cells #[(Iv p0.vars),aF] 24 (0,0))::L) w)) ?_ ?_
 ·refine eX hc4 (fun s a w=>Env 34 [(1,(Pv b1 0)),(3,(Iv s))] a∧Hp Z ρ (Pt b1 (.cells #[(Iv p0.vars),aF] 24 (0,0))::L) w) ?_ ?_
  ·exact⟨hE.cut ⟨rfl,rfl,trivial⟩,hp⟩
  rintro aW st a w ⟨hE,hp⟩ hl1
  unfold nT at hl1
  refine aG (aG ?_)
  refine aB (S hE 1 rfl fun a hE=>?_)
  refine V hE hp rfl (xf hE lI rfl rfl) fun a hE=>V hE hp rfl (xl hE kD 0 rfl rfl rfl rfl) fun a hE=>V hE hp rfl (dD rfl hE rfl (bJ.len bH gY)) fun a hE=>S hE 1 rfl fun a hE=>aC ?_
  have hE:=hE.cut (E':=[(1,(Pv b1 0)),(3,(Iv aW)),(22,(.bool (decide (aW<(p0.clauses.length:Int)))))]) ⟨rfl,rfl,rfl,trivial⟩
  refine dK hE rfl (fun hc5=>?_) (fun hc5=>?_)
  ·replace hl1:=(it hc5).symm.trans hl1
   refine bQ (aG ?_)
   refine dG (aG ?_)
   refine lG (by kernel_rfl) (by kernel_rfl) hp ?_
   refine Vq hE rfl (xf hE lI rfl rfl) fun a hE=>Vq hE rfl (xl hE kD 0 rfl rfl rfl rfl) fun a hE=>Sq hE 1 rfl fun a hE=>?_
   obtain⟨x1,ex1,hl1⟩:=bnd hl1
   obtain⟨b3,b3o,b3c,b3r,b3k,b3f⟩:=bJ.at bH gY ex1
   obtain⟨vb3,rfl,hb3⟩:=b3k
   have b3f:AtP ρ b3 b3o [vb3]:=b3f
   refine Vq hE rfl (aS rfl hE rfl rfl b3r) fun a hE=>Vq hE rfl (aX rfl hE rfl (fun w hw=>bF bK (b3f.c 0 rfl w hw))) fun a hE=>Vq hE rfl (xf hE kP rfl rfl) fun a hE=>Vq hE rfl (xl hE bG 0 rfl rfl rfl rfl) fun a hE=>?_
   obtain⟨x2,ex2,hl1⟩:=bnd hl1
   refine vF (wk0 rfl) rfl rfl hE rfl [vb3,(Iv p0.vars)] ⟨rfl,rfl,trivial⟩ ent32 (v:=(.bool x2)) (fun w hw=>Calls.mono (oP x1 vb3 hb3 p0.vars hw x2 ex2) fun e w' ⟨v,he,hv,hh⟩=>⟨by rw[he,hv],hh⟩) ?_
   intro a hE
   refine Sq hE 1 rfl fun a hE=>?_
   refine oO fun w hp=>?_
   have hp:=r1 hp
   refine dK hE rfl (fun hc6=>?_) (fun hc6=>?_)
   ·replace hl1:=(it hc6).symm.trans hl1
    refine aG (aB ?_)
    refine S hE 1 rfl fun a hE=>aC (dC ?_)
    refine⟨_,(oj hl1).symm,fun hb=>?_⟩
    subst hb
    obtain rfl:=oj hm
    exact gK hE rfl rfl ⟨_,rfl,rfl,(hp.drop)⟩
   replace hl1:=(ie hc6).symm.trans hl1
   refine bQ (aB ?_)
   refine S hE 1 rfl fun a hE=>?_
   obtain⟨x3,ex3,hl1⟩:=bnd hl1
   refine V hE hp rfl (dH rfl hE rfl rfl (bD ex3)) fun a hE=>S hE 1 rfl fun a hE=>aC ?_
   exact⟨_,(oj hl1).symm,hE.cut ⟨rfl,rfl,trivial⟩,hp⟩
  replace hl1:=(ie hc5).symm.trans hl1
  refine dR ?_
  refine⟨_,(oj hl1).symm,fun hbb=>?_⟩
  exact⟨_,hbb.symm,hE.cut trivial,hp⟩
 rintro a w ⟨b2s,rfl,hE,hp⟩
 dsimp only at hm
 refine aG (aB ?_)
 refine S hE 1 rfl fun a hE=>aC (dC ?_)
 obtain rfl:=oj hm
 exact gK hE rfl rfl ⟨_,rfl,rfl,(hp.drop)⟩
theorem I7 {Z:World} {ρ:PH} {L:List bZ} {w:World} (p0:(List (List Int))) (vp0:Value) (hp0:bJ ρ vp0 p0) (p1:(List (List Int))) (vp1:Value) (hp1:bJ ρ vp1 p1) (hp:Hp Z ρ (L) w) (r:Bool) (hm:mF p0 p1=some r):
  Calls Try.prog 33 #[vp0,vp1] w (Ret fun v w'=>v=(.bool r)∧Hp Z ρ (L) w'):=by
 refine enter (N:=53) Try.func33 rfl rfl [(0,vp0),(1,vp1)] rfl (bT ⟨rfl,rfl,trivial⟩) fun a hE=>?_
 unfold mF at hm
 refine aG (aB ?_)
 refine S hE 1 rfl fun a hE=>aC (aG ?_)
 refine aG (aB ?_)
 refine S hE 1 rfl fun a hE=>V hE hp rfl (dD rfl hE rfl (bJ.len hp0 gY)) fun a hE=>S hE 1 rfl fun a hE=>V hE hp rfl (dD rfl hE rfl (bJ.len hp1 gY)) fun a hE=>S hE 1 rfl fun a hE=>aC ?_
 refine dK hE rfl (fun hc1=>?_) (fun hc1=>?_)
 ·replace hm:=(it hc1).symm.trans hm
  refine aG (aB ?_)
  refine S hE 1 rfl fun a hE=>aC (dC ?_)
  obtain rfl:=oj hm
  exact gK hE rfl rfl ⟨_,rfl,rfl,hp⟩
 replace hm:=(ie hc1).symm.trans hm
 refine bQ (aG ?_)
 refine aG (aB ?_)
 refine S hE 1 rfl fun a hE=>aC ?_
 obtain⟨b1,hc2,hm⟩:=bnd hm
 refine dI (fun a w=>∃s:Unit,b1= .brk s∧(Env 53 [] a∧Hp Z ρ (L) w)) ?_ ?_
 ·refine eX hc2 (fun s a w=>Env 53 [(0,vp0),(1,vp1),(5,(Iv s))] a∧Hp Z ρ (L) w) ?_ ?_
  ·exact⟨hE.cut ⟨rfl,rfl,rfl,trivial⟩,hp⟩
  rintro aW st a w ⟨hE,hp⟩ hl1
  unfold mW at hl1
  refine aG (aG ?_)
  refine aB (S hE 2 rfl fun a hE=>?_)
  refine V hE hp rfl (dD rfl hE rfl (bJ.len hp0 gY)) fun a hE=>S hE 1 rfl fun a hE=>aC ?_
  refine dK hE rfl (fun hc3=>?_) (fun hc3=>?_)
  ·replace hl1:=(it hc3).symm.trans hl1
   refine bQ (aG ?_)
   refine dG (aG ?_)
   refine aG ?_
   refine lG (by kernel_rfl) (by kernel_rfl) hp ?_
   refine Sq hE 2 rfl fun a hE=>?_
   obtain⟨x1,ex1,hl1⟩:=bnd hl1
   obtain⟨b2,b2o,b2c,b2r,b2k,b2f⟩:=bJ.at hp0 gY ex1
   obtain⟨vb2,rfl,hb2⟩:=b2k
   have b2f:AtP ρ b2 b2o [vb2]:=b2f
   refine Vq hE rfl (aS rfl hE rfl rfl b2r) fun a hE=>Vq hE rfl (aX rfl hE rfl (fun w hw=>bF bK (b2f.c 0 rfl w hw))) fun a hE=>Vq hE rfl (dD rfl hE rfl (bJ.len hb2 aY)) fun a hE=>Sq hE 2 rfl fun a hE=>?_
   obtain⟨x2,ex2,hl1⟩:=bnd hl1
   obtain⟨b3,b3o,b3c,b3r,b3k,b3f⟩:=bJ.at hp1 gY ex2
   obtain⟨vb3,rfl,hb3⟩:=b3k
   have b3f:AtP ρ b3 b3o [vb3]:=b3f
   refine Vq hE rfl (aS rfl hE rfl rfl b3r) fun a hE=>Vq hE rfl (aX rfl hE rfl (fun w hw=>bF bK (b3f.c 0 rfl w hw))) fun a hE=>Vq hE rfl (dD rfl hE rfl (bJ.len hb3 aY)) fun a hE=>Sq hE 1 rfl fun a hE=>?_
   refine oO fun w hp=>?_
   have hp:=r0 hp
   have hE:=hE.cut (E':=[(0,vp0),(1,vp1),(5,(Iv aW)),(28,(.bool (!decide ((x1.length:Int)=(x2.length:Int)))))]) ⟨rfl,rfl,rfl,rfl,trivial⟩
   refine dK hE rfl (fun hc4=>?_) (fun hc4=>?_)
   ·replace hl1:=(it hc4).symm.trans hl1
    refine aG (aB ?_)
    refine S hE 1 rfl fun a hE=>aC (dC ?_)
    refine⟨_,(oj hl1).symm,fun hb=>?_⟩
    subst hb
    obtain rfl:=oj hm
    exact gK hE rfl rfl ⟨_,rfl,rfl,hp⟩
   replace hl1:=(ie hc4).symm.trans hl1
   refine bQ (aG ?_)
   refine aB (S hE 1 rfl fun a hE=>?_)
   refine aC ?_
   obtain⟨b4,hc5,hl1⟩:=bnd hl1
   refine dI (fun a w=>∃s:Unit,b4= .brk s∧(Env 53 [(0,vp0),(1,vp1),(5,(Iv aW))] a∧Hp Z ρ (L) w)) ?_ ?_
   ·refine eX hc5 (fun s a w=>Env 53 [(0,vp0),(1,vp1),(5,(Iv aW)),(6,(Iv s))] a∧Hp Z ρ (L) w) ?_ ?_
    ·exact⟨hE.cut ⟨rfl,rfl,rfl,rfl,trivial⟩,hp⟩
    rintro dS st a w ⟨hE,hp⟩ hl2
    unfold mX at hl2
    refine aG (aG ?_)
    refine aB (S hE 3 rfl fun a hE=>?_)
    obtain⟨x3,ex3,hl2⟩:=bnd hl2
    obtain⟨b5,b5o,b5c,b5r,b5k,b5f⟩:=bJ.at hp0 gY ex3
    obtain⟨vb5,rfl,hb5⟩:=b5k
    have b5f:AtP ρ b5 b5o [vb5]:=b5f
    refine V hE hp rfl (aS rfl hE rfl rfl b5r) fun a hE=>V hE hp rfl (aX rfl hE rfl (fun w hw=>bF bK (b5f.c 0 rfl w hw))) fun a hE=>V hE hp rfl (dD rfl hE rfl (bJ.len hb5 aY)) fun a hE=>S hE 1 rfl fun a hE=>aC ?_
    refine dK hE rfl (fun hc6=>?_) (fun hc6=>?_)
    ·replace hl2:=(it hc6).symm.trans hl2
     refine bQ (aG ?_)
     refine dG (aG ?_)
     refine lG (by kernel_rfl) (by kernel_rfl) hp ?_
     refine Sq hE 2 rfl fun a hE=>?_
     obtain⟨x4,ex4,hl2⟩:=bnd hl2
     obtain⟨b6,b6o,b6c,b6r,b6k,b6f⟩:=bJ.at hp0 gY ex4
     obtain⟨vb6,rfl,hb6⟩:=b6k
     have b6f:AtP ρ b6 b6o [vb6]:=b6f
     refine Vq hE rfl (aS rfl hE rfl rfl b6r) fun a hE=>Vq hE rfl (aX rfl hE rfl (fun w hw=>bF bK (b6f.c 0 rfl w hw))) fun a hE=>Sq hE 1 rfl fun a hE=>?_
     obtain⟨x5,ex5,hl2⟩:=bnd hl2
     obtain⟨b7,b7o,b7c,b7r,b7k,b7f⟩:=bJ.at hb6 aY ex5
     obtain rfl:b7c=Enc.enc x5:=b7k
     have b7f:AtP ρ b7 b7o [(Iv x5)]:=b7f
     refine Vq hE rfl (aS rfl hE rfl rfl b7r) fun a hE=>Vq hE rfl (aX rfl hE rfl (fun w hw=>bF bG (b7f.c 0 rfl w hw))) fun a hE=>Sq hE 2 rfl fun a hE=>?_
     obtain⟨x6,ex6,hl2⟩:=bnd hl2
     obtain⟨b8,b8o,b8c,b8r,b8k,b8f⟩:=bJ.at hp1 gY ex6
     obtain⟨vb8,rfl,hb8⟩:=b8k
     have b8f:AtP ρ b8 b8o [vb8]:=b8f
     refine Vq hE rfl (aS rfl hE rfl rfl b8r) fun a hE=>Vq hE rfl (aX rfl hE rfl (fun w hw=>bF bK (b8f.c 0 rfl w hw))) fun a hE=>Sq hE 1 rfl fun a hE=>?_
     obtain⟨x7,ex7,hl2⟩:=bnd hl2
     obtain⟨b9,b9o,b9c,b9r,b9k,b9f⟩:=bJ.at hb8 aY ex7
     obtain rfl:b9c=Enc.enc x7:=b9k
     have b9f:AtP ρ b9 b9o [(Iv x7)]:=b9f
     refine Vq hE rfl (aS rfl hE rfl rfl b9r) fun a hE=>Vq hE rfl (aX rfl hE rfl (fun w hw=>bF bG (b9f.c 0 rfl w hw))) fun a hE=>Sq hE 1 rfl fun a hE=>?_
     refine oO fun w hp=>?_
     have hp:=r0 hp
     have hE:=hE.cut (E':=[(0,vp0),(1,vp1),(5,(Iv aW)),(6,(Iv dS)),(52,(.bool (!decide (x5=x7))))]) ⟨rfl,rfl,rfl,rfl,rfl,trivial⟩
     refine dK hE rfl (fun hc7=>?_) (fun hc7=>?_)
     ·replace hl2:=(it hc7).symm.trans hl2
      refine aG (aB ?_)
      refine S hE 1 rfl fun a hE=>aC (dC ?_)
      refine⟨_,(oj hl2).symm,fun hb=>?_⟩
      subst hb
      refine⟨_,(oj hl1).symm,fun hb=>?_⟩
      subst hb
      obtain rfl:=oj hm
      exact gK hE rfl rfl ⟨_,rfl,rfl,hp⟩
     replace hl2:=(ie hc7).symm.trans hl2
     refine bQ (aB ?_)
     refine S hE 1 rfl fun a hE=>?_
     obtain⟨x8,ex8,hl2⟩:=bnd hl2
     refine V hE hp rfl (dH rfl hE rfl rfl (bD ex8)) fun a hE=>S hE 1 rfl fun a hE=>aC ?_
     exact⟨_,(oj hl2).symm,hE.cut ⟨rfl,rfl,rfl,rfl,trivial⟩,hp⟩
    replace hl2:=(ie hc6).symm.trans hl2
    refine dR ?_
    refine⟨_,(oj hl2).symm,fun hbb=>?_⟩
    exact⟨_,hbb.symm,hE.cut ⟨rfl,rfl,rfl,trivial⟩,hp⟩
   rintro a w ⟨b4s,rfl,hE,hp⟩
   dsimp only at hl1
   refine aB (S hE 1 rfl fun a hE=>?_)
   obtain⟨x9,ex9,hl1⟩:=bnd hl1
   refine V hE hp rfl (dH rfl hE rfl rfl (bD ex9)) fun a hE=>S hE 1 rfl fun a hE=>aC ?_
   exact⟨_,(oj hl1).symm,hE.cut ⟨rfl,rfl,rfl,trivial⟩,hp⟩
  replace hl1:=(ie hc3).symm.trans hl1
  refine dR ?_
  refine⟨_,(oj hl1).symm,fun hbb=>?_⟩
  exact⟨_,hbb.symm,hE.cut trivial,hp⟩
 rintro a w ⟨b1s,rfl,hE,hp⟩
 dsimp only at hm
 refine aG (aB ?_)
 refine S hE 1 rfl fun a hE=>aC (dC ?_)
 obtain rfl:=oj hm
 exact gK hE rfl rfl ⟨_,rfl,rfl,hp⟩
theorem X8 {Z:World} {ρ:PH} {L:List bZ} {w:World} (p0:Formula) (aF:Value) (bH:bJ ρ aF p0.clauses) (p1:Int) (p2:Int) (hp:Hp Z ρ (L) w) (r:Bool) (hm:nZ p0 p1 p2=some r):
  Calls Try.prog 11 #[(.agg #[(Iv p0.vars),aF]),(Iv p1),(Iv p2)] w (Ret fun v w'=>v=(.bool r)∧Hp Z ρ (L) w'):=by
 refine enter (N:=33) Try.func11 rfl rfl [(0,(.agg #[(Iv p0.vars),aF])),(1,(Iv p1)),(2,(Iv p2))] rfl (bT ⟨rfl,rfl,rfl,trivial⟩) fun a hE=>?_
 unfold nZ at hm
 refine aG (aB ?_)
 refine qH (wk0 rfl) rfl rfl hE hp rfl (v:=(.agg #[(Iv p0.vars),aF])) rfl ?_
 intro a w b1 hE hp
 have hp:=r1 hp
 refine S hE 1 rfl fun a hE=>aC (aG ?_)
 refine aG (aB ?_)
 refine S hE 1 rfl fun a hE=>aC ?_
 obtain⟨b2,hc1,hm⟩:=bnd hm
 refine dI (fun a w=>∃s:Unit,b2= .brk s∧(Env 33 [(1,(Iv p1)),(2,(Iv p2)),(3,(Pv b1 0))] a∧Hp Z ρ (Pt b1 (.cells #[(Iv p0.vars),aF] 24 (0,0))::L) w)) ?_ ?_
 ·refine eX hc1 (fun s a w=>Env 33 [(1,(Iv p1)),(2,(Iv p2)),(3,(Pv b1 0)),(7,(Iv s))] a∧Hp Z ρ (Pt b1 (.cells #[(Iv p0.vars),aF] 24 (0,0))::L) w) ?_ ?_
  ·exact⟨hE.cut ⟨rfl,rfl,rfl,rfl,trivial⟩,hp⟩
  rintro aW st a w ⟨hE,hp⟩ hl1
  unfold nS at hl1
  refine aG (aG ?_)
  refine aB (S hE 1 rfl fun a hE=>?_)
  refine V hE hp rfl (xf hE lI rfl rfl) fun a hE=>V hE hp rfl (xl hE kD 0 rfl rfl rfl rfl) fun a hE=>V hE hp rfl (dD rfl hE rfl (bJ.len bH gY)) fun a hE=>S hE 1 rfl fun a hE=>aC ?_
  refine dK hE rfl (fun hc2=>?_) (fun hc2=>?_)
  ·replace hl1:=(it hc2).symm.trans hl1
   refine bQ (aG ?_)
   refine dG (aG ?_)
   refine aB (V hE hp rfl (xf hE lI rfl rfl) fun a hE=>?_)
   refine V hE hp rfl (xl hE kD 0 rfl rfl rfl rfl) fun a hE=>S hE 1 rfl fun a hE=>?_
   obtain⟨x1,ex1,hl1⟩:=bnd hl1
   obtain⟨b3,b3o,b3c,b3r,b3k,b3f⟩:=bJ.at bH gY ex1
   obtain⟨vb3,rfl,hb3⟩:=b3k
   have b3f:AtP ρ b3 b3o [vb3]:=b3f
   refine V hE hp rfl (aS rfl hE rfl rfl b3r) fun a hE=>V hE hp rfl (aX rfl hE rfl (fun w hw=>bF bK (b3f.c 0 rfl w hw))) fun a hE=>V hE hp rfl (dD rfl hE rfl (bJ.len hb3 aY)) fun a hE=>S hE 1 rfl fun a hE=>aC ?_
   have hE:=hE.cut (E':=[(1,(Iv p1)),(2,(Iv p2)),(3,(Pv b1 0)),(7,(Iv aW)),(21,(.bool (decide (30<(x1.length:Int)))))]) ⟨rfl,rfl,rfl,rfl,rfl,trivial⟩
   refine dK hE rfl (fun hc3=>?_) (fun hc3=>?_)
   ·replace hl1:=(it hc3).symm.trans hl1
    refine aG (aB ?_)
    refine S hE 1 rfl fun a hE=>aC (dC ?_)
    refine⟨_,(oj hl1).symm,fun hb=>?_⟩
    subst hb
    obtain rfl:=oj hm
    exact gK hE rfl rfl ⟨_,rfl,rfl,(hp.drop)⟩
   replace hl1:=(ie hc3).symm.trans hl1
   refine bQ (aB ?_)
   refine S hE 1 rfl fun a hE=>?_
   obtain⟨x2,ex2,hl1⟩:=bnd hl1
   refine V hE hp rfl (dH rfl hE rfl rfl (bD ex2)) fun a hE=>S hE 1 rfl fun a hE=>aC ?_
   exact⟨_,(oj hl1).symm,hE.cut ⟨rfl,rfl,rfl,rfl,trivial⟩,hp⟩
  replace hl1:=(ie hc2).symm.trans hl1
  refine dR ?_
  refine⟨_,(oj hl1).symm,fun hbb=>?_⟩
  exact⟨_,hbb.symm,hE.cut ⟨rfl,rfl,rfl,trivial⟩,hp⟩
 rintro a w ⟨b2s,rfl,hE,hp⟩
 dsimp only at hm
 refine aG (aB ?_)
 refine V hE hp rfl (xf hE kP rfl rfl) fun a hE=>V hE hp rfl (xl hE bG 0 rfl rfl rfl rfl) fun a hE=>S hE 3 rfl fun a hE=>?_
 refine iD [_,_,_,_,_,_] (fun a w=>Env 33 [(32,(.bool ((decide (p0.vars≤p1))&&(decide ((p0.clauses.length:Int)≤p2)))))] a∧Hp Z ρ (Pt b1 (.cells #[(Iv p0.vars),aF] 24 (0,0))::L) w) ?_ ?_
 ·rcases Bool.eq_false_or_eq_true (decide (p0.vars≤p1)) with hc4|hc4
  ·
   refine G hE hp hc4 rfl (xf hE lI rfl rfl) fun a hE=>G hE hp hc4 rfl (xl hE kD 0 rfl rfl rfl rfl) fun a hE=>G hE hp hc4 rfl (dD rfl hE rfl (bJ.len bH gY)) fun a hE=>Gs hE hc4 rfl rfl fun a hE=>Gs hE hc4 rfl rfl fun a hE=>pk1 hE hc4 rfl rfl rfl rfl fun a hE=>?_
   have hE:=hE.eqv (v':=(.bool ((decide (p0.vars≤p1))&&(decide ((p0.clauses.length:Int)≤p2))))) (by rw[hc4];rfl)
   exact aC ⟨hE.cut ⟨rfl,trivial⟩,hp⟩
  refine Gk hE hc4 rfl fun a hE=>Gk hE hc4 rfl fun a hE=>Gk hE hc4 rfl fun a hE=>Gk hE hc4 rfl fun a hE=>Gk hE hc4 rfl fun a hE=>pk0 hE hc4 rfl rfl rfl rfl fun a hE=>?_
  have hE:=hE.eqv (v':=(.bool ((decide (p0.vars≤p1))&&(decide ((p0.clauses.length:Int)≤p2))))) (by rw[hc4];rfl)
  exact aC ⟨hE.cut ⟨rfl,trivial⟩,hp⟩
 rintro a w ⟨hE,hp⟩
 refine S hE 1 rfl fun a hE=>aC (dC ?_)
 obtain rfl:=oj hm
 exact gK hE rfl rfl ⟨_,rfl,rfl,(hp.drop)⟩
theorem I8 {Z:World} {ρ:PH} {L:List bZ} {w:World} (p0:Formula) (aF:Value) (bH:bJ ρ aF p0.clauses) (p1:(List Int)) (vp1:Value) (hp1:bJ ρ vp1 p1) (hp:Hp Z ρ (L) w) (r:((List Int)×Bool)) (hm:mG p0 p1=some r):
  Calls Try.prog 69 #[(.agg #[(Iv p0.vars),aF]),vp1] w (Ret fun v w'=>∃(vr1:Value),v= .tuple #[vr1,(.bool r.2)]∧Hp Z ρ (aA 3 vr1 r.1::L) w'):=by
 refine enter (N:=106) Try.func69 rfl rfl [(0,(.agg #[(Iv p0.vars),aF])),(1,vp1)] rfl (bT ⟨rfl,rfl,trivial⟩) fun a hE=>?_
 unfold mG at hm
 refine aG (aB ?_)
 refine qH (wk0 rfl) rfl rfl hE hp rfl (v:=(.agg #[(Iv p0.vars),aF])) rfl ?_
 intro a w b1 hE hp
 have hp:=r1 hp
 refine S hE 2 rfl fun a hE=>aC (aG ?_)
 refine aB (V hE hp rfl (xf hE kP rfl rfl) fun a hE=>?_)
 refine V hE hp rfl (xl hE bG 0 rfl rfl rfl rfl) fun a hE=>?_
 obtain⟨x1,ex1,hm⟩:=bnd hm
 refine V hE hp rfl (dH rfl hE rfl rfl (bD ex1)) fun a hE=>?_
 obtain⟨x2,ex2,hm⟩:=bnd hm
 refine fH (wk0 rfl) rfl rfl hE hp rfl (El:=3) (bytes:=8) (by kernel_rfl) (0:Int) (by kernel_rfl) (by kernel_rfl) rfl rfl ex2 ?_
 intro v1 a w hE hp
 have hp:=r2 hp
 refine S hE 1 rfl fun a hE=>aC (aG ?_)
 refine aG (aB ?_)
 refine S hE 1 rfl fun a hE=>aC ?_
 obtain⟨b2,hc1,hm⟩:=bnd hm
 refine dI (fun a w=>∃s:(List Int),b2= .brk s∧(∃(w3:Value),Env 106 [(2,(Pv b1 0)),(6,w3)] a∧Hp Z ρ (aA 3 w3 s::Pt b1 (.cells #[(Iv p0.vars),aF] 24 (0,0))::L) w)) ?_ ?_
 ·refine eX hc1 (fun s a w=>∃(w3:Value),Env 106 [(1,vp1),(2,(Pv b1 0)),(6,w3),(7,(Iv s.1))] a∧Hp Z ρ (aA 3 w3 s.2::Pt b1 (.cells #[(Iv p0.vars),aF] 24 (0,0))::L) w) ?_ ?_
  ·exact⟨_,hE.cut ⟨rfl,rfl,rfl,rfl,trivial⟩,hp⟩
  rintro⟨aW,bU⟩ st a w ⟨w3,hE,hp⟩ hl1
  dsimp only at hE hp hl1
  unfold gG at hl1
  refine aG (aG ?_)
  refine aB (S hE 2 rfl fun a hE=>?_)
  refine V hE hp rfl (dD rfl hE rfl (bJ.len hp1 aY)) fun a hE=>S hE 1 rfl fun a hE=>aC ?_
  refine dK hE rfl (fun hc2=>?_) (fun hc2=>?_)
  ·replace hl1:=(it hc2).symm.trans hl1
   refine bQ (aG ?_)
   refine dG (aG ?_)
   refine aG ?_
   refine lG (by kernel_rfl) (by kernel_rfl) hp ?_
   refine Sq hE 3 rfl fun a hE=>?_
   obtain⟨x3,ex3,hl1⟩:=bnd hl1
   obtain⟨b3,b3o,b3c,b3r,b3k,b3f⟩:=bJ.at hp1 aY ex3
   obtain rfl:b3c=Enc.enc x3:=b3k
   have b3f:AtP ρ b3 b3o [(Iv x3)]:=b3f
   refine Vq hE rfl (aS rfl hE rfl rfl b3r) fun a hE=>Vq hE rfl (aX rfl hE rfl (fun w hw=>bF bG (b3f.c 0 rfl w hw))) fun a hE=>?_
   obtain⟨x4,ex4,hl1⟩:=bnd hl1
   refine vF (wk0 rfl) rfl rfl hE rfl [(Iv x3)] ⟨rfl,trivial⟩ ent25 (v:=(Iv x4)) (fun w hw=>Calls.mono (gQ x3 hw x4 ex4) fun e w' ⟨v,he,hv,hh⟩=>⟨by rw[he,hv],hh⟩) ?_
   intro a hE
   obtain⟨x5,ex5,hl1⟩:=bnd hl1
   obtain⟨b4,b4o,b4r,b4v,b4f⟩:=aA.at hp 0 rfl aY ex5
   refine Vq hE rfl (aS rfl hE rfl rfl b4r) fun a hE=>Vq hE rfl (aX rfl hE rfl (fun w hw=>bF bG (b4f 0 _ rfl _ _ w (hw.get 0 rfl)))) fun a hE=>Sq hE 2 rfl fun a hE=>?_
   obtain⟨x6,ex6,hl1⟩:=bnd hl1
   obtain⟨b5,b5o,b5c,b5r,b5k,b5f⟩:=bJ.at hp1 aY ex6
   obtain rfl:b5c=Enc.enc x6:=b5k
   have b5f:AtP ρ b5 b5o [(Iv x6)]:=b5f
   refine Vq hE rfl (aS rfl hE rfl rfl b5r) fun a hE=>Vq hE rfl (aX rfl hE rfl (fun w hw=>bF bG (b5f.c 0 rfl w hw))) fun a hE=>?_
   obtain⟨x7,ex7,hl1⟩:=bnd hl1
   refine Vq hE rfl (pV rfl hE rfl (bD ex7)) fun a hE=>Sq hE 1 rfl fun a hE=>?_
   refine oO fun w hp=>?_
   have hp:=r2 hp
   have hE:=hE.cut (E':=[(1,vp1),(2,(Pv b1 0)),(6,w3),(7,(Iv aW)),(38,(.bool (decide (x5=x7))))]) ⟨rfl,rfl,rfl,rfl,rfl,trivial⟩
   refine dK hE rfl (fun hc3=>?_) (fun hc3=>?_)
   ·replace hl1:=(it hc3).symm.trans hl1
    refine aG (aB ?_)
    refine S hE 3 rfl fun a hE=>aC (dC ?_)
    refine⟨_,(oj hl1).symm,fun hb=>?_⟩
    subst hb
    obtain rfl:=oj hm
    exact ret2 hE rfl rfl rfl ⟨_,rfl,_,rfl,((hp.get 1 rfl).drop)⟩
   replace hl1:=(ie hc3).symm.trans hl1
   refine bQ ?_
   obtain⟨x8,ex8,hl1⟩:=bnd hl1
   obtain⟨x9,ex9,hl1⟩:=bnd hl1
   obtain⟨x10,ex10,hl1⟩:=bnd hl1
   obtain⟨x11,ex11,hl1⟩:=bnd hl1
   have hp:=hp.drew
   refine jT ([([],At0 Z ρ)]:Facts) (fun a w=>Env 106 [(1,vp1),(2,(Pv b1 0)),(6,w3),(7,(Iv aW))] a∧Hp Z ρ (aA 3 w3 (bU.set x9.toNat x10)::Pt b1 (.cells #[(Iv p0.vars),aF] 24 (0,0))::L) w) (by kernel_rfl) ⟨fun _=>⟨_,hp⟩,trivial⟩ (fun hS=>?_) ?_
   ·
    generalize w.drew=w at hS hp⊢
    refine Ts [0,1,2] hE hS rfl rfl (by kernel_rfl) fun a hE hS=>?_
    obtain⟨b9,b9o,b9c,b9r,b9k,b9f⟩:=bJ.at hp1 aY ex8
    obtain rfl:b9c=Enc.enc x8:=b9k
    have b9f:AtP ρ b9 b9o [(Iv x8)]:=b9f
    refine T0 3 hE hS rfl rfl rfl (by kernel_rfl) (fun _=>aS rfl hE rfl rfl b9r) fun a hE hS=>T0 4 hE hS rfl rfl rfl (by kernel_rfl) (fun _=>aX rfl hE rfl (fun w hw=>bF bG (b9f.c 0 rfl w hw))) fun a hE hS=>Ts [6,7] hE hS rfl rfl (by kernel_rfl) fun a hE hS=>?_
    obtain⟨b10,b10o,b10c,b10r,b10k,b10f⟩:=bJ.at hp1 aY ex10
    obtain rfl:b10c=Enc.enc x10:=b10k
    have b10f:AtP ρ b10 b10o [(Iv x10)]:=b10f
    refine T0 8 hE hS rfl rfl rfl (by kernel_rfl) (fun _=>aS rfl hE rfl rfl b10r) fun a hE hS=>T0 9 hE hS rfl rfl rfl (by kernel_rfl) (fun _=>aX rfl hE rfl (fun w hw=>bF bG (b10f.c 0 rfl w hw))) fun a hE hS=>?_
    refine W1 5 (by kernel_rfl) rfl ?_
    refine Cl hE rfl rfl ent25 (gQ x8 hp x9 ex9) ⟨rfl,trivial⟩ fun v a w hR hE=>?_
    obtain⟨rfl,hp⟩:=hR
    have hp:=r2 hp
    refine aC (aI ⟨gp0 hp,trivial⟩ fun hS=>?_)
    obtain⟨b11,b11o,b11r,b11v,b11f⟩:=aA.at hp 0 rfl aY ex11
    refine T0 10 hE hS rfl rfl rfl (by kernel_rfl) (fun _=>aS rfl hE rfl rfl b11r) fun a hE hS=>?_
    refine W1 11 (by kernel_rfl) rfl ?_
    refine nI (wk0 rfl) rfl hE hp rfl rfl rfl 0 rfl ex11 b11v 0 (e':=x10) bG.size_ rfl rfl rfl ⟨rfl,rfl⟩ ?_
    intro w hp
    have hp:=r2 hp
    refine aC (aI ⟨gp0 hp,trivial⟩ fun hS=>?_)
    exact dX (by kernel_rfl) ⟨hE.cut ⟨rfl,rfl,rfl,rfl,trivial⟩,hp⟩
   rintro a w ⟨hE,hp⟩
   refine aB (S hE 1 rfl fun a hE=>?_)
   obtain⟨x12,ex12,hl1⟩:=bnd hl1
   refine V hE hp rfl (dH rfl hE rfl rfl (bD ex12)) fun a hE=>S hE 1 rfl fun a hE=>aC ?_
   exact⟨_,(oj hl1).symm,_,hE.cut ⟨rfl,rfl,rfl,rfl,trivial⟩,hp⟩
  replace hl1:=(ie hc2).symm.trans hl1
  refine dR ?_
  refine⟨_,(oj hl1).symm,fun hbb=>?_⟩
  exact⟨_,hbb.symm,_,hE.cut ⟨rfl,rfl,trivial⟩,hp⟩
 rintro a w ⟨b2s,rfl,w3,hE,hp⟩
 dsimp only at hm
 refine aG (aG ?_)
 refine aB (S hE 1 rfl fun a hE=>?_)
 refine aC ?_
 obtain⟨b12,hc4,hm⟩:=bnd hm
 refine dI (fun a w=>∃s:(List Int),b12= .brk s∧(∃(w3:Value),Env 106 [(6,w3)] a∧Hp Z ρ (aA 3 w3 s::Pt b1 (.cells #[(Iv p0.vars),aF] 24 (0,0))::L) w)) ?_ ?_
 ·refine eX hc4 (fun s a w=>∃(w3:Value),Env 106 [(2,(Pv b1 0)),(6,w3),(8,(.bool s.1))] a∧Hp Z ρ (aA 3 w3 s.2::Pt b1 (.cells #[(Iv p0.vars),aF] 24 (0,0))::L) w) ?_ ?_
  ·exact⟨_,hE.cut ⟨rfl,rfl,rfl,trivial⟩,hp⟩
  rintro⟨dS,gZ⟩ st a w ⟨w3,hE,hp⟩ hl2
  dsimp only at hE hp hl2
  unfold gI at hl2
  refine aG (aG ?_)
  refine aB (S hE 1 rfl fun a hE=>?_)
  refine aC ?_
  refine dK hE rfl (fun hc5=>?_) (fun hc5=>?_)
  ·replace hl2:=(it hc5).symm.trans hl2
   refine bQ (dG ?_)
   refine aG (aB ?_)
   refine S hE 1 rfl fun a hE=>aC (aG ?_)
   refine aB (S hE 1 rfl fun a hE=>?_)
   refine aC ?_
   obtain⟨b13,hc6,hl2⟩:=bnd hl2
   refine dI (fun a w=>∃s:(Bool×(List Int)),b13= .brk s∧(∃(w3:Value),Env 106 [(2,(Pv b1 0)),(6,w3),(8,(.bool s.1))] a∧Hp Z ρ (aA 3 w3 s.2::Pt b1 (.cells #[(Iv p0.vars),aF] 24 (0,0))::L) w)) ?_ ?_
   ·refine eX hc6 (fun s a w=>∃(w3:Value),Env 106 [(2,(Pv b1 0)),(6,w3),(8,(.bool s.1)),(9,(Iv s.2.1))] a∧Hp Z ρ (aA 3 w3 s.2.2::Pt b1 (.cells #[(Iv p0.vars),aF] 24 (0,0))::L) w) ?_ ?_
    ·exact⟨_,hE.cut ⟨rfl,rfl,rfl,rfl,trivial⟩,hp⟩
    rintro⟨nX,uD,yB⟩ st a w ⟨w3,hE,hp⟩ hl3
    dsimp only at hE hp hl3
    unfold gJ at hl3
    refine aG (aG ?_)
    refine aB (S hE 1 rfl fun a hE=>?_)
    refine V hE hp rfl (xf hE lI rfl rfl) fun a hE=>V hE hp rfl (xl hE kD 1 rfl rfl rfl rfl) fun a hE=>V hE hp rfl (dD rfl hE rfl (bJ.len bH gY)) fun a hE=>S hE 1 rfl fun a hE=>aC ?_
    have hE:=hE.cut (E':=[(2,(Pv b1 0)),(6,w3),(8,(.bool nX)),(9,(Iv uD)),(56,(.bool (decide (uD<(p0.clauses.length:Int)))))]) ⟨rfl,rfl,rfl,rfl,rfl,trivial⟩
    refine dK hE rfl (fun hc7=>?_) (fun hc7=>?_)
    ·replace hl3:=(it hc7).symm.trans hl3
     refine bQ (aG ?_)
     obtain⟨j1,hj1,hl3⟩:=bnd hl3
     refine dI (fun a w=>∃s:(Bool×(List Int)),j1= .brk s∧(∃(w3:Value),Env 106 [(2,(Pv b1 0)),(6,w3),(8,(.bool s.1)),(9,(Iv uD))] a∧Hp Z ρ (aA 3 w3 s.2::Pt b1 (.cells #[(Iv p0.vars),aF] 24 (0,0))::L) w)) ?_ ?_
     ·
      refine aG (aB ?_)
      refine V hE hp rfl (xf hE lI rfl rfl) fun a hE=>V hE hp rfl (xl hE kD 1 rfl rfl rfl rfl) fun a hE=>S hE 1 rfl fun a hE=>?_
      obtain⟨x13,ex13,hj1⟩:=bnd hj1
      obtain⟨b14,b14o,b14c,b14r,b14k,b14f⟩:=bJ.at bH gY ex13
      obtain⟨vb14,rfl,hb14⟩:=b14k
      have b14f:AtP ρ b14 b14o [vb14]:=b14f
      refine V hE hp rfl (aS rfl hE rfl rfl b14r) fun a hE=>V hE hp rfl (aX rfl hE rfl (fun w hw=>bF bK (b14f.c 0 rfl w hw))) fun a hE=>S hE 1 rfl fun a hE=>aC (aG ?_)
      refine aB (S hE 3 rfl fun a hE=>?_)
      refine aC ?_
      have hE:=hE.cut (E':=[(2,(Pv b1 0)),(6,w3),(8,(.bool nX)),(9,(Iv uD)),(10,vb14),(11,(Iv 0)),(12,(Iv 0)),(13,(.bool false))]) ⟨rfl,rfl,rfl,rfl,rfl,rfl,rfl,rfl,trivial⟩
      refine aG (aG ?_)
      refine aB (S hE 1 rfl fun a hE=>?_)
      refine aC ?_
      obtain⟨b15,hc8,hj1⟩:=bnd hj1
      refine dI (fun a w=>Env 106 [(2,(Pv b1 0)),(6,w3),(8,(.bool nX)),(9,(Iv uD)),(11,(Iv b15.1)),(12,(Iv b15.2.1)),(13,(.bool b15.2.2))] a∧Hp Z ρ (aA 3 w3 yB::Pt b1 (.cells #[(Iv p0.vars),aF] 24 (0,0))::L) w) ?_ ?_
      ·refine eX hc8 (fun s a w=>Env 106 [(2,(Pv b1 0)),(6,w3),(8,(.bool nX)),(9,(Iv uD)),(10,vb14),(11,(Iv s.1)),(12,(Iv s.2.1)),(13,(.bool s.2.2.1)),(14,(Iv s.2.2.2))] a∧Hp Z ρ (aA 3 w3 yB::Pt b1 (.cells #[(Iv p0.vars),aF] 24 (0,0))::L) w) ?_ ?_
       ·exact⟨hE.cut ⟨rfl,rfl,rfl,rfl,rfl,rfl,rfl,rfl,rfl,trivial⟩,hp⟩
       rintro⟨E8,sN,lp4_2,X3⟩ st a w ⟨hE,hp⟩ hl4
       dsimp only at hE hp hl4
       unfold iQ at hl4
       refine aG (aG ?_)
       refine aB (S hE 2 rfl fun a hE=>?_)
       refine V hE hp rfl (dD rfl hE rfl (bJ.len hb14 aY)) fun a hE=>S hE 1 rfl fun a hE=>aC ?_
       refine dK hE rfl (fun hc9=>?_) (fun hc9=>?_)
       ·replace hl4:=(it hc9).symm.trans hl4
        refine bQ (aG ?_)
        refine dG (aG ?_)
        refine aB (S hE 3 rfl fun a hE=>?_)
        obtain⟨x14,ex14,hl4⟩:=bnd hl4
        obtain⟨b16,b16o,b16c,b16r,b16k,b16f⟩:=bJ.at hb14 aY ex14
        obtain rfl:b16c=Enc.enc x14:=b16k
        have b16f:AtP ρ b16 b16o [(Iv x14)]:=b16f
        refine V hE hp rfl (aS rfl hE rfl rfl b16r) fun a hE=>V hE hp rfl (aX rfl hE rfl (fun w hw=>bF bG (b16f.c 0 rfl w hw))) fun a hE=>?_
        obtain⟨x15,ex15,hl4⟩:=bnd hl4
        refine Cl hE rfl rfl ent25 (gQ x14 hp x15 ex15) ⟨rfl,trivial⟩ fun v a w hR hE=>?_
        obtain⟨rfl,hp⟩:=hR
        have hp:=r2 hp
        obtain⟨x16,ex16,hl4⟩:=bnd hl4
        obtain⟨b17,b17o,b17r,b17v,b17f⟩:=aA.at hp 0 rfl aY ex16
        refine V hE hp rfl (aS rfl hE rfl rfl b17r) fun a hE=>V hE hp rfl (aX rfl hE rfl (fun w hw=>bF bG (b17f 0 _ rfl _ _ w (hw.get 0 rfl)))) fun a hE=>aC (dG ?_)
        refine aG (aB ?_)
        refine S hE 2 rfl fun a hE=>aC ?_
        refine dK hE rfl (fun hc10=>?_) (fun hc10=>?_)
        ·replace hl4:=(it hc10).symm.trans hl4
         refine lG (by kernel_rfl) (by kernel_rfl) hp ?_
         refine Sq hE 1 rfl fun a hE=>?_
         obtain⟨x17,ex17,hl4⟩:=bnd hl4
         refine Vq hE rfl (dH rfl hE rfl rfl (bD ex17)) fun a hE=>Sq hE 2 rfl fun a hE=>?_
         obtain⟨x18,ex18,hl4⟩:=bnd hl4
         obtain⟨b18,b18o,b18c,b18r,b18k,b18f⟩:=bJ.at hb14 aY ex18
         obtain rfl:b18c=Enc.enc x18:=b18k
         have b18f:AtP ρ b18 b18o [(Iv x18)]:=b18f
         refine Vq hE rfl (aS rfl hE rfl rfl b18r) fun a hE=>Vq hE rfl (aX rfl hE rfl (fun w hw=>bF bG (b18f.c 0 rfl w hw))) fun a hE=>Sq hE 2 rfl fun a hE=>?_
         refine oO fun w hp=>?_
         have hp:=r2 hp
         have hE:=hE.cut (E':=[(2,(Pv b1 0)),(6,w3),(8,(.bool nX)),(9,(Iv uD)),(10,vb14),(11,(Iv x17)),(12,(Iv x18)),(13,(.bool lp4_2)),(14,(Iv X3))]) ⟨rfl,rfl,rfl,rfl,rfl,rfl,rfl,rfl,rfl,trivial⟩
         refine aB (S hE 1 rfl fun a hE=>?_)
         obtain⟨x19,ex19,hl4⟩:=bnd hl4
         refine V hE hp rfl (dH rfl hE rfl rfl (bD ex19)) fun a hE=>S hE 1 rfl fun a hE=>aC ?_
         exact⟨_,(oj hl4).symm,hE.cut ⟨rfl,rfl,rfl,rfl,rfl,rfl,rfl,rfl,rfl,trivial⟩,hp⟩
        replace hl4:=(ie hc10).symm.trans hl4
        refine aG (aB ?_)
        refine S hE 2 rfl fun a hE=>?_
        obtain⟨x20,ex20,hl4⟩:=bnd hl4
        obtain⟨b19,b19o,b19c,b19r,b19k,b19f⟩:=bJ.at hb14 aY ex20
        obtain rfl:b19c=Enc.enc x20:=b19k
        have b19f:AtP ρ b19 b19o [(Iv x20)]:=b19f
        refine V hE hp rfl (aS rfl hE rfl rfl b19r) fun a hE=>V hE hp rfl (aX rfl hE rfl (fun w hw=>bF bG (b19f.c 0 rfl w hw))) fun a hE=>S hE 2 rfl fun a hE=>aC ?_
        refine dK hE rfl (fun hc11=>?_) (fun hc11=>?_)
        ·replace hl4:=(it hc11).symm.trans hl4
         refine aB (S hE 1 rfl fun a hE=>?_)
         refine aC (aB ?_)
         refine S hE 1 rfl fun a hE=>?_
         obtain⟨x21,ex21,hl4⟩:=bnd hl4
         refine V hE hp rfl (dH rfl hE rfl rfl (bD ex21)) fun a hE=>S hE 1 rfl fun a hE=>aC ?_
         exact⟨_,(oj hl4).symm,hE.cut ⟨rfl,rfl,rfl,rfl,rfl,rfl,rfl,rfl,rfl,trivial⟩,hp⟩
        replace hl4:=(ie hc11).symm.trans hl4
        refine bQ (aB ?_)
        refine S hE 1 rfl fun a hE=>?_
        obtain⟨x22,ex22,hl4⟩:=bnd hl4
        refine V hE hp rfl (dH rfl hE rfl rfl (bD ex22)) fun a hE=>S hE 1 rfl fun a hE=>aC ?_
        have hE:=hE.cut (E':=[(2,(Pv b1 0)),(6,w3),(8,(.bool nX)),(9,(Iv uD)),(10,vb14),(11,(Iv E8)),(12,(Iv sN)),(13,(.bool lp4_2)),(14,(Iv x22))]) ⟨rfl,rfl,rfl,rfl,rfl,rfl,rfl,rfl,rfl,trivial⟩
        exact⟨_,(oj hl4).symm,hE.cut ⟨rfl,rfl,rfl,rfl,rfl,rfl,rfl,rfl,rfl,trivial⟩,hp⟩
       replace hl4:=(ie hc9).symm.trans hl4
       refine dR ?_
       refine⟨_,(oj hl4).symm,fun hbb=>?_⟩
       subst hbb
       exact⟨hE.cut ⟨rfl,rfl,rfl,rfl,rfl,rfl,rfl,trivial⟩,hp⟩
      rintro a w ⟨hE,hp⟩
      refine aG (aG ?_)
      refine aB (S hE 2 rfl fun a hE=>?_)
      refine iD [_,_,_] (fun a w=>Env 106 [(96,(.bool (b15.2.2||(decide (1<b15.1))))),(2,(Pv b1 0)),(6,w3),(8,(.bool nX)),(9,(Iv uD)),(11,(Iv b15.1)),(12,(Iv b15.2.1))] a∧Hp Z ρ (aA 3 w3 yB::Pt b1 (.cells #[(Iv p0.vars),aF] 24 (0,0))::L) w) ?_ ?_
      ·rcases Bool.eq_false_or_eq_true b15.2.2 with hc12|hc12
       ·
        refine Gk hE hc12 rfl fun a hE=>Gk hE hc12 rfl fun a hE=>pk1 hE hc12 rfl rfl rfl rfl fun a hE=>?_
        have hE:=hE.eqv (v':=(.bool (b15.2.2||(decide (1<b15.1))))) (by rw[hc12];rfl)
        exact aC ⟨hE.cut ⟨rfl,rfl,rfl,rfl,rfl,rfl,rfl,trivial⟩,hp⟩
       refine Gs hE hc12 rfl rfl fun a hE=>Gs hE hc12 rfl rfl fun a hE=>pk0 hE hc12 rfl rfl rfl rfl fun a hE=>?_
       have hE:=hE.eqv (v':=(.bool (b15.2.2||(decide (1<b15.1))))) (by rw[hc12];rfl)
       exact aC ⟨hE.cut ⟨rfl,rfl,rfl,rfl,rfl,rfl,rfl,trivial⟩,hp⟩
      rintro a w ⟨hE,hp⟩
      refine aC ?_
      refine dK hE rfl (fun hc13=>?_) (fun hc13=>?_)
      ·replace hj1:=(it hc13).symm.trans hj1
       refine dR ?_
       obtain rfl:=oj hj1
       exact⟨_,rfl,_,hE.cut ⟨rfl,rfl,rfl,rfl,trivial⟩,hp⟩
      replace hj1:=(ie hc13).symm.trans hj1
      refine bQ (aG ?_)
      refine aG (aB ?_)
      refine S hE 2 rfl fun a hE=>aC ?_
      refine dK hE rfl (fun hc14=>?_) (fun hc14=>?_)
      ·replace hj1:=(it hc14).symm.trans hj1
       refine aG (aB ?_)
       refine S hE 3 rfl fun a hE=>aC (dC ?_)
       obtain rfl:=oj hj1
       refine⟨_,(oj hl3).symm,fun hb=>?_⟩
       subst hb
       refine⟨_,(oj hl2).symm,fun hb=>?_⟩
       subst hb
       obtain rfl:=oj hm
       exact ret2 hE rfl rfl rfl ⟨_,rfl,_,rfl,((hp.get 1 rfl).drop)⟩
      replace hj1:=(ie hc14).symm.trans hj1
      refine bQ (aG ?_)
      refine aB (S hE 2 rfl fun a hE=>?_)
      obtain⟨x23,ex23,hj1⟩:=bnd hj1
      refine Cl hE rfl rfl ent25 (gQ b15.2.1 hp x23 ex23) ⟨rfl,trivial⟩ fun v a w hR hE=>?_
      obtain⟨rfl,hp⟩:=hR
      have hp:=r2 hp
      refine S hE 1 rfl fun a hE=>?_
      obtain⟨x24,ex24,hj1⟩:=bnd hj1
      obtain⟨b20,b20o,b20r,b20v,b20f⟩:=aA.at hp 0 rfl aY ex24
      refine V hE hp rfl (aS rfl hE rfl rfl b20r) fun a hE=>?_
      refine nI (wk0 rfl) rfl hE hp rfl rfl rfl 0 rfl ex24 b20v 0 (e':=b15.2.1) bG.size_ rfl rfl rfl ⟨rfl,rfl⟩ ?_
      intro w hp
      have hp:=r2 hp
      refine aC (aB ?_)
      refine S hE 1 rfl fun a hE=>aC ?_
      obtain rfl:=oj hj1
      exact⟨_,rfl,_,hE.cut ⟨rfl,rfl,rfl,rfl,trivial⟩,hp⟩
     rintro a w ⟨j1s,rfl,w3,hE,hp⟩
     dsimp only at hl3
     refine aB (S hE 1 rfl fun a hE=>?_)
     obtain⟨x25,ex25,hl3⟩:=bnd hl3
     refine V hE hp rfl (dH rfl hE rfl rfl (bD ex25)) fun a hE=>S hE 1 rfl fun a hE=>aC ?_
     exact⟨_,(oj hl3).symm,_,hE.cut ⟨rfl,rfl,rfl,rfl,trivial⟩,hp⟩
    replace hl3:=(ie hc7).symm.trans hl3
    refine dR ?_
    refine⟨_,(oj hl3).symm,fun hbb=>?_⟩
    exact⟨_,hbb.symm,_,hE.cut ⟨rfl,rfl,rfl,trivial⟩,hp⟩
   rintro a w ⟨b13s,rfl,w3,hE,hp⟩
   dsimp only at hl2
   exact⟨_,(oj hl2).symm,_,hE.cut ⟨rfl,rfl,rfl,trivial⟩,hp⟩
  replace hl2:=(ie hc5).symm.trans hl2
  refine dR ?_
  refine⟨_,(oj hl2).symm,fun hbb=>?_⟩
  exact⟨_,hbb.symm,_,hE.cut ⟨rfl,trivial⟩,hp⟩
 rintro a w ⟨b12s,rfl,w3,hE,hp⟩
 dsimp only at hm
 refine aG (aB ?_)
 refine S hE 3 rfl fun a hE=>aC (dC ?_)
 obtain rfl:=oj hm
 exact ret2 hE rfl rfl rfl ⟨_,rfl,_,rfl,((hp.get 1 rfl).drop)⟩
theorem I9 {Z:World} {ρ:PH} {L:List bZ} {w:World} (p0:Int) (p1:(List Int)) (vp1:Value) (hp1:bJ ρ vp1 p1) (hp:Hp Z ρ (L) w) (r:Bool) (hm:mJ p0 p1=some r):
  Calls Try.prog 57 #[(Iv p0),vp1] w (Ret fun v w'=>v=(.bool r)∧Hp Z ρ (L) w'):=by
 refine enter (N:=33) Try.func57 rfl rfl [(0,(Iv p0)),(1,vp1)] rfl (bT ⟨rfl,rfl,trivial⟩) fun a hE=>?_
 unfold mJ at hm
 refine aG (aB ?_)
 refine S hE 1 rfl fun a hE=>aC (aG ?_)
 refine aG (aB ?_)
 refine S hE 1 rfl fun a hE=>V hE hp rfl (dD rfl hE rfl (bJ.len hp1 aY)) fun a hE=>S hE 2 rfl fun a hE=>aC ?_
 refine dK hE rfl (fun hc1=>?_) (fun hc1=>?_)
 ·replace hm:=(it hc1).symm.trans hm
  refine aG (aB ?_)
  refine S hE 1 rfl fun a hE=>aC (dC ?_)
  obtain rfl:=oj hm
  exact gK hE rfl rfl ⟨_,rfl,rfl,hp⟩
 replace hm:=(ie hc1).symm.trans hm
 refine bQ (aG ?_)
 refine aG (aB ?_)
 refine S hE 1 rfl fun a hE=>aC ?_
 obtain⟨b1,hc2,hm⟩:=bnd hm
 refine dI (fun a w=>∃s:Unit,b1= .brk s∧(Env 33 [] a∧Hp Z ρ (L) w)) ?_ ?_
 ·refine eX hc2 (fun s a w=>Env 33 [(1,vp1),(5,(Iv s))] a∧Hp Z ρ (L) w) ?_ ?_
  ·exact⟨hE.cut ⟨rfl,rfl,trivial⟩,hp⟩
  rintro aW st a w ⟨hE,hp⟩ hl1
  unfold jU at hl1
  refine aG (aG ?_)
  refine aB (S hE 2 rfl fun a hE=>?_)
  refine V hE hp rfl (dD rfl hE rfl (bJ.len hp1 aY)) fun a hE=>S hE 1 rfl fun a hE=>aC ?_
  refine dK hE rfl (fun hc3=>?_) (fun hc3=>?_)
  ·replace hl1:=(it hc3).symm.trans hl1
   refine bQ (aG ?_)
   refine dG (aG ?_)
   refine aB (S hE 2 rfl fun a hE=>?_)
   obtain⟨x1,ex1,hl1⟩:=bnd hl1
   obtain⟨b2,b2o,b2c,b2r,b2k,b2f⟩:=bJ.at hp1 aY ex1
   obtain rfl:b2c=Enc.enc x1:=b2k
   have b2f:AtP ρ b2 b2o [(Iv x1)]:=b2f
   refine V hE hp rfl (aS rfl hE rfl rfl b2r) fun a hE=>V hE hp rfl (aX rfl hE rfl (fun w hw=>bF bG (b2f.c 0 rfl w hw))) fun a hE=>S hE 1 rfl fun a hE=>?_
   obtain⟨x2,ex2,hl1⟩:=bnd hl1
   refine V hE hp rfl (dH rfl hE rfl rfl (bD ex2)) fun a hE=>S hE 2 rfl fun a hE=>?_
   obtain⟨m1,hg1,hl1⟩:=bnd hl1
   refine iD [_,_,_,_,_,_,_,_,_] (fun a w=>Env 33 [(32,(.bool m1)),(1,vp1),(5,(Iv aW))] a∧Hp Z ρ (L) w) ?_ ?_
   ·rcases Bool.eq_false_or_eq_true (!decide (x1=x2)) with hc4|hc4
    ·
     replace hg1:=(it hc4).symm.trans hg1
     refine Gs hE hc4 rfl rfl fun a hE=>Gs hE hc4 rfl rfl fun a hE=>?_
     obtain⟨x3,ex3,hg1⟩:=bnd hg1
     obtain⟨b3,b3o,b3c,b3r,b3k,b3f⟩:=bJ.at hp1 aY ex3
     obtain rfl:b3c=Enc.enc x3:=b3k
     have b3f:AtP ρ b3 b3o [(Iv x3)]:=b3f
     refine G hE hp hc4 rfl (aS rfl hE rfl rfl b3r) fun a hE=>G hE hp hc4 rfl (aX rfl hE rfl (fun w hw=>bF bG (b3f.c 0 rfl w hw))) fun a hE=>Gs hE hc4 rfl rfl fun a hE=>?_
     obtain⟨x4,ex4,hg1⟩:=bnd hg1
     refine G hE hp hc4 rfl (dH rfl hE rfl rfl (bD ex4)) fun a hE=>?_
     obtain⟨x5,ex5,hg1⟩:=bnd hg1
     refine G hE hp hc4 rfl (pV rfl hE rfl (bD ex5)) fun a hE=>Gs hE hc4 rfl rfl fun a hE=>pk1 hE hc4 rfl rfl rfl rfl fun a hE=>?_
     obtain rfl:=oj hg1
     exact aC ⟨hE.cut ⟨rfl,rfl,rfl,trivial⟩,hp⟩
    replace hg1:=(ie hc4).symm.trans hg1
    refine Gk hE hc4 rfl fun a hE=>Gk hE hc4 rfl fun a hE=>Gk hE hc4 rfl fun a hE=>Gk hE hc4 rfl fun a hE=>Gk hE hc4 rfl fun a hE=>Gk hE hc4 rfl fun a hE=>Gk hE hc4 rfl fun a hE=>Gk hE hc4 rfl fun a hE=>pk0 hE hc4 rfl rfl rfl rfl fun a hE=>?_
    obtain rfl:=oj hg1
    exact aC ⟨hE.cut ⟨rfl,rfl,rfl,trivial⟩,hp⟩
   rintro a w ⟨hE,hp⟩
   refine aC ?_
   refine dK hE rfl (fun hc5=>?_) (fun hc5=>?_)
   ·replace hl1:=(it hc5).symm.trans hl1
    refine aG (aB ?_)
    refine S hE 1 rfl fun a hE=>aC (dC ?_)
    refine⟨_,(oj hl1).symm,fun hb=>?_⟩
    subst hb
    obtain rfl:=oj hm
    exact gK hE rfl rfl ⟨_,rfl,rfl,hp⟩
   replace hl1:=(ie hc5).symm.trans hl1
   refine bQ (aB ?_)
   refine S hE 1 rfl fun a hE=>?_
   obtain⟨x6,ex6,hl1⟩:=bnd hl1
   refine V hE hp rfl (dH rfl hE rfl rfl (bD ex6)) fun a hE=>S hE 1 rfl fun a hE=>aC ?_
   exact⟨_,(oj hl1).symm,hE.cut ⟨rfl,rfl,trivial⟩,hp⟩
  replace hl1:=(ie hc3).symm.trans hl1
  refine dR ?_
  refine⟨_,(oj hl1).symm,fun hbb=>?_⟩
  exact⟨_,hbb.symm,hE.cut trivial,hp⟩
 rintro a w ⟨b1s,rfl,hE,hp⟩
 dsimp only at hm
 refine aG (aB ?_)
 refine S hE 1 rfl fun a hE=>aC (dC ?_)
 obtain rfl:=oj hm
 exact gK hE rfl rfl ⟨_,rfl,rfl,hp⟩
theorem wS {Z:World} {ρ:PH} {L:List bZ} {w:World} (p0:Formula) (aF:Value) (bH:bJ ρ aF p0.clauses) (p1:(List Int)) (vp1:Value) (hp1:bJ ρ vp1 p1) (hp:Hp Z ρ (L) w) (r:Bool) (hm:lJ p0 p1=some r):
  Calls Try.prog 34 #[(.agg #[(Iv p0.vars),aF]),vp1] w (Ret fun v w'=>v=(.bool r)∧Hp Z ρ (L) w'):=by
 refine enter (N:=57) Try.func34 rfl rfl [(0,(.agg #[(Iv p0.vars),aF])),(1,vp1)] rfl (bT ⟨rfl,rfl,trivial⟩) fun a hE=>?_
 unfold lJ at hm
 refine aG (aB ?_)
 refine qH (wk0 rfl) rfl rfl hE hp rfl (v:=(.agg #[(Iv p0.vars),aF])) rfl ?_
 intro a w b1 hE hp
 have hp:=r1 hp
 refine S hE 1 rfl fun a hE=>aC (aG ?_)
 refine aG (aB ?_)
 refine V hE hp rfl (aX rfl hE rfl (fun w hw=>eY (cs:=[(Iv p0.vars),aF]) fP (Hp.cN 0 rfl 0 _ (bW rfl) w hw))) fun a hE=>?_
 obtain⟨x1,ex1,hm⟩:=bnd hm
 refine Cl hE rfl rfl ent31 (tJ p0 aF bH hp x1 ex1) ⟨rfl,trivial⟩ fun v a w hR hE=>?_
 obtain⟨rfl,hp⟩:=hR
 have hp:=r1 hp
 refine S hE 2 rfl fun a hE=>?_
 obtain⟨m1,hg1,hm⟩:=bnd hm
 refine iD [_,_,_,_,_,_] (fun a w=>Env 57 [(18,(.bool m1)),(1,vp1),(2,(Pv b1 0))] a∧Hp Z ρ (Pt b1 (.cells #[(Iv p0.vars),aF] 24 (0,0))::L) w) ?_ ?_
 ·rcases Bool.eq_false_or_eq_true (!x1) with hc1|hc1
  ·
   replace hg1:=(it hc1).symm.trans hg1
   refine Gk hE hc1 rfl fun a hE=>Gk hE hc1 rfl fun a hE=>Gk hE hc1 rfl fun a hE=>Gk hE hc1 rfl fun a hE=>Gk hE hc1 rfl fun a hE=>pk1 hE hc1 rfl rfl rfl rfl fun a hE=>?_
   obtain rfl:=oj hg1
   exact aC ⟨hE.cut ⟨rfl,rfl,rfl,trivial⟩,hp⟩
  replace hg1:=(ie hc1).symm.trans hg1
  refine G hE hp hc1 rfl (xf hE kP rfl rfl) fun a hE=>G hE hp hc1 rfl (xl hE bG 0 rfl rfl rfl rfl) fun a hE=>Gs hE hc1 rfl rfl fun a hE=>?_
  obtain⟨x2,ex2,hg1⟩:=bnd hg1
  refine Cg hE hc1 rfl rfl ent57 (I9 p0.vars p1 vp1 hp1 hp x2 ex2) ⟨rfl,rfl,trivial⟩ fun v a w hR hE=>?_
  obtain⟨rfl,hp⟩:=hR
  have hp:=r1 hp
  refine Gs hE hc1 rfl rfl fun a hE=>pk0 hE hc1 rfl rfl rfl rfl fun a hE=>?_
  obtain rfl:=oj hg1
  exact aC ⟨hE.cut ⟨rfl,rfl,rfl,trivial⟩,hp⟩
 rintro a w ⟨hE,hp⟩
 refine aC ?_
 refine dK hE rfl (fun hc2=>?_) (fun hc2=>?_)
 ·replace hm:=(it hc2).symm.trans hm
  refine aG (aB ?_)
  refine S hE 1 rfl fun a hE=>aC (dC ?_)
  obtain rfl:=oj hm
  exact gK hE rfl rfl ⟨_,rfl,rfl,(hp.drop)⟩
 replace hm:=(ie hc2).symm.trans hm
 refine bQ (aG ?_)
 refine aG (aB ?_)
 refine S hE 1 rfl fun a hE=>aC ?_
 obtain⟨b2,hc3,hm⟩:=bnd hm
 refine dI (fun a w=>∃s:Unit,b2= .brk s∧(Env 57 [] a∧Hp Z ρ (Pt b1 (.cells #[(Iv p0.vars),aF] 24 (0,0))::L) w)) ?_ ?_
 ·refine eX hc3 (fun s a w=>Env 57 [(1,vp1),(2,(Pv b1 0)),(5,(Iv s))] a∧Hp Z ρ (Pt b1 (.cells #[(Iv p0.vars),aF] 24 (0,0))::L) w) ?_ ?_
  ·exact⟨hE.cut ⟨rfl,rfl,rfl,trivial⟩,hp⟩
  rintro aW st a w ⟨hE,hp⟩ hl1
  unfold nR at hl1
  refine aG (aG ?_)
  refine aB (S hE 1 rfl fun a hE=>?_)
  refine V hE hp rfl (xf hE lI rfl rfl) fun a hE=>V hE hp rfl (xl hE kD 0 rfl rfl rfl rfl) fun a hE=>V hE hp rfl (dD rfl hE rfl (bJ.len bH gY)) fun a hE=>S hE 1 rfl fun a hE=>aC ?_
  refine dK hE rfl (fun hc4=>?_) (fun hc4=>?_)
  ·replace hl1:=(it hc4).symm.trans hl1
   refine bQ (aG ?_)
   refine dG (aG ?_)
   refine aB (S hE 1 rfl fun a hE=>?_)
   refine aC (aG ?_)
   refine aG (aB ?_)
   refine S hE 1 rfl fun a hE=>aC ?_
   obtain⟨b3,hc5,hl1⟩:=bnd hl1
   refine dI (fun a w=>Env 57 [(1,vp1),(2,(Pv b1 0)),(5,(Iv aW)),(6,(.bool b3))] a∧Hp Z ρ (Pt b1 (.cells #[(Iv p0.vars),aF] 24 (0,0))::L) w) ?_ ?_
   ·refine eX hc5 (fun s a w=>Env 57 [(1,vp1),(2,(Pv b1 0)),(5,(Iv aW)),(6,(.bool s.1)),(7,(Iv s.2))] a∧Hp Z ρ (Pt b1 (.cells #[(Iv p0.vars),aF] 24 (0,0))::L) w) ?_ ?_
    ·exact⟨hE.cut ⟨rfl,rfl,rfl,rfl,rfl,trivial⟩,hp⟩
    rintro⟨dS,gZ⟩ st a w ⟨hE,hp⟩ hl2
    dsimp only at hE hp hl2
    unfold kW at hl2
    refine aG (aG ?_)
    refine aB (S hE 1 rfl fun a hE=>?_)
    refine V hE hp rfl (xf hE lI rfl rfl) fun a hE=>V hE hp rfl (xl hE kD 0 rfl rfl rfl rfl) fun a hE=>S hE 1 rfl fun a hE=>?_
    obtain⟨x3,ex3,hl2⟩:=bnd hl2
    obtain⟨b4,b4o,b4c,b4r,b4k,b4f⟩:=bJ.at bH gY ex3
    obtain⟨vb4,rfl,hb4⟩:=b4k
    have b4f:AtP ρ b4 b4o [vb4]:=b4f
    refine V hE hp rfl (aS rfl hE rfl rfl b4r) fun a hE=>V hE hp rfl (aX rfl hE rfl (fun w hw=>bF bK (b4f.c 0 rfl w hw))) fun a hE=>V hE hp rfl (dD rfl hE rfl (bJ.len hb4 aY)) fun a hE=>S hE 1 rfl fun a hE=>aC ?_
    refine dK hE rfl (fun hc6=>?_) (fun hc6=>?_)
    ·replace hl2:=(it hc6).symm.trans hl2
     refine bQ (aG ?_)
     refine dG (aG ?_)
     refine aB (V hE hp rfl (xf hE lI rfl rfl) fun a hE=>?_)
     refine V hE hp rfl (xl hE kD 0 rfl rfl rfl rfl) fun a hE=>S hE 1 rfl fun a hE=>?_
     obtain⟨x4,ex4,hl2⟩:=bnd hl2
     obtain⟨b5,b5o,b5c,b5r,b5k,b5f⟩:=bJ.at bH gY ex4
     obtain⟨vb5,rfl,hb5⟩:=b5k
     have b5f:AtP ρ b5 b5o [vb5]:=b5f
     refine V hE hp rfl (aS rfl hE rfl rfl b5r) fun a hE=>V hE hp rfl (aX rfl hE rfl (fun w hw=>bF bK (b5f.c 0 rfl w hw))) fun a hE=>S hE 1 rfl fun a hE=>?_
     obtain⟨x5,ex5,hl2⟩:=bnd hl2
     obtain⟨b6,b6o,b6c,b6r,b6k,b6f⟩:=bJ.at hb5 aY ex5
     obtain rfl:b6c=Enc.enc x5:=b6k
     have b6f:AtP ρ b6 b6o [(Iv x5)]:=b6f
     refine V hE hp rfl (aS rfl hE rfl rfl b6r) fun a hE=>V hE hp rfl (aX rfl hE rfl (fun w hw=>bF bG (b6f.c 0 rfl w hw))) fun a hE=>S hE 1 rfl fun a hE=>aC ?_
     have hE:=hE.cut (E':=[(1,vp1),(2,(Pv b1 0)),(5,(Iv aW)),(6,(.bool dS)),(7,(Iv gZ)),(8,(Iv x5))]) ⟨rfl,rfl,rfl,rfl,rfl,rfl,trivial⟩
     refine aB (S hE 2 rfl fun a hE=>?_)
     obtain⟨m2,hg2,hl2⟩:=bnd hl2
     refine iD [_,_,_,_,_,_,_,_,_] (fun a w=>Env 57 [(54,(.bool m2)),(1,vp1),(2,(Pv b1 0)),(5,(Iv aW)),(7,(Iv gZ))] a∧Hp Z ρ (Pt b1 (.cells #[(Iv p0.vars),aF] 24 (0,0))::L) w) ?_ ?_
     ·rcases Bool.eq_false_or_eq_true dS with hc7|hc7
      ·
       replace hg2:=(it hc7).symm.trans hg2
       refine Gk hE hc7 rfl fun a hE=>Gk hE hc7 rfl fun a hE=>Gk hE hc7 rfl fun a hE=>Gk hE hc7 rfl fun a hE=>Gk hE hc7 rfl fun a hE=>Gk hE hc7 rfl fun a hE=>Gk hE hc7 rfl fun a hE=>Gk hE hc7 rfl fun a hE=>pk1 hE hc7 rfl rfl rfl rfl fun a hE=>?_
       obtain rfl:=oj hg2
       exact aC ⟨hE.cut ⟨rfl,rfl,rfl,rfl,rfl,trivial⟩,hp⟩
      replace hg2:=(ie hc7).symm.trans hg2
      refine Gs hE hc7 rfl rfl fun a hE=>Gs hE hc7 rfl rfl fun a hE=>?_
      obtain⟨x6,ex6,hg2⟩:=bnd hg2
      refine Cg hE hc7 rfl rfl ent25 (gQ x5 hp x6 ex6) ⟨rfl,trivial⟩ fun v a w hR hE=>?_
      obtain⟨rfl,hp⟩:=hR
      have hp:=r1 hp
      obtain⟨x7,ex7,hg2⟩:=bnd hg2
      refine G hE hp hc7 rfl (tX rfl hE rfl rfl (bD ex7)) fun a hE=>?_
      obtain⟨x8,ex8,hg2⟩:=bnd hg2
      obtain⟨b7,b7o,b7c,b7r,b7k,b7f⟩:=bJ.at hp1 aY ex8
      obtain rfl:b7c=Enc.enc x8:=b7k
      have b7f:AtP ρ b7 b7o [(Iv x8)]:=b7f
      refine G hE hp hc7 rfl (aS rfl hE rfl rfl b7r) fun a hE=>G hE hp hc7 rfl (aX rfl hE rfl (fun w hw=>bF bG (b7f.c 0 rfl w hw))) fun a hE=>Gs hE hc7 rfl rfl fun a hE=>Gs hE hc7 rfl rfl fun a hE=>pk0 hE hc7 rfl rfl rfl rfl fun a hE=>?_
      obtain rfl:=oj hg2
      exact aC ⟨hE.cut ⟨rfl,rfl,rfl,rfl,rfl,trivial⟩,hp⟩
     rintro a w ⟨hE,hp⟩
     refine S hE 1 rfl fun a hE=>aC (aB ?_)
     refine S hE 1 rfl fun a hE=>?_
     obtain⟨x9,ex9,hl2⟩:=bnd hl2
     refine V hE hp rfl (dH rfl hE rfl rfl (bD ex9)) fun a hE=>S hE 1 rfl fun a hE=>aC ?_
     exact⟨_,(oj hl2).symm,hE.cut ⟨rfl,rfl,rfl,rfl,rfl,trivial⟩,hp⟩
    replace hl2:=(ie hc6).symm.trans hl2
    refine dR ?_
    refine⟨_,(oj hl2).symm,fun hbb=>?_⟩
    subst hbb
    exact⟨hE.cut ⟨rfl,rfl,rfl,rfl,trivial⟩,hp⟩
   rintro a w ⟨hE,hp⟩
   refine aG (aB ?_)
   refine S hE 2 rfl fun a hE=>aC ?_
   refine dK hE rfl (fun hc8=>?_) (fun hc8=>?_)
   ·replace hl1:=(it hc8).symm.trans hl1
    refine aG (aB ?_)
    refine S hE 1 rfl fun a hE=>aC (dC ?_)
    refine⟨_,(oj hl1).symm,fun hb=>?_⟩
    subst hb
    obtain rfl:=oj hm
    exact gK hE rfl rfl ⟨_,rfl,rfl,(hp.drop)⟩
   replace hl1:=(ie hc8).symm.trans hl1
   refine bQ (aB ?_)
   refine S hE 1 rfl fun a hE=>?_
   obtain⟨x10,ex10,hl1⟩:=bnd hl1
   refine V hE hp rfl (dH rfl hE rfl rfl (bD ex10)) fun a hE=>S hE 1 rfl fun a hE=>aC ?_
   exact⟨_,(oj hl1).symm,hE.cut ⟨rfl,rfl,rfl,trivial⟩,hp⟩
  replace hl1:=(ie hc4).symm.trans hl1
  refine dR ?_
  refine⟨_,(oj hl1).symm,fun hbb=>?_⟩
  exact⟨_,hbb.symm,hE.cut trivial,hp⟩
 rintro a w ⟨b2s,rfl,hE,hp⟩
 dsimp only at hm
 refine aG (aB ?_)
 refine S hE 1 rfl fun a hE=>aC (dC ?_)
 obtain rfl:=oj hm
 exact gK hE rfl rfl ⟨_,rfl,rfl,(hp.drop)⟩
end Go.Proofs.Ytpkhmndpeipfmaa
