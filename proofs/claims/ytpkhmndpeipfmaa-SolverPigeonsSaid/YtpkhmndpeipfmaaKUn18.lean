/- The code goes as its model: assessor/assessorref26.Variable, assessor/assessorref26.IsClause, assessor/assessorref26.Valid, assessor/assessorref26.Clauses, asse -/
import Derived.Test.YtpkhmndpeipfmaaKUnT
import Derived.Test.YtpkhmndpeipfmaaKUn6
set_option linter.unusedVariables false
set_option linter.unusedSimpArgs false
set_option maxRecDepth 100000
set_option maxHeartbeats 4000000
namespace Go.Proofs.Ytpkhmndpeipfmaa
open Go.RowKit
theorem nT {Z:World} {ρ:PH} {L:List bZ} {w:World} (p0:Int) (hp:Hp Z ρ (L) w) (r:Int) (hm:gG p0=some r):
  Calls Try.prog 25 #[(Iv p0)] w (Ret fun v w'=>v=(Iv r)∧Hp Z ρ (L) w'):=by
 refine enter (N:=8) Try.func25 rfl rfl [(0,(Iv p0))] rfl (bM ⟨rfl,trivial⟩) fun a hE=>?_
 unfold gG at hm
 refine aG (aB ?_)
 refine S hE 1 rfl fun a hE=>aC (aG ?_)
 refine aG (aB ?_)
 refine S hE 2 rfl fun a hE=>aC ?_
 refine dK hE rfl (fun hc1=>?_) (fun hc1=>?_)
 ·replace hm:=(it hc1).symm.trans hm
  refine aG (aB ?_)
  refine S hE 1 rfl fun a hE=>?_
  obtain⟨x1,ex1,hm⟩:=bnd hm
  refine V hE hp rfl (mX rfl hE rfl (aZ ex1)) fun a hE=>S hE 1 rfl fun a hE=>aC (dE ?_)
  obtain rfl:=oj hm
  exact iH hE rfl rfl ⟨_,rfl,rfl,hp⟩
 replace hm:=(ie hc1).symm.trans hm
 refine bP (aG ?_)
 refine aB (S hE 2 rfl fun a hE=>?_)
 refine aC (dE ?_)
 obtain rfl:=oj hm
 exact iH hE rfl rfl ⟨_,rfl,rfl,hp⟩
theorem zQ {Z:World} {ρ:PH} {L:List bZ} {w:World} (p0:(List Int)) (vp0:Value) (hp0:bW ρ vp0 p0) (p1:Int) (hp:Hp Z ρ (L) w) (r:Bool) (hm:lG p0 p1=some r):
  Calls Try.prog 32 #[vp0,(Iv p1)] w (Ret fun v w'=>v=(.bool r)∧Hp Z ρ (L) w'):=by
 refine enter (N:=52) Try.func32 rfl rfl [(0,vp0),(1,(Iv p1))] rfl (bM ⟨rfl,rfl,trivial⟩) fun a hE=>?_
 unfold lG at hm
 refine aG (aB ?_)
 refine S hE 1 rfl fun a hE=>aC (aG ?_)
 refine aG (aB ?_)
 refine S hE 1 rfl fun a hE=>aC ?_
 obtain⟨b1,hc1,hm⟩:=bnd hm
 refine dH (fun a w=>∃s:Unit,b1= .brk s∧(Env 52 [] a∧Hp Z ρ (L) w)) ?_ ?_
 ·refine eU hc1 (fun s a w=>Env 52 [(0,vp0),(1,(Iv p1)),(5,(Iv s))] a∧Hp Z ρ (L) w) ?_ ?_
  ·exact⟨hE.cut ⟨rfl,rfl,rfl,trivial⟩,hp⟩
  rintro aW st a w ⟨hE,hp⟩ hl1
  unfold jC at hl1
  refine aG (aG ?_)
  refine aB (S hE 2 rfl fun a hE=>?_)
  refine V hE hp rfl (dL rfl hE rfl (bW.len hp0 bC)) fun a hE=>S hE 1 rfl fun a hE=>aC ?_
  refine dK hE rfl (fun hc2=>?_) (fun hc2=>?_)
  ·replace hl1:=(it hc2).symm.trans hl1
   refine bP (aG ?_)
   refine dF (aG ?_)
   refine oN (by kernel_rfl) (by kernel_rfl) hp ?_
   refine Sq hE 2 rfl fun a hE=>?_
   obtain⟨x1,ex1,hl1⟩:=bnd hl1
   obtain⟨b2,b2o,b2c,b2r,b2k,b2f⟩:=bW.at hp0 bC ex1
   obtain rfl:b2c=Enc.enc x1:=b2k
   have b2f:AtP ρ b2 b2o [(Iv x1)]:=b2f
   refine Vq hE rfl (aU rfl hE rfl rfl b2r) fun a hE=>Vq hE rfl (bD rfl hE rfl (fun w hw=>bH bG (b2f.c 0 rfl w hw))) fun a hE=>Sq hE 2 rfl fun a hE=>?_
   obtain⟨m1,hg1,hl1⟩:=bnd hl1
   refine q_cut [_,_,_,_,_,_,_,_] (fun a=>Env 52 [(25,(.bool m1)),(0,vp0),(1,(Iv p1)),(5,(Iv aW))] a) ?_ ?_
   ·rcases Bool.eq_false_or_eq_true (decide (x1=0)) with hc3|hc3
    ·
     replace hg1:=(it hc3).symm.trans hg1
     refine Gkq hE hc3 rfl fun a hE=>Gkq hE hc3 rfl fun a hE=>Gkq hE hc3 rfl fun a hE=>Gkq hE hc3 rfl fun a hE=>Gkq hE hc3 rfl fun a hE=>Gkq hE hc3 rfl fun a hE=>Gkq hE hc3 rfl fun a hE=>Vq hE rfl (oW rfl hE rfl hc3 rfl) fun a hE=>?_
     obtain rfl:=oj hg1
     exact qR (hE.cut ⟨rfl,rfl,rfl,rfl,trivial⟩)
    replace hg1:=(ie hc3).symm.trans hg1
    refine Gq hE hc3 rfl (oC rfl hE rfl) fun a hE=>Gq hE hc3 rfl (oC rfl hE rfl) fun a hE=>?_
    obtain⟨x2,ex2,hg1⟩:=bnd hg1
    obtain⟨b3,b3o,b3c,b3r,b3k,b3f⟩:=bW.at hp0 bC ex2
    obtain rfl:b3c=Enc.enc x2:=b3k
    have b3f:AtP ρ b3 b3o [(Iv x2)]:=b3f
    refine Gq hE hc3 rfl (aU rfl hE rfl rfl b3r) fun a hE=>Gq hE hc3 rfl (bD rfl hE rfl (fun w hw=>bH bG (b3f.c 0 rfl w hw))) fun a hE=>Gq hE hc3 rfl (oC rfl hE rfl) fun a hE=>?_
    obtain⟨x3,ex3,hg1⟩:=bnd hg1
    refine Gq hE hc3 rfl (mX rfl hE rfl (aZ ex3)) fun a hE=>Gq hE hc3 rfl (ex_lss rfl hE rfl rfl) fun a hE=>Vq hE rfl (dI rfl hE rfl hc3 rfl) fun a hE=>?_
    obtain rfl:=oj hg1
    exact qR (hE.cut ⟨rfl,rfl,rfl,rfl,trivial⟩)
   intro a hE
   refine Sq hE 1 rfl fun a hE=>?_
   obtain⟨m2,hg2,hl1⟩:=bnd hl1
   refine q_cut [_,_,_,_,_,_,_] (fun a=>Env 52 [(33,(.bool m2)),(0,vp0),(1,(Iv p1)),(5,(Iv aW))] a) ?_ ?_
   ·rcases Bool.eq_false_or_eq_true m1 with hc4|hc4
    ·
     replace hg2:=(it hc4).symm.trans hg2
     refine Gkq hE hc4 rfl fun a hE=>Gkq hE hc4 rfl fun a hE=>Gkq hE hc4 rfl fun a hE=>Gkq hE hc4 rfl fun a hE=>Gkq hE hc4 rfl fun a hE=>Gkq hE hc4 rfl fun a hE=>Vq hE rfl (oW rfl hE rfl hc4 rfl) fun a hE=>?_
     obtain rfl:=oj hg2
     exact qR (hE.cut ⟨rfl,rfl,rfl,rfl,trivial⟩)
    replace hg2:=(ie hc4).symm.trans hg2
    refine Gq hE hc4 rfl (oC rfl hE rfl) fun a hE=>Gq hE hc4 rfl (oC rfl hE rfl) fun a hE=>?_
    obtain⟨x4,ex4,hg2⟩:=bnd hg2
    obtain⟨b4,b4o,b4c,b4r,b4k,b4f⟩:=bW.at hp0 bC ex4
    obtain rfl:b4c=Enc.enc x4:=b4k
    have b4f:AtP ρ b4 b4o [(Iv x4)]:=b4f
    refine Gq hE hc4 rfl (aU rfl hE rfl rfl b4r) fun a hE=>Gq hE hc4 rfl (bD rfl hE rfl (fun w hw=>bH bG (b4f.c 0 rfl w hw))) fun a hE=>Gq hE hc4 rfl (oC rfl hE rfl) fun a hE=>Gq hE hc4 rfl (ex_gtr rfl hE rfl rfl) fun a hE=>Vq hE rfl (dI rfl hE rfl hc4 rfl) fun a hE=>?_
    obtain rfl:=oj hg2
    exact qR (hE.cut ⟨rfl,rfl,rfl,rfl,trivial⟩)
   intro a hE
   refine Sq hE 1 rfl fun a hE=>?_
   obtain⟨m3,hg3,hl1⟩:=bnd hl1
   refine q_cut [_,_,_,_,_,_,_,_,_,_,_,_,_,_,_,_,_] (fun a=>Env 52 [(51,(.bool m3)),(0,vp0),(1,(Iv p1)),(5,(Iv aW))] a) ?_ ?_
   ·rcases Bool.eq_false_or_eq_true m2 with hc5|hc5
    ·
     replace hg3:=(it hc5).symm.trans hg3
     refine Gkq hE hc5 rfl fun a hE=>Gkq hE hc5 rfl fun a hE=>Gkq hE hc5 rfl fun a hE=>?_
     refine q_skip (wk3 hE rfl rfl rfl) rfl rfl hE ?_
     intro a hE
     refine q_skip (wk3 hE rfl rfl rfl) rfl rfl hE ?_
     intro a hE
     refine q_skip (wk3 hE rfl rfl rfl) rfl rfl hE ?_
     intro a hE
     refine q_skip (wk3 hE rfl rfl rfl) rfl rfl hE ?_
     intro a hE
     refine q_skip (wk3 hE rfl rfl rfl) rfl rfl hE ?_
     intro a hE
     refine q_skip (wk3 hE rfl rfl rfl) rfl rfl hE ?_
     intro a hE
     refine q_skip (wk3 hE rfl rfl rfl) rfl rfl hE ?_
     intro a hE
     refine q_skip (wk3 hE rfl rfl rfl) rfl rfl hE ?_
     intro a hE
     refine q_skip (wk3 hE rfl rfl rfl) rfl rfl hE ?_
     intro a hE
     refine q_skip (wk3 hE rfl rfl rfl) rfl rfl hE ?_
     intro a hE
     refine q_skip (wk3 hE rfl rfl rfl) rfl rfl hE ?_
     intro a hE
     refine q_skip (wk3 hE rfl rfl rfl) rfl rfl hE ?_
     intro a hE
     refine Gkq hE hc5 rfl fun a hE=>Vq hE rfl (oW rfl hE rfl hc5 rfl) fun a hE=>?_
     obtain rfl:=oj hg3
     exact qR (hE.cut ⟨rfl,rfl,rfl,rfl,trivial⟩)
    replace hg3:=(ie hc5).symm.trans hg3
    refine Gq hE hc5 rfl (oC rfl hE rfl) fun a hE=>Gq hE hc5 rfl (ex_gtr rfl hE rfl rfl) fun a hE=>Gq hE hc5 rfl (oC rfl hE rfl) fun a hE=>?_
    obtain⟨m4,hg4,hg3⟩:=bnd hg3
    refine q_cut [_,_,_,_,_,_,_,_,_,_,_,_,_] (fun a=>Env 52 [(50,(.bool m4)),(0,vp0),(1,(Iv p1)),(5,(Iv aW)),(34,(.bool m2)),(35,(Iv aW)),(36,(.bool (decide (0<aW)))),(37,(.bool (decide (0<aW))))] a) ?_ ?_
    ·rcases Bool.eq_false_or_eq_true (decide (0<aW)) with hc6|hc6
     ·
      replace hg4:=(it hc6).symm.trans hg4
      refine Gq hE hc6 rfl (oC rfl hE rfl) fun a hE=>Gq hE hc6 rfl (oC rfl hE rfl) fun a hE=>?_
      obtain⟨x5,ex5,hg4⟩:=bnd hg4
      obtain⟨b5,b5o,b5c,b5r,b5k,b5f⟩:=bW.at hp0 bC ex5
      obtain rfl:b5c=Enc.enc x5:=b5k
      have b5f:AtP ρ b5 b5o [(Iv x5)]:=b5f
      refine Gq hE hc6 rfl (aU rfl hE rfl rfl b5r) fun a hE=>Gq hE hc6 rfl (bD rfl hE rfl (fun w hw=>bH bG (b5f.c 0 rfl w hw))) fun a hE=>?_
      obtain⟨x6,ex6,hg4⟩:=bnd hg4
      refine yU (wk1 hE rfl rfl rfl hc6) rfl rfl hE rfl [(Iv x5)] ⟨rfl,trivial⟩ ent25 (v:=(Iv x6)) (fun w hw=>Calls.mono (nT x5 hw x6 ex6) fun e w' ⟨v,he,hv,hh⟩=>⟨by rw[he,hv],hh⟩) ?_
      intro a hE
      refine Gq hE hc6 rfl (oC rfl hE rfl) fun a hE=>Gq hE hc6 rfl (oC rfl hE rfl) fun a hE=>?_
      obtain⟨x7,ex7,hg4⟩:=bnd hg4
      refine Gq hE hc6 rfl (rX rfl hE rfl rfl (aZ ex7)) fun a hE=>?_
      obtain⟨x8,ex8,hg4⟩:=bnd hg4
      obtain⟨b6,b6o,b6c,b6r,b6k,b6f⟩:=bW.at hp0 bC ex8
      obtain rfl:b6c=Enc.enc x8:=b6k
      have b6f:AtP ρ b6 b6o [(Iv x8)]:=b6f
      refine Gq hE hc6 rfl (aU rfl hE rfl rfl b6r) fun a hE=>Gq hE hc6 rfl (bD rfl hE rfl (fun w hw=>bH bG (b6f.c 0 rfl w hw))) fun a hE=>?_
      obtain⟨x9,ex9,hg4⟩:=bnd hg4
      refine yU (wk1 hE rfl rfl rfl hc6) rfl rfl hE rfl [(Iv x8)] ⟨rfl,trivial⟩ ent25 (v:=(Iv x9)) (fun w hw=>Calls.mono (nT x8 hw x9 ex9) fun e w' ⟨v,he,hv,hh⟩=>⟨by rw[he,hv],hh⟩) ?_
      intro a hE
      refine Gq hE hc6 rfl (ex_leq rfl hE rfl rfl) fun a hE=>Gq hE hc5 rfl (oW rfl hE rfl hc6 rfl) fun a hE=>?_
      obtain rfl:=oj hg4
      exact qR (hE.cut ⟨rfl,rfl,rfl,rfl,rfl,rfl,rfl,rfl,trivial⟩)
     replace hg4:=(ie hc6).symm.trans hg4
     refine Gkq hE hc6 rfl fun a hE=>Gkq hE hc6 rfl fun a hE=>Gkq hE hc6 rfl fun a hE=>Gkq hE hc6 rfl fun a hE=>Gkq hE hc6 rfl fun a hE=>Gkq hE hc6 rfl fun a hE=>Gkq hE hc6 rfl fun a hE=>Gkq hE hc6 rfl fun a hE=>Gkq hE hc6 rfl fun a hE=>Gkq hE hc6 rfl fun a hE=>Gkq hE hc6 rfl fun a hE=>Gkq hE hc6 rfl fun a hE=>Gq hE hc5 rfl (dI rfl hE rfl hc6 rfl) fun a hE=>?_
     obtain rfl:=oj hg4
     exact qR (hE.cut ⟨rfl,rfl,rfl,rfl,rfl,rfl,rfl,rfl,trivial⟩)
    intro a hE
    refine Vq hE rfl (dI rfl hE rfl hc5 rfl) fun a hE=>?_
    obtain rfl:=oj hg3
    exact qR (hE.cut ⟨rfl,rfl,rfl,rfl,trivial⟩)
   intro a hE
   refine qR fun w hp=>?_
   have hp:=r0 hp
   refine dK hE rfl (fun hc7=>?_) (fun hc7=>?_)
   ·replace hl1:=(it hc7).symm.trans hl1
    refine aG (aB ?_)
    refine S hE 1 rfl fun a hE=>aC (dE ?_)
    refine⟨_,(oj hl1).symm,fun hb=>?_⟩
    subst hb
    obtain rfl:=oj hm
    exact iH hE rfl rfl ⟨_,rfl,rfl,hp⟩
   replace hl1:=(ie hc7).symm.trans hl1
   refine bP (aB ?_)
   refine S hE 1 rfl fun a hE=>?_
   obtain⟨x10,ex10,hl1⟩:=bnd hl1
   refine V hE hp rfl (dD rfl hE rfl rfl (aZ ex10)) fun a hE=>S hE 1 rfl fun a hE=>aC ?_
   exact⟨_,(oj hl1).symm,hE.cut ⟨rfl,rfl,rfl,trivial⟩,hp⟩
  replace hl1:=(ie hc2).symm.trans hl1
  refine dR ?_
  refine⟨_,(oj hl1).symm,fun hbb=>?_⟩
  exact⟨_,hbb.symm,hE.cut trivial,hp⟩
 rintro a w ⟨b1s,rfl,hE,hp⟩
 dsimp only at hm
 refine aG (aB ?_)
 refine S hE 1 rfl fun a hE=>aC (dE ?_)
 obtain rfl:=oj hm
 exact iH hE rfl rfl ⟨_,rfl,rfl,hp⟩
theorem U0 {Z:World} {ρ:PH} {L:List bZ} {w:World} (p0:Formula) (aH:Value) (bI:bW ρ aH p0.clauses) (hp:Hp Z ρ (L) w) (r:Bool) (hm:nJ p0=some r):
  Calls Try.prog 31 #[(.agg #[(Iv p0.vars),aH])] w (Ret fun v w'=>v=(.bool r)∧Hp Z ρ (L) w'):=by
 refine enter (N:=34) Try.func31 rfl rfl [(0,(.agg #[(Iv p0.vars),aH]))] rfl (bM ⟨rfl,trivial⟩) fun a hE=>?_
 unfold nJ at hm
 refine aG (aB ?_)
 refine rO (wk0 rfl) rfl rfl hE hp rfl (v:=(.agg #[(Iv p0.vars),aH])) rfl ?_
 intro a w b1 hE hp
 have hp:=r1 hp
 refine S hE 1 rfl fun a hE=>aC (aG ?_)
 refine aG (aB ?_)
 refine V hE hp rfl (xf hE lM rfl rfl) fun a hE=>V hE hp rfl (xl hE bG 0 rfl rfl rfl rfl) fun a hE=>S hE 2 rfl fun a hE=>?_
 refine lZ [_,_,_,_] (fun a w=>Env 34 [(11,(.bool ((decide (p0.vars<0))||(decide (65536<p0.vars))))),(1,(Pv b1 0))] a∧Hp Z ρ (Pt b1 (.cells #[(Iv p0.vars),aH] 24 (0,0))::L) w) ?_ ?_
 ·rcases Bool.eq_false_or_eq_true (decide (p0.vars<0)) with hc1|hc1
  ·
   refine Gk hE hc1 rfl fun a hE=>Gk hE hc1 rfl fun a hE=>Gk hE hc1 rfl fun a hE=>pk1 hE hc1 rfl rfl rfl rfl fun a hE=>?_
   have hE:=hE.eqv (v':=(.bool ((decide (p0.vars<0))||(decide (65536<p0.vars))))) (by rw[hc1];rfl)
   exact aC ⟨hE.cut ⟨rfl,rfl,trivial⟩,hp⟩
  refine G hE hp hc1 rfl (xf hE lM rfl rfl) fun a hE=>G hE hp hc1 rfl (xl hE bG 0 rfl rfl rfl rfl) fun a hE=>Gs hE hc1 rfl rfl fun a hE=>pk0 hE hc1 rfl rfl rfl rfl fun a hE=>?_
  have hE:=hE.eqv (v':=(.bool ((decide (p0.vars<0))||(decide (65536<p0.vars))))) (by rw[hc1];rfl)
  exact aC ⟨hE.cut ⟨rfl,rfl,trivial⟩,hp⟩
 rintro a w ⟨hE,hp⟩
 refine S hE 1 rfl fun a hE=>?_
 refine lZ [_,_,_,_,_] (fun a w=>Env 34 [(17,(.bool (((decide (p0.vars<0))||(decide (65536<p0.vars)))||(decide (262144<(p0.clauses.length:Int)))))),(1,(Pv b1 0))] a∧Hp Z ρ (Pt b1 (.cells #[(Iv p0.vars),aH] 24 (0,0))::L) w) ?_ ?_
 ·rcases Bool.eq_false_or_eq_true ((decide (p0.vars<0))||(decide (65536<p0.vars))) with hc2|hc2
  ·
   refine Gk hE hc2 rfl fun a hE=>Gk hE hc2 rfl fun a hE=>Gk hE hc2 rfl fun a hE=>Gk hE hc2 rfl fun a hE=>pk1 hE hc2 rfl rfl rfl rfl fun a hE=>?_
   have hE:=hE.eqv (v':=(.bool (((decide (p0.vars<0))||(decide (65536<p0.vars)))||(decide (262144<(p0.clauses.length:Int)))))) (by rw[hc2];rfl)
   exact aC ⟨hE.cut ⟨rfl,rfl,trivial⟩,hp⟩
  refine G hE hp hc2 rfl (xf hE iL rfl rfl) fun a hE=>G hE hp hc2 rfl (xl hE jD 0 rfl rfl rfl rfl) fun a hE=>G hE hp hc2 rfl (dL rfl hE rfl (bW.len bI kU)) fun a hE=>Gs hE hc2 rfl rfl fun a hE=>pk0 hE hc2 rfl rfl rfl rfl fun a hE=>?_
  have hE:=hE.eqv (v':=(.bool (((decide (p0.vars<0))||(decide (65536<p0.vars)))||(decide (262144<(p0.clauses.length:Int)))))) (by rw[hc2];rfl)
  exact aC ⟨hE.cut ⟨rfl,rfl,trivial⟩,hp⟩
 rintro a w ⟨hE,hp⟩
 refine aC ?_
 refine dK hE rfl (fun hc3=>?_) (fun hc3=>?_)
 ·replace hm:=(it hc3).symm.trans hm
  refine aG (aB ?_)
  refine S hE 1 rfl fun a hE=>aC (dE ?_)
  obtain rfl:=oj hm
  exact iH hE rfl rfl ⟨_,rfl,rfl,(hp.drop)⟩
 replace hm:=(ie hc3).symm.trans hm
 refine bP (aG ?_)
 refine aG (aB ?_)
 refine S hE 1 rfl fun a hE=>aC ?_
 obtain⟨b2,hc4,hm⟩:=bnd hm
 refine dH (fun a w=>∃s:Unit,b2= .brk s∧(Env 34 [] a∧Hp Z ρ (Pt b1 (.cells #[(Iv p0.vars),aH] 24 (0,0))::L) w)) ?_ ?_
 ·refine eU hc4 (fun s a w=>Env 34 [(1,(Pv b1 0)),(3,(Iv s))] a∧Hp Z ρ (Pt b1 (.cells #[(Iv p0.vars),aH] 24 (0,0))::L) w) ?_ ?_
  ·exact⟨hE.cut ⟨rfl,rfl,trivial⟩,hp⟩
  rintro aW st a w ⟨hE,hp⟩ hl1
  unfold nD at hl1
  refine aG (aG ?_)
  refine aB (S hE 1 rfl fun a hE=>?_)
  refine V hE hp rfl (xf hE iL rfl rfl) fun a hE=>V hE hp rfl (xl hE jD 0 rfl rfl rfl rfl) fun a hE=>V hE hp rfl (dL rfl hE rfl (bW.len bI kU)) fun a hE=>S hE 1 rfl fun a hE=>aC ?_
  have hE:=hE.cut (E':=[(1,(Pv b1 0)),(3,(Iv aW)),(22,(.bool (decide (aW<(p0.clauses.length:Int)))))]) ⟨rfl,rfl,rfl,trivial⟩
  refine dK hE rfl (fun hc5=>?_) (fun hc5=>?_)
  ·replace hl1:=(it hc5).symm.trans hl1
   refine bP (aG ?_)
   refine dF (aG ?_)
   refine oN (by kernel_rfl) (by kernel_rfl) hp ?_
   refine Vq hE rfl (xf hE iL rfl rfl) fun a hE=>Vq hE rfl (xl hE jD 0 rfl rfl rfl rfl) fun a hE=>Sq hE 1 rfl fun a hE=>?_
   obtain⟨x1,ex1,hl1⟩:=bnd hl1
   obtain⟨b3,b3o,b3c,b3r,b3k,b3f⟩:=bW.at bI kU ex1
   obtain⟨vb3,rfl,hb3⟩:=b3k
   have b3f:AtP ρ b3 b3o [vb3]:=b3f
   refine Vq hE rfl (aU rfl hE rfl rfl b3r) fun a hE=>Vq hE rfl (bD rfl hE rfl (fun w hw=>bH bJ (b3f.c 0 rfl w hw))) fun a hE=>Vq hE rfl (xf hE lM rfl rfl) fun a hE=>Vq hE rfl (xl hE bG 0 rfl rfl rfl rfl) fun a hE=>?_
   obtain⟨x2,ex2,hl1⟩:=bnd hl1
   refine yU (wk0 rfl) rfl rfl hE rfl [vb3,(Iv p0.vars)] ⟨rfl,rfl,trivial⟩ ent32 (v:=(.bool x2)) (fun w hw=>Calls.mono (zQ x1 vb3 hb3 p0.vars hw x2 ex2) fun e w' ⟨v,he,hv,hh⟩=>⟨by rw[he,hv],hh⟩) ?_
   intro a hE
   refine Sq hE 1 rfl fun a hE=>?_
   refine qR fun w hp=>?_
   have hp:=r1 hp
   refine dK hE rfl (fun hc6=>?_) (fun hc6=>?_)
   ·replace hl1:=(it hc6).symm.trans hl1
    refine aG (aB ?_)
    refine S hE 1 rfl fun a hE=>aC (dE ?_)
    refine⟨_,(oj hl1).symm,fun hb=>?_⟩
    subst hb
    obtain rfl:=oj hm
    exact iH hE rfl rfl ⟨_,rfl,rfl,(hp.drop)⟩
   replace hl1:=(ie hc6).symm.trans hl1
   refine bP (aB ?_)
   refine S hE 1 rfl fun a hE=>?_
   obtain⟨x3,ex3,hl1⟩:=bnd hl1
   refine V hE hp rfl (dD rfl hE rfl rfl (aZ ex3)) fun a hE=>S hE 1 rfl fun a hE=>aC ?_
   exact⟨_,(oj hl1).symm,hE.cut ⟨rfl,rfl,trivial⟩,hp⟩
  replace hl1:=(ie hc5).symm.trans hl1
  refine dR ?_
  refine⟨_,(oj hl1).symm,fun hbb=>?_⟩
  exact⟨_,hbb.symm,hE.cut trivial,hp⟩
 rintro a w ⟨b2s,rfl,hE,hp⟩
 dsimp only at hm
 refine aG (aB ?_)
 refine S hE 1 rfl fun a hE=>aC (dE ?_)
 obtain rfl:=oj hm
 exact iH hE rfl rfl ⟨_,rfl,rfl,(hp.drop)⟩
theorem S9 {Z:World} {ρ:PH} {L:List bZ} {w:World} (p0:Formula) (aH:Value) (bI:bW ρ aH p0.clauses) (p1:Int) (p2:Int) (hp:Hp Z ρ (L) w) (r:Bool) (hm:nI p0 p1 p2=some r):
  Calls Try.prog 11 #[(.agg #[(Iv p0.vars),aH]),(Iv p1),(Iv p2)] w (Ret fun v w'=>v=(.bool r)∧Hp Z ρ (L) w'):=by
 refine enter (N:=33) Try.func11 rfl rfl [(0,(.agg #[(Iv p0.vars),aH])),(1,(Iv p1)),(2,(Iv p2))] rfl (bM ⟨rfl,rfl,rfl,trivial⟩) fun a hE=>?_
 unfold nI at hm
 refine aG (aB ?_)
 refine rO (wk0 rfl) rfl rfl hE hp rfl (v:=(.agg #[(Iv p0.vars),aH])) rfl ?_
 intro a w b1 hE hp
 have hp:=r1 hp
 refine S hE 1 rfl fun a hE=>aC (aG ?_)
 refine aG (aB ?_)
 refine S hE 1 rfl fun a hE=>aC ?_
 obtain⟨b2,hc1,hm⟩:=bnd hm
 refine dH (fun a w=>∃s:Unit,b2= .brk s∧(Env 33 [(1,(Iv p1)),(2,(Iv p2)),(3,(Pv b1 0))] a∧Hp Z ρ (Pt b1 (.cells #[(Iv p0.vars),aH] 24 (0,0))::L) w)) ?_ ?_
 ·refine eU hc1 (fun s a w=>Env 33 [(1,(Iv p1)),(2,(Iv p2)),(3,(Pv b1 0)),(7,(Iv s))] a∧Hp Z ρ (Pt b1 (.cells #[(Iv p0.vars),aH] 24 (0,0))::L) w) ?_ ?_
  ·exact⟨hE.cut ⟨rfl,rfl,rfl,rfl,trivial⟩,hp⟩
  rintro aW st a w ⟨hE,hp⟩ hl1
  unfold nC at hl1
  refine aG (aG ?_)
  refine aB (S hE 1 rfl fun a hE=>?_)
  refine V hE hp rfl (xf hE iL rfl rfl) fun a hE=>V hE hp rfl (xl hE jD 0 rfl rfl rfl rfl) fun a hE=>V hE hp rfl (dL rfl hE rfl (bW.len bI kU)) fun a hE=>S hE 1 rfl fun a hE=>aC ?_
  refine dK hE rfl (fun hc2=>?_) (fun hc2=>?_)
  ·replace hl1:=(it hc2).symm.trans hl1
   refine bP (aG ?_)
   refine dF (aG ?_)
   refine aB (V hE hp rfl (xf hE iL rfl rfl) fun a hE=>?_)
   refine V hE hp rfl (xl hE jD 0 rfl rfl rfl rfl) fun a hE=>S hE 1 rfl fun a hE=>?_
   obtain⟨x1,ex1,hl1⟩:=bnd hl1
   obtain⟨b3,b3o,b3c,b3r,b3k,b3f⟩:=bW.at bI kU ex1
   obtain⟨vb3,rfl,hb3⟩:=b3k
   have b3f:AtP ρ b3 b3o [vb3]:=b3f
   refine V hE hp rfl (aU rfl hE rfl rfl b3r) fun a hE=>V hE hp rfl (bD rfl hE rfl (fun w hw=>bH bJ (b3f.c 0 rfl w hw))) fun a hE=>V hE hp rfl (dL rfl hE rfl (bW.len hb3 bC)) fun a hE=>S hE 1 rfl fun a hE=>aC ?_
   have hE:=hE.cut (E':=[(1,(Iv p1)),(2,(Iv p2)),(3,(Pv b1 0)),(7,(Iv aW)),(21,(.bool (decide (30<(x1.length:Int)))))]) ⟨rfl,rfl,rfl,rfl,rfl,trivial⟩
   refine dK hE rfl (fun hc3=>?_) (fun hc3=>?_)
   ·replace hl1:=(it hc3).symm.trans hl1
    refine aG (aB ?_)
    refine S hE 1 rfl fun a hE=>aC (dE ?_)
    refine⟨_,(oj hl1).symm,fun hb=>?_⟩
    subst hb
    obtain rfl:=oj hm
    exact iH hE rfl rfl ⟨_,rfl,rfl,(hp.drop)⟩
   replace hl1:=(ie hc3).symm.trans hl1
   refine bP (aB ?_)
   refine S hE 1 rfl fun a hE=>?_
   obtain⟨x2,ex2,hl1⟩:=bnd hl1
   refine V hE hp rfl (dD rfl hE rfl rfl (aZ ex2)) fun a hE=>S hE 1 rfl fun a hE=>aC ?_
   exact⟨_,(oj hl1).symm,hE.cut ⟨rfl,rfl,rfl,rfl,trivial⟩,hp⟩
  replace hl1:=(ie hc2).symm.trans hl1
  refine dR ?_
  refine⟨_,(oj hl1).symm,fun hbb=>?_⟩
  exact⟨_,hbb.symm,hE.cut ⟨rfl,rfl,rfl,trivial⟩,hp⟩
 rintro a w ⟨b2s,rfl,hE,hp⟩
 dsimp only at hm
 refine aG (aB ?_)
 refine V hE hp rfl (xf hE lM rfl rfl) fun a hE=>V hE hp rfl (xl hE bG 0 rfl rfl rfl rfl) fun a hE=>S hE 3 rfl fun a hE=>?_
 refine lZ [_,_,_,_,_,_] (fun a w=>Env 33 [(32,(.bool ((decide (p0.vars≤p1))&&(decide ((p0.clauses.length:Int)≤p2)))))] a∧Hp Z ρ (Pt b1 (.cells #[(Iv p0.vars),aH] 24 (0,0))::L) w) ?_ ?_
 ·rcases Bool.eq_false_or_eq_true (decide (p0.vars≤p1)) with hc4|hc4
  ·
   refine G hE hp hc4 rfl (xf hE iL rfl rfl) fun a hE=>G hE hp hc4 rfl (xl hE jD 0 rfl rfl rfl rfl) fun a hE=>G hE hp hc4 rfl (dL rfl hE rfl (bW.len bI kU)) fun a hE=>Gs hE hc4 rfl rfl fun a hE=>Gs hE hc4 rfl rfl fun a hE=>pk1 hE hc4 rfl rfl rfl rfl fun a hE=>?_
   have hE:=hE.eqv (v':=(.bool ((decide (p0.vars≤p1))&&(decide ((p0.clauses.length:Int)≤p2))))) (by rw[hc4];rfl)
   exact aC ⟨hE.cut ⟨rfl,trivial⟩,hp⟩
  refine Gk hE hc4 rfl fun a hE=>Gk hE hc4 rfl fun a hE=>Gk hE hc4 rfl fun a hE=>Gk hE hc4 rfl fun a hE=>Gk hE hc4 rfl fun a hE=>pk0 hE hc4 rfl rfl rfl rfl fun a hE=>?_
  have hE:=hE.eqv (v':=(.bool ((decide (p0.vars≤p1))&&(decide ((p0.clauses.length:Int)≤p2))))) (by rw[hc4];rfl)
  exact aC ⟨hE.cut ⟨rfl,trivial⟩,hp⟩
 rintro a w ⟨hE,hp⟩
 refine S hE 1 rfl fun a hE=>aC (dE ?_)
 obtain rfl:=oj hm
 exact iH hE rfl rfl ⟨_,rfl,rfl,(hp.drop)⟩
theorem D7 {Z:World} {ρ:PH} {L:List bZ} {w:World} (p0:Int) (p1:(List Int)) (vp1:Value) (hp1:bW ρ vp1 p1) (hp:Hp Z ρ (L) w) (r:Bool) (hm:lQ p0 p1=some r):
  Calls Try.prog 57 #[(Iv p0),vp1] w (Ret fun v w'=>v=(.bool r)∧Hp Z ρ (L) w'):=by
 refine enter (N:=33) Try.func57 rfl rfl [(0,(Iv p0)),(1,vp1)] rfl (bM ⟨rfl,rfl,trivial⟩) fun a hE=>?_
 unfold lQ at hm
 refine aG (aB ?_)
 refine S hE 1 rfl fun a hE=>aC (aG ?_)
 refine aG (aB ?_)
 refine S hE 1 rfl fun a hE=>V hE hp rfl (dL rfl hE rfl (bW.len hp1 bC)) fun a hE=>S hE 2 rfl fun a hE=>aC ?_
 refine dK hE rfl (fun hc1=>?_) (fun hc1=>?_)
 ·replace hm:=(it hc1).symm.trans hm
  refine aG (aB ?_)
  refine S hE 1 rfl fun a hE=>aC (dE ?_)
  obtain rfl:=oj hm
  exact iH hE rfl rfl ⟨_,rfl,rfl,hp⟩
 replace hm:=(ie hc1).symm.trans hm
 refine bP (aG ?_)
 refine aG (aB ?_)
 refine S hE 1 rfl fun a hE=>aC ?_
 obtain⟨b1,hc2,hm⟩:=bnd hm
 refine dH (fun a w=>∃s:Unit,b1= .brk s∧(Env 33 [] a∧Hp Z ρ (L) w)) ?_ ?_
 ·refine eU hc2 (fun s a w=>Env 33 [(1,vp1),(5,(Iv s))] a∧Hp Z ρ (L) w) ?_ ?_
  ·exact⟨hE.cut ⟨rfl,rfl,trivial⟩,hp⟩
  rintro aW st a w ⟨hE,hp⟩ hl1
  unfold jJ at hl1
  refine aG (aG ?_)
  refine aB (S hE 2 rfl fun a hE=>?_)
  refine V hE hp rfl (dL rfl hE rfl (bW.len hp1 bC)) fun a hE=>S hE 1 rfl fun a hE=>aC ?_
  refine dK hE rfl (fun hc3=>?_) (fun hc3=>?_)
  ·replace hl1:=(it hc3).symm.trans hl1
   refine bP (aG ?_)
   refine dF (aG ?_)
   refine aB (S hE 2 rfl fun a hE=>?_)
   obtain⟨x1,ex1,hl1⟩:=bnd hl1
   obtain⟨b2,b2o,b2c,b2r,b2k,b2f⟩:=bW.at hp1 bC ex1
   obtain rfl:b2c=Enc.enc x1:=b2k
   have b2f:AtP ρ b2 b2o [(Iv x1)]:=b2f
   refine V hE hp rfl (aU rfl hE rfl rfl b2r) fun a hE=>V hE hp rfl (bD rfl hE rfl (fun w hw=>bH bG (b2f.c 0 rfl w hw))) fun a hE=>S hE 1 rfl fun a hE=>?_
   obtain⟨x2,ex2,hl1⟩:=bnd hl1
   refine V hE hp rfl (dD rfl hE rfl rfl (aZ ex2)) fun a hE=>S hE 2 rfl fun a hE=>?_
   obtain⟨m1,hg1,hl1⟩:=bnd hl1
   refine lZ [_,_,_,_,_,_,_,_,_] (fun a w=>Env 33 [(32,(.bool m1)),(1,vp1),(5,(Iv aW))] a∧Hp Z ρ (L) w) ?_ ?_
   ·rcases Bool.eq_false_or_eq_true (!decide (x1=x2)) with hc4|hc4
    ·
     replace hg1:=(it hc4).symm.trans hg1
     refine Gs hE hc4 rfl rfl fun a hE=>Gs hE hc4 rfl rfl fun a hE=>?_
     obtain⟨x3,ex3,hg1⟩:=bnd hg1
     obtain⟨b3,b3o,b3c,b3r,b3k,b3f⟩:=bW.at hp1 bC ex3
     obtain rfl:b3c=Enc.enc x3:=b3k
     have b3f:AtP ρ b3 b3o [(Iv x3)]:=b3f
     refine G hE hp hc4 rfl (aU rfl hE rfl rfl b3r) fun a hE=>G hE hp hc4 rfl (bD rfl hE rfl (fun w hw=>bH bG (b3f.c 0 rfl w hw))) fun a hE=>Gs hE hc4 rfl rfl fun a hE=>?_
     obtain⟨x4,ex4,hg1⟩:=bnd hg1
     refine G hE hp hc4 rfl (dD rfl hE rfl rfl (aZ ex4)) fun a hE=>?_
     obtain⟨x5,ex5,hg1⟩:=bnd hg1
     refine G hE hp hc4 rfl (mX rfl hE rfl (aZ ex5)) fun a hE=>Gs hE hc4 rfl rfl fun a hE=>pk1 hE hc4 rfl rfl rfl rfl fun a hE=>?_
     obtain rfl:=oj hg1
     exact aC ⟨hE.cut ⟨rfl,rfl,rfl,trivial⟩,hp⟩
    replace hg1:=(ie hc4).symm.trans hg1
    refine Gk hE hc4 rfl fun a hE=>Gk hE hc4 rfl fun a hE=>Gk hE hc4 rfl fun a hE=>Gk hE hc4 rfl fun a hE=>Gk hE hc4 rfl fun a hE=>Gk hE hc4 rfl fun a hE=>Gk hE hc4 rfl fun a hE=>Gk hE hc4 rfl fun a hE=>pk0 hE hc4 rfl rfl rfl rfl fun a hE=>?_
    obtain rfl:=oj hg1
    exact aC ⟨hE.cut ⟨rfl,rfl,rfl,trivial⟩,hp⟩
   rintro a w ⟨hE,hp⟩
   refine aC ?_
   refine dK hE rfl (fun hc5=>?_) (fun hc5=>?_)
   ·replace hl1:=(it hc5).symm.trans hl1
    refine aG (aB ?_)
    refine S hE 1 rfl fun a hE=>aC (dE ?_)
    refine⟨_,(oj hl1).symm,fun hb=>?_⟩
    subst hb
    obtain rfl:=oj hm
    exact iH hE rfl rfl ⟨_,rfl,rfl,hp⟩
   replace hl1:=(ie hc5).symm.trans hl1
   refine bP (aB ?_)
   refine S hE 1 rfl fun a hE=>?_
   obtain⟨x6,ex6,hl1⟩:=bnd hl1
   refine V hE hp rfl (dD rfl hE rfl rfl (aZ ex6)) fun a hE=>S hE 1 rfl fun a hE=>aC ?_
   exact⟨_,(oj hl1).symm,hE.cut ⟨rfl,rfl,trivial⟩,hp⟩
  replace hl1:=(ie hc3).symm.trans hl1
  refine dR ?_
  refine⟨_,(oj hl1).symm,fun hbb=>?_⟩
  exact⟨_,hbb.symm,hE.cut trivial,hp⟩
 rintro a w ⟨b1s,rfl,hE,hp⟩
 dsimp only at hm
 refine aG (aB ?_)
 refine S hE 1 rfl fun a hE=>aC (dE ?_)
 obtain rfl:=oj hm
 exact iH hE rfl rfl ⟨_,rfl,rfl,hp⟩
theorem Q9 {Z:World} {ρ:PH} {L:List bZ} {w:World} (p0:Formula) (aH:Value) (bI:bW ρ aH p0.clauses) (p1:(List Int)) (vp1:Value) (hp1:bW ρ vp1 p1) (hp:Hp Z ρ (L) w) (r:Bool) (hm:nH p0 p1=some r):
  Calls Try.prog 34 #[(.agg #[(Iv p0.vars),aH]),vp1] w (Ret fun v w'=>v=(.bool r)∧Hp Z ρ (L) w'):=by
 refine enter (N:=57) Try.func34 rfl rfl [(0,(.agg #[(Iv p0.vars),aH])),(1,vp1)] rfl (bM ⟨rfl,rfl,trivial⟩) fun a hE=>?_
 unfold nH at hm
 refine aG (aB ?_)
 refine rO (wk0 rfl) rfl rfl hE hp rfl (v:=(.agg #[(Iv p0.vars),aH])) rfl ?_
 intro a w b1 hE hp
 have hp:=r1 hp
 refine S hE 1 rfl fun a hE=>aC (aG ?_)
 refine aG (aB ?_)
 refine V hE hp rfl (bD rfl hE rfl (fun w hw=>gB (cs:=[(Iv p0.vars),aH]) fC (Hp.cN 0 rfl 0 _ (bV rfl) w hw))) fun a hE=>?_
 obtain⟨x1,ex1,hm⟩:=bnd hm
 refine Cl hE rfl rfl ent31 (U0 p0 aH bI hp x1 ex1) ⟨rfl,trivial⟩ fun v a w hR hE=>?_
 obtain⟨rfl,hp⟩:=hR
 have hp:=r1 hp
 refine S hE 2 rfl fun a hE=>?_
 obtain⟨m1,hg1,hm⟩:=bnd hm
 refine lZ [_,_,_,_,_,_] (fun a w=>Env 57 [(18,(.bool m1)),(1,vp1),(2,(Pv b1 0))] a∧Hp Z ρ (Pt b1 (.cells #[(Iv p0.vars),aH] 24 (0,0))::L) w) ?_ ?_
 ·rcases Bool.eq_false_or_eq_true (!x1) with hc1|hc1
  ·
   replace hg1:=(it hc1).symm.trans hg1
   refine Gk hE hc1 rfl fun a hE=>Gk hE hc1 rfl fun a hE=>Gk hE hc1 rfl fun a hE=>Gk hE hc1 rfl fun a hE=>Gk hE hc1 rfl fun a hE=>pk1 hE hc1 rfl rfl rfl rfl fun a hE=>?_
   obtain rfl:=oj hg1
   exact aC ⟨hE.cut ⟨rfl,rfl,rfl,trivial⟩,hp⟩
  replace hg1:=(ie hc1).symm.trans hg1
  refine G hE hp hc1 rfl (xf hE lM rfl rfl) fun a hE=>G hE hp hc1 rfl (xl hE bG 0 rfl rfl rfl rfl) fun a hE=>Gs hE hc1 rfl rfl fun a hE=>?_
  obtain⟨x2,ex2,hg1⟩:=bnd hg1
  refine Cg hE hc1 rfl rfl ent57 (D7 p0.vars p1 vp1 hp1 hp x2 ex2) ⟨rfl,rfl,trivial⟩ fun v a w hR hE=>?_
  obtain⟨rfl,hp⟩:=hR
  have hp:=r1 hp
  refine Gs hE hc1 rfl rfl fun a hE=>pk0 hE hc1 rfl rfl rfl rfl fun a hE=>?_
  obtain rfl:=oj hg1
  exact aC ⟨hE.cut ⟨rfl,rfl,rfl,trivial⟩,hp⟩
 rintro a w ⟨hE,hp⟩
 refine aC ?_
 refine dK hE rfl (fun hc2=>?_) (fun hc2=>?_)
 ·replace hm:=(it hc2).symm.trans hm
  refine aG (aB ?_)
  refine S hE 1 rfl fun a hE=>aC (dE ?_)
  obtain rfl:=oj hm
  exact iH hE rfl rfl ⟨_,rfl,rfl,(hp.drop)⟩
 replace hm:=(ie hc2).symm.trans hm
 refine bP (aG ?_)
 refine aG (aB ?_)
 refine S hE 1 rfl fun a hE=>aC ?_
 obtain⟨b2,hc3,hm⟩:=bnd hm
 refine dH (fun a w=>∃s:Unit,b2= .brk s∧(Env 57 [] a∧Hp Z ρ (Pt b1 (.cells #[(Iv p0.vars),aH] 24 (0,0))::L) w)) ?_ ?_
 ·refine eU hc3 (fun s a w=>Env 57 [(1,vp1),(2,(Pv b1 0)),(5,(Iv s))] a∧Hp Z ρ (Pt b1 (.cells #[(Iv p0.vars),aH] 24 (0,0))::L) w) ?_ ?_
  ·exact⟨hE.cut ⟨rfl,rfl,rfl,trivial⟩,hp⟩
  rintro aW st a w ⟨hE,hp⟩ hl1
  unfold mZ at hl1
  refine aG (aG ?_)
  refine aB (S hE 1 rfl fun a hE=>?_)
  refine V hE hp rfl (xf hE iL rfl rfl) fun a hE=>V hE hp rfl (xl hE jD 0 rfl rfl rfl rfl) fun a hE=>V hE hp rfl (dL rfl hE rfl (bW.len bI kU)) fun a hE=>S hE 1 rfl fun a hE=>aC ?_
  refine dK hE rfl (fun hc4=>?_) (fun hc4=>?_)
  ·replace hl1:=(it hc4).symm.trans hl1
   refine bP (aG ?_)
   refine dF (aG ?_)
   refine aB (S hE 1 rfl fun a hE=>?_)
   refine aC (aG ?_)
   refine aG (aB ?_)
   refine S hE 1 rfl fun a hE=>aC ?_
   obtain⟨b3,hc5,hl1⟩:=bnd hl1
   refine dH (fun a w=>Env 57 [(1,vp1),(2,(Pv b1 0)),(5,(Iv aW)),(6,(.bool b3))] a∧Hp Z ρ (Pt b1 (.cells #[(Iv p0.vars),aH] 24 (0,0))::L) w) ?_ ?_
   ·refine eU hc5 (fun s a w=>Env 57 [(1,vp1),(2,(Pv b1 0)),(5,(Iv aW)),(6,(.bool s.1)),(7,(Iv s.2))] a∧Hp Z ρ (Pt b1 (.cells #[(Iv p0.vars),aH] 24 (0,0))::L) w) ?_ ?_
    ·exact⟨hE.cut ⟨rfl,rfl,rfl,rfl,rfl,trivial⟩,hp⟩
    rintro⟨dG,fB⟩ st a w ⟨hE,hp⟩ hl2
    dsimp only at hE hp hl2
    unfold kP at hl2
    refine aG (aG ?_)
    refine aB (S hE 1 rfl fun a hE=>?_)
    refine V hE hp rfl (xf hE iL rfl rfl) fun a hE=>V hE hp rfl (xl hE jD 0 rfl rfl rfl rfl) fun a hE=>S hE 1 rfl fun a hE=>?_
    obtain⟨x3,ex3,hl2⟩:=bnd hl2
    obtain⟨b4,b4o,b4c,b4r,b4k,b4f⟩:=bW.at bI kU ex3
    obtain⟨vb4,rfl,hb4⟩:=b4k
    have b4f:AtP ρ b4 b4o [vb4]:=b4f
    refine V hE hp rfl (aU rfl hE rfl rfl b4r) fun a hE=>V hE hp rfl (bD rfl hE rfl (fun w hw=>bH bJ (b4f.c 0 rfl w hw))) fun a hE=>V hE hp rfl (dL rfl hE rfl (bW.len hb4 bC)) fun a hE=>S hE 1 rfl fun a hE=>aC ?_
    refine dK hE rfl (fun hc6=>?_) (fun hc6=>?_)
    ·replace hl2:=(it hc6).symm.trans hl2
     refine bP (aG ?_)
     refine dF (aG ?_)
     refine aB (V hE hp rfl (xf hE iL rfl rfl) fun a hE=>?_)
     refine V hE hp rfl (xl hE jD 0 rfl rfl rfl rfl) fun a hE=>S hE 1 rfl fun a hE=>?_
     obtain⟨x4,ex4,hl2⟩:=bnd hl2
     obtain⟨b5,b5o,b5c,b5r,b5k,b5f⟩:=bW.at bI kU ex4
     obtain⟨vb5,rfl,hb5⟩:=b5k
     have b5f:AtP ρ b5 b5o [vb5]:=b5f
     refine V hE hp rfl (aU rfl hE rfl rfl b5r) fun a hE=>V hE hp rfl (bD rfl hE rfl (fun w hw=>bH bJ (b5f.c 0 rfl w hw))) fun a hE=>S hE 1 rfl fun a hE=>?_
     obtain⟨x5,ex5,hl2⟩:=bnd hl2
     obtain⟨b6,b6o,b6c,b6r,b6k,b6f⟩:=bW.at hb5 bC ex5
     obtain rfl:b6c=Enc.enc x5:=b6k
     have b6f:AtP ρ b6 b6o [(Iv x5)]:=b6f
     refine V hE hp rfl (aU rfl hE rfl rfl b6r) fun a hE=>V hE hp rfl (bD rfl hE rfl (fun w hw=>bH bG (b6f.c 0 rfl w hw))) fun a hE=>S hE 1 rfl fun a hE=>aC ?_
     have hE:=hE.cut (E':=[(1,vp1),(2,(Pv b1 0)),(5,(Iv aW)),(6,(.bool dG)),(7,(Iv fB)),(8,(Iv x5))]) ⟨rfl,rfl,rfl,rfl,rfl,rfl,trivial⟩
     refine aB (S hE 2 rfl fun a hE=>?_)
     obtain⟨m2,hg2,hl2⟩:=bnd hl2
     refine lZ [_,_,_,_,_,_,_,_,_] (fun a w=>Env 57 [(54,(.bool m2)),(1,vp1),(2,(Pv b1 0)),(5,(Iv aW)),(7,(Iv fB))] a∧Hp Z ρ (Pt b1 (.cells #[(Iv p0.vars),aH] 24 (0,0))::L) w) ?_ ?_
     ·rcases Bool.eq_false_or_eq_true dG with hc7|hc7
      ·
       replace hg2:=(it hc7).symm.trans hg2
       refine Gk hE hc7 rfl fun a hE=>Gk hE hc7 rfl fun a hE=>Gk hE hc7 rfl fun a hE=>Gk hE hc7 rfl fun a hE=>Gk hE hc7 rfl fun a hE=>Gk hE hc7 rfl fun a hE=>Gk hE hc7 rfl fun a hE=>Gk hE hc7 rfl fun a hE=>pk1 hE hc7 rfl rfl rfl rfl fun a hE=>?_
       obtain rfl:=oj hg2
       exact aC ⟨hE.cut ⟨rfl,rfl,rfl,rfl,rfl,trivial⟩,hp⟩
      replace hg2:=(ie hc7).symm.trans hg2
      refine Gs hE hc7 rfl rfl fun a hE=>Gs hE hc7 rfl rfl fun a hE=>?_
      obtain⟨x6,ex6,hg2⟩:=bnd hg2
      refine Cg hE hc7 rfl rfl ent25 (nT x5 hp x6 ex6) ⟨rfl,trivial⟩ fun v a w hR hE=>?_
      obtain⟨rfl,hp⟩:=hR
      have hp:=r1 hp
      obtain⟨x7,ex7,hg2⟩:=bnd hg2
      refine G hE hp hc7 rfl (rX rfl hE rfl rfl (aZ ex7)) fun a hE=>?_
      obtain⟨x8,ex8,hg2⟩:=bnd hg2
      obtain⟨b7,b7o,b7c,b7r,b7k,b7f⟩:=bW.at hp1 bC ex8
      obtain rfl:b7c=Enc.enc x8:=b7k
      have b7f:AtP ρ b7 b7o [(Iv x8)]:=b7f
      refine G hE hp hc7 rfl (aU rfl hE rfl rfl b7r) fun a hE=>G hE hp hc7 rfl (bD rfl hE rfl (fun w hw=>bH bG (b7f.c 0 rfl w hw))) fun a hE=>Gs hE hc7 rfl rfl fun a hE=>Gs hE hc7 rfl rfl fun a hE=>pk0 hE hc7 rfl rfl rfl rfl fun a hE=>?_
      obtain rfl:=oj hg2
      exact aC ⟨hE.cut ⟨rfl,rfl,rfl,rfl,rfl,trivial⟩,hp⟩
     rintro a w ⟨hE,hp⟩
     refine S hE 1 rfl fun a hE=>aC (aB ?_)
     refine S hE 1 rfl fun a hE=>?_
     obtain⟨x9,ex9,hl2⟩:=bnd hl2
     refine V hE hp rfl (dD rfl hE rfl rfl (aZ ex9)) fun a hE=>S hE 1 rfl fun a hE=>aC ?_
     exact⟨_,(oj hl2).symm,hE.cut ⟨rfl,rfl,rfl,rfl,rfl,trivial⟩,hp⟩
    replace hl2:=(ie hc6).symm.trans hl2
    refine dR ?_
    refine⟨_,(oj hl2).symm,fun hbb=>?_⟩
    subst hbb
    exact⟨hE.cut ⟨rfl,rfl,rfl,rfl,trivial⟩,hp⟩
   rintro a w ⟨hE,hp⟩
   refine aG (aB ?_)
   refine S hE 2 rfl fun a hE=>aC ?_
   refine dK hE rfl (fun hc8=>?_) (fun hc8=>?_)
   ·replace hl1:=(it hc8).symm.trans hl1
    refine aG (aB ?_)
    refine S hE 1 rfl fun a hE=>aC (dE ?_)
    refine⟨_,(oj hl1).symm,fun hb=>?_⟩
    subst hb
    obtain rfl:=oj hm
    exact iH hE rfl rfl ⟨_,rfl,rfl,(hp.drop)⟩
   replace hl1:=(ie hc8).symm.trans hl1
   refine bP (aB ?_)
   refine S hE 1 rfl fun a hE=>?_
   obtain⟨x10,ex10,hl1⟩:=bnd hl1
   refine V hE hp rfl (dD rfl hE rfl rfl (aZ ex10)) fun a hE=>S hE 1 rfl fun a hE=>aC ?_
   exact⟨_,(oj hl1).symm,hE.cut ⟨rfl,rfl,rfl,trivial⟩,hp⟩
  replace hl1:=(ie hc4).symm.trans hl1
  refine dR ?_
  refine⟨_,(oj hl1).symm,fun hbb=>?_⟩
  exact⟨_,hbb.symm,hE.cut trivial,hp⟩
 rintro a w ⟨b2s,rfl,hE,hp⟩
 dsimp only at hm
 refine aG (aB ?_)
 refine S hE 1 rfl fun a hE=>aC (dE ?_)
 obtain rfl:=oj hm
 exact iH hE rfl rfl ⟨_,rfl,rfl,(hp.drop)⟩
end Go.Proofs.Ytpkhmndpeipfmaa
