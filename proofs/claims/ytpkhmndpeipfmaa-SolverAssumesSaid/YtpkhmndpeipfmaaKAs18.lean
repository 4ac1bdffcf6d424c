/- The code goes as its model: assessor/assessorref26.Variable, assessor/assessorref26.IsClause, assessor/assessorref26.Valid, assessor/assessorref26.Clauses, asse -/
import Derived.Test.YtpkhmndpeipfmaaKAsT
import Derived.Test.YtpkhmndpeipfmaaKAs6
set_option linter.unusedVariables false
set_option linter.unusedSimpArgs false
namespace Go.Proofs.Ytpkhmndpeipfmaa
open Go.RowKit
set_option maxRecDepth 100000 in
set_option maxHeartbeats 4000000 in
theorem rY {Z:World} {ρ:PH} {L:List bV} {w:World} (p0:Int) (hp:Hp Z ρ (L) w) (r:Int) (hm:iT p0=some r):
  Calls Try.prog 25 #[(.int .i64 p0)] w (Ret fun v w'=>v=(.int .i64 r)∧Hp Z ρ (L) w'):=by
 refine enter (N:=8) Try.func25 rfl rfl [(0,(.int .i64 p0))] rfl (bP ⟨rfl,trivial⟩) fun a hE=>?_
 unfold iT at hm
 refine aH (aB ?_)
 refine S hE 1 rfl fun a hE=>aC (aH ?_)
 refine aH (aB ?_)
 refine S hE 2 rfl fun a hE=>aC ?_
 refine dQ hE rfl (fun hc1=>?_) (fun hc1=>?_)
 ·replace hm:=(it hc1).symm.trans hm
  refine aH (aB ?_)
  refine S hE 1 rfl fun a hE=>?_
  obtain⟨x1,ex1,hm⟩:=bnd hm
  refine V hE hp rfl (nZ rfl hE rfl (bF ex1)) fun a hE=>S hE 1 rfl fun a hE=>aC (dE ?_)
  obtain rfl:=Option.some.inj hm
  exact iV hE rfl rfl ⟨_,rfl,rfl,hp⟩
 replace hm:=(ie hc1).symm.trans hm
 refine bT (aH ?_)
 refine aB (S hE 2 rfl fun a hE=>?_)
 refine aC (dE ?_)
 obtain rfl:=Option.some.inj hm
 exact iV hE rfl rfl ⟨_,rfl,rfl,hp⟩
set_option maxRecDepth 100000 in
set_option maxHeartbeats 4000000 in
theorem rX {Z:World} {ρ:PH} {L:List bV} {w:World} (p0:(List Int)) (vp0:Value) (hp0:bU ρ vp0 p0) (p1:Int) (hp:Hp Z ρ (L) w) (r:Bool) (hm:iR p0 p1=some r):
  Calls Try.prog 32 #[vp0,(.int .i64 p1)] w (Ret fun v w'=>v=(.bool r)∧Hp Z ρ (L) w'):=by
 refine enter (N:=52) Try.func32 rfl rfl [(0,vp0),(1,(.int .i64 p1))] rfl (bP ⟨rfl,rfl,trivial⟩) fun a hE=>?_
 unfold iR at hm
 refine aH (aB ?_)
 refine S hE 1 rfl fun a hE=>aC (aH ?_)
 refine aH (aB ?_)
 refine S hE 1 rfl fun a hE=>aC ?_
 obtain⟨b1,hc1,hm⟩:=bnd hm
 refine dN (fun a w=>∃s:Unit,b1= .brk s∧(Env 52 [] a∧Hp Z ρ (L) w)) ?_ ?_
 ·refine fV hc1 (fun s a w=>Env 52 [(0,vp0),(1,(.int .i64 p1)),(5,(.int .i64 s))] a∧Hp Z ρ (L) w) ?_ ?_
  ·exact⟨hE.cut ⟨rfl,rfl,rfl,trivial⟩,hp⟩
  rintro bC st a w ⟨hE,hp⟩ hl1
  unfold iO at hl1
  refine aH (aH ?_)
  refine aB (S hE 2 rfl fun a hE=>?_)
  refine V hE hp rfl (dJ rfl hE rfl (bU.len hp0 aY)) fun a hE=>S hE 1 rfl fun a hE=>aC ?_
  refine dQ hE rfl (fun hc2=>?_) (fun hc2=>?_)
  ·replace hl1:=(it hc2).symm.trans hl1
   refine bT (aH ?_)
   refine dL (aH ?_)
   refine mY (by kernel_rfl) (by kernel_rfl) hp ?_
   refine Sq hE 2 rfl fun a hE=>?_
   obtain⟨x1,ex1,hl1⟩:=bnd hl1
   obtain⟨b2,b2o,b2c,b2r,b2k,b2f⟩:=bU.at hp0 aY ex1
   obtain rfl:b2c=Enc.enc x1:=b2k
   have b2f:AtP ρ b2 b2o [(.int .i64 x1)]:=b2f
   refine Vq hE rfl (aV rfl hE rfl rfl b2r) fun a hE=>Vq hE rfl (aZ rfl hE rfl (fun w hw=>bH bG (b2f.c 0 rfl w hw))) fun a hE=>Sq hE 2 rfl fun a hE=>?_
   obtain⟨m1,hg1,hl1⟩:=bnd hl1
   refine q_cut [_,_,_,_,_,_,_,_] (fun a=>Env 52 [(25,(.bool m1)),(0,vp0),(1,(.int .i64 p1)),(5,(.int .i64 bC))] a) ?_ ?_
   ·rcases Bool.eq_false_or_eq_true (decide (x1=0)) with hc3|hc3
    ·
     replace hg1:=(it hc3).symm.trans hg1
     refine Gkq hE hc3 rfl fun a hE=>Gkq hE hc3 rfl fun a hE=>Gkq hE hc3 rfl fun a hE=>Gkq hE hc3 rfl fun a hE=>Gkq hE hc3 rfl fun a hE=>Gkq hE hc3 rfl fun a hE=>Gkq hE hc3 rfl fun a hE=>Vq hE rfl (nR rfl hE rfl hc3 rfl) fun a hE=>?_
     obtain rfl:=Option.some.inj hg1
     exact oW (hE.cut ⟨rfl,rfl,rfl,rfl,trivial⟩)
    replace hg1:=(ie hc3).symm.trans hg1
    refine Gq hE hc3 rfl (mV rfl hE rfl) fun a hE=>Gq hE hc3 rfl (mV rfl hE rfl) fun a hE=>?_
    obtain⟨x2,ex2,hg1⟩:=bnd hg1
    obtain⟨b3,b3o,b3c,b3r,b3k,b3f⟩:=bU.at hp0 aY ex2
    obtain rfl:b3c=Enc.enc x2:=b3k
    have b3f:AtP ρ b3 b3o [(.int .i64 x2)]:=b3f
    refine Gq hE hc3 rfl (aV rfl hE rfl rfl b3r) fun a hE=>Gq hE hc3 rfl (aZ rfl hE rfl (fun w hw=>bH bG (b3f.c 0 rfl w hw))) fun a hE=>Gq hE hc3 rfl (mV rfl hE rfl) fun a hE=>?_
    obtain⟨x3,ex3,hg1⟩:=bnd hg1
    refine Gq hE hc3 rfl (nZ rfl hE rfl (bF ex3)) fun a hE=>Gq hE hc3 rfl (ex_lss rfl hE rfl rfl) fun a hE=>Vq hE rfl (dC rfl hE rfl hc3 rfl) fun a hE=>?_
    obtain rfl:=Option.some.inj hg1
    exact oW (hE.cut ⟨rfl,rfl,rfl,rfl,trivial⟩)
   intro a hE
   refine Sq hE 1 rfl fun a hE=>?_
   obtain⟨m2,hg2,hl1⟩:=bnd hl1
   refine q_cut [_,_,_,_,_,_,_] (fun a=>Env 52 [(33,(.bool m2)),(0,vp0),(1,(.int .i64 p1)),(5,(.int .i64 bC))] a) ?_ ?_
   ·rcases Bool.eq_false_or_eq_true m1 with hc4|hc4
    ·
     replace hg2:=(it hc4).symm.trans hg2
     refine Gkq hE hc4 rfl fun a hE=>Gkq hE hc4 rfl fun a hE=>Gkq hE hc4 rfl fun a hE=>Gkq hE hc4 rfl fun a hE=>Gkq hE hc4 rfl fun a hE=>Gkq hE hc4 rfl fun a hE=>Vq hE rfl (nR rfl hE rfl hc4 rfl) fun a hE=>?_
     obtain rfl:=Option.some.inj hg2
     exact oW (hE.cut ⟨rfl,rfl,rfl,rfl,trivial⟩)
    replace hg2:=(ie hc4).symm.trans hg2
    refine Gq hE hc4 rfl (mV rfl hE rfl) fun a hE=>Gq hE hc4 rfl (mV rfl hE rfl) fun a hE=>?_
    obtain⟨x4,ex4,hg2⟩:=bnd hg2
    obtain⟨b4,b4o,b4c,b4r,b4k,b4f⟩:=bU.at hp0 aY ex4
    obtain rfl:b4c=Enc.enc x4:=b4k
    have b4f:AtP ρ b4 b4o [(.int .i64 x4)]:=b4f
    refine Gq hE hc4 rfl (aV rfl hE rfl rfl b4r) fun a hE=>Gq hE hc4 rfl (aZ rfl hE rfl (fun w hw=>bH bG (b4f.c 0 rfl w hw))) fun a hE=>Gq hE hc4 rfl (mV rfl hE rfl) fun a hE=>Gq hE hc4 rfl (ex_gtr rfl hE rfl rfl) fun a hE=>Vq hE rfl (dC rfl hE rfl hc4 rfl) fun a hE=>?_
    obtain rfl:=Option.some.inj hg2
    exact oW (hE.cut ⟨rfl,rfl,rfl,rfl,trivial⟩)
   intro a hE
   refine Sq hE 1 rfl fun a hE=>?_
   obtain⟨m3,hg3,hl1⟩:=bnd hl1
   refine q_cut [_,_,_,_,_,_,_,_,_,_,_,_,_,_,_,_,_] (fun a=>Env 52 [(51,(.bool m3)),(0,vp0),(1,(.int .i64 p1)),(5,(.int .i64 bC))] a) ?_ ?_
   ·rcases Bool.eq_false_or_eq_true m2 with hc5|hc5
    ·
     replace hg3:=(it hc5).symm.trans hg3
     refine Gkq hE hc5 rfl fun a hE=>Gkq hE hc5 rfl fun a hE=>Gkq hE hc5 rfl fun a hE=>?_
     refine q_skip (wk3 hE rfl rfl rfl) rfl rfl hE ?_
     intro a hE
     refine q_skip (wk3 hE rfl rfl rfl) rfl rfl hE ?_
     intro a hE
     refine q_skip (wk3 hE rfl rfl rfl) rfl rfl hE ?_
     intro a hE
     refine q_skip (wk3 hE rfl rfl rfl) rfl rfl hE ?_
     intro a hE
     refine q_skip (wk3 hE rfl rfl rfl) rfl rfl hE ?_
     intro a hE
     refine q_skip (wk3 hE rfl rfl rfl) rfl rfl hE ?_
     intro a hE
     refine q_skip (wk3 hE rfl rfl rfl) rfl rfl hE ?_
     intro a hE
     refine q_skip (wk3 hE rfl rfl rfl) rfl rfl hE ?_
     intro a hE
     refine q_skip (wk3 hE rfl rfl rfl) rfl rfl hE ?_
     intro a hE
     refine q_skip (wk3 hE rfl rfl rfl) rfl rfl hE ?_
     intro a hE
     refine q_skip (wk3 hE rfl rfl rfl) rfl rfl hE ?_
     intro a hE
     refine q_skip (wk3 hE rfl rfl rfl) rfl rfl hE ?_
     intro a hE
     refine Gkq hE hc5 rfl fun a hE=>Vq hE rfl (nR rfl hE rfl hc5 rfl) fun a hE=>?_
     obtain rfl:=Option.some.inj hg3
     exact oW (hE.cut ⟨rfl,rfl,rfl,rfl,trivial⟩)
    replace hg3:=(ie hc5).symm.trans hg3
    refine Gq hE hc5 rfl (mV rfl hE rfl) fun a hE=>Gq hE hc5 rfl (ex_gtr rfl hE rfl rfl) fun a hE=>Gq hE hc5 rfl (mV rfl hE rfl) fun a hE=>?_
    obtain⟨m4,hg4,hg3⟩:=bnd hg3
    refine q_cut [_,_,_,_,_,_,_,_,_,_,_,_,_] (fun a=>Env 52 [(50,(.bool m4)),(0,vp0),(1,(.int .i64 p1)),(5,(.int .i64 bC)),(34,(.bool m2)),(35,(.int .i64 bC)),(36,(.bool (decide (0<bC)))),(37,(.bool (decide (0<bC))))] a) ?_ ?_
    ·rcases Bool.eq_false_or_eq_true (decide (0<bC)) with hc6|hc6
     ·
      replace hg4:=(it hc6).symm.trans hg4
      refine Gq hE hc6 rfl (mV rfl hE rfl) fun a hE=>Gq hE hc6 rfl (mV rfl hE rfl) fun a hE=>?_
      obtain⟨x5,ex5,hg4⟩:=bnd hg4
      obtain⟨b5,b5o,b5c,b5r,b5k,b5f⟩:=bU.at hp0 aY ex5
      obtain rfl:b5c=Enc.enc x5:=b5k
      have b5f:AtP ρ b5 b5o [(.int .i64 x5)]:=b5f
      refine Gq hE hc6 rfl (aV rfl hE rfl rfl b5r) fun a hE=>Gq hE hc6 rfl (aZ rfl hE rfl (fun w hw=>bH bG (b5f.c 0 rfl w hw))) fun a hE=>?_
      obtain⟨x6,ex6,hg4⟩:=bnd hg4
      refine wG (wk1 hE rfl rfl rfl hc6) rfl rfl hE rfl [(.int .i64 x5)] ⟨rfl,trivial⟩ ent25 (v:=(.int .i64 x6)) (fun w hw=>Calls.mono (rY x5 hw x6 ex6) fun e w' ⟨v,he,hv,hh⟩=>⟨by rw[he,hv],hh⟩) ?_
      intro a hE
      refine Gq hE hc6 rfl (mV rfl hE rfl) fun a hE=>Gq hE hc6 rfl (mV rfl hE rfl) fun a hE=>?_
      obtain⟨x7,ex7,hg4⟩:=bnd hg4
      refine Gq hE hc6 rfl (sW rfl hE rfl rfl (bF ex7)) fun a hE=>?_
      obtain⟨x8,ex8,hg4⟩:=bnd hg4
      obtain⟨b6,b6o,b6c,b6r,b6k,b6f⟩:=bU.at hp0 aY ex8
      obtain rfl:b6c=Enc.enc x8:=b6k
      have b6f:AtP ρ b6 b6o [(.int .i64 x8)]:=b6f
      refine Gq hE hc6 rfl (aV rfl hE rfl rfl b6r) fun a hE=>Gq hE hc6 rfl (aZ rfl hE rfl (fun w hw=>bH bG (b6f.c 0 rfl w hw))) fun a hE=>?_
      obtain⟨x9,ex9,hg4⟩:=bnd hg4
      refine wG (wk1 hE rfl rfl rfl hc6) rfl rfl hE rfl [(.int .i64 x8)] ⟨rfl,trivial⟩ ent25 (v:=(.int .i64 x9)) (fun w hw=>Calls.mono (rY x8 hw x9 ex9) fun e w' ⟨v,he,hv,hh⟩=>⟨by rw[he,hv],hh⟩) ?_
      intro a hE
      refine Gq hE hc6 rfl (ex_leq rfl hE rfl rfl) fun a hE=>Gq hE hc5 rfl (nR rfl hE rfl hc6 rfl) fun a hE=>?_
      obtain rfl:=Option.some.inj hg4
      exact oW (hE.cut ⟨rfl,rfl,rfl,rfl,rfl,rfl,rfl,rfl,trivial⟩)
     replace hg4:=(ie hc6).symm.trans hg4
     refine Gkq hE hc6 rfl fun a hE=>Gkq hE hc6 rfl fun a hE=>Gkq hE hc6 rfl fun a hE=>Gkq hE hc6 rfl fun a hE=>Gkq hE hc6 rfl fun a hE=>Gkq hE hc6 rfl fun a hE=>Gkq hE hc6 rfl fun a hE=>Gkq hE hc6 rfl fun a hE=>Gkq hE hc6 rfl fun a hE=>Gkq hE hc6 rfl fun a hE=>Gkq hE hc6 rfl fun a hE=>Gkq hE hc6 rfl fun a hE=>Gq hE hc5 rfl (dC rfl hE rfl hc6 rfl) fun a hE=>?_
     obtain rfl:=Option.some.inj hg4
     exact oW (hE.cut ⟨rfl,rfl,rfl,rfl,rfl,rfl,rfl,rfl,trivial⟩)
    intro a hE
    refine Vq hE rfl (dC rfl hE rfl hc5 rfl) fun a hE=>?_
    obtain rfl:=Option.some.inj hg3
    exact oW (hE.cut ⟨rfl,rfl,rfl,rfl,trivial⟩)
   intro a hE
   refine oW fun w hp=>?_
   have hp:=r0 hp
   refine dQ hE rfl (fun hc7=>?_) (fun hc7=>?_)
   ·replace hl1:=(it hc7).symm.trans hl1
    refine aH (aB ?_)
    refine S hE 1 rfl fun a hE=>aC (dE ?_)
    refine⟨_,(Option.some.inj hl1).symm,fun hb=>?_⟩
    subst hb
    obtain rfl:=Option.some.inj hm
    exact iV hE rfl rfl ⟨_,rfl,rfl,hp⟩
   replace hl1:=(ie hc7).symm.trans hl1
   refine bT (aB ?_)
   refine S hE 1 rfl fun a hE=>?_
   obtain⟨x10,ex10,hl1⟩:=bnd hl1
   refine V hE hp rfl (dS rfl hE rfl rfl (bF ex10)) fun a hE=>S hE 1 rfl fun a hE=>aC ?_
   exact⟨_,(Option.some.inj hl1).symm,hE.cut ⟨rfl,rfl,rfl,trivial⟩,hp⟩
  replace hl1:=(ie hc2).symm.trans hl1
  refine eU ?_
  refine⟨_,(Option.some.inj hl1).symm,fun hbb=>?_⟩
  exact⟨_,hbb.symm,hE.cut trivial,hp⟩
 rintro a w ⟨b1s,rfl,hE,hp⟩
 dsimp only at hm
 refine aH (aB ?_)
 refine S hE 1 rfl fun a hE=>aC (dE ?_)
 obtain rfl:=Option.some.inj hm
 exact iV hE rfl rfl ⟨_,rfl,rfl,hp⟩
set_option maxRecDepth 100000 in
set_option maxHeartbeats 4000000 in
theorem L6 {Z:World} {ρ:PH} {L:List bV} {w:World} (p0:Formula) (aG:Value) (bI:bU ρ aG p0.clauses) (hp:Hp Z ρ (L) w) (r:Bool) (hm:lQ p0=some r):
  Calls Try.prog 31 #[(.agg #[(.int .i64 p0.vars),aG])] w (Ret fun v w'=>v=(.bool r)∧Hp Z ρ (L) w'):=by
 refine enter (N:=34) Try.func31 rfl rfl [(0,(.agg #[(.int .i64 p0.vars),aG]))] rfl (bP ⟨rfl,trivial⟩) fun a hE=>?_
 unfold lQ at hm
 refine aH (aB ?_)
 refine qQ (wk0 rfl) rfl rfl hE hp rfl (v:=(.agg #[(.int .i64 p0.vars),aG])) rfl ?_
 intro a w b1 hE hp
 have hp:=r1 hp
 refine S hE 1 rfl fun a hE=>aC (aH ?_)
 refine aH (aB ?_)
 refine V hE hp rfl (xf hE lT rfl rfl) fun a hE=>V hE hp rfl (xl hE bG 0 rfl rfl rfl rfl) fun a hE=>S hE 2 rfl fun a hE=>?_
 refine kV [_,_,_,_] (fun a w=>Env 34 [(11,(.bool ((decide (p0.vars<0))||(decide (65536<p0.vars))))),(1,(.pointer (some ⟨b1,0,none⟩)))] a∧Hp Z ρ (Pt b1 (.cells #[(.int .i64 p0.vars),aG] 24 (0,0))::L) w) ?_ ?_
 ·rcases Bool.eq_false_or_eq_true (decide (p0.vars<0)) with hc1|hc1
  ·
   refine Gk hE hc1 rfl fun a hE=>Gk hE hc1 rfl fun a hE=>Gk hE hc1 rfl fun a hE=>pk1 hE hc1 rfl rfl rfl rfl fun a hE=>?_
   have hE:=hE.eqv (v':=(.bool ((decide (p0.vars<0))||(decide (65536<p0.vars))))) (by rw[hc1];rfl)
   exact aC ⟨hE.cut ⟨rfl,rfl,trivial⟩,hp⟩
  refine G hE hp hc1 rfl (xf hE lT rfl rfl) fun a hE=>G hE hp hc1 rfl (xl hE bG 0 rfl rfl rfl rfl) fun a hE=>Gs hE hc1 rfl rfl fun a hE=>pk0 hE hc1 rfl rfl rfl rfl fun a hE=>?_
  have hE:=hE.eqv (v':=(.bool ((decide (p0.vars<0))||(decide (65536<p0.vars))))) (by rw[hc1];rfl)
  exact aC ⟨hE.cut ⟨rfl,rfl,trivial⟩,hp⟩
 rintro a w ⟨hE,hp⟩
 refine S hE 1 rfl fun a hE=>?_
 refine kV [_,_,_,_,_] (fun a w=>Env 34 [(17,(.bool (((decide (p0.vars<0))||(decide (65536<p0.vars)))||(decide (262144<(p0.clauses.length:Int)))))),(1,(.pointer (some ⟨b1,0,none⟩)))] a∧Hp Z ρ (Pt b1 (.cells #[(.int .i64 p0.vars),aG] 24 (0,0))::L) w) ?_ ?_
 ·rcases Bool.eq_false_or_eq_true ((decide (p0.vars<0))||(decide (65536<p0.vars))) with hc2|hc2
  ·
   refine Gk hE hc2 rfl fun a hE=>Gk hE hc2 rfl fun a hE=>Gk hE hc2 rfl fun a hE=>Gk hE hc2 rfl fun a hE=>pk1 hE hc2 rfl rfl rfl rfl fun a hE=>?_
   have hE:=hE.eqv (v':=(.bool (((decide (p0.vars<0))||(decide (65536<p0.vars)))||(decide (262144<(p0.clauses.length:Int)))))) (by rw[hc2];rfl)
   exact aC ⟨hE.cut ⟨rfl,rfl,trivial⟩,hp⟩
  refine G hE hp hc2 rfl (xf hE mW rfl rfl) fun a hE=>G hE hp hc2 rfl (xl hE mF 0 rfl rfl rfl rfl) fun a hE=>G hE hp hc2 rfl (dJ rfl hE rfl (bU.len bI nG)) fun a hE=>Gs hE hc2 rfl rfl fun a hE=>pk0 hE hc2 rfl rfl rfl rfl fun a hE=>?_
  have hE:=hE.eqv (v':=(.bool (((decide (p0.vars<0))||(decide (65536<p0.vars)))||(decide (262144<(p0.clauses.length:Int)))))) (by rw[hc2];rfl)
  exact aC ⟨hE.cut ⟨rfl,rfl,trivial⟩,hp⟩
 rintro a w ⟨hE,hp⟩
 refine aC ?_
 refine dQ hE rfl (fun hc3=>?_) (fun hc3=>?_)
 ·replace hm:=(it hc3).symm.trans hm
  refine aH (aB ?_)
  refine S hE 1 rfl fun a hE=>aC (dE ?_)
  obtain rfl:=Option.some.inj hm
  exact iV hE rfl rfl ⟨_,rfl,rfl,(hp.drop)⟩
 replace hm:=(ie hc3).symm.trans hm
 refine bT (aH ?_)
 refine aH (aB ?_)
 refine S hE 1 rfl fun a hE=>aC ?_
 obtain⟨b2,hc4,hm⟩:=bnd hm
 refine dN (fun a w=>∃s:Unit,b2= .brk s∧(Env 34 [] a∧Hp Z ρ (Pt b1 (.cells #[(.int .i64 p0.vars),aG] 24 (0,0))::L) w)) ?_ ?_
 ·refine fV hc4 (fun s a w=>Env 34 [(1,(.pointer (some ⟨b1,0,none⟩))),(3,(.int .i64 s))] a∧Hp Z ρ (Pt b1 (.cells #[(.int .i64 p0.vars),aG] 24 (0,0))::L) w) ?_ ?_
  ·exact⟨hE.cut ⟨rfl,rfl,trivial⟩,hp⟩
  rintro bC st a w ⟨hE,hp⟩ hl1
  unfold lK at hl1
  refine aH (aH ?_)
  refine aB (S hE 1 rfl fun a hE=>?_)
  refine V hE hp rfl (xf hE mW rfl rfl) fun a hE=>V hE hp rfl (xl hE mF 0 rfl rfl rfl rfl) fun a hE=>V hE hp rfl (dJ rfl hE rfl (bU.len bI nG)) fun a hE=>S hE 1 rfl fun a hE=>aC ?_
  have hE:=hE.cut (E':=[(1,(.pointer (some ⟨b1,0,none⟩))),(3,(.int .i64 bC)),(22,(.bool (decide (bC<(p0.clauses.length:Int)))))]) ⟨rfl,rfl,rfl,trivial⟩
  refine dQ hE rfl (fun hc5=>?_) (fun hc5=>?_)
  ·replace hl1:=(it hc5).symm.trans hl1
   refine bT (aH ?_)
   refine dL (aH ?_)
   refine mY (by kernel_rfl) (by kernel_rfl) hp ?_
   refine Vq hE rfl (xf hE mW rfl rfl) fun a hE=>Vq hE rfl (xl hE mF 0 rfl rfl rfl rfl) fun a hE=>Sq hE 1 rfl fun a hE=>?_
   obtain⟨x1,ex1,hl1⟩:=bnd hl1
   obtain⟨b3,b3o,b3c,b3r,b3k,b3f⟩:=bU.at bI nG ex1
   obtain⟨vb3,rfl,hb3⟩:=b3k
   have b3f:AtP ρ b3 b3o [vb3]:=b3f
   refine Vq hE rfl (aV rfl hE rfl rfl b3r) fun a hE=>Vq hE rfl (aZ rfl hE rfl (fun w hw=>bH bK (b3f.c 0 rfl w hw))) fun a hE=>Vq hE rfl (xf hE lT rfl rfl) fun a hE=>Vq hE rfl (xl hE bG 0 rfl rfl rfl rfl) fun a hE=>?_
   obtain⟨x2,ex2,hl1⟩:=bnd hl1
   refine wG (wk0 rfl) rfl rfl hE rfl [vb3,(.int .i64 p0.vars)] ⟨rfl,rfl,trivial⟩ ent32 (v:=(.bool x2)) (fun w hw=>Calls.mono (rX x1 vb3 hb3 p0.vars hw x2 ex2) fun e w' ⟨v,he,hv,hh⟩=>⟨by rw[he,hv],hh⟩) ?_
   intro a hE
   refine Sq hE 1 rfl fun a hE=>?_
   refine oW fun w hp=>?_
   have hp:=r1 hp
   refine dQ hE rfl (fun hc6=>?_) (fun hc6=>?_)
   ·replace hl1:=(it hc6).symm.trans hl1
    refine aH (aB ?_)
    refine S hE 1 rfl fun a hE=>aC (dE ?_)
    refine⟨_,(Option.some.inj hl1).symm,fun hb=>?_⟩
    subst hb
    obtain rfl:=Option.some.inj hm
    exact iV hE rfl rfl ⟨_,rfl,rfl,(hp.drop)⟩
   replace hl1:=(ie hc6).symm.trans hl1
   refine bT (aB ?_)
   refine S hE 1 rfl fun a hE=>?_
   obtain⟨x3,ex3,hl1⟩:=bnd hl1
   refine V hE hp rfl (dS rfl hE rfl rfl (bF ex3)) fun a hE=>S hE 1 rfl fun a hE=>aC ?_
   exact⟨_,(Option.some.inj hl1).symm,hE.cut ⟨rfl,rfl,trivial⟩,hp⟩
  replace hl1:=(ie hc5).symm.trans hl1
  refine eU ?_
  refine⟨_,(Option.some.inj hl1).symm,fun hbb=>?_⟩
  exact⟨_,hbb.symm,hE.cut trivial,hp⟩
 rintro a w ⟨b2s,rfl,hE,hp⟩
 dsimp only at hm
 refine aH (aB ?_)
 refine S hE 1 rfl fun a hE=>aC (dE ?_)
 obtain rfl:=Option.some.inj hm
 exact iV hE rfl rfl ⟨_,rfl,rfl,(hp.drop)⟩
set_option maxRecDepth 100000 in
set_option maxHeartbeats 4000000 in
theorem J9 {Z:World} {ρ:PH} {L:List bV} {w:World} (p0:Formula) (aG:Value) (bI:bU ρ aG p0.clauses) (p1:Int) (p2:Int) (hp:Hp Z ρ (L) w) (r:Bool) (hm:lN p0 p1 p2=some r):
  Calls Try.prog 11 #[(.agg #[(.int .i64 p0.vars),aG]),(.int .i64 p1),(.int .i64 p2)] w (Ret fun v w'=>v=(.bool r)∧Hp Z ρ (L) w'):=by
 refine enter (N:=33) Try.func11 rfl rfl [(0,(.agg #[(.int .i64 p0.vars),aG])),(1,(.int .i64 p1)),(2,(.int .i64 p2))] rfl (bP ⟨rfl,rfl,rfl,trivial⟩) fun a hE=>?_
 unfold lN at hm
 refine aH (aB ?_)
 refine qQ (wk0 rfl) rfl rfl hE hp rfl (v:=(.agg #[(.int .i64 p0.vars),aG])) rfl ?_
 intro a w b1 hE hp
 have hp:=r1 hp
 refine S hE 1 rfl fun a hE=>aC (aH ?_)
 refine aH (aB ?_)
 refine S hE 1 rfl fun a hE=>aC ?_
 obtain⟨b2,hc1,hm⟩:=bnd hm
 refine dN (fun a w=>∃s:Unit,b2= .brk s∧(Env 33 [(1,(.int .i64 p1)),(2,(.int .i64 p2)),(3,(.pointer (some ⟨b1,0,none⟩)))] a∧Hp Z ρ (Pt b1 (.cells #[(.int .i64 p0.vars),aG] 24 (0,0))::L) w)) ?_ ?_
 ·refine fV hc1 (fun s a w=>Env 33 [(1,(.int .i64 p1)),(2,(.int .i64 p2)),(3,(.pointer (some ⟨b1,0,none⟩))),(7,(.int .i64 s))] a∧Hp Z ρ (Pt b1 (.cells #[(.int .i64 p0.vars),aG] 24 (0,0))::L) w) ?_ ?_
  ·exact⟨hE.cut ⟨rfl,rfl,rfl,rfl,trivial⟩,hp⟩
  rintro bC st a w ⟨hE,hp⟩ hl1
  unfold lJ at hl1
  refine aH (aH ?_)
  refine aB (S hE 1 rfl fun a hE=>?_)
  refine V hE hp rfl (xf hE mW rfl rfl) fun a hE=>V hE hp rfl (xl hE mF 0 rfl rfl rfl rfl) fun a hE=>V hE hp rfl (dJ rfl hE rfl (bU.len bI nG)) fun a hE=>S hE 1 rfl fun a hE=>aC ?_
  refine dQ hE rfl (fun hc2=>?_) (fun hc2=>?_)
  ·replace hl1:=(it hc2).symm.trans hl1
   refine bT (aH ?_)
   refine dL (aH ?_)
   refine aB (V hE hp rfl (xf hE mW rfl rfl) fun a hE=>?_)
   refine V hE hp rfl (xl hE mF 0 rfl rfl rfl rfl) fun a hE=>S hE 1 rfl fun a hE=>?_
   obtain⟨x1,ex1,hl1⟩:=bnd hl1
   obtain⟨b3,b3o,b3c,b3r,b3k,b3f⟩:=bU.at bI nG ex1
   obtain⟨vb3,rfl,hb3⟩:=b3k
   have b3f:AtP ρ b3 b3o [vb3]:=b3f
   refine V hE hp rfl (aV rfl hE rfl rfl b3r) fun a hE=>V hE hp rfl (aZ rfl hE rfl (fun w hw=>bH bK (b3f.c 0 rfl w hw))) fun a hE=>V hE hp rfl (dJ rfl hE rfl (bU.len hb3 aY)) fun a hE=>S hE 1 rfl fun a hE=>aC ?_
   have hE:=hE.cut (E':=[(1,(.int .i64 p1)),(2,(.int .i64 p2)),(3,(.pointer (some ⟨b1,0,none⟩))),(7,(.int .i64 bC)),(21,(.bool (decide (30<(x1.length:Int)))))]) ⟨rfl,rfl,rfl,rfl,rfl,trivial⟩
   refine dQ hE rfl (fun hc3=>?_) (fun hc3=>?_)
   ·replace hl1:=(it hc3).symm.trans hl1
    refine aH (aB ?_)
    refine S hE 1 rfl fun a hE=>aC (dE ?_)
    refine⟨_,(Option.some.inj hl1).symm,fun hb=>?_⟩
    subst hb
    obtain rfl:=Option.some.inj hm
    exact iV hE rfl rfl ⟨_,rfl,rfl,(hp.drop)⟩
   replace hl1:=(ie hc3).symm.trans hl1
   refine bT (aB ?_)
   refine S hE 1 rfl fun a hE=>?_
   obtain⟨x2,ex2,hl1⟩:=bnd hl1
   refine V hE hp rfl (dS rfl hE rfl rfl (bF ex2)) fun a hE=>S hE 1 rfl fun a hE=>aC ?_
   exact⟨_,(Option.some.inj hl1).symm,hE.cut ⟨rfl,rfl,rfl,rfl,trivial⟩,hp⟩
  replace hl1:=(ie hc2).symm.trans hl1
  refine eU ?_
  refine⟨_,(Option.some.inj hl1).symm,fun hbb=>?_⟩
  exact⟨_,hbb.symm,hE.cut ⟨rfl,rfl,rfl,trivial⟩,hp⟩
 rintro a w ⟨b2s,rfl,hE,hp⟩
 dsimp only at hm
 refine aH (aB ?_)
 refine V hE hp rfl (xf hE lT rfl rfl) fun a hE=>V hE hp rfl (xl hE bG 0 rfl rfl rfl rfl) fun a hE=>S hE 3 rfl fun a hE=>?_
 refine kV [_,_,_,_,_,_] (fun a w=>Env 33 [(32,(.bool ((decide (p0.vars≤p1))&&(decide ((p0.clauses.length:Int)≤p2)))))] a∧Hp Z ρ (Pt b1 (.cells #[(.int .i64 p0.vars),aG] 24 (0,0))::L) w) ?_ ?_
 ·rcases Bool.eq_false_or_eq_true (decide (p0.vars≤p1)) with hc4|hc4
  ·
   refine G hE hp hc4 rfl (xf hE mW rfl rfl) fun a hE=>G hE hp hc4 rfl (xl hE mF 0 rfl rfl rfl rfl) fun a hE=>G hE hp hc4 rfl (dJ rfl hE rfl (bU.len bI nG)) fun a hE=>Gs hE hc4 rfl rfl fun a hE=>Gs hE hc4 rfl rfl fun a hE=>pk1 hE hc4 rfl rfl rfl rfl fun a hE=>?_
   have hE:=hE.eqv (v':=(.bool ((decide (p0.vars≤p1))&&(decide ((p0.clauses.length:Int)≤p2))))) (by rw[hc4];rfl)
   exact aC ⟨hE.cut ⟨rfl,trivial⟩,hp⟩
  refine Gk hE hc4 rfl fun a hE=>Gk hE hc4 rfl fun a hE=>Gk hE hc4 rfl fun a hE=>Gk hE hc4 rfl fun a hE=>Gk hE hc4 rfl fun a hE=>pk0 hE hc4 rfl rfl rfl rfl fun a hE=>?_
  have hE:=hE.eqv (v':=(.bool ((decide (p0.vars≤p1))&&(decide ((p0.clauses.length:Int)≤p2))))) (by rw[hc4];rfl)
  exact aC ⟨hE.cut ⟨rfl,trivial⟩,hp⟩
 rintro a w ⟨hE,hp⟩
 refine S hE 1 rfl fun a hE=>aC (dE ?_)
 obtain rfl:=Option.some.inj hm
 exact iV hE rfl rfl ⟨_,rfl,rfl,(hp.drop)⟩
set_option maxRecDepth 100000 in
set_option maxHeartbeats 4000000 in
theorem O0 {Z:World} {ρ:PH} {L:List bV} {w:World} (p0:Formula) (aG:Value) (bI:bU ρ aG p0.clauses) (p1:(List Int)) (vp1:Value) (hp1:bU ρ vp1 p1) (hp:Hp Z ρ (L) w) (r:Formula) (hm:mJ p0 p1=some r):
  Calls Try.prog 23 #[(.agg #[(.int .i64 p0.vars),aG]),vp1] w (Ret fun v w'=>∃(ρ':PH) (vZ:Value),ρ.le ρ'∧v=(.agg #[(.int .i64 r.vars),vZ])∧bU ρ' vZ r.clauses∧Hp Z ρ' (L) w'):=by
 refine enter (N:=19) Try.func23 rfl rfl [(0,(.agg #[(.int .i64 p0.vars),aG])),(1,vp1)] rfl (bP ⟨rfl,rfl,trivial⟩) fun a hE=>?_
 unfold mJ at hm
 refine aH (aB ?_)
 refine qQ (wk0 rfl) rfl rfl hE hp rfl (v:=(.agg #[(.int .i64 p0.vars),aG])) rfl ?_
 intro a w b1 hE hp
 have hp:=r1 hp
 refine qB (wk0 rfl) rfl rfl hE hp rfl [(.int .i64 0),(.slice none 0 0)] (fun w=>by simp[Instr.alloc,go_sem]<;>rfl) ?_
 intro a w b2 hE hp
 have hp:=r2 hp
 refine aC (aH ?_)
 refine aB (V hE hp rfl (xf hE mW rfl rfl) fun a hE=>?_)
 refine V hE hp rfl (xl hE mF 1 rfl rfl rfl rfl) fun a hE=>V hE hp rfl (dJ rfl hE rfl (bU.len bI nG)) fun a hE=>S hE 1 rfl fun a hE=>aC (aH ?_)
 refine aB (V hE hp rfl (xf hE mW rfl rfl) fun a hE=>?_)
 refine V hE hp rfl (xl hE mF 1 rfl rfl rfl rfl) fun a hE=>S hE 2 rfl fun a hE=>?_
 obtain⟨v1,v1r,f1⟩:=bU.full bI nG .i64 .i64
 refine V hE hp rfl (v:=v1) (ex_sl3 rfl hE rfl rfl rfl v1r) fun a hE=>S hE 1 rfl fun a hE=>?_
 refine jM (wk0 rfl) rfl rfl hE hp rfl [(0,vp1)] ⟨⟨rfl,rfl⟩,trivial⟩ [vp1] 25 (fun w=>by have hc0:=bU.cells hp1;simp only[Value.cells] at hc0;simp[Instr.buildSlice,Instr.fill,Value.cells,hc0,go_sem]) ?_
 intro a w b3 hE hp
 have hp:=r3 hp
 obtain⟨x1,ex1,hm⟩:=bnd hm
 have hR3:jF ρ ([p1]:List (List Int)) [vp1]:=⟨_,_,rfl,⟨_,rfl,(hp1)⟩,rfl⟩
 refine s_appC (wk0 rfl) rfl rfl hE hp rfl nG rfl rfl f1 rfl (l2:=[p1]) (ys:=[vp1]) rfl rfl hR3 (fun j u hj=>by have:=Hp.cN 0 rfl 0 _ (bY rfl) w hp j u hj;simpa using this) ex1 ?_
 intro v2 xs1 a w hR2 hE hp
 have hR1:jF ρ x1 (xs1++[vp1]):=(uA ex1).2▸jF.app hR2 hR3
 have hp:=r4 hp
 refine V hE hp rfl (xf hE mW rfl rfl) fun a hE=>?_
 refine oO (wk0 rfl) rfl hE hp rfl rfl rfl 3 rfl mF.size_ (vM.cells hp 0 rfl) (vM.one hp 0 rfl) rfl [(.int .i64 p0.vars),v2] rfl ?_
 intro w hp
 have hp:=r4 hp
 refine aC (aH ?_)
 refine aB (V hE hp rfl (aZ rfl hE rfl (fun w hw=>gQ (cs:=[(.int .i64 p0.vars),v2]) gV (Hp.cN 3 rfl 0 _ (bY rfl) w hw))) fun a hE=>?_)
 refine dM (wk0 rfl) rfl hE hp rfl rfl rfl 2 rfl gV.size_ rfl (bW ⟨rfl,(vM.one hp 0 rfl),trivial⟩) [(.int .i64 p0.vars),v2] rfl ?_
 intro w hp
 have hp:=r4 hp
 refine aC (dE ?_)
 obtain⟨k1,k1a,k1d,hp⟩:=(hp.get 0 rfl).lend
 have f2:bU (ρ.un k1) v2 x1:=vM.ro k1d k1a hR1
 have hp:=r3 hp
 obtain rfl:=Option.some.inj hm
 exact retc1 hE rfl rfl (rM (cs:=[(.int .i64 p0.vars),v2]) gV (Hp.cN 1 rfl 0 _ (bY rfl) _ hp)) ⟨_,rfl,_,_,(PH.le_un _ k1),rfl,f2,(((((hp.get 2 rfl).drop).get 1 rfl).drop).drop)⟩
set_option maxRecDepth 100000 in
set_option maxHeartbeats 4000000 in
theorem O1 {Z:World} {ρ:PH} {L:List bV} {w:World} (p0:Formula) (aG:Value) (bI:bU ρ aG p0.clauses) (p1:(List Int)) (vp1:Value) (hp1:bU ρ vp1 p1) (p2:Int) (hp:Hp Z ρ (L) w) (r:Bool) (hm:kR p0 p1 p2=some r):
  Calls Try.prog 13 #[(.agg #[(.int .i64 p0.vars),aG]),vp1,(.int .i64 p2)] w (Ret fun v w'=>v=(.bool r)∧Hp Z ρ (L) w'):=by
 refine enter (N:=34) Try.func13 rfl rfl [(0,(.agg #[(.int .i64 p0.vars),aG])),(1,vp1),(2,(.int .i64 p2))] rfl (bP ⟨rfl,rfl,rfl,trivial⟩) fun a hE=>?_
 unfold kR at hm
 refine aH (aB ?_)
 refine qQ (wk0 rfl) rfl rfl hE hp rfl (v:=(.agg #[(.int .i64 p0.vars),aG])) rfl ?_
 intro a w b1 hE hp
 have hp:=r1 hp
 refine S hE 1 rfl fun a hE=>aC (aH ?_)
 refine aH (aB ?_)
 refine V hE hp rfl (aZ rfl hE rfl (fun w hw=>gQ (cs:=[(.int .i64 p0.vars),aG]) gV (Hp.cN 0 rfl 0 _ (bY rfl) w hw))) fun a hE=>?_
 obtain⟨x1,ex1,hm⟩:=bnd hm
 refine s_call (wk0 rfl) rfl rfl hE rfl [(.agg #[(.int .i64 p0.vars),aG])] ⟨rfl,trivial⟩ ent31 (L6 p0 aG bI hp x1 ex1) Ret.ret ?_
 intro v a w hR hE
 obtain⟨rfl,hp⟩:=Ret.of hR
 have hp:=r1 hp
 refine S hE 2 rfl fun a hE=>?_
 refine kV [_,_,_] (fun a w=>Env 34 [(14,(.bool ((!x1)||(decide (p2<0))))),(1,vp1),(2,(.int .i64 p2)),(3,(.pointer (some ⟨b1,0,none⟩)))] a∧Hp Z ρ (Pt b1 (.cells #[(.int .i64 p0.vars),aG] 24 (0,0))::L) w) ?_ ?_
 ·rcases Bool.eq_false_or_eq_true (!x1) with hc1|hc1
  ·
   refine Gk hE hc1 rfl fun a hE=>Gk hE hc1 rfl fun a hE=>pk1 hE hc1 rfl rfl rfl rfl fun a hE=>?_
   have hE:=hE.eqv (v':=(.bool ((!x1)||(decide (p2<0))))) (by rw[hc1];rfl)
   exact aC ⟨hE.cut ⟨rfl,rfl,rfl,rfl,trivial⟩,hp⟩
  refine Gs hE hc1 rfl rfl fun a hE=>Gs hE hc1 rfl rfl fun a hE=>pk0 hE hc1 rfl rfl rfl rfl fun a hE=>?_
  have hE:=hE.eqv (v':=(.bool ((!x1)||(decide (p2<0))))) (by rw[hc1];rfl)
  exact aC ⟨hE.cut ⟨rfl,rfl,rfl,rfl,trivial⟩,hp⟩
 rintro a w ⟨hE,hp⟩
 refine S hE 1 rfl fun a hE=>?_
 refine kV [_,_,_] (fun a w=>Env 34 [(18,(.bool (((!x1)||(decide (p2<0)))||(decide (65536<p2))))),(1,vp1),(3,(.pointer (some ⟨b1,0,none⟩)))] a∧Hp Z ρ (Pt b1 (.cells #[(.int .i64 p0.vars),aG] 24 (0,0))::L) w) ?_ ?_
 ·rcases Bool.eq_false_or_eq_true ((!x1)||(decide (p2<0))) with hc2|hc2
  ·
   refine Gk hE hc2 rfl fun a hE=>Gk hE hc2 rfl fun a hE=>pk1 hE hc2 rfl rfl rfl rfl fun a hE=>?_
   have hE:=hE.eqv (v':=(.bool (((!x1)||(decide (p2<0)))||(decide (65536<p2))))) (by rw[hc2];rfl)
   exact aC ⟨hE.cut ⟨rfl,rfl,rfl,trivial⟩,hp⟩
  refine Gs hE hc2 rfl rfl fun a hE=>Gs hE hc2 rfl rfl fun a hE=>pk0 hE hc2 rfl rfl rfl rfl fun a hE=>?_
  have hE:=hE.eqv (v':=(.bool (((!x1)||(decide (p2<0)))||(decide (65536<p2))))) (by rw[hc2];rfl)
  exact aC ⟨hE.cut ⟨rfl,rfl,rfl,trivial⟩,hp⟩
 rintro a w ⟨hE,hp⟩
 refine aC ?_
 refine dQ hE rfl (fun hc3=>?_) (fun hc3=>?_)
 ·replace hm:=(it hc3).symm.trans hm
  refine aH (aB ?_)
  refine S hE 1 rfl fun a hE=>aC (dE ?_)
  obtain rfl:=Option.some.inj hm
  exact iV hE rfl rfl ⟨_,rfl,rfl,(hp.drop)⟩
 replace hm:=(ie hc3).symm.trans hm
 refine bT (aH ?_)
 refine aH (aB ?_)
 refine S hE 1 rfl fun a hE=>aC ?_
 obtain⟨b2,hc4,hm⟩:=bnd hm
 refine dN (fun a w=>∃s:Unit,b2= .brk s∧(Env 34 [] a∧Hp Z ρ (Pt b1 (.cells #[(.int .i64 p0.vars),aG] 24 (0,0))::L) w)) ?_ ?_
 ·refine fV hc4 (fun s a w=>Env 34 [(1,vp1),(3,(.pointer (some ⟨b1,0,none⟩))),(7,(.int .i64 s))] a∧Hp Z ρ (Pt b1 (.cells #[(.int .i64 p0.vars),aG] 24 (0,0))::L) w) ?_ ?_
  ·exact⟨hE.cut ⟨rfl,rfl,rfl,trivial⟩,hp⟩
  rintro bC st a w ⟨hE,hp⟩ hl1
  unfold mD at hl1
  refine aH (aH ?_)
  refine aB (S hE 2 rfl fun a hE=>?_)
  refine V hE hp rfl (dJ rfl hE rfl (bU.len hp1 aY)) fun a hE=>S hE 1 rfl fun a hE=>aC ?_
  have hE:=hE.cut (E':=[(1,vp1),(3,(.pointer (some ⟨b1,0,none⟩))),(7,(.int .i64 bC)),(22,(.bool (decide (bC<(p1.length:Int)))))]) ⟨rfl,rfl,rfl,rfl,trivial⟩
  refine dQ hE rfl (fun hc5=>?_) (fun hc5=>?_)
  ·replace hl1:=(it hc5).symm.trans hl1
   refine bT (aH ?_)
   refine dL (aH ?_)
   refine mY (by kernel_rfl) (by kernel_rfl) hp ?_
   refine Sq hE 3 rfl fun a hE=>?_
   obtain⟨x2,ex2,hl1⟩:=bnd hl1
   refine Vq hE rfl (dS rfl hE rfl rfl (bF ex2)) fun a hE=>?_
   obtain⟨x3,ex3,hl1⟩:=bnd hl1
   obtain⟨v1,v1r,f1⟩:=bU.part hp1 aY (some (.i64,bC)) (some (.i64,x2)) rfl rfl ex3
   refine Vq hE rfl (uP rfl hE rfl (some (.i64,bC)) (some (.i64,x2)) (by exact rfl) (by exact rfl) v1r) fun a hE=>Vq hE rfl (xf hE lT rfl rfl) fun a hE=>Vq hE rfl (xl hE bG 0 rfl rfl rfl rfl) fun a hE=>?_
   obtain⟨x4,ex4,hl1⟩:=bnd hl1
   refine wG (wk0 rfl) rfl rfl hE rfl [v1,(.int .i64 p0.vars)] ⟨rfl,rfl,trivial⟩ ent32 (v:=(.bool x4)) (fun w hw=>Calls.mono (rX x3 v1 f1 p0.vars hw x4 ex4) fun e w' ⟨v,he,hv,hh⟩=>⟨by rw[he,hv],hh⟩) ?_
   intro a hE
   refine Sq hE 1 rfl fun a hE=>?_
   refine oW fun w hp=>?_
   have hp:=r1 hp
   refine dQ hE rfl (fun hc6=>?_) (fun hc6=>?_)
   ·replace hl1:=(it hc6).symm.trans hl1
    refine aH (aB ?_)
    refine S hE 1 rfl fun a hE=>aC (dE ?_)
    refine⟨_,(Option.some.inj hl1).symm,fun hb=>?_⟩
    subst hb
    obtain rfl:=Option.some.inj hm
    exact iV hE rfl rfl ⟨_,rfl,rfl,(hp.drop)⟩
   replace hl1:=(ie hc6).symm.trans hl1
   refine bT (aB ?_)
   refine S hE 1 rfl fun a hE=>?_
   obtain⟨x5,ex5,hl1⟩:=bnd hl1
   refine V hE hp rfl (dS rfl hE rfl rfl (bF ex5)) fun a hE=>S hE 1 rfl fun a hE=>aC ?_
   exact⟨_,(Option.some.inj hl1).symm,hE.cut ⟨rfl,rfl,rfl,trivial⟩,hp⟩
  replace hl1:=(ie hc5).symm.trans hl1
  refine eU ?_
  refine⟨_,(Option.some.inj hl1).symm,fun hbb=>?_⟩
  exact⟨_,hbb.symm,hE.cut trivial,hp⟩
 rintro a w ⟨b2s,rfl,hE,hp⟩
 dsimp only at hm
 refine aH (aB ?_)
 refine S hE 1 rfl fun a hE=>aC (dE ?_)
 obtain rfl:=Option.some.inj hm
 exact iV hE rfl rfl ⟨_,rfl,rfl,(hp.drop)⟩
set_option maxRecDepth 100000 in
set_option maxHeartbeats 4000000 in
theorem vO {Z:World} {ρ:PH} {L:List bV} {w:World} (p0:Formula) (aG:Value) (bI:bU ρ aG p0.clauses) (p1:(List Int)) (vp1:Value) (hp1:bU ρ vp1 p1) (hp:Hp Z ρ (L) w) (r:Formula) (hm:iI p0 p1=some r):
  Calls Try.prog 26 #[(.agg #[(.int .i64 p0.vars),aG]),vp1] w (Ret fun v w'=>∃(ρ':PH) (vZ:Value),ρ.le ρ'∧v=(.agg #[(.int .i64 r.vars),vZ])∧bU ρ' vZ r.clauses∧Hp Z ρ' (L) w'):=by
 refine enter (N:=20) Try.func26 rfl rfl [(0,(.agg #[(.int .i64 p0.vars),aG])),(1,vp1)] rfl (bP ⟨rfl,rfl,trivial⟩) fun a hE=>?_
 unfold iI at hm
 refine aH (aB ?_)
 refine qQ (wk0 rfl) rfl rfl hE hp rfl (v:=(.agg #[(.int .i64 p0.vars),aG])) rfl ?_
 intro a w b1 hE hp
 have hp:=r1 hp
 refine qB (wk0 rfl) rfl rfl hE hp rfl [(.int .i64 0),(.slice none 0 0)] (fun w=>by simp[Instr.alloc,go_sem]<;>rfl) ?_
 intro a w b2 hE hp
 have hp:=r2 hp
 refine aC (aH ?_)
 refine aH (aB ?_)
 refine S hE 1 rfl fun a hE=>aC ?_
 obtain⟨b3,hc1,hm⟩:=bnd hm
 refine dN (fun a w=>∃(ρ1:PH) (yN:Value),ρ.le ρ1∧bU ρ1 yN b3.2∧Env 20 [(2,(.pointer (some ⟨b1,0,none⟩))),(4,(.pointer (some ⟨b2,0,none⟩)))] a∧Hp Z ρ1 (Pt b2 (.cells #[(.int .i64 0),(.slice none 0 0)] 24 (0,0))::Pt b1 (.cells #[(.int .i64 b3.1),yN] 24 (0,0))::L) w) ?_ ?_
 ·refine fV hc1 (fun s a w=>∃(ρ1:PH) (yN:Value),ρ.le ρ1∧bU ρ1 yN s.2.2∧Env 20 [(1,vp1),(2,(.pointer (some ⟨b1,0,none⟩))),(4,(.pointer (some ⟨b2,0,none⟩))),(5,(.int .i64 s.1))] a∧Hp Z ρ1 (Pt b2 (.cells #[(.int .i64 0),(.slice none 0 0)] 24 (0,0))::Pt b1 (.cells #[(.int .i64 s.2.1),yN] 24 (0,0))::L) w) ?_ ?_
  ·exact⟨ρ,_,(PH.le.rf _),bI,hE.cut ⟨rfl,rfl,rfl,rfl,trivial⟩,hp⟩
  rintro⟨bC,cZ,dG⟩ st a w ⟨ρ1,yN,hlg1,hc1_1,hE,hp⟩ hl1
  dsimp only at hE hp hlg1 hc1_1 hl1
  unfold kL at hl1
  refine aH (aH ?_)
  refine aB (S hE 2 rfl fun a hE=>?_)
  refine V hE hp rfl (dJ rfl hE rfl (bU.len (bU.mono hp1 hlg1) aY)) fun a hE=>S hE 1 rfl fun a hE=>aC ?_
  refine dQ hE rfl (fun hc2=>?_) (fun hc2=>?_)
  ·replace hl1:=(it hc2).symm.trans hl1
   refine bT (aH ?_)
   refine dL ?_
   obtain⟨x1,ex1,hl1⟩:=bnd hl1
   obtain⟨x2,ex2,hl1⟩:=bnd hl1
   have hp:=hp.drew
   refine kC ([([],At0 Z ρ1),([7],At1 Z ρ1 (Pt b1 (.cells #[(.int .i64 cZ),yN] 24 (0,0))))]:Facts) (fun a w=>∃ρy1:PH,∃yv1:Value,ρ1.le ρy1∧bU ρy1 yv1 x2.clauses∧Env 20 [(1,vp1),(2,(.pointer (some ⟨b1,0,none⟩))),(4,(.pointer (some ⟨b2,0,none⟩))),(5,(.int .i64 bC))] a∧Hp Z ρy1 (Pt b2 (.cells #[(.int .i64 0),(.slice none 0 0)] 24 (0,0))::Pt b1 (.cells #[(.int .i64 x2.vars),yv1] 24 (0,0))::L) w) (by kernel_rfl) ⟨fun _=>⟨_,hp⟩,fun _=>⟨_,(hp.get 1 rfl)⟩,trivial⟩ (fun hS=>?_) ?_
   ·
    generalize w.drew=w at hS hp⊢
    refine T 0 1 hE hS rfl rfl rfl (by kernel_rfl) (fun _=>aZ rfl hE rfl (fun w hw=>gQ (cs:=[(.int .i64 cZ),yN]) gV (Hp.cN 0 rfl 0 _ (bY rfl) w hw))) fun a hE hS=>Ts [1,2] hE hS rfl rfl (by kernel_rfl) fun a hE hS=>?_
    obtain⟨b6,b6o,b6c,b6r,b6k,b6f⟩:=bU.at (bU.mono hp1 hlg1) aY ex1
    obtain rfl:b6c=Enc.enc x1:=b6k
    have b6f:AtP ρ1 b6 b6o [(.int .i64 x1)]:=b6f
    refine T0 3 hE hS rfl rfl rfl (by kernel_rfl) (fun _=>aV rfl hE rfl rfl b6r) fun a hE hS=>T0 4 hE hS rfl rfl rfl (by kernel_rfl) (fun _=>aZ rfl hE rfl (fun w hw=>bH bG (b6f.c 0 rfl w hw))) fun a hE hS=>?_
    refine W1 5 (by kernel_rfl) rfl ?_
    refine jM (wk0 rfl) rfl rfl hE hp rfl [(0,(.int .i64 x1))] ⟨⟨rfl,rfl⟩,trivial⟩ [(.int .i64 x1)] 3 (fun w=>by simp[Instr.buildSlice,Instr.fill,Value.cells,go_sem]) ?_
    intro a w b7 hE hp
    have hp:=r3 hp
    refine aC (aI ⟨gp0 hp,gp 2 hp rfl,trivial⟩ fun hS=>?_)
    refine W1 6 (by kernel_rfl) rfl ?_
    have hp:=(hp.get 0 rfl).imp (pV (l:=(([x1]:List Int):List Int)) (n:=1) rfl (by decide) rfl)
    have hp:=r3 hp
    obtain⟨k2,k2a,k2d,hp⟩:=(hp.get 0 rfl).lend
    have f2:bU (ρ1.un k2) (.slice (some ⟨b7,0,none⟩) 1 1) ([x1]:List Int):=aA.ro k2d k2a
    have hp:=r2 hp
    refine s_call (wk0 rfl) rfl rfl hE rfl [(.agg #[(.int .i64 cZ),yN]),(.slice (some ⟨b7,0,none⟩) 1 1)] ⟨rfl,rfl,trivial⟩ ent23 (O0 (Formula.mk cZ dG) yN (bU.mono hc1_1 (PH.le_un _ k2)) ([x1]:List Int) (.slice (some ⟨b7,0,none⟩) 1 1) f2 hp x2 ex2) Ret.ret ?_
    intro v a w hR hE
    obtain⟨ρ3,vr2_clauses,hle2,rfl,hr2_clauses,hp⟩:=Ret.of hR
    have hp:=r2 hp
    refine aC (aI ⟨fun _=>⟨_,((hp.less hle2).less (PH.le_un _ k2))⟩,fun _=>⟨_,(((hp.get 1 rfl).less hle2).less (PH.le_un _ k2))⟩,trivial⟩ fun hS=>?_)
    refine W1 7 (by kernel_rfl) rfl ?_
    refine dM (wk0 rfl) rfl hE hp rfl rfl rfl 1 rfl gV.size_ rfl (bW ⟨rfl,(bU.one hr2_clauses),trivial⟩) [(.int .i64 x2.vars),vr2_clauses] rfl ?_
    intro w hp
    have hp:=r2 hp
    refine aC (aI ⟨fun _=>⟨_,((hp.less hle2).less (PH.le_un _ k2))⟩,dead (by kernel_rfl),trivial⟩ fun hS=>?_)
    exact dZ (by kernel_rfl) ⟨ρ3,_,(PH.le.tr (PH.le_un _ k2) hle2),hr2_clauses,hE.cut ⟨rfl,rfl,rfl,rfl,trivial⟩,hp⟩
   rintro a w ⟨ρy1,yv1,hley1,yh1,hE,hp⟩
   refine aB (S hE 1 rfl fun a hE=>?_)
   obtain⟨x3,ex3,hl1⟩:=bnd hl1
   refine V hE hp rfl (dS rfl hE rfl rfl (bF ex3)) fun a hE=>S hE 1 rfl fun a hE=>aC ?_
   exact⟨_,(Option.some.inj hl1).symm,ρy1,_,(PH.le.tr hlg1 hley1),yh1,hE.cut ⟨rfl,rfl,rfl,rfl,trivial⟩,hp⟩
  replace hl1:=(ie hc2).symm.trans hl1
  refine eU ?_
  refine⟨_,(Option.some.inj hl1).symm,fun hbb=>?_⟩
  subst hbb
  exact⟨ρ1,_,hlg1,hc1_1,hE.cut ⟨rfl,rfl,trivial⟩,hp⟩
 rintro a w ⟨ρ1,yN,hlg1,hc1_1,hE,hp⟩
 refine aH (aB ?_)
 refine V hE hp rfl (aZ rfl hE rfl (fun w hw=>gQ (cs:=[(.int .i64 b3.1),yN]) gV (Hp.cN 1 rfl 0 _ (bY rfl) w hw))) fun a hE=>?_
 refine dM (wk0 rfl) rfl hE hp rfl rfl rfl 0 rfl gV.size_ rfl (bW ⟨rfl,(bU.one hc1_1),trivial⟩) [(.int .i64 b3.1),yN] rfl ?_
 intro w hp
 have hp:=r2 hp
 refine aC (dE ?_)
 obtain rfl:=Option.some.inj hm
 exact retc1 hE rfl rfl (rM (cs:=[(.int .i64 b3.1),yN]) gV (Hp.cN 0 rfl 0 _ (bY rfl) _ hp)) ⟨_,rfl,_,_,hlg1,rfl,hc1_1,(((hp.get 1 rfl).drop).drop)⟩
end Go.Proofs.Ytpkhmndpeipfmaa
