/- The code goes as its model: assessor/assessorref26.Variable, assessor/assessorref26.IsClause, assessor/assessorref26.Valid, assessor/assessorref26.Clauses, asse -/
import Derived.Test.YtpkhmndpeipfmaaKDeT
import Derived.Test.YtpkhmndpeipfmaaKDe5
import Derived.Test.YtpkhmndpeipfmaaKDe6
set_option linter.unusedVariables false
set_option linter.unusedSimpArgs false
namespace Go.Proofs.Ytpkhmndpeipfmaa
open Go.RowKit
set_option maxRecDepth 100000 in
set_option maxHeartbeats 4000000 in
theorem mQ {Z:World} {ρ:PH} {L:List bW} {w:World} (p0:Int) (hp:Hp Z ρ (L) w) (r:Int) (hm:fM p0=some r):
  Calls Try.prog 25 #[(.int .i64 p0)] w (Ret fun v w'=>v=(.int .i64 r)∧Hp Z ρ (L) w'):=by
 refine enter (N:=8) Try.func25 rfl rfl [(0,(.int .i64 p0))] rfl (bM ⟨rfl,trivial⟩) fun a hE=>?_
 unfold fM at hm
 refine aH (aB ?_)
 refine S hE 1 rfl fun a hE=>aC (aH ?_)
 refine aH (aB ?_)
 refine S hE 2 rfl fun a hE=>aC ?_
 refine dO hE rfl (fun hc1=>?_) (fun hc1=>?_)
 ·replace hm:=(it hc1).symm.trans hm
  refine aH (aB ?_)
  refine S hE 1 rfl fun a hE=>?_
  obtain⟨x1,ex1,hm⟩:=bnd hm
  refine V hE hp rfl (oD rfl hE rfl (bD ex1)) fun a hE=>S hE 1 rfl fun a hE=>aC (dE ?_)
  obtain rfl:=Option.some.inj hm
  exact iM hE rfl rfl ⟨_,rfl,rfl,hp⟩
 replace hm:=(ie hc1).symm.trans hm
 refine bQ (aH ?_)
 refine aB (S hE 2 rfl fun a hE=>?_)
 refine aC (dE ?_)
 obtain rfl:=Option.some.inj hm
 exact iM hE rfl rfl ⟨_,rfl,rfl,hp⟩
set_option maxRecDepth 100000 in
set_option maxHeartbeats 4000000 in
theorem sN {Z:World} {ρ:PH} {L:List bW} {w:World} (p0:(List Int)) (vp0:Value) (hp0:bT ρ vp0 p0) (p1:Int) (hp:Hp Z ρ (L) w) (r:Bool) (hm:iT p0 p1=some r):
  Calls Try.prog 32 #[vp0,(.int .i64 p1)] w (Ret fun v w'=>v=(.bool r)∧Hp Z ρ (L) w'):=by
 refine enter (N:=52) Try.func32 rfl rfl [(0,vp0),(1,(.int .i64 p1))] rfl (bM ⟨rfl,rfl,trivial⟩) fun a hE=>?_
 unfold iT at hm
 refine aH (aB ?_)
 refine S hE 1 rfl fun a hE=>aC (aH ?_)
 refine aH (aB ?_)
 refine S hE 1 rfl fun a hE=>aC ?_
 obtain⟨b1,hc1,hm⟩:=bnd hm
 refine dL (fun a w=>∃s:Unit,b1= .brk s∧(Env 52 [] a∧Hp Z ρ (L) w)) ?_ ?_
 ·refine fK hc1 (fun s a w=>Env 52 [(0,vp0),(1,(.int .i64 p1)),(5,(.int .i64 s))] a∧Hp Z ρ (L) w) ?_ ?_
  ·exact⟨hE.cut ⟨rfl,rfl,rfl,trivial⟩,hp⟩
  rintro aY st a w ⟨hE,hp⟩ hl1
  unfold iP at hl1
  refine aH (aH ?_)
  refine aB (S hE 2 rfl fun a hE=>?_)
  refine V hE hp rfl (dK rfl hE rfl (bT.len hp0 aZ)) fun a hE=>S hE 1 rfl fun a hE=>aC ?_
  refine dO hE rfl (fun hc2=>?_) (fun hc2=>?_)
  ·replace hl1:=(it hc2).symm.trans hl1
   refine bQ (aH ?_)
   refine dH (aH ?_)
   refine nO (by kernel_rfl) (by kernel_rfl) hp ?_
   refine Sq hE 2 rfl fun a hE=>?_
   obtain⟨x1,ex1,hl1⟩:=bnd hl1
   obtain⟨b2,b2o,b2c,b2r,b2k,b2f⟩:=bT.at hp0 aZ ex1
   obtain rfl:b2c=Enc.enc x1:=b2k
   have b2f:AtP ρ b2 b2o [(.int .i64 x1)]:=b2f
   refine Vq hE rfl (aV rfl hE rfl rfl b2r) fun a hE=>Vq hE rfl (bC rfl hE rfl (fun w hw=>bH bG (b2f.c 0 rfl w hw))) fun a hE=>Sq hE 2 rfl fun a hE=>?_
   obtain⟨m1,hg1,hl1⟩:=bnd hl1
   refine q_cut [_,_,_,_,_,_,_,_] (fun a=>Env 52 [(25,(.bool m1)),(0,vp0),(1,(.int .i64 p1)),(5,(.int .i64 aY))] a) ?_ ?_
   ·rcases Bool.eq_false_or_eq_true (decide (x1=0)) with hc3|hc3
    ·
     replace hg1:=(it hc3).symm.trans hg1
     refine Gkq hE hc3 rfl fun a hE=>Gkq hE hc3 rfl fun a hE=>Gkq hE hc3 rfl fun a hE=>Gkq hE hc3 rfl fun a hE=>Gkq hE hc3 rfl fun a hE=>Gkq hE hc3 rfl fun a hE=>Gkq hE hc3 rfl fun a hE=>Vq hE rfl (nT rfl hE rfl hc3 rfl) fun a hE=>?_
     obtain rfl:=Option.some.inj hg1
     exact pR (hE.cut ⟨rfl,rfl,rfl,rfl,trivial⟩)
    replace hg1:=(ie hc3).symm.trans hg1
    refine Gq hE hc3 rfl (nM rfl hE rfl) fun a hE=>Gq hE hc3 rfl (nM rfl hE rfl) fun a hE=>?_
    obtain⟨x2,ex2,hg1⟩:=bnd hg1
    obtain⟨b3,b3o,b3c,b3r,b3k,b3f⟩:=bT.at hp0 aZ ex2
    obtain rfl:b3c=Enc.enc x2:=b3k
    have b3f:AtP ρ b3 b3o [(.int .i64 x2)]:=b3f
    refine Gq hE hc3 rfl (aV rfl hE rfl rfl b3r) fun a hE=>Gq hE hc3 rfl (bC rfl hE rfl (fun w hw=>bH bG (b3f.c 0 rfl w hw))) fun a hE=>Gq hE hc3 rfl (nM rfl hE rfl) fun a hE=>?_
    obtain⟨x3,ex3,hg1⟩:=bnd hg1
    refine Gq hE hc3 rfl (oD rfl hE rfl (bD ex3)) fun a hE=>Gq hE hc3 rfl (ex_lss rfl hE rfl rfl) fun a hE=>Vq hE rfl (dD rfl hE rfl hc3 rfl) fun a hE=>?_
    obtain rfl:=Option.some.inj hg1
    exact pR (hE.cut ⟨rfl,rfl,rfl,rfl,trivial⟩)
   intro a hE
   refine Sq hE 1 rfl fun a hE=>?_
   obtain⟨m2,hg2,hl1⟩:=bnd hl1
   refine q_cut [_,_,_,_,_,_,_] (fun a=>Env 52 [(33,(.bool m2)),(0,vp0),(1,(.int .i64 p1)),(5,(.int .i64 aY))] a) ?_ ?_
   ·rcases Bool.eq_false_or_eq_true m1 with hc4|hc4
    ·
     replace hg2:=(it hc4).symm.trans hg2
     refine Gkq hE hc4 rfl fun a hE=>Gkq hE hc4 rfl fun a hE=>Gkq hE hc4 rfl fun a hE=>Gkq hE hc4 rfl fun a hE=>Gkq hE hc4 rfl fun a hE=>Gkq hE hc4 rfl fun a hE=>Vq hE rfl (nT rfl hE rfl hc4 rfl) fun a hE=>?_
     obtain rfl:=Option.some.inj hg2
     exact pR (hE.cut ⟨rfl,rfl,rfl,rfl,trivial⟩)
    replace hg2:=(ie hc4).symm.trans hg2
    refine Gq hE hc4 rfl (nM rfl hE rfl) fun a hE=>Gq hE hc4 rfl (nM rfl hE rfl) fun a hE=>?_
    obtain⟨x4,ex4,hg2⟩:=bnd hg2
    obtain⟨b4,b4o,b4c,b4r,b4k,b4f⟩:=bT.at hp0 aZ ex4
    obtain rfl:b4c=Enc.enc x4:=b4k
    have b4f:AtP ρ b4 b4o [(.int .i64 x4)]:=b4f
    refine Gq hE hc4 rfl (aV rfl hE rfl rfl b4r) fun a hE=>Gq hE hc4 rfl (bC rfl hE rfl (fun w hw=>bH bG (b4f.c 0 rfl w hw))) fun a hE=>Gq hE hc4 rfl (nM rfl hE rfl) fun a hE=>Gq hE hc4 rfl (ex_gtr rfl hE rfl rfl) fun a hE=>Vq hE rfl (dD rfl hE rfl hc4 rfl) fun a hE=>?_
    obtain rfl:=Option.some.inj hg2
    exact pR (hE.cut ⟨rfl,rfl,rfl,rfl,trivial⟩)
   intro a hE
   refine Sq hE 1 rfl fun a hE=>?_
   obtain⟨m3,hg3,hl1⟩:=bnd hl1
   refine q_cut [_,_,_,_,_,_,_,_,_,_,_,_,_,_,_,_,_] (fun a=>Env 52 [(51,(.bool m3)),(0,vp0),(1,(.int .i64 p1)),(5,(.int .i64 aY))] a) ?_ ?_
   ·rcases Bool.eq_false_or_eq_true m2 with hc5|hc5
    ·
     replace hg3:=(it hc5).symm.trans hg3
     refine Gkq hE hc5 rfl fun a hE=>Gkq hE hc5 rfl fun a hE=>Gkq hE hc5 rfl fun a hE=>?_
     refine q_skip (wk3 hE rfl rfl rfl) rfl rfl hE ?_
     intro a hE
     refine q_skip (wk3 hE rfl rfl rfl) rfl rfl hE ?_
     intro a hE
     refine q_skip (wk3 hE rfl rfl rfl) rfl rfl hE ?_
     intro a hE
     refine q_skip (wk3 hE rfl rfl rfl) rfl rfl hE ?_
     intro a hE
     refine q_skip (wk3 hE rfl rfl rfl) rfl rfl hE ?_
     intro a hE
     refine q_skip (wk3 hE rfl rfl rfl) rfl rfl hE ?_
     intro a hE
     refine q_skip (wk3 hE rfl rfl rfl) rfl rfl hE ?_
     intro a hE
     refine q_skip (wk3 hE rfl rfl rfl) rfl rfl hE ?_
     intro a hE
     refine q_skip (wk3 hE rfl rfl rfl) rfl rfl hE ?_
     intro a hE
     refine q_skip (wk3 hE rfl rfl rfl) rfl rfl hE ?_
     intro a hE
     refine q_skip (wk3 hE rfl rfl rfl) rfl rfl hE ?_
     intro a hE
     refine q_skip (wk3 hE rfl rfl rfl) rfl rfl hE ?_
     intro a hE
     refine Gkq hE hc5 rfl fun a hE=>Vq hE rfl (nT rfl hE rfl hc5 rfl) fun a hE=>?_
     obtain rfl:=Option.some.inj hg3
     exact pR (hE.cut ⟨rfl,rfl,rfl,rfl,trivial⟩)
    replace hg3:=(ie hc5).symm.trans hg3
    refine Gq hE hc5 rfl (nM rfl hE rfl) fun a hE=>Gq hE hc5 rfl (ex_gtr rfl hE rfl rfl) fun a hE=>Gq hE hc5 rfl (nM rfl hE rfl) fun a hE=>?_
    obtain⟨m4,hg4,hg3⟩:=bnd hg3
    refine q_cut [_,_,_,_,_,_,_,_,_,_,_,_,_] (fun a=>Env 52 [(50,(.bool m4)),(0,vp0),(1,(.int .i64 p1)),(5,(.int .i64 aY)),(34,(.bool m2)),(35,(.int .i64 aY)),(36,(.bool (decide (0<aY)))),(37,(.bool (decide (0<aY))))] a) ?_ ?_
    ·rcases Bool.eq_false_or_eq_true (decide (0<aY)) with hc6|hc6
     ·
      replace hg4:=(it hc6).symm.trans hg4
      refine Gq hE hc6 rfl (nM rfl hE rfl) fun a hE=>Gq hE hc6 rfl (nM rfl hE rfl) fun a hE=>?_
      obtain⟨x5,ex5,hg4⟩:=bnd hg4
      obtain⟨b5,b5o,b5c,b5r,b5k,b5f⟩:=bT.at hp0 aZ ex5
      obtain rfl:b5c=Enc.enc x5:=b5k
      have b5f:AtP ρ b5 b5o [(.int .i64 x5)]:=b5f
      refine Gq hE hc6 rfl (aV rfl hE rfl rfl b5r) fun a hE=>Gq hE hc6 rfl (bC rfl hE rfl (fun w hw=>bH bG (b5f.c 0 rfl w hw))) fun a hE=>?_
      obtain⟨x6,ex6,hg4⟩:=bnd hg4
      refine vJ (wk1 hE rfl rfl rfl hc6) rfl rfl hE rfl [(.int .i64 x5)] ⟨rfl,trivial⟩ ent25 (v:=(.int .i64 x6)) (fun w hw=>Calls.mono (mQ x5 hw x6 ex6) fun e w' ⟨v,he,hv,hh⟩=>⟨by rw[he,hv],hh⟩) ?_
      intro a hE
      refine Gq hE hc6 rfl (nM rfl hE rfl) fun a hE=>Gq hE hc6 rfl (nM rfl hE rfl) fun a hE=>?_
      obtain⟨x7,ex7,hg4⟩:=bnd hg4
      refine Gq hE hc6 rfl (sJ rfl hE rfl rfl (bD ex7)) fun a hE=>?_
      obtain⟨x8,ex8,hg4⟩:=bnd hg4
      obtain⟨b6,b6o,b6c,b6r,b6k,b6f⟩:=bT.at hp0 aZ ex8
      obtain rfl:b6c=Enc.enc x8:=b6k
      have b6f:AtP ρ b6 b6o [(.int .i64 x8)]:=b6f
      refine Gq hE hc6 rfl (aV rfl hE rfl rfl b6r) fun a hE=>Gq hE hc6 rfl (bC rfl hE rfl (fun w hw=>bH bG (b6f.c 0 rfl w hw))) fun a hE=>?_
      obtain⟨x9,ex9,hg4⟩:=bnd hg4
      refine vJ (wk1 hE rfl rfl rfl hc6) rfl rfl hE rfl [(.int .i64 x8)] ⟨rfl,trivial⟩ ent25 (v:=(.int .i64 x9)) (fun w hw=>Calls.mono (mQ x8 hw x9 ex9) fun e w' ⟨v,he,hv,hh⟩=>⟨by rw[he,hv],hh⟩) ?_
      intro a hE
      refine Gq hE hc6 rfl (ex_leq rfl hE rfl rfl) fun a hE=>Gq hE hc5 rfl (nT rfl hE rfl hc6 rfl) fun a hE=>?_
      obtain rfl:=Option.some.inj hg4
      exact pR (hE.cut ⟨rfl,rfl,rfl,rfl,rfl,rfl,rfl,rfl,trivial⟩)
     replace hg4:=(ie hc6).symm.trans hg4
     refine Gkq hE hc6 rfl fun a hE=>Gkq hE hc6 rfl fun a hE=>Gkq hE hc6 rfl fun a hE=>Gkq hE hc6 rfl fun a hE=>Gkq hE hc6 rfl fun a hE=>Gkq hE hc6 rfl fun a hE=>Gkq hE hc6 rfl fun a hE=>Gkq hE hc6 rfl fun a hE=>Gkq hE hc6 rfl fun a hE=>Gkq hE hc6 rfl fun a hE=>Gkq hE hc6 rfl fun a hE=>Gkq hE hc6 rfl fun a hE=>Gq hE hc5 rfl (dD rfl hE rfl hc6 rfl) fun a hE=>?_
     obtain rfl:=Option.some.inj hg4
     exact pR (hE.cut ⟨rfl,rfl,rfl,rfl,rfl,rfl,rfl,rfl,trivial⟩)
    intro a hE
    refine Vq hE rfl (dD rfl hE rfl hc5 rfl) fun a hE=>?_
    obtain rfl:=Option.some.inj hg3
    exact pR (hE.cut ⟨rfl,rfl,rfl,rfl,trivial⟩)
   intro a hE
   refine pR fun w hp=>?_
   have hp:=r0 hp
   refine dO hE rfl (fun hc7=>?_) (fun hc7=>?_)
   ·replace hl1:=(it hc7).symm.trans hl1
    refine aH (aB ?_)
    refine S hE 1 rfl fun a hE=>aC (dE ?_)
    refine⟨_,(Option.some.inj hl1).symm,fun hb=>?_⟩
    subst hb
    obtain rfl:=Option.some.inj hm
    exact iM hE rfl rfl ⟨_,rfl,rfl,hp⟩
   replace hl1:=(ie hc7).symm.trans hl1
   refine bQ (aB ?_)
   refine S hE 1 rfl fun a hE=>?_
   obtain⟨x10,ex10,hl1⟩:=bnd hl1
   refine V hE hp rfl (dJ rfl hE rfl rfl (bD ex10)) fun a hE=>S hE 1 rfl fun a hE=>aC ?_
   exact⟨_,(Option.some.inj hl1).symm,hE.cut ⟨rfl,rfl,rfl,trivial⟩,hp⟩
  replace hl1:=(ie hc2).symm.trans hl1
  refine eP ?_
  refine⟨_,(Option.some.inj hl1).symm,fun hbb=>?_⟩
  exact⟨_,hbb.symm,hE.cut trivial,hp⟩
 rintro a w ⟨b1s,rfl,hE,hp⟩
 dsimp only at hm
 refine aH (aB ?_)
 refine S hE 1 rfl fun a hE=>aC (dE ?_)
 obtain rfl:=Option.some.inj hm
 exact iM hE rfl rfl ⟨_,rfl,rfl,hp⟩
set_option maxRecDepth 100000 in
set_option maxHeartbeats 4000000 in
theorem uS {Z:World} {ρ:PH} {L:List bW} {w:World} (p0:Formula) (aG:Value) (bI:bT ρ aG p0.clauses) (hp:Hp Z ρ (L) w) (r:Bool) (hm:kG p0=some r):
  Calls Try.prog 31 #[(.agg #[(.int .i64 p0.vars),aG])] w (Ret fun v w'=>v=(.bool r)∧Hp Z ρ (L) w'):=by
 refine enter (N:=34) Try.func31 rfl rfl [(0,(.agg #[(.int .i64 p0.vars),aG]))] rfl (bM ⟨rfl,trivial⟩) fun a hE=>?_
 unfold kG at hm
 refine aH (aB ?_)
 refine rC (wk0 rfl) rfl rfl hE hp rfl (v:=(.agg #[(.int .i64 p0.vars),aG])) rfl ?_
 intro a w b1 hE hp
 have hp:=r1 hp
 refine S hE 1 rfl fun a hE=>aC (aH ?_)
 refine aH (aB ?_)
 refine V hE hp rfl (xf hE kV rfl rfl) fun a hE=>V hE hp rfl (xl hE bG 0 rfl rfl rfl rfl) fun a hE=>S hE 2 rfl fun a hE=>?_
 refine kT [_,_,_,_] (fun a w=>Env 34 [(11,(.bool ((decide (p0.vars<0))||(decide (65536<p0.vars))))),(1,(.pointer (some ⟨b1,0,none⟩)))] a∧Hp Z ρ (Pt b1 (.cells #[(.int .i64 p0.vars),aG] 24 (0,0))::L) w) ?_ ?_
 ·rcases Bool.eq_false_or_eq_true (decide (p0.vars<0)) with hc1|hc1
  ·
   refine Gk hE hc1 rfl fun a hE=>Gk hE hc1 rfl fun a hE=>Gk hE hc1 rfl fun a hE=>pk1 hE hc1 rfl rfl rfl rfl fun a hE=>?_
   have hE:=hE.eqv (v':=(.bool ((decide (p0.vars<0))||(decide (65536<p0.vars))))) (by rw[hc1];rfl)
   exact aC ⟨hE.cut ⟨rfl,rfl,trivial⟩,hp⟩
  refine G hE hp hc1 rfl (xf hE kV rfl rfl) fun a hE=>G hE hp hc1 rfl (xl hE bG 0 rfl rfl rfl rfl) fun a hE=>Gs hE hc1 rfl rfl fun a hE=>pk0 hE hc1 rfl rfl rfl rfl fun a hE=>?_
  have hE:=hE.eqv (v':=(.bool ((decide (p0.vars<0))||(decide (65536<p0.vars))))) (by rw[hc1];rfl)
  exact aC ⟨hE.cut ⟨rfl,rfl,trivial⟩,hp⟩
 rintro a w ⟨hE,hp⟩
 refine S hE 1 rfl fun a hE=>?_
 refine kT [_,_,_,_,_] (fun a w=>Env 34 [(17,(.bool (((decide (p0.vars<0))||(decide (65536<p0.vars)))||(decide (262144<(p0.clauses.length:Int)))))),(1,(.pointer (some ⟨b1,0,none⟩)))] a∧Hp Z ρ (Pt b1 (.cells #[(.int .i64 p0.vars),aG] 24 (0,0))::L) w) ?_ ?_
 ·rcases Bool.eq_false_or_eq_true ((decide (p0.vars<0))||(decide (65536<p0.vars))) with hc2|hc2
  ·
   refine Gk hE hc2 rfl fun a hE=>Gk hE hc2 rfl fun a hE=>Gk hE hc2 rfl fun a hE=>Gk hE hc2 rfl fun a hE=>pk1 hE hc2 rfl rfl rfl rfl fun a hE=>?_
   have hE:=hE.eqv (v':=(.bool (((decide (p0.vars<0))||(decide (65536<p0.vars)))||(decide (262144<(p0.clauses.length:Int)))))) (by rw[hc2];rfl)
   exact aC ⟨hE.cut ⟨rfl,rfl,trivial⟩,hp⟩
  refine G hE hp hc2 rfl (xf hE lI rfl rfl) fun a hE=>G hE hp hc2 rfl (xl hE mX 0 rfl rfl rfl rfl) fun a hE=>G hE hp hc2 rfl (dK rfl hE rfl (bT.len bI nJ)) fun a hE=>Gs hE hc2 rfl rfl fun a hE=>pk0 hE hc2 rfl rfl rfl rfl fun a hE=>?_
  have hE:=hE.eqv (v':=(.bool (((decide (p0.vars<0))||(decide (65536<p0.vars)))||(decide (262144<(p0.clauses.length:Int)))))) (by rw[hc2];rfl)
  exact aC ⟨hE.cut ⟨rfl,rfl,trivial⟩,hp⟩
 rintro a w ⟨hE,hp⟩
 refine aC ?_
 refine dO hE rfl (fun hc3=>?_) (fun hc3=>?_)
 ·replace hm:=(it hc3).symm.trans hm
  refine aH (aB ?_)
  refine S hE 1 rfl fun a hE=>aC (dE ?_)
  obtain rfl:=Option.some.inj hm
  exact iM hE rfl rfl ⟨_,rfl,rfl,(hp.drop)⟩
 replace hm:=(ie hc3).symm.trans hm
 refine bQ (aH ?_)
 refine aH (aB ?_)
 refine S hE 1 rfl fun a hE=>aC ?_
 obtain⟨b2,hc4,hm⟩:=bnd hm
 refine dL (fun a w=>∃s:Unit,b2= .brk s∧(Env 34 [] a∧Hp Z ρ (Pt b1 (.cells #[(.int .i64 p0.vars),aG] 24 (0,0))::L) w)) ?_ ?_
 ·refine fK hc4 (fun s a w=>Env 34 [(1,(.pointer (some ⟨b1,0,none⟩))),(3,(.int .i64 s))] a∧Hp Z ρ (Pt b1 (.cells #[(.int .i64 p0.vars),aG] 24 (0,0))::L) w) ?_ ?_
  ·exact⟨hE.cut ⟨rfl,rfl,trivial⟩,hp⟩
  rintro aY st a w ⟨hE,hp⟩ hl1
  unfold lV at hl1
  refine aH (aH ?_)
  refine aB (S hE 1 rfl fun a hE=>?_)
  refine V hE hp rfl (xf hE lI rfl rfl) fun a hE=>V hE hp rfl (xl hE mX 0 rfl rfl rfl rfl) fun a hE=>V hE hp rfl (dK rfl hE rfl (bT.len bI nJ)) fun a hE=>S hE 1 rfl fun a hE=>aC ?_
  have hE:=hE.cut (E':=[(1,(.pointer (some ⟨b1,0,none⟩))),(3,(.int .i64 aY)),(22,(.bool (decide (aY<(p0.clauses.length:Int)))))]) ⟨rfl,rfl,rfl,trivial⟩
  refine dO hE rfl (fun hc5=>?_) (fun hc5=>?_)
  ·replace hl1:=(it hc5).symm.trans hl1
   refine bQ (aH ?_)
   refine dH (aH ?_)
   refine nO (by kernel_rfl) (by kernel_rfl) hp ?_
   refine Vq hE rfl (xf hE lI rfl rfl) fun a hE=>Vq hE rfl (xl hE mX 0 rfl rfl rfl rfl) fun a hE=>Sq hE 1 rfl fun a hE=>?_
   obtain⟨x1,ex1,hl1⟩:=bnd hl1
   obtain⟨b3,b3o,b3c,b3r,b3k,b3f⟩:=bT.at bI nJ ex1
   obtain⟨vb3,rfl,hb3⟩:=b3k
   have b3f:AtP ρ b3 b3o [vb3]:=b3f
   refine Vq hE rfl (aV rfl hE rfl rfl b3r) fun a hE=>Vq hE rfl (bC rfl hE rfl (fun w hw=>bH bP (b3f.c 0 rfl w hw))) fun a hE=>Vq hE rfl (xf hE kV rfl rfl) fun a hE=>Vq hE rfl (xl hE bG 0 rfl rfl rfl rfl) fun a hE=>?_
   obtain⟨x2,ex2,hl1⟩:=bnd hl1
   refine vJ (wk0 rfl) rfl rfl hE rfl [vb3,(.int .i64 p0.vars)] ⟨rfl,rfl,trivial⟩ ent32 (v:=(.bool x2)) (fun w hw=>Calls.mono (sN x1 vb3 hb3 p0.vars hw x2 ex2) fun e w' ⟨v,he,hv,hh⟩=>⟨by rw[he,hv],hh⟩) ?_
   intro a hE
   refine Sq hE 1 rfl fun a hE=>?_
   refine pR fun w hp=>?_
   have hp:=r1 hp
   refine dO hE rfl (fun hc6=>?_) (fun hc6=>?_)
   ·replace hl1:=(it hc6).symm.trans hl1
    refine aH (aB ?_)
    refine S hE 1 rfl fun a hE=>aC (dE ?_)
    refine⟨_,(Option.some.inj hl1).symm,fun hb=>?_⟩
    subst hb
    obtain rfl:=Option.some.inj hm
    exact iM hE rfl rfl ⟨_,rfl,rfl,(hp.drop)⟩
   replace hl1:=(ie hc6).symm.trans hl1
   refine bQ (aB ?_)
   refine S hE 1 rfl fun a hE=>?_
   obtain⟨x3,ex3,hl1⟩:=bnd hl1
   refine V hE hp rfl (dJ rfl hE rfl rfl (bD ex3)) fun a hE=>S hE 1 rfl fun a hE=>aC ?_
   exact⟨_,(Option.some.inj hl1).symm,hE.cut ⟨rfl,rfl,trivial⟩,hp⟩
  replace hl1:=(ie hc5).symm.trans hl1
  refine eP ?_
  refine⟨_,(Option.some.inj hl1).symm,fun hbb=>?_⟩
  exact⟨_,hbb.symm,hE.cut trivial,hp⟩
 rintro a w ⟨b2s,rfl,hE,hp⟩
 dsimp only at hm
 refine aH (aB ?_)
 refine S hE 1 rfl fun a hE=>aC (dE ?_)
 obtain rfl:=Option.some.inj hm
 exact iM hE rfl rfl ⟨_,rfl,rfl,(hp.drop)⟩
set_option maxRecDepth 100000 in
set_option maxHeartbeats 4000000 in
theorem J9 {Z:World} {ρ:PH} {L:List bW} {w:World} (p0:Formula) (aG:Value) (bI:bT ρ aG p0.clauses) (p1:Int) (p2:Int) (hp:Hp Z ρ (L) w) (r:Bool) (hm:lZ p0 p1 p2=some r):
  Calls Try.prog 11 #[(.agg #[(.int .i64 p0.vars),aG]),(.int .i64 p1),(.int .i64 p2)] w (Ret fun v w'=>v=(.bool r)∧Hp Z ρ (L) w'):=by
 refine enter (N:=33) Try.func11 rfl rfl [(0,(.agg #[(.int .i64 p0.vars),aG])),(1,(.int .i64 p1)),(2,(.int .i64 p2))] rfl (bM ⟨rfl,rfl,rfl,trivial⟩) fun a hE=>?_
 unfold lZ at hm
 refine aH (aB ?_)
 refine rC (wk0 rfl) rfl rfl hE hp rfl (v:=(.agg #[(.int .i64 p0.vars),aG])) rfl ?_
 intro a w b1 hE hp
 have hp:=r1 hp
 refine S hE 1 rfl fun a hE=>aC (aH ?_)
 refine aH (aB ?_)
 refine S hE 1 rfl fun a hE=>aC ?_
 obtain⟨b2,hc1,hm⟩:=bnd hm
 refine dL (fun a w=>∃s:Unit,b2= .brk s∧(Env 33 [(1,(.int .i64 p1)),(2,(.int .i64 p2)),(3,(.pointer (some ⟨b1,0,none⟩)))] a∧Hp Z ρ (Pt b1 (.cells #[(.int .i64 p0.vars),aG] 24 (0,0))::L) w)) ?_ ?_
 ·refine fK hc1 (fun s a w=>Env 33 [(1,(.int .i64 p1)),(2,(.int .i64 p2)),(3,(.pointer (some ⟨b1,0,none⟩))),(7,(.int .i64 s))] a∧Hp Z ρ (Pt b1 (.cells #[(.int .i64 p0.vars),aG] 24 (0,0))::L) w) ?_ ?_
  ·exact⟨hE.cut ⟨rfl,rfl,rfl,rfl,trivial⟩,hp⟩
  rintro aY st a w ⟨hE,hp⟩ hl1
  unfold lU at hl1
  refine aH (aH ?_)
  refine aB (S hE 1 rfl fun a hE=>?_)
  refine V hE hp rfl (xf hE lI rfl rfl) fun a hE=>V hE hp rfl (xl hE mX 0 rfl rfl rfl rfl) fun a hE=>V hE hp rfl (dK rfl hE rfl (bT.len bI nJ)) fun a hE=>S hE 1 rfl fun a hE=>aC ?_
  refine dO hE rfl (fun hc2=>?_) (fun hc2=>?_)
  ·replace hl1:=(it hc2).symm.trans hl1
   refine bQ (aH ?_)
   refine dH (aH ?_)
   refine aB (V hE hp rfl (xf hE lI rfl rfl) fun a hE=>?_)
   refine V hE hp rfl (xl hE mX 0 rfl rfl rfl rfl) fun a hE=>S hE 1 rfl fun a hE=>?_
   obtain⟨x1,ex1,hl1⟩:=bnd hl1
   obtain⟨b3,b3o,b3c,b3r,b3k,b3f⟩:=bT.at bI nJ ex1
   obtain⟨vb3,rfl,hb3⟩:=b3k
   have b3f:AtP ρ b3 b3o [vb3]:=b3f
   refine V hE hp rfl (aV rfl hE rfl rfl b3r) fun a hE=>V hE hp rfl (bC rfl hE rfl (fun w hw=>bH bP (b3f.c 0 rfl w hw))) fun a hE=>V hE hp rfl (dK rfl hE rfl (bT.len hb3 aZ)) fun a hE=>S hE 1 rfl fun a hE=>aC ?_
   have hE:=hE.cut (E':=[(1,(.int .i64 p1)),(2,(.int .i64 p2)),(3,(.pointer (some ⟨b1,0,none⟩))),(7,(.int .i64 aY)),(21,(.bool (decide (30<(x1.length:Int)))))]) ⟨rfl,rfl,rfl,rfl,rfl,trivial⟩
   refine dO hE rfl (fun hc3=>?_) (fun hc3=>?_)
   ·replace hl1:=(it hc3).symm.trans hl1
    refine aH (aB ?_)
    refine S hE 1 rfl fun a hE=>aC (dE ?_)
    refine⟨_,(Option.some.inj hl1).symm,fun hb=>?_⟩
    subst hb
    obtain rfl:=Option.some.inj hm
    exact iM hE rfl rfl ⟨_,rfl,rfl,(hp.drop)⟩
   replace hl1:=(ie hc3).symm.trans hl1
   refine bQ (aB ?_)
   refine S hE 1 rfl fun a hE=>?_
   obtain⟨x2,ex2,hl1⟩:=bnd hl1
   refine V hE hp rfl (dJ rfl hE rfl rfl (bD ex2)) fun a hE=>S hE 1 rfl fun a hE=>aC ?_
   exact⟨_,(Option.some.inj hl1).symm,hE.cut ⟨rfl,rfl,rfl,rfl,trivial⟩,hp⟩
  replace hl1:=(ie hc2).symm.trans hl1
  refine eP ?_
  refine⟨_,(Option.some.inj hl1).symm,fun hbb=>?_⟩
  exact⟨_,hbb.symm,hE.cut ⟨rfl,rfl,rfl,trivial⟩,hp⟩
 rintro a w ⟨b2s,rfl,hE,hp⟩
 dsimp only at hm
 refine aH (aB ?_)
 refine V hE hp rfl (xf hE kV rfl rfl) fun a hE=>V hE hp rfl (xl hE bG 0 rfl rfl rfl rfl) fun a hE=>S hE 3 rfl fun a hE=>?_
 refine kT [_,_,_,_,_,_] (fun a w=>Env 33 [(32,(.bool ((decide (p0.vars≤p1))&&(decide ((p0.clauses.length:Int)≤p2)))))] a∧Hp Z ρ (Pt b1 (.cells #[(.int .i64 p0.vars),aG] 24 (0,0))::L) w) ?_ ?_
 ·rcases Bool.eq_false_or_eq_true (decide (p0.vars≤p1)) with hc4|hc4
  ·
   refine G hE hp hc4 rfl (xf hE lI rfl rfl) fun a hE=>G hE hp hc4 rfl (xl hE mX 0 rfl rfl rfl rfl) fun a hE=>G hE hp hc4 rfl (dK rfl hE rfl (bT.len bI nJ)) fun a hE=>Gs hE hc4 rfl rfl fun a hE=>Gs hE hc4 rfl rfl fun a hE=>pk1 hE hc4 rfl rfl rfl rfl fun a hE=>?_
   have hE:=hE.eqv (v':=(.bool ((decide (p0.vars≤p1))&&(decide ((p0.clauses.length:Int)≤p2))))) (by rw[hc4];rfl)
   exact aC ⟨hE.cut ⟨rfl,trivial⟩,hp⟩
  refine Gk hE hc4 rfl fun a hE=>Gk hE hc4 rfl fun a hE=>Gk hE hc4 rfl fun a hE=>Gk hE hc4 rfl fun a hE=>Gk hE hc4 rfl fun a hE=>pk0 hE hc4 rfl rfl rfl rfl fun a hE=>?_
  have hE:=hE.eqv (v':=(.bool ((decide (p0.vars≤p1))&&(decide ((p0.clauses.length:Int)≤p2))))) (by rw[hc4];rfl)
  exact aC ⟨hE.cut ⟨rfl,trivial⟩,hp⟩
 rintro a w ⟨hE,hp⟩
 refine S hE 1 rfl fun a hE=>aC (dE ?_)
 obtain rfl:=Option.some.inj hm
 exact iM hE rfl rfl ⟨_,rfl,rfl,(hp.drop)⟩
set_option maxRecDepth 100000 in
set_option maxHeartbeats 4000000 in
theorem zD {Z:World} {ρ:PH} {L:List bW} {w:World} (p0:Int) (p1:(List Int)) (vp1:Value) (hp1:bT ρ vp1 p1) (hp:Hp Z ρ (L) w) (r:Bool) (hm:kW p0 p1=some r):
  Calls Try.prog 57 #[(.int .i64 p0),vp1] w (Ret fun v w'=>v=(.bool r)∧Hp Z ρ (L) w'):=by
 refine enter (N:=33) Try.func57 rfl rfl [(0,(.int .i64 p0)),(1,vp1)] rfl (bM ⟨rfl,rfl,trivial⟩) fun a hE=>?_
 unfold kW at hm
 refine aH (aB ?_)
 refine S hE 1 rfl fun a hE=>aC (aH ?_)
 refine aH (aB ?_)
 refine S hE 1 rfl fun a hE=>V hE hp rfl (dK rfl hE rfl (bT.len hp1 aZ)) fun a hE=>S hE 2 rfl fun a hE=>aC ?_
 refine dO hE rfl (fun hc1=>?_) (fun hc1=>?_)
 ·replace hm:=(it hc1).symm.trans hm
  refine aH (aB ?_)
  refine S hE 1 rfl fun a hE=>aC (dE ?_)
  obtain rfl:=Option.some.inj hm
  exact iM hE rfl rfl ⟨_,rfl,rfl,hp⟩
 replace hm:=(ie hc1).symm.trans hm
 refine bQ (aH ?_)
 refine aH (aB ?_)
 refine S hE 1 rfl fun a hE=>aC ?_
 obtain⟨b1,hc2,hm⟩:=bnd hm
 refine dL (fun a w=>∃s:Unit,b1= .brk s∧(Env 33 [] a∧Hp Z ρ (L) w)) ?_ ?_
 ·refine fK hc2 (fun s a w=>Env 33 [(1,vp1),(5,(.int .i64 s))] a∧Hp Z ρ (L) w) ?_ ?_
  ·exact⟨hE.cut ⟨rfl,rfl,trivial⟩,hp⟩
  rintro aY st a w ⟨hE,hp⟩ hl1
  unfold iZ at hl1
  refine aH (aH ?_)
  refine aB (S hE 2 rfl fun a hE=>?_)
  refine V hE hp rfl (dK rfl hE rfl (bT.len hp1 aZ)) fun a hE=>S hE 1 rfl fun a hE=>aC ?_
  refine dO hE rfl (fun hc3=>?_) (fun hc3=>?_)
  ·replace hl1:=(it hc3).symm.trans hl1
   refine bQ (aH ?_)
   refine dH (aH ?_)
   refine aB (S hE 2 rfl fun a hE=>?_)
   obtain⟨x1,ex1,hl1⟩:=bnd hl1
   obtain⟨b2,b2o,b2c,b2r,b2k,b2f⟩:=bT.at hp1 aZ ex1
   obtain rfl:b2c=Enc.enc x1:=b2k
   have b2f:AtP ρ b2 b2o [(.int .i64 x1)]:=b2f
   refine V hE hp rfl (aV rfl hE rfl rfl b2r) fun a hE=>V hE hp rfl (bC rfl hE rfl (fun w hw=>bH bG (b2f.c 0 rfl w hw))) fun a hE=>S hE 1 rfl fun a hE=>?_
   obtain⟨x2,ex2,hl1⟩:=bnd hl1
   refine V hE hp rfl (dJ rfl hE rfl rfl (bD ex2)) fun a hE=>S hE 2 rfl fun a hE=>?_
   obtain⟨m1,hg1,hl1⟩:=bnd hl1
   refine kT [_,_,_,_,_,_,_,_,_] (fun a w=>Env 33 [(32,(.bool m1)),(1,vp1),(5,(.int .i64 aY))] a∧Hp Z ρ (L) w) ?_ ?_
   ·rcases Bool.eq_false_or_eq_true (!decide (x1=x2)) with hc4|hc4
    ·
     replace hg1:=(it hc4).symm.trans hg1
     refine Gs hE hc4 rfl rfl fun a hE=>Gs hE hc4 rfl rfl fun a hE=>?_
     obtain⟨x3,ex3,hg1⟩:=bnd hg1
     obtain⟨b3,b3o,b3c,b3r,b3k,b3f⟩:=bT.at hp1 aZ ex3
     obtain rfl:b3c=Enc.enc x3:=b3k
     have b3f:AtP ρ b3 b3o [(.int .i64 x3)]:=b3f
     refine G hE hp hc4 rfl (aV rfl hE rfl rfl b3r) fun a hE=>G hE hp hc4 rfl (bC rfl hE rfl (fun w hw=>bH bG (b3f.c 0 rfl w hw))) fun a hE=>Gs hE hc4 rfl rfl fun a hE=>?_
     obtain⟨x4,ex4,hg1⟩:=bnd hg1
     refine G hE hp hc4 rfl (dJ rfl hE rfl rfl (bD ex4)) fun a hE=>?_
     obtain⟨x5,ex5,hg1⟩:=bnd hg1
     refine G hE hp hc4 rfl (oD rfl hE rfl (bD ex5)) fun a hE=>Gs hE hc4 rfl rfl fun a hE=>pk1 hE hc4 rfl rfl rfl rfl fun a hE=>?_
     obtain rfl:=Option.some.inj hg1
     exact aC ⟨hE.cut ⟨rfl,rfl,rfl,trivial⟩,hp⟩
    replace hg1:=(ie hc4).symm.trans hg1
    refine Gk hE hc4 rfl fun a hE=>Gk hE hc4 rfl fun a hE=>Gk hE hc4 rfl fun a hE=>Gk hE hc4 rfl fun a hE=>Gk hE hc4 rfl fun a hE=>Gk hE hc4 rfl fun a hE=>Gk hE hc4 rfl fun a hE=>Gk hE hc4 rfl fun a hE=>pk0 hE hc4 rfl rfl rfl rfl fun a hE=>?_
    obtain rfl:=Option.some.inj hg1
    exact aC ⟨hE.cut ⟨rfl,rfl,rfl,trivial⟩,hp⟩
   rintro a w ⟨hE,hp⟩
   refine aC ?_
   refine dO hE rfl (fun hc5=>?_) (fun hc5=>?_)
   ·replace hl1:=(it hc5).symm.trans hl1
    refine aH (aB ?_)
    refine S hE 1 rfl fun a hE=>aC (dE ?_)
    refine⟨_,(Option.some.inj hl1).symm,fun hb=>?_⟩
    subst hb
    obtain rfl:=Option.some.inj hm
    exact iM hE rfl rfl ⟨_,rfl,rfl,hp⟩
   replace hl1:=(ie hc5).symm.trans hl1
   refine bQ (aB ?_)
   refine S hE 1 rfl fun a hE=>?_
   obtain⟨x6,ex6,hl1⟩:=bnd hl1
   refine V hE hp rfl (dJ rfl hE rfl rfl (bD ex6)) fun a hE=>S hE 1 rfl fun a hE=>aC ?_
   exact⟨_,(Option.some.inj hl1).symm,hE.cut ⟨rfl,rfl,trivial⟩,hp⟩
  replace hl1:=(ie hc3).symm.trans hl1
  refine eP ?_
  refine⟨_,(Option.some.inj hl1).symm,fun hbb=>?_⟩
  exact⟨_,hbb.symm,hE.cut trivial,hp⟩
 rintro a w ⟨b1s,rfl,hE,hp⟩
 dsimp only at hm
 refine aH (aB ?_)
 refine S hE 1 rfl fun a hE=>aC (dE ?_)
 obtain rfl:=Option.some.inj hm
 exact iM hE rfl rfl ⟨_,rfl,rfl,hp⟩
set_option maxRecDepth 100000 in
set_option maxHeartbeats 4000000 in
theorem J8 {Z:World} {ρ:PH} {L:List bW} {w:World} (p0:Formula) (aG:Value) (bI:bT ρ aG p0.clauses) (p1:(List Int)) (vp1:Value) (hp1:bT ρ vp1 p1) (hp:Hp Z ρ (L) w) (r:Bool) (hm:lY p0 p1=some r):
  Calls Try.prog 34 #[(.agg #[(.int .i64 p0.vars),aG]),vp1] w (Ret fun v w'=>v=(.bool r)∧Hp Z ρ (L) w'):=by
 refine enter (N:=57) Try.func34 rfl rfl [(0,(.agg #[(.int .i64 p0.vars),aG])),(1,vp1)] rfl (bM ⟨rfl,rfl,trivial⟩) fun a hE=>?_
 unfold lY at hm
 refine aH (aB ?_)
 refine rC (wk0 rfl) rfl rfl hE hp rfl (v:=(.agg #[(.int .i64 p0.vars),aG])) rfl ?_
 intro a w b1 hE hp
 have hp:=r1 hp
 refine S hE 1 rfl fun a hE=>aC (aH ?_)
 refine aH (aB ?_)
 refine V hE hp rfl (bC rfl hE rfl (fun w hw=>iK (cs:=[(.int .i64 p0.vars),aG]) iQ (Hp.cN 0 rfl 0 _ (bZ rfl) w hw))) fun a hE=>?_
 obtain⟨x1,ex1,hm⟩:=bnd hm
 refine s_call (wk0 rfl) rfl rfl hE rfl [(.agg #[(.int .i64 p0.vars),aG])] ⟨rfl,trivial⟩ ent31 (uS p0 aG bI hp x1 ex1) Ret.ret ?_
 intro v a w hR hE
 obtain⟨rfl,hp⟩:=Ret.of hR
 have hp:=r1 hp
 refine S hE 2 rfl fun a hE=>?_
 obtain⟨m1,hg1,hm⟩:=bnd hm
 refine kT [_,_,_,_,_,_] (fun a w=>Env 57 [(18,(.bool m1)),(1,vp1),(2,(.pointer (some ⟨b1,0,none⟩)))] a∧Hp Z ρ (Pt b1 (.cells #[(.int .i64 p0.vars),aG] 24 (0,0))::L) w) ?_ ?_
 ·rcases Bool.eq_false_or_eq_true (!x1) with hc1|hc1
  ·
   replace hg1:=(it hc1).symm.trans hg1
   refine Gk hE hc1 rfl fun a hE=>Gk hE hc1 rfl fun a hE=>Gk hE hc1 rfl fun a hE=>Gk hE hc1 rfl fun a hE=>Gk hE hc1 rfl fun a hE=>pk1 hE hc1 rfl rfl rfl rfl fun a hE=>?_
   obtain rfl:=Option.some.inj hg1
   exact aC ⟨hE.cut ⟨rfl,rfl,rfl,trivial⟩,hp⟩
  replace hg1:=(ie hc1).symm.trans hg1
  refine G hE hp hc1 rfl (xf hE kV rfl rfl) fun a hE=>G hE hp hc1 rfl (xl hE bG 0 rfl rfl rfl rfl) fun a hE=>Gs hE hc1 rfl rfl fun a hE=>?_
  obtain⟨x2,ex2,hg1⟩:=bnd hg1
  refine s_call (wk1 hE rfl rfl rfl hc1) rfl rfl hE rfl [(.int .i64 p0.vars),vp1] ⟨rfl,rfl,trivial⟩ ent57 (zD p0.vars p1 vp1 hp1 hp x2 ex2) Ret.ret ?_
  intro v a w hR hE
  obtain⟨rfl,hp⟩:=Ret.of hR
  have hp:=r1 hp
  refine Gs hE hc1 rfl rfl fun a hE=>pk0 hE hc1 rfl rfl rfl rfl fun a hE=>?_
  obtain rfl:=Option.some.inj hg1
  exact aC ⟨hE.cut ⟨rfl,rfl,rfl,trivial⟩,hp⟩
 rintro a w ⟨hE,hp⟩
 refine aC ?_
 refine dO hE rfl (fun hc2=>?_) (fun hc2=>?_)
 ·replace hm:=(it hc2).symm.trans hm
  refine aH (aB ?_)
  refine S hE 1 rfl fun a hE=>aC (dE ?_)
  obtain rfl:=Option.some.inj hm
  exact iM hE rfl rfl ⟨_,rfl,rfl,(hp.drop)⟩
 replace hm:=(ie hc2).symm.trans hm
 refine bQ (aH ?_)
 refine aH (aB ?_)
 refine S hE 1 rfl fun a hE=>aC ?_
 obtain⟨b2,hc3,hm⟩:=bnd hm
 refine dL (fun a w=>∃s:Unit,b2= .brk s∧(Env 57 [] a∧Hp Z ρ (Pt b1 (.cells #[(.int .i64 p0.vars),aG] 24 (0,0))::L) w)) ?_ ?_
 ·refine fK hc3 (fun s a w=>Env 57 [(1,vp1),(2,(.pointer (some ⟨b1,0,none⟩))),(5,(.int .i64 s))] a∧Hp Z ρ (Pt b1 (.cells #[(.int .i64 p0.vars),aG] 24 (0,0))::L) w) ?_ ?_
  ·exact⟨hE.cut ⟨rfl,rfl,rfl,trivial⟩,hp⟩
  rintro aY st a w ⟨hE,hp⟩ hl1
  unfold lT at hl1
  refine aH (aH ?_)
  refine aB (S hE 1 rfl fun a hE=>?_)
  refine V hE hp rfl (xf hE lI rfl rfl) fun a hE=>V hE hp rfl (xl hE mX 0 rfl rfl rfl rfl) fun a hE=>V hE hp rfl (dK rfl hE rfl (bT.len bI nJ)) fun a hE=>S hE 1 rfl fun a hE=>aC ?_
  refine dO hE rfl (fun hc4=>?_) (fun hc4=>?_)
  ·replace hl1:=(it hc4).symm.trans hl1
   refine bQ (aH ?_)
   refine dH (aH ?_)
   refine aB (S hE 1 rfl fun a hE=>?_)
   refine aC (aH ?_)
   refine aH (aB ?_)
   refine S hE 1 rfl fun a hE=>aC ?_
   obtain⟨b3,hc5,hl1⟩:=bnd hl1
   refine dL (fun a w=>Env 57 [(1,vp1),(2,(.pointer (some ⟨b1,0,none⟩))),(5,(.int .i64 aY)),(6,(.bool b3))] a∧Hp Z ρ (Pt b1 (.cells #[(.int .i64 p0.vars),aG] 24 (0,0))::L) w) ?_ ?_
   ·refine fK hc5 (fun s a w=>Env 57 [(1,vp1),(2,(.pointer (some ⟨b1,0,none⟩))),(5,(.int .i64 aY)),(6,(.bool s.1)),(7,(.int .i64 s.2))] a∧Hp Z ρ (Pt b1 (.cells #[(.int .i64 p0.vars),aG] 24 (0,0))::L) w) ?_ ?_
    ·exact⟨hE.cut ⟨rfl,rfl,rfl,rfl,rfl,trivial⟩,hp⟩
    rintro⟨dX,gK⟩ st a w ⟨hE,hp⟩ hl2
    dsimp only at hE hp hl2
    unfold jW at hl2
    refine aH (aH ?_)
    refine aB (S hE 1 rfl fun a hE=>?_)
    refine V hE hp rfl (xf hE lI rfl rfl) fun a hE=>V hE hp rfl (xl hE mX 0 rfl rfl rfl rfl) fun a hE=>S hE 1 rfl fun a hE=>?_
    obtain⟨x3,ex3,hl2⟩:=bnd hl2
    obtain⟨b4,b4o,b4c,b4r,b4k,b4f⟩:=bT.at bI nJ ex3
    obtain⟨vb4,rfl,hb4⟩:=b4k
    have b4f:AtP ρ b4 b4o [vb4]:=b4f
    refine V hE hp rfl (aV rfl hE rfl rfl b4r) fun a hE=>V hE hp rfl (bC rfl hE rfl (fun w hw=>bH bP (b4f.c 0 rfl w hw))) fun a hE=>V hE hp rfl (dK rfl hE rfl (bT.len hb4 aZ)) fun a hE=>S hE 1 rfl fun a hE=>aC ?_
    refine dO hE rfl (fun hc6=>?_) (fun hc6=>?_)
    ·replace hl2:=(it hc6).symm.trans hl2
     refine bQ (aH ?_)
     refine dH (aH ?_)
     refine aB (V hE hp rfl (xf hE lI rfl rfl) fun a hE=>?_)
     refine V hE hp rfl (xl hE mX 0 rfl rfl rfl rfl) fun a hE=>S hE 1 rfl fun a hE=>?_
     obtain⟨x4,ex4,hl2⟩:=bnd hl2
     obtain⟨b5,b5o,b5c,b5r,b5k,b5f⟩:=bT.at bI nJ ex4
     obtain⟨vb5,rfl,hb5⟩:=b5k
     have b5f:AtP ρ b5 b5o [vb5]:=b5f
     refine V hE hp rfl (aV rfl hE rfl rfl b5r) fun a hE=>V hE hp rfl (bC rfl hE rfl (fun w hw=>bH bP (b5f.c 0 rfl w hw))) fun a hE=>S hE 1 rfl fun a hE=>?_
     obtain⟨x5,ex5,hl2⟩:=bnd hl2
     obtain⟨b6,b6o,b6c,b6r,b6k,b6f⟩:=bT.at hb5 aZ ex5
     obtain rfl:b6c=Enc.enc x5:=b6k
     have b6f:AtP ρ b6 b6o [(.int .i64 x5)]:=b6f
     refine V hE hp rfl (aV rfl hE rfl rfl b6r) fun a hE=>V hE hp rfl (bC rfl hE rfl (fun w hw=>bH bG (b6f.c 0 rfl w hw))) fun a hE=>S hE 1 rfl fun a hE=>aC ?_
     have hE:=hE.cut (E':=[(1,vp1),(2,(.pointer (some ⟨b1,0,none⟩))),(5,(.int .i64 aY)),(6,(.bool dX)),(7,(.int .i64 gK)),(8,(.int .i64 x5))]) ⟨rfl,rfl,rfl,rfl,rfl,rfl,trivial⟩
     refine aB (S hE 2 rfl fun a hE=>?_)
     obtain⟨m2,hg2,hl2⟩:=bnd hl2
     refine kT [_,_,_,_,_,_,_,_,_] (fun a w=>Env 57 [(54,(.bool m2)),(1,vp1),(2,(.pointer (some ⟨b1,0,none⟩))),(5,(.int .i64 aY)),(7,(.int .i64 gK))] a∧Hp Z ρ (Pt b1 (.cells #[(.int .i64 p0.vars),aG] 24 (0,0))::L) w) ?_ ?_
     ·rcases Bool.eq_false_or_eq_true dX with hc7|hc7
      ·
       replace hg2:=(it hc7).symm.trans hg2
       refine Gk hE hc7 rfl fun a hE=>Gk hE hc7 rfl fun a hE=>Gk hE hc7 rfl fun a hE=>Gk hE hc7 rfl fun a hE=>Gk hE hc7 rfl fun a hE=>Gk hE hc7 rfl fun a hE=>Gk hE hc7 rfl fun a hE=>Gk hE hc7 rfl fun a hE=>pk1 hE hc7 rfl rfl rfl rfl fun a hE=>?_
       obtain rfl:=Option.some.inj hg2
       exact aC ⟨hE.cut ⟨rfl,rfl,rfl,rfl,rfl,trivial⟩,hp⟩
      replace hg2:=(ie hc7).symm.trans hg2
      refine Gs hE hc7 rfl rfl fun a hE=>Gs hE hc7 rfl rfl fun a hE=>?_
      obtain⟨x6,ex6,hg2⟩:=bnd hg2
      refine s_call (wk1 hE rfl rfl rfl hc7) rfl rfl hE rfl [(.int .i64 x5)] ⟨rfl,trivial⟩ ent25 (mQ x5 hp x6 ex6) Ret.ret ?_
      intro v a w hR hE
      obtain⟨rfl,hp⟩:=Ret.of hR
      have hp:=r1 hp
      obtain⟨x7,ex7,hg2⟩:=bnd hg2
      refine G hE hp hc7 rfl (sJ rfl hE rfl rfl (bD ex7)) fun a hE=>?_
      obtain⟨x8,ex8,hg2⟩:=bnd hg2
      obtain⟨b7,b7o,b7c,b7r,b7k,b7f⟩:=bT.at hp1 aZ ex8
      obtain rfl:b7c=Enc.enc x8:=b7k
      have b7f:AtP ρ b7 b7o [(.int .i64 x8)]:=b7f
      refine G hE hp hc7 rfl (aV rfl hE rfl rfl b7r) fun a hE=>G hE hp hc7 rfl (bC rfl hE rfl (fun w hw=>bH bG (b7f.c 0 rfl w hw))) fun a hE=>Gs hE hc7 rfl rfl fun a hE=>Gs hE hc7 rfl rfl fun a hE=>pk0 hE hc7 rfl rfl rfl rfl fun a hE=>?_
      obtain rfl:=Option.some.inj hg2
      exact aC ⟨hE.cut ⟨rfl,rfl,rfl,rfl,rfl,trivial⟩,hp⟩
     rintro a w ⟨hE,hp⟩
     refine S hE 1 rfl fun a hE=>aC (aB ?_)
     refine S hE 1 rfl fun a hE=>?_
     obtain⟨x9,ex9,hl2⟩:=bnd hl2
     refine V hE hp rfl (dJ rfl hE rfl rfl (bD ex9)) fun a hE=>S hE 1 rfl fun a hE=>aC ?_
     exact⟨_,(Option.some.inj hl2).symm,hE.cut ⟨rfl,rfl,rfl,rfl,rfl,trivial⟩,hp⟩
    replace hl2:=(ie hc6).symm.trans hl2
    refine eP ?_
    refine⟨_,(Option.some.inj hl2).symm,fun hbb=>?_⟩
    subst hbb
    exact⟨hE.cut ⟨rfl,rfl,rfl,rfl,trivial⟩,hp⟩
   rintro a w ⟨hE,hp⟩
   refine aH (aB ?_)
   refine S hE 2 rfl fun a hE=>aC ?_
   refine dO hE rfl (fun hc8=>?_) (fun hc8=>?_)
   ·replace hl1:=(it hc8).symm.trans hl1
    refine aH (aB ?_)
    refine S hE 1 rfl fun a hE=>aC (dE ?_)
    refine⟨_,(Option.some.inj hl1).symm,fun hb=>?_⟩
    subst hb
    obtain rfl:=Option.some.inj hm
    exact iM hE rfl rfl ⟨_,rfl,rfl,(hp.drop)⟩
   replace hl1:=(ie hc8).symm.trans hl1
   refine bQ (aB ?_)
   refine S hE 1 rfl fun a hE=>?_
   obtain⟨x10,ex10,hl1⟩:=bnd hl1
   refine V hE hp rfl (dJ rfl hE rfl rfl (bD ex10)) fun a hE=>S hE 1 rfl fun a hE=>aC ?_
   exact⟨_,(Option.some.inj hl1).symm,hE.cut ⟨rfl,rfl,rfl,trivial⟩,hp⟩
  replace hl1:=(ie hc4).symm.trans hl1
  refine eP ?_
  refine⟨_,(Option.some.inj hl1).symm,fun hbb=>?_⟩
  exact⟨_,hbb.symm,hE.cut trivial,hp⟩
 rintro a w ⟨b2s,rfl,hE,hp⟩
 dsimp only at hm
 refine aH (aB ?_)
 refine S hE 1 rfl fun a hE=>aC (dE ?_)
 obtain rfl:=Option.some.inj hm
 exact iM hE rfl rfl ⟨_,rfl,rfl,(hp.drop)⟩
set_option maxRecDepth 100000 in
set_option maxHeartbeats 4000000 in
theorem O0 {Z:World} {ρ:PH} {L:List bW} {w:World} (p0:Formula) (aG:Value) (bI:bT ρ aG p0.clauses) (p1:(List Int)) (vp1:Value) (hp1:bT ρ vp1 p1) (hp:Hp Z ρ (L) w) (r:Formula) (hm:mZ p0 p1=some r):
  Calls Try.prog 23 #[(.agg #[(.int .i64 p0.vars),aG]),vp1] w (Ret fun v w'=>∃(ρ':PH) (wE:Value),ρ.le ρ'∧v=(.agg #[(.int .i64 r.vars),wE])∧bT ρ' wE r.clauses∧Hp Z ρ' (L) w'):=by
 refine enter (N:=19) Try.func23 rfl rfl [(0,(.agg #[(.int .i64 p0.vars),aG])),(1,vp1)] rfl (bM ⟨rfl,rfl,trivial⟩) fun a hE=>?_
 unfold mZ at hm
 refine aH (aB ?_)
 refine rC (wk0 rfl) rfl rfl hE hp rfl (v:=(.agg #[(.int .i64 p0.vars),aG])) rfl ?_
 intro a w b1 hE hp
 have hp:=r1 hp
 refine rD (wk0 rfl) rfl rfl hE hp rfl [(.int .i64 0),(.slice none 0 0)] (fun w=>by simp[Instr.alloc,go_sem]<;>rfl) ?_
 intro a w b2 hE hp
 have hp:=r2 hp
 refine aC (aH ?_)
 refine aB (V hE hp rfl (xf hE lI rfl rfl) fun a hE=>?_)
 refine V hE hp rfl (xl hE mX 1 rfl rfl rfl rfl) fun a hE=>V hE hp rfl (dK rfl hE rfl (bT.len bI nJ)) fun a hE=>S hE 1 rfl fun a hE=>aC (aH ?_)
 refine aB (V hE hp rfl (xf hE lI rfl rfl) fun a hE=>?_)
 refine V hE hp rfl (xl hE mX 1 rfl rfl rfl rfl) fun a hE=>S hE 2 rfl fun a hE=>?_
 obtain⟨v1,v1r,f1⟩:=bT.full bI nJ .i64 .i64
 refine V hE hp rfl (v:=v1) (ex_sl3 rfl hE rfl rfl rfl v1r) fun a hE=>S hE 1 rfl fun a hE=>?_
 refine iW (wk0 rfl) rfl rfl hE hp rfl [(0,vp1)] ⟨⟨rfl,rfl⟩,trivial⟩ [vp1] 25 (fun w=>by have hc0:=bT.cells hp1;simp only[Value.cells] at hc0;simp[Instr.buildSlice,Instr.fill,Value.cells,hc0,go_sem]) ?_
 intro a w b3 hE hp
 have hp:=r3 hp
 obtain⟨x1,ex1,hm⟩:=bnd hm
 have hR3:jH ρ ([p1]:List (List Int)) [vp1]:=⟨_,_,rfl,⟨_,rfl,(hp1)⟩,rfl⟩
 refine s_appC (wk0 rfl) rfl rfl hE hp rfl nJ rfl rfl f1 rfl (l2:=[p1]) (ys:=[vp1]) rfl rfl hR3 (fun j u hj=>by have:=Hp.cN 0 rfl 0 _ (bZ rfl) w hp j u hj;simpa using this) ex1 ?_
 intro v2 xs1 a w hR2 hE hp
 have hR1:jH ρ x1 (xs1++[vp1]):=(uF ex1).2▸jH.app hR2 hR3
 have hp:=r4 hp
 refine V hE hp rfl (xf hE lI rfl rfl) fun a hE=>?_
 refine pI (wk0 rfl) rfl hE hp rfl rfl rfl 3 rfl mX.size_ (vU.cells hp 0 rfl) (vU.one hp 0 rfl) rfl [(.int .i64 p0.vars),v2] rfl ?_
 intro w hp
 have hp:=r4 hp
 refine aC (aH ?_)
 refine aB (V hE hp rfl (bC rfl hE rfl (fun w hw=>iK (cs:=[(.int .i64 p0.vars),v2]) iQ (Hp.cN 3 rfl 0 _ (bZ rfl) w hw))) fun a hE=>?_)
 refine dR (wk0 rfl) rfl hE hp rfl rfl rfl 2 rfl iQ.size_ rfl (bY ⟨rfl,(vU.one hp 0 rfl),trivial⟩) [(.int .i64 p0.vars),v2] rfl ?_
 intro w hp
 have hp:=r4 hp
 refine aC (dE ?_)
 obtain⟨k1,k1a,k1d,hp⟩:=(hp.get 0 rfl).lend
 have f2:bT (ρ.un k1) v2 x1:=vU.ro k1d k1a hR1
 have hp:=r3 hp
 obtain rfl:=Option.some.inj hm
 exact retc1 hE rfl rfl (rZ (cs:=[(.int .i64 p0.vars),v2]) iQ (Hp.cN 1 rfl 0 _ (bZ rfl) _ hp)) ⟨_,rfl,_,_,(PH.le_un _ k1),rfl,f2,(((((hp.get 2 rfl).drop).get 1 rfl).drop).drop)⟩
set_option maxRecDepth 100000 in
set_option maxHeartbeats 4000000 in
theorem L6 {Z:World} {ρ:PH} {L:List bW} {w:World} (p0:Int) (p1:Int) (hp:Hp Z ρ (L) w) (r:(List Int)) (hm:mD p0 p1=some r):
  Calls Try.prog 37 #[(.int .i64 p0),(.int .i64 p1)] w (Ret fun v w'=>∃(vr1:Value),v=vr1∧Hp Z ρ (aA 3 vr1 r::L) w'):=by
 refine enter (N:=30) Try.func37 rfl rfl [(0,(.int .i64 p0)),(1,(.int .i64 p1))] rfl (bM ⟨rfl,rfl,trivial⟩) fun a hE=>?_
 unfold mD at hm
 refine aH (aB ?_)
 refine S hE 1 rfl fun a hE=>aC (aH ?_)
 refine aB ?_
 refine iW (wk0 rfl) rfl rfl hE hp rfl [] trivial [] 3 (fun w=>by simp[Instr.buildSlice,Instr.fill,Value.cells,go_sem]) ?_
 intro a w b1 hE hp
 have hp:=r1 hp
 refine S hE 1 rfl fun a hE=>aC (aH ?_)
 refine aH (aB ?_)
 refine S hE 1 rfl fun a hE=>aC ?_
 have hp:=(hp.get 0 rfl).imp (nZ (l:=(([]:List Int):List Int)) (n:=0) rfl (by decide) rfl)
 have hp:=r1 hp
 obtain⟨b2,hc1,hm⟩:=bnd hm
 refine dL (fun a w=>∃(w2:Value),Env 30 [(5,w2)] a∧Hp Z ρ (aA 3 w2 b2::L) w) ?_ ?_
 ·refine fK hc1 (fun s a w=>∃(w2:Value),Env 30 [(0,(.int .i64 p0)),(1,(.int .i64 p1)),(5,w2),(6,(.int .i64 s.1))] a∧Hp Z ρ (aA 3 w2 s.2::L) w) ?_ ?_
  ·exact⟨_,hE.cut ⟨rfl,rfl,rfl,rfl,trivial⟩,hp⟩
  rintro⟨aY,bU⟩ st a w ⟨w2,hE,hp⟩ hl1
  dsimp only at hE hp hl1
  unfold iJ at hl1
  refine aH (aH ?_)
  refine aB (S hE 3 rfl fun a hE=>?_)
  refine aC ?_
  refine dO hE rfl (fun hc2=>?_) (fun hc2=>?_)
  ·replace hl1:=(it hc2).symm.trans hl1
   refine bQ (aH ?_)
   refine dH (aH ?_)
   refine aB (S hE 3 rfl fun a hE=>?_)
   obtain⟨x1,ex1,hl1⟩:=bnd hl1
   refine V hE hp rfl (sJ rfl hE rfl rfl (bD ex1)) fun a hE=>?_
   obtain⟨x2,ex2,hl1⟩:=bnd hl1
   refine V hE hp rfl (v:=(.int .i64 x2)) (ex_shr rfl hE rfl rfl ex2) fun a hE=>?_
   obtain⟨x3,ex3,hl1⟩:=bnd hl1
   refine V hE hp rfl (ex_rem rfl hE rfl rfl (remK_some ex3).1 (remK_some ex3).2) fun a hE=>S hE 1 rfl fun a hE=>aC ?_
   refine dO hE rfl (fun hc3=>?_) (fun hc3=>?_)
   ·replace hl1:=(it hc3).symm.trans hl1
    refine aB (S hE 2 rfl fun a hE=>?_)
    refine iW (wk0 rfl) rfl rfl hE hp rfl [(0,(.int .i64 aY))] ⟨⟨rfl,rfl⟩,trivial⟩ [(.int .i64 aY)] 3 (fun w=>by simp[Instr.buildSlice,Instr.fill,Value.cells,go_sem]) ?_
    intro a w b3 hE hp
    have hp:=r2 hp
    obtain⟨x4,ex4,hl1⟩:=bnd hl1
    refine lM (wk0 rfl) rfl rfl hE hp rfl aZ rfl rfl 1 rfl rfl (l2:=[aY]) rfl (fun j u hj=>by have:=Hp.cN 0 rfl 0 _ (bZ rfl) w hp j u hj;simpa using this) ex4 ?_
    intro v1 a w hE hp
    have hp:=r2 hp
    refine S hE 1 rfl fun a hE=>aC ?_
    have hE:=hE.cut (E':=[(0,(.int .i64 p0)),(1,(.int .i64 p1)),(5,v1),(6,(.int .i64 aY))]) ⟨rfl,rfl,rfl,rfl,trivial⟩
    refine aB (S hE 1 rfl fun a hE=>?_)
    obtain⟨x5,ex5,hl1⟩:=bnd hl1
    refine V hE hp rfl (dJ rfl hE rfl rfl (bD ex5)) fun a hE=>S hE 1 rfl fun a hE=>aC ?_
    exact⟨_,(Option.some.inj hl1).symm,_,hE.cut ⟨rfl,rfl,rfl,rfl,trivial⟩,(hp.drop)⟩
   replace hl1:=(ie hc3).symm.trans hl1
   refine aB (S hE 2 rfl fun a hE=>?_)
   obtain⟨x6,ex6,hl1⟩:=bnd hl1
   refine V hE hp rfl (oD rfl hE rfl (bD ex6)) fun a hE=>?_
   refine iW (wk0 rfl) rfl rfl hE hp rfl [(0,(.int .i64 x6))] ⟨⟨rfl,rfl⟩,trivial⟩ [(.int .i64 x6)] 3 (fun w=>by simp[Instr.buildSlice,Instr.fill,Value.cells,go_sem]) ?_
   intro a w b4 hE hp
   have hp:=r2 hp
   obtain⟨x7,ex7,hl1⟩:=bnd hl1
   refine lM (wk0 rfl) rfl rfl hE hp rfl aZ rfl rfl 1 rfl rfl (l2:=[x6]) rfl (fun j u hj=>by have:=Hp.cN 0 rfl 0 _ (bZ rfl) w hp j u hj;simpa using this) ex7 ?_
   intro v2 a w hE hp
   have hp:=r2 hp
   refine S hE 1 rfl fun a hE=>aC (aB ?_)
   refine S hE 1 rfl fun a hE=>?_
   obtain⟨x8,ex8,hl1⟩:=bnd hl1
   refine V hE hp rfl (dJ rfl hE rfl rfl (bD ex8)) fun a hE=>S hE 1 rfl fun a hE=>aC ?_
   exact⟨_,(Option.some.inj hl1).symm,_,hE.cut ⟨rfl,rfl,rfl,rfl,trivial⟩,(hp.drop)⟩
  replace hl1:=(ie hc2).symm.trans hl1
  refine eP ?_
  refine⟨_,(Option.some.inj hl1).symm,fun hbb=>?_⟩
  subst hbb
  exact⟨_,hE.cut ⟨rfl,trivial⟩,hp⟩
 rintro a w ⟨w2,hE,hp⟩
 refine aH (aB ?_)
 refine S hE 2 rfl fun a hE=>aC (dE ?_)
 obtain rfl:=Option.some.inj hm
 exact iM hE rfl rfl ⟨_,rfl,_,rfl,hp⟩
end Go.Proofs.Ytpkhmndpeipfmaa
