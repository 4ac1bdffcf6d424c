/- The code goes as its model: assessor/cnf.variable, assessor/cnf.normal, assessor/cnf.Valid, assessor/cnf.Holds$1, slices.IndexFunc[[]int,int]@assessor/cnf.Holds -/
import Derived.Test.YtpkhmndpeipfmaaKAsT
import Derived.Test.YtpkhmndpeipfmaaKAs5
import Derived.Test.YtpkhmndpeipfmaaKAs6
set_option linter.unusedVariables false
set_option linter.unusedSimpArgs false
namespace Go.Proofs.Ytpkhmndpeipfmaa
open Go.RowKit
set_option maxRecDepth 100000 in
set_option maxHeartbeats 4000000 in
theorem xR {Z:World} {ρ:PH} {L:List bV} {w:World} (p0:Int) (hp:Hp Z ρ (L) w) (r:Int) (hm:nU p0=some r):
  Calls Try.prog 46 #[(.int .i64 p0)] w (Ret fun v w'=>v=(.int .i64 r)∧Hp Z ρ (L) w'):=by
 refine enter (N:=7) Try.func46 rfl rfl [(0,(.int .i64 p0))] rfl (bP ⟨rfl,trivial⟩) fun a hE=>?_
 unfold nU at hm
 refine aH (aB ?_)
 refine S hE 1 rfl fun a hE=>aC (aH ?_)
 refine aB (S hE 2 rfl fun a hE=>?_)
 obtain⟨x1,ex1,hm⟩:=bnd hm
 refine V hE hp rfl (nZ rfl hE rfl (bF ex1)) fun a hE=>V hE hp rfl (v:=(.int .i64 (max p0 x1))) (ex_max rfl hE rfl rfl) fun a hE=>S hE 1 rfl fun a hE=>aC (dE ?_)
 obtain rfl:=Option.some.inj hm
 exact iV hE rfl rfl ⟨_,rfl,rfl,hp⟩
set_option maxRecDepth 100000 in
set_option maxHeartbeats 4000000 in
theorem c_cnf_normal {Z:World} {ρ:PH} {L:List bV} {w:World} (p0:(List Int)) (vp0:Value) (hp0:bU ρ vp0 p0) (p1:Int) (hp:Hp Z ρ (L) w) (r:Bool) (hm:uI p0 p1=some r):
  Calls Try.prog 41 #[vp0,(.int .i64 p1)] w (Ret fun v w'=>v=(.bool r)∧Hp Z ρ (L) w'):=by
 refine enter (N:=32) Try.func41 rfl rfl [(0,vp0),(1,(.int .i64 p1))] rfl (bP ⟨rfl,rfl,trivial⟩) fun a hE=>?_
 unfold uI at hm
 refine aH (aB ?_)
 refine S hE 1 rfl fun a hE=>aC (aH ?_)
 refine aB (S hE 1 rfl fun a hE=>?_)
 refine aC (aH ?_)
 refine aH (aB ?_)
 refine S hE 1 rfl fun a hE=>V hE hp rfl (dJ rfl hE rfl (bU.len hp0 aY)) fun a hE=>S hE 1 rfl fun a hE=>aC ?_
 obtain⟨b1,hc1,hm⟩:=bnd hm
 refine dN (fun a w=>∃s:Unit,b1= .brk s∧(Env 32 [] a∧Hp Z ρ (L) w)) ?_ ?_
 ·refine fV hc1 (fun s a w=>Env 32 [(1,(.int .i64 p1)),(5,(.int .i64 s.1)),(8,vp0),(9,(.int .i64 (p0.length:Int))),(10,(.int .i64 s.2))] a∧Hp Z ρ (L) w) ?_ ?_
  ·exact⟨hE.cut ⟨rfl,rfl,rfl,rfl,rfl,trivial⟩,hp⟩
  rintro⟨bC,cZ⟩ st a w ⟨hE,hp⟩ hl1
  dsimp only at hE hp hl1
  unfold pR at hl1
  refine aH (aB ?_)
  refine S hE 1 rfl fun a hE=>aC (aH ?_)
  refine dQ hE rfl (fun hc2=>?_) (fun hc2=>?_)
  ·replace hl1:=(it hc2).symm.trans hl1
   refine bT (aH ?_)
   refine dL (aH ?_)
   refine aB ?_
   obtain⟨x1,ex1,hl1⟩:=bnd hl1
   obtain⟨b2,b2o,b2c,b2r,b2k,b2f⟩:=bU.at hp0 aY ex1
   obtain rfl:b2c=Enc.enc x1:=b2k
   have b2f:AtP ρ b2 b2o [(.int .i64 x1)]:=b2f
   refine V hE hp rfl (aV rfl hE rfl rfl b2r) fun a hE=>V hE hp rfl (aZ rfl hE rfl (fun w hw=>bH bG (b2f.c 0 rfl w hw))) fun a hE=>S hE 1 rfl fun a hE=>aC (aH ?_)
   refine aH (aB ?_)
   refine S hE 2 rfl fun a hE=>?_
   obtain⟨x2,ex2,hl1⟩:=bnd hl1
   refine V hE hp rfl (nZ rfl hE rfl (bF ex2)) fun a hE=>S hE 2 rfl fun a hE=>?_
   refine kV [_,_,_,_] (fun a w=>Env 32 [(22,(.bool ((decide (x1<x2))||(decide (p1<x1))))),(1,(.int .i64 p1)),(5,(.int .i64 bC)),(7,(.int .i64 x1)),(8,vp0),(9,(.int .i64 (p0.length:Int))),(10,(.int .i64 cZ))] a∧Hp Z ρ (L) w) ?_ ?_
   ·rcases Bool.eq_false_or_eq_true (decide (x1<x2)) with hc3|hc3
    ·
     refine Gk hE hc3 rfl fun a hE=>Gk hE hc3 rfl fun a hE=>Gk hE hc3 rfl fun a hE=>pk1 hE hc3 rfl rfl rfl rfl fun a hE=>?_
     have hE:=hE.eqv (v':=(.bool ((decide (x1<x2))||(decide (p1<x1))))) (by rw[hc3];rfl)
     exact aC ⟨hE.cut ⟨rfl,rfl,rfl,rfl,rfl,rfl,rfl,trivial⟩,hp⟩
    refine Gs hE hc3 rfl rfl fun a hE=>Gs hE hc3 rfl rfl fun a hE=>Gs hE hc3 rfl rfl fun a hE=>pk0 hE hc3 rfl rfl rfl rfl fun a hE=>?_
    have hE:=hE.eqv (v':=(.bool ((decide (x1<x2))||(decide (p1<x1))))) (by rw[hc3];rfl)
    exact aC ⟨hE.cut ⟨rfl,rfl,rfl,rfl,rfl,rfl,rfl,trivial⟩,hp⟩
   rintro a w ⟨hE,hp⟩
   refine S hE 1 rfl fun a hE=>?_
   obtain⟨m1,hg1,hl1⟩:=bnd hl1
   refine kV [_,_,_,_,_] (fun a w=>Env 32 [(28,(.bool m1)),(1,(.int .i64 p1)),(7,(.int .i64 x1)),(8,vp0),(9,(.int .i64 (p0.length:Int))),(10,(.int .i64 cZ))] a∧Hp Z ρ (L) w) ?_ ?_
   ·rcases Bool.eq_false_or_eq_true ((decide (x1<x2))||(decide (p1<x1))) with hc4|hc4
    ·
     replace hg1:=(it hc4).symm.trans hg1
     refine Gk hE hc4 rfl fun a hE=>Gk hE hc4 rfl fun a hE=>Gk hE hc4 rfl fun a hE=>Gk hE hc4 rfl fun a hE=>pk1 hE hc4 rfl rfl rfl rfl fun a hE=>?_
     obtain rfl:=Option.some.inj hg1
     exact aC ⟨hE.cut ⟨rfl,rfl,rfl,rfl,rfl,rfl,trivial⟩,hp⟩
    replace hg1:=(ie hc4).symm.trans hg1
    refine Gs hE hc4 rfl rfl fun a hE=>?_
    obtain⟨x3,ex3,hg1⟩:=bnd hg1
    refine s_call (wk1 hE rfl rfl rfl hc4) rfl rfl hE rfl [(.int .i64 x1)] ⟨rfl,trivial⟩ ent46 (xR x1 hp x3 ex3) Ret.ret ?_
    intro v a w hR hE
    obtain⟨rfl,hp⟩:=Ret.of hR
    have hp:=r0 hp
    refine Gs hE hc4 rfl rfl fun a hE=>Gs hE hc4 rfl rfl fun a hE=>pk0 hE hc4 rfl rfl rfl rfl fun a hE=>?_
    obtain rfl:=Option.some.inj hg1
    exact aC ⟨hE.cut ⟨rfl,rfl,rfl,rfl,rfl,rfl,trivial⟩,hp⟩
   rintro a w ⟨hE,hp⟩
   refine aC ?_
   refine dQ hE rfl (fun hc5=>?_) (fun hc5=>?_)
   ·replace hl1:=(it hc5).symm.trans hl1
    refine aH (aB ?_)
    refine S hE 1 rfl fun a hE=>aC (dE ?_)
    refine⟨_,(Option.some.inj hl1).symm,fun hb=>?_⟩
    subst hb
    obtain rfl:=Option.some.inj hm
    exact iV hE rfl rfl ⟨_,rfl,rfl,hp⟩
   replace hl1:=(ie hc5).symm.trans hl1
   refine bT (aB ?_)
   refine S hE 1 rfl fun a hE=>?_
   obtain⟨x4,ex4,hl1⟩:=bnd hl1
   refine s_call (wk0 rfl) rfl rfl hE rfl [(.int .i64 x1)] ⟨rfl,trivial⟩ ent46 (xR x1 hp x4 ex4) Ret.ret ?_
   intro v a w hR hE
   obtain⟨rfl,hp⟩:=Ret.of hR
   have hp:=r0 hp
   refine S hE 1 rfl fun a hE=>aC (aB ?_)
   obtain⟨x5,ex5,hl1⟩:=bnd hl1
   refine V hE hp rfl (dS rfl hE rfl rfl (bF ex5)) fun a hE=>S hE 1 rfl fun a hE=>aC ?_
   exact⟨_,(Option.some.inj hl1).symm,hE.cut ⟨rfl,rfl,rfl,rfl,rfl,trivial⟩,hp⟩
  replace hl1:=(ie hc2).symm.trans hl1
  refine eU ?_
  refine⟨_,(Option.some.inj hl1).symm,fun hbb=>?_⟩
  exact⟨_,hbb.symm,hE.cut trivial,hp⟩
 rintro a w ⟨b1s,rfl,hE,hp⟩
 dsimp only at hm
 refine aH (aB ?_)
 refine S hE 1 rfl fun a hE=>aC (dE ?_)
 obtain rfl:=Option.some.inj hm
 exact iV hE rfl rfl ⟨_,rfl,rfl,hp⟩
set_option maxRecDepth 100000 in
set_option maxHeartbeats 4000000 in
theorem O3 {Z:World} {ρ:PH} {L:List bV} {w:World} (p0:Formula) (aG:Value) (bI:bU ρ aG p0.clauses) (hp:Hp Z ρ (L) w) (r:Bool) (hm:qX p0=some r):
  Calls Try.prog 19 #[(.agg #[(.int .i64 p0.vars),aG])] w (Ret fun v w'=>v=(.bool r)∧Hp Z ρ (L) w'):=by
 refine enter (N:=32) Try.func19 rfl rfl [(0,(.agg #[(.int .i64 p0.vars),aG]))] rfl (bP ⟨rfl,trivial⟩) fun a hE=>?_
 unfold qX at hm
 refine aH (aB ?_)
 refine qQ (wk0 rfl) rfl rfl hE hp rfl (v:=(.agg #[(.int .i64 p0.vars),aG])) rfl ?_
 intro a w b1 hE hp
 have hp:=r1 hp
 refine S hE 1 rfl fun a hE=>aC (aH ?_)
 refine aH (aB ?_)
 refine V hE hp rfl (xf hE lT rfl rfl) fun a hE=>V hE hp rfl (xl hE bG 0 rfl rfl rfl rfl) fun a hE=>S hE 2 rfl fun a hE=>?_
 refine kV [_,_,_,_] (fun a w=>Env 32 [(12,(.bool ((decide (p0.vars<0))||(decide (65536<p0.vars))))),(1,(.pointer (some ⟨b1,0,none⟩)))] a∧Hp Z ρ (Pt b1 (.cells #[(.int .i64 p0.vars),aG] 24 (0,0))::L) w) ?_ ?_
 ·rcases Bool.eq_false_or_eq_true (decide (p0.vars<0)) with hc1|hc1
  ·
   refine Gk hE hc1 rfl fun a hE=>Gk hE hc1 rfl fun a hE=>Gk hE hc1 rfl fun a hE=>pk1 hE hc1 rfl rfl rfl rfl fun a hE=>?_
   have hE:=hE.eqv (v':=(.bool ((decide (p0.vars<0))||(decide (65536<p0.vars))))) (by rw[hc1];rfl)
   exact aC ⟨hE.cut ⟨rfl,rfl,trivial⟩,hp⟩
  refine G hE hp hc1 rfl (xf hE lT rfl rfl) fun a hE=>G hE hp hc1 rfl (xl hE bG 0 rfl rfl rfl rfl) fun a hE=>Gs hE hc1 rfl rfl fun a hE=>pk0 hE hc1 rfl rfl rfl rfl fun a hE=>?_
  have hE:=hE.eqv (v':=(.bool ((decide (p0.vars<0))||(decide (65536<p0.vars))))) (by rw[hc1];rfl)
  exact aC ⟨hE.cut ⟨rfl,rfl,trivial⟩,hp⟩
 rintro a w ⟨hE,hp⟩
 refine S hE 1 rfl fun a hE=>?_
 refine kV [_,_,_,_,_] (fun a w=>Env 32 [(18,(.bool (((decide (p0.vars<0))||(decide (65536<p0.vars)))||(decide (262144<(p0.clauses.length:Int)))))),(1,(.pointer (some ⟨b1,0,none⟩)))] a∧Hp Z ρ (Pt b1 (.cells #[(.int .i64 p0.vars),aG] 24 (0,0))::L) w) ?_ ?_
 ·rcases Bool.eq_false_or_eq_true ((decide (p0.vars<0))||(decide (65536<p0.vars))) with hc2|hc2
  ·
   refine Gk hE hc2 rfl fun a hE=>Gk hE hc2 rfl fun a hE=>Gk hE hc2 rfl fun a hE=>Gk hE hc2 rfl fun a hE=>pk1 hE hc2 rfl rfl rfl rfl fun a hE=>?_
   have hE:=hE.eqv (v':=(.bool (((decide (p0.vars<0))||(decide (65536<p0.vars)))||(decide (262144<(p0.clauses.length:Int)))))) (by rw[hc2];rfl)
   exact aC ⟨hE.cut ⟨rfl,rfl,trivial⟩,hp⟩
  refine G hE hp hc2 rfl (xf hE mW rfl rfl) fun a hE=>G hE hp hc2 rfl (xl hE mF 0 rfl rfl rfl rfl) fun a hE=>G hE hp hc2 rfl (dJ rfl hE rfl (bU.len bI nG)) fun a hE=>Gs hE hc2 rfl rfl fun a hE=>pk0 hE hc2 rfl rfl rfl rfl fun a hE=>?_
  have hE:=hE.eqv (v':=(.bool (((decide (p0.vars<0))||(decide (65536<p0.vars)))||(decide (262144<(p0.clauses.length:Int)))))) (by rw[hc2];rfl)
  exact aC ⟨hE.cut ⟨rfl,rfl,trivial⟩,hp⟩
 rintro a w ⟨hE,hp⟩
 refine aC ?_
 refine dQ hE rfl (fun hc3=>?_) (fun hc3=>?_)
 ·replace hm:=(it hc3).symm.trans hm
  refine aH (aB ?_)
  refine S hE 1 rfl fun a hE=>aC (dE ?_)
  obtain rfl:=Option.some.inj hm
  exact iV hE rfl rfl ⟨_,rfl,rfl,(hp.drop)⟩
 replace hm:=(ie hc3).symm.trans hm
 refine bT (aH ?_)
 refine aH (aB ?_)
 refine V hE hp rfl (xf hE mW rfl rfl) fun a hE=>V hE hp rfl (xl hE mF 0 rfl rfl rfl rfl) fun a hE=>V hE hp rfl (dJ rfl hE rfl (bU.len bI nG)) fun a hE=>S hE 1 rfl fun a hE=>aC ?_
 obtain⟨b2,hc4,hm⟩:=bnd hm
 refine dN (fun a w=>∃s:Unit,b2= .brk s∧(Env 32 [] a∧Hp Z ρ (Pt b1 (.cells #[(.int .i64 p0.vars),aG] 24 (0,0))::L) w)) ?_ ?_
 ·refine fV hc4 (fun s a w=>Env 32 [(1,(.pointer (some ⟨b1,0,none⟩))),(20,aG),(21,(.int .i64 (p0.clauses.length:Int))),(22,(.int .i64 s))] a∧Hp Z ρ (Pt b1 (.cells #[(.int .i64 p0.vars),aG] 24 (0,0))::L) w) ?_ ?_
  ·exact⟨hE.cut ⟨rfl,rfl,rfl,rfl,trivial⟩,hp⟩
  rintro bC st a w ⟨hE,hp⟩ hl1
  unfold sK at hl1
  refine aH (aB ?_)
  refine S hE 1 rfl fun a hE=>aC (aH ?_)
  refine dQ hE rfl (fun hc5=>?_) (fun hc5=>?_)
  ·replace hl1:=(it hc5).symm.trans hl1
   refine bT (aH ?_)
   refine dL (aH ?_)
   refine aB ?_
   obtain⟨x1,ex1,hl1⟩:=bnd hl1
   obtain⟨b3,b3o,b3c,b3r,b3k,b3f⟩:=bU.at bI nG ex1
   obtain⟨vb3,rfl,hb3⟩:=b3k
   have b3f:AtP ρ b3 b3o [vb3]:=b3f
   refine V hE hp rfl (aV rfl hE rfl rfl b3r) fun a hE=>V hE hp rfl (aZ rfl hE rfl (fun w hw=>bH bK (b3f.c 0 rfl w hw))) fun a hE=>S hE 1 rfl fun a hE=>aC (aH ?_)
   refine aB (S hE 1 rfl fun a hE=>?_)
   refine V hE hp rfl (xf hE lT rfl rfl) fun a hE=>V hE hp rfl (xl hE bG 0 rfl rfl rfl rfl) fun a hE=>?_
   obtain⟨x2,ex2,hl1⟩:=bnd hl1
   refine s_call (wk0 rfl) rfl rfl hE rfl [vb3,(.int .i64 p0.vars)] ⟨rfl,rfl,trivial⟩ ent41 (c_cnf_normal x1 vb3 hb3 p0.vars hp x2 ex2) Ret.ret ?_
   intro v a w hR hE
   obtain⟨rfl,hp⟩:=Ret.of hR
   have hp:=r1 hp
   refine S hE 1 rfl fun a hE=>aC ?_
   have hE:=hE.cut (E':=[(1,(.pointer (some ⟨b1,0,none⟩))),(20,aG),(21,(.int .i64 (p0.clauses.length:Int))),(22,(.int .i64 bC)),(30,(.bool (!x2)))]) ⟨rfl,rfl,rfl,rfl,rfl,trivial⟩
   refine dQ hE rfl (fun hc6=>?_) (fun hc6=>?_)
   ·replace hl1:=(it hc6).symm.trans hl1
    refine aH (aB ?_)
    refine S hE 1 rfl fun a hE=>aC (dE ?_)
    refine⟨_,(Option.some.inj hl1).symm,fun hb=>?_⟩
    subst hb
    obtain rfl:=Option.some.inj hm
    exact iV hE rfl rfl ⟨_,rfl,rfl,(hp.drop)⟩
   replace hl1:=(ie hc6).symm.trans hl1
   refine bT (aB ?_)
   obtain⟨x3,ex3,hl1⟩:=bnd hl1
   refine V hE hp rfl (dS rfl hE rfl rfl (bF ex3)) fun a hE=>S hE 1 rfl fun a hE=>aC ?_
   exact⟨_,(Option.some.inj hl1).symm,hE.cut ⟨rfl,rfl,rfl,rfl,trivial⟩,hp⟩
  replace hl1:=(ie hc5).symm.trans hl1
  refine eU ?_
  refine⟨_,(Option.some.inj hl1).symm,fun hbb=>?_⟩
  exact⟨_,hbb.symm,hE.cut trivial,hp⟩
 rintro a w ⟨b2s,rfl,hE,hp⟩
 dsimp only at hm
 refine aH (aB ?_)
 refine S hE 1 rfl fun a hE=>aC (dE ?_)
 obtain rfl:=Option.some.inj hm
 exact iV hE rfl rfl ⟨_,rfl,rfl,(hp.drop)⟩
set_option maxRecDepth 100000 in
set_option maxHeartbeats 4000000 in
theorem c_cnf_Holds_1 {Z:World} {ρ:PH} {L:List bV} {w:World} (p0:Int) (bcp0:Nat) (cp0:(List Int)) (vcp0:Value) (hcp0:bU ρ vcp0 cp0) (hp:Hp Z ρ (Pt bcp0 (.cells #[vcp0] 25 (0,0))::L) w) (r:Bool) (hm:sF p0 cp0=some r):
  Calls Try.prog 45 #[(.int .i64 p0),(.pointer (some ⟨bcp0,0,none⟩))] w (Ret fun v w'=>v=(.bool r)∧Hp Z ρ (Pt bcp0 (.cells #[vcp0] 25 (0,0))::L) w'):=by
 refine enter (N:=12) Try.func45 rfl rfl [(0,(.int .i64 p0)),(1,(.pointer (some ⟨bcp0,0,none⟩)))] rfl (bP ⟨rfl,rfl,trivial⟩) fun a hE=>?_
 unfold sF at hm
 refine aH (aB ?_)
 refine S hE 1 rfl fun a hE=>aC (aH ?_)
 refine mY (by kernel_rfl) (by kernel_rfl) hp ?_
 refine Vq hE rfl (xl hE bK 0 rfl rfl rfl rfl) fun a hE=>Sq hE 1 rfl fun a hE=>?_
 obtain⟨x1,ex1,hm⟩:=bnd hm
 refine wG (wk0 rfl) rfl rfl hE rfl [(.int .i64 p0)] ⟨rfl,trivial⟩ ent46 (v:=(.int .i64 x1)) (fun w hw=>Calls.mono (xR p0 hw x1 ex1) fun e w' ⟨v,he,hv,hh⟩=>⟨by rw[he,hv],hh⟩) ?_
 intro a hE
 obtain⟨x2,ex2,hm⟩:=bnd hm
 refine Vq hE rfl (sW rfl hE rfl rfl (bF ex2)) fun a hE=>?_
 obtain⟨x3,ex3,hm⟩:=bnd hm
 obtain⟨b1,b1o,b1c,b1r,b1k,b1f⟩:=bU.at hcp0 aY ex3
 obtain rfl:b1c=Enc.enc x3:=b1k
 have b1f:AtP ρ b1 b1o [(.int .i64 x3)]:=b1f
 refine Vq hE rfl (aV rfl hE rfl rfl b1r) fun a hE=>Vq hE rfl (aZ rfl hE rfl (fun w hw=>bH bG (b1f.c 0 rfl w hw))) fun a hE=>Sq hE 3 rfl fun a hE=>?_
 refine oW fun w hp=>?_
 have hp:=r1 hp
 refine dE ?_
 obtain rfl:=Option.some.inj hm
 exact iV hE rfl rfl ⟨_,rfl,rfl,hp⟩
set_option maxRecDepth 100000 in
set_option maxHeartbeats 4000000 in
theorem uS {Z:World} {ρ:PH} {L:List bV} {w:World} (p0:(List Int)) (vp0:Value) (hp0:bU ρ vp0 p0) (bp1c0:Nat) (p1c0:(List Int)) (vp1c0:Value) (hp1c0:bU ρ vp1c0 p1c0) (hp:Hp Z ρ (Pt bp1c0 (.cells #[vp1c0] 25 (0,0))::L) w) (r:Int) (hm:jR p0 p1c0=some r):
  Calls Try.prog 62 #[vp0,(.func (.func 45) #[] #[(.pointer (some ⟨bp1c0,0,none⟩))])] w (Ret fun v w'=>v=(.int .i64 r)∧Hp Z ρ (Pt bp1c0 (.cells #[vp1c0] 25 (0,0))::L) w'):=by
 refine enter (N:=19) Try.func62 rfl rfl [(0,vp0),(1,(.func (.func 45) #[] #[(.pointer (some ⟨bp1c0,0,none⟩))]))] rfl (bP ⟨rfl,rfl,trivial⟩) fun a hE=>?_
 unfold jR at hm
 refine aH (aB ?_)
 refine S hE 1 rfl fun a hE=>aC (aH ?_)
 refine aH (aB ?_)
 refine S hE 1 rfl fun a hE=>V hE hp rfl (dJ rfl hE rfl (bU.len hp0 aY)) fun a hE=>S hE 1 rfl fun a hE=>aC ?_
 obtain⟨b1,hc1,hm⟩:=bnd hm
 refine dN (fun a w=>∃s:Unit,b1= .brk s∧(Env 19 [] a∧Hp Z ρ (Pt bp1c0 (.cells #[vp1c0] 25 (0,0))::L) w)) ?_ ?_
 ·refine fV hc1 (fun s a w=>Env 19 [(0,vp0),(1,(.func (.func 45) #[] #[(.pointer (some ⟨bp1c0,0,none⟩))])),(7,(.int .i64 (p0.length:Int))),(8,(.int .i64 s))] a∧Hp Z ρ (Pt bp1c0 (.cells #[vp1c0] 25 (0,0))::L) w) ?_ ?_
  ·exact⟨hE.cut ⟨rfl,rfl,rfl,rfl,trivial⟩,hp⟩
  rintro bC st a w ⟨hE,hp⟩ hl1
  unfold fO at hl1
  refine aH (aB ?_)
  refine S hE 1 rfl fun a hE=>aC (aH ?_)
  refine dQ hE rfl (fun hc2=>?_) (fun hc2=>?_)
  ·replace hl1:=(it hc2).symm.trans hl1
   refine bT (aH ?_)
   refine dL (aH ?_)
   refine aB (S hE 2 rfl fun a hE=>?_)
   refine aC (aH ?_)
   refine aB (S hE 3 rfl fun a hE=>?_)
   obtain⟨x1,ex1,hl1⟩:=bnd hl1
   obtain⟨b2,b2o,b2c,b2r,b2k,b2f⟩:=bU.at hp0 aY ex1
   obtain rfl:b2c=Enc.enc x1:=b2k
   have b2f:AtP ρ b2 b2o [(.int .i64 x1)]:=b2f
   refine V hE hp rfl (aV rfl hE rfl rfl b2r) fun a hE=>V hE hp rfl (aZ rfl hE rfl (fun w hw=>bH bG (b2f.c 0 rfl w hw))) fun a hE=>?_
   obtain⟨x2,ex2,hl1⟩:=bnd hl1
   refine s_callv (wk0 rfl) rfl rfl hE rfl rfl [(.int .i64 x1)] ⟨rfl,trivial⟩ ent45 (c_cnf_Holds_1 x1 bp1c0 p1c0 vp1c0 hp1c0 hp x2 ex2) Ret.ret ?_
   intro v a w hR hE
   obtain⟨rfl,hp⟩:=Ret.of hR
   have hp:=r1 hp
   refine aC ?_
   have hE:=hE.cut (E':=[(0,vp0),(1,(.func (.func 45) #[] #[(.pointer (some ⟨bp1c0,0,none⟩))])),(5,(.int .i64 bC)),(7,(.int .i64 (p0.length:Int))),(8,(.int .i64 bC)),(16,(.bool x2))]) ⟨rfl,rfl,rfl,rfl,rfl,rfl,trivial⟩
   refine dQ hE rfl (fun hc3=>?_) (fun hc3=>?_)
   ·replace hl1:=(it hc3).symm.trans hl1
    refine aH (aB ?_)
    refine S hE 2 rfl fun a hE=>aC (dE ?_)
    refine⟨_,(Option.some.inj hl1).symm,fun hb=>?_⟩
    subst hb
    obtain rfl:=Option.some.inj hm
    exact iV hE rfl rfl ⟨_,rfl,rfl,hp⟩
   replace hl1:=(ie hc3).symm.trans hl1
   refine bT (aB ?_)
   obtain⟨x3,ex3,hl1⟩:=bnd hl1
   refine V hE hp rfl (dS rfl hE rfl rfl (bF ex3)) fun a hE=>S hE 1 rfl fun a hE=>aC ?_
   exact⟨_,(Option.some.inj hl1).symm,hE.cut ⟨rfl,rfl,rfl,rfl,trivial⟩,hp⟩
  replace hl1:=(ie hc2).symm.trans hl1
  refine eU ?_
  refine⟨_,(Option.some.inj hl1).symm,fun hbb=>?_⟩
  exact⟨_,hbb.symm,hE.cut trivial,hp⟩
 rintro a w ⟨b1s,rfl,hE,hp⟩
 dsimp only at hm
 refine aH (aB ?_)
 refine S hE 1 rfl fun a hE=>aC (dE ?_)
 obtain rfl:=Option.some.inj hm
 exact iV hE rfl rfl ⟨_,rfl,rfl,hp⟩
set_option maxRecDepth 100000 in
set_option maxHeartbeats 4000000 in
theorem tY {Z:World} {ρ:PH} {L:List bV} {w:World} (p0:(List Int)) (vp0:Value) (hp0:bU ρ vp0 p0) (bp1c0:Nat) (p1c0:(List Int)) (vp1c0:Value) (hp1c0:bU ρ vp1c0 p1c0) (hp:Hp Z ρ (Pt bp1c0 (.cells #[vp1c0] 25 (0,0))::L) w) (r:Bool) (hm:fU p0 p1c0=some r):
  Calls Try.prog 44 #[vp0,(.func (.func 45) #[] #[(.pointer (some ⟨bp1c0,0,none⟩))])] w (Ret fun v w'=>v=(.bool r)∧Hp Z ρ (Pt bp1c0 (.cells #[vp1c0] 25 (0,0))::L) w'):=by
 refine enter (N:=9) Try.func44 rfl rfl [(0,vp0),(1,(.func (.func 45) #[] #[(.pointer (some ⟨bp1c0,0,none⟩))]))] rfl (bP ⟨rfl,rfl,trivial⟩) fun a hE=>?_
 unfold fU at hm
 refine aH (aB ?_)
 refine S hE 1 rfl fun a hE=>aC (aH ?_)
 refine aB (S hE 2 rfl fun a hE=>?_)
 obtain⟨x1,ex1,hm⟩:=bnd hm
 refine s_call (wk0 rfl) rfl rfl hE rfl [vp0,(.func (.func 45) #[] #[(.pointer (some ⟨bp1c0,0,none⟩))])] ⟨rfl,rfl,trivial⟩ ent62 (uS p0 vp0 hp0 bp1c0 p1c0 vp1c0 hp1c0 hp x1 ex1) Ret.ret ?_
 intro v a w hR hE
 obtain⟨rfl,hp⟩:=Ret.of hR
 have hp:=r1 hp
 refine S hE 2 rfl fun a hE=>aC (dE ?_)
 obtain rfl:=Option.some.inj hm
 exact iV hE rfl rfl ⟨_,rfl,rfl,hp⟩
set_option maxRecDepth 100000 in
set_option maxHeartbeats 4000000 in
theorem c_cnf_Holds {Z:World} {ρ:PH} {L:List bV} {w:World} (p0:Formula) (aG:Value) (bI:bU ρ aG p0.clauses) (p1:(List Int)) (vp1:Value) (hp1:bU ρ vp1 p1) (hp:Hp Z ρ (L) w) (r:Bool) (hm:tK p0 p1=some r):
  Calls Try.prog 22 #[(.agg #[(.int .i64 p0.vars),aG]),vp1] w (Ret fun v w'=>v=(.bool r)∧Hp Z ρ (L) w'):=by
 refine enter (N:=50) Try.func22 rfl rfl [(0,(.agg #[(.int .i64 p0.vars),aG])),(1,vp1)] rfl (bP ⟨rfl,rfl,trivial⟩) fun a hE=>?_
 unfold tK at hm
 refine aH (aB ?_)
 refine qQ (wk0 rfl) rfl rfl hE hp rfl (v:=(.agg #[(.int .i64 p0.vars),aG])) rfl ?_
 intro a w b1 hE hp
 have hp:=r1 hp
 refine qQ (wk0 rfl) rfl rfl hE hp rfl (v:=vp1) rfl ?_
 intro a w b2 hE hp
 rw[bU.cells hp1] at hp
 have hp:=r2 hp
 refine S hE 1 rfl fun a hE=>aC (aH ?_)
 refine aH (aB ?_)
 refine V hE hp rfl (aZ rfl hE rfl (fun w hw=>gQ (cs:=[(.int .i64 p0.vars),aG]) gV (Hp.cN 1 rfl 0 _ (bY rfl) w hw))) fun a hE=>?_
 obtain⟨x1,ex1,hm⟩:=bnd hm
 refine s_call (wk0 rfl) rfl rfl hE rfl [(.agg #[(.int .i64 p0.vars),aG])] ⟨rfl,trivial⟩ ent19 (O3 p0 aG bI hp x1 ex1) Ret.ret ?_
 intro v a w hR hE
 obtain⟨rfl,hp⟩:=Ret.of hR
 have hp:=r2 hp
 refine S hE 2 rfl fun a hE=>?_
 refine kV [_,_,_,_,_,_] (fun a w=>Env 50 [(18,(.bool ((!x1)||(!decide ((p1.length:Int)=p0.vars))))),(2,(.pointer (some ⟨b1,0,none⟩))),(3,(.pointer (some ⟨b2,0,none⟩)))] a∧Hp Z ρ (Pt b2 (.cells #[vp1] 25 (0,0))::Pt b1 (.cells #[(.int .i64 p0.vars),aG] 24 (0,0))::L) w) ?_ ?_
 ·rcases Bool.eq_false_or_eq_true (!x1) with hc1|hc1
  ·
   refine Gk hE hc1 rfl fun a hE=>Gk hE hc1 rfl fun a hE=>Gk hE hc1 rfl fun a hE=>Gk hE hc1 rfl fun a hE=>Gk hE hc1 rfl fun a hE=>pk1 hE hc1 rfl rfl rfl rfl fun a hE=>?_
   have hE:=hE.eqv (v':=(.bool ((!x1)||(!decide ((p1.length:Int)=p0.vars))))) (by rw[hc1];rfl)
   exact aC ⟨hE.cut ⟨rfl,rfl,rfl,trivial⟩,hp⟩
  refine G hE hp hc1 rfl (xl hE bK 0 rfl rfl rfl rfl) fun a hE=>G hE hp hc1 rfl (dJ rfl hE rfl (bU.len hp1 aY)) fun a hE=>G hE hp hc1 rfl (xf hE lT rfl rfl) fun a hE=>G hE hp hc1 rfl (xl hE bG 1 rfl rfl rfl rfl) fun a hE=>Gs hE hc1 rfl rfl fun a hE=>pk0 hE hc1 rfl rfl rfl rfl fun a hE=>?_
  have hE:=hE.eqv (v':=(.bool ((!x1)||(!decide ((p1.length:Int)=p0.vars))))) (by rw[hc1];rfl)
  exact aC ⟨hE.cut ⟨rfl,rfl,rfl,trivial⟩,hp⟩
 rintro a w ⟨hE,hp⟩
 refine aC ?_
 refine dQ hE rfl (fun hc2=>?_) (fun hc2=>?_)
 ·replace hm:=(it hc2).symm.trans hm
  refine aH (aB ?_)
  refine S hE 1 rfl fun a hE=>aC (dE ?_)
  obtain rfl:=Option.some.inj hm
  exact iV hE rfl rfl ⟨_,rfl,rfl,(((hp.get 1 rfl).drop).drop)⟩
 replace hm:=(ie hc2).symm.trans hm
 refine bT (aH ?_)
 refine aH (aB ?_)
 refine V hE hp rfl (xl hE bK 0 rfl rfl rfl rfl) fun a hE=>V hE hp rfl (dJ rfl hE rfl (bU.len hp1 aY)) fun a hE=>S hE 1 rfl fun a hE=>aC ?_
 obtain⟨b3,hc3,hm⟩:=bnd hm
 refine dN (fun a w=>∃s:Unit,b3= .brk s∧(Env 50 [(2,(.pointer (some ⟨b1,0,none⟩))),(3,(.pointer (some ⟨b2,0,none⟩)))] a∧Hp Z ρ (Pt b2 (.cells #[vp1] 25 (0,0))::Pt b1 (.cells #[(.int .i64 p0.vars),aG] 24 (0,0))::L) w)) ?_ ?_
 ·refine fV hc3 (fun s a w=>Env 50 [(2,(.pointer (some ⟨b1,0,none⟩))),(3,(.pointer (some ⟨b2,0,none⟩))),(19,vp1),(20,(.int .i64 (p1.length:Int))),(21,(.int .i64 s))] a∧Hp Z ρ (Pt b2 (.cells #[vp1] 25 (0,0))::Pt b1 (.cells #[(.int .i64 p0.vars),aG] 24 (0,0))::L) w) ?_ ?_
  ·exact⟨hE.cut ⟨rfl,rfl,rfl,rfl,rfl,trivial⟩,hp⟩
  rintro bC st a w ⟨hE,hp⟩ hl1
  unfold qJ at hl1
  refine aH (aB ?_)
  refine S hE 1 rfl fun a hE=>aC (aH ?_)
  refine dQ hE rfl (fun hc4=>?_) (fun hc4=>?_)
  ·replace hl1:=(it hc4).symm.trans hl1
   refine bT (aH ?_)
   refine dL (aH ?_)
   refine aB (S hE 1 rfl fun a hE=>?_)
   obtain⟨x2,ex2,hl1⟩:=bnd hl1
   obtain⟨b4,b4o,b4c,b4r,b4k,b4f⟩:=bU.at hp1 aY ex2
   obtain rfl:b4c=Enc.enc x2:=b4k
   have b4f:AtP ρ b4 b4o [(.int .i64 x2)]:=b4f
   refine V hE hp rfl (aV rfl hE rfl rfl b4r) fun a hE=>V hE hp rfl (aZ rfl hE rfl (fun w hw=>bH bG (b4f.c 0 rfl w hw))) fun a hE=>S hE 2 rfl fun a hE=>aC (aH ?_)
   refine aB (S hE 2 rfl fun a hE=>?_)
   obtain⟨x3,ex3,hl1⟩:=bnd hl1
   refine V hE hp rfl (dS rfl hE rfl rfl (bF ex3)) fun a hE=>S hE 2 rfl fun a hE=>?_
   obtain⟨m1,hg1,hl1⟩:=bnd hl1
   refine kV [_,_,_,_,_,_] (fun a w=>Env 50 [(36,(.bool m1)),(2,(.pointer (some ⟨b1,0,none⟩))),(3,(.pointer (some ⟨b2,0,none⟩))),(19,vp1),(20,(.int .i64 (p1.length:Int))),(21,(.int .i64 bC))] a∧Hp Z ρ (Pt b2 (.cells #[vp1] 25 (0,0))::Pt b1 (.cells #[(.int .i64 p0.vars),aG] 24 (0,0))::L) w) ?_ ?_
   ·rcases Bool.eq_false_or_eq_true (!decide (x2=x3)) with hc5|hc5
    ·
     replace hg1:=(it hc5).symm.trans hg1
     refine Gs hE hc5 rfl rfl fun a hE=>Gs hE hc5 rfl rfl fun a hE=>?_
     obtain⟨x4,ex4,hg1⟩:=bnd hg1
     refine G hE hp hc5 rfl (nZ rfl hE rfl (bF ex4)) fun a hE=>?_
     obtain⟨x5,ex5,hg1⟩:=bnd hg1
     refine G hE hp hc5 rfl (sW rfl hE rfl rfl (bF ex5)) fun a hE=>Gs hE hc5 rfl rfl fun a hE=>pk1 hE hc5 rfl rfl rfl rfl fun a hE=>?_
     obtain rfl:=Option.some.inj hg1
     exact aC ⟨hE.cut ⟨rfl,rfl,rfl,rfl,rfl,rfl,trivial⟩,hp⟩
    replace hg1:=(ie hc5).symm.trans hg1
    refine Gk hE hc5 rfl fun a hE=>Gk hE hc5 rfl fun a hE=>Gk hE hc5 rfl fun a hE=>Gk hE hc5 rfl fun a hE=>Gk hE hc5 rfl fun a hE=>pk0 hE hc5 rfl rfl rfl rfl fun a hE=>?_
    obtain rfl:=Option.some.inj hg1
    exact aC ⟨hE.cut ⟨rfl,rfl,rfl,rfl,rfl,rfl,trivial⟩,hp⟩
   rintro a w ⟨hE,hp⟩
   refine aC ?_
   refine dQ hE rfl (fun hc6=>?_) (fun hc6=>?_)
   ·replace hl1:=(it hc6).symm.trans hl1
    refine aH (aB ?_)
    refine S hE 1 rfl fun a hE=>aC (dE ?_)
    refine⟨_,(Option.some.inj hl1).symm,fun hb=>?_⟩
    subst hb
    obtain rfl:=Option.some.inj hm
    exact iV hE rfl rfl ⟨_,rfl,rfl,(((hp.get 1 rfl).drop).drop)⟩
   replace hl1:=(ie hc6).symm.trans hl1
   refine bT (aB ?_)
   obtain⟨x6,ex6,hl1⟩:=bnd hl1
   refine V hE hp rfl (dS rfl hE rfl rfl (bF ex6)) fun a hE=>S hE 1 rfl fun a hE=>aC ?_
   exact⟨_,(Option.some.inj hl1).symm,hE.cut ⟨rfl,rfl,rfl,rfl,rfl,trivial⟩,hp⟩
  replace hl1:=(ie hc4).symm.trans hl1
  refine eU ?_
  refine⟨_,(Option.some.inj hl1).symm,fun hbb=>?_⟩
  exact⟨_,hbb.symm,hE.cut ⟨rfl,rfl,trivial⟩,hp⟩
 rintro a w ⟨b3s,rfl,hE,hp⟩
 dsimp only at hm
 refine aH (aH ?_)
 refine aB (V hE hp rfl (xf hE mW rfl rfl) fun a hE=>?_)
 refine V hE hp rfl (xl hE mF 1 rfl rfl rfl rfl) fun a hE=>V hE hp rfl (dJ rfl hE rfl (bU.len bI nG)) fun a hE=>S hE 1 rfl fun a hE=>aC ?_
 obtain⟨b5,hc7,hm⟩:=bnd hm
 refine dN (fun a w=>∃s:Unit,b5= .brk s∧(Env 50 [] a∧Hp Z ρ (Pt b2 (.cells #[vp1] 25 (0,0))::Pt b1 (.cells #[(.int .i64 p0.vars),aG] 24 (0,0))::L) w)) ?_ ?_
 ·refine fV hc7 (fun s a w=>Env 50 [(3,(.pointer (some ⟨b2,0,none⟩))),(39,aG),(40,(.int .i64 (p0.clauses.length:Int))),(41,(.int .i64 s))] a∧Hp Z ρ (Pt b2 (.cells #[vp1] 25 (0,0))::Pt b1 (.cells #[(.int .i64 p0.vars),aG] 24 (0,0))::L) w) ?_ ?_
  ·exact⟨hE.cut ⟨rfl,rfl,rfl,rfl,trivial⟩,hp⟩
  rintro dV st a w ⟨hE,hp⟩ hl2
  unfold sJ at hl2
  refine aH (aB ?_)
  refine S hE 1 rfl fun a hE=>aC ?_
  have hE:=hE.cut (E':=[(3,(.pointer (some ⟨b2,0,none⟩))),(39,aG),(40,(.int .i64 (p0.clauses.length:Int))),(41,(.int .i64 dV)),(42,(.bool (decide (dV<(p0.clauses.length:Int)))))]) ⟨rfl,rfl,rfl,rfl,rfl,trivial⟩
  refine aH ?_
  refine dQ hE rfl (fun hc8=>?_) (fun hc8=>?_)
  ·replace hl2:=(it hc8).symm.trans hl2
   refine bT (aH ?_)
   refine dL (aH ?_)
   refine aB ?_
   obtain⟨x7,ex7,hl2⟩:=bnd hl2
   obtain⟨b6,b6o,b6c,b6r,b6k,b6f⟩:=bU.at bI nG ex7
   obtain⟨vb6,rfl,hb6⟩:=b6k
   have b6f:AtP ρ b6 b6o [vb6]:=b6f
   refine V hE hp rfl (aV rfl hE rfl rfl b6r) fun a hE=>V hE hp rfl (aZ rfl hE rfl (fun w hw=>bH bK (b6f.c 0 rfl w hw))) fun a hE=>S hE 1 rfl fun a hE=>aC (aH ?_)
   refine aB (S hE 1 rfl fun a hE=>?_)
   refine V hE hp rfl (v:=(.func (.func 45) #[] #[(.pointer (some ⟨b2,0,none⟩))])) (ex_fn rfl hE [(.pointer (some ⟨b2,0,none⟩))] (by exact⟨rfl,trivial⟩)) fun a hE=>?_
   obtain⟨x8,ex8,hl2⟩:=bnd hl2
   refine s_call (wk0 rfl) rfl rfl hE rfl [vb6,(.func (.func 45) #[] #[(.pointer (some ⟨b2,0,none⟩))])] ⟨rfl,rfl,trivial⟩ ent44 (tY x7 vb6 hb6 b2 p1 vp1 hp1 hp x8 ex8) Ret.ret ?_
   intro v a w hR hE
   obtain⟨rfl,hp⟩:=Ret.of hR
   have hp:=r2 hp
   refine S hE 1 rfl fun a hE=>aC ?_
   refine dQ hE rfl (fun hc9=>?_) (fun hc9=>?_)
   ·replace hl2:=(it hc9).symm.trans hl2
    refine aH (aB ?_)
    refine S hE 1 rfl fun a hE=>aC (dE ?_)
    refine⟨_,(Option.some.inj hl2).symm,fun hb=>?_⟩
    subst hb
    obtain rfl:=Option.some.inj hm
    exact iV hE rfl rfl ⟨_,rfl,rfl,(((hp.get 1 rfl).drop).drop)⟩
   replace hl2:=(ie hc9).symm.trans hl2
   refine bT (aB ?_)
   obtain⟨x9,ex9,hl2⟩:=bnd hl2
   refine V hE hp rfl (dS rfl hE rfl rfl (bF ex9)) fun a hE=>S hE 1 rfl fun a hE=>aC ?_
   exact⟨_,(Option.some.inj hl2).symm,hE.cut ⟨rfl,rfl,rfl,rfl,trivial⟩,hp⟩
  replace hl2:=(ie hc8).symm.trans hl2
  refine eU ?_
  refine⟨_,(Option.some.inj hl2).symm,fun hbb=>?_⟩
  exact⟨_,hbb.symm,hE.cut trivial,hp⟩
 rintro a w ⟨b5s,rfl,hE,hp⟩
 dsimp only at hm
 refine aH (aB ?_)
 refine S hE 1 rfl fun a hE=>aC (dE ?_)
 obtain rfl:=Option.some.inj hm
 exact iV hE rfl rfl ⟨_,rfl,rfl,(((hp.get 1 rfl).drop).drop)⟩
set_option maxRecDepth 100000 in
set_option maxHeartbeats 4000000 in
theorem c_cnf_Normal {Z:World} {ρ:PH} {L:List bV} {w:World} (p0:(List Int)) (vp0:Value) (hp0:bU ρ vp0 p0) (hp:Hp Z ρ (L) w) (r:((List Int)×Bool)) (hm:uH p0=some r):
  Calls Try.prog 68 #[vp0] w (Ret fun v w'=>∃(vr1:Value),v= .tuple #[vr1,(.bool r.2)]∧Hp Z ρ (aA 3 vr1 r.1::L) w'):=by
 refine enter (N:=49) Try.func68 rfl rfl [(0,vp0)] rfl (bP ⟨rfl,trivial⟩) fun a hE=>?_
 unfold uH at hm
 refine aH (aB ?_)
 refine S hE 2 rfl fun a hE=>aC (aH ?_)
 refine aH (aB ?_)
 refine S hE 1 rfl fun a hE=>V hE hp rfl (dJ rfl hE rfl (bU.len hp0 aY)) fun a hE=>S hE 1 rfl fun a hE=>aC ?_
 obtain⟨b1,hc1,hm⟩:=bnd hm
 refine dN (fun a w=>∃s:Unit,b1= .brk s∧(Env 49 [(0,vp0)] a∧Hp Z ρ (L) w)) ?_ ?_
 ·refine fV hc1 (fun s a w=>Env 49 [(0,vp0),(8,vp0),(9,(.int .i64 (p0.length:Int))),(10,(.int .i64 s))] a∧Hp Z ρ (L) w) ?_ ?_
  ·exact⟨hE.cut ⟨rfl,rfl,rfl,rfl,trivial⟩,hp⟩
  rintro bC st a w ⟨hE,hp⟩ hl1
  unfold rJ at hl1
  refine aH (aB ?_)
  refine S hE 1 rfl fun a hE=>aC (aH ?_)
  refine dQ hE rfl (fun hc2=>?_) (fun hc2=>?_)
  ·replace hl1:=(it hc2).symm.trans hl1
   refine bT (aH ?_)
   refine dL (aH ?_)
   refine aB ?_
   obtain⟨x1,ex1,hl1⟩:=bnd hl1
   obtain⟨b2,b2o,b2c,b2r,b2k,b2f⟩:=bU.at hp0 aY ex1
   obtain rfl:b2c=Enc.enc x1:=b2k
   have b2f:AtP ρ b2 b2o [(.int .i64 x1)]:=b2f
   refine V hE hp rfl (aV rfl hE rfl rfl b2r) fun a hE=>V hE hp rfl (aZ rfl hE rfl (fun w hw=>bH bG (b2f.c 0 rfl w hw))) fun a hE=>S hE 1 rfl fun a hE=>aC (aH ?_)
   refine aB (S hE 3 rfl fun a hE=>?_)
   refine kV [_,_,_] (fun a w=>Env 49 [(19,(.bool ((decide (x1=0))||(decide (x1<(-1073741824)))))),(0,vp0),(5,(.int .i64 x1)),(8,vp0),(9,(.int .i64 (p0.length:Int))),(10,(.int .i64 bC))] a∧Hp Z ρ (L) w) ?_ ?_
   ·rcases Bool.eq_false_or_eq_true (decide (x1=0)) with hc3|hc3
    ·
     refine Gk hE hc3 rfl fun a hE=>Gk hE hc3 rfl fun a hE=>pk1 hE hc3 rfl rfl rfl rfl fun a hE=>?_
     have hE:=hE.eqv (v':=(.bool ((decide (x1=0))||(decide (x1<(-1073741824)))))) (by rw[hc3];rfl)
     exact aC ⟨hE.cut ⟨rfl,rfl,rfl,rfl,rfl,rfl,trivial⟩,hp⟩
    refine Gs hE hc3 rfl rfl fun a hE=>Gs hE hc3 rfl rfl fun a hE=>pk0 hE hc3 rfl rfl rfl rfl fun a hE=>?_
    have hE:=hE.eqv (v':=(.bool ((decide (x1=0))||(decide (x1<(-1073741824)))))) (by rw[hc3];rfl)
    exact aC ⟨hE.cut ⟨rfl,rfl,rfl,rfl,rfl,rfl,trivial⟩,hp⟩
   rintro a w ⟨hE,hp⟩
   refine S hE 1 rfl fun a hE=>?_
   refine kV [_,_,_] (fun a w=>Env 49 [(23,(.bool (((decide (x1=0))||(decide (x1<(-1073741824))))||(decide (1073741824<x1))))),(0,vp0),(8,vp0),(9,(.int .i64 (p0.length:Int))),(10,(.int .i64 bC))] a∧Hp Z ρ (L) w) ?_ ?_
   ·rcases Bool.eq_false_or_eq_true ((decide (x1=0))||(decide (x1<(-1073741824)))) with hc4|hc4
    ·
     refine Gk hE hc4 rfl fun a hE=>Gk hE hc4 rfl fun a hE=>pk1 hE hc4 rfl rfl rfl rfl fun a hE=>?_
     have hE:=hE.eqv (v':=(.bool (((decide (x1=0))||(decide (x1<(-1073741824))))||(decide (1073741824<x1))))) (by rw[hc4];rfl)
     exact aC ⟨hE.cut ⟨rfl,rfl,rfl,rfl,rfl,trivial⟩,hp⟩
    refine Gs hE hc4 rfl rfl fun a hE=>Gs hE hc4 rfl rfl fun a hE=>pk0 hE hc4 rfl rfl rfl rfl fun a hE=>?_
    have hE:=hE.eqv (v':=(.bool (((decide (x1=0))||(decide (x1<(-1073741824))))||(decide (1073741824<x1))))) (by rw[hc4];rfl)
    exact aC ⟨hE.cut ⟨rfl,rfl,rfl,rfl,rfl,trivial⟩,hp⟩
   rintro a w ⟨hE,hp⟩
   refine aC ?_
   refine dQ hE rfl (fun hc5=>?_) (fun hc5=>?_)
   ·replace hl1:=(it hc5).symm.trans hl1
    refine aH (aB ?_)
    refine S hE 2 rfl fun a hE=>aC (dE ?_)
    refine⟨_,(Option.some.inj hl1).symm,fun hb=>?_⟩
    subst hb
    have hp:=hp.emp (aA.nil (α:=Int) 3)
    have hp:=r1 hp
    obtain rfl:=Option.some.inj hm
    exact ret2 hE rfl rfl rfl ⟨_,rfl,_,rfl,hp⟩
   replace hl1:=(ie hc5).symm.trans hl1
   refine bT (aB ?_)
   obtain⟨x2,ex2,hl1⟩:=bnd hl1
   refine V hE hp rfl (dS rfl hE rfl rfl (bF ex2)) fun a hE=>S hE 1 rfl fun a hE=>aC ?_
   exact⟨_,(Option.some.inj hl1).symm,hE.cut ⟨rfl,rfl,rfl,rfl,trivial⟩,hp⟩
  replace hl1:=(ie hc2).symm.trans hl1
  refine eU ?_
  refine⟨_,(Option.some.inj hl1).symm,fun hbb=>?_⟩
  exact⟨_,hbb.symm,hE.cut ⟨rfl,trivial⟩,hp⟩
 rintro a w ⟨b1s,rfl,hE,hp⟩
 dsimp only at hm
 refine aH (aB ?_)
 refine S hE 1 rfl fun a hE=>?_
 obtain⟨x3,ex3,hm⟩:=bnd hm
 refine s_call (wk0 rfl) rfl rfl hE rfl [vp0] ⟨rfl,trivial⟩ ent39 (tH p0 vp0 hp0 hp x3 ex3) Ret.ret ?_
 intro v1 a w hR hE
 obtain⟨u,hu,hp⟩:=Ret.of hR
 rw[←hu] at hp
 have hp:=r1 hp
 refine S hE 1 rfl fun a hE=>aC (aH ?_)
 refine aB (S hE 1 rfl fun a hE=>?_)
 obtain⟨x4,ex4,hm⟩:=bnd hm
 refine s_call (wk0 rfl) rfl rfl hE rfl [v1,(.func (.func 76) #[] #[])] ⟨rfl,rfl,trivial⟩ ent75 (c_sortN x3 v1 hp x4 ex4) Ret.ret ?_
 intro v a w hR hE
 obtain⟨rfl,hp⟩:=Ret.of hR
 have hp:=r1 hp
 refine aC (aH ?_)
 refine aB (S hE 1 rfl fun a hE=>?_)
 obtain⟨x5,ex5,hm⟩:=bnd hm
 refine s_call (wk0 rfl) rfl rfl hE rfl [v1] ⟨rfl,trivial⟩ ent79 (c_compactI_own x4 v1 (hp.get 0 rfl) x5 ex5) Ret.ret ?_
 intro v2 a w hR hE
 obtain⟨u,hu,hp⟩:=Ret.of hR
 rw[←hu] at hp
 have hp:=r1 hp
 refine S hE 1 rfl fun a hE=>aC (aH ?_)
 refine aH (aB ?_)
 refine S hE 1 rfl fun a hE=>aC ?_
 obtain⟨b3,hc6,hm⟩:=bnd hm
 refine dN (fun a w=>∃s:Unit,b3= .brk s∧(Env 49 [(6,v2)] a∧Hp Z ρ (aA 3 v2 x5::L) w)) ?_ ?_
 ·refine fV hc6 (fun s a w=>Env 49 [(6,v2),(7,(.int .i64 s))] a∧Hp Z ρ (aA 3 v2 x5::L) w) ?_ ?_
  ·exact⟨hE.cut ⟨rfl,rfl,trivial⟩,hp⟩
  rintro dV st a w ⟨hE,hp⟩ hl2
  unfold lU at hl2
  refine aH (aH ?_)
  refine aB (S hE 2 rfl fun a hE=>?_)
  refine V hE hp rfl (dJ rfl hE rfl (aA.len hp 0 rfl aY)) fun a hE=>S hE 1 rfl fun a hE=>aC ?_
  refine dQ hE rfl (fun hc7=>?_) (fun hc7=>?_)
  ·replace hl2:=(it hc7).symm.trans hl2
   refine bT (aH ?_)
   refine dL (aH ?_)
   refine mY (by kernel_rfl) (by kernel_rfl) hp ?_
   refine Sq hE 2 rfl fun a hE=>?_
   obtain⟨x6,ex6,hl2⟩:=bnd hl2
   refine Vq hE rfl (sW rfl hE rfl rfl (bF ex6)) fun a hE=>?_
   obtain⟨x7,ex7,hl2⟩:=bnd hl2
   obtain⟨b4,b4o,b4r,b4v,b4f⟩:=aA.at hp 0 rfl aY ex7
   refine Vq hE rfl (aV rfl hE rfl rfl b4r) fun a hE=>Vq hE rfl (aZ rfl hE rfl (fun w hw=>bH bG (b4f 0 _ rfl _ _ w (hw.get 0 rfl)))) fun a hE=>Sq hE 2 rfl fun a hE=>?_
   obtain⟨x8,ex8,hl2⟩:=bnd hl2
   obtain⟨b5,b5o,b5r,b5v,b5f⟩:=aA.at hp 0 rfl aY ex8
   refine Vq hE rfl (aV rfl hE rfl rfl b5r) fun a hE=>Vq hE rfl (aZ rfl hE rfl (fun w hw=>bH bG (b5f 0 _ rfl _ _ w (hw.get 0 rfl)))) fun a hE=>?_
   obtain⟨x9,ex9,hl2⟩:=bnd hl2
   refine Vq hE rfl (nZ rfl hE rfl (bF ex9)) fun a hE=>Sq hE 1 rfl fun a hE=>?_
   refine oW fun w hp=>?_
   have hp:=r1 hp
   refine dQ hE rfl (fun hc8=>?_) (fun hc8=>?_)
   ·replace hl2:=(it hc8).symm.trans hl2
    refine aH (aB ?_)
    refine S hE 2 rfl fun a hE=>aC ?_
    have hE:=hE.cut (E':=[(2,(.slice none 0 0)),(3,(.bool false))]) ⟨rfl,rfl,trivial⟩
    refine dE ?_
    refine⟨_,(Option.some.inj hl2).symm,fun hb=>?_⟩
    subst hb
    have hp:=hp.emp (aA.nil (α:=Int) 3)
    have hp:=r2 hp
    obtain rfl:=Option.some.inj hm
    exact ret2 hE rfl rfl rfl ⟨_,rfl,_,rfl,((hp.get 1 rfl).drop)⟩
   replace hl2:=(ie hc8).symm.trans hl2
   refine bT (aB ?_)
   refine S hE 1 rfl fun a hE=>?_
   obtain⟨x10,ex10,hl2⟩:=bnd hl2
   refine V hE hp rfl (dS rfl hE rfl rfl (bF ex10)) fun a hE=>S hE 1 rfl fun a hE=>aC ?_
   exact⟨_,(Option.some.inj hl2).symm,hE.cut ⟨rfl,rfl,trivial⟩,hp⟩
  replace hl2:=(ie hc7).symm.trans hl2
  refine eU ?_
  refine⟨_,(Option.some.inj hl2).symm,fun hbb=>?_⟩
  exact⟨_,hbb.symm,hE.cut ⟨rfl,trivial⟩,hp⟩
 rintro a w ⟨b3s,rfl,hE,hp⟩
 dsimp only at hm
 refine aH (aB ?_)
 refine S hE 3 rfl fun a hE=>aC (dE ?_)
 obtain rfl:=Option.some.inj hm
 exact ret2 hE rfl rfl rfl ⟨_,rfl,_,rfl,hp⟩
end Go.Proofs.Ytpkhmndpeipfmaa
