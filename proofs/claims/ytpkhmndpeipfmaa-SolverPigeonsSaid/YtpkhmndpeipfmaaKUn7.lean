/- The code goes as its model: assessor/cnf.variable, assessor/cnf.normal, assessor/cnf.Valid, assessor/cnf.Holds$1, slices.IndexFunc[[]int,int]@assessor/cnf.Holds -/
import Derived.Test.YtpkhmndpeipfmaaKUnT
import Derived.Test.YtpkhmndpeipfmaaKUn5
import Derived.Test.YtpkhmndpeipfmaaKUn6
set_option linter.unusedVariables false
set_option linter.unusedSimpArgs false
set_option maxRecDepth 100000
set_option maxHeartbeats 4000000
namespace Go.Proofs.Ytpkhmndpeipfmaa
open Go.RowKit
theorem yN {Z:World} {ρ:PH} {L:List bZ} {w:World} (p0:Int) (hp:Hp Z ρ (L) w) (r:Int) (hm:pG p0=some r):
  Calls Try.prog 46 #[(Iv p0)] w (Ret fun v w'=>v=(Iv r)∧Hp Z ρ (L) w'):=by
 refine enter (N:=7) Try.func46 rfl rfl [(0,(Iv p0))] rfl (bM ⟨rfl,trivial⟩) fun a hE=>?_
 unfold pG at hm
 refine aG (aB ?_)
 refine S hE 1 rfl fun a hE=>aC (aG ?_)
 refine aB (S hE 2 rfl fun a hE=>?_)
 obtain⟨x1,ex1,hm⟩:=bnd hm
 refine V hE hp rfl (mX rfl hE rfl (aZ ex1)) fun a hE=>V hE hp rfl (v:=(Iv (max p0 x1))) (ex_max rfl hE rfl rfl) fun a hE=>S hE 1 rfl fun a hE=>aC (dE ?_)
 obtain rfl:=oj hm
 exact iH hE rfl rfl ⟨_,rfl,rfl,hp⟩
theorem c_cnf_normal {Z:World} {ρ:PH} {L:List bZ} {w:World} (p0:(List Int)) (vp0:Value) (hp0:bW ρ vp0 p0) (p1:Int) (hp:Hp Z ρ (L) w) (r:Bool) (hm:vK p0 p1=some r):
  Calls Try.prog 41 #[vp0,(Iv p1)] w (Ret fun v w'=>v=(.bool r)∧Hp Z ρ (L) w'):=by
 refine enter (N:=32) Try.func41 rfl rfl [(0,vp0),(1,(Iv p1))] rfl (bM ⟨rfl,rfl,trivial⟩) fun a hE=>?_
 unfold vK at hm
 refine aG (aB ?_)
 refine S hE 1 rfl fun a hE=>aC (aG ?_)
 refine aB (S hE 1 rfl fun a hE=>?_)
 refine aC (aG ?_)
 refine aG (aB ?_)
 refine S hE 1 rfl fun a hE=>V hE hp rfl (dL rfl hE rfl (bW.len hp0 bC)) fun a hE=>S hE 1 rfl fun a hE=>aC ?_
 obtain⟨b1,hc1,hm⟩:=bnd hm
 refine dH (fun a w=>∃s:Unit,b1= .brk s∧(Env 32 [] a∧Hp Z ρ (L) w)) ?_ ?_
 ·refine eU hc1 (fun s a w=>Env 32 [(1,(Iv p1)),(5,(Iv s.1)),(8,vp0),(9,(Iv (p0.length:Int))),(10,(Iv s.2))] a∧Hp Z ρ (L) w) ?_ ?_
  ·exact⟨hE.cut ⟨rfl,rfl,rfl,rfl,rfl,trivial⟩,hp⟩
  rintro⟨aW,bU⟩ st a w ⟨hE,hp⟩ hl1
  dsimp only at hE hp hl1
  unfold qP at hl1
  refine aG (aB ?_)
  refine S hE 1 rfl fun a hE=>aC (aG ?_)
  refine dK hE rfl (fun hc2=>?_) (fun hc2=>?_)
  ·replace hl1:=(it hc2).symm.trans hl1
   refine bP (aG ?_)
   refine dF (aG ?_)
   refine aB ?_
   obtain⟨x1,ex1,hl1⟩:=bnd hl1
   obtain⟨b2,b2o,b2c,b2r,b2k,b2f⟩:=bW.at hp0 bC ex1
   obtain rfl:b2c=Enc.enc x1:=b2k
   have b2f:AtP ρ b2 b2o [(Iv x1)]:=b2f
   refine V hE hp rfl (aU rfl hE rfl rfl b2r) fun a hE=>V hE hp rfl (bD rfl hE rfl (fun w hw=>bH bG (b2f.c 0 rfl w hw))) fun a hE=>S hE 1 rfl fun a hE=>aC (aG ?_)
   refine aG (aB ?_)
   refine S hE 2 rfl fun a hE=>?_
   obtain⟨x2,ex2,hl1⟩:=bnd hl1
   refine V hE hp rfl (mX rfl hE rfl (aZ ex2)) fun a hE=>S hE 2 rfl fun a hE=>?_
   refine lZ [_,_,_,_] (fun a w=>Env 32 [(22,(.bool ((decide (x1<x2))||(decide (p1<x1))))),(1,(Iv p1)),(5,(Iv aW)),(7,(Iv x1)),(8,vp0),(9,(Iv (p0.length:Int))),(10,(Iv bU))] a∧Hp Z ρ (L) w) ?_ ?_
   ·rcases Bool.eq_false_or_eq_true (decide (x1<x2)) with hc3|hc3
    ·
     refine Gk hE hc3 rfl fun a hE=>Gk hE hc3 rfl fun a hE=>Gk hE hc3 rfl fun a hE=>pk1 hE hc3 rfl rfl rfl rfl fun a hE=>?_
     have hE:=hE.eqv (v':=(.bool ((decide (x1<x2))||(decide (p1<x1))))) (by rw[hc3];rfl)
     exact aC ⟨hE.cut ⟨rfl,rfl,rfl,rfl,rfl,rfl,rfl,trivial⟩,hp⟩
    refine Gs hE hc3 rfl rfl fun a hE=>Gs hE hc3 rfl rfl fun a hE=>Gs hE hc3 rfl rfl fun a hE=>pk0 hE hc3 rfl rfl rfl rfl fun a hE=>?_
    have hE:=hE.eqv (v':=(.bool ((decide (x1<x2))||(decide (p1<x1))))) (by rw[hc3];rfl)
    exact aC ⟨hE.cut ⟨rfl,rfl,rfl,rfl,rfl,rfl,rfl,trivial⟩,hp⟩
   rintro a w ⟨hE,hp⟩
   refine S hE 1 rfl fun a hE=>?_
   obtain⟨m1,hg1,hl1⟩:=bnd hl1
   refine lZ [_,_,_,_,_] (fun a w=>Env 32 [(28,(.bool m1)),(1,(Iv p1)),(7,(Iv x1)),(8,vp0),(9,(Iv (p0.length:Int))),(10,(Iv bU))] a∧Hp Z ρ (L) w) ?_ ?_
   ·rcases Bool.eq_false_or_eq_true ((decide (x1<x2))||(decide (p1<x1))) with hc4|hc4
    ·
     replace hg1:=(it hc4).symm.trans hg1
     refine Gk hE hc4 rfl fun a hE=>Gk hE hc4 rfl fun a hE=>Gk hE hc4 rfl fun a hE=>Gk hE hc4 rfl fun a hE=>pk1 hE hc4 rfl rfl rfl rfl fun a hE=>?_
     obtain rfl:=oj hg1
     exact aC ⟨hE.cut ⟨rfl,rfl,rfl,rfl,rfl,rfl,trivial⟩,hp⟩
    replace hg1:=(ie hc4).symm.trans hg1
    refine Gs hE hc4 rfl rfl fun a hE=>?_
    obtain⟨x3,ex3,hg1⟩:=bnd hg1
    refine Cg hE hc4 rfl rfl ent46 (yN x1 hp x3 ex3) ⟨rfl,trivial⟩ fun v a w hR hE=>?_
    obtain⟨rfl,hp⟩:=hR
    have hp:=r0 hp
    refine Gs hE hc4 rfl rfl fun a hE=>Gs hE hc4 rfl rfl fun a hE=>pk0 hE hc4 rfl rfl rfl rfl fun a hE=>?_
    obtain rfl:=oj hg1
    exact aC ⟨hE.cut ⟨rfl,rfl,rfl,rfl,rfl,rfl,trivial⟩,hp⟩
   rintro a w ⟨hE,hp⟩
   refine aC ?_
   refine dK hE rfl (fun hc5=>?_) (fun hc5=>?_)
   ·replace hl1:=(it hc5).symm.trans hl1
    refine aG (aB ?_)
    refine S hE 1 rfl fun a hE=>aC (dE ?_)
    refine⟨_,(oj hl1).symm,fun hb=>?_⟩
    subst hb
    obtain rfl:=oj hm
    exact iH hE rfl rfl ⟨_,rfl,rfl,hp⟩
   replace hl1:=(ie hc5).symm.trans hl1
   refine bP (aB ?_)
   refine S hE 1 rfl fun a hE=>?_
   obtain⟨x4,ex4,hl1⟩:=bnd hl1
   refine Cl hE rfl rfl ent46 (yN x1 hp x4 ex4) ⟨rfl,trivial⟩ fun v a w hR hE=>?_
   obtain⟨rfl,hp⟩:=hR
   have hp:=r0 hp
   refine S hE 1 rfl fun a hE=>aC (aB ?_)
   obtain⟨x5,ex5,hl1⟩:=bnd hl1
   refine V hE hp rfl (dD rfl hE rfl rfl (aZ ex5)) fun a hE=>S hE 1 rfl fun a hE=>aC ?_
   exact⟨_,(oj hl1).symm,hE.cut ⟨rfl,rfl,rfl,rfl,rfl,trivial⟩,hp⟩
  replace hl1:=(ie hc2).symm.trans hl1
  refine dR ?_
  refine⟨_,(oj hl1).symm,fun hbb=>?_⟩
  exact⟨_,hbb.symm,hE.cut trivial,hp⟩
 rintro a w ⟨b1s,rfl,hE,hp⟩
 dsimp only at hm
 refine aG (aB ?_)
 refine S hE 1 rfl fun a hE=>aC (dE ?_)
 obtain rfl:=oj hm
 exact iH hE rfl rfl ⟨_,rfl,rfl,hp⟩
theorem zH {Z:World} {ρ:PH} {L:List bZ} {w:World} (p0:Formula) (aH:Value) (bI:bW ρ aH p0.clauses) (hp:Hp Z ρ (L) w) (r:Bool) (hm:qZ p0=some r):
  Calls Try.prog 19 #[(.agg #[(Iv p0.vars),aH])] w (Ret fun v w'=>v=(.bool r)∧Hp Z ρ (L) w'):=by
 refine enter (N:=32) Try.func19 rfl rfl [(0,(.agg #[(Iv p0.vars),aH]))] rfl (bM ⟨rfl,trivial⟩) fun a hE=>?_
 unfold qZ at hm
 refine aG (aB ?_)
 refine rO (wk0 rfl) rfl rfl hE hp rfl (v:=(.agg #[(Iv p0.vars),aH])) rfl ?_
 intro a w b1 hE hp
 have hp:=r1 hp
 refine S hE 1 rfl fun a hE=>aC (aG ?_)
 refine aG (aB ?_)
 refine V hE hp rfl (xf hE lM rfl rfl) fun a hE=>V hE hp rfl (xl hE bG 0 rfl rfl rfl rfl) fun a hE=>S hE 2 rfl fun a hE=>?_
 refine lZ [_,_,_,_] (fun a w=>Env 32 [(12,(.bool ((decide (p0.vars<0))||(decide (65536<p0.vars))))),(1,(Pv b1 0))] a∧Hp Z ρ (Pt b1 (.cells #[(Iv p0.vars),aH] 24 (0,0))::L) w) ?_ ?_
 ·rcases Bool.eq_false_or_eq_true (decide (p0.vars<0)) with hc1|hc1
  ·
   refine Gk hE hc1 rfl fun a hE=>Gk hE hc1 rfl fun a hE=>Gk hE hc1 rfl fun a hE=>pk1 hE hc1 rfl rfl rfl rfl fun a hE=>?_
   have hE:=hE.eqv (v':=(.bool ((decide (p0.vars<0))||(decide (65536<p0.vars))))) (by rw[hc1];rfl)
   exact aC ⟨hE.cut ⟨rfl,rfl,trivial⟩,hp⟩
  refine G hE hp hc1 rfl (xf hE lM rfl rfl) fun a hE=>G hE hp hc1 rfl (xl hE bG 0 rfl rfl rfl rfl) fun a hE=>Gs hE hc1 rfl rfl fun a hE=>pk0 hE hc1 rfl rfl rfl rfl fun a hE=>?_
  have hE:=hE.eqv (v':=(.bool ((decide (p0.vars<0))||(decide (65536<p0.vars))))) (by rw[hc1];rfl)
  exact aC ⟨hE.cut ⟨rfl,rfl,trivial⟩,hp⟩
 rintro a w ⟨hE,hp⟩
 refine S hE 1 rfl fun a hE=>?_
 refine lZ [_,_,_,_,_] (fun a w=>Env 32 [(18,(.bool (((decide (p0.vars<0))||(decide (65536<p0.vars)))||(decide (262144<(p0.clauses.length:Int)))))),(1,(Pv b1 0))] a∧Hp Z ρ (Pt b1 (.cells #[(Iv p0.vars),aH] 24 (0,0))::L) w) ?_ ?_
 ·rcases Bool.eq_false_or_eq_true ((decide (p0.vars<0))||(decide (65536<p0.vars))) with hc2|hc2
  ·
   refine Gk hE hc2 rfl fun a hE=>Gk hE hc2 rfl fun a hE=>Gk hE hc2 rfl fun a hE=>Gk hE hc2 rfl fun a hE=>pk1 hE hc2 rfl rfl rfl rfl fun a hE=>?_
   have hE:=hE.eqv (v':=(.bool (((decide (p0.vars<0))||(decide (65536<p0.vars)))||(decide (262144<(p0.clauses.length:Int)))))) (by rw[hc2];rfl)
   exact aC ⟨hE.cut ⟨rfl,rfl,trivial⟩,hp⟩
  refine G hE hp hc2 rfl (xf hE iL rfl rfl) fun a hE=>G hE hp hc2 rfl (xl hE jD 0 rfl rfl rfl rfl) fun a hE=>G hE hp hc2 rfl (dL rfl hE rfl (bW.len bI kU)) fun a hE=>Gs hE hc2 rfl rfl fun a hE=>pk0 hE hc2 rfl rfl rfl rfl fun a hE=>?_
  have hE:=hE.eqv (v':=(.bool (((decide (p0.vars<0))||(decide (65536<p0.vars)))||(decide (262144<(p0.clauses.length:Int)))))) (by rw[hc2];rfl)
  exact aC ⟨hE.cut ⟨rfl,rfl,trivial⟩,hp⟩
 rintro a w ⟨hE,hp⟩
 refine aC ?_
 refine dK hE rfl (fun hc3=>?_) (fun hc3=>?_)
 ·replace hm:=(it hc3).symm.trans hm
  refine aG (aB ?_)
  refine S hE 1 rfl fun a hE=>aC (dE ?_)
  obtain rfl:=oj hm
  exact iH hE rfl rfl ⟨_,rfl,rfl,(hp.drop)⟩
 replace hm:=(ie hc3).symm.trans hm
 refine bP (aG ?_)
 refine aG (aB ?_)
 refine V hE hp rfl (xf hE iL rfl rfl) fun a hE=>V hE hp rfl (xl hE jD 0 rfl rfl rfl rfl) fun a hE=>V hE hp rfl (dL rfl hE rfl (bW.len bI kU)) fun a hE=>S hE 1 rfl fun a hE=>aC ?_
 obtain⟨b2,hc4,hm⟩:=bnd hm
 refine dH (fun a w=>∃s:Unit,b2= .brk s∧(Env 32 [] a∧Hp Z ρ (Pt b1 (.cells #[(Iv p0.vars),aH] 24 (0,0))::L) w)) ?_ ?_
 ·refine eU hc4 (fun s a w=>Env 32 [(1,(Pv b1 0)),(20,aH),(21,(Iv (p0.clauses.length:Int))),(22,(Iv s))] a∧Hp Z ρ (Pt b1 (.cells #[(Iv p0.vars),aH] 24 (0,0))::L) w) ?_ ?_
  ·exact⟨hE.cut ⟨rfl,rfl,rfl,rfl,trivial⟩,hp⟩
  rintro aW st a w ⟨hE,hp⟩ hl1
  unfold uH at hl1
  refine aG (aB ?_)
  refine S hE 1 rfl fun a hE=>aC (aG ?_)
  refine dK hE rfl (fun hc5=>?_) (fun hc5=>?_)
  ·replace hl1:=(it hc5).symm.trans hl1
   refine bP (aG ?_)
   refine dF (aG ?_)
   refine aB ?_
   obtain⟨x1,ex1,hl1⟩:=bnd hl1
   obtain⟨b3,b3o,b3c,b3r,b3k,b3f⟩:=bW.at bI kU ex1
   obtain⟨vb3,rfl,hb3⟩:=b3k
   have b3f:AtP ρ b3 b3o [vb3]:=b3f
   refine V hE hp rfl (aU rfl hE rfl rfl b3r) fun a hE=>V hE hp rfl (bD rfl hE rfl (fun w hw=>bH bJ (b3f.c 0 rfl w hw))) fun a hE=>S hE 1 rfl fun a hE=>aC (aG ?_)
   refine aB (S hE 1 rfl fun a hE=>?_)
   refine V hE hp rfl (xf hE lM rfl rfl) fun a hE=>V hE hp rfl (xl hE bG 0 rfl rfl rfl rfl) fun a hE=>?_
   obtain⟨x2,ex2,hl1⟩:=bnd hl1
   refine Cl hE rfl rfl ent41 (c_cnf_normal x1 vb3 hb3 p0.vars hp x2 ex2) ⟨rfl,rfl,trivial⟩ fun v a w hR hE=>?_
   obtain⟨rfl,hp⟩:=hR
   have hp:=r1 hp
   refine S hE 1 rfl fun a hE=>aC ?_
   have hE:=hE.cut (E':=[(1,(Pv b1 0)),(20,aH),(21,(Iv (p0.clauses.length:Int))),(22,(Iv aW)),(30,(.bool (!x2)))]) ⟨rfl,rfl,rfl,rfl,rfl,trivial⟩
   refine dK hE rfl (fun hc6=>?_) (fun hc6=>?_)
   ·replace hl1:=(it hc6).symm.trans hl1
    refine aG (aB ?_)
    refine S hE 1 rfl fun a hE=>aC (dE ?_)
    refine⟨_,(oj hl1).symm,fun hb=>?_⟩
    subst hb
    obtain rfl:=oj hm
    exact iH hE rfl rfl ⟨_,rfl,rfl,(hp.drop)⟩
   replace hl1:=(ie hc6).symm.trans hl1
   refine bP (aB ?_)
   obtain⟨x3,ex3,hl1⟩:=bnd hl1
   refine V hE hp rfl (dD rfl hE rfl rfl (aZ ex3)) fun a hE=>S hE 1 rfl fun a hE=>aC ?_
   exact⟨_,(oj hl1).symm,hE.cut ⟨rfl,rfl,rfl,rfl,trivial⟩,hp⟩
  replace hl1:=(ie hc5).symm.trans hl1
  refine dR ?_
  refine⟨_,(oj hl1).symm,fun hbb=>?_⟩
  exact⟨_,hbb.symm,hE.cut trivial,hp⟩
 rintro a w ⟨b2s,rfl,hE,hp⟩
 dsimp only at hm
 refine aG (aB ?_)
 refine S hE 1 rfl fun a hE=>aC (dE ?_)
 obtain rfl:=oj hm
 exact iH hE rfl rfl ⟨_,rfl,rfl,(hp.drop)⟩
theorem c_cnf_Holds_1 {Z:World} {ρ:PH} {L:List bZ} {w:World} (p0:Int) (bcp0:Nat) (cp0:(List Int)) (vcp0:Value) (hcp0:bW ρ vcp0 cp0) (hp:Hp Z ρ (Pt bcp0 (.cells #[vcp0] 25 (0,0))::L) w) (r:Bool) (hm:uB p0 cp0=some r):
  Calls Try.prog 45 #[(Iv p0),(Pv bcp0 0)] w (Ret fun v w'=>v=(.bool r)∧Hp Z ρ (Pt bcp0 (.cells #[vcp0] 25 (0,0))::L) w'):=by
 refine enter (N:=12) Try.func45 rfl rfl [(0,(Iv p0)),(1,(Pv bcp0 0))] rfl (bM ⟨rfl,rfl,trivial⟩) fun a hE=>?_
 unfold uB at hm
 refine aG (aB ?_)
 refine S hE 1 rfl fun a hE=>aC (aG ?_)
 refine oN (by kernel_rfl) (by kernel_rfl) hp ?_
 refine Vq hE rfl (xl hE bJ 0 rfl rfl rfl rfl) fun a hE=>Sq hE 1 rfl fun a hE=>?_
 obtain⟨x1,ex1,hm⟩:=bnd hm
 refine yU (wk0 rfl) rfl rfl hE rfl [(Iv p0)] ⟨rfl,trivial⟩ ent46 (v:=(Iv x1)) (fun w hw=>Calls.mono (yN p0 hw x1 ex1) fun e w' ⟨v,he,hv,hh⟩=>⟨by rw[he,hv],hh⟩) ?_
 intro a hE
 obtain⟨x2,ex2,hm⟩:=bnd hm
 refine Vq hE rfl (rX rfl hE rfl rfl (aZ ex2)) fun a hE=>?_
 obtain⟨x3,ex3,hm⟩:=bnd hm
 obtain⟨b1,b1o,b1c,b1r,b1k,b1f⟩:=bW.at hcp0 bC ex3
 obtain rfl:b1c=Enc.enc x3:=b1k
 have b1f:AtP ρ b1 b1o [(Iv x3)]:=b1f
 refine Vq hE rfl (aU rfl hE rfl rfl b1r) fun a hE=>Vq hE rfl (bD rfl hE rfl (fun w hw=>bH bG (b1f.c 0 rfl w hw))) fun a hE=>Sq hE 3 rfl fun a hE=>?_
 refine qR fun w hp=>?_
 have hp:=r1 hp
 refine dE ?_
 obtain rfl:=oj hm
 exact iH hE rfl rfl ⟨_,rfl,rfl,hp⟩
theorem vW {Z:World} {ρ:PH} {L:List bZ} {w:World} (p0:(List Int)) (vp0:Value) (hp0:bW ρ vp0 p0) (bp1c0:Nat) (p1c0:(List Int)) (vp1c0:Value) (hp1c0:bW ρ vp1c0 p1c0) (hp:Hp Z ρ (Pt bp1c0 (.cells #[vp1c0] 25 (0,0))::L) w) (r:Int) (hm:kG p0 p1c0=some r):
  Calls Try.prog 62 #[vp0,(.func (.func 45) #[] #[(Pv bp1c0 0)])] w (Ret fun v w'=>v=(Iv r)∧Hp Z ρ (Pt bp1c0 (.cells #[vp1c0] 25 (0,0))::L) w'):=by
 refine enter (N:=19) Try.func62 rfl rfl [(0,vp0),(1,(.func (.func 45) #[] #[(Pv bp1c0 0)]))] rfl (bM ⟨rfl,rfl,trivial⟩) fun a hE=>?_
 unfold kG at hm
 refine aG (aB ?_)
 refine S hE 1 rfl fun a hE=>aC (aG ?_)
 refine aG (aB ?_)
 refine S hE 1 rfl fun a hE=>V hE hp rfl (dL rfl hE rfl (bW.len hp0 bC)) fun a hE=>S hE 1 rfl fun a hE=>aC ?_
 obtain⟨b1,hc1,hm⟩:=bnd hm
 refine dH (fun a w=>∃s:Unit,b1= .brk s∧(Env 19 [] a∧Hp Z ρ (Pt bp1c0 (.cells #[vp1c0] 25 (0,0))::L) w)) ?_ ?_
 ·refine eU hc1 (fun s a w=>Env 19 [(0,vp0),(1,(.func (.func 45) #[] #[(Pv bp1c0 0)])),(7,(Iv (p0.length:Int))),(8,(Iv s))] a∧Hp Z ρ (Pt bp1c0 (.cells #[vp1c0] 25 (0,0))::L) w) ?_ ?_
  ·exact⟨hE.cut ⟨rfl,rfl,rfl,rfl,trivial⟩,hp⟩
  rintro aW st a w ⟨hE,hp⟩ hl1
  unfold gK at hl1
  refine aG (aB ?_)
  refine S hE 1 rfl fun a hE=>aC (aG ?_)
  refine dK hE rfl (fun hc2=>?_) (fun hc2=>?_)
  ·replace hl1:=(it hc2).symm.trans hl1
   refine bP (aG ?_)
   refine dF (aG ?_)
   refine aB (S hE 2 rfl fun a hE=>?_)
   refine aC (aG ?_)
   refine aB (S hE 3 rfl fun a hE=>?_)
   obtain⟨x1,ex1,hl1⟩:=bnd hl1
   obtain⟨b2,b2o,b2c,b2r,b2k,b2f⟩:=bW.at hp0 bC ex1
   obtain rfl:b2c=Enc.enc x1:=b2k
   have b2f:AtP ρ b2 b2o [(Iv x1)]:=b2f
   refine V hE hp rfl (aU rfl hE rfl rfl b2r) fun a hE=>V hE hp rfl (bD rfl hE rfl (fun w hw=>bH bG (b2f.c 0 rfl w hw))) fun a hE=>?_
   obtain⟨x2,ex2,hl1⟩:=bnd hl1
   refine s_callv (wk0 rfl) rfl rfl hE rfl rfl [(Iv x1)] ⟨rfl,trivial⟩ ent45 (c_cnf_Holds_1 x1 bp1c0 p1c0 vp1c0 hp1c0 hp x2 ex2) Ret.ret ?_
   intro v a w hR hE
   obtain⟨rfl,hp⟩:=Ret.of hR
   have hp:=r1 hp
   refine aC ?_
   have hE:=hE.cut (E':=[(0,vp0),(1,(.func (.func 45) #[] #[(Pv bp1c0 0)])),(5,(Iv aW)),(7,(Iv (p0.length:Int))),(8,(Iv aW)),(16,(.bool x2))]) ⟨rfl,rfl,rfl,rfl,rfl,rfl,trivial⟩
   refine dK hE rfl (fun hc3=>?_) (fun hc3=>?_)
   ·replace hl1:=(it hc3).symm.trans hl1
    refine aG (aB ?_)
    refine S hE 2 rfl fun a hE=>aC (dE ?_)
    refine⟨_,(oj hl1).symm,fun hb=>?_⟩
    subst hb
    obtain rfl:=oj hm
    exact iH hE rfl rfl ⟨_,rfl,rfl,hp⟩
   replace hl1:=(ie hc3).symm.trans hl1
   refine bP (aB ?_)
   obtain⟨x3,ex3,hl1⟩:=bnd hl1
   refine V hE hp rfl (dD rfl hE rfl rfl (aZ ex3)) fun a hE=>S hE 1 rfl fun a hE=>aC ?_
   exact⟨_,(oj hl1).symm,hE.cut ⟨rfl,rfl,rfl,rfl,trivial⟩,hp⟩
  replace hl1:=(ie hc2).symm.trans hl1
  refine dR ?_
  refine⟨_,(oj hl1).symm,fun hbb=>?_⟩
  exact⟨_,hbb.symm,hE.cut trivial,hp⟩
 rintro a w ⟨b1s,rfl,hE,hp⟩
 dsimp only at hm
 refine aG (aB ?_)
 refine S hE 1 rfl fun a hE=>aC (dE ?_)
 obtain rfl:=oj hm
 exact iH hE rfl rfl ⟨_,rfl,rfl,hp⟩
theorem uX {Z:World} {ρ:PH} {L:List bZ} {w:World} (p0:(List Int)) (vp0:Value) (hp0:bW ρ vp0 p0) (bp1c0:Nat) (p1c0:(List Int)) (vp1c0:Value) (hp1c0:bW ρ vp1c0 p1c0) (hp:Hp Z ρ (Pt bp1c0 (.cells #[vp1c0] 25 (0,0))::L) w) (r:Bool) (hm:gV p0 p1c0=some r):
  Calls Try.prog 44 #[vp0,(.func (.func 45) #[] #[(Pv bp1c0 0)])] w (Ret fun v w'=>v=(.bool r)∧Hp Z ρ (Pt bp1c0 (.cells #[vp1c0] 25 (0,0))::L) w'):=by
 refine enter (N:=9) Try.func44 rfl rfl [(0,vp0),(1,(.func (.func 45) #[] #[(Pv bp1c0 0)]))] rfl (bM ⟨rfl,rfl,trivial⟩) fun a hE=>?_
 unfold gV at hm
 refine aG (aB ?_)
 refine S hE 1 rfl fun a hE=>aC (aG ?_)
 refine aB (S hE 2 rfl fun a hE=>?_)
 obtain⟨x1,ex1,hm⟩:=bnd hm
 refine Cl hE rfl rfl ent62 (vW p0 vp0 hp0 bp1c0 p1c0 vp1c0 hp1c0 hp x1 ex1) ⟨rfl,rfl,trivial⟩ fun v a w hR hE=>?_
 obtain⟨rfl,hp⟩:=hR
 have hp:=r1 hp
 refine S hE 2 rfl fun a hE=>aC (dE ?_)
 obtain rfl:=oj hm
 exact iH hE rfl rfl ⟨_,rfl,rfl,hp⟩
theorem c_cnf_Holds {Z:World} {ρ:PH} {L:List bZ} {w:World} (p0:Formula) (aH:Value) (bI:bW ρ aH p0.clauses) (p1:(List Int)) (vp1:Value) (hp1:bW ρ vp1 p1) (hp:Hp Z ρ (L) w) (r:Bool) (hm:qY p0 p1=some r):
  Calls Try.prog 22 #[(.agg #[(Iv p0.vars),aH]),vp1] w (Ret fun v w'=>v=(.bool r)∧Hp Z ρ (L) w'):=by
 refine enter (N:=50) Try.func22 rfl rfl [(0,(.agg #[(Iv p0.vars),aH])),(1,vp1)] rfl (bM ⟨rfl,rfl,trivial⟩) fun a hE=>?_
 unfold qY at hm
 refine aG (aB ?_)
 refine rO (wk0 rfl) rfl rfl hE hp rfl (v:=(.agg #[(Iv p0.vars),aH])) rfl ?_
 intro a w b1 hE hp
 have hp:=r1 hp
 refine rO (wk0 rfl) rfl rfl hE hp rfl (v:=vp1) rfl ?_
 intro a w b2 hE hp
 rw[bW.cells hp1] at hp
 have hp:=r2 hp
 refine S hE 1 rfl fun a hE=>aC (aG ?_)
 refine aG (aB ?_)
 refine V hE hp rfl (bD rfl hE rfl (fun w hw=>gB (cs:=[(Iv p0.vars),aH]) fC (Hp.cN 1 rfl 0 _ (bV rfl) w hw))) fun a hE=>?_
 obtain⟨x1,ex1,hm⟩:=bnd hm
 refine Cl hE rfl rfl ent19 (zH p0 aH bI hp x1 ex1) ⟨rfl,trivial⟩ fun v a w hR hE=>?_
 obtain⟨rfl,hp⟩:=hR
 have hp:=r2 hp
 refine S hE 2 rfl fun a hE=>?_
 refine lZ [_,_,_,_,_,_] (fun a w=>Env 50 [(18,(.bool ((!x1)||(!decide ((p1.length:Int)=p0.vars))))),(2,(Pv b1 0)),(3,(Pv b2 0))] a∧Hp Z ρ (Pt b2 (.cells #[vp1] 25 (0,0))::Pt b1 (.cells #[(Iv p0.vars),aH] 24 (0,0))::L) w) ?_ ?_
 ·rcases Bool.eq_false_or_eq_true (!x1) with hc1|hc1
  ·
   refine Gk hE hc1 rfl fun a hE=>Gk hE hc1 rfl fun a hE=>Gk hE hc1 rfl fun a hE=>Gk hE hc1 rfl fun a hE=>Gk hE hc1 rfl fun a hE=>pk1 hE hc1 rfl rfl rfl rfl fun a hE=>?_
   have hE:=hE.eqv (v':=(.bool ((!x1)||(!decide ((p1.length:Int)=p0.vars))))) (by rw[hc1];rfl)
   exact aC ⟨hE.cut ⟨rfl,rfl,rfl,trivial⟩,hp⟩
  refine G hE hp hc1 rfl (xl hE bJ 0 rfl rfl rfl rfl) fun a hE=>G hE hp hc1 rfl (dL rfl hE rfl (bW.len hp1 bC)) fun a hE=>G hE hp hc1 rfl (xf hE lM rfl rfl) fun a hE=>G hE hp hc1 rfl (xl hE bG 1 rfl rfl rfl rfl) fun a hE=>Gs hE hc1 rfl rfl fun a hE=>pk0 hE hc1 rfl rfl rfl rfl fun a hE=>?_
  have hE:=hE.eqv (v':=(.bool ((!x1)||(!decide ((p1.length:Int)=p0.vars))))) (by rw[hc1];rfl)
  exact aC ⟨hE.cut ⟨rfl,rfl,rfl,trivial⟩,hp⟩
 rintro a w ⟨hE,hp⟩
 refine aC ?_
 refine dK hE rfl (fun hc2=>?_) (fun hc2=>?_)
 ·replace hm:=(it hc2).symm.trans hm
  refine aG (aB ?_)
  refine S hE 1 rfl fun a hE=>aC (dE ?_)
  obtain rfl:=oj hm
  exact iH hE rfl rfl ⟨_,rfl,rfl,(((hp.get 1 rfl).drop).drop)⟩
 replace hm:=(ie hc2).symm.trans hm
 refine bP (aG ?_)
 refine aG (aB ?_)
 refine V hE hp rfl (xl hE bJ 0 rfl rfl rfl rfl) fun a hE=>V hE hp rfl (dL rfl hE rfl (bW.len hp1 bC)) fun a hE=>S hE 1 rfl fun a hE=>aC ?_
 obtain⟨b3,hc3,hm⟩:=bnd hm
 refine dH (fun a w=>∃s:Unit,b3= .brk s∧(Env 50 [(2,(Pv b1 0)),(3,(Pv b2 0))] a∧Hp Z ρ (Pt b2 (.cells #[vp1] 25 (0,0))::Pt b1 (.cells #[(Iv p0.vars),aH] 24 (0,0))::L) w)) ?_ ?_
 ·refine eU hc3 (fun s a w=>Env 50 [(2,(Pv b1 0)),(3,(Pv b2 0)),(19,vp1),(20,(Iv (p1.length:Int))),(21,(Iv s))] a∧Hp Z ρ (Pt b2 (.cells #[vp1] 25 (0,0))::Pt b1 (.cells #[(Iv p0.vars),aH] 24 (0,0))::L) w) ?_ ?_
  ·exact⟨hE.cut ⟨rfl,rfl,rfl,rfl,rfl,trivial⟩,hp⟩
  rintro aW st a w ⟨hE,hp⟩ hl1
  unfold rJ at hl1
  refine aG (aB ?_)
  refine S hE 1 rfl fun a hE=>aC (aG ?_)
  refine dK hE rfl (fun hc4=>?_) (fun hc4=>?_)
  ·replace hl1:=(it hc4).symm.trans hl1
   refine bP (aG ?_)
   refine dF (aG ?_)
   refine aB (S hE 1 rfl fun a hE=>?_)
   obtain⟨x2,ex2,hl1⟩:=bnd hl1
   obtain⟨b4,b4o,b4c,b4r,b4k,b4f⟩:=bW.at hp1 bC ex2
   obtain rfl:b4c=Enc.enc x2:=b4k
   have b4f:AtP ρ b4 b4o [(Iv x2)]:=b4f
   refine V hE hp rfl (aU rfl hE rfl rfl b4r) fun a hE=>V hE hp rfl (bD rfl hE rfl (fun w hw=>bH bG (b4f.c 0 rfl w hw))) fun a hE=>S hE 2 rfl fun a hE=>aC (aG ?_)
   refine aB (S hE 2 rfl fun a hE=>?_)
   obtain⟨x3,ex3,hl1⟩:=bnd hl1
   refine V hE hp rfl (dD rfl hE rfl rfl (aZ ex3)) fun a hE=>S hE 2 rfl fun a hE=>?_
   obtain⟨m1,hg1,hl1⟩:=bnd hl1
   refine lZ [_,_,_,_,_,_] (fun a w=>Env 50 [(36,(.bool m1)),(2,(Pv b1 0)),(3,(Pv b2 0)),(19,vp1),(20,(Iv (p1.length:Int))),(21,(Iv aW))] a∧Hp Z ρ (Pt b2 (.cells #[vp1] 25 (0,0))::Pt b1 (.cells #[(Iv p0.vars),aH] 24 (0,0))::L) w) ?_ ?_
   ·rcases Bool.eq_false_or_eq_true (!decide (x2=x3)) with hc5|hc5
    ·
     replace hg1:=(it hc5).symm.trans hg1
     refine Gs hE hc5 rfl rfl fun a hE=>Gs hE hc5 rfl rfl fun a hE=>?_
     obtain⟨x4,ex4,hg1⟩:=bnd hg1
     refine G hE hp hc5 rfl (mX rfl hE rfl (aZ ex4)) fun a hE=>?_
     obtain⟨x5,ex5,hg1⟩:=bnd hg1
     refine G hE hp hc5 rfl (rX rfl hE rfl rfl (aZ ex5)) fun a hE=>Gs hE hc5 rfl rfl fun a hE=>pk1 hE hc5 rfl rfl rfl rfl fun a hE=>?_
     obtain rfl:=oj hg1
     exact aC ⟨hE.cut ⟨rfl,rfl,rfl,rfl,rfl,rfl,trivial⟩,hp⟩
    replace hg1:=(ie hc5).symm.trans hg1
    refine Gk hE hc5 rfl fun a hE=>Gk hE hc5 rfl fun a hE=>Gk hE hc5 rfl fun a hE=>Gk hE hc5 rfl fun a hE=>Gk hE hc5 rfl fun a hE=>pk0 hE hc5 rfl rfl rfl rfl fun a hE=>?_
    obtain rfl:=oj hg1
    exact aC ⟨hE.cut ⟨rfl,rfl,rfl,rfl,rfl,rfl,trivial⟩,hp⟩
   rintro a w ⟨hE,hp⟩
   refine aC ?_
   refine dK hE rfl (fun hc6=>?_) (fun hc6=>?_)
   ·replace hl1:=(it hc6).symm.trans hl1
    refine aG (aB ?_)
    refine S hE 1 rfl fun a hE=>aC (dE ?_)
    refine⟨_,(oj hl1).symm,fun hb=>?_⟩
    subst hb
    obtain rfl:=oj hm
    exact iH hE rfl rfl ⟨_,rfl,rfl,(((hp.get 1 rfl).drop).drop)⟩
   replace hl1:=(ie hc6).symm.trans hl1
   refine bP (aB ?_)
   obtain⟨x6,ex6,hl1⟩:=bnd hl1
   refine V hE hp rfl (dD rfl hE rfl rfl (aZ ex6)) fun a hE=>S hE 1 rfl fun a hE=>aC ?_
   exact⟨_,(oj hl1).symm,hE.cut ⟨rfl,rfl,rfl,rfl,rfl,trivial⟩,hp⟩
  replace hl1:=(ie hc4).symm.trans hl1
  refine dR ?_
  refine⟨_,(oj hl1).symm,fun hbb=>?_⟩
  exact⟨_,hbb.symm,hE.cut ⟨rfl,rfl,trivial⟩,hp⟩
 rintro a w ⟨b3s,rfl,hE,hp⟩
 dsimp only at hm
 refine aG (aG ?_)
 refine aB (V hE hp rfl (xf hE iL rfl rfl) fun a hE=>?_)
 refine V hE hp rfl (xl hE jD 1 rfl rfl rfl rfl) fun a hE=>V hE hp rfl (dL rfl hE rfl (bW.len bI kU)) fun a hE=>S hE 1 rfl fun a hE=>aC ?_
 obtain⟨b5,hc7,hm⟩:=bnd hm
 refine dH (fun a w=>∃s:Unit,b5= .brk s∧(Env 50 [] a∧Hp Z ρ (Pt b2 (.cells #[vp1] 25 (0,0))::Pt b1 (.cells #[(Iv p0.vars),aH] 24 (0,0))::L) w)) ?_ ?_
 ·refine eU hc7 (fun s a w=>Env 50 [(3,(Pv b2 0)),(39,aH),(40,(Iv (p0.clauses.length:Int))),(41,(Iv s))] a∧Hp Z ρ (Pt b2 (.cells #[vp1] 25 (0,0))::Pt b1 (.cells #[(Iv p0.vars),aH] 24 (0,0))::L) w) ?_ ?_
  ·exact⟨hE.cut ⟨rfl,rfl,rfl,rfl,trivial⟩,hp⟩
  rintro dG st a w ⟨hE,hp⟩ hl2
  unfold uG at hl2
  refine aG (aB ?_)
  refine S hE 1 rfl fun a hE=>aC ?_
  have hE:=hE.cut (E':=[(3,(Pv b2 0)),(39,aH),(40,(Iv (p0.clauses.length:Int))),(41,(Iv dG)),(42,(.bool (decide (dG<(p0.clauses.length:Int)))))]) ⟨rfl,rfl,rfl,rfl,rfl,trivial⟩
  refine aG ?_
  refine dK hE rfl (fun hc8=>?_) (fun hc8=>?_)
  ·replace hl2:=(it hc8).symm.trans hl2
   refine bP (aG ?_)
   refine dF (aG ?_)
   refine aB ?_
   obtain⟨x7,ex7,hl2⟩:=bnd hl2
   obtain⟨b6,b6o,b6c,b6r,b6k,b6f⟩:=bW.at bI kU ex7
   obtain⟨vb6,rfl,hb6⟩:=b6k
   have b6f:AtP ρ b6 b6o [vb6]:=b6f
   refine V hE hp rfl (aU rfl hE rfl rfl b6r) fun a hE=>V hE hp rfl (bD rfl hE rfl (fun w hw=>bH bJ (b6f.c 0 rfl w hw))) fun a hE=>S hE 1 rfl fun a hE=>aC (aG ?_)
   refine aB (S hE 1 rfl fun a hE=>?_)
   refine V hE hp rfl (v:=(.func (.func 45) #[] #[(Pv b2 0)])) (ex_fn rfl hE [(Pv b2 0)] (by exact⟨rfl,trivial⟩)) fun a hE=>?_
   obtain⟨x8,ex8,hl2⟩:=bnd hl2
   refine Cl hE rfl rfl ent44 (uX x7 vb6 hb6 b2 p1 vp1 hp1 hp x8 ex8) ⟨rfl,rfl,trivial⟩ fun v a w hR hE=>?_
   obtain⟨rfl,hp⟩:=hR
   have hp:=r2 hp
   refine S hE 1 rfl fun a hE=>aC ?_
   refine dK hE rfl (fun hc9=>?_) (fun hc9=>?_)
   ·replace hl2:=(it hc9).symm.trans hl2
    refine aG (aB ?_)
    refine S hE 1 rfl fun a hE=>aC (dE ?_)
    refine⟨_,(oj hl2).symm,fun hb=>?_⟩
    subst hb
    obtain rfl:=oj hm
    exact iH hE rfl rfl ⟨_,rfl,rfl,(((hp.get 1 rfl).drop).drop)⟩
   replace hl2:=(ie hc9).symm.trans hl2
   refine bP (aB ?_)
   obtain⟨x9,ex9,hl2⟩:=bnd hl2
   refine V hE hp rfl (dD rfl hE rfl rfl (aZ ex9)) fun a hE=>S hE 1 rfl fun a hE=>aC ?_
   exact⟨_,(oj hl2).symm,hE.cut ⟨rfl,rfl,rfl,rfl,trivial⟩,hp⟩
  replace hl2:=(ie hc8).symm.trans hl2
  refine dR ?_
  refine⟨_,(oj hl2).symm,fun hbb=>?_⟩
  exact⟨_,hbb.symm,hE.cut trivial,hp⟩
 rintro a w ⟨b5s,rfl,hE,hp⟩
 dsimp only at hm
 refine aG (aB ?_)
 refine S hE 1 rfl fun a hE=>aC (dE ?_)
 obtain rfl:=oj hm
 exact iH hE rfl rfl ⟨_,rfl,rfl,(((hp.get 1 rfl).drop).drop)⟩
theorem c_cnf_Normal {Z:World} {ρ:PH} {L:List bZ} {w:World} (p0:(List Int)) (vp0:Value) (hp0:bW ρ vp0 p0) (hp:Hp Z ρ (L) w) (r:((List Int)×Bool)) (hm:vJ p0=some r):
  Calls Try.prog 68 #[vp0] w (Ret fun v w'=>∃(vr1:Value),v= .tuple #[vr1,(.bool r.2)]∧Hp Z ρ (aA 3 vr1 r.1::L) w'):=by
 refine enter (N:=49) Try.func68 rfl rfl [(0,vp0)] rfl (bM ⟨rfl,trivial⟩) fun a hE=>?_
 unfold vJ at hm
 refine aG (aB ?_)
 refine S hE 2 rfl fun a hE=>aC (aG ?_)
 refine aG (aB ?_)
 refine S hE 1 rfl fun a hE=>V hE hp rfl (dL rfl hE rfl (bW.len hp0 bC)) fun a hE=>S hE 1 rfl fun a hE=>aC ?_
 obtain⟨b1,hc1,hm⟩:=bnd hm
 refine dH (fun a w=>∃s:Unit,b1= .brk s∧(Env 49 [(0,vp0)] a∧Hp Z ρ (L) w)) ?_ ?_
 ·refine eU hc1 (fun s a w=>Env 49 [(0,vp0),(8,vp0),(9,(Iv (p0.length:Int))),(10,(Iv s))] a∧Hp Z ρ (L) w) ?_ ?_
  ·exact⟨hE.cut ⟨rfl,rfl,rfl,rfl,trivial⟩,hp⟩
  rintro aW st a w ⟨hE,hp⟩ hl1
  unfold sZ at hl1
  refine aG (aB ?_)
  refine S hE 1 rfl fun a hE=>aC (aG ?_)
  refine dK hE rfl (fun hc2=>?_) (fun hc2=>?_)
  ·replace hl1:=(it hc2).symm.trans hl1
   refine bP (aG ?_)
   refine dF (aG ?_)
   refine aB ?_
   obtain⟨x1,ex1,hl1⟩:=bnd hl1
   obtain⟨b2,b2o,b2c,b2r,b2k,b2f⟩:=bW.at hp0 bC ex1
   obtain rfl:b2c=Enc.enc x1:=b2k
   have b2f:AtP ρ b2 b2o [(Iv x1)]:=b2f
   refine V hE hp rfl (aU rfl hE rfl rfl b2r) fun a hE=>V hE hp rfl (bD rfl hE rfl (fun w hw=>bH bG (b2f.c 0 rfl w hw))) fun a hE=>S hE 1 rfl fun a hE=>aC (aG ?_)
   refine aB (S hE 3 rfl fun a hE=>?_)
   refine lZ [_,_,_] (fun a w=>Env 49 [(19,(.bool ((decide (x1=0))||(decide (x1<(-1073741824)))))),(0,vp0),(5,(Iv x1)),(8,vp0),(9,(Iv (p0.length:Int))),(10,(Iv aW))] a∧Hp Z ρ (L) w) ?_ ?_
   ·rcases Bool.eq_false_or_eq_true (decide (x1=0)) with hc3|hc3
    ·
     refine Gk hE hc3 rfl fun a hE=>Gk hE hc3 rfl fun a hE=>pk1 hE hc3 rfl rfl rfl rfl fun a hE=>?_
     have hE:=hE.eqv (v':=(.bool ((decide (x1=0))||(decide (x1<(-1073741824)))))) (by rw[hc3];rfl)
     exact aC ⟨hE.cut ⟨rfl,rfl,rfl,rfl,rfl,rfl,trivial⟩,hp⟩
    refine Gs hE hc3 rfl rfl fun a hE=>Gs hE hc3 rfl rfl fun a hE=>pk0 hE hc3 rfl rfl rfl rfl fun a hE=>?_
    have hE:=hE.eqv (v':=(.bool ((decide (x1=0))||(decide (x1<(-1073741824)))))) (by rw[hc3];rfl)
    exact aC ⟨hE.cut ⟨rfl,rfl,rfl,rfl,rfl,rfl,trivial⟩,hp⟩
   rintro a w ⟨hE,hp⟩
   refine S hE 1 rfl fun a hE=>?_
   refine lZ [_,_,_] (fun a w=>Env 49 [(23,(.bool (((decide (x1=0))||(decide (x1<(-1073741824))))||(decide (1073741824<x1))))),(0,vp0),(8,vp0),(9,(Iv (p0.length:Int))),(10,(Iv aW))] a∧Hp Z ρ (L) w) ?_ ?_
   ·rcases Bool.eq_false_or_eq_true ((decide (x1=0))||(decide (x1<(-1073741824)))) with hc4|hc4
    ·
     refine Gk hE hc4 rfl fun a hE=>Gk hE hc4 rfl fun a hE=>pk1 hE hc4 rfl rfl rfl rfl fun a hE=>?_
     have hE:=hE.eqv (v':=(.bool (((decide (x1=0))||(decide (x1<(-1073741824))))||(decide (1073741824<x1))))) (by rw[hc4];rfl)
     exact aC ⟨hE.cut ⟨rfl,rfl,rfl,rfl,rfl,trivial⟩,hp⟩
    refine Gs hE hc4 rfl rfl fun a hE=>Gs hE hc4 rfl rfl fun a hE=>pk0 hE hc4 rfl rfl rfl rfl fun a hE=>?_
    have hE:=hE.eqv (v':=(.bool (((decide (x1=0))||(decide (x1<(-1073741824))))||(decide (1073741824<x1))))) (by rw[hc4];rfl)
    exact aC ⟨hE.cut ⟨rfl,rfl,rfl,rfl,rfl,trivial⟩,hp⟩
   rintro a w ⟨hE,hp⟩
   refine aC ?_
   refine dK hE rfl (fun hc5=>?_) (fun hc5=>?_)
   ·replace hl1:=(it hc5).symm.trans hl1
    refine aG (aB ?_)
    refine S hE 2 rfl fun a hE=>aC (dE ?_)
    refine⟨_,(oj hl1).symm,fun hb=>?_⟩
    subst hb
    have hp:=hp.emp (aA.nil (α:=Int) 3)
    have hp:=r1 hp
    obtain rfl:=oj hm
    exact ret2 hE rfl rfl rfl ⟨_,rfl,_,rfl,hp⟩
   replace hl1:=(ie hc5).symm.trans hl1
   refine bP (aB ?_)
   obtain⟨x2,ex2,hl1⟩:=bnd hl1
   refine V hE hp rfl (dD rfl hE rfl rfl (aZ ex2)) fun a hE=>S hE 1 rfl fun a hE=>aC ?_
   exact⟨_,(oj hl1).symm,hE.cut ⟨rfl,rfl,rfl,rfl,trivial⟩,hp⟩
  replace hl1:=(ie hc2).symm.trans hl1
  refine dR ?_
  refine⟨_,(oj hl1).symm,fun hbb=>?_⟩
  exact⟨_,hbb.symm,hE.cut ⟨rfl,trivial⟩,hp⟩
 rintro a w ⟨b1s,rfl,hE,hp⟩
 dsimp only at hm
 refine aG (aB ?_)
 refine S hE 1 rfl fun a hE=>?_
 obtain⟨x3,ex3,hm⟩:=bnd hm
 refine s_call (wk0 rfl) rfl rfl hE rfl [vp0] ⟨rfl,trivial⟩ ent39 (uS p0 vp0 hp0 hp x3 ex3) Ret.ret ?_
 intro v1 a w hR hE
 obtain⟨u,hu,hp⟩:=Ret.of hR
 rw[←hu] at hp
 have hp:=r1 hp
 refine S hE 1 rfl fun a hE=>aC (aG ?_)
 refine aB (S hE 1 rfl fun a hE=>?_)
 obtain⟨x4,ex4,hm⟩:=bnd hm
 refine Cl hE rfl rfl ent75 (c_sortN x3 v1 hp x4 ex4) ⟨rfl,rfl,trivial⟩ fun v a w hR hE=>?_
 obtain⟨rfl,hp⟩:=hR
 have hp:=r1 hp
 refine aC (aG ?_)
 refine aB (S hE 1 rfl fun a hE=>?_)
 obtain⟨x5,ex5,hm⟩:=bnd hm
 refine s_call (wk0 rfl) rfl rfl hE rfl [v1] ⟨rfl,trivial⟩ ent79 (c_compactI_own x4 v1 (hp.get 0 rfl) x5 ex5) Ret.ret ?_
 intro v2 a w hR hE
 obtain⟨u,hu,hp⟩:=Ret.of hR
 rw[←hu] at hp
 have hp:=r1 hp
 refine S hE 1 rfl fun a hE=>aC (aG ?_)
 refine aG (aB ?_)
 refine S hE 1 rfl fun a hE=>aC ?_
 obtain⟨b3,hc6,hm⟩:=bnd hm
 refine dH (fun a w=>∃s:Unit,b3= .brk s∧(Env 49 [(6,v2)] a∧Hp Z ρ (aA 3 v2 x5::L) w)) ?_ ?_
 ·refine eU hc6 (fun s a w=>Env 49 [(6,v2),(7,(Iv s))] a∧Hp Z ρ (aA 3 v2 x5::L) w) ?_ ?_
  ·exact⟨hE.cut ⟨rfl,rfl,trivial⟩,hp⟩
  rintro dG st a w ⟨hE,hp⟩ hl2
  unfold nN at hl2
  refine aG (aG ?_)
  refine aB (S hE 2 rfl fun a hE=>?_)
  refine V hE hp rfl (dL rfl hE rfl (aA.len hp 0 rfl bC)) fun a hE=>S hE 1 rfl fun a hE=>aC ?_
  refine dK hE rfl (fun hc7=>?_) (fun hc7=>?_)
  ·replace hl2:=(it hc7).symm.trans hl2
   refine bP (aG ?_)
   refine dF (aG ?_)
   refine oN (by kernel_rfl) (by kernel_rfl) hp ?_
   refine Sq hE 2 rfl fun a hE=>?_
   obtain⟨x6,ex6,hl2⟩:=bnd hl2
   refine Vq hE rfl (rX rfl hE rfl rfl (aZ ex6)) fun a hE=>?_
   obtain⟨x7,ex7,hl2⟩:=bnd hl2
   obtain⟨b4,b4o,b4r,b4v,b4f⟩:=aA.at hp 0 rfl bC ex7
   refine Vq hE rfl (aU rfl hE rfl rfl b4r) fun a hE=>Vq hE rfl (bD rfl hE rfl (fun w hw=>bH bG (b4f 0 _ rfl _ _ w (hw.get 0 rfl)))) fun a hE=>Sq hE 2 rfl fun a hE=>?_
   obtain⟨x8,ex8,hl2⟩:=bnd hl2
   obtain⟨b5,b5o,b5r,b5v,b5f⟩:=aA.at hp 0 rfl bC ex8
   refine Vq hE rfl (aU rfl hE rfl rfl b5r) fun a hE=>Vq hE rfl (bD rfl hE rfl (fun w hw=>bH bG (b5f 0 _ rfl _ _ w (hw.get 0 rfl)))) fun a hE=>?_
   obtain⟨x9,ex9,hl2⟩:=bnd hl2
   refine Vq hE rfl (mX rfl hE rfl (aZ ex9)) fun a hE=>Sq hE 1 rfl fun a hE=>?_
   refine qR fun w hp=>?_
   have hp:=r1 hp
   refine dK hE rfl (fun hc8=>?_) (fun hc8=>?_)
   ·replace hl2:=(it hc8).symm.trans hl2
    refine aG (aB ?_)
    refine S hE 2 rfl fun a hE=>aC ?_
    have hE:=hE.cut (E':=[(2,N0),(3,(.bool false))]) ⟨rfl,rfl,trivial⟩
    refine dE ?_
    refine⟨_,(oj hl2).symm,fun hb=>?_⟩
    subst hb
    have hp:=hp.emp (aA.nil (α:=Int) 3)
    have hp:=r2 hp
    obtain rfl:=oj hm
    exact ret2 hE rfl rfl rfl ⟨_,rfl,_,rfl,((hp.get 1 rfl).drop)⟩
   replace hl2:=(ie hc8).symm.trans hl2
   refine bP (aB ?_)
   refine S hE 1 rfl fun a hE=>?_
   obtain⟨x10,ex10,hl2⟩:=bnd hl2
   refine V hE hp rfl (dD rfl hE rfl rfl (aZ ex10)) fun a hE=>S hE 1 rfl fun a hE=>aC ?_
   exact⟨_,(oj hl2).symm,hE.cut ⟨rfl,rfl,trivial⟩,hp⟩
  replace hl2:=(ie hc7).symm.trans hl2
  refine dR ?_
  refine⟨_,(oj hl2).symm,fun hbb=>?_⟩
  exact⟨_,hbb.symm,hE.cut ⟨rfl,trivial⟩,hp⟩
 rintro a w ⟨b3s,rfl,hE,hp⟩
 dsimp only at hm
 refine aG (aB ?_)
 refine S hE 3 rfl fun a hE=>aC (dE ?_)
 obtain rfl:=oj hm
 exact ret2 hE rfl rfl rfl ⟨_,rfl,_,rfl,hp⟩
end Go.Proofs.Ytpkhmndpeipfmaa
