/- The code goes as its model: assessor/cnf.variable, assessor/cnf.normal, assessor/cnf.Valid, assessor/cnf.Holds$1, slices.IndexFunc[[]int,int]@assessor/cnf.Holds -/
import Derived.Test.YtpkhmndpeipfmaaKLeT
import Derived.Test.YtpkhmndpeipfmaaKLe4
import Derived.Test.YtpkhmndpeipfmaaKLe6
set_option linter.unusedVariables false
set_option linter.unusedSimpArgs false
set_option maxRecDepth 100000
set_option maxHeartbeats 4000000
namespace Go.Proofs.Ytpkhmndpeipfmaa
open Go.RowKit
theorem Y7 {Z:World} {ρ:PH} {L:List bZ} {w:World} (p0:Int) (hp:Hp Z ρ (L) w) (r:Int) (hm:rU p0=some r):
  Calls Try.prog 46 #[(Iv p0)] w (Ret fun v w'=>v=(Iv r)∧Hp Z ρ (L) w'):=by
 refine enter (N:=7) Try.func46 rfl rfl [(0,(Iv p0))] rfl (bT ⟨rfl,trivial⟩) fun a hE=>?_
 unfold rU at hm
 refine aG (aB ?_)
 refine S hE 1 rfl fun a hE=>aC (aG ?_)
 refine aB (S hE 2 rfl fun a hE=>?_)
 obtain⟨x1,ex1,hm⟩:=bnd hm
 refine V hE hp rfl (pV rfl hE rfl (bD ex1)) fun a hE=>V hE hp rfl (v:=(Iv (max p0 x1))) (ex_max rfl hE rfl rfl) fun a hE=>S hE 1 rfl fun a hE=>aC (dC ?_)
 obtain rfl:=oj hm
 exact gK hE rfl rfl ⟨_,rfl,rfl,hp⟩
theorem c_cnf_normal {Z:World} {ρ:PH} {L:List bZ} {w:World} (p0:(List Int)) (vp0:Value) (hp0:bJ ρ vp0 p0) (p1:Int) (hp:Hp Z ρ (L) w) (r:Bool) (hm:wM p0 p1=some r):
  Calls Try.prog 41 #[vp0,(Iv p1)] w (Ret fun v w'=>v=(.bool r)∧Hp Z ρ (L) w'):=by
 refine enter (N:=32) Try.func41 rfl rfl [(0,vp0),(1,(Iv p1))] rfl (bT ⟨rfl,rfl,trivial⟩) fun a hE=>?_
 unfold wM at hm
 refine aG (aB ?_)
 refine S hE 1 rfl fun a hE=>aC (aG ?_)
 refine aB (S hE 1 rfl fun a hE=>?_)
 refine aC (aG ?_)
 refine aG (aB ?_)
 refine S hE 1 rfl fun a hE=>V hE hp rfl (dD rfl hE rfl (bJ.len hp0 aY)) fun a hE=>S hE 1 rfl fun a hE=>aC ?_
 obtain⟨b1,hc1,hm⟩:=bnd hm
 refine dI (fun a w=>∃s:Unit,b1= .brk s∧(Env 32 [] a∧Hp Z ρ (L) w)) ?_ ?_
 ·refine eX hc1 (fun s a w=>Env 32 [(1,(Iv p1)),(5,(Iv s.1)),(8,vp0),(9,(Iv (p0.length:Int))),(10,(Iv s.2))] a∧Hp Z ρ (L) w) ?_ ?_
  ·exact⟨hE.cut ⟨rfl,rfl,rfl,rfl,rfl,trivial⟩,hp⟩
  rintro⟨aW,bU⟩ st a w ⟨hE,hp⟩ hl1
  dsimp only at hE hp hl1
  unfold rQ at hl1
  refine aG (aB ?_)
  refine S hE 1 rfl fun a hE=>aC (aG ?_)
  refine dK hE rfl (fun hc2=>?_) (fun hc2=>?_)
  ·replace hl1:=(it hc2).symm.trans hl1
   refine bQ (aG ?_)
   refine dG (aG ?_)
   refine aB ?_
   obtain⟨x1,ex1,hl1⟩:=bnd hl1
   obtain⟨b2,b2o,b2c,b2r,b2k,b2f⟩:=bJ.at hp0 aY ex1
   obtain rfl:b2c=Enc.enc x1:=b2k
   have b2f:AtP ρ b2 b2o [(Iv x1)]:=b2f
   refine V hE hp rfl (aS rfl hE rfl rfl b2r) fun a hE=>V hE hp rfl (aX rfl hE rfl (fun w hw=>bF bG (b2f.c 0 rfl w hw))) fun a hE=>S hE 1 rfl fun a hE=>aC (aG ?_)
   refine aG (aB ?_)
   refine S hE 2 rfl fun a hE=>?_
   obtain⟨x2,ex2,hl1⟩:=bnd hl1
   refine V hE hp rfl (pV rfl hE rfl (bD ex2)) fun a hE=>S hE 2 rfl fun a hE=>?_
   refine iD [_,_,_,_] (fun a w=>Env 32 [(22,(.bool ((decide (x1<x2))||(decide (p1<x1))))),(1,(Iv p1)),(5,(Iv aW)),(7,(Iv x1)),(8,vp0),(9,(Iv (p0.length:Int))),(10,(Iv bU))] a∧Hp Z ρ (L) w) ?_ ?_
   ·rcases Bool.eq_false_or_eq_true (decide (x1<x2)) with hc3|hc3
    ·
     refine Gk hE hc3 rfl fun a hE=>Gk hE hc3 rfl fun a hE=>Gk hE hc3 rfl fun a hE=>pk1 hE hc3 rfl rfl rfl rfl fun a hE=>?_
     have hE:=hE.eqv (v':=(.bool ((decide (x1<x2))||(decide (p1<x1))))) (by rw[hc3];rfl)
     exact aC ⟨hE.cut ⟨rfl,rfl,rfl,rfl,rfl,rfl,rfl,trivial⟩,hp⟩
    refine Gs hE hc3 rfl rfl fun a hE=>Gs hE hc3 rfl rfl fun a hE=>Gs hE hc3 rfl rfl fun a hE=>pk0 hE hc3 rfl rfl rfl rfl fun a hE=>?_
    have hE:=hE.eqv (v':=(.bool ((decide (x1<x2))||(decide (p1<x1))))) (by rw[hc3];rfl)
    exact aC ⟨hE.cut ⟨rfl,rfl,rfl,rfl,rfl,rfl,rfl,trivial⟩,hp⟩
   rintro a w ⟨hE,hp⟩
   refine S hE 1 rfl fun a hE=>?_
   obtain⟨m1,hg1,hl1⟩:=bnd hl1
   refine iD [_,_,_,_,_] (fun a w=>Env 32 [(28,(.bool m1)),(1,(Iv p1)),(7,(Iv x1)),(8,vp0),(9,(Iv (p0.length:Int))),(10,(Iv bU))] a∧Hp Z ρ (L) w) ?_ ?_
   ·rcases Bool.eq_false_or_eq_true ((decide (x1<x2))||(decide (p1<x1))) with hc4|hc4
    ·
     replace hg1:=(it hc4).symm.trans hg1
     refine Gk hE hc4 rfl fun a hE=>Gk hE hc4 rfl fun a hE=>Gk hE hc4 rfl fun a hE=>Gk hE hc4 rfl fun a hE=>pk1 hE hc4 rfl rfl rfl rfl fun a hE=>?_
     obtain rfl:=oj hg1
     exact aC ⟨hE.cut ⟨rfl,rfl,rfl,rfl,rfl,rfl,trivial⟩,hp⟩
    replace hg1:=(ie hc4).symm.trans hg1
    refine Gs hE hc4 rfl rfl fun a hE=>?_
    obtain⟨x3,ex3,hg1⟩:=bnd hg1
    refine Cg hE hc4 rfl rfl ent46 (Y7 x1 hp x3 ex3) ⟨rfl,trivial⟩ fun v a w hR hE=>?_
    obtain⟨rfl,hp⟩:=hR
    have hp:=r0 hp
    refine Gs hE hc4 rfl rfl fun a hE=>Gs hE hc4 rfl rfl fun a hE=>pk0 hE hc4 rfl rfl rfl rfl fun a hE=>?_
    obtain rfl:=oj hg1
    exact aC ⟨hE.cut ⟨rfl,rfl,rfl,rfl,rfl,rfl,trivial⟩,hp⟩
   rintro a w ⟨hE,hp⟩
   refine aC ?_
   refine dK hE rfl (fun hc5=>?_) (fun hc5=>?_)
   ·replace hl1:=(it hc5).symm.trans hl1
    refine aG (aB ?_)
    refine S hE 1 rfl fun a hE=>aC (dC ?_)
    refine⟨_,(oj hl1).symm,fun hb=>?_⟩
    subst hb
    obtain rfl:=oj hm
    exact gK hE rfl rfl ⟨_,rfl,rfl,hp⟩
   replace hl1:=(ie hc5).symm.trans hl1
   refine bQ (aB ?_)
   refine S hE 1 rfl fun a hE=>?_
   obtain⟨x4,ex4,hl1⟩:=bnd hl1
   refine Cl hE rfl rfl ent46 (Y7 x1 hp x4 ex4) ⟨rfl,trivial⟩ fun v a w hR hE=>?_
   obtain⟨rfl,hp⟩:=hR
   have hp:=r0 hp
   refine S hE 1 rfl fun a hE=>aC (aB ?_)
   obtain⟨x5,ex5,hl1⟩:=bnd hl1
   refine V hE hp rfl (dH rfl hE rfl rfl (bD ex5)) fun a hE=>S hE 1 rfl fun a hE=>aC ?_
   exact⟨_,(oj hl1).symm,hE.cut ⟨rfl,rfl,rfl,rfl,rfl,trivial⟩,hp⟩
  replace hl1:=(ie hc2).symm.trans hl1
  refine dR ?_
  refine⟨_,(oj hl1).symm,fun hbb=>?_⟩
  exact⟨_,hbb.symm,hE.cut trivial,hp⟩
 rintro a w ⟨b1s,rfl,hE,hp⟩
 dsimp only at hm
 refine aG (aB ?_)
 refine S hE 1 rfl fun a hE=>aC (dC ?_)
 obtain rfl:=oj hm
 exact gK hE rfl rfl ⟨_,rfl,rfl,hp⟩
theorem c_cnf_Valid {Z:World} {ρ:PH} {L:List bZ} {w:World} (p0:Formula) (aF:Value) (bH:bJ ρ aF p0.clauses) (hp:Hp Z ρ (L) w) (r:Bool) (hm:vZ p0=some r):
  Calls Try.prog 19 #[(.agg #[(Iv p0.vars),aF])] w (Ret fun v w'=>v=(.bool r)∧Hp Z ρ (L) w'):=by
 refine enter (N:=32) Try.func19 rfl rfl [(0,(.agg #[(Iv p0.vars),aF]))] rfl (bT ⟨rfl,trivial⟩) fun a hE=>?_
 unfold vZ at hm
 refine aG (aB ?_)
 refine qH (wk0 rfl) rfl rfl hE hp rfl (v:=(.agg #[(Iv p0.vars),aF])) rfl ?_
 intro a w b1 hE hp
 have hp:=r1 hp
 refine S hE 1 rfl fun a hE=>aC (aG ?_)
 refine aG (aB ?_)
 refine V hE hp rfl (xf hE kP rfl rfl) fun a hE=>V hE hp rfl (xl hE bG 0 rfl rfl rfl rfl) fun a hE=>S hE 2 rfl fun a hE=>?_
 refine iD [_,_,_,_] (fun a w=>Env 32 [(12,(.bool ((decide (p0.vars<0))||(decide (65536<p0.vars))))),(1,(Pv b1 0))] a∧Hp Z ρ (Pt b1 (.cells #[(Iv p0.vars),aF] 24 (0,0))::L) w) ?_ ?_
 ·rcases Bool.eq_false_or_eq_true (decide (p0.vars<0)) with hc1|hc1
  ·
   refine Gk hE hc1 rfl fun a hE=>Gk hE hc1 rfl fun a hE=>Gk hE hc1 rfl fun a hE=>pk1 hE hc1 rfl rfl rfl rfl fun a hE=>?_
   have hE:=hE.eqv (v':=(.bool ((decide (p0.vars<0))||(decide (65536<p0.vars))))) (by rw[hc1];rfl)
   exact aC ⟨hE.cut ⟨rfl,rfl,trivial⟩,hp⟩
  refine G hE hp hc1 rfl (xf hE kP rfl rfl) fun a hE=>G hE hp hc1 rfl (xl hE bG 0 rfl rfl rfl rfl) fun a hE=>Gs hE hc1 rfl rfl fun a hE=>pk0 hE hc1 rfl rfl rfl rfl fun a hE=>?_
  have hE:=hE.eqv (v':=(.bool ((decide (p0.vars<0))||(decide (65536<p0.vars))))) (by rw[hc1];rfl)
  exact aC ⟨hE.cut ⟨rfl,rfl,trivial⟩,hp⟩
 rintro a w ⟨hE,hp⟩
 refine S hE 1 rfl fun a hE=>?_
 refine iD [_,_,_,_,_] (fun a w=>Env 32 [(18,(.bool (((decide (p0.vars<0))||(decide (65536<p0.vars)))||(decide (262144<(p0.clauses.length:Int)))))),(1,(Pv b1 0))] a∧Hp Z ρ (Pt b1 (.cells #[(Iv p0.vars),aF] 24 (0,0))::L) w) ?_ ?_
 ·rcases Bool.eq_false_or_eq_true ((decide (p0.vars<0))||(decide (65536<p0.vars))) with hc2|hc2
  ·
   refine Gk hE hc2 rfl fun a hE=>Gk hE hc2 rfl fun a hE=>Gk hE hc2 rfl fun a hE=>Gk hE hc2 rfl fun a hE=>pk1 hE hc2 rfl rfl rfl rfl fun a hE=>?_
   have hE:=hE.eqv (v':=(.bool (((decide (p0.vars<0))||(decide (65536<p0.vars)))||(decide (262144<(p0.clauses.length:Int)))))) (by rw[hc2];rfl)
   exact aC ⟨hE.cut ⟨rfl,rfl,trivial⟩,hp⟩
  refine G hE hp hc2 rfl (xf hE lI rfl rfl) fun a hE=>G hE hp hc2 rfl (xl hE kD 0 rfl rfl rfl rfl) fun a hE=>G hE hp hc2 rfl (dD rfl hE rfl (bJ.len bH gY)) fun a hE=>Gs hE hc2 rfl rfl fun a hE=>pk0 hE hc2 rfl rfl rfl rfl fun a hE=>?_
  have hE:=hE.eqv (v':=(.bool (((decide (p0.vars<0))||(decide (65536<p0.vars)))||(decide (262144<(p0.clauses.length:Int)))))) (by rw[hc2];rfl)
  exact aC ⟨hE.cut ⟨rfl,rfl,trivial⟩,hp⟩
 rintro a w ⟨hE,hp⟩
 refine aC ?_
 refine dK hE rfl (fun hc3=>?_) (fun hc3=>?_)
 ·replace hm:=(it hc3).symm.trans hm
  refine aG (aB ?_)
  refine S hE 1 rfl fun a hE=>aC (dC ?_)
  obtain rfl:=oj hm
  exact gK hE rfl rfl ⟨_,rfl,rfl,(hp.drop)⟩
 replace hm:=(ie hc3).symm.trans hm
 refine bQ (aG ?_)
 refine aG (aB ?_)
 refine V hE hp rfl (xf hE lI rfl rfl) fun a hE=>V hE hp rfl (xl hE kD 0 rfl rfl rfl rfl) fun a hE=>V hE hp rfl (dD rfl hE rfl (bJ.len bH gY)) fun a hE=>S hE 1 rfl fun a hE=>aC ?_
 obtain⟨b2,hc4,hm⟩:=bnd hm
 refine dI (fun a w=>∃s:Unit,b2= .brk s∧(Env 32 [] a∧Hp Z ρ (Pt b1 (.cells #[(Iv p0.vars),aF] 24 (0,0))::L) w)) ?_ ?_
 ·refine eX hc4 (fun s a w=>Env 32 [(1,(Pv b1 0)),(20,aF),(21,(Iv (p0.clauses.length:Int))),(22,(Iv s))] a∧Hp Z ρ (Pt b1 (.cells #[(Iv p0.vars),aF] 24 (0,0))::L) w) ?_ ?_
  ·exact⟨hE.cut ⟨rfl,rfl,rfl,rfl,trivial⟩,hp⟩
  rintro aW st a w ⟨hE,hp⟩ hl1
  unfold vM at hl1
  refine aG (aB ?_)
  refine S hE 1 rfl fun a hE=>aC (aG ?_)
  refine dK hE rfl (fun hc5=>?_) (fun hc5=>?_)
  ·replace hl1:=(it hc5).symm.trans hl1
   refine bQ (aG ?_)
   refine dG (aG ?_)
   refine aB ?_
   obtain⟨x1,ex1,hl1⟩:=bnd hl1
   obtain⟨b3,b3o,b3c,b3r,b3k,b3f⟩:=bJ.at bH gY ex1
   obtain⟨vb3,rfl,hb3⟩:=b3k
   have b3f:AtP ρ b3 b3o [vb3]:=b3f
   refine V hE hp rfl (aS rfl hE rfl rfl b3r) fun a hE=>V hE hp rfl (aX rfl hE rfl (fun w hw=>bF bK (b3f.c 0 rfl w hw))) fun a hE=>S hE 1 rfl fun a hE=>aC (aG ?_)
   refine aB (S hE 1 rfl fun a hE=>?_)
   refine V hE hp rfl (xf hE kP rfl rfl) fun a hE=>V hE hp rfl (xl hE bG 0 rfl rfl rfl rfl) fun a hE=>?_
   obtain⟨x2,ex2,hl1⟩:=bnd hl1
   refine Cl hE rfl rfl ent41 (c_cnf_normal x1 vb3 hb3 p0.vars hp x2 ex2) ⟨rfl,rfl,trivial⟩ fun v a w hR hE=>?_
   obtain⟨rfl,hp⟩:=hR
   have hp:=r1 hp
   refine S hE 1 rfl fun a hE=>aC ?_
   have hE:=hE.cut (E':=[(1,(Pv b1 0)),(20,aF),(21,(Iv (p0.clauses.length:Int))),(22,(Iv aW)),(30,(.bool (!x2)))]) ⟨rfl,rfl,rfl,rfl,rfl,trivial⟩
   refine dK hE rfl (fun hc6=>?_) (fun hc6=>?_)
   ·replace hl1:=(it hc6).symm.trans hl1
    refine aG (aB ?_)
    refine S hE 1 rfl fun a hE=>aC (dC ?_)
    refine⟨_,(oj hl1).symm,fun hb=>?_⟩
    subst hb
    obtain rfl:=oj hm
    exact gK hE rfl rfl ⟨_,rfl,rfl,(hp.drop)⟩
   replace hl1:=(ie hc6).symm.trans hl1
   refine bQ (aB ?_)
   obtain⟨x3,ex3,hl1⟩:=bnd hl1
   refine V hE hp rfl (dH rfl hE rfl rfl (bD ex3)) fun a hE=>S hE 1 rfl fun a hE=>aC ?_
   exact⟨_,(oj hl1).symm,hE.cut ⟨rfl,rfl,rfl,rfl,trivial⟩,hp⟩
  replace hl1:=(ie hc5).symm.trans hl1
  refine dR ?_
  refine⟨_,(oj hl1).symm,fun hbb=>?_⟩
  exact⟨_,hbb.symm,hE.cut trivial,hp⟩
 rintro a w ⟨b2s,rfl,hE,hp⟩
 dsimp only at hm
 refine aG (aB ?_)
 refine S hE 1 rfl fun a hE=>aC (dC ?_)
 obtain rfl:=oj hm
 exact gK hE rfl rfl ⟨_,rfl,rfl,(hp.drop)⟩
theorem c_cnf_Normal {Z:World} {ρ:PH} {L:List bZ} {w:World} (p0:(List Int)) (vp0:Value) (hp0:bJ ρ vp0 p0) (hp:Hp Z ρ (L) w) (r:((List Int)×Bool)) (hm:wL p0=some r):
  Calls Try.prog 68 #[vp0] w (Ret fun v w'=>∃(vr1:Value),v= .tuple #[vr1,(.bool r.2)]∧Hp Z ρ (aA 3 vr1 r.1::L) w'):=by
 refine enter (N:=49) Try.func68 rfl rfl [(0,vp0)] rfl (bT ⟨rfl,trivial⟩) fun a hE=>?_
 unfold wL at hm
 refine aG (aB ?_)
 refine S hE 2 rfl fun a hE=>aC (aG ?_)
 refine aG (aB ?_)
 refine S hE 1 rfl fun a hE=>V hE hp rfl (dD rfl hE rfl (bJ.len hp0 aY)) fun a hE=>S hE 1 rfl fun a hE=>aC ?_
 obtain⟨b1,hc1,hm⟩:=bnd hm
 refine dI (fun a w=>∃s:Unit,b1= .brk s∧(Env 49 [(0,vp0)] a∧Hp Z ρ (L) w)) ?_ ?_
 ·refine eX hc1 (fun s a w=>Env 49 [(0,vp0),(8,vp0),(9,(Iv (p0.length:Int))),(10,(Iv s))] a∧Hp Z ρ (L) w) ?_ ?_
  ·exact⟨hE.cut ⟨rfl,rfl,rfl,rfl,trivial⟩,hp⟩
  rintro aW st a w ⟨hE,hp⟩ hl1
  unfold uQ at hl1
  refine aG (aB ?_)
  refine S hE 1 rfl fun a hE=>aC (aG ?_)
  refine dK hE rfl (fun hc2=>?_) (fun hc2=>?_)
  ·replace hl1:=(it hc2).symm.trans hl1
   refine bQ (aG ?_)
   refine dG (aG ?_)
   refine aB ?_
   obtain⟨x1,ex1,hl1⟩:=bnd hl1
   obtain⟨b2,b2o,b2c,b2r,b2k,b2f⟩:=bJ.at hp0 aY ex1
   obtain rfl:b2c=Enc.enc x1:=b2k
   have b2f:AtP ρ b2 b2o [(Iv x1)]:=b2f
   refine V hE hp rfl (aS rfl hE rfl rfl b2r) fun a hE=>V hE hp rfl (aX rfl hE rfl (fun w hw=>bF bG (b2f.c 0 rfl w hw))) fun a hE=>S hE 1 rfl fun a hE=>aC (aG ?_)
   refine aB (S hE 3 rfl fun a hE=>?_)
   refine iD [_,_,_] (fun a w=>Env 49 [(19,(.bool ((decide (x1=0))||(decide (x1<(-1073741824)))))),(0,vp0),(5,(Iv x1)),(8,vp0),(9,(Iv (p0.length:Int))),(10,(Iv aW))] a∧Hp Z ρ (L) w) ?_ ?_
   ·rcases Bool.eq_false_or_eq_true (decide (x1=0)) with hc3|hc3
    ·
     refine Gk hE hc3 rfl fun a hE=>Gk hE hc3 rfl fun a hE=>pk1 hE hc3 rfl rfl rfl rfl fun a hE=>?_
     have hE:=hE.eqv (v':=(.bool ((decide (x1=0))||(decide (x1<(-1073741824)))))) (by rw[hc3];rfl)
     exact aC ⟨hE.cut ⟨rfl,rfl,rfl,rfl,rfl,rfl,trivial⟩,hp⟩
    refine Gs hE hc3 rfl rfl fun a hE=>Gs hE hc3 rfl rfl fun a hE=>pk0 hE hc3 rfl rfl rfl rfl fun a hE=>?_
    have hE:=hE.eqv (v':=(.bool ((decide (x1=0))||(decide (x1<(-1073741824)))))) (by rw[hc3];rfl)
    exact aC ⟨hE.cut ⟨rfl,rfl,rfl,rfl,rfl,rfl,trivial⟩,hp⟩
   rintro a w ⟨hE,hp⟩
   refine S hE 1 rfl fun a hE=>?_
   refine iD [_,_,_] (fun a w=>Env 49 [(23,(.bool (((decide (x1=0))||(decide (x1<(-1073741824))))||(decide (1073741824<x1))))),(0,vp0),(8,vp0),(9,(Iv (p0.length:Int))),(10,(Iv aW))] a∧Hp Z ρ (L) w) ?_ ?_
   ·rcases Bool.eq_false_or_eq_true ((decide (x1=0))||(decide (x1<(-1073741824)))) with hc4|hc4
    ·
     refine Gk hE hc4 rfl fun a hE=>Gk hE hc4 rfl fun a hE=>pk1 hE hc4 rfl rfl rfl rfl fun a hE=>?_
     have hE:=hE.eqv (v':=(.bool (((decide (x1=0))||(decide (x1<(-1073741824))))||(decide (1073741824<x1))))) (by rw[hc4];rfl)
     exact aC ⟨hE.cut ⟨rfl,rfl,rfl,rfl,rfl,trivial⟩,hp⟩
    refine Gs hE hc4 rfl rfl fun a hE=>Gs hE hc4 rfl rfl fun a hE=>pk0 hE hc4 rfl rfl rfl rfl fun a hE=>?_
    have hE:=hE.eqv (v':=(.bool (((decide (x1=0))||(decide (x1<(-1073741824))))||(decide (1073741824<x1))))) (by rw[hc4];rfl)
    exact aC ⟨hE.cut ⟨rfl,rfl,rfl,rfl,rfl,trivial⟩,hp⟩
   rintro a w ⟨hE,hp⟩
   refine aC ?_
   refine dK hE rfl (fun hc5=>?_) (fun hc5=>?_)
   ·replace hl1:=(it hc5).symm.trans hl1
    refine aG (aB ?_)
    refine S hE 2 rfl fun a hE=>aC (dC ?_)
    refine⟨_,(oj hl1).symm,fun hb=>?_⟩
    subst hb
    have hp:=hp.emp (aA.nil (α:=Int) 3)
    have hp:=r1 hp
    obtain rfl:=oj hm
    exact ret2 hE rfl rfl rfl ⟨_,rfl,_,rfl,hp⟩
   replace hl1:=(ie hc5).symm.trans hl1
   refine bQ (aB ?_)
   obtain⟨x2,ex2,hl1⟩:=bnd hl1
   refine V hE hp rfl (dH rfl hE rfl rfl (bD ex2)) fun a hE=>S hE 1 rfl fun a hE=>aC ?_
   exact⟨_,(oj hl1).symm,hE.cut ⟨rfl,rfl,rfl,rfl,trivial⟩,hp⟩
  replace hl1:=(ie hc2).symm.trans hl1
  refine dR ?_
  refine⟨_,(oj hl1).symm,fun hbb=>?_⟩
  exact⟨_,hbb.symm,hE.cut ⟨rfl,trivial⟩,hp⟩
 rintro a w ⟨b1s,rfl,hE,hp⟩
 dsimp only at hm
 refine aG (aB ?_)
 refine S hE 1 rfl fun a hE=>?_
 obtain⟨x3,ex3,hm⟩:=bnd hm
 refine s_call (wk0 rfl) rfl rfl hE rfl [vp0] ⟨rfl,trivial⟩ ent39 (vW p0 vp0 hp0 hp x3 ex3) Ret.ret ?_
 intro v1 a w hR hE
 obtain⟨u,hu,hp⟩:=Ret.of hR
 rw[←hu] at hp
 have hp:=r1 hp
 refine S hE 1 rfl fun a hE=>aC (aG ?_)
 refine aB (S hE 1 rfl fun a hE=>?_)
 obtain⟨x4,ex4,hm⟩:=bnd hm
 refine Cl hE rfl rfl ent75 (c_sortN x3 v1 hp x4 ex4) ⟨rfl,rfl,trivial⟩ fun v a w hR hE=>?_
 obtain⟨rfl,hp⟩:=hR
 have hp:=r1 hp
 refine aC (aG ?_)
 refine aB (S hE 1 rfl fun a hE=>?_)
 obtain⟨x5,ex5,hm⟩:=bnd hm
 refine s_call (wk0 rfl) rfl rfl hE rfl [v1] ⟨rfl,trivial⟩ ent79 (c_compactI_own x4 v1 (hp.get 0 rfl) x5 ex5) Ret.ret ?_
 intro v2 a w hR hE
 obtain⟨u,hu,hp⟩:=Ret.of hR
 rw[←hu] at hp
 have hp:=r1 hp
 refine S hE 1 rfl fun a hE=>aC (aG ?_)
 refine aG (aB ?_)
 refine S hE 1 rfl fun a hE=>aC ?_
 obtain⟨b3,hc6,hm⟩:=bnd hm
 refine dI (fun a w=>∃s:Unit,b3= .brk s∧(Env 49 [(6,v2)] a∧Hp Z ρ (aA 3 v2 x5::L) w)) ?_ ?_
 ·refine eX hc6 (fun s a w=>Env 49 [(6,v2),(7,(Iv s))] a∧Hp Z ρ (aA 3 v2 x5::L) w) ?_ ?_
  ·exact⟨hE.cut ⟨rfl,rfl,trivial⟩,hp⟩
  rintro dS st a w ⟨hE,hp⟩ hl2
  unfold oI at hl2
  refine aG (aG ?_)
  refine aB (S hE 2 rfl fun a hE=>?_)
  refine V hE hp rfl (dD rfl hE rfl (aA.len hp 0 rfl aY)) fun a hE=>S hE 1 rfl fun a hE=>aC ?_
  refine dK hE rfl (fun hc7=>?_) (fun hc7=>?_)
  ·replace hl2:=(it hc7).symm.trans hl2
   refine bQ (aG ?_)
   refine dG (aG ?_)
   refine lG (by kernel_rfl) (by kernel_rfl) hp ?_
   refine Sq hE 2 rfl fun a hE=>?_
   obtain⟨x6,ex6,hl2⟩:=bnd hl2
   refine Vq hE rfl (tX rfl hE rfl rfl (bD ex6)) fun a hE=>?_
   obtain⟨x7,ex7,hl2⟩:=bnd hl2
   obtain⟨b4,b4o,b4r,b4v,b4f⟩:=aA.at hp 0 rfl aY ex7
   refine Vq hE rfl (aS rfl hE rfl rfl b4r) fun a hE=>Vq hE rfl (aX rfl hE rfl (fun w hw=>bF bG (b4f 0 _ rfl _ _ w (hw.get 0 rfl)))) fun a hE=>Sq hE 2 rfl fun a hE=>?_
   obtain⟨x8,ex8,hl2⟩:=bnd hl2
   obtain⟨b5,b5o,b5r,b5v,b5f⟩:=aA.at hp 0 rfl aY ex8
   refine Vq hE rfl (aS rfl hE rfl rfl b5r) fun a hE=>Vq hE rfl (aX rfl hE rfl (fun w hw=>bF bG (b5f 0 _ rfl _ _ w (hw.get 0 rfl)))) fun a hE=>?_
   obtain⟨x9,ex9,hl2⟩:=bnd hl2
   refine Vq hE rfl (pV rfl hE rfl (bD ex9)) fun a hE=>Sq hE 1 rfl fun a hE=>?_
   refine oO fun w hp=>?_
   have hp:=r1 hp
   refine dK hE rfl (fun hc8=>?_) (fun hc8=>?_)
   ·replace hl2:=(it hc8).symm.trans hl2
    refine aG (aB ?_)
    refine S hE 2 rfl fun a hE=>aC ?_
    have hE:=hE.cut (E':=[(2,N0),(3,(.bool false))]) ⟨rfl,rfl,trivial⟩
    refine dC ?_
    refine⟨_,(oj hl2).symm,fun hb=>?_⟩
    subst hb
    have hp:=hp.emp (aA.nil (α:=Int) 3)
    have hp:=r2 hp
    obtain rfl:=oj hm
    exact ret2 hE rfl rfl rfl ⟨_,rfl,_,rfl,((hp.get 1 rfl).drop)⟩
   replace hl2:=(ie hc8).symm.trans hl2
   refine bQ (aB ?_)
   refine S hE 1 rfl fun a hE=>?_
   obtain⟨x10,ex10,hl2⟩:=bnd hl2
   refine V hE hp rfl (dH rfl hE rfl rfl (bD ex10)) fun a hE=>S hE 1 rfl fun a hE=>aC ?_
   exact⟨_,(oj hl2).symm,hE.cut ⟨rfl,rfl,trivial⟩,hp⟩
  replace hl2:=(ie hc7).symm.trans hl2
  refine dR ?_
  refine⟨_,(oj hl2).symm,fun hbb=>?_⟩
  exact⟨_,hbb.symm,hE.cut ⟨rfl,trivial⟩,hp⟩
 rintro a w ⟨b3s,rfl,hE,hp⟩
 dsimp only at hm
 refine aG (aB ?_)
 refine S hE 3 rfl fun a hE=>aC (dC ?_)
 obtain rfl:=oj hm
 exact ret2 hE rfl rfl rfl ⟨_,rfl,_,rfl,hp⟩
end Go.Proofs.Ytpkhmndpeipfmaa
