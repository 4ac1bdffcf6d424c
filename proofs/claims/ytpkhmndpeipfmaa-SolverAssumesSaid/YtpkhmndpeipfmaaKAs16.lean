/- The code goes as its model: assessor/proof.index, assessor/proof.normal, assessor/proof.valid. (Printed by wip/sp/gen.py.) -/
import Derived.Test.YtpkhmndpeipfmaaKAsT
import Derived.Test.YtpkhmndpeipfmaaKAs5
import Derived.Test.YtpkhmndpeipfmaaKAs6
import Derived.Test.YtpkhmndpeipfmaaKAs7
set_option linter.unusedVariables false
set_option linter.unusedSimpArgs false
namespace Go.Proofs.Ytpkhmndpeipfmaa
open Go.RowKit
set_option maxRecDepth 100000 in
set_option maxHeartbeats 4000000 in
theorem iD {Z:World} {ρ:PH} {L:List bV} {w:World} (p0:Int) (hp:Hp Z ρ (L) w) (r:Int) (hm:kM p0=some r):
  Calls Try.prog 83 #[(.int .i64 p0)] w (Ret fun v w'=>v=(.int .i64 r)∧Hp Z ρ (L) w'):=by
 refine enter (N:=10) Try.func83 rfl rfl [(0,(.int .i64 p0))] rfl (bP ⟨rfl,trivial⟩) fun a hE=>?_
 unfold kM at hm
 refine aH (aB ?_)
 refine S hE 1 rfl fun a hE=>aC (aH ?_)
 refine aH (aB ?_)
 refine S hE 2 rfl fun a hE=>aC ?_
 refine dQ hE rfl (fun hc1=>?_) (fun hc1=>?_)
 ·replace hm:=(it hc1).symm.trans hm
  refine aH (aB ?_)
  refine S hE 1 rfl fun a hE=>?_
  obtain⟨x1,ex1,hm⟩:=bnd hm
  refine V hE hp rfl (ex_mul rfl hE rfl rfl (bF ex1)) fun a hE=>?_
  obtain⟨x2,ex2,hm⟩:=bnd hm
  refine V hE hp rfl (dS rfl hE rfl rfl (bF ex2)) fun a hE=>S hE 1 rfl fun a hE=>aC (dE ?_)
  obtain rfl:=Option.some.inj hm
  exact iV hE rfl rfl ⟨_,rfl,rfl,hp⟩
 replace hm:=(ie hc1).symm.trans hm
 refine bT (aH ?_)
 refine aB (S hE 1 rfl fun a hE=>?_)
 obtain⟨x3,ex3,hm⟩:=bnd hm
 refine V hE hp rfl (ex_mul rfl hE rfl rfl (bF ex3)) fun a hE=>S hE 1 rfl fun a hE=>aC (dE ?_)
 obtain rfl:=Option.some.inj hm
 exact iV hE rfl rfl ⟨_,rfl,rfl,hp⟩
set_option maxRecDepth 100000 in
set_option maxHeartbeats 4000000 in
theorem c_proof_normal {Z:World} {ρ:PH} {L:List bV} {w:World} (p0:(List Int)) (vp0:Value) (hp0:bU ρ vp0 p0) (p1:Int) (hp:Hp Z ρ (L) w) (r:Bool) (hm:qY p0 p1=some r):
  Calls Try.prog 60 #[vp0,(.int .i64 p1)] w (Ret fun v w'=>v=(.bool r)∧Hp Z ρ (L) w'):=by
 refine enter (N:=35) Try.func60 rfl rfl [(0,vp0),(1,(.int .i64 p1))] rfl (bP ⟨rfl,rfl,trivial⟩) fun a hE=>?_
 unfold qY at hm
 refine aH (aB ?_)
 refine S hE 1 rfl fun a hE=>aC (aH ?_)
 refine aB (S hE 1 rfl fun a hE=>?_)
 refine aC (aH ?_)
 refine aH (aB ?_)
 refine S hE 1 rfl fun a hE=>V hE hp rfl (dJ rfl hE rfl (bU.len hp0 aY)) fun a hE=>S hE 1 rfl fun a hE=>aC ?_
 obtain⟨b1,hc1,hm⟩:=bnd hm
 refine dN (fun a w=>∃s:Unit,b1= .brk s∧(Env 35 [] a∧Hp Z ρ (L) w)) ?_ ?_
 ·refine fV hc1 (fun s a w=>Env 35 [(1,(.int .i64 p1)),(5,(.int .i64 s.1)),(9,vp0),(10,(.int .i64 (p0.length:Int))),(11,(.int .i64 s.2))] a∧Hp Z ρ (L) w) ?_ ?_
  ·exact⟨hE.cut ⟨rfl,rfl,rfl,rfl,rfl,trivial⟩,hp⟩
  rintro⟨bC,cZ⟩ st a w ⟨hE,hp⟩ hl1
  dsimp only at hE hp hl1
  unfold nV at hl1
  refine aH (aB ?_)
  refine S hE 1 rfl fun a hE=>aC (aH ?_)
  refine dQ hE rfl (fun hc2=>?_) (fun hc2=>?_)
  ·replace hl1:=(it hc2).symm.trans hl1
   refine bT (aH ?_)
   refine dL (aH ?_)
   refine aB ?_
   obtain⟨x1,ex1,hl1⟩:=bnd hl1
   obtain⟨b2,b2o,b2c,b2r,b2k,b2f⟩:=bU.at hp0 aY ex1
   obtain rfl:b2c=Enc.enc x1:=b2k
   have b2f:AtP ρ b2 b2o [(.int .i64 x1)]:=b2f
   refine V hE hp rfl (aV rfl hE rfl rfl b2r) fun a hE=>V hE hp rfl (aZ rfl hE rfl (fun w hw=>bH bG (b2f.c 0 rfl w hw))) fun a hE=>S hE 1 rfl fun a hE=>aC (aH ?_)
   refine aB (S hE 2 rfl fun a hE=>?_)
   refine V hE hp rfl (nZ rfl hE rfl rfl) fun a hE=>V hE hp rfl (v:=(.int .i64 (max x1 (IntKind.wrap .i64 (0-x1))))) (ex_max rfl hE rfl rfl) fun a hE=>S hE 1 rfl fun a hE=>aC (aH ?_)
   refine aH (aB ?_)
   refine S hE 2 rfl fun a hE=>V hE hp rfl (nZ rfl hE rfl rfl) fun a hE=>S hE 2 rfl fun a hE=>?_
   refine kV [_,_,_,_] (fun a w=>Env 35 [(27,(.bool ((decide (x1<(IntKind.wrap .i64 (0-p1))))||(decide (p1<x1))))),(1,(.int .i64 p1)),(5,(.int .i64 bC)),(8,(.int .i64 (max x1 (IntKind.wrap .i64 (0-x1))))),(9,vp0),(10,(.int .i64 (p0.length:Int))),(11,(.int .i64 cZ))] a∧Hp Z ρ (L) w) ?_ ?_
   ·rcases Bool.eq_false_or_eq_true (decide (x1<(IntKind.wrap .i64 (0-p1)))) with hc3|hc3
    ·
     refine Gk hE hc3 rfl fun a hE=>Gk hE hc3 rfl fun a hE=>Gk hE hc3 rfl fun a hE=>pk1 hE hc3 rfl rfl rfl rfl fun a hE=>?_
     have hE:=hE.eqv (v':=(.bool ((decide (x1<(IntKind.wrap .i64 (0-p1))))||(decide (p1<x1))))) (by rw[hc3];rfl)
     exact aC ⟨hE.cut ⟨rfl,rfl,rfl,rfl,rfl,rfl,rfl,trivial⟩,hp⟩
    refine Gs hE hc3 rfl rfl fun a hE=>Gs hE hc3 rfl rfl fun a hE=>Gs hE hc3 rfl rfl fun a hE=>pk0 hE hc3 rfl rfl rfl rfl fun a hE=>?_
    have hE:=hE.eqv (v':=(.bool ((decide (x1<(IntKind.wrap .i64 (0-p1))))||(decide (p1<x1))))) (by rw[hc3];rfl)
    exact aC ⟨hE.cut ⟨rfl,rfl,rfl,rfl,rfl,rfl,rfl,trivial⟩,hp⟩
   rintro a w ⟨hE,hp⟩
   refine S hE 1 rfl fun a hE=>?_
   refine kV [_,_,_,_] (fun a w=>Env 35 [(32,(.bool (((decide (x1<(IntKind.wrap .i64 (0-p1))))||(decide (p1<x1)))||(decide ((max x1 (IntKind.wrap .i64 (0-x1)))≤bC))))),(1,(.int .i64 p1)),(8,(.int .i64 (max x1 (IntKind.wrap .i64 (0-x1))))),(9,vp0),(10,(.int .i64 (p0.length:Int))),(11,(.int .i64 cZ))] a∧Hp Z ρ (L) w) ?_ ?_
   ·rcases Bool.eq_false_or_eq_true ((decide (x1<(IntKind.wrap .i64 (0-p1))))||(decide (p1<x1))) with hc4|hc4
    ·
     refine Gk hE hc4 rfl fun a hE=>Gk hE hc4 rfl fun a hE=>Gk hE hc4 rfl fun a hE=>pk1 hE hc4 rfl rfl rfl rfl fun a hE=>?_
     have hE:=hE.eqv (v':=(.bool (((decide (x1<(IntKind.wrap .i64 (0-p1))))||(decide (p1<x1)))||(decide ((max x1 (IntKind.wrap .i64 (0-x1)))≤bC))))) (by rw[hc4];rfl)
     exact aC ⟨hE.cut ⟨rfl,rfl,rfl,rfl,rfl,rfl,trivial⟩,hp⟩
    refine Gs hE hc4 rfl rfl fun a hE=>Gs hE hc4 rfl rfl fun a hE=>Gs hE hc4 rfl rfl fun a hE=>pk0 hE hc4 rfl rfl rfl rfl fun a hE=>?_
    have hE:=hE.eqv (v':=(.bool (((decide (x1<(IntKind.wrap .i64 (0-p1))))||(decide (p1<x1)))||(decide ((max x1 (IntKind.wrap .i64 (0-x1)))≤bC))))) (by rw[hc4];rfl)
    exact aC ⟨hE.cut ⟨rfl,rfl,rfl,rfl,rfl,rfl,trivial⟩,hp⟩
   rintro a w ⟨hE,hp⟩
   refine aC ?_
   refine dQ hE rfl (fun hc5=>?_) (fun hc5=>?_)
   ·replace hl1:=(it hc5).symm.trans hl1
    refine aH (aB ?_)
    refine S hE 1 rfl fun a hE=>aC (dE ?_)
    refine⟨_,(Option.some.inj hl1).symm,fun hb=>?_⟩
    subst hb
    obtain rfl:=Option.some.inj hm
    exact iV hE rfl rfl ⟨_,rfl,rfl,hp⟩
   replace hl1:=(ie hc5).symm.trans hl1
   refine bT (aB ?_)
   refine S hE 2 rfl fun a hE=>aC (aB ?_)
   obtain⟨x2,ex2,hl1⟩:=bnd hl1
   refine V hE hp rfl (dS rfl hE rfl rfl (bF ex2)) fun a hE=>S hE 1 rfl fun a hE=>aC ?_
   exact⟨_,(Option.some.inj hl1).symm,hE.cut ⟨rfl,rfl,rfl,rfl,rfl,trivial⟩,hp⟩
  replace hl1:=(ie hc2).symm.trans hl1
  refine eU ?_
  refine⟨_,(Option.some.inj hl1).symm,fun hbb=>?_⟩
  exact⟨_,hbb.symm,hE.cut trivial,hp⟩
 rintro a w ⟨b1s,rfl,hE,hp⟩
 dsimp only at hm
 refine aH (aB ?_)
 refine S hE 1 rfl fun a hE=>aC (dE ?_)
 obtain rfl:=Option.some.inj hm
 exact iV hE rfl rfl ⟨_,rfl,rfl,hp⟩
set_option maxRecDepth 100000 in
set_option maxHeartbeats 4000000 in
theorem c_proof_valid {Z:World} {ρ:PH} {L:List bV} {w:World} (p0:(List (List Int))) (vp0:Value) (hp0:bU ρ vp0 p0) (p1:Int) (hp:Hp Z ρ (L) w) (r:Bool) (hm:sG p0 p1=some r):
  Calls Try.prog 42 #[vp0,(.int .i64 p1)] w (Ret fun v w'=>v=(.bool r)∧Hp Z ρ (L) w'):=by
 refine enter (N:=27) Try.func42 rfl rfl [(0,vp0),(1,(.int .i64 p1))] rfl (bP ⟨rfl,rfl,trivial⟩) fun a hE=>?_
 unfold sG at hm
 refine aH (aB ?_)
 refine S hE 1 rfl fun a hE=>aC (aH ?_)
 refine aB (S hE 1 rfl fun a hE=>?_)
 refine aC (aH ?_)
 refine aH (aB ?_)
 refine S hE 1 rfl fun a hE=>V hE hp rfl (dJ rfl hE rfl (bU.len hp0 nG)) fun a hE=>S hE 1 rfl fun a hE=>aC ?_
 obtain⟨b1,hc1,hm⟩:=bnd hm
 refine dN (fun a w=>∃s:Unit,b1= .brk s∧(Env 27 [] a∧Hp Z ρ (L) w)) ?_ ?_
 ·refine fV hc1 (fun s a w=>Env 27 [(1,(.int .i64 p1)),(5,(.int .i64 s.1)),(8,vp0),(9,(.int .i64 (p0.length:Int))),(10,(.int .i64 s.2))] a∧Hp Z ρ (L) w) ?_ ?_
  ·exact⟨hE.cut ⟨rfl,rfl,rfl,rfl,rfl,trivial⟩,hp⟩
  rintro⟨bC,cZ⟩ st a w ⟨hE,hp⟩ hl1
  dsimp only at hE hp hl1
  unfold oL at hl1
  refine aH (aB ?_)
  refine S hE 1 rfl fun a hE=>aC (aH ?_)
  refine dQ hE rfl (fun hc2=>?_) (fun hc2=>?_)
  ·replace hl1:=(it hc2).symm.trans hl1
   refine bT (aH ?_)
   refine dL (aH ?_)
   refine aB ?_
   obtain⟨x1,ex1,hl1⟩:=bnd hl1
   obtain⟨b2,b2o,b2c,b2r,b2k,b2f⟩:=bU.at hp0 nG ex1
   obtain⟨vb2,rfl,hb2⟩:=b2k
   have b2f:AtP ρ b2 b2o [vb2]:=b2f
   refine V hE hp rfl (aV rfl hE rfl rfl b2r) fun a hE=>V hE hp rfl (aZ rfl hE rfl (fun w hw=>bH bK (b2f.c 0 rfl w hw))) fun a hE=>S hE 1 rfl fun a hE=>aC (aH ?_)
   refine aB (S hE 2 rfl fun a hE=>?_)
   refine V hE hp rfl (dJ rfl hE rfl (bU.len hb2 aY)) fun a hE=>?_
   obtain⟨x2,ex2,hl1⟩:=bnd hl1
   refine V hE hp rfl (dS rfl hE rfl rfl (bF ex2)) fun a hE=>S hE 1 rfl fun a hE=>aC (aH ?_)
   refine aB (S hE 2 rfl fun a hE=>?_)
   obtain⟨x3,ex3,hl1⟩:=bnd hl1
   refine s_call (wk0 rfl) rfl rfl hE rfl [vb2,(.int .i64 p1)] ⟨rfl,rfl,trivial⟩ ent60 (c_proof_normal x1 vb2 hb2 p1 hp x3 ex3) Ret.ret ?_
   intro v a w hR hE
   obtain⟨rfl,hp⟩:=Ret.of hR
   have hp:=r0 hp
   refine S hE 2 rfl fun a hE=>?_
   refine kV [_,_,_] (fun a w=>Env 27 [(25,(.bool ((!x3)||(decide (1048576<x2))))),(1,(.int .i64 p1)),(5,(.int .i64 x2)),(8,vp0),(9,(.int .i64 (p0.length:Int))),(10,(.int .i64 cZ))] a∧Hp Z ρ (L) w) ?_ ?_
   ·rcases Bool.eq_false_or_eq_true (!x3) with hc3|hc3
    ·
     refine Gk hE hc3 rfl fun a hE=>Gk hE hc3 rfl fun a hE=>pk1 hE hc3 rfl rfl rfl rfl fun a hE=>?_
     have hE:=hE.eqv (v':=(.bool ((!x3)||(decide (1048576<x2))))) (by rw[hc3];rfl)
     exact aC ⟨hE.cut ⟨rfl,rfl,rfl,rfl,rfl,rfl,trivial⟩,hp⟩
    refine Gs hE hc3 rfl rfl fun a hE=>Gs hE hc3 rfl rfl fun a hE=>pk0 hE hc3 rfl rfl rfl rfl fun a hE=>?_
    have hE:=hE.eqv (v':=(.bool ((!x3)||(decide (1048576<x2))))) (by rw[hc3];rfl)
    exact aC ⟨hE.cut ⟨rfl,rfl,rfl,rfl,rfl,rfl,trivial⟩,hp⟩
   rintro a w ⟨hE,hp⟩
   refine aC ?_
   refine dQ hE rfl (fun hc4=>?_) (fun hc4=>?_)
   ·replace hl1:=(it hc4).symm.trans hl1
    refine aH (aB ?_)
    refine S hE 1 rfl fun a hE=>aC (dE ?_)
    refine⟨_,(Option.some.inj hl1).symm,fun hb=>?_⟩
    subst hb
    obtain rfl:=Option.some.inj hm
    exact iV hE rfl rfl ⟨_,rfl,rfl,hp⟩
   replace hl1:=(ie hc4).symm.trans hl1
   refine bT (aB ?_)
   obtain⟨x4,ex4,hl1⟩:=bnd hl1
   refine V hE hp rfl (dS rfl hE rfl rfl (bF ex4)) fun a hE=>S hE 1 rfl fun a hE=>aC ?_
   exact⟨_,(Option.some.inj hl1).symm,hE.cut ⟨rfl,rfl,rfl,rfl,rfl,trivial⟩,hp⟩
  replace hl1:=(ie hc2).symm.trans hl1
  refine eU ?_
  refine⟨_,(Option.some.inj hl1).symm,fun hbb=>?_⟩
  exact⟨_,hbb.symm,hE.cut trivial,hp⟩
 rintro a w ⟨b1s,rfl,hE,hp⟩
 dsimp only at hm
 refine aH (aB ?_)
 refine S hE 1 rfl fun a hE=>aC (dE ?_)
 obtain rfl:=Option.some.inj hm
 exact iV hE rfl rfl ⟨_,rfl,rfl,hp⟩
end Go.Proofs.Ytpkhmndpeipfmaa
