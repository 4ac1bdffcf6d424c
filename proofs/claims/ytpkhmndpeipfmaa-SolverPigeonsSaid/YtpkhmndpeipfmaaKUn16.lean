/- The code goes as its model: assessor/proof.index, assessor/proof.normal, assessor/proof.valid. (Printed by wip/sp/gen.py.) -/
import Derived.Test.YtpkhmndpeipfmaaKUnT
import Derived.Test.YtpkhmndpeipfmaaKUn5
import Derived.Test.YtpkhmndpeipfmaaKUn6
import Derived.Test.YtpkhmndpeipfmaaKUn7
set_option linter.unusedVariables false
set_option linter.unusedSimpArgs false
set_option maxRecDepth 100000
set_option maxHeartbeats 4000000
namespace Go.Proofs.Ytpkhmndpeipfmaa
open Go.RowKit
theorem iQ {Z:World} {ρ:PH} {L:List bZ} {w:World} (p0:Int) (hp:Hp Z ρ (L) w) (r:Int) (hm:lI p0=some r):
  Calls Try.prog 83 #[(Iv p0)] w (Ret fun v w'=>v=(Iv r)∧Hp Z ρ (L) w'):=by
 refine enter (N:=10) Try.func83 rfl rfl [(0,(Iv p0))] rfl (bM ⟨rfl,trivial⟩) fun a hE=>?_
 unfold lI at hm
 refine aG (aB ?_)
 refine S hE 1 rfl fun a hE=>aC (aG ?_)
 refine aG (aB ?_)
 refine S hE 2 rfl fun a hE=>aC ?_
 refine dK hE rfl (fun hc1=>?_) (fun hc1=>?_)
 ·replace hm:=(it hc1).symm.trans hm
  refine aG (aB ?_)
  refine S hE 1 rfl fun a hE=>?_
  obtain⟨x1,ex1,hm⟩:=bnd hm
  refine V hE hp rfl (yO rfl hE rfl rfl (aZ ex1)) fun a hE=>?_
  obtain⟨x2,ex2,hm⟩:=bnd hm
  refine V hE hp rfl (dD rfl hE rfl rfl (aZ ex2)) fun a hE=>S hE 1 rfl fun a hE=>aC (dE ?_)
  obtain rfl:=oj hm
  exact iH hE rfl rfl ⟨_,rfl,rfl,hp⟩
 replace hm:=(ie hc1).symm.trans hm
 refine bP (aG ?_)
 refine aB (S hE 1 rfl fun a hE=>?_)
 obtain⟨x3,ex3,hm⟩:=bnd hm
 refine V hE hp rfl (yO rfl hE rfl rfl (aZ ex3)) fun a hE=>S hE 1 rfl fun a hE=>aC (dE ?_)
 obtain rfl:=oj hm
 exact iH hE rfl rfl ⟨_,rfl,rfl,hp⟩
theorem c_proof_normal {Z:World} {ρ:PH} {L:List bZ} {w:World} (p0:(List Int)) (vp0:Value) (hp0:bW ρ vp0 p0) (p1:Int) (hp:Hp Z ρ (L) w) (r:Bool) (hm:sK p0 p1=some r):
  Calls Try.prog 60 #[vp0,(Iv p1)] w (Ret fun v w'=>v=(.bool r)∧Hp Z ρ (L) w'):=by
 refine enter (N:=35) Try.func60 rfl rfl [(0,vp0),(1,(Iv p1))] rfl (bM ⟨rfl,rfl,trivial⟩) fun a hE=>?_
 unfold sK at hm
 refine aG (aB ?_)
 refine S hE 1 rfl fun a hE=>aC (aG ?_)
 refine aB (S hE 1 rfl fun a hE=>?_)
 refine aC (aG ?_)
 refine aG (aB ?_)
 refine S hE 1 rfl fun a hE=>V hE hp rfl (dL rfl hE rfl (bW.len hp0 bC)) fun a hE=>S hE 1 rfl fun a hE=>aC ?_
 obtain⟨b1,hc1,hm⟩:=bnd hm
 refine dH (fun a w=>∃s:Unit,b1= .brk s∧(Env 35 [] a∧Hp Z ρ (L) w)) ?_ ?_
 ·refine eU hc1 (fun s a w=>Env 35 [(1,(Iv p1)),(5,(Iv s.1)),(9,vp0),(10,(Iv (p0.length:Int))),(11,(Iv s.2))] a∧Hp Z ρ (L) w) ?_ ?_
  ·exact⟨hE.cut ⟨rfl,rfl,rfl,rfl,rfl,trivial⟩,hp⟩
  rintro⟨aW,bU⟩ st a w ⟨hE,hp⟩ hl1
  dsimp only at hE hp hl1
  unfold pI at hl1
  refine aG (aB ?_)
  refine S hE 1 rfl fun a hE=>aC (aG ?_)
  refine dK hE rfl (fun hc2=>?_) (fun hc2=>?_)
  ·replace hl1:=(it hc2).symm.trans hl1
   refine bP (aG ?_)
   refine dF (aG ?_)
   refine aB ?_
   obtain⟨x1,ex1,hl1⟩:=bnd hl1
   obtain⟨b2,b2o,b2c,b2r,b2k,b2f⟩:=bW.at hp0 bC ex1
   obtain rfl:b2c=Enc.enc x1:=b2k
   have b2f:AtP ρ b2 b2o [(Iv x1)]:=b2f
   refine V hE hp rfl (aU rfl hE rfl rfl b2r) fun a hE=>V hE hp rfl (bD rfl hE rfl (fun w hw=>bH bG (b2f.c 0 rfl w hw))) fun a hE=>S hE 1 rfl fun a hE=>aC (aG ?_)
   refine aB (S hE 2 rfl fun a hE=>?_)
   refine V hE hp rfl (mX rfl hE rfl rfl) fun a hE=>V hE hp rfl (v:=(Iv (max x1 (IntKind.wrap .i64 (0-x1))))) (ex_max rfl hE rfl rfl) fun a hE=>S hE 1 rfl fun a hE=>aC (aG ?_)
   refine aG (aB ?_)
   refine S hE 2 rfl fun a hE=>V hE hp rfl (mX rfl hE rfl rfl) fun a hE=>S hE 2 rfl fun a hE=>?_
   refine lZ [_,_,_,_] (fun a w=>Env 35 [(27,(.bool ((decide (x1<(IntKind.wrap .i64 (0-p1))))||(decide (p1<x1))))),(1,(Iv p1)),(5,(Iv aW)),(8,(Iv (max x1 (IntKind.wrap .i64 (0-x1))))),(9,vp0),(10,(Iv (p0.length:Int))),(11,(Iv bU))] a∧Hp Z ρ (L) w) ?_ ?_
   ·rcases Bool.eq_false_or_eq_true (decide (x1<(IntKind.wrap .i64 (0-p1)))) with hc3|hc3
    ·
     refine Gk hE hc3 rfl fun a hE=>Gk hE hc3 rfl fun a hE=>Gk hE hc3 rfl fun a hE=>pk1 hE hc3 rfl rfl rfl rfl fun a hE=>?_
     have hE:=hE.eqv (v':=(.bool ((decide (x1<(IntKind.wrap .i64 (0-p1))))||(decide (p1<x1))))) (by rw[hc3];rfl)
     exact aC ⟨hE.cut ⟨rfl,rfl,rfl,rfl,rfl,rfl,rfl,trivial⟩,hp⟩
    refine Gs hE hc3 rfl rfl fun a hE=>Gs hE hc3 rfl rfl fun a hE=>Gs hE hc3 rfl rfl fun a hE=>pk0 hE hc3 rfl rfl rfl rfl fun a hE=>?_
    have hE:=hE.eqv (v':=(.bool ((decide (x1<(IntKind.wrap .i64 (0-p1))))||(decide (p1<x1))))) (by rw[hc3];rfl)
    exact aC ⟨hE.cut ⟨rfl,rfl,rfl,rfl,rfl,rfl,rfl,trivial⟩,hp⟩
   rintro a w ⟨hE,hp⟩
   refine S hE 1 rfl fun a hE=>?_
   refine lZ [_,_,_,_] (fun a w=>Env 35 [(32,(.bool (((decide (x1<(IntKind.wrap .i64 (0-p1))))||(decide (p1<x1)))||(decide ((max x1 (IntKind.wrap .i64 (0-x1)))≤aW))))),(1,(Iv p1)),(8,(Iv (max x1 (IntKind.wrap .i64 (0-x1))))),(9,vp0),(10,(Iv (p0.length:Int))),(11,(Iv bU))] a∧Hp Z ρ (L) w) ?_ ?_
   ·rcases Bool.eq_false_or_eq_true ((decide (x1<(IntKind.wrap .i64 (0-p1))))||(decide (p1<x1))) with hc4|hc4
    ·
     refine Gk hE hc4 rfl fun a hE=>Gk hE hc4 rfl fun a hE=>Gk hE hc4 rfl fun a hE=>pk1 hE hc4 rfl rfl rfl rfl fun a hE=>?_
     have hE:=hE.eqv (v':=(.bool (((decide (x1<(IntKind.wrap .i64 (0-p1))))||(decide (p1<x1)))||(decide ((max x1 (IntKind.wrap .i64 (0-x1)))≤aW))))) (by rw[hc4];rfl)
     exact aC ⟨hE.cut ⟨rfl,rfl,rfl,rfl,rfl,rfl,trivial⟩,hp⟩
    refine Gs hE hc4 rfl rfl fun a hE=>Gs hE hc4 rfl rfl fun a hE=>Gs hE hc4 rfl rfl fun a hE=>pk0 hE hc4 rfl rfl rfl rfl fun a hE=>?_
    have hE:=hE.eqv (v':=(.bool (((decide (x1<(IntKind.wrap .i64 (0-p1))))||(decide (p1<x1)))||(decide ((max x1 (IntKind.wrap .i64 (0-x1)))≤aW))))) (by rw[hc4];rfl)
    exact aC ⟨hE.cut ⟨rfl,rfl,rfl,rfl,rfl,rfl,trivial⟩,hp⟩
   rintro a w ⟨hE,hp⟩
   refine aC ?_
   refine dK hE rfl (fun hc5=>?_) (fun hc5=>?_)
   ·replace hl1:=(it hc5).symm.trans hl1
    refine aG (aB ?_)
    refine S hE 1 rfl fun a hE=>aC (dE ?_)
    refine⟨_,(oj hl1).symm,fun hb=>?_⟩
    subst hb
    obtain rfl:=oj hm
    exact iH hE rfl rfl ⟨_,rfl,rfl,hp⟩
   replace hl1:=(ie hc5).symm.trans hl1
   refine bP (aB ?_)
   refine S hE 2 rfl fun a hE=>aC (aB ?_)
   obtain⟨x2,ex2,hl1⟩:=bnd hl1
   refine V hE hp rfl (dD rfl hE rfl rfl (aZ ex2)) fun a hE=>S hE 1 rfl fun a hE=>aC ?_
   exact⟨_,(oj hl1).symm,hE.cut ⟨rfl,rfl,rfl,rfl,rfl,trivial⟩,hp⟩
  replace hl1:=(ie hc2).symm.trans hl1
  refine dR ?_
  refine⟨_,(oj hl1).symm,fun hbb=>?_⟩
  exact⟨_,hbb.symm,hE.cut trivial,hp⟩
 rintro a w ⟨b1s,rfl,hE,hp⟩
 dsimp only at hm
 refine aG (aB ?_)
 refine S hE 1 rfl fun a hE=>aC (dE ?_)
 obtain rfl:=oj hm
 exact iH hE rfl rfl ⟨_,rfl,rfl,hp⟩
theorem c_proof_valid {Z:World} {ρ:PH} {L:List bZ} {w:World} (p0:(List (List Int))) (vp0:Value) (hp0:bW ρ vp0 p0) (p1:Int) (hp:Hp Z ρ (L) w) (r:Bool) (hm:uC p0 p1=some r):
  Calls Try.prog 42 #[vp0,(Iv p1)] w (Ret fun v w'=>v=(.bool r)∧Hp Z ρ (L) w'):=by
 refine enter (N:=27) Try.func42 rfl rfl [(0,vp0),(1,(Iv p1))] rfl (bM ⟨rfl,rfl,trivial⟩) fun a hE=>?_
 unfold uC at hm
 refine aG (aB ?_)
 refine S hE 1 rfl fun a hE=>aC (aG ?_)
 refine aB (S hE 1 rfl fun a hE=>?_)
 refine aC (aG ?_)
 refine aG (aB ?_)
 refine S hE 1 rfl fun a hE=>V hE hp rfl (dL rfl hE rfl (bW.len hp0 kU)) fun a hE=>S hE 1 rfl fun a hE=>aC ?_
 obtain⟨b1,hc1,hm⟩:=bnd hm
 refine dH (fun a w=>∃s:Unit,b1= .brk s∧(Env 27 [] a∧Hp Z ρ (L) w)) ?_ ?_
 ·refine eU hc1 (fun s a w=>Env 27 [(1,(Iv p1)),(5,(Iv s.1)),(8,vp0),(9,(Iv (p0.length:Int))),(10,(Iv s.2))] a∧Hp Z ρ (L) w) ?_ ?_
  ·exact⟨hE.cut ⟨rfl,rfl,rfl,rfl,rfl,trivial⟩,hp⟩
  rintro⟨aW,bU⟩ st a w ⟨hE,hp⟩ hl1
  dsimp only at hE hp hl1
  unfold pX at hl1
  refine aG (aB ?_)
  refine S hE 1 rfl fun a hE=>aC (aG ?_)
  refine dK hE rfl (fun hc2=>?_) (fun hc2=>?_)
  ·replace hl1:=(it hc2).symm.trans hl1
   refine bP (aG ?_)
   refine dF (aG ?_)
   refine aB ?_
   obtain⟨x1,ex1,hl1⟩:=bnd hl1
   obtain⟨b2,b2o,b2c,b2r,b2k,b2f⟩:=bW.at hp0 kU ex1
   obtain⟨vb2,rfl,hb2⟩:=b2k
   have b2f:AtP ρ b2 b2o [vb2]:=b2f
   refine V hE hp rfl (aU rfl hE rfl rfl b2r) fun a hE=>V hE hp rfl (bD rfl hE rfl (fun w hw=>bH bJ (b2f.c 0 rfl w hw))) fun a hE=>S hE 1 rfl fun a hE=>aC (aG ?_)
   refine aB (S hE 2 rfl fun a hE=>?_)
   refine V hE hp rfl (dL rfl hE rfl (bW.len hb2 bC)) fun a hE=>?_
   obtain⟨x2,ex2,hl1⟩:=bnd hl1
   refine V hE hp rfl (dD rfl hE rfl rfl (aZ ex2)) fun a hE=>S hE 1 rfl fun a hE=>aC (aG ?_)
   refine aB (S hE 2 rfl fun a hE=>?_)
   obtain⟨x3,ex3,hl1⟩:=bnd hl1
   refine Cl hE rfl rfl ent60 (c_proof_normal x1 vb2 hb2 p1 hp x3 ex3) ⟨rfl,rfl,trivial⟩ fun v a w hR hE=>?_
   obtain⟨rfl,hp⟩:=hR
   have hp:=r0 hp
   refine S hE 2 rfl fun a hE=>?_
   refine lZ [_,_,_] (fun a w=>Env 27 [(25,(.bool ((!x3)||(decide (1048576<x2))))),(1,(Iv p1)),(5,(Iv x2)),(8,vp0),(9,(Iv (p0.length:Int))),(10,(Iv bU))] a∧Hp Z ρ (L) w) ?_ ?_
   ·rcases Bool.eq_false_or_eq_true (!x3) with hc3|hc3
    ·
     refine Gk hE hc3 rfl fun a hE=>Gk hE hc3 rfl fun a hE=>pk1 hE hc3 rfl rfl rfl rfl fun a hE=>?_
     have hE:=hE.eqv (v':=(.bool ((!x3)||(decide (1048576<x2))))) (by rw[hc3];rfl)
     exact aC ⟨hE.cut ⟨rfl,rfl,rfl,rfl,rfl,rfl,trivial⟩,hp⟩
    refine Gs hE hc3 rfl rfl fun a hE=>Gs hE hc3 rfl rfl fun a hE=>pk0 hE hc3 rfl rfl rfl rfl fun a hE=>?_
    have hE:=hE.eqv (v':=(.bool ((!x3)||(decide (1048576<x2))))) (by rw[hc3];rfl)
    exact aC ⟨hE.cut ⟨rfl,rfl,rfl,rfl,rfl,rfl,trivial⟩,hp⟩
   rintro a w ⟨hE,hp⟩
   refine aC ?_
   refine dK hE rfl (fun hc4=>?_) (fun hc4=>?_)
   ·replace hl1:=(it hc4).symm.trans hl1
    refine aG (aB ?_)
    refine S hE 1 rfl fun a hE=>aC (dE ?_)
    refine⟨_,(oj hl1).symm,fun hb=>?_⟩
    subst hb
    obtain rfl:=oj hm
    exact iH hE rfl rfl ⟨_,rfl,rfl,hp⟩
   replace hl1:=(ie hc4).symm.trans hl1
   refine bP (aB ?_)
   obtain⟨x4,ex4,hl1⟩:=bnd hl1
   refine V hE hp rfl (dD rfl hE rfl rfl (aZ ex4)) fun a hE=>S hE 1 rfl fun a hE=>aC ?_
   exact⟨_,(oj hl1).symm,hE.cut ⟨rfl,rfl,rfl,rfl,rfl,trivial⟩,hp⟩
  replace hl1:=(ie hc2).symm.trans hl1
  refine dR ?_
  refine⟨_,(oj hl1).symm,fun hbb=>?_⟩
  exact⟨_,hbb.symm,hE.cut trivial,hp⟩
 rintro a w ⟨b1s,rfl,hE,hp⟩
 dsimp only at hm
 refine aG (aB ?_)
 refine S hE 1 rfl fun a hE=>aC (dE ?_)
 obtain rfl:=oj hm
 exact iH hE rfl rfl ⟨_,rfl,rfl,hp⟩
end Go.Proofs.Ytpkhmndpeipfmaa
