/- Models of: assessor/assessorlaw28.SolverPigeons. (Printed by wip/sp/gen.py.) -/
import Derived.Test.YtpkhmndpeipfmaaKUnT
import Derived.Test.YtpkhmndpeipfmaaKUn6
import Derived.Test.YtpkhmndpeipfmaaKUn20
import Derived.Test.YtpkhmndpeipfmaaKUn26
set_option linter.unusedVariables false
set_option linter.unusedSimpArgs false
set_option maxRecDepth 100000
set_option maxHeartbeats 4000000
namespace Go.Proofs.Ytpkhmndpeipfmaa
open Go.RowKit
noncomputable def fF (p2:Int) (aW:Int) (x7:(List Int)) (dG:Int) (fB:(List (List Int))):Option (Step (Int×(List (List Int))) (List (List Int))):=
 if(decide (dG<(x7.length:Int)))=true then
  (idx fB aW).bind fun x9=>
  (idx x9 dG).bind fun x8=>
  (gG x8).bind fun x10=>
  (inK .i64 (x10-1)).bind fun x11=>
  (shrK .u32 p2 x11).bind fun x12=>
  if(decide ((andK .u32 x12 1)=1))=true then
   (idx fB aW).bind fun x13=>
   (inK .i64 (0-x8)).bind fun x14=>
   (idx x13 dG).bind fun x15=>
   (inK .i64 (dG+1)).bind fun x16=>
   some (.next (x16,fB.set aW.toNat (x13.set dG.toNat x14)))
  else
   (inK .i64 (dG+1)).bind fun x17=>
   some (.next (x17,fB))
 else
  some (.done fB)
noncomputable def dP (p2:Int) (x6:Formula) (aW:Int) (bU:(List (List Int))):Option (Step (Int×(List (List Int))) (List (List Int))):=
 if(decide (aW<(x6.clauses.length:Int)))=true then
  (idx bU aW).bind fun x7=>
  (dC (fun s=>fF p2 aW x7 s.1 s.2) (0,bU):Option (List (List Int))).bind fun b4=>
  (inK .i64 (aW+1)).bind fun x18=>
  some (.next (x18,b4))
 else
  some (.done bU)
noncomputable def kV (p0:Int) (p1:Bool) (p2:Int):Option Bool:=
 (kX).bind fun x1=>
 if(!x1)=true then
  some false
 else
  (inK .i64 p0).bind fun x2=>
  (remK x2 3).bind fun x3=>
  (inK .i64 (1+x3)).bind fun x4=>
  (inK .i64 (x4+1)).bind fun x5=>
  ((if p1=true then
   some x4
  else
   some x5):Option Int).bind fun j1=>
  (jO j1 x4).bind fun x6=>
  (dC (fun s=>dP p2 x6 s.1 s.2) (0,x6.clauses):Option (List (List Int))).bind fun b2=>
  (iE (Formula.mk x6.vars b2) [] 65536).bind fun x19=>
  if(!decide (x19.2=0))=true then
   some false
  else
   if p1=true then
    ((if(decide (x19.1.kind=0))=true then
     (qY (Formula.mk x6.vars b2) x19.1.model).bind fun x20=>
     some x20
    else
     some false):Option Bool).bind fun m1=>
    some m1
   else
    ((if(decide (x19.1.kind=1))=true then
     (mD (Formula.mk x6.vars b2) x19.1.proof).bind fun x21=>
     some x21
    else
     some false):Option Bool).bind fun m2=>
    some m2
theorem c_assessorlaw28_SolverPigeons {Z:World} {ρ:PH} {L:List bZ} {w:World} (p0:Int) (p1:Bool) (p2:Int) (hp:Hp Z ρ (L) w) (r:Bool) (hm:kV p0 p1 p2=some r):
  Calls Try.prog 8 #[(.int .u8 p0),(.bool p1),(.int .u32 p2)] w (Ret fun v w'=>v=(.bool r)∧Hp Z ρ (L) w'):=by
 refine enter (N:=88) Try.func8 rfl rfl [(0,(.int .u8 p0)),(1,(.bool p1)),(2,(.int .u32 p2))] rfl (bM ⟨rfl,rfl,rfl,trivial⟩) fun a hE=>?_
 unfold kV at hm
 refine aG (aB ?_)
 refine S hE 1 rfl fun a hE=>aC (aG ?_)
 refine aG (aB ?_)
 obtain⟨x1,ex1,hm⟩:=bnd hm
 refine Cl hE rfl rfl ent10 (vS hp x1 ex1) trivial fun v a w hR hE=>?_
 obtain⟨rfl,hp⟩:=hR
 have hp:=r0 hp
 refine S hE 1 rfl fun a hE=>aC ?_
 refine dK hE rfl (fun hc1=>?_) (fun hc1=>?_)
 ·replace hm:=(it hc1).symm.trans hm
  refine aG (aB ?_)
  refine S hE 1 rfl fun a hE=>aC (dE ?_)
  obtain rfl:=oj hm
  exact iH hE rfl rfl ⟨_,rfl,rfl,hp⟩
 replace hm:=(ie hc1).symm.trans hm
 refine bP (aG ?_)
 refine aB (S hE 1 rfl fun a hE=>?_)
 obtain⟨x2,ex2,hm⟩:=bnd hm
 refine V hE hp rfl (v:=(Iv x2)) (ex_conv rfl hE rfl (fun w _=>by rw[←aZ ex2];simp[convert,Conv.intToInt,go_sem])) fun a hE=>?_
 obtain⟨x3,ex3,hm⟩:=bnd hm
 refine V hE hp rfl (ex_rem rfl hE rfl rfl (aA7 ex3).1 (aA7 ex3).2) fun a hE=>?_
 obtain⟨x4,ex4,hm⟩:=bnd hm
 refine V hE hp rfl (dD rfl hE rfl rfl (aZ ex4)) fun a hE=>S hE 1 rfl fun a hE=>aC (aG ?_)
 refine aB (S hE 1 rfl fun a hE=>?_)
 obtain⟨x5,ex5,hm⟩:=bnd hm
 refine V hE hp rfl (dD rfl hE rfl rfl (aZ ex5)) fun a hE=>S hE 1 rfl fun a hE=>aC (aG ?_)
 refine aG (aB ?_)
 refine S hE 1 rfl fun a hE=>aC ?_
 obtain⟨j1,hj1,hm⟩:=bnd hm
 refine k_cut (fun a w=>Env 88 [(1,(.bool p1)),(2,(.int .u32 p2)),(7,(Iv x4)),(8,(Iv j1))] a∧Hp Z ρ (L) w) ?_ ?_
 ·
  refine dK hE rfl (fun hc2=>?_) (fun hc2=>?_)
  ·replace hj1:=(it hc2).symm.trans hj1
   refine aB (S hE 2 rfl fun a hE=>?_)
   refine aC ?_
   obtain rfl:=oj hj1
   exact⟨hE.cut ⟨rfl,rfl,rfl,rfl,trivial⟩,hp⟩
  replace hj1:=(ie hc2).symm.trans hj1
  refine bP ?_
  obtain rfl:=oj hj1
  exact⟨hE.cut ⟨rfl,rfl,rfl,rfl,trivial⟩,hp⟩
 rintro a w ⟨hE,hp⟩
 refine aG (aB ?_)
 refine S hE 2 rfl fun a hE=>?_
 obtain⟨x6,ex6,hm⟩:=bnd hm
 refine Cl hE rfl rfl ent24 (D8 j1 x4 hp x6 ex6) ⟨rfl,rfl,trivial⟩ fun v a w hR hE=>?_
 obtain⟨dU,tC,rfl,hp⟩:=hR
 have hp:=r1 hp
 refine qB (wk0 rfl) rfl rfl hE hp rfl [(Iv 0),N0] (fun w=>by simp[Instr.alloc,go_sem]<;>rfl) ?_
 intro a w b1 hE hp
 have hp:=r2 hp
 refine dO (wk0 rfl) rfl hE hp rfl rfl rfl 0 rfl fC.size_ rfl (bY ⟨rfl,(bT.one hp 1 rfl),trivial⟩) [(Iv x6.vars),dU] rfl ?_
 intro w hp
 have hp:=r2 hp
 refine aC (aG ?_)
 refine aG (aB ?_)
 refine V hE hp rfl (xf hE iL rfl rfl) fun a hE=>V hE hp rfl (xl hE jD 0 rfl rfl rfl rfl) fun a hE=>V hE hp rfl (dL rfl hE rfl (bT.len hp 1 rfl kU)) fun a hE=>S hE 1 rfl fun a hE=>aC ?_
 have hE:=hE.cut (E':=[(1,(.bool p1)),(2,(.int .u32 p2)),(9,(Pv b1 0)),(30,dU),(31,(Iv (x6.clauses.length:Int))),(32,(Iv 0))]) ⟨rfl,rfl,rfl,rfl,rfl,rfl,trivial⟩
 obtain⟨b2,hc3,hm⟩:=bnd hm
 refine dH (fun a w=>Env 88 [(1,(.bool p1)),(9,(Pv b1 0))] a∧Hp Z ρ (Pt b1 (.cells #[(Iv x6.vars),dU] 24 (0,0))::bT 25 3 dU tC (b2:(List (List Int)))::L) w) ?_ ?_
 ·refine eU hc3 (fun s a w=>Env 88 [(1,(.bool p1)),(2,(.int .u32 p2)),(9,(Pv b1 0)),(30,dU),(31,(Iv (x6.clauses.length:Int))),(32,(Iv s.1))] a∧Hp Z ρ (Pt b1 (.cells #[(Iv x6.vars),dU] 24 (0,0))::bT 25 3 dU tC (s.2:(List (List Int)))::L) w) ?_ ?_
  ·exact⟨hE.cut ⟨rfl,rfl,rfl,rfl,rfl,rfl,trivial⟩,hp⟩
  rintro⟨aW,bU⟩ st a w ⟨hE,hp⟩ hl1
  dsimp only at hE hp hl1
  unfold dP at hl1
  refine aG (aB ?_)
  refine S hE 1 rfl fun a hE=>aC (aG ?_)
  refine dK hE rfl (fun hc4=>?_) (fun hc4=>?_)
  ·replace hl1:=(it hc4).symm.trans hl1
   refine bP (aG ?_)
   refine dF (aG ?_)
   refine aB (S hE 1 rfl fun a hE=>?_)
   obtain⟨x7,ex7,hl1⟩:=bnd hl1
   obtain⟨b3u,b3,b3o,b3h,b3r,b3v,b3f⟩:=bT.hdr hp 1 rfl kU ex7
   refine V hE hp rfl (aU rfl hE rfl rfl b3r) fun a hE=>V hE hp rfl (bD rfl hE rfl (fun w hw=>bH bJ (b3f 0 _ rfl _ _ w (hw.get 1 rfl)))) fun a hE=>S hE 2 rfl fun a hE=>aC (aG ?_)
   refine aB (S hE 1 rfl fun a hE=>?_)
   refine V hE hp rfl (dL rfl hE rfl (bT.rlen hp 1 rfl bC b3h ex7)) fun a hE=>S hE 1 rfl fun a hE=>aC ?_
   have hE:=hE.cut (E':=[(1,(.bool p1)),(2,(.int .u32 p2)),(9,(Pv b1 0)),(10,(Iv aW)),(30,dU),(31,(Iv (x6.clauses.length:Int))),(32,(Iv aW)),(37,(Sl.v b3u)),(38,(Iv (x7.length:Int))),(39,(Iv 0))]) ⟨rfl,rfl,rfl,rfl,rfl,rfl,rfl,rfl,rfl,rfl,trivial⟩
   obtain⟨b4,hc5,hl1⟩:=bnd hl1
   refine dH (fun a w=>Env 88 [(1,(.bool p1)),(2,(.int .u32 p2)),(9,(Pv b1 0)),(30,dU),(31,(Iv (x6.clauses.length:Int))),(32,(Iv aW))] a∧Hp Z ρ (Pt b1 (.cells #[(Iv x6.vars),dU] 24 (0,0))::bT 25 3 dU tC (b4:(List (List Int)))::L) w) ?_ ?_
   ·refine eU hc5 (fun s a w=>Env 88 [(1,(.bool p1)),(2,(.int .u32 p2)),(9,(Pv b1 0)),(10,(Iv aW)),(30,dU),(31,(Iv (x6.clauses.length:Int))),(32,(Iv aW)),(37,(Sl.v b3u)),(38,(Iv (x7.length:Int))),(39,(Iv s.1))] a∧Hp Z ρ (Pt b1 (.cells #[(Iv x6.vars),dU] 24 (0,0))::bT 25 3 dU tC (s.2:(List (List Int)))::L) w) ?_ ?_
    ·exact⟨hE.cut ⟨rfl,rfl,rfl,rfl,rfl,rfl,rfl,rfl,rfl,rfl,trivial⟩,hp⟩
    rintro⟨dG,fB⟩ st a w ⟨hE,hp⟩ hl2
    dsimp only at hE hp hl2
    unfold fF at hl2
    refine aG (aB ?_)
    refine S hE 1 rfl fun a hE=>aC (aG ?_)
    refine dK hE rfl (fun hc6=>?_) (fun hc6=>?_)
    ·replace hl2:=(it hc6).symm.trans hl2
     refine bP (aG ?_)
     refine dF (aG ?_)
     refine aB (S hE 1 rfl fun a hE=>?_)
     obtain⟨x9,ex9,hl2⟩:=bnd hl2
     obtain⟨x8,ex8,hl2⟩:=bnd hl2
     obtain⟨b5,b5o,b5r,b5v,b5f⟩:=bT.at hp 1 rfl bC b3h ex9 ex8
     refine V hE hp rfl (aU rfl hE rfl rfl b5r) fun a hE=>V hE hp rfl (bD rfl hE rfl (fun w hw=>bH bG (b5f 0 _ rfl _ _ w (hw.get 1 rfl)))) fun a hE=>S hE 2 rfl fun a hE=>aC (aG ?_)
     refine aB (S hE 2 rfl fun a hE=>?_)
     obtain⟨x10,ex10,hl2⟩:=bnd hl2
     refine Cl hE rfl rfl ent25 (nT x8 hp x10 ex10) ⟨rfl,trivial⟩ fun v a w hR hE=>?_
     obtain⟨rfl,hp⟩:=hR
     have hp:=r2 hp
     obtain⟨x11,ex11,hl2⟩:=bnd hl2
     refine V hE hp rfl (rX rfl hE rfl rfl (aZ ex11)) fun a hE=>?_
     obtain⟨x12,ex12,hl2⟩:=bnd hl2
     refine V hE hp rfl (v:=(.int .u32 x12)) (ex_shr rfl hE rfl rfl ex12) fun a hE=>V hE hp rfl (v:=(.int .u32 (andK .u32 x12 1))) (ex_and rfl hE rfl rfl) fun a hE=>S hE 1 rfl fun a hE=>aC ?_
     have hE:=hE.cut (E':=[(1,(.bool p1)),(2,(.int .u32 p2)),(9,(Pv b1 0)),(10,(Iv aW)),(12,(Iv dG)),(13,(Iv x8)),(30,dU),(31,(Iv (x6.clauses.length:Int))),(32,(Iv aW)),(37,(Sl.v b3u)),(38,(Iv (x7.length:Int))),(39,(Iv dG)),(50,(.bool (decide ((andK .u32 x12 1)=1))))]) ⟨rfl,rfl,rfl,rfl,rfl,rfl,rfl,rfl,rfl,rfl,rfl,rfl,rfl,trivial⟩
     refine dK hE rfl (fun hc7=>?_) (fun hc7=>?_)
     ·replace hl2:=(it hc7).symm.trans hl2
      refine aB (V hE hp rfl (xf hE iL rfl rfl) fun a hE=>?_)
      refine V hE hp rfl (xl hE jD 0 rfl rfl rfl rfl) fun a hE=>S hE 1 rfl fun a hE=>?_
      obtain⟨x13,ex13,hl2⟩:=bnd hl2
      obtain⟨b6u,b6,b6o,b6h,b6r,b6v,b6f⟩:=bT.hdr hp 1 rfl kU ex13
      refine V hE hp rfl (aU rfl hE rfl rfl b6r) fun a hE=>V hE hp rfl (bD rfl hE rfl (fun w hw=>bH bJ (b6f 0 _ rfl _ _ w (hw.get 1 rfl)))) fun a hE=>S hE 2 rfl fun a hE=>?_
      obtain⟨x14,ex14,hl2⟩:=bnd hl2
      refine V hE hp rfl (mX rfl hE rfl (aZ ex14)) fun a hE=>?_
      obtain⟨x15,ex15,hl2⟩:=bnd hl2
      obtain⟨b7,b7o,b7r,b7v,b7f⟩:=bT.at hp 1 rfl bC b6h ex13 ex15
      refine V hE hp rfl (aU rfl hE rfl rfl b7r) fun a hE=>?_
      refine s_tstel (wk0 rfl) rfl hE hp rfl rfl rfl 1 rfl b6h ex13 ex15 b7v 0 (e':=x14) bG.size_ rfl rfl rfl ⟨rfl,rfl⟩ ?_
      intro w hp
      have hp:=r2 hp
      refine aC (aB ?_)
      obtain⟨x16,ex16,hl2⟩:=bnd hl2
      refine V hE hp rfl (dD rfl hE rfl rfl (aZ ex16)) fun a hE=>S hE 1 rfl fun a hE=>aC ?_
      exact⟨_,(oj hl2).symm,hE.cut ⟨rfl,rfl,rfl,rfl,rfl,rfl,rfl,rfl,rfl,rfl,trivial⟩,hp⟩
     replace hl2:=(ie hc7).symm.trans hl2
     refine bP (aB ?_)
     obtain⟨x17,ex17,hl2⟩:=bnd hl2
     refine V hE hp rfl (dD rfl hE rfl rfl (aZ ex17)) fun a hE=>S hE 1 rfl fun a hE=>aC ?_
     have hE:=hE.cut (E':=[(1,(.bool p1)),(2,(.int .u32 p2)),(9,(Pv b1 0)),(10,(Iv aW)),(30,dU),(31,(Iv (x6.clauses.length:Int))),(32,(Iv aW)),(37,(Sl.v b3u)),(38,(Iv (x7.length:Int))),(39,(Iv x17))]) ⟨rfl,rfl,rfl,rfl,rfl,rfl,rfl,rfl,rfl,rfl,trivial⟩
     exact⟨_,(oj hl2).symm,hE.cut ⟨rfl,rfl,rfl,rfl,rfl,rfl,rfl,rfl,rfl,rfl,trivial⟩,hp⟩
    replace hl2:=(ie hc6).symm.trans hl2
    refine dR ?_
    refine⟨_,(oj hl2).symm,fun hbb=>?_⟩
    subst hbb
    exact⟨hE.cut ⟨rfl,rfl,rfl,rfl,rfl,rfl,trivial⟩,hp⟩
   rintro a w ⟨hE,hp⟩
   refine aB ?_
   obtain⟨x18,ex18,hl1⟩:=bnd hl1
   refine V hE hp rfl (dD rfl hE rfl rfl (aZ ex18)) fun a hE=>S hE 1 rfl fun a hE=>aC ?_
   exact⟨_,(oj hl1).symm,hE.cut ⟨rfl,rfl,rfl,rfl,rfl,rfl,trivial⟩,hp⟩
  replace hl1:=(ie hc4).symm.trans hl1
  refine dR ?_
  refine⟨_,(oj hl1).symm,fun hbb=>?_⟩
  subst hbb
  exact⟨hE.cut ⟨rfl,rfl,trivial⟩,hp⟩
 rintro a w ⟨hE,hp⟩
 refine aG (aB ?_)
 refine V hE hp rfl (bD rfl hE rfl (fun w hw=>gB (cs:=[(Iv x6.vars),dU]) fC (Hp.cN 0 rfl 0 _ (bV rfl) w hw))) fun a hE=>?_
 obtain⟨k1,k1a,k1d,k1h⟩:=(hp.get 1 rfl).lend
 obtain⟨x19,ex19,hm⟩:=bnd hm
 refine Cl hE rfl rfl ent12 (vG (Formula.mk x6.vars b2) dU (bT.ro k1d k1a) [] N0 (bW.nil _) 65536 k1h x19 ex19) ⟨rfl,rfl,rfl,trivial⟩ fun v a w hR hE=>?_
 obtain⟨kK,lV,uQ,rfl,hp⟩:=hR
 have hp:=Hp.back k1a k1d hp
 have hp:=r4 hp
 refine S hE 3 rfl fun a hE=>?_
 refine qB (wk0 rfl) rfl rfl hE hp rfl [(Iv 0),N0,N0,(Iv 0)] (fun w=>by simp[Instr.alloc,go_sem]<;>rfl) ?_
 intro a w b8 hE hp
 have hp:=r5 hp
 refine dO (wk0 rfl) rfl hE hp rfl rfl rfl 0 rfl fE.size_ rfl (bY ⟨rfl,(aA.one hp 2 rfl),(bT.one hp 3 rfl),rfl,trivial⟩) [(Iv x19.1.kind),kK,lV,(Iv x19.1.conflicts)] rfl ?_
 intro w hp
 have hp:=r5 hp
 refine S hE 1 rfl fun a hE=>aC (aG ?_)
 refine aG (aB ?_)
 refine S hE 2 rfl fun a hE=>aC ?_
 refine dK hE rfl (fun hc8=>?_) (fun hc8=>?_)
 ·replace hm:=(it hc8).symm.trans hm
  refine aG (aB ?_)
  refine S hE 1 rfl fun a hE=>aC (dE ?_)
  obtain rfl:=oj hm
  exact iH hE rfl rfl ⟨_,rfl,rfl,(((((((((hp.get 4 rfl).drop).get 3 rfl).drop).get 2 rfl).drop).get 1 rfl).drop).drop)⟩
 replace hm:=(ie hc8).symm.trans hm
 refine bP (aG ?_)
 refine aG (aB ?_)
 refine S hE 1 rfl fun a hE=>aC ?_
 refine dK hE rfl (fun hc9=>?_) (fun hc9=>?_)
 ·replace hm:=(it hc9).symm.trans hm
  refine aG (aB ?_)
  refine V hE hp rfl (xf hE sU rfl rfl) fun a hE=>V hE hp rfl (xl hE bG 0 rfl rfl rfl rfl) fun a hE=>S hE 2 rfl fun a hE=>?_
  obtain⟨m1,hg1,hm⟩:=bnd hm
  refine lZ [_,_,_,_,_] (fun a w=>Env 88 [(78,(.bool m1))] a∧Hp Z ρ (Pt b8 (.cells #[(Iv x19.1.kind),kK,lV,(Iv x19.1.conflicts)] 29 (0,0))::bT 25 3 dU tC (b2:(List (List Int)))::aA 3 kK x19.1.model::bT 25 3 lV uQ (x19.1.proof:(List (List Int)))::Pt b1 (.cells #[(Iv x6.vars),dU] 24 (0,0))::L) w) ?_ ?_
  ·rcases Bool.eq_false_or_eq_true (decide (x19.1.kind=0)) with hc10|hc10
   ·
    replace hg1:=(it hc10).symm.trans hg1
    refine G hE hp hc10 rfl (bD rfl hE rfl (fun w hw=>gB (cs:=[(Iv x6.vars),dU]) fC (Hp.cN 4 rfl 0 _ (bV rfl) w hw))) fun a hE=>G hE hp hc10 rfl (xf hE vX rfl rfl) fun a hE=>G hE hp hc10 rfl (xl hE bJ 0 rfl rfl rfl rfl) fun a hE=>?_
    obtain⟨k2,k2a,k2d,k2h⟩:=(hp.get 1 rfl).lend
    obtain⟨k3,k3a,k3d,k3h⟩:=(k2h.get 1 rfl).lend
    obtain⟨x20,ex20,hg1⟩:=bnd hg1
    refine Cg hE hc10 rfl rfl ent22 (c_cnf_Holds (Formula.mk x6.vars b2) dU (bW.mono (bT.ro k2d k2a) (PH.le_un _ _)) x19.1.model kK (aA.ro k3d k3a) k3h x20 ex20) ⟨rfl,rfl,trivial⟩ fun v a w hR hE=>?_
    obtain⟨rfl,hp⟩:=hR
    have hp:=Hp.back k3a k3d hp
    have hp:=Hp.back k2a k2d hp
    have hp:=r5 hp
    refine pk1 hE hc10 rfl rfl rfl rfl fun a hE=>?_
    obtain rfl:=oj hg1
    exact aC ⟨hE.cut ⟨rfl,trivial⟩,(((((hp.get 4 rfl).get 4 rfl).get 3 rfl).get 3 rfl).get 4 rfl)⟩
   replace hg1:=(ie hc10).symm.trans hg1
   refine Gk hE hc10 rfl fun a hE=>Gk hE hc10 rfl fun a hE=>Gk hE hc10 rfl fun a hE=>Gk hE hc10 rfl fun a hE=>pk0 hE hc10 rfl rfl rfl rfl fun a hE=>?_
   obtain rfl:=oj hg1
   exact aC ⟨hE.cut ⟨rfl,trivial⟩,hp⟩
  rintro a w ⟨hE,hp⟩
  refine S hE 1 rfl fun a hE=>aC (dE ?_)
  obtain rfl:=oj hm
  exact iH hE rfl rfl ⟨_,rfl,rfl,(((((((((hp.get 4 rfl).drop).get 3 rfl).drop).get 2 rfl).drop).get 1 rfl).drop).drop)⟩
 replace hm:=(ie hc9).symm.trans hm
 refine bP (aG ?_)
 refine aB (V hE hp rfl (xf hE sU rfl rfl) fun a hE=>?_)
 refine V hE hp rfl (xl hE bG 0 rfl rfl rfl rfl) fun a hE=>S hE 2 rfl fun a hE=>?_
 obtain⟨m2,hg2,hm⟩:=bnd hm
 refine lZ [_,_,_,_,_] (fun a w=>Env 88 [(87,(.bool m2))] a∧Hp Z ρ (Pt b8 (.cells #[(Iv x19.1.kind),kK,lV,(Iv x19.1.conflicts)] 29 (0,0))::bT 25 3 dU tC (b2:(List (List Int)))::aA 3 kK x19.1.model::bT 25 3 lV uQ (x19.1.proof:(List (List Int)))::Pt b1 (.cells #[(Iv x6.vars),dU] 24 (0,0))::L) w) ?_ ?_
 ·rcases Bool.eq_false_or_eq_true (decide (x19.1.kind=1)) with hc11|hc11
  ·
   replace hg2:=(it hc11).symm.trans hg2
   refine G hE hp hc11 rfl (bD rfl hE rfl (fun w hw=>gB (cs:=[(Iv x6.vars),dU]) fC (Hp.cN 4 rfl 0 _ (bV rfl) w hw))) fun a hE=>G hE hp hc11 rfl (xf hE fldty29_2 rfl rfl) fun a hE=>G hE hp hc11 rfl (xl hE jD 0 rfl rfl rfl rfl) fun a hE=>?_
   obtain⟨k4,k4a,k4d,k4h⟩:=(hp.get 1 rfl).lend
   obtain⟨k5,k5a,k5d,k5h⟩:=(k4h.get 2 rfl).lend
   obtain⟨x21,ex21,hg2⟩:=bnd hg2
   refine Cg hE hc11 rfl rfl ent21 (zS (Formula.mk x6.vars b2) dU (bW.mono (bT.ro k4d k4a) (PH.le_un _ _)) x19.1.proof lV (bT.ro k5d k5a) k5h x21 ex21) ⟨rfl,rfl,trivial⟩ fun v a w hR hE=>?_
   obtain⟨rfl,hp⟩:=hR
   have hp:=Hp.back k5a k5d hp
   have hp:=Hp.back k4a k4d hp
   have hp:=r5 hp
   refine pk1 hE hc11 rfl rfl rfl rfl fun a hE=>?_
   obtain rfl:=oj hg2
   exact aC ⟨hE.cut ⟨rfl,trivial⟩,(((((hp.get 4 rfl).get 2 rfl).get 4 rfl).get 3 rfl).get 4 rfl)⟩
  replace hg2:=(ie hc11).symm.trans hg2
  refine Gk hE hc11 rfl fun a hE=>Gk hE hc11 rfl fun a hE=>Gk hE hc11 rfl fun a hE=>Gk hE hc11 rfl fun a hE=>pk0 hE hc11 rfl rfl rfl rfl fun a hE=>?_
  obtain rfl:=oj hg2
  exact aC ⟨hE.cut ⟨rfl,trivial⟩,hp⟩
 rintro a w ⟨hE,hp⟩
 refine S hE 1 rfl fun a hE=>aC (dE ?_)
 obtain rfl:=oj hm
 exact iH hE rfl rfl ⟨_,rfl,rfl,(((((((((hp.get 4 rfl).drop).get 3 rfl).drop).get 2 rfl).drop).get 1 rfl).drop).drop)⟩
theorem bmono {α β:Type} {o o':Option α} {f f':α→Option β} {b:β} (h:o.bind f=some b) (ho:∀a,o=some a→o'=some a) (hf:∀a,f a=some b→f' a=some b):o'.bind f'=some b:=by
 obtain⟨a,e1,e2⟩:=Option.bind_eq_some_iff.1 h
 rw[ho a e1]
 exact hf a e2
theorem iter_mono {σ β:Type} {body body':σ→Option (Step σ β)} (h:∀s st,body s=some st→body' s=some st):∀(n:Nat) (s:σ) (b:β),qX body n s=some b→qX body' n s=some b
 |0,_,_,e=>e
 |n+1,s,b,e=>by
  unfold qX at e⊢
  cases hs:body s with
  |none=>rw[hs] at e;cases e
  |some st=>
   rw[hs] at e
   rw[h s st hs]
   cases st with
   |next s'=>exact iter_mono h n s' b e
   |done b'=>exact e
theorem loop_of {σ β:Type} {body body':σ→Option (Step σ β)} (h:∀s st,body s=some st→body' s=some st) {n:Nat} {s:σ} {b:β} (e:qX body n s=some b):dC body' s=some b:=
 yJ.2 ⟨n,iter_mono h n s b e⟩
noncomputable def pg1 (p0 p1 a:Int) (l:List (List Int)):Option (Step (Int×List (List Int)) (List (List Int))):=
 if(decide (a<p0))=true then
  (qX (fun s=>oO p1 a s.1 s.2) 9 (1,([]:List Int)):Option (List Int)).bind fun b5=>
  (app l [b5]).bind fun x6=>
  (inK .i64 (a+1)).bind fun x7=>
  some (.next (x7,x6))
 else
  some (.done l)
noncomputable def pg4 (p0 p1 c a:Int) (l:List (List Int)):Option (Step (Int×List (List Int)) (List (List Int))):=
 if(decide (a<p0))=true then
  (inK .i64 (a+1)).bind fun x8=>
  (qX (fun s=>oP p0 p1 c a s.1 s.2) 9 (x8,l):Option (List (List Int))).bind fun b10=>
  (inK .i64 (a+1)).bind fun x17=>
  some (.next (x17,b10))
 else
  some (.done l)
noncomputable def pg3 (p0 p1 c:Int) (l:List (List Int)):Option (Step (Int×List (List Int)) (List (List Int))):=
 if(decide (c≤p1))=true then
  (qX (fun s=>pg4 p0 p1 c s.1 s.2) 9 (0,l):Option (List (List Int))).bind fun b9=>
  (inK .i64 (c+1)).bind fun x18=>
  some (.next (x18,b9))
 else
  some (.done l)
noncomputable def pgF (p0 p1:Int):Option (List (List Int)):=
 (qX (fun s=>pg1 p0 p1 s.1 s.2) 9 (0,[]):Option (List (List Int))).bind fun b3=>
 (qX (fun s=>pg3 p0 p1 s.1 s.2) 9 (1,b3):Option (List (List Int)))
theorem pg1_ok {p0 p1 a:Int} {l:List (List Int)} {st} (h:pg1 p0 p1 a l=some st):jK p0 p1 a l=some st:=by
 unfold pg1 at h
 unfold jK
 split at h
 ·rename_i hc
  rw[if_pos hc]
  exact bmono h (fun b e=>loop_of (fun _ _ e=>e) e) fun _ e=>e
 rename_i hc
 rw[if_neg hc];exact h
theorem pg4_ok {p0 p1 c a:Int} {l:List (List Int)} {st} (h:pg4 p0 p1 c a l=some st):lW p0 p1 c a l=some st:=by
 unfold pg4 at h
 unfold lW
 split at h
 ·rename_i hc
  rw[if_pos hc]
  exact bmono h (fun _ e=>e) fun x e=>bmono e (fun b e=>loop_of (fun _ _ e=>e) e) fun _ e=>e
 rename_i hc
 rw[if_neg hc];exact h
theorem pg3_ok {p0 p1 c:Int} {l:List (List Int)} {st} (h:pg3 p0 p1 c l=some st):jL p0 p1 c l=some st:=by
 unfold pg3 at h
 unfold jL
 split at h
 ·rename_i hc
  rw[if_pos hc]
  exact bmono h (fun b e=>loop_of (fun _ _ e=>pg4_ok e) e) fun _ e=>e
 rename_i hc
 rw[if_neg hc];exact h
theorem pigeons_ok {p0 p1 n:Int} {F:List (List Int)} (hn:inK .i64 (p0*p1)=some n) (h:pgF p0 p1=some F):jO p0 p1=some ⟨n,F⟩:=by
 unfold pgF at h
 obtain⟨b,e1,e2⟩:=Option.bind_eq_some_iff.1 h
 unfold jO
 rw[hn,bsm,loop_of (body':=fun s:Int×List (List Int)=>jK p0 p1 s.1 s.2) (fun _ _ e=>pg1_ok e) e1,bsm,loop_of (body':=fun s:Int×List (List Int)=>jL p0 p1 s.1 s.2) (fun _ _ e=>pg3_ok e) e2,bsm]
def flb (p2 v:Int):Bool:=decide (andK .u32 (p2.fdiv (2 ^ (min (v-1).toNat (IntKind.bits .u32)))) 1=1)
def fl (p2 x:Int):Int:=if flb p2 (vr x)=true then 0-x else x
theorem fl_vr (p2 x:Int):vr (fl p2 x)=vr x:=by
 unfold fl
 split
 ·unfold vr;omega
 rfl
theorem fl_fl (p2 x:Int):fl p2 (fl p2 x)=x:=by
 cases hb:flb p2 (vr x) with
 |true=>
  have e:fl p2 x=0-x:=by unfold fl;rw[if_pos hb]
  have hv:vr (0-x)=vr x:=by unfold vr;omega
  rw[e]
  unfold fl
  rw[hv,if_pos hb]
  omega
 |false=>
  have e:fl p2 x=x:=by unfold fl;rw[if_neg (by rw[hb];decide)]
  rw[e,e]
def flC (p2:Int) (c:List Int):List Int:=c.map (fl p2)
theorem flC_flC (p2:Int) (c:List Int):flC p2 (flC p2 c)=c:=by
 unfold flC
 rw[List.map_map]
 conv=>rhs;rw[←List.map_id c]
 exact List.map_congr_left fun x _=>fl_fl p2 x
theorem flC_clF {p2 v:Int}:∀(c:List Int) (t:Int),clF v t c=true→clF v t (flC p2 c)=true
 | [],_,_=>rfl
 |x::r,t,h=>by
  unfold clF at h
  simp only[Bool.and_eq_true,decide_eq_true_eq] at h
  have hv:=fl_vr p2 x
  show clF v t (fl p2 x::flC p2 r)=true
  unfold clF
  rw[hv,flC_clF r _ h.2]
  have hx:fl p2 x=x∨fl p2 x=0-x:=by
   unfold fl;split
   ·exact Or.inr rfl
   exact Or.inl rfl
  simp only[Bool.and_true,Bool.and_eq_true,decide_eq_true_eq]
  rcases hx with e|e<;>rw[e]<;>omega
theorem flC_MdL {p2:Int} {m:List Int} (h:MdL m):MdL (flC p2 m):=fun i x hx=>by
 unfold flC at hx
 rw[List.getElem?_map] at hx
 cases hm:m[i]? with
 |none=>rw[hm] at hx;cases hx
 |some y=>
  rw[hm] at hx
  have hx:fl p2 y=x:=oj hx
  have:=h i y hm
  rw[←hx]
  unfold fl;split<;>omega
theorem flC_sat {p2:Int} {m c:List Int} (h:uD m c=true):uD (flC p2 m) (flC p2 c)=true:=by
 unfold uD at h⊢
 rw[List.any_eq_true] at h⊢
 obtain⟨l,hl,e⟩:=h
 simp only[decide_eq_true_eq] at e
 refine⟨fl p2 l,List.mem_map.2 ⟨l,hl,rfl⟩,?_⟩
 simp only[decide_eq_true_eq]
 unfold flC
 rw[fl_vr,List.getElem?_map,e]
 rfl
theorem fl_model {p2 n:Int} {F:List (List Int)} {m:List Int} (h:fJ n F m):fJ n (F.map (flC p2)) (flC p2 m):=by
 refine⟨by unfold flC;rw[List.length_map];exact h.1,flC_MdL h.2.1,fun c hc=>?_⟩
 obtain⟨d,hd,rfl⟩:=List.mem_map.1 hc
 exact flC_sat (h.2.2 d hd)
theorem fl_model' {p2 n:Int} {F:List (List Int)} {m:List Int} (h:fJ n (F.map (flC p2)) m):fJ n F (flC p2 m):=by
 have:=fl_model (p2:=p2) h
 rw[List.map_map] at this
 have e:F.map (flC p2∘flC p2)=F:=by
  conv=>rhs;rw[←List.map_id F]
  exact List.map_congr_left fun c _=>flC_flC p2 c
 rw[e] at this
 exact this
theorem fl_valid {p2:Int} {f:Formula} (hv:iV f=true):iV ⟨f.vars,f.clauses.map (flC p2)⟩=true:=by
 have hb:=mP hv
 unfold iV
 simp only[Bool.and_eq_true,decide_eq_true_eq,List.all_eq_true]
 refine⟨⟨⟨hb.1,hb.2.1⟩,by rw[List.length_map];exact hb.2.2.1⟩,fun c hc=>?_⟩
 obtain⟨d,hd,rfl⟩:=List.mem_map.1 hc
 exact flC_clF d 0 (hb.2.2.2 d hd)
theorem shr_eq {p2 v:Int} (h:0<v):shrK .u32 p2 (v-1)=some (p2.fdiv (2 ^ (min (v-1).toNat (IntKind.bits .u32)))):=by
 unfold shrK;rw[if_neg (by omega)]
theorem fl_lp2 {p2:Int} {C:List (List Int)} {k:Nat} {row:List Int} (hk:C[k]?=some row) (hl:row.length≤65536) (hr:∀x∈row,x≠0∧vr x≤65536):
  dC (fun s=>fF p2 (k:Int) row s.1 s.2) ((0:Int),C)=some (C.set k (flC p2 row)):=by
 have hlt:=(List.getElem?_eq_some_iff.1 hk).1
 obtain⟨r,hr,rfl⟩:=uA (body:=fun s:Int×List (List Int)=>fF p2 (k:Int) row s.1 s.2) (s0:=((0:Int),C)) row.length (fun j (t:List (List Int))=>((j:Int),t)) (fun j t=>t=C.set k (flC p2 (row.take j)++row.drop j)) (fun r=>r=C.set k (flC p2 row)) (t0:=C) rfl (by
  show C=C.set k (flC p2 (row.take 0)++row.drop 0)
  rw[List.take_zero,List.drop_zero]
  show C=C.set k ([]++row)
  rw[List.nil_append]
  exact(set_self hk).symm) (by
  rintro j t hj rfl
  have e0:=ltB hj
  have hup:=jA hj (show row.length≤9223372036854775807 by omega)
  have e1:row[j]?=some row[j]:=List.getElem?_eq_getElem hj
  obtain⟨h0,hv⟩:=hr _ (List.getElem_mem hj)
  have hvp:0<vr row[j]:=by unfold vr;omega
  have hbn: -65536≤row[j]∧row[j]≤65536:=by unfold vr at hv;omega
  have hlen:(flC p2 (row.take j)).length=j:=by unfold flC;rw[List.length_map,List.length_take];omega
  have hd:row.drop j=row[j]::row.drop (j+1):=by rw[List.drop_eq_getElem_cons hj]
  have hrow:(C.set k (flC p2 (row.take j)++row.drop j))[k]?=some (flC p2 (row.take j)++row.drop j):=List.getElem?_set_self hlt
  have hat:(flC p2 (row.take j)++row.drop j)[j]?=some row[j]:=by
   rw[List.getElem?_append_right (by omega),hlen,Nat.sub_self,hd];rfl
  have hnx:flC p2 (row.take (j+1))=flC p2 (row.take j)++[fl p2 row[j]]:=by
   unfold flC
   rw[List.take_add_one,e1,List.map_append]
   rfl
  simp only[fF,e0,if_true,dA hrow,bsm,dA hat,rvar_ok (show -9223372036854775807≤row[j]∧row[j]≤9223372036854775807 by omega),gW (show -9223372036854775808≤vr row[j]-1∧vr row[j]-1≤9223372036854775807 by omega),shr_eq hvp]
  cases hf:flb p2 (vr row[j]) with
  |true=>
   have hf2:(decide (andK .u32 (p2.fdiv (2 ^ (min (vr row[j]-1).toNat (IntKind.bits .u32)))) 1=1))=true:=hf
   rw[if_pos hf2,gW (show -9223372036854775808≤0-row[j]∧0-row[j]≤9223372036854775807 by omega),bsm,hup,bsm]
   refine Or.inl ⟨_,rfl,?_⟩
   have e:fl p2 row[j]=0-row[j]:=by unfold fl;rw[if_pos hf]
   simp only[Int.toNat_natCast]
   rw[List.set_set,hnx,e,hd]
   congr 1
   rw[List.set_append_right _ _ (by omega),hlen,Nat.sub_self,List.append_assoc]
   rfl
  |false=>
   have hf2:¬(decide (andK .u32 (p2.fdiv (2 ^ (min (vr row[j]-1).toNat (IntKind.bits .u32)))) 1=1))=true:=by
    have:flb p2 (vr row[j])=false:=hf
    unfold flb at this
    rw[this];decide
   rw[if_neg hf2,hup,bsm]
   refine Or.inl ⟨_,rfl,?_⟩
   have e:fl p2 row[j]=row[j]:=by unfold fl;rw[if_neg (by rw[hf];decide)]
   rw[hnx,e,hd]
   simp) (by
  rintro t rfl
  refine⟨C.set k (flC p2 (row.take row.length)++row.drop row.length),by simp only[fF,rY,if_false,Bool.false_eq_true],?_⟩
  rw[List.take_length,List.drop_length,List.append_nil])
 exact hr
theorem fl_lp1 {p2:Int} {F:Formula} (hl:F.clauses.length≤262144) (hC:∀c∈F.clauses,c.length≤65536∧∀x∈c,x≠0∧vr x≤65536):
  dC (fun s=>dP p2 F s.1 s.2) ((0:Int),F.clauses)=some (F.clauses.map (flC p2)):=by
 obtain⟨r,hr,rfl⟩:=uA (body:=fun s:Int×List (List Int)=>dP p2 F s.1 s.2) (s0:=((0:Int),F.clauses)) F.clauses.length (fun k (t:List (List Int))=>((k:Int),t)) (fun k t=>t=(F.clauses.take k).map (flC p2)++F.clauses.drop k) (fun r=>r=F.clauses.map (flC p2)) (t0:=F.clauses) rfl (by simp) (by
  rintro k t hk rfl
  have e0:=ltB hk
  have hup:=jA hk (show F.clauses.length≤9223372036854775807 by omega)
  have e1:F.clauses[k]?=some F.clauses[k]:=List.getElem?_eq_getElem hk
  have hlen:((F.clauses.take k).map (flC p2)).length=k:=by rw[List.length_map,List.length_take];omega
  have hd:F.clauses.drop k=F.clauses[k]::F.clauses.drop (k+1):=by rw[List.drop_eq_getElem_cons hk]
  have hat:((F.clauses.take k).map (flC p2)++F.clauses.drop k)[k]?=some F.clauses[k]:=by
   rw[List.getElem?_append_right (by omega),hlen,Nat.sub_self,hd];rfl
  obtain⟨c1,c2⟩:=hC _ (List.getElem_mem hk)
  simp only[dP,e0,if_true,dA hat,bsm]
  rw[fl_lp2 hat c1 c2,bsm,hup,bsm]
  refine Or.inl ⟨_,rfl,?_⟩
  rw[List.take_add_one,e1,List.set_append_right _ _ (by omega),hlen,Nat.sub_self,hd,List.map_append,List.append_assoc]
  rfl) (by
  rintro t rfl
  refine⟨(F.clauses.take F.clauses.length).map (flC p2)++F.clauses.drop F.clauses.length,by simp only[dP,rY,if_false,Bool.false_eq_true],?_⟩
  rw[List.take_length,List.drop_length,List.append_nil])
 exact hr
theorem pig_solve {p2:Int} {F:Formula} (hv:iV F=true) (hn:F.vars≤12) (hc:∀c∈F.clauses,c.length≤65536):
  ∃a:Answer,dC (fun s=>dP p2 F s.1 s.2) ((0:Int),F.clauses)=some (F.clauses.map (flC p2))∧iE ⟨F.vars,F.clauses.map (flC p2)⟩ [] 65536=some (a,0)∧
   ((∃m,fJ F.vars F.clauses m)→a.kind=0∧qY ⟨F.vars,F.clauses.map (flC p2)⟩ a.model=some true)∧
   ((∀m,¬fJ F.vars F.clauses m)→a.kind=1∧mD ⟨F.vars,F.clauses.map (flC p2)⟩ a.proof=some true):=by
 have hb:=mP hv
 have hcl:=X3 hv
 have hvw:=fl_valid (p2:=p2) hv
 have hFW:=yX hvw
 obtain⟨a,_,e1,_,a1,_⟩:=aJ3 (f:=⟨F.vars,F.clauses.map (flC p2)⟩) (asX:=[]) (p:=65536) (q:=65536) (yF.2 ⟨by decide,hvw,by simp⟩) (Int.le_refl _) (by decide) (by simp;omega)
 rw[aJ0,List.append_nil] at a1
 have a1:AOk F.vars (F.clauses.map (flC p2)) 65536 a:=a1
 have ak:=a1.kind ⟨hb.1,by omega⟩ (pow_le (by omega))
 refine⟨a,fl_lp1 hb.2.2.1 (fun c h=>⟨hc c h,fun x hx=>by have:=(hcl c h).1 x hx;exact⟨this.1,by omega⟩⟩),e1,fun⟨m,hm⟩=>?_,fun hno=>?_⟩
 ·rcases a1.three with⟨k,_,h⟩|⟨k,_,h⟩|⟨k,_⟩
  ·exact⟨k,by rw[cnf_holds hFW];exact congrArg some ((wB (f:=⟨F.vars,F.clauses.map (flC p2)⟩) hvw).2 h)⟩
  ·exact absurd (fl_model hm) (yT h _)
  exact absurd k ak
 rcases a1.three with⟨k,_,h⟩|⟨k,_,h⟩|⟨k,_⟩
 ·exact absurd (fl_model' h) (hno _)
 ·exact⟨k,by rw[check_ok hFW (plen_of ⟨hb.1,hb.2.1⟩ h),proof_chk hvw h]⟩
 exact absurd k ak
def noM (n:Nat) (F:List (List Int)):Bool:=(List.range (2 ^ n)).all fun b=> !F.all (uD (mdl n b))
theorem noM_ok {n:Nat} {F:List (List Int)} (h:noM n F=true) (m:List Int):¬fJ (n:Int) F m:=fun⟨h1,h2,h3⟩=>by
 obtain⟨b,hb,rfl⟩:=aI8 n m h2 (by omega)
 unfold noM at h
 rw[List.all_eq_true] at h
 have h4:=h b (List.mem_range.2 hb)
 rw[List.all_eq_true.2 h3] at h4
 cases h4
def F11:List (List Int):=[[1]]
def F21:List (List Int):=[[1],[2],[-1,-2]]
def F22:List (List Int):=[[1,2],[3,4],[-1,-3],[-2,-4]]
def F32:List (List Int):=[[1,2],[3,4],[5,6],[-1,-3],[-1,-5],[-3,-5],[-2,-4],[-2,-6],[-4,-6]]
def F33:List (List Int):=[[1,2,3],[4,5,6],[7,8,9],[-1,-4],[-1,-7],[-4,-7],[-2,-5],[-2,-8],[-5,-8],[-3,-6],[-3,-9],[-6,-9]]
def F43:List (List Int):=[[1,2,3],[4,5,6],[7,8,9],[10,11,12],[-1,-4],[-1,-7],[-1,-10],[-4,-7],[-4,-10],[-7,-10],[-2,-5],[-2,-8],[-2,-11],[-5,-8],[-5,-11],[-8,-11],[-3,-6],[-3,-9],[-3,-12],[-6,-9],[-6,-12],[-9,-12]]
theorem g11:pgF 1 1=some F11:=by decide+kernel
theorem g21:pgF 2 1=some F21:=by decide+kernel
theorem g22:pgF 2 2=some F22:=by decide+kernel
theorem g32:pgF 3 2=some F32:=by decide+kernel
theorem g33:pgF 3 3=some F33:=by decide+kernel
theorem g43:pgF 4 3=some F43:=by decide+kernel
theorem n21:noM 2 F21=true:=by decide+kernel
theorem n32:noM 6 F32=true:=by decide+kernel
theorem n43:noM 12 F43=true:=by decide+kernel
theorem u8r {n:Int} (h:(Lit.int .u8 n).wf=true):0≤n∧n≤255:=by
 simp[Lit.wf,IntKind.min,IntKind.max,IntKind.signed,IntKind.bits] at h
 omega
theorem pig_yes {n:Int} {F:List (List Int)} (hv:iV ⟨n,F⟩=true) {m:List Int} (h:holdsB ⟨n,F⟩ m=true):∃m,fJ n F m:=⟨m,(wB (f:=⟨n,F⟩) hv).1 h⟩
theorem law_SolverPigeons (p0:Int) (p1:Bool) (p2:Int) (h0:(Lit.int .u8 p0).wf=true) (h2:(Lit.int .u32 p2).wf=true):kV p0 p1 p2=some true:=by
 have r0:=u8r h0
 have hm:p0.tmod 3=p0 % 3:=Int.tmod_eq_emod_of_nonneg r0.1
 unfold kV
 rw[awake_ok,bsm,if_neg (by decide),gW ⟨by omega,by omega⟩,bsm,show remK p0 3=some (p0 % 3) by unfold remK;rw[if_pos (by decide),hm],bsm]
 have fin:∀(j h n:Int) (F:List (List Int)),j=(if p1=true then h else h+1)→inK .i64 (j*h)=some n→pgF j h=some F→iV ⟨n,F⟩=true→n≤12→(F.all fun c=>decide (c.length≤65536))=true→
   ((p1=true∧∃m,fJ n F m)∨(p1=false∧∀m,¬fJ n F m))→(inK .i64 (h+1))=some (h+1)→
   ((inK .i64 (h+1)).bind fun x5=>
    ((if p1=true then some h else some x5):Option Int).bind fun j1=>
    (jO j1 h).bind fun x6=>
    (dC (fun s=>dP p2 x6 s.1 s.2) (0,x6.clauses):Option (List (List Int))).bind fun b2=>
    (iE (Formula.mk x6.vars b2) [] 65536).bind fun x19=>
    if(!decide (x19.2=0))=true then
     some false
    else
     if p1=true then
      ((if(decide (x19.1.kind=0))=true then
       (qY (Formula.mk x6.vars b2) x19.1.model).bind fun x20=>
       some x20
      else
       some false):Option Bool).bind fun m1=>
      some m1
     else
      ((if(decide (x19.1.kind=1))=true then
       (mD (Formula.mk x6.vars b2) x19.1.proof).bind fun x21=>
       some x21
      else
       some false):Option Bool).bind fun m2=>
      some m2)=some true:=by
  intro j h n F hj hn hF hv hn12 hlen hmod hup
  obtain⟨a,q1,q2,q3,q4⟩:=pig_solve (p2:=p2) (F:=⟨n,F⟩) hv hn12 (fun c hc=>by have:=List.all_eq_true.1 hlen c hc;simpa using this)
  rw[hup,bsm]
  have ej:(if p1=true then some h else some (h+1):Option Int)=some j:=by rw[hj];split<;>rfl
  rw[ej,bsm,pigeons_ok hn hF,bsm,q1,bsm,q2,bsm]
  rw[if_neg (by simp)]
  rcases hmod with⟨hp,hm⟩|⟨hp,hm⟩
  ·obtain⟨k,q⟩:=q3 hm
   rw[if_pos hp,if_pos (by simpa using k),q]
   rfl
  obtain⟨k,q⟩:=q4 hm
  rw[if_neg (by rw[hp];decide),if_pos (by simpa using k),q]
  rfl
 have hr:p0 % 3=0∨p0 % 3=1∨p0 % 3=2:=by omega
 rcases hr with e|e|e
 ·rw[e,show inK .i64 (1+0)=some 1 by decide+kernel,bsm]
  cases p1 with
  |true=>exact fin 1 1 1 F11 rfl (by decide+kernel) g11 (by decide+kernel) (by decide) (by decide+kernel) (Or.inl ⟨rfl,pig_yes (m:=[1]) (by decide+kernel) (by decide+kernel)⟩) (by decide+kernel)
  |false=>exact fin 2 1 2 F21 rfl (by decide+kernel) g21 (by decide+kernel) (by decide) (by decide+kernel) (Or.inr ⟨rfl,noM_ok (n:=2) n21⟩) (by decide+kernel)
 ·rw[e,show inK .i64 (1+1)=some 2 by decide+kernel,bsm]
  cases p1 with
  |true=>exact fin 2 2 4 F22 rfl (by decide+kernel) g22 (by decide+kernel) (by decide) (by decide+kernel) (Or.inl ⟨rfl,pig_yes (m:=[1,-2,-3,4]) (by decide+kernel) (by decide+kernel)⟩) (by decide+kernel)
  |false=>exact fin 3 2 6 F32 rfl (by decide+kernel) g32 (by decide+kernel) (by decide) (by decide+kernel) (Or.inr ⟨rfl,noM_ok (n:=6) n32⟩) (by decide+kernel)
 rw[e,show inK .i64 (1+2)=some 3 by decide+kernel,bsm]
 cases p1 with
 |true=>exact fin 3 3 9 F33 rfl (by decide+kernel) g33 (by decide+kernel) (by decide) (by decide+kernel) (Or.inl ⟨rfl,pig_yes (m:=[1,-2,-3,-4,5,-6,-7,-8,9]) (by decide+kernel) (by decide+kernel)⟩) (by decide+kernel)
 |false=>exact fin 4 3 12 F43 rfl (by decide+kernel) g43 (by decide+kernel) (by decide) (by decide+kernel) (Or.inr ⟨rfl,noM_ok (n:=12) n43⟩) (by decide+kernel)
end Go.Proofs.Ytpkhmndpeipfmaa
