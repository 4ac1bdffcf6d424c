/- The code goes as its model: assessor/assessorlaw38.AlignComposes. (Printed by wip/sp/gen.py.) -/
import Derived.Test.YtopnldfjcciieaaGreatKCoT
import Derived.Test.YtopnldfjcciieaaGreatKCo4
import Derived.Test.YtopnldfjcciieaaGreatKCo5
import Derived.Test.YtopnldfjcciieaaGreatKCo24
import Derived.Test.YtopnldfjcciieaaGreatKCo2
import Derived.Test.YtopnldfjcciieaaGreatKCo3
import Derived.Test.YtopnldfjcciieaaGreatKCo6
set_option linter.unusedVariables false
set_option linter.unusedSimpArgs false
set_option maxRecDepth 100000
set_option maxHeartbeats 4000000
namespace Go.Proofs.YtopnldfjcciieaaGreat
open Go.RowKit
theorem c_assessorlaw38_AlignComposes {Z:World} {ρ:PH} {L:List bP} {w:World} (E:Node) (aI:Value) (bG:aH ρ aI E.kids) (D:Node) (aN:Value) (bT:aH ρ aN D.kids) (C:Node) (iG:Value) (xW:aH ρ iG C.kids) (g:(List Opn)) (vp3:Value) (hp3:aH ρ vp3 g) (f:(List Opn)) (vp4:Value) (hp4:aH ρ vp4 f) (B:Hp Z ρ (L) w) (r:Bool) (F:lL E D C g f=some r):
  Calls Tryz.prog 7 #[(.agg #[(Iv E.kind),(.string E.text),(Iv E.at_),(Iv E.fin),aI]),(.agg #[(Iv D.kind),(.string D.text),(Iv D.at_),(Iv D.fin),aN]),(.agg #[(Iv C.kind),(.string C.text),(Iv C.at_),(Iv C.fin),iG]),vp3,vp4] w (Ret fun v w'=>v=(.bool r)∧Hp Z ρ (L) w'):=by
 refine enter (N:=98) Tryz.func7 O O [(0,(.agg #[(Iv E.kind),(.string E.text),(Iv E.at_),(Iv E.fin),aI])),(1,(.agg #[(Iv D.kind),(.string D.text),(Iv D.at_),(Iv D.fin),aN])),(2,(.agg #[(Iv C.kind),(.string C.text),(Iv C.at_),(Iv C.fin),iG])),(3,vp3),(4,vp4)] O (bC ⟨O,O,O,O,O,tv⟩) fun a A=>?_
 unfold lL at F
 refine aG (aC ?_)
 refine jD (wk0 O) O O A B O (v:=(.agg #[(Iv E.kind),(.string E.text),(Iv E.at_),(Iv E.fin),aI])) O ?_
 intro a w b1 A B
 have B:=r1 B
 refine jD (wk0 O) O O A B O (v:=(.agg #[(Iv D.kind),(.string D.text),(Iv D.at_),(Iv D.fin),aN])) O ?_
 intro a w b2 A B
 have B:=r2 B
 refine jD (wk0 O) O O A B O (v:=(.agg #[(Iv C.kind),(.string C.text),(Iv C.at_),(Iv C.fin),iG])) O ?_
 intro a w b3 A B
 have B:=r3 B
 refine S A 1 O fun a A=>aA (aG ?_)
 refine aG (aC ?_)
 obtain⟨x1,z,F⟩:=bnd F
 refine Cl A O O ent10 (aA6 B x1 z) trivial fun v a w R A=>?_
 obtain⟨rfl,B⟩:=R
 have B:=r3 B
 refine S A 1 O fun a A=>aA ?_
 refine dJ A O (fun e=>?_) (fun e=>?_)
 ·replace F:=(it e).symm.trans F
  refine aG (aC ?_)
  refine S A 1 O fun a A=>aA (dF ?_)
  obtain rfl:=oj F
  exact iK A O O ⟨_,O,O,(((((B.get 2 O).drop).get 1 O).drop).drop)⟩
 replace F:=(ie e).symm.trans F
 refine bD (aG ?_)
 refine aG (aC ?_)
 refine V A B O (aK O A O (fun w H=>aV (cs:=[(Iv E.kind),(.string E.text),(Iv E.at_),(Iv E.fin),aI]) dC (Hp.cN 2 O 0 _ (aS O) w H))) fun a A=>V A B O (aK O A O (fun w H=>aV (cs:=[(Iv D.kind),(.string D.text),(Iv D.at_),(Iv D.fin),aN]) dC (Hp.cN 1 O 0 _ (aS O) w H))) fun a A=>?_
 obtain⟨x2,y,F⟩:=bnd F
 refine Cl A O O ent11 (A8 E aI bG D aN bT 12 B x2 y) ⟨O,O,O,tv⟩ fun v a w R A=>?_
 obtain⟨rfl,B⟩:=R
 have B:=r3 B
 refine S A 2 O fun a A=>?_
 obtain⟨m1,hg1,F⟩:=bnd F
 refine jH [_,_,_,_,_] (fun a w=>Env 98 [(29,(.bool m1)),(3,vp3),(4,vp4),(5,(Pv b1 0)),(6,(Pv b2 0)),(7,(Pv b3 0))] a∧Hp Z ρ (Pt b3 (.cells #[(Iv C.kind),(.string C.text),(Iv C.at_),(Iv C.fin),iG] 24 (0,0))::Pt b2 (.cells #[(Iv D.kind),(.string D.text),(Iv D.at_),(Iv D.fin),aN] 24 (0,0))::Pt b1 (.cells #[(Iv E.kind),(.string E.text),(Iv E.at_),(Iv E.fin),aI] 24 (0,0))::L) w) ?_ ?_
 ·rcases uW (!x2) with Q|Q
  ·
   replace hg1:=(it Q).symm.trans hg1
   refine Gk A Q O fun a A=>Gk A Q O fun a A=>Gk A Q O fun a A=>Gk A Q O fun a A=>pk1 A Q O O O O fun a A=>?_
   obtain rfl:=oj hg1
   exact aA ⟨A.cut ⟨O,O,O,O,O,O,tv⟩,B⟩
  replace hg1:=(ie Q).symm.trans hg1
  refine G A B Q O (aK O A O (fun w H=>aV (cs:=[(Iv C.kind),(.string C.text),(Iv C.at_),(Iv C.fin),iG]) dC (Hp.cN 0 O 0 _ (aS O) w H))) fun a A=>G A B Q O (aK O A O (fun w H=>aV (cs:=[(Iv C.kind),(.string C.text),(Iv C.at_),(Iv C.fin),iG]) dC (Hp.cN 0 O 0 _ (aS O) w H))) fun a A=>?_
  obtain⟨x3,x,hg1⟩:=bnd hg1
  refine Cg A Q O O ent11 (A8 C iG xW C iG xW 12 B x3 x) ⟨O,O,O,tv⟩ fun v a w R A=>?_
  obtain⟨rfl,B⟩:=R
  have B:=r3 B
  refine Gs A Q O O fun a A=>pk0 A Q O O O O fun a A=>?_
  obtain rfl:=oj hg1
  exact aA ⟨A.cut ⟨O,O,O,O,O,O,tv⟩,B⟩
 rintro a w ⟨A,B⟩
 refine S A 1 O fun a A=>?_
 obtain⟨m2,hg2,F⟩:=bnd F
 refine jH [_,_,_,_,_,_] (fun a w=>Env 98 [(36,(.bool m2)),(3,vp3),(4,vp4),(5,(Pv b1 0)),(6,(Pv b2 0)),(7,(Pv b3 0))] a∧Hp Z ρ (Pt b3 (.cells #[(Iv C.kind),(.string C.text),(Iv C.at_),(Iv C.fin),iG] 24 (0,0))::Pt b2 (.cells #[(Iv D.kind),(.string D.text),(Iv D.at_),(Iv D.fin),aN] 24 (0,0))::Pt b1 (.cells #[(Iv E.kind),(.string E.text),(Iv E.at_),(Iv E.fin),aI] 24 (0,0))::L) w) ?_ ?_
 ·rcases uW m1 with K|K
  ·
   replace hg2:=(it K).symm.trans hg2
   refine Gk A K O fun a A=>Gk A K O fun a A=>Gk A K O fun a A=>Gk A K O fun a A=>Gk A K O fun a A=>pk1 A K O O O O fun a A=>?_
   obtain rfl:=oj hg2
   exact aA ⟨A.cut ⟨O,O,O,O,O,O,tv⟩,B⟩
  replace hg2:=(ie K).symm.trans hg2
  refine G A B K O (aK O A O (fun w H=>aV (cs:=[(Iv E.kind),(.string E.text),(Iv E.at_),(Iv E.fin),aI]) dC (Hp.cN 2 O 0 _ (aS O) w H))) fun a A=>G A B K O (aK O A O (fun w H=>aV (cs:=[(Iv D.kind),(.string D.text),(Iv D.at_),(Iv D.fin),aN]) dC (Hp.cN 1 O 0 _ (aS O) w H))) fun a A=>Gs A K O O fun a A=>?_
  obtain⟨x4,t,hg2⟩:=bnd hg2
  refine Cg A K O O ent17 (uF E aI bG D aN bT g vp3 hp3 B x4 t) ⟨O,O,O,tv⟩ fun v a w R A=>?_
  obtain⟨rfl,B⟩:=R
  have B:=r3 B
  refine Gs A K O O fun a A=>pk0 A K O O O O fun a A=>?_
  obtain rfl:=oj hg2
  exact aA ⟨A.cut ⟨O,O,O,O,O,O,tv⟩,B⟩
 rintro a w ⟨A,B⟩
 refine S A 1 O fun a A=>?_
 obtain⟨m3,hg3,F⟩:=bnd F
 refine jH [_,_,_,_,_,_] (fun a w=>Env 98 [(43,(.bool m3)),(3,vp3),(4,vp4),(5,(Pv b1 0)),(6,(Pv b2 0)),(7,(Pv b3 0))] a∧Hp Z ρ (Pt b3 (.cells #[(Iv C.kind),(.string C.text),(Iv C.at_),(Iv C.fin),iG] 24 (0,0))::Pt b2 (.cells #[(Iv D.kind),(.string D.text),(Iv D.at_),(Iv D.fin),aN] 24 (0,0))::Pt b1 (.cells #[(Iv E.kind),(.string E.text),(Iv E.at_),(Iv E.fin),aI] 24 (0,0))::L) w) ?_ ?_
 ·rcases uW m2 with J|J
  ·
   replace hg3:=(it J).symm.trans hg3
   refine Gk A J O fun a A=>Gk A J O fun a A=>Gk A J O fun a A=>Gk A J O fun a A=>Gk A J O fun a A=>pk1 A J O O O O fun a A=>?_
   obtain rfl:=oj hg3
   exact aA ⟨A.cut ⟨O,O,O,O,O,O,tv⟩,B⟩
  replace hg3:=(ie J).symm.trans hg3
  refine G A B J O (aK O A O (fun w H=>aV (cs:=[(Iv D.kind),(.string D.text),(Iv D.at_),(Iv D.fin),aN]) dC (Hp.cN 1 O 0 _ (aS O) w H))) fun a A=>G A B J O (aK O A O (fun w H=>aV (cs:=[(Iv C.kind),(.string C.text),(Iv C.at_),(Iv C.fin),iG]) dC (Hp.cN 0 O 0 _ (aS O) w H))) fun a A=>Gs A J O O fun a A=>?_
  obtain⟨x5,s,hg3⟩:=bnd hg3
  refine Cg A J O O ent17 (uF D aN bT C iG xW f vp4 hp4 B x5 s) ⟨O,O,O,tv⟩ fun v a w R A=>?_
  obtain⟨rfl,B⟩:=R
  have B:=r3 B
  refine Gs A J O O fun a A=>pk0 A J O O O O fun a A=>?_
  obtain rfl:=oj hg3
  exact aA ⟨A.cut ⟨O,O,O,O,O,O,tv⟩,B⟩
 rintro a w ⟨A,B⟩
 refine aA ?_
 refine dJ A O (fun d=>?_) (fun d=>?_)
 ·replace F:=(it d).symm.trans F
  refine aG (aC ?_)
  refine S A 1 O fun a A=>aA (dF ?_)
  obtain rfl:=oj F
  exact iK A O O ⟨_,O,O,(((((B.get 2 O).drop).get 1 O).drop).drop)⟩
 replace F:=(ie d).symm.trans F
 refine bD (aG ?_)
 refine aC (S A 2 O fun a A=>?_)
 obtain⟨c,q,F⟩:=bnd F
 refine s_call (wk0 O) O O A O [vp3,vp4] ⟨O,O,tv⟩ ent29 (aA2 g vp3 hp3 f vp4 hp4 B c q) Ret.ret ?_
 intro vr6 a w R A
 obtain⟨u,rfl,B⟩:=Ret.of R
 have B:=r4 B
 refine S A 1 O fun a A=>aA (aG ?_)
 refine aC (V A B O (aK O A O (fun w H=>aV (cs:=[(Iv E.kind),(.string E.text),(Iv E.at_),(Iv E.fin),aI]) dC (Hp.cN 3 O 0 _ (aS O) w H))) fun a A=>?_)
 refine V A B O (aK O A O (fun w H=>aV (cs:=[(Iv D.kind),(.string D.text),(Iv D.at_),(Iv D.fin),aN]) dC (Hp.cN 2 O 0 _ (aS O) w H))) fun a A=>S A 1 O fun a A=>?_
 obtain⟨X,p,F⟩:=bnd F
 refine Cl A O O ent15 (D8 E aI bG D aN bT g vp3 hp3 B X p) ⟨O,O,O,tv⟩ fun v a w R A=>?_
 obtain⟨rfl,B⟩:=R
 have B:=r4 B
 refine S A 5 O fun a A=>aA (aG ?_)
 refine aC (V A B O (aK O A O (fun w H=>aV (cs:=[(Iv D.kind),(.string D.text),(Iv D.at_),(Iv D.fin),aN]) dC (Hp.cN 2 O 0 _ (aS O) w H))) fun a A=>?_)
 refine V A B O (aK O A O (fun w H=>aV (cs:=[(Iv C.kind),(.string C.text),(Iv C.at_),(Iv C.fin),iG]) dC (Hp.cN 1 O 0 _ (aS O) w H))) fun a A=>S A 1 O fun a A=>?_
 obtain⟨Y,o,F⟩:=bnd F
 refine Cl A O O ent15 (D8 D aN bT C iG xW f vp4 hp4 B Y o) ⟨O,O,O,tv⟩ fun v a w R A=>?_
 obtain⟨rfl,B⟩:=R
 have B:=r4 B
 refine S A 5 O fun a A=>aA ?_
 have A:=A.cut (E':=[(3,vp3),(4,vp4),(5,(Pv b1 0)),(7,(Pv b3 0)),(11,vr6),(12,(Iv X.1)),(13,(Iv X.2)),(14,(Iv Y.1)),(15,(Iv Y.2))]) ⟨O,O,O,O,O,O,O,O,O,tv⟩
 refine aG (aC ?_)
 refine V A B O (aK O A O (fun w H=>aV (cs:=[(Iv E.kind),(.string E.text),(Iv E.at_),(Iv E.fin),aI]) dC (Hp.cN 3 O 0 _ (aS O) w H))) fun a A=>V A B O (aK O A O (fun w H=>aV (cs:=[(Iv C.kind),(.string C.text),(Iv C.at_),(Iv C.fin),iG]) dC (Hp.cN 1 O 0 _ (aS O) w H))) fun a A=>S A 1 O fun a A=>?_
 obtain⟨k1,k1a,k1d,k1h⟩:=(B.get 0 O).lend
 obtain⟨b,n,F⟩:=bnd F
 refine Cl A O O ent15 (D8 E aI (aH.mono bG (PH.le_un _ _)) C iG (aH.mono xW (PH.le_un _ _)) c vr6 (aF.ro k1d k1a) k1h b n) ⟨O,O,O,tv⟩ fun v a w R A=>?_
 obtain⟨rfl,B⟩:=R
 have B:=Hp.back k1a k1d B
 have B:=r4 B
 refine S A 5 O fun a A=>aA (aG ?_)
 refine aC (V A B O (aK O A O (fun w H=>aV (cs:=[(Iv E.kind),(.string E.text),(Iv E.at_),(Iv E.fin),aI]) dC (Hp.cN 3 O 0 _ (aS O) w H))) fun a A=>?_)
 refine V A B O (aK O A O (fun w H=>aV (cs:=[(Iv C.kind),(.string C.text),(Iv C.at_),(Iv C.fin),iG]) dC (Hp.cN 1 O 0 _ (aS O) w H))) fun a A=>S A 1 O fun a A=>?_
 obtain⟨k2,k2a,k2d,k2h⟩:=(B.get 0 O).lend
 obtain⟨M,l,F⟩:=bnd F
 refine Cl A O O ent17 (uF E aI (aH.mono bG (PH.le_un _ _)) C iG (aH.mono xW (PH.le_un _ _)) c vr6 (aF.ro k2d k2a) k2h M l) ⟨O,O,O,tv⟩ fun v a w R A=>?_
 obtain⟨rfl,B⟩:=R
 have B:=Hp.back k2a k2d B
 have B:=r4 B
 refine S A 1 O fun a A=>?_
 refine jH [_,_,_] (fun a w=>Env 98 [(75,(.bool (M&&(decide (X.2=0))))),(3,vp3),(4,vp4),(11,vr6),(12,(Iv X.1)),(14,(Iv Y.1)),(15,(Iv Y.2)),(16,(Iv b.1)),(17,(Iv b.2))] a∧Hp Z ρ (aF 46 vr6 c::Pt b3 (.cells #[(Iv C.kind),(.string C.text),(Iv C.at_),(Iv C.fin),iG] 24 (0,0))::Pt b2 (.cells #[(Iv D.kind),(.string D.text),(Iv D.at_),(Iv D.fin),aN] 24 (0,0))::Pt b1 (.cells #[(Iv E.kind),(.string E.text),(Iv E.at_),(Iv E.fin),aI] 24 (0,0))::L) w) ?_ ?_
 ·rcases uW M with W|W
  ·
   refine Gs A W O O fun a A=>Gs A W O O fun a A=>pk1 A W O O O O fun a A=>?_
   have A:=A.eqv (v':=(.bool (M&&(decide (X.2=0))))) (by rw[W];rfl)
   exact aA ⟨A.cut ⟨O,O,O,O,O,O,O,O,O,tv⟩,B⟩
  refine Gk A W O fun a A=>Gk A W O fun a A=>pk0 A W O O O O fun a A=>?_
  have A:=A.eqv (v':=(.bool (M&&(decide (X.2=0))))) (by rw[W];rfl)
  exact aA ⟨A.cut ⟨O,O,O,O,O,O,O,O,O,tv⟩,B⟩
 rintro a w ⟨A,B⟩
 refine S A 1 O fun a A=>?_
 refine jH [_,_,_] (fun a w=>Env 98 [(79,(.bool ((M&&(decide (X.2=0)))&&(decide (Y.2=0))))),(3,vp3),(4,vp4),(11,vr6),(12,(Iv X.1)),(14,(Iv Y.1)),(16,(Iv b.1)),(17,(Iv b.2))] a∧Hp Z ρ (aF 46 vr6 c::Pt b3 (.cells #[(Iv C.kind),(.string C.text),(Iv C.at_),(Iv C.fin),iG] 24 (0,0))::Pt b2 (.cells #[(Iv D.kind),(.string D.text),(Iv D.at_),(Iv D.fin),aN] 24 (0,0))::Pt b1 (.cells #[(Iv E.kind),(.string E.text),(Iv E.at_),(Iv E.fin),aI] 24 (0,0))::L) w) ?_ ?_
 ·rcases uW (M&&(decide (X.2=0))) with U|U
  ·
   refine Gs A U O O fun a A=>Gs A U O O fun a A=>pk1 A U O O O O fun a A=>?_
   have A:=A.eqv (v':=(.bool ((M&&(decide (X.2=0)))&&(decide (Y.2=0))))) (by rw[U];rfl)
   exact aA ⟨A.cut ⟨O,O,O,O,O,O,O,O,tv⟩,B⟩
  refine Gk A U O fun a A=>Gk A U O fun a A=>pk0 A U O O O O fun a A=>?_
  have A:=A.eqv (v':=(.bool ((M&&(decide (X.2=0)))&&(decide (Y.2=0))))) (by rw[U];rfl)
  exact aA ⟨A.cut ⟨O,O,O,O,O,O,O,O,tv⟩,B⟩
 rintro a w ⟨A,B⟩
 refine S A 1 O fun a A=>?_
 refine jH [_,_,_] (fun a w=>Env 98 [(83,(.bool (((M&&(decide (X.2=0)))&&(decide (Y.2=0)))&&(decide (b.2=0))))),(3,vp3),(4,vp4),(11,vr6),(12,(Iv X.1)),(14,(Iv Y.1)),(16,(Iv b.1))] a∧Hp Z ρ (aF 46 vr6 c::Pt b3 (.cells #[(Iv C.kind),(.string C.text),(Iv C.at_),(Iv C.fin),iG] 24 (0,0))::Pt b2 (.cells #[(Iv D.kind),(.string D.text),(Iv D.at_),(Iv D.fin),aN] 24 (0,0))::Pt b1 (.cells #[(Iv E.kind),(.string E.text),(Iv E.at_),(Iv E.fin),aI] 24 (0,0))::L) w) ?_ ?_
 ·rcases uW ((M&&(decide (X.2=0)))&&(decide (Y.2=0))) with T|T
  ·
   refine Gs A T O O fun a A=>Gs A T O O fun a A=>pk1 A T O O O O fun a A=>?_
   have A:=A.eqv (v':=(.bool (((M&&(decide (X.2=0)))&&(decide (Y.2=0)))&&(decide (b.2=0))))) (by rw[T];rfl)
   exact aA ⟨A.cut ⟨O,O,O,O,O,O,O,tv⟩,B⟩
  refine Gk A T O fun a A=>Gk A T O fun a A=>pk0 A T O O O O fun a A=>?_
  have A:=A.eqv (v':=(.bool (((M&&(decide (X.2=0)))&&(decide (Y.2=0)))&&(decide (b.2=0))))) (by rw[T];rfl)
  exact aA ⟨A.cut ⟨O,O,O,O,O,O,O,tv⟩,B⟩
 rintro a w ⟨A,B⟩
 refine S A 1 O fun a A=>?_
 obtain⟨m4,hg4,F⟩:=bnd F
 refine jH [_,_,_,_,_,_] (fun a w=>Env 98 [(90,(.bool m4)),(3,vp3),(4,vp4),(11,vr6)] a∧Hp Z ρ (aF 46 vr6 c::Pt b3 (.cells #[(Iv C.kind),(.string C.text),(Iv C.at_),(Iv C.fin),iG] 24 (0,0))::Pt b2 (.cells #[(Iv D.kind),(.string D.text),(Iv D.at_),(Iv D.fin),aN] 24 (0,0))::Pt b1 (.cells #[(Iv E.kind),(.string E.text),(Iv E.at_),(Iv E.fin),aI] 24 (0,0))::L) w) ?_ ?_
 ·rcases uW (((M&&(decide (X.2=0)))&&(decide (Y.2=0)))&&(decide (b.2=0))) with I|I
  ·
   replace hg4:=(it I).symm.trans hg4
   refine Gs A I O O fun a A=>Gs A I O O fun a A=>Gs A I O O fun a A=>?_
   obtain⟨x11,k,hg4⟩:=bnd hg4
   refine G A B I O (bI O A O O (aO k)) fun a A=>Gs A I O O fun a A=>pk1 A I O O O O fun a A=>?_
   obtain rfl:=oj hg4
   exact aA ⟨A.cut ⟨O,O,O,O,tv⟩,B⟩
  replace hg4:=(ie I).symm.trans hg4
  refine Gk A I O fun a A=>Gk A I O fun a A=>Gk A I O fun a A=>Gk A I O fun a A=>Gk A I O fun a A=>pk0 A I O O O O fun a A=>?_
  obtain rfl:=oj hg4
  exact aA ⟨A.cut ⟨O,O,O,O,tv⟩,B⟩
 rintro a w ⟨A,B⟩
 refine S A 1 O fun a A=>?_
 obtain⟨m5,hg5,F⟩:=bnd F
 refine jH [_,_,_,_,_,_] (fun a w=>Env 98 [(97,(.bool m5))] a∧Hp Z ρ (aF 46 vr6 c::Pt b3 (.cells #[(Iv C.kind),(.string C.text),(Iv C.at_),(Iv C.fin),iG] 24 (0,0))::Pt b2 (.cells #[(Iv D.kind),(.string D.text),(Iv D.at_),(Iv D.fin),aN] 24 (0,0))::Pt b1 (.cells #[(Iv E.kind),(.string E.text),(Iv E.at_),(Iv E.fin),aI] 24 (0,0))::L) w) ?_ ?_
 ·rcases uW m4 with hc10|hc10
  ·
   replace hg5:=(it hc10).symm.trans hg5
   refine Gs A hc10 O O fun a A=>Gs A hc10 O O fun a A=>Gs A hc10 O O fun a A=>?_
   obtain⟨h,j,hg5⟩:=bnd hg5
   refine s_call (wk1 A O O O hc10) O O A O [vp3,vp4] ⟨O,O,tv⟩ ent30 (U6 g vp3 hp3 f vp4 hp4 B h j) Ret.ret ?_
   intro vr14 a w R A
   obtain⟨u,rfl,B⟩:=Ret.of R
   have B:=r5 B
   obtain⟨k3,k3a,k3d,k3h⟩:=(B.get 1 O).lend
   obtain⟨k4,k4a,k4d,k4h⟩:=(k3h.get 0 O).lend
   obtain⟨m,i,hg5⟩:=bnd hg5
   refine Cg A hc10 O O ent27 (I4 c vr6 (aH.mono (aF.ro k3d k3a) (PH.le_un _ _)) h vr14 (aF.ro k4d k4a) k4h m i) ⟨O,O,tv⟩ fun v a w R A=>?_
   obtain⟨rfl,B⟩:=R
   have B:=Hp.back k4a k4d B
   have B:=Hp.back k3a k3d B
   have B:=r5 B
   refine pk1 A hc10 O O O O fun a A=>?_
   obtain rfl:=oj hg5
   exact aA ⟨A.cut ⟨O,tv⟩,((B.get 1 O).drop)⟩
  replace hg5:=(ie hc10).symm.trans hg5
  refine Gk A hc10 O fun a A=>Gk A hc10 O fun a A=>Gk A hc10 O fun a A=>Gk A hc10 O fun a A=>Gk A hc10 O fun a A=>pk0 A hc10 O O O O fun a A=>?_
  obtain rfl:=oj hg5
  exact aA ⟨A.cut ⟨O,tv⟩,B⟩
 rintro a w ⟨A,B⟩
 refine S A 1 O fun a A=>aA (dF ?_)
 obtain rfl:=oj F
 exact iK A O O ⟨_,O,O,(((((((B.get 3 O).drop).get 2 O).drop).get 1 O).drop).drop)⟩
theorem loop_at {σ β:Type} {body:σ→Option (Step σ β)} {b:β} (S:Nat→σ):∀(n:Nat),(∀k,k<n→body (S k)=some (.next (S (k+1))))→body (S n)=some (.done b)→fH body (S 0)=some b
 |0,_,h=>kP h
 |n+1,h1,h2=>by
  rw[vT (h1 0 (by omega))]
  exact loop_at (fun k=>S (k+1)) n (fun k hk=>h1 (k+1) (by omega)) h2
theorem V8 {σ β:Type} {body:σ→Option (Step σ β)} {b:β} {s:σ} (S:Nat→σ) (n:Nat) (h0:s=S 0) (h1:∀k,k<n→body (S k)=some (.next (S (k+1)))) (h2:body (S n)=some (.done b)):fH body s=some b:=by
 rw[h0];exact loop_at S n h1 h2
theorem U3 {σ β γ:Type} {body:σ→Option (Step σ β)} {s:σ} {f:β→Option γ} {r:Option γ} (S:Nat→σ) (n:Nat) (b:β) (h0:s=S 0) (h1:∀k,k<n→body (S k)=some (.next (S (k+1)))) (h2:body (S n)=some (.done b)) (hf:f b=r):(fH body s).bind f=r:=by
 rw[V8 S n h0 h1 h2];exact hf
theorem jM {n:Int} (h: -9223372036854775808≤n∧n≤9223372036854775807):inK .i64 n=some n:=inK_ok n h.1 h.2
theorem iW {k:Nat} (h:k≤4611686018427387904):inK .i64 ((k:Int)+1)=some ((k+1:Nat):Int):=by
 rw[inK_ok _ (by omega) (by omega)];rfl
theorem mM {α:Type} {l:List α} {k:Nat} {a:α} (h:l[k]?=some a):idx l (k:Int)=some a:=by
 unfold idx;rw[if_pos (by omega)];simpa using h
theorem idx_of {α:Type} {l:List α} {i:Int} {a:α} (h0:0≤i) (h:l[i.toNat]?=some a):idx l i=some a:=by
 unfold idx;rw[if_pos h0,h]
theorem iV {α:Type} {l:List α} {k:Nat} (h:k<l.length):∃a,l[k]?=some a:=⟨_,vA h⟩
theorem H7 {α:Type} {l m:List α} (h:l.length+m.length≤4294967296):app l m=some (l++m):=by unfold app;rw[if_pos h]
theorem sub_ok {α:Type} {l:List α} {i j:Int} (h0:0≤i) (h1:i≤j) (h2:j≤l.length):sub l i j=some ((l.take j.toNat).drop i.toNat):=by unfold sub;rw[if_pos ⟨h0,h1,h2⟩]
theorem mkc_ok {α:Type} {n c:Int} {z:α} (h:0≤n∧n≤c∧c≤4294967296):mkc n c z=some (List.replicate n.toNat z):=by unfold mkc;rw[if_pos h]
theorem I64.r {n:Int} (h:(Lit.int .i64 n).wf=true): -9223372036854775808≤n∧n≤9223372036854775807:=by
 simp[Lit.wf,IntKind.min,IntKind.max,IntKind.signed,IntKind.bits] at h
 exact⟨by omega,by omega⟩
theorem U8.r {n:Int} (h:(Lit.int .u8 n).wf=true):0≤n∧n≤255:=by
 simp[Lit.wf,IntKind.min,IntKind.max,IntKind.signed,IntKind.bits] at h
 omega
theorem first_or {α:Type} (p:α→Bool):∀(l:List α),(∃k a,l[k]?=some a∧p a=true∧(∀j b,j<k→l[j]?=some b→p b=false)∧l.any p=true∧l.findIdx p=k)∨((∀a∈l,p a=false)∧l.any p=false∧l.findIdx p=l.length)
 | []=>Or.inr ⟨by simp,rfl,rfl⟩
 |x::l=>by
  cases A:p x with
  |true=>exact Or.inl ⟨0,x,rfl,A,fun j b B=>by omega,by simp[A],by simp[List.findIdx_cons,A]⟩
  |false=>
   rcases first_or p l with⟨k,a,h1,h2,h3,h4,h5⟩|⟨h1,h2,h3⟩
   ·refine Or.inl ⟨k+1,a,by simpa using h1,h2,fun j b B hb=>?_,by simp[A,h4],by simp[List.findIdx_cons,A,h5]⟩
    cases j with
    |zero=>simp at hb;subst hb;exact A
    |succ j=>exact h3 j b (by omega) (by simpa using hb)
   refine Or.inr ⟨fun a ha=>?_,by simp[A,h2],by simp[List.findIdx_cons,A,h3]⟩
   rcases List.mem_cons.1 ha with rfl|ha
   ·exact A
   exact h1 a ha
theorem scan_loop {α β:Type} {body:Int→Option (Step Int β)} (l:List α) (p:α→Bool) (hit:Nat→α→β) (miss:β)
  (h1:∀(k:Nat) a,l[k]?=some a→body k=some (if p a=true then .done (hit k a) else .next ((k+1:Nat):Int))) (h2:body (l.length:Int)=some (.done miss)):
  (∃k a,l[k]?=some a∧p a=true∧(∀j b,j<k→l[j]?=some b→p b=false)∧l.any p=true∧l.findIdx p=k∧fH body 0=some (hit k a))∨((∀a∈l,p a=false)∧l.any p=false∧l.findIdx p=l.length∧fH body 0=some miss):=by
 rcases first_or p l with⟨k,a,a1,a2,a3,a4,a5⟩|⟨a1,a2,a3⟩
 ·refine Or.inl ⟨k,a,a1,a2,a3,a4,a5,V8 (fun j=>(j:Int)) k O (fun j A=>?_) ?_⟩
  ·obtain⟨b,hb⟩:=iV (show j<l.length by have:=(uL.1 a1).1;omega)
   rw[h1 j b hb,a3 j b A hb];rfl
  rw[h1 k a a1,a2];rfl
 refine Or.inr ⟨a1,a2,a3,V8 (fun j=>(j:Int)) l.length O (fun j A=>?_) h2⟩
 obtain⟨b,hb⟩:=iV A
 rw[h1 j b hb,a1 b (vE hb)];rfl
theorem jF {α:Type} {l:List α} {k:Nat} {a:α} (h:l[k]?=some a):l.take (k+1)=l.take k++[a]:=by
 obtain⟨h1,h2⟩:=uL.1 h
 rw[←h2];exact List.take_succ_eq_append_getElem h1
theorem rising_ext {α:Type} {r:α→α→Prop} (irr:∀a,¬r a a) (tr:∀a b c,r a b→r b c→r a c):∀{l m:List α},l.Pairwise r→m.Pairwise r→(∀x,x∈l↔x∈m)→l=m
 | [],[],_,_,_=>rfl
 | [],b::m,_,_,h=>by have:=(h b).2 (List.mem_cons_self ..);simp at this
 |a::l,[],_,_,h=>by have:=(h a).1 (List.mem_cons_self ..);simp at this
 |a::l,b::m,C,B,h=>by
  obtain⟨l1,l2⟩:=List.pairwise_cons.1 C
  obtain⟨m1,m2⟩:=List.pairwise_cons.1 B
  have e:a=b:=by
   rcases List.mem_cons.1 ((h a).1 (List.mem_cons_self ..)) with e|h1
   ·exact e
   rcases List.mem_cons.1 ((h b).2 (List.mem_cons_self ..)) with e|h2
   ·exact e.symm
   exact absurd (tr _ _ _ (m1 a h1) (l1 b h2)) (irr b)
  subst e
  congr 1
  refine rising_ext irr tr l2 m2 fun x=>?_
  constructor
  ·intro A
   rcases List.mem_cons.1 ((h x).1 (List.mem_cons_of_mem _ A)) with e|h1
   ·subst e;exact absurd (l1 x A) (irr x)
   exact h1
  intro A
  rcases List.mem_cons.1 ((h x).2 (List.mem_cons_of_mem _ A)) with e|h1
  ·subst e;exact absurd (m1 x A) (irr x)
  exact h1
theorem rising_int {l m:List Int} (B:l.Pairwise (· < ·)) (A:m.Pairwise (· < ·)) (h:∀x,x∈l↔x∈m):l=m:=
 rising_ext (r:=fun a b:Int=>a<b) (fun a=>Int.lt_irrefl a) (fun a b c=>Int.lt_trans) B A h
theorem mget_put {κ β:Type} [DecidableEq κ] (l:List (κ×β)) (k x:κ) (v:β):jS (zY l k v) x=if x=k then some v else jS l x:=by
 induction l with
 |nil=>by_cases h:k=x<;>simp[zY,jS,h,eq_comm]
 |cons p l ih=>
  unfold zY
  by_cases h:p.1=k
  ·rw[if_pos h]
   by_cases A:x=k
   ·subst A;simp[jS]
   have h1:¬k=x:=fun e=>A e.symm
   have h2:¬p.1=x:=fun e=>A (e.symm.trans h)
   simp[jS,List.find?_cons,A,h1,h2]
  rw[if_neg h]
  by_cases A:p.1=x
  ·have h3:¬x=k:=fun e=>h (A.trans e)
   simp[jS,List.find?_cons,A,h3]
  unfold jS at ih⊢
  rw[List.find?_cons_of_neg (by simpa using A),List.find?_cons_of_neg (by simpa using A)]
  exact ih
noncomputable def rJ (E:(List Opn)) (D:(List Span)) (C:(List Span)) (aT:Int) (aU:Int):Option (Step (Int×Int) Int):=
 if(decide (aU<(E.length:Int)))=true then
  (idx E aU).bind fun A=>
  ((if((decide (A.a<0))||(decide (A.b<0)))=true then
   some true
  else
   (idx D A.a).bind fun K=>
   (idx C A.b).bind fun J=>
   some (!decide (K.kind=J.kind))):Option Bool).bind fun m1=>
  ((if m1=true then
   some true
  else
   (idx D A.a).bind fun I=>
   (idx C A.b).bind fun H=>
   some (!decide (I.text=H.text))):Option Bool).bind fun m2=>
  if m2=true then
   (inK .i64 (aT+1)).bind fun G=>
   (inK .i64 (aU+1)).bind fun F=>
   some (.next (G,F))
  else
   (inK .i64 (aU+1)).bind fun B=>
   some (.next (aT,B))
 else
  some (.done aT)
theorem bsn {α β:Type} (a:α) (f:α→Option β):(some a).bind f=f a:=rfl
mutual
def prN:Node→Nat→Int→List (Node×Int×Nat)
 |⟨a,b,c,d,kids⟩,z,p=>(⟨a,b,c,d,kids⟩,p,z)::prL kids (z+1) z
def prL:List Node→Nat→Int→List (Node×Int×Nat)
 | [],_,_=>[]
 |n::r,z,p=>prN n z p++prL r (z+iI n) p
end
theorem prN_eq (n:Node) (z:Nat) (p:Int):prN n z p=(n,p,z)::prL n.kids (z+1) z:=by obtain⟨a,b,c,d,k⟩:=n;rw[prN]
theorem prL_nil (z:Nat) (p:Int):prL [] z p=[]:=by rw[prL]
theorem aC3 (n:Node) (r:List Node) (z:Nat) (p:Int):prL (n::r) z p=prN n z p++prL r (z+iI n) p:=by rw[prL]
theorem prL_app:∀(A B:List Node) (z:Nat) (p:Int),prL (A++B) z p=prL A z p++prL B (z+pY A) p
 | [],B,z,p=>by rw[prL_nil,pY];rfl
 |n::A,B,z,p=>by rw[List.cons_append,aC3,aC3,prL_app A B,wW,vB,Nat.add_assoc]
theorem prL_take {l:List Node} {i:Nat} {n:Node} (h:l[i]?=some n) (z:Nat) (p:Int):prL (l.take (i+1)) z p=prL (l.take i) z p++prN n (z+pY (l.take i)) p:=by
 rw[jF h,prL_app,aC3,prL_nil,List.append_nil]
theorem node_ind {P:Node→Prop} {Q:List Node→Prop} (h1:∀n,Q n.kids→P n) (h2:Q []) (h3:∀n r,P n→Q r→Q (n::r)):(∀n,P n)∧∀l,Q l:=by
 have hq:∀(m:Nat) (l:List Node),SizeOf.sizeOf l≤m→Q l:=by
  intro m
  induction m with
  |zero=>intro l h;cases l<;>simp at h
  |succ m ih=>
   intro l h
   cases l with
   |nil=>exact h2
   |cons n r=>
    simp only[List.cons.sizeOf_spec] at h
    have hs:SizeOf.sizeOf n.kids<SizeOf.sizeOf n:=by obtain⟨a,b,c,d,kids⟩:=n;simp;omega
    exact h3 n r (h1 n (ih _ (by omega))) (ih r (by omega))
 exact⟨fun n=>h1 n (hq _ _ (yW _)),fun l=>hq _ _ (yW _)⟩
theorem pr_len:(∀n z p,(prN n z p).length=iI n)∧∀l z p,(prL l z p).length=pY l:=by
 refine node_ind (fun n h z p=>?_) (fun z p=>by rw[prL_nil,pY];rfl) (fun n r h1 h2 z p=>?_)
 ·rw[prN_eq,zP,h,yX];omega
 rw[aC3,uR,h1,h2,wW]
theorem pr_at:(∀n z p (j:Nat) m q k,(prN n z p)[j]?=some (m,q,k)→k=z+j∧k+iI m≤z+iI n∧(q=p∧j=0∧m=n∨(z:Int)≤q∧q<k∧0<j))∧
  ∀l z p (j:Nat) m q k,(prL l z p)[j]?=some (m,q,k)→k=z+j∧k+iI m≤z+pY l∧(q=p∨(z:Int)≤q∧q<k):=by
 refine node_ind (fun n h z p j m q k A=>?_) (fun z p j m q k A=>?_) (fun n r h1 h2 z p j m q k A=>?_)
 ·rw[prN_eq] at A
  have B:=yX n
  cases j with
  |zero=>
   simp only[List.getElem?_cons_zero,vR,Prod.mk.injEq] at A
   obtain⟨rfl,rfl,rfl⟩:=A
   exact⟨O,yW _,Or.inl ⟨O,O,O⟩⟩
  |succ j=>
   rw[List.getElem?_cons_succ] at A
   obtain⟨a1,a2,a3⟩:=h _ _ j m q k A
   refine⟨by omega,by omega,Or.inr ?_⟩
   rcases a3 with e|e<;>omega
 ·rw[prL_nil] at A;simp at A
 rw[aC3] at A
 have B:=wW n r
 have hl:=pr_len.1 n z p
 rcases xS j (prN n z p).length with hh|hh
 ·rw[vQ hh] at A
  obtain⟨a1,a2,a3⟩:=h1 z p j m q k A
  refine⟨a1,by omega,?_⟩
  rcases a3 with e|e
  ·exact Or.inl e.1
  exact Or.inr ⟨e.1,e.2.1⟩
 rw[vD hh] at A
 obtain⟨a1,a2,a3⟩:=h2 _ p _ m q k A
 refine⟨by omega,by omega,?_⟩
 rcases a3 with e|e
 ·exact Or.inl e
 exact Or.inr (by omega)
def nmb (l:List (Node×Int×Nat)):Nmb:=⟨l.map (·.1),l.map fun x=>(iI x.1:Int),l.map (·.2.1)⟩
def spn (x:Node×Int×Nat):Span:=⟨x.1.kind,x.1.text,((x.2.2+iI x.1:Nat):Int),x.2.1⟩
theorem number_r:∀(f:Nat) (n:Node),SizeOf.sizeOf n<f→∀(p:Int) (B:List (Node×Int×Nat)),B.length+iI n≤100000→nT f n p (nmb B)=some (nmb (B++prN n B.length p)):=by
 intro f
 induction f with
 |zero=>intro n h;omega
 |succ f ih=>
  intro n hsz p B hb
  have hc:=yX n
  have hl:=I7 n.kids
  unfold nT qG
  have hN:(nmb B).nodes.length=B.length∧(nmb B).sizes.length=B.length∧(nmb B).parent.length=B.length:=by simp[nmb]
  rw[H7 (by simp only[List.length_singleton];omega),bsn,show Z7 n=some (iI n:Int) by unfold Z7;rw[if_pos (by omega)],bsn,H7 (by simp only[List.length_singleton];omega),bsn,H7 (by simp only[List.length_singleton];omega),bsn]
  let G (i:Nat):Nmb:=nmb (B++((n,p,B.length)::prL (n.kids.take i) (B.length+1) B.length))
  refine U3 (fun i=>((i:Int),(G i).nodes,(G i).sizes,(G i).parent)) n.kids.length ((G n.kids.length).nodes,(G n.kids.length).sizes,(G n.kids.length).parent) (by simp[G,nmb,prL_nil]) (fun i hi=>?_) ?_ ?_
  ·obtain⟨x,A⟩:=iV hi
   have e1:=aD1 A
   have e2:=cntL_le n.kids (i+1)
   have e3:=pr_len.2 (n.kids.take i) (B.length+1) B.length
   simp only[nN]
   rw[if_pos (by simp;omega),mM A,bsn,hN.1]
   have:=ih x (by have:=node_sz A;omega) (B.length:Int) (B++((n,p,B.length)::prL (n.kids.take i) (B.length+1) B.length)) (by simp only[uR,zP];omega)
   rw[show(Nmb.mk (G i).nodes (G i).sizes (G i).parent)=nmb (B++((n,p,B.length)::prL (n.kids.take i) (B.length+1) B.length)) from rfl,this,bsn,iW (by omega),bsn]
   simp only[G]
   rw[prL_take A]
   simp only[uR,zP,e3]
   rw[show B.length+(pY (n.kids.take i)+1)=B.length+1+pY (n.kids.take i) by omega]
   simp
  ·simp only[nN]
   rw[if_neg (by simp)]
  simp only[G]
  rw[prN_eq,wA (yW _)]
theorem aG3 (n:Node) (h:iI n≤100000):jT n=some (nmb (prN n 0 (-1))):=by
 unfold jT yN
 have:=number_r (SizeOf.sizeOf n+1) n (by omega) (-1) [] (by simpa using h)
 rw[show(Nmb.mk ([]) ([]) ([]))=nmb [] from rfl,this];rfl
theorem up_loop {β:Type} {body:Int→Option (Step Int β)} (p:Nat→Prop) (hit miss:β) (n:Nat):∀(d i:Nat),i+d=n→
  (∀k:Nat,i≤k→k<n→(p k∧body k=some (.done hit))∨(¬p k∧body k=some (.next ((k+1:Nat):Int))))→body (n:Int)=some (.done miss)→
  ((∃k,i≤k∧k<n∧p k)∧fH body (i:Int)=some hit)∨((∀k,i≤k→k<n→¬p k)∧fH body (i:Int)=some miss)
 |0,i,hd,h1,h2=>by
  subst hd
  exact Or.inr ⟨fun k a b=>by omega,kP h2⟩
 |d+1,i,hd,h1,h2=>by
  rcases h1 i (yW _) (by omega) with⟨a,b⟩|⟨a,b⟩
  ·exact Or.inl ⟨⟨i,yW _,by omega,a⟩,kP b⟩
  rw[vT b]
  rcases up_loop p hit miss n d (i+1) (by omega) (fun k x y=>h1 k (by omega) y) h2 with⟨⟨k,x,y,z⟩,e⟩|⟨x,e⟩
  ·exact Or.inl ⟨⟨k,by omega,y,z⟩,e⟩
  refine Or.inr ⟨fun k u v=>?_,e⟩
  rcases xS i k with w|w
  ·exact x k w v
  rwa [show k=i by omega]
structure OkO (nx ny:Nat) (A:List Opn) (o:Opn):Prop where
 fst:A.length<nx→o.a=A.length
 snd:nx≤A.length→o.a= -1∧0≤o.b∧∀q∈A.drop nx,q.b<o.b
 lo: -1≤o.b
 hi:o.b<ny
 inj:0≤o.b→∀q∈A,q.b≠o.b
def Scr (nx ny:Nat) (l:List Opn):Prop:=∀j o,l[j]?=some o→OkO nx ny (l.take j) o
def PrO (sx sy:Nat→Nat) (q o:Opn):Prop:=0≤q.a→0≤q.b→0≤o.a→0≤o.b→q.b<o.b∧(o.a<q.a+sx q.a.toNat↔o.b<q.b+sy q.b.toNat)
structure Vd (nx ny:Nat) (sx sy:Nat→Nat) (l:List Opn):Prop where
 scr:Scr nx ny l
 len:nx≤l.length
 sur:∀b:Nat,b<ny→∃q∈l,q.b=b
 prs:l.Pairwise (PrO sx sy)
def Mk (ny:Nat) (A:List Opn) (m:List Bool):Prop:=m.length=ny∧∀b:Nat,b<ny→(m[b]?=some true↔∃q∈A,q.b=b)
theorem Mk.nil (ny:Nat):Mk ny [] (List.replicate ny false):=⟨by simp,fun b hb=>by simp[List.getElem?_replicate,hb]⟩
theorem Mk.skip {ny:Nat} {A:List Opn} {m:List Bool} {o:Opn} (h:Mk ny A m) (ho:o.b<0):Mk ny (A++[o]) m:=⟨h.1,fun b hb=>by
 rw[h.2 b hb]
 constructor
 ·rintro⟨q,hq,e⟩;exact⟨q,by simp[hq],e⟩
 rintro⟨q,hq,e⟩
 rcases List.mem_append.1 hq with h|h
 ·exact⟨q,h,e⟩
 rw[List.mem_singleton.1 h] at e;omega⟩
theorem Mk.mark {ny:Nat} {A:List Opn} {m:List Bool} {o:Opn} (h:Mk ny A m) (h0:0≤o.b) (h1:o.b<ny):Mk ny (A++[o]) (m.set o.b.toNat true):=⟨by simp[h.1],fun b hb=>by
 rw[List.getElem?_set]
 by_cases e:o.b.toNat=b
 ·rw[if_pos e,if_pos (by rw[h.1];omega)]
  simp only[true_iff]
  exact⟨o,by simp,by omega⟩
 rw[if_neg e,h.2 b hb]
 constructor
 ·rintro⟨q,hq,e⟩;exact⟨q,by simp[hq],e⟩
 rintro⟨q,hq,e2⟩
 rcases List.mem_append.1 hq with h|h
 ·exact⟨q,h,e2⟩
 rw[List.mem_singleton.1 h] at e2;omega⟩
theorem Mk.get {ny:Nat} {A:List Opn} {m:List Bool} {o:Opn} (h:Mk ny A m) (h0:0≤o.b) (h1:o.b<ny):∃x,idx m o.b=some x∧(x=true↔∃q∈A,q.b=o.b):=by
 obtain⟨x,B⟩:=iV (show o.b.toNat<m.length by rw[h.1];omega)
 have:=h.2 o.b.toNat (by omega)
 rw[B] at this
 refine⟨x,idx_of h0 B,?_⟩
 rw[show((o.b.toNat:Nat):Int)=o.b by omega] at this
 rw[←this];simp
def La (nx:Nat) (A:List Opn) (z:Int):Prop:= -1≤z∧(∀q∈A.drop nx,q.b≤z)∧(z= -1∨∃q∈A.drop nx,q.b=z)
theorem La.iff {nx:Nat} {A:List Opn} {z:Int} (h:La nx A z) (b:Int):z<b↔0≤b∧∀q∈A.drop nx,q.b<b:=by
 obtain⟨h1,h2,h3⟩:=h
 constructor
 ·intro hb;exact⟨by omega,fun q hq=>by have:=h2 q hq;omega⟩
 rintro⟨a,c⟩
 rcases h3 with e|⟨q,hq,e⟩
 ·omega
 have:=c q hq;omega
theorem La.fst {nx:Nat} {A:List Opn} {z:Int} {o:Opn} (h:La nx A z) (hl:A.length<nx):La nx (A++[o]) z:=by
 unfold La at h⊢
 rw[List.drop_eq_nil_of_le (by simp;omega)]
 rw[List.drop_eq_nil_of_le (by omega)] at h
 exact h
theorem La.snd {nx:Nat} {A:List Opn} {z:Int} {o:Opn} (h:La nx A z) (B:nx≤A.length) (hb:z<o.b):La nx (A++[o]) o.b:=by
 obtain⟨h1,h2,h3⟩:=h
 refine⟨by omega,fun q hq=>?_,Or.inr ⟨o,by rw[List.drop_append_of_le_length B];simp,O⟩⟩
 rw[List.drop_append_of_le_length B] at hq
 rcases List.mem_append.1 hq with h|h
 ·have:=h2 q h;omega
 rw[List.mem_singleton.1 h];omega
theorem Scr.take {nx ny:Nat} {l:List Opn} {i:Nat} {o:Opn} (h:∀j q,j<i→l[j]?=some q→OkO nx ny (l.take j) q) (A:l[i]?=some o) (hk:OkO nx ny (l.take i) o):∀j q,j<i+1→l[j]?=some q→OkO nx ny (l.take j) q:=fun j q hj hq=>by
 rcases xS j i with e|e
 ·exact h j q e hq
 obtain rfl:j=i:=by omega
 rw[A] at hq;cases hq;exact hk
theorem vloop (nx ny:Nat) (l:List Opn) (x:Nmb) (C:x.nodes.length=nx) (hnx:nx≤100000) (hl:l.length≤9223372036854775807) (E:∀o∈l,I64 o.a∧I64 o.b):
  ∃r,fH (fun s=>qW l x s.1 s.2.1 s.2.2.1 s.2.2.2) (-1,0,[],List.replicate ny false)=some r∧((r= .ret false∧¬Scr nx ny l)∨∃m,r= .brk (l.filter (fun o=>decide (0≤o.a)&&decide (0≤o.b)),m)∧Scr nx ny l∧Mk ny l m):=by
 refine oP (fun s=>∃i:Nat,s.2.1=(i:Int)∧i≤l.length∧(∀j q,j<i→l[j]?=some q→OkO nx ny (l.take j) q)∧La nx (l.take i) s.1∧s.2.2.1=(l.take i).filter (fun o=>decide (0≤o.a)&&decide (0≤o.b))∧s.2.2.1.length≤nx∧(i≤nx→s.2.2.1.length≤i)∧Mk ny (l.take i) s.2.2.2) (fun s=>l.length-s.2.1.toNat) _ ?_ _ ⟨0,O,Nat.zero_le _,fun j q h=>by omega,⟨by simp,by simp,Or.inl O⟩,by simp,by simp,by simp,by rw[List.take_zero];exact Mk.nil ny⟩
 rintro⟨z,_,ps,m⟩ ⟨i,rfl,hi,h1,h2,h3,h4,h4',h5⟩
 simp only at h2 h3 h4 h4' h5
 by_cases hlt:i<l.length
 ·obtain⟨o,A⟩:=iV hlt
  have hwo:=E o (vE A)
  unfold I64 at hwo
  have hti:(l.take i).length=i:=by rw[vL];omega
  have hnext:inK .i64 ((i:Int)+1)=some ((i+1:Nat):Int):=by rw[jM (by omega)];rfl
  simp only[qW]
  rw[if_pos (by simp;omega),mM A,bsn]
  by_cases D:((i<nx↔0≤o.a)∧(0≤o.a→o.a=i)∧(o.a<0→o.a= -1)∧ -1≤o.b∧o.b<ny∧(o.a<0→z<o.b))
  ·obtain⟨c1,c2,c3,c4,c5,c6⟩:=D
   rw[if_neg (by
    rw[C,h5.1]
    simp only[Bool.or_eq_true,Bool.and_eq_true,Bool.not_eq_true',decide_eq_true_eq,decide_eq_false_iff_not,beq_eq_false_iff_ne,ne_eq,decide_eq_decide]
    omega)]
   have hok:(0≤o.b→∀q∈l.take i,q.b≠o.b)→OkO nx ny (l.take i) o:=fun F=>⟨fun h=>by rw[hti] at h⊢;exact c2 (c1.1 h),fun h=>by
    rw[hti] at h
    have:o.a<0:=by omega
    exact⟨c3 this,(h2.iff o.b).1 (c6 this)⟩,c4,c5,F⟩
   have hz:La nx (l.take (i+1)) (if o.a<0 then o.b else z):=by
    rw[jF A]
    split
    ·rename_i hh;exact h2.snd (by omega) (c6 hh)
    exact h2.fst (by omega)
   have hj2:((if(decide (o.a<0))=true then some o.b else some z):Option Int)=some (if o.a<0 then o.b else z):=by
    by_cases hh:o.a<0<;>simp[hh]
   rw[hj2,bsn]
   have hfil1:0≤o.a→0≤o.b→ps++[o]=(l.take (i+1)).filter (fun o=>decide (0≤o.a)&&decide (0≤o.b)):=fun a b=>by
    rw[jF A,List.filter_append,←h3];simp[a,b]
   have hfil0:o.a<0∨o.b<0→ps=(l.take (i+1)).filter (fun o=>decide (0≤o.a)&&decide (0≤o.b)):=fun a=>by
    rw[jF A,List.filter_append,←h3,List.filter_cons_of_neg (by simp only[Bool.and_eq_true,decide_eq_true_eq];omega)];simp
   by_cases hb:o.b<0
   ·rw[if_pos (by simpa using hb),bsn]
    simp only
    rw[hnext,bsn]
    refine Or.inl ⟨_,O,⟨i+1,O,by omega,Scr.take h1 A (hok fun h=>by omega),hz,hfil0 (Or.inr hb),h4,fun h=>by have:=h4' (by omega);simp only;omega,?_⟩,by simp;omega⟩
    rw[jF A];exact h5.skip hb
   rw[if_neg (by simpa using hb)]
   obtain⟨y,hy,hyi⟩:=h5.get (o:=o) (by omega) c5
   rw[hy,bsn]
   cases y with
   |true=>
    rw[if_pos rfl,bsn]
    refine Or.inr ⟨_,O,Or.inl ⟨O,fun B=>?_⟩⟩
    obtain⟨q,hq,e⟩:=hyi.1 O
    exact(B i o A).inj (by omega) q hq e
   |false=>
    have hno:∀q∈l.take i,q.b≠o.b:=fun q hq e=>by have:=hyi.2 ⟨q,hq,e⟩;cases this
    rw[if_neg (by simp),bsn]
    by_cases ha:0≤o.a
    ·rw[if_pos (by simpa using ha),H7 (by simp;omega),bsn,bsn]
     simp only
     rw[hnext,bsn]
     refine Or.inl ⟨_,O,⟨i+1,O,by omega,Scr.take h1 A (hok fun _=>hno),hz,hfil1 ha (by omega),?_,fun h=>?_,?_⟩,by simp;omega⟩
     ·have:=h4' (by omega);simp only[uR,List.length_singleton];omega
     ·have:=h4' (by omega);simp only[uR,List.length_singleton];omega
     rw[jF A];exact h5.mark (by omega) c5
    rw[if_neg (by simpa using ha),bsn]
    simp only
    rw[hnext,bsn]
    refine Or.inl ⟨_,O,⟨i+1,O,by omega,Scr.take h1 A (hok fun _=>hno),hz,hfil0 (Or.inl (by omega)),h4,fun h=>by omega,?_⟩,by simp;omega⟩
    rw[jF A];exact h5.mark (by omega) c5
  rw[if_pos (by
   rw[C,h5.1]
   simp only[Bool.or_eq_true,Bool.and_eq_true,Bool.not_eq_true',decide_eq_true_eq,decide_eq_false_iff_not,beq_eq_false_iff_ne,ne_eq,decide_eq_decide]
   omega),bsn]
  refine Or.inr ⟨_,O,Or.inl ⟨O,fun B=>D ?_⟩⟩
  have hk:=B i o A
  have k1:=hk.fst
  have k2:=hk.snd
  rw[hti] at k1 k2
  have k3:=hk.lo
  have k4:=hk.hi
  have k5:=h2.iff o.b
  by_cases hin:i<nx
  ·have:=k1 hin
   exact⟨by omega,fun _=>this,by omega,k3,k4,by omega⟩
  obtain⟨e1,e2⟩:=k2 (by omega)
  exact⟨by omega,by omega,fun _=>e1,k3,k4,fun _=>k5.2 e2⟩
 simp only[qW]
 rw[if_neg (by simp;omega)]
 rw[wA (by omega)] at h3 h5
 exact Or.inr ⟨_,O,Or.inr ⟨m,by rw[h3],fun j q hq=>h1 j q (by have:=(uL.1 hq).1;omega) hq,h5⟩⟩
def szp (P:List (Node×Int×Nat)) (i:Nat):Nat:=match P[i]? with
 |none=>0
 |some x=>iI x.1
theorem szp_le (n:Node) (i:Nat) (h:i<iI n):∃m q,(prN n 0 (-1))[i]?=some (m,q,i)∧szp (prN n 0 (-1)) i=iI m∧i+iI m≤iI n:=by
 obtain⟨⟨m,q,k⟩,A⟩:=iV (l:=prN n 0 (-1)) (k:=i) (by rw[pr_len.1];exact h)
 obtain⟨a1,a2,a3⟩:=pr_at.1 n 0 (-1) i m q k A
 rw[Nat.zero_add] at a1 a2
 subst a1
 exact⟨m,q,A,by unfold szp;rw[A],a2⟩
theorem above_m (n:Node) (hn:iI n≤100000) (i k:Int) (h0:0≤i) (h1:i<iI n):gV (nmb (prN n 0 (-1))) i k=some (decide (i<k∧k<i+szp (prN n 0 (-1)) i.toNat)):=by
 obtain⟨m,q,a1,a2,a3⟩:=szp_le n i.toNat (by omega)
 unfold gV
 by_cases h:i<k
 ·rw[if_pos (by simpa using h),idx_of h0 (a:=(iI m:Int)) (by simp[nmb,a1]),bsn,jM (by omega),bsn,bsn,a2]
  congr 1
  simp[h]
 rw[if_neg (by simpa using h),bsn]
 congr 1
 simp[h]
theorem scr_pw {nx ny:Nat} {l:List Opn} (h:Scr nx ny l):l.Pairwise fun q o=>(0≤q.a→0≤o.a→q.a<o.a)∧(0≤o.b→q.b≠o.b):=by
 rw[xF]
 intro i j hi A hij
 have h1:=h i l[i] (vA hi)
 have h2:=h j l[j] (vA A)
 have t1:(l.take i).length=i:=by rw[vL];omega
 have t2:(l.take j).length=j:=by rw[vL];omega
 refine⟨fun a b=>?_,fun b=>h2.inj b _ (List.mem_take_iff_getElem.2 ⟨i,by omega,O⟩)⟩
 have f1:=h1.fst;have s1:=h1.snd;have f2:=h2.fst;have s2:=h2.snd
 rw[t1] at f1 s1;rw[t2] at f2 s2
 rcases xS i nx with e1|e1
 ·have:=f1 e1
  rcases xS j nx with e2|e2
  ·have:=f2 e2;omega
  have:=(s2 e2).1;omega
 have:=(s1 e1).1;omega
theorem scr_rng {nx ny:Nat} {l:List Opn} (h:Scr nx ny l):∀o∈l,o.a<nx∧o.b<ny:=fun o A=>by
 obtain⟨i,hi,rfl⟩:=List.mem_iff_getElem.1 A
 have h1:=h i l[i] (vA hi)
 have t1:(l.take i).length=i:=by rw[vL];omega
 have f1:=h1.fst;have s1:=h1.snd
 rw[t1] at f1 s1
 refine⟨?_,h1.hi⟩
 rcases xS i nx with e1|e1
 ·have:=f1 e1;omega
 have:=(s1 e1).1;omega
def Gd (sx sy:Nat→Nat) (q o:Opn):Prop:=q.b<o.b∧(o.a<q.a+sx q.a.toNat↔o.b<q.b+sy q.b.toNat)
theorem ploop (a b:Node) (ha:iI a≤100000) (hb:iI b≤100000) (ps:List Opn) (m:List Bool) (hl:ps.length≤100000)
  (hr:∀o∈ps,0≤o.a∧o.a<iI a∧0≤o.b∧o.b<iI b) (C:ps.Pairwise fun q o=>q.a<o.a∧q.b≠o.b):
  (¬ps.Pairwise (Gd (szp (prN a 0 (-1))) (szp (prN b 0 (-1))))∧fH (fun s=>mO (nmb (prN a 0 (-1))) (nmb (prN b 0 (-1))) (ps,m) s) 0=some (.ret false))∨
  (ps.Pairwise (Gd (szp (prN a 0 (-1))) (szp (prN b 0 (-1))))∧fH (fun s=>mO (nmb (prN a 0 (-1))) (nmb (prN b 0 (-1))) (ps,m) s) 0=some (.brk ())):=by
 generalize hsx:szp (prN a 0 (-1))=sx
 generalize hsy:szp (prN b 0 (-1))=sy
 have hp':=xF.1 C
 have main:=up_loop (body:=fun s=>mO (nmb (prN a 0 (-1))) (nmb (prN b 0 (-1))) (ps,m) s) (fun k=>∃j q o,j<k∧ps[j]?=some q∧ps[k]?=some o∧¬Gd sx sy q o) (.ret false) (.brk ()) ps.length ps.length 0 (by omega) (fun k _ hk=>by
  obtain⟨o,B⟩:=iV hk
  have hro:=hr o (vE B)
  simp only[mO]
  rw[if_pos (by simp;omega),mM B,bsn,sub_ok (by omega) (by omega) (by omega),bsn]
  have hx10:(ps.take (k:Int).toNat).drop (0:Int).toNat=ps.take k:=by simp
  rw[hx10]
  have inner:=up_loop (body:=fun s=>qX (nmb (prN a 0 (-1))) (nmb (prN b 0 (-1))) o (ps.take k) s) (fun j=>∃q,ps[j]?=some q∧¬Gd sx sy q o) (.ret false) (.brk ()) k k 0 (by omega) (fun j _ A=>by
   obtain⟨q,hq⟩:=iV (show j<ps.length by omega)
   have hrq:=hr q (vE hq)
   obtain⟨hab,hne⟩:q.a<o.a∧q.b≠o.b:=by
    have:=hp' j k (by omega) hk A
    rwa [(uL.1 hq).2,(uL.1 B).2] at this
   have hq':(ps.take k)[j]?=some q:=by rw[wN,if_pos A];exact hq
   simp only[qX]
   rw[if_pos (by simp;omega),mM hq',bsn,above_m b hb o.b q.b (by omega) (by omega),above_m b hb q.b o.b (by omega) (by omega),above_m a ha q.a o.a (by omega) (by omega),hsx,hsy,bsn]
   have e1:((if(decide (o.b<q.b))=true then some (!decide (o.b<q.b∧q.b<o.b+sy o.b.toNat)) else some false):Option Bool)=some (decide (o.b<q.b∧¬q.b<o.b+sy o.b.toNat)):=by
    by_cases h:o.b<q.b
    ·rw[if_pos (decide_eq_true h)];congr 1
     rw[Bool.eq_iff_iff];simp only[Bool.not_eq_true',decide_eq_false_iff_not,decide_eq_true_eq];omega
    rw[if_neg (by simpa using h),decide_eq_false (by omega)]
   rw[e1,bsn,bsn,bsn]
   have e2:((if(decide (o.b<q.b∧¬q.b<o.b+sy o.b.toNat))=true then some true else some (!((decide (q.a<o.a∧o.a<q.a+sx q.a.toNat))==(decide (q.b<o.b∧o.b<q.b+sy q.b.toNat))))):Option Bool)=some (decide ((o.b<q.b∧¬q.b<o.b+sy o.b.toNat)∨¬((q.a<o.a∧o.a<q.a+sx q.a.toNat)↔(q.b<o.b∧o.b<q.b+sy q.b.toNat)))):=by
    by_cases h:(o.b<q.b∧¬q.b<o.b+sy o.b.toNat)
    ·rw[if_pos (decide_eq_true h),decide_eq_true (Or.inl h)]
    rw[if_neg (by simpa using h)]
    congr 1
    rw[Bool.eq_iff_iff]
    simp only[Bool.not_eq_true',beq_eq_false_iff_ne,ne_eq,decide_eq_decide,decide_eq_true_eq]
    exact⟨Or.inr,fun g=>g.resolve_left h⟩
   rw[e2,bsn,bsn]
   have e3:((if(decide ((o.b<q.b∧¬q.b<o.b+sy o.b.toNat)∨¬((q.a<o.a∧o.a<q.a+sx q.a.toNat)↔(q.b<o.b∧o.b<q.b+sy q.b.toNat))))=true then some true else some (decide (o.b<q.b∧q.b<o.b+sy o.b.toNat))):Option Bool)=some (decide (¬(q.b<o.b∧(o.a<q.a+sx q.a.toNat↔o.b<q.b+sy q.b.toNat)))):=by
    by_cases h:(o.b<q.b∧¬q.b<o.b+sy o.b.toNat)∨¬((q.a<o.a∧o.a<q.a+sx q.a.toNat)↔(q.b<o.b∧o.b<q.b+sy q.b.toNat))
    ·rw[if_pos (decide_eq_true h)]
     exact congrArg some (decide_eq_true (by omega)).symm
    rw[if_neg (by rw[decide_eq_true_eq];exact h)]
    congr 1
    rw[Bool.eq_iff_iff,decide_eq_true_eq,decide_eq_true_eq]
    omega
   rw[e3,bsn]
   by_cases hg:Gd sx sy q o
   ·rw[if_neg (by rw[decide_eq_true_eq];exact fun h=>h hg),jM (by omega),bsn]
    exact Or.inr ⟨fun⟨q',hq2,h⟩=>by rw[hq] at hq2;cases hq2;exact h hg,rfl⟩
   ·rw[if_pos (by rw[decide_eq_true_eq];exact hg)]
    exact Or.inl ⟨⟨q,hq,hg⟩,O⟩) (by
   simp only[qX]
   rw[if_neg (by simp;omega)])
  rcases inner with⟨⟨j,_,A,q,hq,hg⟩,e⟩|⟨hall,e⟩
  ·refine Or.inl ⟨⟨j,q,o,A,hq,B,hg⟩,?_⟩
   rw[show((0:Nat):Int)=0 from rfl] at e
   rw[e,bsn]
  ·refine Or.inr ⟨fun⟨j,q,o',A,hq,ho',hg⟩=>by rw[B] at ho';cases ho';exact hall j (Nat.zero_le _) A ⟨q,hq,hg⟩,?_⟩
   rw[show((0:Nat):Int)=0 from rfl] at e
   rw[e,bsn]
   simp only
   rw[jM (by omega)];rfl) (by
  simp only[mO]
  rw[if_neg (by simp)])
 have iff:ps.Pairwise (Gd sx sy)↔∀k,0≤k→k<ps.length→¬ ∃j q o,j<k∧ps[j]?=some q∧ps[k]?=some o∧¬Gd sx sy q o:=by
  rw[xF]
  constructor
  ·rintro h k _ hk ⟨j,q,o,A,hq,B,hg⟩
   have:=h j k (by omega) hk A
   rw[(uL.1 hq).2,(uL.1 B).2] at this
   exact hg this
  intro h i j hi A hij
  exact Classical.byContradiction fun hg=>h j (Nat.zero_le _) A ⟨i,_,_,hij,vA hi,vA A,hg⟩
 rcases main with⟨⟨k,h0,hk,h⟩,e⟩|⟨h,e⟩
 ·exact Or.inl ⟨fun hh=>iff.1 hh k h0 hk h,e⟩
 exact Or.inr ⟨iff.2 h,e⟩
theorem contains_m (m:List Bool) (h:m.length≤100000):jV m false=some (decide (false∈m)):=by
 unfold jV nP
 rcases scan_loop (body:=fun s=>jJ m false s) m (fun x=> !x) (fun k _=> .ret (k:Int)) (.brk ()) (fun k x A=>by
  have:=(uL.1 A).1
  simp only[jJ]
  rw[if_pos (by simp;omega),mM A,bsn,jM (by omega),bsn]
  cases x<;>rfl) (by
  simp only[jJ]
  rw[if_neg (by simp)]) with⟨k,x,A,hp,_,_,_,e⟩|⟨hall,_,_,e⟩
 ·rw[e,bsn,bsn]
  congr 1
  rw[decide_eq_true (by omega),decide_eq_true]
  have:x=false:=by simpa using hp
  exact this▸vE A
 rw[e,bsn,bsn]
 congr 1
 rw[decide_eq_false (by omega),decide_eq_false]
 intro B
 have:=hall false B
 simp at this
theorem Mk.all {ny:Nat} {l:List Opn} {m:List Bool} (h:Mk ny l m):false∉m↔∀b:Nat,b<ny→∃q∈l,q.b=b:=by
 constructor
 ·intro A b hb
  rw[←h.2 b hb]
  obtain⟨x,B⟩:=iV (show b<m.length by rw[h.1];exact hb)
  cases x with
  |true=>exact B
  |false=>exact absurd (vE B) A
 intro hs A
 obtain⟨b,hb,e⟩:=List.mem_iff_getElem.1 A
 have:=(h.2 b (by rw[←h.1];exact hb)).2 (hs b (by rw[←h.1];exact hb))
 rw[vA hb,e] at this
 cases this
def Va (a b:Node) (l:List Opn):Prop:=Vd (iI a) (iI b) (szp (prN a 0 (-1))) (szp (prN b 0 (-1))) l
theorem pr_pairs {nx ny:Nat} {sx sy:Nat→Nat} {l:List Opn}:(l.filter (fun o=>decide (0≤o.a)&&decide (0≤o.b))).Pairwise (Gd sx sy)↔l.Pairwise (PrO sx sy):=by
 rw[List.pairwise_filter]
 refine⟨fun h=>h.imp fun{q o} g h1 h2 h3 h4=>g (by simp[h1,h2]) (by simp[h3,h4]),fun h=>h.imp fun{q o} g h1 h2=>?_⟩
 simp only[Bool.and_eq_true,decide_eq_true_eq] at h1 h2
 exact g h1.1 h1.2 h2.1 h2.2
open Classical in
theorem valid_m (a b:Node) (ha:iI a≤100000) (hb:iI b≤100000) (l:List Opn) (E:l.length≤9223372036854775807) (C:∀o∈l,I64 o.a∧I64 o.b):mG a b l=some (decide (Va a b l)):=by
 unfold mG
 have na:(nmb (prN a 0 (-1))).nodes.length=iI a:=by unfold nmb;simp[pr_len.1]
 have nb:(nmb (prN b 0 (-1))).nodes.length=iI b:=by unfold nmb;simp[pr_len.1]
 rw[aG3 a ha,bsn,aG3 b hb,bsn,na,nb]
 by_cases h0:l.length<iI a
 ·rw[if_pos (by simpa using h0),decide_eq_false fun h=>by have:=h.len;omega]
 rw[if_neg (by simpa using h0),mkc_ok (by omega),bsn,xD]
 obtain⟨r,hr,D⟩:=vloop (iI a) (iI b) l (nmb (prN a 0 (-1))) na ha E C
 rw[hr,bsn]
 rcases D with⟨rfl,hn⟩|⟨m,rfl,B,hM⟩
 ·simp only
  rw[decide_eq_false fun h=>hn h.scr]
 simp only
 have hrng:=scr_rng B
 have hfl:(l.filter (fun o=>decide (0≤o.a)&&decide (0≤o.b))).length≤100000:=by
  have hpw:(l.filter (fun o=>decide (0≤o.a)&&decide (0≤o.b))).Pairwise fun q o=>q.a<o.a:=by
   rw[List.pairwise_filter]
   exact(scr_pw B).imp fun{q o} g h1 h2=>by
    simp only[Bool.and_eq_true,decide_eq_true_eq] at h1 h2
    exact g.1 h1.1 h2.1
  generalize hF:l.filter (fun o=>decide (0≤o.a)&&decide (0≤o.b))=F at hpw
  have hFr:∀o∈F,0≤o.a∧o.a<iI a:=fun o A=>by
   rw[←hF,List.mem_filter] at A
   simp only[Bool.and_eq_true,decide_eq_true_eq] at A
   exact⟨A.2.1,(hrng o A.1).1⟩
  have key:∀(k:Nat) (o:Opn),F[k]?=some o→(k:Int)≤o.a:=by
   intro k
   induction k with
   |zero=>intro o A;have:=(hFr o (vE A)).1;omega
   |succ k ih=>
    intro o A
    have hk:=(uL.1 A).1
    have h1:=ih F[k] (vA (by omega))
    have h2:=xF.1 hpw k (k+1) (by omega) hk (by omega)
    rw[(uL.1 A).2] at h2
    omega
  apply Classical.byContradiction
  intro hc
  obtain⟨o,A⟩:=iV (show 100000<F.length by omega)
  have h1:=key _ o A
  have h2:=(hFr o (vE A)).2
  omega
 have hfr:∀o∈l.filter (fun o=>decide (0≤o.a)&&decide (0≤o.b)),0≤o.a∧o.a<iI a∧0≤o.b∧o.b<iI b:=fun o A=>by
  rw[List.mem_filter] at A
  simp only[Bool.and_eq_true,decide_eq_true_eq] at A
  exact⟨A.2.1,(hrng o A.1).1,A.2.2,(hrng o A.1).2⟩
 have hfp:(l.filter (fun o=>decide (0≤o.a)&&decide (0≤o.b))).Pairwise fun q o=>q.a<o.a∧q.b≠o.b:=by
  rw[List.pairwise_filter]
  exact(scr_pw B).imp fun{q o} g h1 h2=>by
   simp only[Bool.and_eq_true,decide_eq_true_eq] at h1 h2
   exact⟨g.1 h1.1 h2.1,g.2 h2.2⟩
 rcases ploop a b ha hb _ m hfl hfr hfp with⟨hn,e⟩|⟨hy,e⟩
 ·rw[e,bsn]
  simp only
  rw[decide_eq_false fun h=>hn (pr_pairs (nx:=iI a) (ny:=iI b).2 h.prs)]
 rw[e,bsn]
 simp only
 rw[contains_m m (by rw[hM.1];exact hb),bsn]
 congr 1
 rw[Bool.eq_iff_iff]
 simp only[Bool.not_eq_true',decide_eq_false_iff_not,decide_eq_true_eq]
 rw[hM.all]
 exact⟨fun h=>⟨B,by omega,h,(pr_pairs (nx:=iI a) (ny:=iI b)).1 hy⟩,fun h=>h.sur⟩
theorem scr_len {nx ny:Nat} {l:List Opn} (h:Scr nx ny l):l.length≤nx+ny:=by
 have key:∀(k:Nat) (o:Opn),l[nx+k]?=some o→(k:Int)≤o.b:=by
  intro k
  induction k with
  |zero=>
   intro o A
   have hk:=(uL.1 A).1
   have:=((h _ o A).snd (by rw[vL];omega)).2.1
   omega
  |succ k ih=>
   intro o A
   have hk:=(uL.1 A).1
   obtain⟨q,hq⟩:=iV (show nx+k<l.length by omega)
   have h1:=ih q hq
   have h2:=((h _ o A).snd (by rw[vL];omega)).2.2 q (vE (i:=k) (by rw[xT,wN,if_pos (by omega)];exact hq))
   omega
 apply Classical.byContradiction
 intro hc
 obtain⟨o,A⟩:=iV (show nx+ny<l.length by omega)
 have:=key ny o A
 have:=(h _ o A).hi
 omega
end Go.Proofs.YtopnldfjcciieaaGreat
