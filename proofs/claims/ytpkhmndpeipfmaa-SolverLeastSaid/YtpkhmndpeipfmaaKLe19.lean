/- The code goes as its model: assessor/assessorref27.Follows, assessor/assessorref27.IsProof, assessor/assessorref27.With, assessor/assessorref27.Check, assessor/ -/
import Derived.Test.YtpkhmndpeipfmaaKLeT
import Derived.Test.YtpkhmndpeipfmaaKLe6
import Derived.Test.YtpkhmndpeipfmaaKLe18
set_option linter.unusedVariables false
set_option linter.unusedSimpArgs false
set_option maxRecDepth 100000
set_option maxHeartbeats 4000000
namespace Go.Proofs.Ytpkhmndpeipfmaa
open Go.RowKit
theorem J3 {Z:World} {ρ:PH} {L:List bZ} {w:World} (p0:Formula) (aF:Value) (bH:bJ ρ aF p0.clauses) (p1:(List Int)) (vp1:Value) (hp1:bJ ρ vp1 p1) (hp:Hp Z ρ (L) w) (r:Bool) (hm:mM p0 p1=some r):
  Calls Try.prog 59 #[(.agg #[(Iv p0.vars),aF]),vp1] w (Ret fun v w'=>v=(.bool r)∧Hp Z ρ (L) w'):=by
 refine enter (N:=32) Try.func59 rfl rfl [(0,(.agg #[(Iv p0.vars),aF])),(1,vp1)] rfl (bT ⟨rfl,rfl,trivial⟩) fun a hE=>?_
 unfold mM at hm
 refine aG (aB ?_)
 refine qH (wk0 rfl) rfl rfl hE hp rfl (v:=(.agg #[(Iv p0.vars),aF])) rfl ?_
 intro a w b1 hE hp
 have hp:=r1 hp
 refine S hE 1 rfl fun a hE=>aC (aG ?_)
 refine aB ?_
 refine jJ (wk0 rfl) rfl rfl hE hp rfl [] trivial [] 3 (fun w=>by simp[Instr.buildSlice,Instr.fill,Value.cells,go_sem]) ?_
 intro a w b2 hE hp
 have hp:=r2 hp
 refine S hE 1 rfl fun a hE=>aC (aG ?_)
 refine aG (aB ?_)
 refine S hE 1 rfl fun a hE=>aC ?_
 have hp:=(hp.get 0 rfl).imp (pR (l:=(([]:List Int):List Int)) (n:=0) rfl (by decide) rfl)
 have hp:=r2 hp
 obtain⟨b3,hc1,hm⟩:=bnd hm
 refine dI (fun a w=>∃(w2:Value),Env 32 [(2,(Pv b1 0)),(5,w2)] a∧Hp Z ρ (aA 3 w2 b3::Pt b1 (.cells #[(Iv p0.vars),aF] 24 (0,0))::L) w) ?_ ?_
 ·refine eX hc1 (fun s a w=>∃(w2:Value),Env 32 [(1,vp1),(2,(Pv b1 0)),(5,w2),(6,(Iv s.1))] a∧Hp Z ρ (aA 3 w2 s.2::Pt b1 (.cells #[(Iv p0.vars),aF] 24 (0,0))::L) w) ?_ ?_
  ·exact⟨_,hE.cut ⟨rfl,rfl,rfl,rfl,trivial⟩,hp⟩
  rintro⟨aW,bU⟩ st a w ⟨w2,hE,hp⟩ hl1
  dsimp only at hE hp hl1
  unfold jV at hl1
  refine aG (aG ?_)
  refine aB (S hE 2 rfl fun a hE=>?_)
  refine V hE hp rfl (dD rfl hE rfl (bJ.len hp1 aY)) fun a hE=>S hE 1 rfl fun a hE=>aC ?_
  refine dK hE rfl (fun hc2=>?_) (fun hc2=>?_)
  ·replace hl1:=(it hc2).symm.trans hl1
   refine bQ (aG ?_)
   refine dG (aB ?_)
   refine S hE 3 rfl fun a hE=>?_
   obtain⟨x1,ex1,hl1⟩:=bnd hl1
   obtain⟨b4,b4o,b4c,b4r,b4k,b4f⟩:=bJ.at hp1 aY ex1
   obtain rfl:b4c=Enc.enc x1:=b4k
   have b4f:AtP ρ b4 b4o [(Iv x1)]:=b4f
   refine V hE hp rfl (aS rfl hE rfl rfl b4r) fun a hE=>V hE hp rfl (aX rfl hE rfl (fun w hw=>bF bG (b4f.c 0 rfl w hw))) fun a hE=>?_
   obtain⟨x2,ex2,hl1⟩:=bnd hl1
   refine V hE hp rfl (pV rfl hE rfl (bD ex2)) fun a hE=>?_
   refine jJ (wk0 rfl) rfl rfl hE hp rfl [(0,(Iv x2))] ⟨⟨rfl,rfl⟩,trivial⟩ [(Iv x2)] 3 (fun w=>by simp[Instr.buildSlice,Instr.fill,Value.cells,go_sem]) ?_
   intro a w b5 hE hp
   have hp:=r3 hp
   obtain⟨x3,ex3,hl1⟩:=bnd hl1
   refine nH (wk0 rfl) rfl rfl hE hp rfl aY rfl rfl 1 rfl rfl (l2:=[x2]) rfl (fun j u hj=>by have:=Hp.cN 0 rfl 0 _ (bW rfl) w hp j u hj;simpa using this) ex3 ?_
   intro v1 a w hE hp
   have hp:=r3 hp
   refine S hE 1 rfl fun a hE=>aC ?_
   have hE:=hE.cut (E':=[(1,vp1),(2,(Pv b1 0)),(5,v1),(6,(Iv aW))]) ⟨rfl,rfl,rfl,rfl,trivial⟩
   refine aB (S hE 1 rfl fun a hE=>?_)
   obtain⟨x4,ex4,hl1⟩:=bnd hl1
   refine V hE hp rfl (dH rfl hE rfl rfl (bD ex4)) fun a hE=>S hE 1 rfl fun a hE=>aC ?_
   exact⟨_,(oj hl1).symm,_,hE.cut ⟨rfl,rfl,rfl,rfl,trivial⟩,(hp.drop)⟩
  replace hl1:=(ie hc2).symm.trans hl1
  refine dR ?_
  refine⟨_,(oj hl1).symm,fun hbb=>?_⟩
  subst hbb
  exact⟨_,hE.cut ⟨rfl,rfl,trivial⟩,hp⟩
 rintro a w ⟨w2,hE,hp⟩
 refine aG (aB ?_)
 refine V hE hp rfl (aX rfl hE rfl (fun w hw=>eY (cs:=[(Iv p0.vars),aF]) fP (Hp.cN 1 rfl 0 _ (bW rfl) w hw))) fun a hE=>S hE 1 rfl fun a hE=>?_
 obtain⟨k1,k1a,k1d,k1h⟩:=(hp.get 0 rfl).lend
 obtain⟨x5,ex5,hm⟩:=bnd hm
 refine Cl hE rfl rfl ent69 (I8 p0 aF (bJ.mono bH (PH.le_un _ _)) b3 w2 (aA.ro k1d k1a) k1h x5 ex5) ⟨rfl,rfl,trivial⟩ fun v a w hR hE=>?_
 obtain⟨vr1,rfl,hp⟩:=hR
 have hp:=Hp.back k1a k1d hp
 have hp:=r3 hp
 refine S hE 5 rfl fun a hE=>aC (aG ?_)
 refine aB (S hE 3 rfl fun a hE=>?_)
 refine aC (dC ?_)
 obtain rfl:=oj hm
 exact gK hE rfl rfl ⟨_,rfl,rfl,(((((hp.get 2 rfl).drop).get 1 rfl).drop).drop)⟩
theorem J4 {Z:World} {ρ:PH} {L:List bZ} {w:World} (p0:(List (List Int))) (vp0:Value) (hp0:bJ ρ vp0 p0) (hp:Hp Z ρ (L) w) (r:Bool) (hm:mO p0=some r):
  Calls Try.prog 58 #[vp0] w (Ret fun v w'=>v=(.bool r)∧Hp Z ρ (L) w'):=by
 refine enter (N:=26) Try.func58 rfl rfl [(0,vp0)] rfl (bT ⟨rfl,trivial⟩) fun a hE=>?_
 unfold mO at hm
 refine aG (aB ?_)
 refine S hE 1 rfl fun a hE=>aC (aG ?_)
 refine aB (S hE 1 rfl fun a hE=>?_)
 refine aC (aG ?_)
 refine aG (aB ?_)
 refine S hE 1 rfl fun a hE=>aC ?_
 obtain⟨b1,hc1,hm⟩:=bnd hm
 refine dI (fun a w=>∃s:Int,b1= .brk s∧(Env 26 [(3,(Iv s))] a∧Hp Z ρ (L) w)) ?_ ?_
 ·refine eX hc1 (fun s a w=>Env 26 [(0,vp0),(3,(Iv s.1)),(4,(Iv s.2))] a∧Hp Z ρ (L) w) ?_ ?_
  ·exact⟨hE.cut ⟨rfl,rfl,rfl,trivial⟩,hp⟩
  rintro⟨aW,bU⟩ st a w ⟨hE,hp⟩ hl1
  dsimp only at hE hp hl1
  unfold jW at hl1
  refine aG (aG ?_)
  refine aB (S hE 2 rfl fun a hE=>?_)
  refine V hE hp rfl (dD rfl hE rfl (bJ.len hp0 gY)) fun a hE=>S hE 1 rfl fun a hE=>aC ?_
  refine dK hE rfl (fun hc2=>?_) (fun hc2=>?_)
  ·replace hl1:=(it hc2).symm.trans hl1
   refine bQ (aG ?_)
   refine dG (aG ?_)
   refine aG (aB ?_)
   refine S hE 2 rfl fun a hE=>?_
   obtain⟨x1,ex1,hl1⟩:=bnd hl1
   obtain⟨b2,b2o,b2c,b2r,b2k,b2f⟩:=bJ.at hp0 gY ex1
   obtain⟨vb2,rfl,hb2⟩:=b2k
   have b2f:AtP ρ b2 b2o [vb2]:=b2f
   refine V hE hp rfl (aS rfl hE rfl rfl b2r) fun a hE=>V hE hp rfl (aX rfl hE rfl (fun w hw=>bF bK (b2f.c 0 rfl w hw))) fun a hE=>?_
   obtain⟨x2,ex2,hl1⟩:=bnd hl1
   refine Cl hE rfl rfl ent32 (oP x1 vb2 hb2 65536 hp x2 ex2) ⟨rfl,rfl,trivial⟩ fun v a w hR hE=>?_
   obtain⟨rfl,hp⟩:=hR
   have hp:=r0 hp
   refine S hE 1 rfl fun a hE=>aC ?_
   refine dK hE rfl (fun hc3=>?_) (fun hc3=>?_)
   ·replace hl1:=(it hc3).symm.trans hl1
    refine aG (aB ?_)
    refine S hE 1 rfl fun a hE=>aC (dC ?_)
    refine⟨_,(oj hl1).symm,fun hb=>?_⟩
    subst hb
    obtain rfl:=oj hm
    exact gK hE rfl rfl ⟨_,rfl,rfl,hp⟩
   replace hl1:=(ie hc3).symm.trans hl1
   refine bQ (aB ?_)
   refine S hE 3 rfl fun a hE=>?_
   obtain⟨x3,ex3,hl1⟩:=bnd hl1
   obtain⟨b3,b3o,b3c,b3r,b3k,b3f⟩:=bJ.at hp0 gY ex3
   obtain⟨vb3,rfl,hb3⟩:=b3k
   have b3f:AtP ρ b3 b3o [vb3]:=b3f
   refine V hE hp rfl (aS rfl hE rfl rfl b3r) fun a hE=>V hE hp rfl (aX rfl hE rfl (fun w hw=>bF bK (b3f.c 0 rfl w hw))) fun a hE=>V hE hp rfl (dD rfl hE rfl (bJ.len hb3 aY)) fun a hE=>?_
   obtain⟨x4,ex4,hl1⟩:=bnd hl1
   refine V hE hp rfl (dH rfl hE rfl rfl (bD ex4)) fun a hE=>S hE 1 rfl fun a hE=>aC (aB ?_)
   refine S hE 1 rfl fun a hE=>?_
   obtain⟨x5,ex5,hl1⟩:=bnd hl1
   refine V hE hp rfl (dH rfl hE rfl rfl (bD ex5)) fun a hE=>S hE 1 rfl fun a hE=>aC ?_
   have hE:=hE.cut (E':=[(0,vp0),(3,(Iv x4)),(4,(Iv x5))]) ⟨rfl,rfl,rfl,trivial⟩
   exact⟨_,(oj hl1).symm,hE.cut ⟨rfl,rfl,rfl,trivial⟩,hp⟩
  replace hl1:=(ie hc2).symm.trans hl1
  refine dR ?_
  refine⟨_,(oj hl1).symm,fun hbb=>?_⟩
  exact⟨_,hbb.symm,hE.cut ⟨rfl,trivial⟩,hp⟩
 rintro a w ⟨b1s,rfl,hE,hp⟩
 dsimp only at hm
 refine aG (aB ?_)
 refine S hE 3 rfl fun a hE=>aC (dC ?_)
 obtain rfl:=oj hm
 exact gK hE rfl rfl ⟨_,rfl,rfl,hp⟩
theorem xU {Z:World} {ρ:PH} {L:List bZ} {w:World} (p0:Formula) (aF:Value) (bH:bJ ρ aF p0.clauses) (p1:(List Int)) (vp1:Value) (hp1:bJ ρ vp1 p1) (hp:Hp Z ρ (L) w) (r:Formula) (hm:jD p0 p1=some r):
  Calls Try.prog 23 #[(.agg #[(Iv p0.vars),aF]),vp1] w (Ret fun v w'=>∃(ρ':PH) (yI:Value),ρ.le ρ'∧v=(.agg #[(Iv r.vars),yI])∧bJ ρ' yI r.clauses∧Hp Z ρ' (L) w'):=by
 refine enter (N:=19) Try.func23 rfl rfl [(0,(.agg #[(Iv p0.vars),aF])),(1,vp1)] rfl (bT ⟨rfl,rfl,trivial⟩) fun a hE=>?_
 unfold jD at hm
 refine aG (aB ?_)
 refine qH (wk0 rfl) rfl rfl hE hp rfl (v:=(.agg #[(Iv p0.vars),aF])) rfl ?_
 intro a w b1 hE hp
 have hp:=r1 hp
 refine sQ (wk0 rfl) rfl rfl hE hp rfl [(Iv 0),N0] (fun w=>by simp[Instr.alloc,go_sem]<;>rfl) ?_
 intro a w b2 hE hp
 have hp:=r2 hp
 refine aC (aG ?_)
 refine aB (V hE hp rfl (xf hE lI rfl rfl) fun a hE=>?_)
 refine V hE hp rfl (xl hE kD 1 rfl rfl rfl rfl) fun a hE=>V hE hp rfl (dD rfl hE rfl (bJ.len bH gY)) fun a hE=>S hE 1 rfl fun a hE=>aC (aG ?_)
 refine aB (V hE hp rfl (xf hE lI rfl rfl) fun a hE=>?_)
 refine V hE hp rfl (xl hE kD 1 rfl rfl rfl rfl) fun a hE=>S hE 2 rfl fun a hE=>?_
 obtain⟨v1,v1r,f1⟩:=bJ.full bH gY .i64 .i64
 refine V hE hp rfl (v:=v1) (ex_sl3 rfl hE rfl rfl rfl v1r) fun a hE=>S hE 1 rfl fun a hE=>?_
 refine jJ (wk0 rfl) rfl rfl hE hp rfl [(0,vp1)] ⟨⟨rfl,rfl⟩,trivial⟩ [vp1] 25 (fun w=>by have hc0:=bJ.cells hp1;simp only[Value.cells] at hc0;simp[Instr.buildSlice,Instr.fill,Value.cells,hc0,go_sem]) ?_
 intro a w b3 hE hp
 have hp:=r3 hp
 obtain⟨x1,ex1,hm⟩:=bnd hm
 have hR3:kE ρ ([p1]:List (List Int)) [vp1]:=⟨_,_,rfl,⟨_,rfl,(hp1)⟩,rfl⟩
 refine s_appC (wk0 rfl) rfl rfl hE hp rfl gY rfl rfl f1 rfl (l2:=[p1]) (ys:=[vp1]) rfl rfl hR3 (fun j u hj=>by have:=Hp.cN 0 rfl 0 _ (bW rfl) w hp j u hj;simpa using this) ex1 ?_
 intro v2 xs1 a w hR2 hE hp
 have hR1:kE ρ x1 (xs1++[vp1]):=(wG ex1).2▸kE.app hR2 hR3
 have hp:=r4 hp
 refine V hE hp rfl (xf hE lI rfl rfl) fun a hE=>?_
 refine qX (wk0 rfl) rfl hE hp rfl rfl rfl 3 rfl kD.size_ (xR.cells hp 0 rfl) (xR.one hp 0 rfl) rfl [(Iv p0.vars),v2] rfl ?_
 intro w hp
 have hp:=r4 hp
 refine aC (aG ?_)
 refine aB (V hE hp rfl (aX rfl hE rfl (fun w hw=>eY (cs:=[(Iv p0.vars),v2]) fP (Hp.cN 3 rfl 0 _ (bW rfl) w hw))) fun a hE=>?_)
 refine dW (wk0 rfl) rfl hE hp rfl rfl rfl 2 rfl fP.size_ rfl (cO ⟨rfl,(xR.one hp 0 rfl),trivial⟩) [(Iv p0.vars),v2] rfl ?_
 intro w hp
 have hp:=r4 hp
 refine aC (dC ?_)
 obtain⟨k1,k1a,k1d,hp⟩:=(hp.get 0 rfl).lend
 have f2:bJ (ρ.un k1) v2 x1:=xR.ro k1d k1a hR1
 have hp:=r3 hp
 obtain rfl:=oj hm
 exact retc1 hE rfl rfl (uT (cs:=[(Iv p0.vars),v2]) fP (Hp.cN 1 rfl 0 _ (bW rfl) _ hp)) ⟨_,rfl,_,_,(PH.le_un _ k1),rfl,f2,(((((hp.get 2 rfl).drop).get 1 rfl).drop).drop)⟩
theorem X9 {Z:World} {ρ:PH} {L:List bZ} {w:World} (p0:Formula) (aF:Value) (bH:bJ ρ aF p0.clauses) (p1:(List (List Int))) (vp1:Value) (hp1:bJ ρ vp1 p1) (hp:Hp Z ρ (L) w) (r:Bool) (hm:oC p0 p1=some r):
  Calls Try.prog 36 #[(.agg #[(Iv p0.vars),aF]),vp1] w (Ret fun v w'=>v=(.bool r)∧Hp Z ρ (L) w'):=by
 refine enter (N:=58) Try.func36 rfl rfl [(0,(.agg #[(Iv p0.vars),aF])),(1,vp1)] rfl (bT ⟨rfl,rfl,trivial⟩) fun a hE=>?_
 unfold oC at hm
 refine aG (aB ?_)
 refine qH (wk0 rfl) rfl rfl hE hp rfl (v:=(.agg #[(Iv p0.vars),aF])) rfl ?_
 intro a w b1 hE hp
 have hp:=r1 hp
 refine S hE 1 rfl fun a hE=>aC (aG ?_)
 refine aG (aB ?_)
 refine V hE hp rfl (aX rfl hE rfl (fun w hw=>eY (cs:=[(Iv p0.vars),aF]) fP (Hp.cN 0 rfl 0 _ (bW rfl) w hw))) fun a hE=>?_
 obtain⟨x1,ex1,hm⟩:=bnd hm
 refine Cl hE rfl rfl ent31 (tJ p0 aF bH hp x1 ex1) ⟨rfl,trivial⟩ fun v a w hR hE=>?_
 obtain⟨rfl,hp⟩:=hR
 have hp:=r1 hp
 refine S hE 2 rfl fun a hE=>?_
 obtain⟨m1,hg1,hm⟩:=bnd hm
 refine iD [_,_,_,_] (fun a w=>Env 58 [(13,(.bool m1)),(1,vp1),(2,(Pv b1 0))] a∧Hp Z ρ (Pt b1 (.cells #[(Iv p0.vars),aF] 24 (0,0))::L) w) ?_ ?_
 ·rcases Bool.eq_false_or_eq_true (!x1) with hc1|hc1
  ·
   replace hg1:=(it hc1).symm.trans hg1
   refine Gk hE hc1 rfl fun a hE=>Gk hE hc1 rfl fun a hE=>Gk hE hc1 rfl fun a hE=>pk1 hE hc1 rfl rfl rfl rfl fun a hE=>?_
   obtain rfl:=oj hg1
   exact aC ⟨hE.cut ⟨rfl,rfl,rfl,trivial⟩,hp⟩
  replace hg1:=(ie hc1).symm.trans hg1
  refine Gs hE hc1 rfl rfl fun a hE=>?_
  obtain⟨x2,ex2,hg1⟩:=bnd hg1
  refine Cg hE hc1 rfl rfl ent58 (J4 p1 vp1 hp1 hp x2 ex2) ⟨rfl,trivial⟩ fun v a w hR hE=>?_
  obtain⟨rfl,hp⟩:=hR
  have hp:=r1 hp
  refine Gs hE hc1 rfl rfl fun a hE=>pk0 hE hc1 rfl rfl rfl rfl fun a hE=>?_
  obtain rfl:=oj hg1
  exact aC ⟨hE.cut ⟨rfl,rfl,rfl,trivial⟩,hp⟩
 rintro a w ⟨hE,hp⟩
 refine S hE 1 rfl fun a hE=>?_
 refine iD [_,_,_,_] (fun a w=>Env 58 [(18,(.bool (m1||(decide ((p1.length:Int)=0))))),(1,vp1),(2,(Pv b1 0))] a∧Hp Z ρ (Pt b1 (.cells #[(Iv p0.vars),aF] 24 (0,0))::L) w) ?_ ?_
 ·rcases Bool.eq_false_or_eq_true m1 with hc2|hc2
  ·
   refine Gk hE hc2 rfl fun a hE=>Gk hE hc2 rfl fun a hE=>Gk hE hc2 rfl fun a hE=>pk1 hE hc2 rfl rfl rfl rfl fun a hE=>?_
   have hE:=hE.eqv (v':=(.bool (m1||(decide ((p1.length:Int)=0))))) (by rw[hc2];rfl)
   exact aC ⟨hE.cut ⟨rfl,rfl,rfl,trivial⟩,hp⟩
  refine Gs hE hc2 rfl rfl fun a hE=>G hE hp hc2 rfl (dD rfl hE rfl (bJ.len hp1 gY)) fun a hE=>Gs hE hc2 rfl rfl fun a hE=>pk0 hE hc2 rfl rfl rfl rfl fun a hE=>?_
  have hE:=hE.eqv (v':=(.bool (m1||(decide ((p1.length:Int)=0))))) (by rw[hc2];rfl)
  exact aC ⟨hE.cut ⟨rfl,rfl,rfl,trivial⟩,hp⟩
 rintro a w ⟨hE,hp⟩
 refine S hE 1 rfl fun a hE=>?_
 obtain⟨m2,hg2,hm⟩:=bnd hm
 refine iD [_,_,_,_,_,_,_,_,_] (fun a w=>Env 58 [(28,(.bool m2)),(1,vp1),(2,(Pv b1 0))] a∧Hp Z ρ (Pt b1 (.cells #[(Iv p0.vars),aF] 24 (0,0))::L) w) ?_ ?_
 ·rcases Bool.eq_false_or_eq_true (m1||(decide ((p1.length:Int)=0))) with hc3|hc3
  ·
   replace hg2:=(it hc3).symm.trans hg2
   refine Gk hE hc3 rfl fun a hE=>Gk hE hc3 rfl fun a hE=>Gk hE hc3 rfl fun a hE=>Gk hE hc3 rfl fun a hE=>Gk hE hc3 rfl fun a hE=>Gk hE hc3 rfl fun a hE=>Gk hE hc3 rfl fun a hE=>Gk hE hc3 rfl fun a hE=>pk1 hE hc3 rfl rfl rfl rfl fun a hE=>?_
   obtain rfl:=oj hg2
   exact aC ⟨hE.cut ⟨rfl,rfl,rfl,trivial⟩,hp⟩
  replace hg2:=(ie hc3).symm.trans hg2
  refine Gs hE hc3 rfl rfl fun a hE=>Gs hE hc3 rfl rfl fun a hE=>G hE hp hc3 rfl (dD rfl hE rfl (bJ.len hp1 gY)) fun a hE=>?_
  obtain⟨x3,ex3,hg2⟩:=bnd hg2
  refine G hE hp hc3 rfl (tX rfl hE rfl rfl (bD ex3)) fun a hE=>?_
  obtain⟨x4,ex4,hg2⟩:=bnd hg2
  obtain⟨b2,b2o,b2c,b2r,b2k,b2f⟩:=bJ.at hp1 gY ex4
  obtain⟨vb2,rfl,hb2⟩:=b2k
  have b2f:AtP ρ b2 b2o [vb2]:=b2f
  refine G hE hp hc3 rfl (aS rfl hE rfl rfl b2r) fun a hE=>G hE hp hc3 rfl (aX rfl hE rfl (fun w hw=>bF bK (b2f.c 0 rfl w hw))) fun a hE=>G hE hp hc3 rfl (dD rfl hE rfl (bJ.len hb2 aY)) fun a hE=>Gs hE hc3 rfl rfl fun a hE=>pk0 hE hc3 rfl rfl rfl rfl fun a hE=>?_
  obtain rfl:=oj hg2
  exact aC ⟨hE.cut ⟨rfl,rfl,rfl,trivial⟩,hp⟩
 rintro a w ⟨hE,hp⟩
 refine aC ?_
 refine dK hE rfl (fun hc4=>?_) (fun hc4=>?_)
 ·replace hm:=(it hc4).symm.trans hm
  refine aG (aB ?_)
  refine S hE 1 rfl fun a hE=>aC (dC ?_)
  obtain rfl:=oj hm
  exact gK hE rfl rfl ⟨_,rfl,rfl,(hp.drop)⟩
 replace hm:=(ie hc4).symm.trans hm
 refine bQ (aG ?_)
 refine aG (aB ?_)
 refine S hE 1 rfl fun a hE=>aC ?_
 obtain⟨b3,hc5,hm⟩:=bnd hm
 refine dI (fun a w=>∃s:(Int×(List (List Int))),b3= .brk s∧(∃(ρ1:PH) (rW:Value),ρ.le ρ1∧bJ ρ1 rW s.2∧Env 58 [] a∧Hp Z ρ1 (Pt b1 (.cells #[(Iv s.1),rW] 24 (0,0))::L) w)) ?_ ?_
 ·refine eX hc5 (fun s a w=>∃(ρ1:PH) (rW:Value),ρ.le ρ1∧bJ ρ1 rW s.2.2∧Env 58 [(1,vp1),(2,(Pv b1 0)),(5,(Iv s.1))] a∧Hp Z ρ1 (Pt b1 (.cells #[(Iv s.2.1),rW] 24 (0,0))::L) w) ?_ ?_
  ·exact⟨ρ,_,(PH.le.rf _),bH,hE.cut ⟨rfl,rfl,rfl,trivial⟩,hp⟩
  rintro⟨aW,bU,dJ⟩ st a w ⟨ρ1,rW,hlg1,X0,hE,hp⟩ hl1
  dsimp only at hE hp hlg1 X0 hl1
  unfold kX at hl1
  refine aG (aG ?_)
  refine aB (S hE 2 rfl fun a hE=>?_)
  refine V hE hp rfl (dD rfl hE rfl (bJ.len (bJ.mono hp1 hlg1) gY)) fun a hE=>S hE 1 rfl fun a hE=>aC ?_
  refine dK hE rfl (fun hc6=>?_) (fun hc6=>?_)
  ·replace hl1:=(it hc6).symm.trans hl1
   refine bQ (aG ?_)
   refine dG (aG ?_)
   refine aG ?_
   refine lG (by kernel_rfl) (by kernel_rfl) hp ?_
   refine Sq hE 2 rfl fun a hE=>?_
   obtain⟨x5,ex5,hl1⟩:=bnd hl1
   obtain⟨b4,b4o,b4c,b4r,b4k,b4f⟩:=bJ.at (bJ.mono hp1 hlg1) gY ex5
   obtain⟨vb4,rfl,hb4⟩:=b4k
   have b4f:AtP ρ1 b4 b4o [vb4]:=b4f
   refine Vq hE rfl (aS rfl hE rfl rfl b4r) fun a hE=>Vq hE rfl (aX rfl hE rfl (fun w hw=>bF bK (b4f.c 0 rfl w hw))) fun a hE=>Vq hE rfl (xf hE kP rfl rfl) fun a hE=>Vq hE rfl (xl hE bG 0 rfl rfl rfl rfl) fun a hE=>?_
   obtain⟨x6,ex6,hl1⟩:=bnd hl1
   refine vF (wk0 rfl) rfl rfl hE rfl [vb4,(Iv bU)] ⟨rfl,rfl,trivial⟩ ent32 (v:=(.bool x6)) (fun w hw=>Calls.mono (oP x5 vb4 hb4 bU hw x6 ex6) fun e w' ⟨v,he,hv,hh⟩=>⟨by rw[he,hv],hh⟩) ?_
   intro a hE
   refine Sq hE 2 rfl fun a hE=>?_
   obtain⟨m3,hg3,hl1⟩:=bnd hl1
   refine q_cut [_,_,_,_,_,_,_,_] (fun a=>Env 58 [(51,(.bool m3)),(1,vp1),(2,(Pv b1 0)),(5,(Iv aW))] a) ?_ ?_
   ·rcases Bool.eq_false_or_eq_true (!x6) with hc7|hc7
    ·
     replace hg3:=(it hc7).symm.trans hg3
     refine Gkq hE hc7 rfl fun a hE=>Gkq hE hc7 rfl fun a hE=>Gkq hE hc7 rfl fun a hE=>Gkq hE hc7 rfl fun a hE=>Gkq hE hc7 rfl fun a hE=>Gkq hE hc7 rfl fun a hE=>Gkq hE hc7 rfl fun a hE=>Vq hE rfl (mD rfl hE rfl hc7 rfl) fun a hE=>?_
     obtain rfl:=oj hg3
     exact oO (hE.cut ⟨rfl,rfl,rfl,rfl,trivial⟩)
    replace hg3:=(ie hc7).symm.trans hg3
    refine Gq hE hc7 rfl (aX rfl hE rfl (fun w hw=>eY (cs:=[(Iv bU),rW]) fP (Hp.cN 0 rfl 0 _ (bW rfl) w hw))) fun a hE=>Gq hE hc7 rfl (mZ rfl hE rfl) fun a hE=>Gq hE hc7 rfl (mZ rfl hE rfl) fun a hE=>?_
    obtain⟨x7,ex7,hg3⟩:=bnd hg3
    obtain⟨b5,b5o,b5c,b5r,b5k,b5f⟩:=bJ.at (bJ.mono hp1 hlg1) gY ex7
    obtain⟨vb5,rfl,hb5⟩:=b5k
    have b5f:AtP ρ1 b5 b5o [vb5]:=b5f
    refine Gq hE hc7 rfl (aS rfl hE rfl rfl b5r) fun a hE=>Gq hE hc7 rfl (aX rfl hE rfl (fun w hw=>bF bK (b5f.c 0 rfl w hw))) fun a hE=>?_
    obtain⟨x8,ex8,hg3⟩:=bnd hg3
    refine vF (wk1 hE rfl rfl rfl hc7) rfl rfl hE rfl [(.agg #[(Iv bU),rW]),vb5] ⟨rfl,rfl,trivial⟩ ent59 (v:=(.bool x8)) (fun w hw=>Calls.mono (J3 (Formula.mk bU dJ) rW X0 x7 vb5 hb5 hw x8 ex8) fun e w' ⟨v,he,hv,hh⟩=>⟨by rw[he,hv],hh⟩) ?_
    intro a hE
    refine Gq hE hc7 rfl (ex_not rfl hE rfl) fun a hE=>Vq hE rfl (dF rfl hE rfl hc7 rfl) fun a hE=>?_
    obtain rfl:=oj hg3
    exact oO (hE.cut ⟨rfl,rfl,rfl,rfl,trivial⟩)
   intro a hE
   refine oO fun w hp=>?_
   have hp:=r1 hp
   refine dK hE rfl (fun hc8=>?_) (fun hc8=>?_)
   ·replace hl1:=(it hc8).symm.trans hl1
    refine aG (aB ?_)
    refine S hE 1 rfl fun a hE=>aC (dC ?_)
    refine⟨_,(oj hl1).symm,fun hb=>?_⟩
    subst hb
    obtain rfl:=oj hm
    exact gK hE rfl rfl ⟨_,rfl,rfl,((hp.drop).less hlg1)⟩
   replace hl1:=(ie hc8).symm.trans hl1
   refine bQ ?_
   obtain⟨x9,ex9,hl1⟩:=bnd hl1
   obtain⟨x10,ex10,hl1⟩:=bnd hl1
   have hp:=hp.drew
   refine jT ([([],At0 Z ρ1),([6],At1 Z ρ1 (Pt b1 (.cells #[(Iv bU),rW] 24 (0,0))))]:Facts) (fun a w=>∃ρy1:PH,∃yv1:Value,ρ1.le ρy1∧bJ ρy1 yv1 x10.clauses∧Env 58 [(1,vp1),(2,(Pv b1 0)),(5,(Iv aW))] a∧Hp Z ρy1 (Pt b1 (.cells #[(Iv x10.vars),yv1] 24 (0,0))::L) w) (by kernel_rfl) ⟨fun _=>⟨_,hp⟩,fun _=>⟨_,(hp.get 0 rfl)⟩,trivial⟩ (fun hS=>?_) ?_
   ·
    generalize w.drew=w at hS hp⊢
    refine T 0 1 hE hS rfl rfl rfl (by kernel_rfl) (fun _=>aX rfl hE rfl (fun w hw=>eY (cs:=[(Iv bU),rW]) fP (Hp.cN 0 rfl 0 _ (bW rfl) w hw))) fun a hE hS=>Ts [1,2] hE hS rfl rfl (by kernel_rfl) fun a hE hS=>?_
    obtain⟨b7,b7o,b7c,b7r,b7k,b7f⟩:=bJ.at (bJ.mono hp1 hlg1) gY ex9
    obtain⟨vb7,rfl,hb7⟩:=b7k
    have b7f:AtP ρ1 b7 b7o [vb7]:=b7f
    refine T0 3 hE hS rfl rfl rfl (by kernel_rfl) (fun _=>aS rfl hE rfl rfl b7r) fun a hE hS=>T0 4 hE hS rfl rfl rfl (by kernel_rfl) (fun _=>aX rfl hE rfl (fun w hw=>bF bK (b7f.c 0 rfl w hw))) fun a hE hS=>?_
    refine W1 5 (by kernel_rfl) rfl ?_
    refine Cl hE rfl rfl ent23 (xU (Formula.mk bU dJ) rW X0 x9 vb7 hb7 hp x10 ex10) ⟨rfl,rfl,trivial⟩ fun v a w hR hE=>?_
    obtain⟨ρ3,vr4_clauses,hle2,rfl,hr4_clauses,hp⟩:=hR
    have hp:=r1 hp
    refine aC (aI ⟨fun _=>⟨_,(hp.less hle2)⟩,fun _=>⟨_,((hp.get 0 rfl).less hle2)⟩,trivial⟩ fun hS=>?_)
    refine W1 6 (by kernel_rfl) rfl ?_
    refine dW (wk0 rfl) rfl hE hp rfl rfl rfl 0 rfl fP.size_ rfl (cO ⟨rfl,(bJ.one hr4_clauses),trivial⟩) [(Iv x10.vars),vr4_clauses] rfl ?_
    intro w hp
    have hp:=r1 hp
    refine aC (aI ⟨fun _=>⟨_,(hp.less hle2)⟩,dead (by kernel_rfl),trivial⟩ fun hS=>?_)
    exact dX (by kernel_rfl) ⟨ρ3,_,hle2,hr4_clauses,hE.cut ⟨rfl,rfl,rfl,trivial⟩,hp⟩
   rintro a w ⟨ρy1,yv1,hley1,yh1,hE,hp⟩
   refine aB (S hE 1 rfl fun a hE=>?_)
   obtain⟨x11,ex11,hl1⟩:=bnd hl1
   refine V hE hp rfl (dH rfl hE rfl rfl (bD ex11)) fun a hE=>S hE 1 rfl fun a hE=>aC ?_
   exact⟨_,(oj hl1).symm,ρy1,_,(PH.le.tr hlg1 hley1),yh1,hE.cut ⟨rfl,rfl,rfl,trivial⟩,hp⟩
  replace hl1:=(ie hc6).symm.trans hl1
  refine dR ?_
  refine⟨_,(oj hl1).symm,fun hbb=>?_⟩
  exact⟨_,hbb.symm,ρ1,_,hlg1,X0,hE.cut trivial,hp⟩
 rintro a w ⟨b3s,rfl,ρ1,rW,hlg1,X0,hE,hp⟩
 dsimp only at hm
 refine aG (aB ?_)
 refine S hE 1 rfl fun a hE=>aC (dC ?_)
 obtain rfl:=oj hm
 exact gK hE rfl rfl ⟨_,rfl,rfl,((hp.drop).less hlg1)⟩
theorem Y0 {Z:World} {ρ:PH} {L:List bZ} {w:World} (p0:Int) (p1:Int) (hp:Hp Z ρ (L) w) (r:(List Int)) (hm:oD p0 p1=some r):
  Calls Try.prog 37 #[(Iv p0),(Iv p1)] w (Ret fun v w'=>∃(vr1:Value),v=vr1∧Hp Z ρ (aA 3 vr1 r::L) w'):=by
 refine enter (N:=30) Try.func37 rfl rfl [(0,(Iv p0)),(1,(Iv p1))] rfl (bT ⟨rfl,rfl,trivial⟩) fun a hE=>?_
 unfold oD at hm
 refine aG (aB ?_)
 refine S hE 1 rfl fun a hE=>aC (aG ?_)
 refine aB ?_
 refine jJ (wk0 rfl) rfl rfl hE hp rfl [] trivial [] 3 (fun w=>by simp[Instr.buildSlice,Instr.fill,Value.cells,go_sem]) ?_
 intro a w b1 hE hp
 have hp:=r1 hp
 refine S hE 1 rfl fun a hE=>aC (aG ?_)
 refine aG (aB ?_)
 refine S hE 1 rfl fun a hE=>aC ?_
 have hp:=(hp.get 0 rfl).imp (pR (l:=(([]:List Int):List Int)) (n:=0) rfl (by decide) rfl)
 have hp:=r1 hp
 obtain⟨b2,hc1,hm⟩:=bnd hm
 refine dI (fun a w=>∃(w2:Value),Env 30 [(5,w2)] a∧Hp Z ρ (aA 3 w2 b2::L) w) ?_ ?_
 ·refine eX hc1 (fun s a w=>∃(w2:Value),Env 30 [(0,(Iv p0)),(1,(Iv p1)),(5,w2),(6,(Iv s.1))] a∧Hp Z ρ (aA 3 w2 s.2::L) w) ?_ ?_
  ·exact⟨_,hE.cut ⟨rfl,rfl,rfl,rfl,trivial⟩,hp⟩
  rintro⟨aW,bU⟩ st a w ⟨w2,hE,hp⟩ hl1
  dsimp only at hE hp hl1
  unfold jH at hl1
  refine aG (aG ?_)
  refine aB (S hE 3 rfl fun a hE=>?_)
  refine aC ?_
  refine dK hE rfl (fun hc2=>?_) (fun hc2=>?_)
  ·replace hl1:=(it hc2).symm.trans hl1
   refine bQ (aG ?_)
   refine dG (aG ?_)
   refine aB (S hE 3 rfl fun a hE=>?_)
   obtain⟨x1,ex1,hl1⟩:=bnd hl1
   refine V hE hp rfl (tX rfl hE rfl rfl (bD ex1)) fun a hE=>?_
   obtain⟨x2,ex2,hl1⟩:=bnd hl1
   refine V hE hp rfl (v:=(Iv x2)) (ex_shr rfl hE rfl rfl ex2) fun a hE=>?_
   obtain⟨x3,ex3,hl1⟩:=bnd hl1
   refine V hE hp rfl (ex_rem rfl hE rfl rfl (remK_some ex3).1 (remK_some ex3).2) fun a hE=>S hE 1 rfl fun a hE=>aC ?_
   refine dK hE rfl (fun hc3=>?_) (fun hc3=>?_)
   ·replace hl1:=(it hc3).symm.trans hl1
    refine aB (S hE 2 rfl fun a hE=>?_)
    refine jJ (wk0 rfl) rfl rfl hE hp rfl [(0,(Iv aW))] ⟨⟨rfl,rfl⟩,trivial⟩ [(Iv aW)] 3 (fun w=>by simp[Instr.buildSlice,Instr.fill,Value.cells,go_sem]) ?_
    intro a w b3 hE hp
    have hp:=r2 hp
    obtain⟨x4,ex4,hl1⟩:=bnd hl1
    refine nH (wk0 rfl) rfl rfl hE hp rfl aY rfl rfl 1 rfl rfl (l2:=[aW]) rfl (fun j u hj=>by have:=Hp.cN 0 rfl 0 _ (bW rfl) w hp j u hj;simpa using this) ex4 ?_
    intro v1 a w hE hp
    have hp:=r2 hp
    refine S hE 1 rfl fun a hE=>aC ?_
    have hE:=hE.cut (E':=[(0,(Iv p0)),(1,(Iv p1)),(5,v1),(6,(Iv aW))]) ⟨rfl,rfl,rfl,rfl,trivial⟩
    refine aB (S hE 1 rfl fun a hE=>?_)
    obtain⟨x5,ex5,hl1⟩:=bnd hl1
    refine V hE hp rfl (dH rfl hE rfl rfl (bD ex5)) fun a hE=>S hE 1 rfl fun a hE=>aC ?_
    exact⟨_,(oj hl1).symm,_,hE.cut ⟨rfl,rfl,rfl,rfl,trivial⟩,(hp.drop)⟩
   replace hl1:=(ie hc3).symm.trans hl1
   refine aB (S hE 2 rfl fun a hE=>?_)
   obtain⟨x6,ex6,hl1⟩:=bnd hl1
   refine V hE hp rfl (pV rfl hE rfl (bD ex6)) fun a hE=>?_
   refine jJ (wk0 rfl) rfl rfl hE hp rfl [(0,(Iv x6))] ⟨⟨rfl,rfl⟩,trivial⟩ [(Iv x6)] 3 (fun w=>by simp[Instr.buildSlice,Instr.fill,Value.cells,go_sem]) ?_
   intro a w b4 hE hp
   have hp:=r2 hp
   obtain⟨x7,ex7,hl1⟩:=bnd hl1
   refine nH (wk0 rfl) rfl rfl hE hp rfl aY rfl rfl 1 rfl rfl (l2:=[x6]) rfl (fun j u hj=>by have:=Hp.cN 0 rfl 0 _ (bW rfl) w hp j u hj;simpa using this) ex7 ?_
   intro v2 a w hE hp
   have hp:=r2 hp
   refine S hE 1 rfl fun a hE=>aC (aB ?_)
   refine S hE 1 rfl fun a hE=>?_
   obtain⟨x8,ex8,hl1⟩:=bnd hl1
   refine V hE hp rfl (dH rfl hE rfl rfl (bD ex8)) fun a hE=>S hE 1 rfl fun a hE=>aC ?_
   exact⟨_,(oj hl1).symm,_,hE.cut ⟨rfl,rfl,rfl,rfl,trivial⟩,(hp.drop)⟩
  replace hl1:=(ie hc2).symm.trans hl1
  refine dR ?_
  refine⟨_,(oj hl1).symm,fun hbb=>?_⟩
  subst hbb
  exact⟨_,hE.cut ⟨rfl,trivial⟩,hp⟩
 rintro a w ⟨w2,hE,hp⟩
 refine aG (aB ?_)
 refine S hE 2 rfl fun a hE=>aC (dC ?_)
 obtain rfl:=oj hm
 exact gK hE rfl rfl ⟨_,rfl,_,rfl,hp⟩
end Go.Proofs.Ytpkhmndpeipfmaa
