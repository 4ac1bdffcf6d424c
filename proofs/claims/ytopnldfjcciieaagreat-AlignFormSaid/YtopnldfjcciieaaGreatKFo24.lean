/- The code goes as its model: assessor/assessorref38.spans, assessor/assessorref38.Spans, assessor/assessorref38.Valid, assessor/assessorref38.Cost, assessor/asse -/
import Derived.Test.YtopnldfjcciieaaGreatKFoT
import Derived.Test.YtopnldfjcciieaaGreatKFo4
import Derived.Test.YtopnldfjcciieaaGreatKFo5
set_option linter.unusedVariables false
set_option linter.unusedSimpArgs false
set_option maxRecDepth 100000
set_option maxHeartbeats 4000000
namespace Go.Proofs.YtopnldfjcciieaaGreat
open Go.RowKit
theorem P5 (self:(List Span)→Node→Int→Option (List Span)) (hself:∀{Z:World} {ρ:PH} {L:List bK} {w:World} (p0:(List Span)) (vp0:Value) (p1:Node) (aJ:Value) (bH:aH ρ aJ p1.kids) (p2:Int) (hp:Hp Z ρ (aC 70 vp0 p0::L) w) (r:(List Span)) (hm:self p0 p1 p2=some r),Calls Tryz.prog 62 #[vp0,(.agg #[(Iv p1.kind),(.string p1.text),(Iv p1.at_),(Iv p1.fin),aJ]),(Iv p2)] w (Ret fun v w'=>∃(vr1:Value),v=vr1∧Hp Z ρ (aC 70 vr1 r::L) w')) {Z:World} {ρ:PH} {L:List bK} {w:World} (p0:(List Span)) (vp0:Value) (p1:Node) (aJ:Value) (bH:aH ρ aJ p1.kids) (p2:Int) (hp:Hp Z ρ (aC 70 vp0 p0::L) w) (r:(List Span)) (hm:nG self p0 p1 p2=some r):
  Calls Tryz.prog 62 #[vp0,(.agg #[(Iv p1.kind),(.string p1.text),(Iv p1.at_),(Iv p1.fin),aJ]),(Iv p2)] w (Ret fun v w'=>∃(vr1:Value),v=vr1∧Hp Z ρ (aC 70 vr1 r::L) w'):=by
 refine enter (N:=42) Tryz.func62 rfl rfl [(0,vp0),(1,(.agg #[(Iv p1.kind),(.string p1.text),(Iv p1.at_),(Iv p1.fin),aJ])),(2,(Iv p2))] rfl (bC ⟨rfl,rfl,rfl,trivial⟩) fun a hE=>?_
 unfold nG at hm
 refine aG (aA ?_)
 refine iI (wk0 rfl) rfl rfl hE hp rfl (v:=(.agg #[(Iv p1.kind),(.string p1.text),(Iv p1.at_),(Iv p1.fin),aJ])) rfl ?_
 intro a w b1 hE hp
 have hp:=r2 hp
 refine S hE 1 rfl fun a hE=>aB (aG ?_)
 refine aA (S hE 1 rfl fun a hE=>?_)
 refine V hE hp rfl (bT rfl hE rfl (aC.len hp 1 rfl iQ)) fun a hE=>S hE 1 rfl fun a hE=>aB (aG ?_)
 refine aA (S hE 1 rfl fun a hE=>?_)
 refine V hE hp rfl (xf hE yD rfl rfl) fun a hE=>V hE hp rfl (xl hE aT 0 rfl rfl rfl rfl) fun a hE=>V hE hp rfl (xf hE wV rfl rfl) fun a hE=>V hE hp rfl (xl hE xR 0 rfl rfl rfl rfl) fun a hE=>S hE 1 rfl fun a hE=>V hE hp rfl (v:=(.agg #[(Iv p1.kind),(.string p1.text),(Iv 0),(Iv p2)])) (lW rfl hE [(0,(Iv p1.kind)),(1,(.string p1.text)),(3,(Iv p2))] (by exact⟨⟨rfl,rfl⟩,⟨rfl,rfl⟩,⟨rfl,rfl⟩,trivial⟩) (fun w=>by simp[Instr.build,Instr.fill,Value.cells,go_sem])) fun a hE=>?_
 refine fP (wk0 rfl) rfl rfl hE hp rfl [(0,(.agg #[(Iv p1.kind),(.string p1.text),(Iv 0),(Iv p2)]))] ⟨⟨rfl,rfl⟩,trivial⟩ [(Iv p1.kind),(.string p1.text),(Iv 0),(Iv p2)] 70 (fun w=>by simp[Instr.buildSlice,Instr.fill,Value.cells,go_sem]) ?_
 intro a w b2 hE hp
 have hp:=r3 hp
 obtain⟨x1,ex1,hm⟩:=bnd hm
 refine fU (wk0 rfl) rfl rfl hE hp rfl iQ rfl rfl 2 rfl rfl (l2:=[(Span.mk p1.kind p1.text 0 p2)]) rfl (fun j u hj=>by have:=Hp.cN 0 rfl 0 _ (aS rfl) w hp j u hj;simpa using this) ex1 ?_
 intro v1 a w hE hp
 have hp:=r3 hp
 refine S hE 1 rfl fun a hE=>aB (aG ?_)
 refine aG (aA ?_)
 refine S hE 1 rfl fun a hE=>aB ?_
 obtain⟨b3,hc1,hm⟩:=bnd hm
 refine dH (fun a w=>∃(w1:Value),Env 42 [(0,w1),(7,(Iv (p0.length:Int)))] a∧Hp Z ρ (Pt b2 (.cells #[(Iv p1.kind),(.string p1.text),(Iv 0),(Iv p2)] 70 (0,0))::Pt b1 (.cells #[(Iv p1.kind),(.string p1.text),(Iv p1.at_),(Iv p1.fin),aJ] 24 (0,0))::aC 70 w1 b3::L) w) ?_ ?_
 ·refine dZ hc1 (fun s a w=>∃(w1:Value),Env 42 [(0,w1),(4,(Pv b1 0)),(7,(Iv (p0.length:Int))),(8,(Iv s.1))] a∧Hp Z ρ (Pt b2 (.cells #[(Iv p1.kind),(.string p1.text),(Iv 0),(Iv p2)] 70 (0,0))::Pt b1 (.cells #[(Iv p1.kind),(.string p1.text),(Iv p1.at_),(Iv p1.fin),aJ] 24 (0,0))::aC 70 w1 s.2::L) w) ?_ ?_
  ·exact⟨_,hE.cut ⟨rfl,rfl,rfl,rfl,trivial⟩,hp⟩
  rintro⟨aP,aU⟩ st a w ⟨w1,hE,hp⟩ hl1
  dsimp only at hE hp hl1
  unfold kQ at hl1
  refine aG (aG ?_)
  refine aA (S hE 1 rfl fun a hE=>?_)
  refine V hE hp rfl (xf hE sU rfl rfl) fun a hE=>V hE hp rfl (xl hE iT 1 rfl rfl rfl rfl) fun a hE=>V hE hp rfl (bT rfl hE rfl (aH.len bH jI)) fun a hE=>S hE 1 rfl fun a hE=>aB ?_
  refine dE hE rfl (fun hc2=>?_) (fun hc2=>?_)
  ·replace hl1:=(it hc2).symm.trans hl1
   refine aZ (aG ?_)
   refine dM (aA ?_)
   refine S hE 1 rfl fun a hE=>V hE hp rfl (xf hE sU rfl rfl) fun a hE=>V hE hp rfl (xl hE iT 1 rfl rfl rfl rfl) fun a hE=>S hE 1 rfl fun a hE=>?_
   obtain⟨x2,ex2,hl1⟩:=bnd hl1
   obtain⟨b4,b4o,b4c,b4r,b4k,b4f⟩:=aH.at bH jI ex2
   obtain⟨rY,rfl,aE9⟩:=NodeAt.opens b4k
   have b4f:AtP ρ b4 b4o [(Iv x2.kind),(.string x2.text),(Iv x2.at_),(Iv x2.fin),rY]:=b4f
   refine V hE hp rfl (aN rfl hE rfl rfl b4r) fun a hE=>V hE hp rfl (aK rfl hE rfl (fun w hw=>aW (cs:=[(Iv x2.kind),(.string x2.text),(Iv x2.at_),(Iv x2.fin),rY]) bY (fun j u hj=>cell_of hw.le (b4f j u hj)))) fun a hE=>S hE 1 rfl fun a hE=>?_
   obtain⟨x3,ex3,hl1⟩:=bnd hl1
   refine s_call (wk0 rfl) rfl rfl hE rfl [w1,(.agg #[(Iv x2.kind),(.string x2.text),(Iv x2.at_),(Iv x2.fin),rY]),(Iv (p0.length:Int))] ⟨rfl,rfl,rfl,trivial⟩ ent62 (hself aU w1 x2 rY aE9 (p0.length:Int) (hp.get 2 rfl) x3 ex3) Ret.ret ?_
   intro vr1 a w hR hE
   obtain⟨u,rfl,hp⟩:=Ret.of hR
   have hp:=r3 hp
   refine S hE 1 rfl fun a hE=>aB (aA ?_)
   refine S hE 1 rfl fun a hE=>?_
   obtain⟨x4,ex4,hl1⟩:=bnd hl1
   refine V hE hp rfl (bF rfl hE rfl rfl (aO ex4)) fun a hE=>S hE 1 rfl fun a hE=>aB ?_
   exact⟨_,(oj hl1).symm,_,hE.cut ⟨rfl,rfl,rfl,rfl,trivial⟩,(((hp.get 0 rfl).get 2 rfl).get 2 rfl)⟩
  replace hl1:=(ie hc2).symm.trans hl1
  refine dS ?_
  refine⟨_,(oj hl1).symm,fun hbb=>?_⟩
  subst hbb
  exact⟨_,hE.cut ⟨rfl,rfl,trivial⟩,hp⟩
 rintro a w ⟨w1,hE,hp⟩
 refine aG (aA ?_)
 refine S hE 3 rfl fun a hE=>V hE hp rfl (bT rfl hE rfl (aC.len hp 2 rfl iQ)) fun a hE=>?_
 obtain⟨x5,ex5,hm⟩:=bnd hm
 obtain⟨b5,b5o,b5r,b5v,b5f⟩:=aC.at hp 2 rfl iQ ex5
 refine V hE hp rfl (aN rfl hE rfl rfl b5r) fun a hE=>V hE hp rfl (xf hE aA6 rfl rfl) fun a hE=>?_
 refine zF (wk0 rfl) rfl hE hp rfl rfl rfl 2 rfl ex5 b5v 2 (e':=(Span.mk x5.kind x5.text (b3.length:Int) x5.parent)) aT.size_ rfl rfl rfl ⟨rfl,rfl⟩ ?_
 intro w hp
 have hp:=r3 hp
 refine aB ?_
 have hE:=hE.cut (E':=[(0,w1)]) ⟨rfl,trivial⟩
 refine aG (aA ?_)
 refine S hE 2 rfl fun a hE=>aB (bZ ?_)
 obtain rfl:=oj hm
 exact gJ hE rfl rfl ⟨_,rfl,_,rfl,(((hp.get 1 rfl).drop).drop)⟩
theorem Z8:∀(n:Nat),∀{Z:World} {ρ:PH} {L:List bK} {w:World} (p0:(List Span)) (vp0:Value) (p1:Node) (aJ:Value) (bH:aH ρ aJ p1.kids) (p2:Int) (hp:Hp Z ρ (aC 70 vp0 p0::L) w) (r:(List Span)) (hm:jW n p0 p1 p2=some r),Calls Tryz.prog 62 #[vp0,(.agg #[(Iv p1.kind),(.string p1.text),(Iv p1.at_),(Iv p1.fin),aJ]),(Iv p2)] w (Ret fun v w'=>∃(vr1:Value),v=vr1∧Hp Z ρ (aC 70 vr1 r::L) w'):=by
 intro n
 induction n with
 |zero=>intro Z ρ L w p0 vp0 p1 aJ bH p2 hp r hm;cases hm
 |succ n ih=>intro Z ρ L w p0 vp0 p1 aJ bH p2 hp r hm;exact P5 (jW n) ih p0 vp0 p1 aJ bH p2 hp r hm
theorem aD6 {Z:World} {ρ:PH} {L:List bK} {w:World} (p0:(List Span)) (vp0:Value) (p1:Node) (aJ:Value) (bH:aH ρ aJ p1.kids) (p2:Int) (hp:Hp Z ρ (aC 70 vp0 p0::L) w) (r:(List Span)) (hm:vG p0 p1 p2=some r):
  Calls Tryz.prog 62 #[vp0,(.agg #[(Iv p1.kind),(.string p1.text),(Iv p1.at_),(Iv p1.fin),aJ]),(Iv p2)] w (Ret fun v w'=>∃(vr1:Value),v=vr1∧Hp Z ρ (aC 70 vr1 r::L) w'):=Z8 _ p0 vp0 p1 aJ bH p2 hp r hm
theorem lQ {Z:World} {ρ:PH} {L:List bK} {w:World} (p0:Node) (aI:Value) (bD:aH ρ aI p0.kids) (hp:Hp Z ρ (L) w) (r:(List Span)) (hm:gX p0=some r):
  Calls Tryz.prog 37 #[(.agg #[(Iv p0.kind),(.string p0.text),(Iv p0.at_),(Iv p0.fin),aI])] w (Ret fun v w'=>∃(vr1:Value),v=vr1∧Hp Z ρ (aC 70 vr1 r::L) w'):=by
 refine enter (N:=6) Tryz.func37 rfl rfl [(0,(.agg #[(Iv p0.kind),(.string p0.text),(Iv p0.at_),(Iv p0.fin),aI]))] rfl (bC ⟨rfl,trivial⟩) fun a hE=>?_
 unfold gX at hm
 refine aG (aA ?_)
 refine iI (wk0 rfl) rfl rfl hE hp rfl (v:=(.agg #[(Iv p0.kind),(.string p0.text),(Iv p0.at_),(Iv p0.fin),aI])) rfl ?_
 intro a w b1 hE hp
 have hp:=r1 hp
 refine S hE 1 rfl fun a hE=>aB (aG ?_)
 refine aA ?_
 refine fP (wk0 rfl) rfl rfl hE hp rfl [] trivial [] 70 (fun w=>by simp[Instr.buildSlice,Instr.fill,Value.cells,go_sem]) ?_
 intro a w b2 hE hp
 have hp:=r2 hp
 refine V hE hp rfl (aK rfl hE rfl (fun w hw=>aW (cs:=[(Iv p0.kind),(.string p0.text),(Iv p0.at_),(Iv p0.fin),aI]) bY (Hp.cN 1 rfl 0 _ (aS rfl) w hw))) fun a hE=>?_
 have hp:=(hp.get 0 rfl).imp (qQ (l:=(([]:List Span):List Span)) (n:=0) rfl (by decide) rfl)
 have hp:=r2 hp
 obtain⟨x1,ex1,hm⟩:=bnd hm
 refine s_call (wk0 rfl) rfl rfl hE rfl [(.slice (some ⟨b2,0,none⟩) 0 0),(.agg #[(Iv p0.kind),(.string p0.text),(Iv p0.at_),(Iv p0.fin),aI]),(Iv (-1))] ⟨rfl,rfl,rfl,trivial⟩ ent62 (aD6 ([]:List Span) (.slice (some ⟨b2,0,none⟩) 0 0) p0 aI bD (-1) hp x1 ex1) Ret.ret ?_
 intro vr1 a w hR hE
 obtain⟨u,rfl,hp⟩:=Ret.of hR
 have hp:=r2 hp
 refine S hE 1 rfl fun a hE=>aB (bZ ?_)
 obtain rfl:=oj hm
 exact gJ hE rfl rfl ⟨_,rfl,_,rfl,((hp.get 1 rfl).drop)⟩
theorem aD5 {Z:World} {ρ:PH} {L:List bK} {w:World} (p0:Node) (aI:Value) (bD:aH ρ aI p0.kids) (p1:Node) (aJ:Value) (bH:aH ρ aJ p1.kids) (p2:(List Opn)) (vp2:Value) (hp2:aH ρ vp2 p2) (hp:Hp Z ρ (L) w) (r:Bool) (hm:oJ p0 p1 p2=some r):
  Calls Tryz.prog 12 #[(.agg #[(Iv p0.kind),(.string p0.text),(Iv p0.at_),(Iv p0.fin),aI]),(.agg #[(Iv p1.kind),(.string p1.text),(Iv p1.at_),(Iv p1.fin),aJ]),vp2] w (Ret fun v w'=>v=(.bool r)∧Hp Z ρ (L) w'):=by
 refine enter (N:=169) Tryz.func12 rfl rfl [(0,(.agg #[(Iv p0.kind),(.string p0.text),(Iv p0.at_),(Iv p0.fin),aI])),(1,(.agg #[(Iv p1.kind),(.string p1.text),(Iv p1.at_),(Iv p1.fin),aJ])),(2,vp2)] rfl (bC ⟨rfl,rfl,rfl,trivial⟩) fun a hE=>?_
 unfold oJ at hm
 refine aG (aA ?_)
 refine iI (wk0 rfl) rfl rfl hE hp rfl (v:=(.agg #[(Iv p0.kind),(.string p0.text),(Iv p0.at_),(Iv p0.fin),aI])) rfl ?_
 intro a w b1 hE hp
 have hp:=r1 hp
 refine iI (wk0 rfl) rfl rfl hE hp rfl (v:=(.agg #[(Iv p1.kind),(.string p1.text),(Iv p1.at_),(Iv p1.fin),aJ])) rfl ?_
 intro a w b2 hE hp
 have hp:=r2 hp
 refine S hE 1 rfl fun a hE=>aB (aG ?_)
 obtain⟨x1,ex1,hm⟩:=bnd hm
 obtain⟨x2,ex2,hm⟩:=bnd hm
 have hp:=hp.drew
 refine fG ([([],At0 Z ρ),([],At1 Z ρ (Pt b2 (.cells #[(Iv p1.kind),(.string p1.text),(Iv p1.at_),(Iv p1.fin),aJ] 24 (0,0)))),([],At1 Z ρ (Pt b1 (.cells #[(Iv p0.kind),(.string p0.text),(Iv p0.at_),(Iv p0.fin),aI] 24 (0,0))))]:Facts) (fun a w=>∃y4:Value,∃y3:Value,Env 169 [(2,vp2),(7,y3),(8,y4)] a∧Hp Z ρ (aC 70 y4 x2::aC 70 y3 x1::Pt b2 (.cells #[(Iv p1.kind),(.string p1.text),(Iv p1.at_),(Iv p1.fin),aJ] 24 (0,0))::Pt b1 (.cells #[(Iv p0.kind),(.string p0.text),(Iv p0.at_),(Iv p0.fin),aI] 24 (0,0))::L) w) (by kernel_rfl) ⟨fun _=>⟨_,hp⟩,fun _=>⟨_,(hp.get 0 rfl)⟩,fun _=>⟨_,(hp.get 1 rfl)⟩,trivial⟩ (fun hS=>?_) ?_
 ·
  generalize w.drew=w at hS hp⊢
  refine T 0 2 hE hS rfl rfl rfl (by kernel_rfl) (fun _=>aK rfl hE rfl (fun w hw=>aW (cs:=[(Iv p0.kind),(.string p0.text),(Iv p0.at_),(Iv p0.fin),aI]) bY (Hp.cN 0 rfl 0 _ (aS rfl) w hw))) fun a hE hS=>T 2 1 hE hS rfl rfl rfl (by kernel_rfl) (fun _=>aK rfl hE rfl (fun w hw=>aW (cs:=[(Iv p1.kind),(.string p1.text),(Iv p1.at_),(Iv p1.fin),aJ]) bY (Hp.cN 0 rfl 0 _ (aS rfl) w hw))) fun a hE hS=>?_
  refine W1 1 (by kernel_rfl) rfl ?_
  refine s_call (wk0 rfl) rfl rfl hE rfl [(.agg #[(Iv p0.kind),(.string p0.text),(Iv p0.at_),(Iv p0.fin),aI])] ⟨rfl,trivial⟩ ent37 (lQ p0 aI bD hp x1 ex1) Ret.ret ?_
  intro vr3 a w hR hE
  obtain⟨u,rfl,hp⟩:=Ret.of hR
  have hp:=r3 hp
  refine aB (aF ⟨gp0 hp,gp 1 hp rfl,gp 2 hp rfl,trivial⟩ fun hS=>?_)
  refine W1 3 (by kernel_rfl) rfl ?_
  refine s_call (wk0 rfl) rfl rfl hE rfl [(.agg #[(Iv p1.kind),(.string p1.text),(Iv p1.at_),(Iv p1.fin),aJ])] ⟨rfl,trivial⟩ ent37 (lQ p1 aJ bH hp x2 ex2) Ret.ret ?_
  intro vr4 a w hR hE
  obtain⟨u,rfl,hp⟩:=Ret.of hR
  have hp:=r4 hp
  refine aB (aF ⟨gp0 hp,gp 2 hp rfl,gp 3 hp rfl,trivial⟩ fun hS=>?_)
  refine Ts [4,5] hE hS rfl rfl (by kernel_rfl) fun a hE hS=>?_
  exact bP (by kernel_rfl) ⟨_,_,hE.cut ⟨rfl,rfl,rfl,trivial⟩,hp⟩
 rintro a w ⟨y4,y3,hE,hp⟩
 refine aG (aG ?_)
 refine aA (S hE 1 rfl fun a hE=>?_)
 refine V hE hp rfl (bT rfl hE rfl (aH.len hp2 dW)) fun a hE=>S hE 1 rfl fun a hE=>V hE hp rfl (bT rfl hE rfl (aC.len hp 1 rfl iQ)) fun a hE=>S hE 1 rfl fun a hE=>V hE hp rfl (bT rfl hE rfl (aC.len hp 0 rfl iQ)) fun a hE=>?_
 obtain⟨x3,ex3,hm⟩:=bnd hm
 refine V hE hp rfl (bF rfl hE rfl rfl (aO ex3)) fun a hE=>S hE 1 rfl fun a hE=>aB ?_
 refine dE hE rfl (fun hc1=>?_) (fun hc1=>?_)
 ·replace hm:=(it hc1).symm.trans hm
  refine aG (aA ?_)
  refine S hE 1 rfl fun a hE=>aB (bZ ?_)
  obtain rfl:=oj hm
  exact gJ hE rfl rfl ⟨_,rfl,rfl,(((((((hp.get 3 rfl).drop).get 2 rfl).drop).get 1 rfl).drop).drop)⟩
 replace hm:=(ie hc1).symm.trans hm
 refine aZ (aG ?_)
 refine aA (S hE 1 rfl fun a hE=>?_)
 refine aB (aG ?_)
 refine aA (S hE 1 rfl fun a hE=>?_)
 refine aB (aG ?_)
 refine aA (S hE 1 rfl fun a hE=>?_)
 refine V hE hp rfl (bT rfl hE rfl (aC.len hp 0 rfl iQ)) fun a hE=>?_
 obtain⟨x4,ex4,hm⟩:=bnd hm
 refine aF4 (wk0 rfl) rfl rfl hE hp rfl (El:=4) (bytes:=1) (by kernel_rfl) (false:Bool) (by kernel_rfl) (by kernel_rfl) rfl rfl ex4 ?_
 intro v1 a w hE hp
 have hp:=r5 hp
 refine S hE 1 rfl fun a hE=>aB (aG ?_)
 refine aG (aA ?_)
 refine S hE 1 rfl fun a hE=>aB ?_
 obtain⟨b3,hc2,hm⟩:=bnd hm
 refine dH (fun a w=>∃s:(Int×(List Bool)),b3= .brk s∧(∃(w5:Value),Env 169 [(2,vp2),(7,y3),(8,y4),(9,(Iv s.1)),(11,w5)] a∧Hp Z ρ (aC 4 w5 s.2::aC 70 y4 x2::aC 70 y3 x1::Pt b2 (.cells #[(Iv p1.kind),(.string p1.text),(Iv p1.at_),(Iv p1.fin),aJ] 24 (0,0))::Pt b1 (.cells #[(Iv p0.kind),(.string p0.text),(Iv p0.at_),(Iv p0.fin),aI] 24 (0,0))::L) w)) ?_ ?_
 ·refine dZ hc2 (fun s a w=>∃(w5:Value),Env 169 [(2,vp2),(7,y3),(8,y4),(9,(Iv s.1)),(10,(Iv s.2.1)),(11,w5),(12,(Iv s.2.2.1))] a∧Hp Z ρ (aC 4 w5 s.2.2.2::aC 70 y4 x2::aC 70 y3 x1::Pt b2 (.cells #[(Iv p1.kind),(.string p1.text),(Iv p1.at_),(Iv p1.fin),aJ] 24 (0,0))::Pt b1 (.cells #[(Iv p0.kind),(.string p0.text),(Iv p0.at_),(Iv p0.fin),aI] 24 (0,0))::L) w) ?_ ?_
  ·exact⟨_,hE.cut ⟨rfl,rfl,rfl,rfl,rfl,rfl,rfl,trivial⟩,hp⟩
  rintro⟨aP,aU,dR,fQ⟩ st a w ⟨w5,hE,hp⟩ hl1
  dsimp only at hE hp hl1
  unfold kT at hl1
  refine aG (aG ?_)
  refine aA (S hE 2 rfl fun a hE=>?_)
  refine V hE hp rfl (bT rfl hE rfl (aH.len hp2 dW)) fun a hE=>S hE 1 rfl fun a hE=>aB ?_
  refine dE hE rfl (fun hc3=>?_) (fun hc3=>?_)
  ·replace hl1:=(it hc3).symm.trans hl1
   refine aZ (aG ?_)
   refine dM (aG ?_)
   refine aA (S hE 2 rfl fun a hE=>?_)
   obtain⟨x5,ex5,hl1⟩:=bnd hl1
   obtain⟨b4,b4o,b4c,b4r,b4k,b4f⟩:=aH.at hp2 dW ex5
   obtain rfl:b4c=Enc.enc x5:=b4k
   have b4f:AtP ρ b4 b4o [(Iv x5.a),(Iv x5.b)]:=b4f
   refine V hE hp rfl (aN rfl hE rfl rfl b4r) fun a hE=>V hE hp rfl (aK rfl hE rfl (fun w hw=>aW (cs:=[(Iv x5.a),(Iv x5.b)]) fF (fun j u hj=>cell_of hw.le (b4f j u hj)))) fun a hE=>?_
   refine dL (wk0 rfl) rfl rfl hE hp rfl [(Iv 0),(Iv 0)] (fun w=>by simp[Instr.alloc,go_sem]<;>rfl) ?_
   intro a w b5 hE hp
   have hp:=r6 hp
   refine aX (wk0 rfl) rfl hE hp rfl rfl rfl 0 rfl fF.size_ rfl (aQ ⟨rfl,rfl,trivial⟩) [(Iv x5.a),(Iv x5.b)] rfl ?_
   intro w hp
   have hp:=r6 hp
   refine aB (aG ?_)
   refine aG (aA ?_)
   refine V hE hp rfl (xf hE fA rfl rfl) fun a hE=>V hE hp rfl (xl hE aT 0 rfl rfl rfl rfl) fun a hE=>S hE 1 rfl fun a hE=>aB ?_
   have hE:=hE.cut (E':=[(2,vp2),(7,y3),(8,y4),(9,(Iv aP)),(10,(Iv aU)),(11,w5),(12,(Iv dR)),(13,(Pv b5 0)),(46,(.bool (decide (0≤x5.a))))]) ⟨rfl,rfl,rfl,rfl,rfl,rfl,rfl,rfl,rfl,trivial⟩
   refine dE hE rfl (fun hc4=>?_) (fun hc4=>?_)
   ·replace hl1:=(it hc4).symm.trans hl1
    refine aG (aG ?_)
    refine aA (V hE hp rfl (xf hE fA rfl rfl) fun a hE=>?_)
    refine V hE hp rfl (xl hE aT 0 rfl rfl rfl rfl) fun a hE=>S hE 3 rfl fun a hE=>?_
    refine iL [_,_,_,_,_,_] (fun a w=>Env 169 [(57,(.bool ((!decide (x5.a=dR))||(decide ((x1.length:Int)≤x5.a))))),(2,vp2),(7,y3),(8,y4),(9,(Iv aP)),(10,(Iv aU)),(11,w5),(12,(Iv dR)),(13,(Pv b5 0))] a∧Hp Z ρ (Pt b5 (.cells #[(Iv x5.a),(Iv x5.b)] 46 (0,0))::aC 4 w5 fQ::aC 70 y4 x2::aC 70 y3 x1::Pt b2 (.cells #[(Iv p1.kind),(.string p1.text),(Iv p1.at_),(Iv p1.fin),aJ] 24 (0,0))::Pt b1 (.cells #[(Iv p0.kind),(.string p0.text),(Iv p0.at_),(Iv p0.fin),aI] 24 (0,0))::L) w) ?_ ?_
    ·rcases Bool.eq_false_or_eq_true (!decide (x5.a=dR)) with hc5|hc5
     ·
      refine Gk hE hc5 rfl fun a hE=>Gk hE hc5 rfl fun a hE=>Gk hE hc5 rfl fun a hE=>Gk hE hc5 rfl fun a hE=>Gk hE hc5 rfl fun a hE=>pk1 hE hc5 rfl rfl rfl rfl fun a hE=>?_
      have hE:=hE.eqv (v':=(.bool ((!decide (x5.a=dR))||(decide ((x1.length:Int)≤x5.a))))) (by rw[hc5];rfl)
      exact aB ⟨hE.cut ⟨rfl,rfl,rfl,rfl,rfl,rfl,rfl,rfl,rfl,trivial⟩,hp⟩
     refine G hE hp hc5 rfl (xf hE fA rfl rfl) fun a hE=>G hE hp hc5 rfl (xl hE aT 0 rfl rfl rfl rfl) fun a hE=>Gs hE hc5 rfl rfl fun a hE=>G hE hp hc5 rfl (bT rfl hE rfl (aC.len hp 3 rfl iQ)) fun a hE=>Gs hE hc5 rfl rfl fun a hE=>pk0 hE hc5 rfl rfl rfl rfl fun a hE=>?_
     have hE:=hE.eqv (v':=(.bool ((!decide (x5.a=dR))||(decide ((x1.length:Int)≤x5.a))))) (by rw[hc5];rfl)
     exact aB ⟨hE.cut ⟨rfl,rfl,rfl,rfl,rfl,rfl,rfl,rfl,rfl,trivial⟩,hp⟩
    rintro a w ⟨hE,hp⟩
    refine S hE 1 rfl fun a hE=>?_
    refine iL [_,_,_,_] (fun a w=>Env 169 [(62,(.bool (((!decide (x5.a=dR))||(decide ((x1.length:Int)≤x5.a)))||(decide (x5.b<(-1)))))),(2,vp2),(7,y3),(8,y4),(9,(Iv aP)),(10,(Iv aU)),(11,w5),(12,(Iv dR)),(13,(Pv b5 0))] a∧Hp Z ρ (Pt b5 (.cells #[(Iv x5.a),(Iv x5.b)] 46 (0,0))::aC 4 w5 fQ::aC 70 y4 x2::aC 70 y3 x1::Pt b2 (.cells #[(Iv p1.kind),(.string p1.text),(Iv p1.at_),(Iv p1.fin),aJ] 24 (0,0))::Pt b1 (.cells #[(Iv p0.kind),(.string p0.text),(Iv p0.at_),(Iv p0.fin),aI] 24 (0,0))::L) w) ?_ ?_
    ·rcases Bool.eq_false_or_eq_true ((!decide (x5.a=dR))||(decide ((x1.length:Int)≤x5.a))) with hc6|hc6
     ·
      refine Gk hE hc6 rfl fun a hE=>Gk hE hc6 rfl fun a hE=>Gk hE hc6 rfl fun a hE=>pk1 hE hc6 rfl rfl rfl rfl fun a hE=>?_
      have hE:=hE.eqv (v':=(.bool (((!decide (x5.a=dR))||(decide ((x1.length:Int)≤x5.a)))||(decide (x5.b<(-1)))))) (by rw[hc6];rfl)
      exact aB ⟨hE.cut ⟨rfl,rfl,rfl,rfl,rfl,rfl,rfl,rfl,rfl,trivial⟩,hp⟩
     refine G hE hp hc6 rfl (xf hE dK rfl rfl) fun a hE=>G hE hp hc6 rfl (xl hE aT 0 rfl rfl rfl rfl) fun a hE=>Gs hE hc6 rfl rfl fun a hE=>pk0 hE hc6 rfl rfl rfl rfl fun a hE=>?_
     have hE:=hE.eqv (v':=(.bool (((!decide (x5.a=dR))||(decide ((x1.length:Int)≤x5.a)))||(decide (x5.b<(-1)))))) (by rw[hc6];rfl)
     exact aB ⟨hE.cut ⟨rfl,rfl,rfl,rfl,rfl,rfl,rfl,rfl,rfl,trivial⟩,hp⟩
    rintro a w ⟨hE,hp⟩
    refine S hE 1 rfl fun a hE=>?_
    refine iL [_,_,_,_,_,_] (fun a w=>Env 169 [(69,(.bool ((((!decide (x5.a=dR))||(decide ((x1.length:Int)≤x5.a)))||(decide (x5.b<(-1))))||(decide ((x2.length:Int)≤x5.b))))),(2,vp2),(7,y3),(8,y4),(9,(Iv aP)),(10,(Iv aU)),(11,w5),(12,(Iv dR)),(13,(Pv b5 0))] a∧Hp Z ρ (Pt b5 (.cells #[(Iv x5.a),(Iv x5.b)] 46 (0,0))::aC 4 w5 fQ::aC 70 y4 x2::aC 70 y3 x1::Pt b2 (.cells #[(Iv p1.kind),(.string p1.text),(Iv p1.at_),(Iv p1.fin),aJ] 24 (0,0))::Pt b1 (.cells #[(Iv p0.kind),(.string p0.text),(Iv p0.at_),(Iv p0.fin),aI] 24 (0,0))::L) w) ?_ ?_
    ·rcases Bool.eq_false_or_eq_true (((!decide (x5.a=dR))||(decide ((x1.length:Int)≤x5.a)))||(decide (x5.b<(-1)))) with hc7|hc7
     ·
      refine Gk hE hc7 rfl fun a hE=>Gk hE hc7 rfl fun a hE=>Gk hE hc7 rfl fun a hE=>Gk hE hc7 rfl fun a hE=>Gk hE hc7 rfl fun a hE=>pk1 hE hc7 rfl rfl rfl rfl fun a hE=>?_
      have hE:=hE.eqv (v':=(.bool ((((!decide (x5.a=dR))||(decide ((x1.length:Int)≤x5.a)))||(decide (x5.b<(-1))))||(decide ((x2.length:Int)≤x5.b))))) (by rw[hc7];rfl)
      exact aB ⟨hE.cut ⟨rfl,rfl,rfl,rfl,rfl,rfl,rfl,rfl,rfl,trivial⟩,hp⟩
     refine G hE hp hc7 rfl (xf hE dK rfl rfl) fun a hE=>G hE hp hc7 rfl (xl hE aT 0 rfl rfl rfl rfl) fun a hE=>Gs hE hc7 rfl rfl fun a hE=>G hE hp hc7 rfl (bT rfl hE rfl (aC.len hp 2 rfl iQ)) fun a hE=>Gs hE hc7 rfl rfl fun a hE=>pk0 hE hc7 rfl rfl rfl rfl fun a hE=>?_
     have hE:=hE.eqv (v':=(.bool ((((!decide (x5.a=dR))||(decide ((x1.length:Int)≤x5.a)))||(decide (x5.b<(-1))))||(decide ((x2.length:Int)≤x5.b))))) (by rw[hc7];rfl)
     exact aB ⟨hE.cut ⟨rfl,rfl,rfl,rfl,rfl,rfl,rfl,rfl,rfl,trivial⟩,hp⟩
    rintro a w ⟨hE,hp⟩
    refine aB ?_
    refine dE hE rfl (fun hc8=>?_) (fun hc8=>?_)
    ·replace hl1:=(it hc8).symm.trans hl1
     refine aG (aA ?_)
     refine S hE 1 rfl fun a hE=>aB (bZ ?_)
     refine⟨_,(oj hl1).symm,fun hb=>?_⟩
     subst hb
     obtain rfl:=oj hm
     exact gJ hE rfl rfl ⟨_,rfl,rfl,(((((((((((hp.get 5 rfl).drop).get 4 rfl).drop).get 3 rfl).drop).get 2 rfl).drop).get 1 rfl).drop).drop)⟩
    replace hl1:=(ie hc8).symm.trans hl1
    refine aZ (aA ?_)
    refine S hE 1 rfl fun a hE=>?_
    obtain⟨x6,ex6,hl1⟩:=bnd hl1
    refine V hE hp rfl (bF rfl hE rfl rfl (aO ex6)) fun a hE=>S hE 1 rfl fun a hE=>aB (aG ?_)
    refine aA (V hE hp rfl (xf hE dK rfl rfl) fun a hE=>?_)
    refine V hE hp rfl (xl hE aT 0 rfl rfl rfl rfl) fun a hE=>S hE 1 rfl fun a hE=>aB ?_
    refine dE hE rfl (fun hc9=>?_) (fun hc9=>?_)
    ·replace hl1:=(it hc9).symm.trans hl1
     refine aG (aG ?_)
     refine aA (S hE 1 rfl fun a hE=>?_)
     refine V hE hp rfl (xf hE dK rfl rfl) fun a hE=>V hE hp rfl (xl hE aT 0 rfl rfl rfl rfl) fun a hE=>?_
     obtain⟨x7,ex7,hl1⟩:=bnd hl1
     obtain⟨b6,b6o,b6r,b6v,b6f⟩:=aC.at hp 1 rfl rH ex7
     refine V hE hp rfl (aN rfl hE rfl rfl b6r) fun a hE=>V hE hp rfl (aK rfl hE rfl (fun w hw=>aV vH (b6f 0 _ rfl _ _ w (hw.get 1 rfl)))) fun a hE=>aB ?_
     refine dE hE rfl (fun hc10=>?_) (fun hc10=>?_)
     ·replace hl1:=(it hc10).symm.trans hl1
      refine aG (aA ?_)
      refine S hE 1 rfl fun a hE=>aB (bZ ?_)
      refine⟨_,(oj hl1).symm,fun hb=>?_⟩
      subst hb
      obtain rfl:=oj hm
      exact gJ hE rfl rfl ⟨_,rfl,rfl,(((((((((((hp.get 5 rfl).drop).get 4 rfl).drop).get 3 rfl).drop).get 2 rfl).drop).get 1 rfl).drop).drop)⟩
     replace hl1:=(ie hc10).symm.trans hl1
     refine aZ (aA ?_)
     refine S hE 1 rfl fun a hE=>V hE hp rfl (xf hE dK rfl rfl) fun a hE=>V hE hp rfl (xl hE aT 0 rfl rfl rfl rfl) fun a hE=>?_
     obtain⟨x8,ex8,hl1⟩:=bnd hl1
     obtain⟨b7,b7o,b7r,b7v,b7f⟩:=aC.at hp 1 rfl rH ex8
     refine V hE hp rfl (aN rfl hE rfl rfl b7r) fun a hE=>?_
     refine zF (wk0 rfl) rfl hE hp rfl rfl rfl 1 rfl ex8 b7v 0 (e':=true) vH.size_ rfl rfl rfl ⟨rfl,rfl⟩ ?_
     intro w hp
     have hp:=r6 hp
     refine aB ?_
     have hE:=hE.cut (E':=[(2,vp2),(7,y3),(8,y4),(9,(Iv x6)),(10,(Iv aU)),(11,w5),(12,(Iv dR))]) ⟨rfl,rfl,rfl,rfl,rfl,rfl,rfl,trivial⟩
     refine aA (S hE 1 rfl fun a hE=>?_)
     obtain⟨x9,ex9,hl1⟩:=bnd hl1
     refine V hE hp rfl (bF rfl hE rfl rfl (aO ex9)) fun a hE=>S hE 1 rfl fun a hE=>aB ?_
     exact⟨_,(oj hl1).symm,_,hE.cut ⟨rfl,rfl,rfl,rfl,rfl,rfl,rfl,trivial⟩,(hp.drop)⟩
    replace hl1:=(ie hc9).symm.trans hl1
    refine aZ (aA ?_)
    refine S hE 1 rfl fun a hE=>?_
    obtain⟨x10,ex10,hl1⟩:=bnd hl1
    refine V hE hp rfl (bF rfl hE rfl rfl (aO ex10)) fun a hE=>S hE 1 rfl fun a hE=>aB ?_
    exact⟨_,(oj hl1).symm,_,hE.cut ⟨rfl,rfl,rfl,rfl,rfl,rfl,rfl,trivial⟩,(hp.drop)⟩
   replace hl1:=(ie hc4).symm.trans hl1
   refine aG (aG ?_)
   refine aA (V hE hp rfl (xf hE fA rfl rfl) fun a hE=>?_)
   refine V hE hp rfl (xl hE aT 0 rfl rfl rfl rfl) fun a hE=>S hE 2 rfl fun a hE=>?_
   refine iL [_,_,_,_,_] (fun a w=>Env 169 [(80,(.bool ((!decide (x5.a=(-1)))||(decide (x5.b≤aU))))),(2,vp2),(7,y3),(8,y4),(9,(Iv aP)),(11,w5),(12,(Iv dR)),(13,(Pv b5 0))] a∧Hp Z ρ (Pt b5 (.cells #[(Iv x5.a),(Iv x5.b)] 46 (0,0))::aC 4 w5 fQ::aC 70 y4 x2::aC 70 y3 x1::Pt b2 (.cells #[(Iv p1.kind),(.string p1.text),(Iv p1.at_),(Iv p1.fin),aJ] 24 (0,0))::Pt b1 (.cells #[(Iv p0.kind),(.string p0.text),(Iv p0.at_),(Iv p0.fin),aI] 24 (0,0))::L) w) ?_ ?_
   ·rcases Bool.eq_false_or_eq_true (!decide (x5.a=(-1))) with hc11|hc11
    ·
     refine Gk hE hc11 rfl fun a hE=>Gk hE hc11 rfl fun a hE=>Gk hE hc11 rfl fun a hE=>Gk hE hc11 rfl fun a hE=>pk1 hE hc11 rfl rfl rfl rfl fun a hE=>?_
     have hE:=hE.eqv (v':=(.bool ((!decide (x5.a=(-1)))||(decide (x5.b≤aU))))) (by rw[hc11];rfl)
     exact aB ⟨hE.cut ⟨rfl,rfl,rfl,rfl,rfl,rfl,rfl,rfl,trivial⟩,hp⟩
    refine G hE hp hc11 rfl (xf hE dK rfl rfl) fun a hE=>G hE hp hc11 rfl (xl hE aT 0 rfl rfl rfl rfl) fun a hE=>Gs hE hc11 rfl rfl fun a hE=>Gs hE hc11 rfl rfl fun a hE=>pk0 hE hc11 rfl rfl rfl rfl fun a hE=>?_
    have hE:=hE.eqv (v':=(.bool ((!decide (x5.a=(-1)))||(decide (x5.b≤aU))))) (by rw[hc11];rfl)
    exact aB ⟨hE.cut ⟨rfl,rfl,rfl,rfl,rfl,rfl,rfl,rfl,trivial⟩,hp⟩
   rintro a w ⟨hE,hp⟩
   refine S hE 1 rfl fun a hE=>?_
   refine iL [_,_,_,_,_,_] (fun a w=>Env 169 [(87,(.bool (((!decide (x5.a=(-1)))||(decide (x5.b≤aU)))||(decide ((x2.length:Int)≤x5.b))))),(2,vp2),(7,y3),(8,y4),(9,(Iv aP)),(11,w5),(12,(Iv dR)),(13,(Pv b5 0))] a∧Hp Z ρ (Pt b5 (.cells #[(Iv x5.a),(Iv x5.b)] 46 (0,0))::aC 4 w5 fQ::aC 70 y4 x2::aC 70 y3 x1::Pt b2 (.cells #[(Iv p1.kind),(.string p1.text),(Iv p1.at_),(Iv p1.fin),aJ] 24 (0,0))::Pt b1 (.cells #[(Iv p0.kind),(.string p0.text),(Iv p0.at_),(Iv p0.fin),aI] 24 (0,0))::L) w) ?_ ?_
   ·rcases Bool.eq_false_or_eq_true ((!decide (x5.a=(-1)))||(decide (x5.b≤aU))) with hc12|hc12
    ·
     refine Gk hE hc12 rfl fun a hE=>Gk hE hc12 rfl fun a hE=>Gk hE hc12 rfl fun a hE=>Gk hE hc12 rfl fun a hE=>Gk hE hc12 rfl fun a hE=>pk1 hE hc12 rfl rfl rfl rfl fun a hE=>?_
     have hE:=hE.eqv (v':=(.bool (((!decide (x5.a=(-1)))||(decide (x5.b≤aU)))||(decide ((x2.length:Int)≤x5.b))))) (by rw[hc12];rfl)
     exact aB ⟨hE.cut ⟨rfl,rfl,rfl,rfl,rfl,rfl,rfl,rfl,trivial⟩,hp⟩
    refine G hE hp hc12 rfl (xf hE dK rfl rfl) fun a hE=>G hE hp hc12 rfl (xl hE aT 0 rfl rfl rfl rfl) fun a hE=>Gs hE hc12 rfl rfl fun a hE=>G hE hp hc12 rfl (bT rfl hE rfl (aC.len hp 2 rfl iQ)) fun a hE=>Gs hE hc12 rfl rfl fun a hE=>pk0 hE hc12 rfl rfl rfl rfl fun a hE=>?_
    have hE:=hE.eqv (v':=(.bool (((!decide (x5.a=(-1)))||(decide (x5.b≤aU)))||(decide ((x2.length:Int)≤x5.b))))) (by rw[hc12];rfl)
    exact aB ⟨hE.cut ⟨rfl,rfl,rfl,rfl,rfl,rfl,rfl,rfl,trivial⟩,hp⟩
   rintro a w ⟨hE,hp⟩
   refine aB ?_
   refine dE hE rfl (fun hc13=>?_) (fun hc13=>?_)
   ·replace hl1:=(it hc13).symm.trans hl1
    refine aG (aA ?_)
    refine S hE 1 rfl fun a hE=>aB (bZ ?_)
    refine⟨_,(oj hl1).symm,fun hb=>?_⟩
    subst hb
    obtain rfl:=oj hm
    exact gJ hE rfl rfl ⟨_,rfl,rfl,(((((((((((hp.get 5 rfl).drop).get 4 rfl).drop).get 3 rfl).drop).get 2 rfl).drop).get 1 rfl).drop).drop)⟩
   replace hl1:=(ie hc13).symm.trans hl1
   refine aZ (aA ?_)
   refine V hE hp rfl (xf hE dK rfl rfl) fun a hE=>V hE hp rfl (xl hE aT 0 rfl rfl rfl rfl) fun a hE=>S hE 1 rfl fun a hE=>aB (aG ?_)
   refine aA (V hE hp rfl (xf hE dK rfl rfl) fun a hE=>?_)
   refine V hE hp rfl (xl hE aT 0 rfl rfl rfl rfl) fun a hE=>S hE 1 rfl fun a hE=>aB ?_
   refine dE hE rfl (fun hc14=>?_) (fun hc14=>?_)
   ·replace hl1:=(it hc14).symm.trans hl1
    refine aG (aG ?_)
    refine aA (S hE 1 rfl fun a hE=>?_)
    refine V hE hp rfl (xf hE dK rfl rfl) fun a hE=>V hE hp rfl (xl hE aT 0 rfl rfl rfl rfl) fun a hE=>?_
    obtain⟨x11,ex11,hl1⟩:=bnd hl1
    obtain⟨b8,b8o,b8r,b8v,b8f⟩:=aC.at hp 1 rfl rH ex11
    refine V hE hp rfl (aN rfl hE rfl rfl b8r) fun a hE=>V hE hp rfl (aK rfl hE rfl (fun w hw=>aV vH (b8f 0 _ rfl _ _ w (hw.get 1 rfl)))) fun a hE=>aB ?_
    refine dE hE rfl (fun hc15=>?_) (fun hc15=>?_)
    ·replace hl1:=(it hc15).symm.trans hl1
     refine aG (aA ?_)
     refine S hE 1 rfl fun a hE=>aB (bZ ?_)
     refine⟨_,(oj hl1).symm,fun hb=>?_⟩
     subst hb
     obtain rfl:=oj hm
     exact gJ hE rfl rfl ⟨_,rfl,rfl,(((((((((((hp.get 5 rfl).drop).get 4 rfl).drop).get 3 rfl).drop).get 2 rfl).drop).get 1 rfl).drop).drop)⟩
    replace hl1:=(ie hc15).symm.trans hl1
    refine aZ (aA ?_)
    refine S hE 1 rfl fun a hE=>V hE hp rfl (xf hE dK rfl rfl) fun a hE=>V hE hp rfl (xl hE aT 0 rfl rfl rfl rfl) fun a hE=>?_
    obtain⟨x12,ex12,hl1⟩:=bnd hl1
    obtain⟨b9,b9o,b9r,b9v,b9f⟩:=aC.at hp 1 rfl rH ex12
    refine V hE hp rfl (aN rfl hE rfl rfl b9r) fun a hE=>?_
    refine zF (wk0 rfl) rfl hE hp rfl rfl rfl 1 rfl ex12 b9v 0 (e':=true) vH.size_ rfl rfl rfl ⟨rfl,rfl⟩ ?_
    intro w hp
    have hp:=r6 hp
    refine aB ?_
    have hE:=hE.cut (E':=[(2,vp2),(7,y3),(8,y4),(9,(Iv aP)),(10,(Iv x5.b)),(11,w5),(12,(Iv dR))]) ⟨rfl,rfl,rfl,rfl,rfl,rfl,rfl,trivial⟩
    refine aA (S hE 1 rfl fun a hE=>?_)
    obtain⟨x13,ex13,hl1⟩:=bnd hl1
    refine V hE hp rfl (bF rfl hE rfl rfl (aO ex13)) fun a hE=>S hE 1 rfl fun a hE=>aB ?_
    exact⟨_,(oj hl1).symm,_,hE.cut ⟨rfl,rfl,rfl,rfl,rfl,rfl,rfl,trivial⟩,(hp.drop)⟩
   replace hl1:=(ie hc14).symm.trans hl1
   refine aZ (aA ?_)
   refine S hE 1 rfl fun a hE=>?_
   obtain⟨x14,ex14,hl1⟩:=bnd hl1
   refine V hE hp rfl (bF rfl hE rfl rfl (aO ex14)) fun a hE=>S hE 1 rfl fun a hE=>aB ?_
   exact⟨_,(oj hl1).symm,_,hE.cut ⟨rfl,rfl,rfl,rfl,rfl,rfl,rfl,trivial⟩,(hp.drop)⟩
  replace hl1:=(ie hc3).symm.trans hl1
  refine dS ?_
  refine⟨_,(oj hl1).symm,fun hbb=>?_⟩
  exact⟨_,hbb.symm,_,hE.cut ⟨rfl,rfl,rfl,rfl,rfl,trivial⟩,hp⟩
 rintro a w ⟨b3s,rfl,w5,hE,hp⟩
 dsimp only at hm
 refine aG (aG ?_)
 refine aA (S hE 2 rfl fun a hE=>?_)
 refine V hE hp rfl (bT rfl hE rfl (aC.len hp 2 rfl iQ)) fun a hE=>S hE 1 rfl fun a hE=>aB ?_
 refine dE hE rfl (fun hc16=>?_) (fun hc16=>?_)
 ·replace hm:=(it hc16).symm.trans hm
  refine aG (aA ?_)
  refine S hE 1 rfl fun a hE=>aB (bZ ?_)
  obtain rfl:=oj hm
  exact gJ hE rfl rfl ⟨_,rfl,rfl,(((((((((hp.get 4 rfl).drop).get 3 rfl).drop).get 2 rfl).drop).get 1 rfl).drop).drop)⟩
 replace hm:=(ie hc16).symm.trans hm
 refine aZ (aG ?_)
 refine aG (aA ?_)
 refine S hE 1 rfl fun a hE=>aB ?_
 obtain⟨b10,hc17,hm⟩:=bnd hm
 refine dH (fun a w=>∃s:Unit,b10= .brk s∧(Env 169 [(2,vp2),(7,y3),(8,y4)] a∧Hp Z ρ (aC 4 w5 b3s.2::aC 70 y4 x2::aC 70 y3 x1::Pt b2 (.cells #[(Iv p1.kind),(.string p1.text),(Iv p1.at_),(Iv p1.fin),aJ] 24 (0,0))::Pt b1 (.cells #[(Iv p0.kind),(.string p0.text),(Iv p0.at_),(Iv p0.fin),aI] 24 (0,0))::L) w)) ?_ ?_
 ·refine dZ hc17 (fun s a w=>Env 169 [(2,vp2),(7,y3),(8,y4),(11,w5),(14,(Iv s))] a∧Hp Z ρ (aC 4 w5 b3s.2::aC 70 y4 x2::aC 70 y3 x1::Pt b2 (.cells #[(Iv p1.kind),(.string p1.text),(Iv p1.at_),(Iv p1.fin),aJ] 24 (0,0))::Pt b1 (.cells #[(Iv p0.kind),(.string p0.text),(Iv p0.at_),(Iv p0.fin),aI] 24 (0,0))::L) w) ?_ ?_
  ·exact⟨hE.cut ⟨rfl,rfl,rfl,rfl,rfl,trivial⟩,hp⟩
  rintro bJ st a w ⟨hE,hp⟩ hl2
  unfold kU at hl2
  refine aG (aG ?_)
  refine aA (S hE 2 rfl fun a hE=>?_)
  refine V hE hp rfl (bT rfl hE rfl (aC.len hp 1 rfl iQ)) fun a hE=>S hE 1 rfl fun a hE=>aB ?_
  refine dE hE rfl (fun hc18=>?_) (fun hc18=>?_)
  ·replace hl2:=(it hc18).symm.trans hl2
   refine aZ (aG ?_)
   refine dM (aG ?_)
   refine aA (S hE 2 rfl fun a hE=>?_)
   obtain⟨x15,ex15,hl2⟩:=bnd hl2
   obtain⟨b11,b11o,b11r,b11v,b11f⟩:=aC.at hp 0 rfl rH ex15
   refine V hE hp rfl (aN rfl hE rfl rfl b11r) fun a hE=>V hE hp rfl (aK rfl hE rfl (fun w hw=>aV vH (b11f 0 _ rfl _ _ w (hw.get 0 rfl)))) fun a hE=>S hE 1 rfl fun a hE=>aB ?_
   refine dE hE rfl (fun hc19=>?_) (fun hc19=>?_)
   ·replace hl2:=(it hc19).symm.trans hl2
    refine aG (aA ?_)
    refine S hE 1 rfl fun a hE=>aB (bZ ?_)
    refine⟨_,(oj hl2).symm,fun hb=>?_⟩
    subst hb
    obtain rfl:=oj hm
    exact gJ hE rfl rfl ⟨_,rfl,rfl,(((((((((hp.get 4 rfl).drop).get 3 rfl).drop).get 2 rfl).drop).get 1 rfl).drop).drop)⟩
   replace hl2:=(ie hc19).symm.trans hl2
   refine aZ (aA ?_)
   refine S hE 1 rfl fun a hE=>?_
   obtain⟨x16,ex16,hl2⟩:=bnd hl2
   refine V hE hp rfl (bF rfl hE rfl rfl (aO ex16)) fun a hE=>S hE 1 rfl fun a hE=>aB ?_
   exact⟨_,(oj hl2).symm,hE.cut ⟨rfl,rfl,rfl,rfl,rfl,trivial⟩,hp⟩
  replace hl2:=(ie hc18).symm.trans hl2
  refine dS ?_
  refine⟨_,(oj hl2).symm,fun hbb=>?_⟩
  exact⟨_,hbb.symm,hE.cut ⟨rfl,rfl,rfl,trivial⟩,hp⟩
 rintro a w ⟨b10s,rfl,hE,hp⟩
 dsimp only at hm
 refine aG (aG ?_)
 refine aA (S hE 1 rfl fun a hE=>?_)
 refine aB ?_
 obtain⟨b12,hc20,hm⟩:=bnd hm
 refine dH (fun a w=>∃s:Unit,b12= .brk s∧(Env 169 [] a∧Hp Z ρ (aC 4 w5 b3s.2::aC 70 y4 x2::aC 70 y3 x1::Pt b2 (.cells #[(Iv p1.kind),(.string p1.text),(Iv p1.at_),(Iv p1.fin),aJ] 24 (0,0))::Pt b1 (.cells #[(Iv p0.kind),(.string p0.text),(Iv p0.at_),(Iv p0.fin),aI] 24 (0,0))::L) w)) ?_ ?_
 ·refine dZ hc20 (fun s a w=>Env 169 [(2,vp2),(7,y3),(8,y4),(15,(Iv s))] a∧Hp Z ρ (aC 4 w5 b3s.2::aC 70 y4 x2::aC 70 y3 x1::Pt b2 (.cells #[(Iv p1.kind),(.string p1.text),(Iv p1.at_),(Iv p1.fin),aJ] 24 (0,0))::Pt b1 (.cells #[(Iv p0.kind),(.string p0.text),(Iv p0.at_),(Iv p0.fin),aI] 24 (0,0))::L) w) ?_ ?_
  ·exact⟨hE.cut ⟨rfl,rfl,rfl,rfl,trivial⟩,hp⟩
  rintro eQ st a w ⟨hE,hp⟩ hl3
  unfold iJ at hl3
  refine aG (aG ?_)
  refine aA (S hE 2 rfl fun a hE=>?_)
  refine V hE hp rfl (bT rfl hE rfl (aC.len hp 2 rfl iQ)) fun a hE=>S hE 1 rfl fun a hE=>aB ?_
  refine dE hE rfl (fun hc21=>?_) (fun hc21=>?_)
  ·replace hl3:=(it hc21).symm.trans hl3
   refine aZ (aG ?_)
   refine dM (aG ?_)
   refine aA (S hE 1 rfl fun a hE=>?_)
   obtain⟨x17,ex17,hl3⟩:=bnd hl3
   refine V hE hp rfl (bF rfl hE rfl rfl (aO ex17)) fun a hE=>S hE 1 rfl fun a hE=>aB ?_
   obtain⟨b13,hc22,hl3⟩:=bnd hl3
   refine dH (fun a w=>∃s:Unit,b13= .brk s∧(Env 169 [(2,vp2),(7,y3),(8,y4),(15,(Iv eQ))] a∧Hp Z ρ (aC 4 w5 b3s.2::aC 70 y4 x2::aC 70 y3 x1::Pt b2 (.cells #[(Iv p1.kind),(.string p1.text),(Iv p1.at_),(Iv p1.fin),aJ] 24 (0,0))::Pt b1 (.cells #[(Iv p0.kind),(.string p0.text),(Iv p0.at_),(Iv p0.fin),aI] 24 (0,0))::L) w)) ?_ ?_
   ·refine dZ hc22 (fun s a w=>Env 169 [(2,vp2),(7,y3),(8,y4),(15,(Iv eQ)),(16,(Iv s))] a∧Hp Z ρ (aC 4 w5 b3s.2::aC 70 y4 x2::aC 70 y3 x1::Pt b2 (.cells #[(Iv p1.kind),(.string p1.text),(Iv p1.at_),(Iv p1.fin),aJ] 24 (0,0))::Pt b1 (.cells #[(Iv p0.kind),(.string p0.text),(Iv p0.at_),(Iv p0.fin),aI] 24 (0,0))::L) w) ?_ ?_
    ·exact⟨hE.cut ⟨rfl,rfl,rfl,rfl,rfl,trivial⟩,hp⟩
    rintro fJ st a w ⟨hE,hp⟩ hl4
    unfold kV at hl4
    refine aG (aG ?_)
    refine aA (S hE 2 rfl fun a hE=>?_)
    refine V hE hp rfl (bT rfl hE rfl (aC.len hp 2 rfl iQ)) fun a hE=>S hE 1 rfl fun a hE=>aB ?_
    refine dE hE rfl (fun hc23=>?_) (fun hc23=>?_)
    ·replace hl4:=(it hc23).symm.trans hl4
     refine aZ (aG ?_)
     refine dM (aG ?_)
     refine jR (by kernel_rfl) (by kernel_rfl) hp ?_
     refine Sq hE 2 rfl fun a hE=>?_
     obtain⟨x18,ex18,hl4⟩:=bnd hl4
     obtain⟨b14,b14o,b14c,b14r,b14k,b14f⟩:=aH.at hp2 dW ex18
     obtain rfl:b14c=Enc.enc x18:=b14k
     have b14f:AtP ρ b14 b14o [(Iv x18.a),(Iv x18.b)]:=b14f
     refine Vq hE rfl (aN rfl hE rfl rfl b14r) fun a hE=>Vq hE rfl (xf hE dK rfl rfl) fun a hE=>Vq hE rfl (aK rfl hE rfl (fun w hw=>aV aT (b14f.c 1 rfl w hw))) fun a hE=>Sq hE 2 rfl fun a hE=>?_
     obtain⟨x19,ex19,hl4⟩:=bnd hl4
     obtain⟨b15,b15o,b15c,b15r,b15k,b15f⟩:=aH.at hp2 dW ex19
     obtain rfl:b15c=Enc.enc x19:=b15k
     have b15f:AtP ρ b15 b15o [(Iv x19.a),(Iv x19.b)]:=b15f
     refine Vq hE rfl (aN rfl hE rfl rfl b15r) fun a hE=>Vq hE rfl (xf hE dK rfl rfl) fun a hE=>Vq hE rfl (aK rfl hE rfl (fun w hw=>aV aT (b15f.c 1 rfl w hw))) fun a hE=>Sq hE 2 rfl fun a hE=>?_
     refine iM fun w hp=>?_
     have hp:=r5 hp
     have hE:=hE.cut (E':=[(2,vp2),(7,y3),(8,y4),(15,(Iv eQ)),(16,(Iv fJ)),(17,(Iv x18.b)),(18,(Iv x19.b))]) ⟨rfl,rfl,rfl,rfl,rfl,rfl,rfl,trivial⟩
     refine aG ?_
     refine jR (by kernel_rfl) (by kernel_rfl) hp ?_
     refine Sq hE 3 rfl fun a hE=>?_
     refine Q9 [_,_,_] (fun a=>Env 169 [(146,(.bool ((decide (0≤x18.b))&&(decide (0≤x19.b))))),(2,vp2),(7,y3),(8,y4),(15,(Iv eQ)),(16,(Iv fJ)),(17,(Iv x18.b)),(18,(Iv x19.b))] a) ?_ ?_
     ·rcases Bool.eq_false_or_eq_true (decide (0≤x18.b)) with hc24|hc24
      ·
       refine Gq hE hc24 rfl (eH rfl hE rfl) fun a hE=>Gq hE hc24 rfl (ex_geq rfl hE rfl rfl) fun a hE=>Vq hE rfl (v:=(.bool (decide (0≤x19.b)))) (iD rfl hE rfl hc24 rfl) fun a hE=>?_
       have hE:=hE.eqv (v':=(.bool ((decide (0≤x18.b))&&(decide (0≤x19.b))))) (by rw[hc24];rfl)
       exact iM (hE.cut ⟨rfl,rfl,rfl,rfl,rfl,rfl,rfl,rfl,trivial⟩)
      refine Gkq hE hc24 rfl fun a hE=>Gkq hE hc24 rfl fun a hE=>?_
      refine Vq hE rfl (v:=(.bool false)) (gQ rfl hE rfl hc24 rfl) fun a hE=>?_
      have hE:=hE.eqv (v':=(.bool ((decide (0≤x18.b))&&(decide (0≤x19.b))))) (by rw[hc24];rfl)
      exact iM (hE.cut ⟨rfl,rfl,rfl,rfl,rfl,rfl,rfl,rfl,trivial⟩)
     intro a hE
     refine Sq hE 1 rfl fun a hE=>?_
     obtain⟨m1,hg1,hl4⟩:=bnd hl4
     refine Q9 [_,_,_,_,_,_,_,_,_,_,_,_,_,_,_,_,_,_,_,_,_] (fun a=>Env 169 [(168,(.bool m1)),(2,vp2),(7,y3),(8,y4),(15,(Iv eQ)),(16,(Iv fJ))] a) ?_ ?_
     ·rcases Bool.eq_false_or_eq_true ((decide (0≤x18.b))&&(decide (0≤x19.b))) with hc25|hc25
      ·
       replace hg1:=(it hc25).symm.trans hg1
       refine Gq hE hc25 rfl (eH rfl hE rfl) fun a hE=>Gq hE hc25 rfl (eH rfl hE rfl) fun a hE=>Gq hE hc25 rfl (P7 rfl hE rfl rfl) fun a hE=>Gq hE hc25 rfl (eH rfl hE rfl) fun a hE=>?_
       obtain⟨m2,hg2,hg1⟩:=bnd hg1
       refine Q9 [_,_,_,_,_,_,_,_,_,_,_,_,_,_,_,_] (fun a=>Env 169 [(167,(.bool m2)),(2,vp2),(7,y3),(8,y4),(15,(Iv eQ)),(16,(Iv fJ)),(147,(.bool ((decide (0≤x18.b))&&(decide (0≤x19.b))))),(148,(Iv x19.b)),(149,(Iv x18.b)),(150,(.bool (decide (x19.b<x18.b)))),(151,(.bool (decide (x19.b<x18.b))))] a) ?_ ?_
       ·rcases Bool.eq_false_or_eq_true (decide (x19.b<x18.b)) with hc26|hc26
        ·
         replace hg2:=(it hc26).symm.trans hg2
         refine Gkq hE hc26 rfl fun a hE=>Gkq hE hc26 rfl fun a hE=>Gkq hE hc26 rfl fun a hE=>Gkq hE hc26 rfl fun a hE=>Gkq hE hc26 rfl fun a hE=>Gkq hE hc26 rfl fun a hE=>Gkq hE hc26 rfl fun a hE=>Gkq hE hc26 rfl fun a hE=>Gkq hE hc26 rfl fun a hE=>Gkq hE hc26 rfl fun a hE=>Gkq hE hc26 rfl fun a hE=>Gkq hE hc26 rfl fun a hE=>Gkq hE hc26 rfl fun a hE=>Gkq hE hc26 rfl fun a hE=>Gkq hE hc26 rfl fun a hE=>Gq hE hc25 rfl (v:=(.bool true)) (iD rfl hE rfl hc26 rfl) fun a hE=>?_
         obtain rfl:=oj hg2
         exact iM (hE.cut ⟨rfl,rfl,rfl,rfl,rfl,rfl,rfl,rfl,rfl,rfl,rfl,trivial⟩)
        replace hg2:=(ie hc26).symm.trans hg2
        refine Gq hE hc26 rfl (eH rfl hE rfl) fun a hE=>Gq hE hc26 rfl (eH rfl hE rfl) fun a hE=>Gq hE hc26 rfl (eH rfl hE rfl) fun a hE=>?_
        obtain⟨x20,ex20,hg2⟩:=bnd hg2
        obtain⟨b16,b16o,b16r,b16v,b16f⟩:=aC.at hp 2 rfl iQ ex20
        refine Gq hE hc26 rfl (aN rfl hE rfl rfl b16r) fun a hE=>Gq hE hc26 rfl (xf hE aA6 rfl rfl) fun a hE=>Gq hE hc26 rfl (aK rfl hE rfl (fun w hw=>aV aT (b16f 2 _ rfl _ _ w (hw.get 2 rfl)))) fun a hE=>Gq hE hc26 rfl (P7 rfl hE rfl rfl) fun a hE=>Gq hE hc26 rfl (eH rfl hE rfl) fun a hE=>Gq hE hc26 rfl (eH rfl hE rfl) fun a hE=>Gq hE hc26 rfl (eH rfl hE rfl) fun a hE=>?_
        obtain⟨x21,ex21,hg2⟩:=bnd hg2
        obtain⟨b17,b17o,b17r,b17v,b17f⟩:=aC.at hp 1 rfl iQ ex21
        refine Gq hE hc26 rfl (aN rfl hE rfl rfl b17r) fun a hE=>Gq hE hc26 rfl (xf hE aA6 rfl rfl) fun a hE=>Gq hE hc26 rfl (aK rfl hE rfl (fun w hw=>aV aT (b17f 2 _ rfl _ _ w (hw.get 1 rfl)))) fun a hE=>Gq hE hc26 rfl (P7 rfl hE rfl rfl) fun a hE=>Gq hE hc26 rfl (v:=(.bool (!((decide (fJ<x20.last))==(decide (x19.b<x21.last)))))) (ex_bneq bty4 rfl hE rfl rfl) fun a hE=>Gq hE hc25 rfl (v:=(.bool (!((decide (fJ<x20.last))==(decide (x19.b<x21.last)))))) (gQ rfl hE rfl hc26 rfl) fun a hE=>?_
        obtain rfl:=oj hg2
        exact iM (hE.cut ⟨rfl,rfl,rfl,rfl,rfl,rfl,rfl,rfl,rfl,rfl,rfl,trivial⟩)
       intro a hE
       refine Vq hE rfl (v:=(.bool m2)) (iD rfl hE rfl hc25 rfl) fun a hE=>?_
       obtain rfl:=oj hg1
       exact iM (hE.cut ⟨rfl,rfl,rfl,rfl,rfl,rfl,trivial⟩)
      replace hg1:=(ie hc25).symm.trans hg1
      refine Gkq hE hc25 rfl fun a hE=>Gkq hE hc25 rfl fun a hE=>Gkq hE hc25 rfl fun a hE=>Gkq hE hc25 rfl fun a hE=>?_
      refine q_skip (wk3 hE rfl rfl rfl) rfl rfl hE ?_
      intro a hE
      refine q_skip (wk3 hE rfl rfl rfl) rfl rfl hE ?_
      intro a hE
      refine q_skip (wk3 hE rfl rfl rfl) rfl rfl hE ?_
      intro a hE
      refine q_skip (wk3 hE rfl rfl rfl) rfl rfl hE ?_
      intro a hE
      refine q_skip (wk3 hE rfl rfl rfl) rfl rfl hE ?_
      intro a hE
      refine q_skip (wk3 hE rfl rfl rfl) rfl rfl hE ?_
      intro a hE
      refine q_skip (wk3 hE rfl rfl rfl) rfl rfl hE ?_
      intro a hE
      refine q_skip (wk3 hE rfl rfl rfl) rfl rfl hE ?_
      intro a hE
      refine q_skip (wk3 hE rfl rfl rfl) rfl rfl hE ?_
      intro a hE
      refine q_skip (wk3 hE rfl rfl rfl) rfl rfl hE ?_
      intro a hE
      refine q_skip (wk3 hE rfl rfl rfl) rfl rfl hE ?_
      intro a hE
      refine q_skip (wk3 hE rfl rfl rfl) rfl rfl hE ?_
      intro a hE
      refine q_skip (wk3 hE rfl rfl rfl) rfl rfl hE ?_
      intro a hE
      refine q_skip (wk3 hE rfl rfl rfl) rfl rfl hE ?_
      intro a hE
      refine q_skip (wk3 hE rfl rfl rfl) rfl rfl hE ?_
      intro a hE
      refine Gkq hE hc25 rfl fun a hE=>?_
      refine Vq hE rfl (v:=(.bool false)) (gQ rfl hE rfl hc25 rfl) fun a hE=>?_
      obtain rfl:=oj hg1
      exact iM (hE.cut ⟨rfl,rfl,rfl,rfl,rfl,rfl,trivial⟩)
     intro a hE
     refine iM fun w hp=>?_
     have hp:=r5 hp
     refine dE hE rfl (fun hc27=>?_) (fun hc27=>?_)
     ·replace hl4:=(it hc27).symm.trans hl4
      refine aG (aA ?_)
      refine S hE 1 rfl fun a hE=>aB (bZ ?_)
      refine⟨_,(oj hl4).symm,fun hb=>?_⟩
      subst hb
      refine⟨_,(oj hl3).symm,fun hb=>?_⟩
      subst hb
      obtain rfl:=oj hm
      exact gJ hE rfl rfl ⟨_,rfl,rfl,(((((((((hp.get 4 rfl).drop).get 3 rfl).drop).get 2 rfl).drop).get 1 rfl).drop).drop)⟩
     replace hl4:=(ie hc27).symm.trans hl4
     refine aZ (aA ?_)
     refine S hE 1 rfl fun a hE=>?_
     obtain⟨x22,ex22,hl4⟩:=bnd hl4
     refine V hE hp rfl (bF rfl hE rfl rfl (aO ex22)) fun a hE=>S hE 1 rfl fun a hE=>aB ?_
     exact⟨_,(oj hl4).symm,hE.cut ⟨rfl,rfl,rfl,rfl,rfl,trivial⟩,hp⟩
    replace hl4:=(ie hc23).symm.trans hl4
    refine dS ?_
    refine⟨_,(oj hl4).symm,fun hbb=>?_⟩
    exact⟨_,hbb.symm,hE.cut ⟨rfl,rfl,rfl,rfl,trivial⟩,hp⟩
   rintro a w ⟨b13s,rfl,hE,hp⟩
   dsimp only at hl3
   refine aA (S hE 1 rfl fun a hE=>?_)
   obtain⟨x23,ex23,hl3⟩:=bnd hl3
   refine V hE hp rfl (bF rfl hE rfl rfl (aO ex23)) fun a hE=>S hE 1 rfl fun a hE=>aB ?_
   exact⟨_,(oj hl3).symm,hE.cut ⟨rfl,rfl,rfl,rfl,trivial⟩,hp⟩
  replace hl3:=(ie hc21).symm.trans hl3
  refine dS ?_
  refine⟨_,(oj hl3).symm,fun hbb=>?_⟩
  exact⟨_,hbb.symm,hE.cut trivial,hp⟩
 rintro a w ⟨b12s,rfl,hE,hp⟩
 dsimp only at hm
 refine aG (aA ?_)
 refine S hE 1 rfl fun a hE=>aB (bZ ?_)
 obtain rfl:=oj hm
 exact gJ hE rfl rfl ⟨_,rfl,rfl,(((((((((hp.get 4 rfl).drop).get 3 rfl).drop).get 2 rfl).drop).get 1 rfl).drop).drop)⟩
theorem aE2 {Z:World} {ρ:PH} {L:List bK} {w:World} (p0:Node) (aI:Value) (bD:aH ρ aI p0.kids) (p1:Node) (aJ:Value) (bH:aH ρ aJ p1.kids) (p2:(List Opn)) (vp2:Value) (hp2:aH ρ vp2 p2) (hp:Hp Z ρ (L) w) (r:Int) (hm:pI p0 p1 p2=some r):
  Calls Tryz.prog 18 #[(.agg #[(Iv p0.kind),(.string p0.text),(Iv p0.at_),(Iv p0.fin),aI]),(.agg #[(Iv p1.kind),(.string p1.text),(Iv p1.at_),(Iv p1.fin),aJ]),vp2] w (Ret fun v w'=>v=(Iv r)∧Hp Z ρ (L) w'):=by
 refine enter (N:=67) Tryz.func18 rfl rfl [(0,(.agg #[(Iv p0.kind),(.string p0.text),(Iv p0.at_),(Iv p0.fin),aI])),(1,(.agg #[(Iv p1.kind),(.string p1.text),(Iv p1.at_),(Iv p1.fin),aJ])),(2,vp2)] rfl (bC ⟨rfl,rfl,rfl,trivial⟩) fun a hE=>?_
 unfold pI at hm
 refine aG (aA ?_)
 refine iI (wk0 rfl) rfl rfl hE hp rfl (v:=(.agg #[(Iv p0.kind),(.string p0.text),(Iv p0.at_),(Iv p0.fin),aI])) rfl ?_
 intro a w b1 hE hp
 have hp:=r1 hp
 refine iI (wk0 rfl) rfl rfl hE hp rfl (v:=(.agg #[(Iv p1.kind),(.string p1.text),(Iv p1.at_),(Iv p1.fin),aJ])) rfl ?_
 intro a w b2 hE hp
 have hp:=r2 hp
 refine S hE 1 rfl fun a hE=>aB (aG ?_)
 obtain⟨x1,ex1,hm⟩:=bnd hm
 obtain⟨x2,ex2,hm⟩:=bnd hm
 have hp:=hp.drew
 refine fG ([([],At0 Z ρ),([],At1 Z ρ (Pt b2 (.cells #[(Iv p1.kind),(.string p1.text),(Iv p1.at_),(Iv p1.fin),aJ] 24 (0,0)))),([],At1 Z ρ (Pt b1 (.cells #[(Iv p0.kind),(.string p0.text),(Iv p0.at_),(Iv p0.fin),aI] 24 (0,0))))]:Facts) (fun a w=>∃y4:Value,∃y3:Value,Env 67 [(2,vp2),(7,y3),(8,y4)] a∧Hp Z ρ (aC 70 y4 x2::aC 70 y3 x1::Pt b2 (.cells #[(Iv p1.kind),(.string p1.text),(Iv p1.at_),(Iv p1.fin),aJ] 24 (0,0))::Pt b1 (.cells #[(Iv p0.kind),(.string p0.text),(Iv p0.at_),(Iv p0.fin),aI] 24 (0,0))::L) w) (by kernel_rfl) ⟨fun _=>⟨_,hp⟩,fun _=>⟨_,(hp.get 0 rfl)⟩,fun _=>⟨_,(hp.get 1 rfl)⟩,trivial⟩ (fun hS=>?_) ?_
 ·
  generalize w.drew=w at hS hp⊢
  refine T 0 2 hE hS rfl rfl rfl (by kernel_rfl) (fun _=>aK rfl hE rfl (fun w hw=>aW (cs:=[(Iv p0.kind),(.string p0.text),(Iv p0.at_),(Iv p0.fin),aI]) bY (Hp.cN 0 rfl 0 _ (aS rfl) w hw))) fun a hE hS=>T 2 1 hE hS rfl rfl rfl (by kernel_rfl) (fun _=>aK rfl hE rfl (fun w hw=>aW (cs:=[(Iv p1.kind),(.string p1.text),(Iv p1.at_),(Iv p1.fin),aJ]) bY (Hp.cN 0 rfl 0 _ (aS rfl) w hw))) fun a hE hS=>?_
  refine W1 1 (by kernel_rfl) rfl ?_
  refine s_call (wk0 rfl) rfl rfl hE rfl [(.agg #[(Iv p0.kind),(.string p0.text),(Iv p0.at_),(Iv p0.fin),aI])] ⟨rfl,trivial⟩ ent37 (lQ p0 aI bD hp x1 ex1) Ret.ret ?_
  intro vr3 a w hR hE
  obtain⟨u,rfl,hp⟩:=Ret.of hR
  have hp:=r3 hp
  refine aB (aF ⟨gp0 hp,gp 1 hp rfl,gp 2 hp rfl,trivial⟩ fun hS=>?_)
  refine W1 3 (by kernel_rfl) rfl ?_
  refine s_call (wk0 rfl) rfl rfl hE rfl [(.agg #[(Iv p1.kind),(.string p1.text),(Iv p1.at_),(Iv p1.fin),aJ])] ⟨rfl,trivial⟩ ent37 (lQ p1 aJ bH hp x2 ex2) Ret.ret ?_
  intro vr4 a w hR hE
  obtain⟨u,rfl,hp⟩:=Ret.of hR
  have hp:=r4 hp
  refine aB (aF ⟨gp0 hp,gp 2 hp rfl,gp 3 hp rfl,trivial⟩ fun hS=>?_)
  refine Ts [4,5] hE hS rfl rfl (by kernel_rfl) fun a hE hS=>?_
  exact bP (by kernel_rfl) ⟨_,_,hE.cut ⟨rfl,rfl,rfl,trivial⟩,hp⟩
 rintro a w ⟨y4,y3,hE,hp⟩
 refine aG (aA ?_)
 refine S hE 1 rfl fun a hE=>aB (aG ?_)
 refine aG (aA ?_)
 refine S hE 1 rfl fun a hE=>aB ?_
 obtain⟨b3,hc1,hm⟩:=bnd hm
 refine dH (fun a w=>Env 67 [(9,(Iv b3))] a∧Hp Z ρ (aC 70 y4 x2::aC 70 y3 x1::Pt b2 (.cells #[(Iv p1.kind),(.string p1.text),(Iv p1.at_),(Iv p1.fin),aJ] 24 (0,0))::Pt b1 (.cells #[(Iv p0.kind),(.string p0.text),(Iv p0.at_),(Iv p0.fin),aI] 24 (0,0))::L) w) ?_ ?_
 ·refine dZ hc1 (fun s a w=>Env 67 [(2,vp2),(7,y3),(8,y4),(9,(Iv s.1)),(10,(Iv s.2))] a∧Hp Z ρ (aC 70 y4 x2::aC 70 y3 x1::Pt b2 (.cells #[(Iv p1.kind),(.string p1.text),(Iv p1.at_),(Iv p1.fin),aJ] 24 (0,0))::Pt b1 (.cells #[(Iv p0.kind),(.string p0.text),(Iv p0.at_),(Iv p0.fin),aI] 24 (0,0))::L) w) ?_ ?_
  ·exact⟨hE.cut ⟨rfl,rfl,rfl,rfl,rfl,trivial⟩,hp⟩
  rintro⟨aP,aU⟩ st a w ⟨hE,hp⟩ hl1
  dsimp only at hE hp hl1
  unfold lT at hl1
  refine aG (aG ?_)
  refine aA (S hE 2 rfl fun a hE=>?_)
  refine V hE hp rfl (bT rfl hE rfl (aH.len hp2 dW)) fun a hE=>S hE 1 rfl fun a hE=>aB ?_
  refine dE hE rfl (fun hc2=>?_) (fun hc2=>?_)
  ·replace hl1:=(it hc2).symm.trans hl1
   refine aZ (aG ?_)
   refine dM (aG ?_)
   refine aA (S hE 2 rfl fun a hE=>?_)
   obtain⟨x3,ex3,hl1⟩:=bnd hl1
   obtain⟨b4,b4o,b4c,b4r,b4k,b4f⟩:=aH.at hp2 dW ex3
   obtain rfl:b4c=Enc.enc x3:=b4k
   have b4f:AtP ρ b4 b4o [(Iv x3.a),(Iv x3.b)]:=b4f
   refine V hE hp rfl (aN rfl hE rfl rfl b4r) fun a hE=>V hE hp rfl (aK rfl hE rfl (fun w hw=>aW (cs:=[(Iv x3.a),(Iv x3.b)]) fF (fun j u hj=>cell_of hw.le (b4f j u hj)))) fun a hE=>?_
   refine dL (wk0 rfl) rfl rfl hE hp rfl [(Iv 0),(Iv 0)] (fun w=>by simp[Instr.alloc,go_sem]<;>rfl) ?_
   intro a w b5 hE hp
   have hp:=r5 hp
   refine aX (wk0 rfl) rfl hE hp rfl rfl rfl 0 rfl fF.size_ rfl (aQ ⟨rfl,rfl,trivial⟩) [(Iv x3.a),(Iv x3.b)] rfl ?_
   intro w hp
   have hp:=r5 hp
   refine aB (aG ?_)
   refine jR (by kernel_rfl) (by kernel_rfl) hp ?_
   refine Vq hE rfl (xf hE fA rfl rfl) fun a hE=>Vq hE rfl (xl hE aT 0 rfl rfl rfl rfl) fun a hE=>Sq hE 2 rfl fun a hE=>?_
   refine Q9 [_,_,_,_] (fun a=>Env 67 [(33,(.bool ((decide (x3.a<0))||(decide (x3.b<0))))),(2,vp2),(7,y3),(8,y4),(9,(Iv aP)),(10,(Iv aU)),(11,(Pv b5 0))] a) ?_ ?_
   ·rcases Bool.eq_false_or_eq_true (decide (x3.a<0)) with hc3|hc3
    ·
     refine Gkq hE hc3 rfl fun a hE=>Gkq hE hc3 rfl fun a hE=>Gkq hE hc3 rfl fun a hE=>?_
     refine Vq hE rfl (v:=(.bool true)) (iD rfl hE rfl hc3 rfl) fun a hE=>?_
     have hE:=hE.eqv (v':=(.bool ((decide (x3.a<0))||(decide (x3.b<0))))) (by rw[hc3];rfl)
     exact iM (hE.cut ⟨rfl,rfl,rfl,rfl,rfl,rfl,rfl,trivial⟩)
    refine Gq hE hc3 rfl (xf hE dK rfl rfl) fun a hE=>Gq hE hc3 rfl (xl hE aT 0 rfl rfl rfl rfl) fun a hE=>Gq hE hc3 rfl (P7 rfl hE rfl rfl) fun a hE=>Vq hE rfl (v:=(.bool (decide (x3.b<0)))) (gQ rfl hE rfl hc3 rfl) fun a hE=>?_
    have hE:=hE.eqv (v':=(.bool ((decide (x3.a<0))||(decide (x3.b<0))))) (by rw[hc3];rfl)
    exact iM (hE.cut ⟨rfl,rfl,rfl,rfl,rfl,rfl,rfl,trivial⟩)
   intro a hE
   refine Sq hE 1 rfl fun a hE=>?_
   obtain⟨m1,hg1,hl1⟩:=bnd hl1
   refine Q9 [_,_,_,_,_,_,_,_,_,_,_,_,_,_] (fun a=>Env 67 [(48,(.bool m1)),(2,vp2),(7,y3),(8,y4),(9,(Iv aP)),(10,(Iv aU)),(11,(Pv b5 0))] a) ?_ ?_
   ·rcases Bool.eq_false_or_eq_true ((decide (x3.a<0))||(decide (x3.b<0))) with hc4|hc4
    ·
     replace hg1:=(it hc4).symm.trans hg1
     refine Gkq hE hc4 rfl fun a hE=>Gkq hE hc4 rfl fun a hE=>Gkq hE hc4 rfl fun a hE=>Gkq hE hc4 rfl fun a hE=>Gkq hE hc4 rfl fun a hE=>Gkq hE hc4 rfl fun a hE=>Gkq hE hc4 rfl fun a hE=>Gkq hE hc4 rfl fun a hE=>Gkq hE hc4 rfl fun a hE=>Gkq hE hc4 rfl fun a hE=>Gkq hE hc4 rfl fun a hE=>Gkq hE hc4 rfl fun a hE=>Gkq hE hc4 rfl fun a hE=>?_
     refine Vq hE rfl (v:=(.bool true)) (iD rfl hE rfl hc4 rfl) fun a hE=>?_
     obtain rfl:=oj hg1
     exact iM (hE.cut ⟨rfl,rfl,rfl,rfl,rfl,rfl,rfl,trivial⟩)
    replace hg1:=(ie hc4).symm.trans hg1
    refine Gq hE hc4 rfl (eH rfl hE rfl) fun a hE=>Gq hE hc4 rfl (xf hE fA rfl rfl) fun a hE=>Gq hE hc4 rfl (xl hE aT 0 rfl rfl rfl rfl) fun a hE=>?_
    obtain⟨x4,ex4,hg1⟩:=bnd hg1
    obtain⟨b6,b6o,b6r,b6v,b6f⟩:=aC.at hp 2 rfl iQ ex4
    refine Gq hE hc4 rfl (aN rfl hE rfl rfl b6r) fun a hE=>Gq hE hc4 rfl (xf hE J9 rfl rfl) fun a hE=>Gq hE hc4 rfl (aK rfl hE rfl (fun w hw=>aV aT (b6f 0 _ rfl _ _ w (hw.get 2 rfl)))) fun a hE=>Gq hE hc4 rfl (eH rfl hE rfl) fun a hE=>Gq hE hc4 rfl (xf hE dK rfl rfl) fun a hE=>Gq hE hc4 rfl (xl hE aT 0 rfl rfl rfl rfl) fun a hE=>?_
    obtain⟨x5,ex5,hg1⟩:=bnd hg1
    obtain⟨b7,b7o,b7r,b7v,b7f⟩:=aC.at hp 1 rfl iQ ex5
    refine Gq hE hc4 rfl (aN rfl hE rfl rfl b7r) fun a hE=>Gq hE hc4 rfl (xf hE J9 rfl rfl) fun a hE=>Gq hE hc4 rfl (aK rfl hE rfl (fun w hw=>aV aT (b7f 0 _ rfl _ _ w (hw.get 1 rfl)))) fun a hE=>Gq hE hc4 rfl (ex_neq rfl hE rfl rfl) fun a hE=>Vq hE rfl (v:=(.bool (!decide (x4.kind=x5.kind)))) (gQ rfl hE rfl hc4 rfl) fun a hE=>?_
    obtain rfl:=oj hg1
    exact iM (hE.cut ⟨rfl,rfl,rfl,rfl,rfl,rfl,rfl,trivial⟩)
   intro a hE
   refine Sq hE 1 rfl fun a hE=>?_
   obtain⟨m2,hg2,hl1⟩:=bnd hl1
   refine Q9 [_,_,_,_,_,_,_,_,_,_,_,_,_,_] (fun a=>Env 67 [(63,(.bool m2)),(2,vp2),(7,y3),(8,y4),(9,(Iv aP)),(10,(Iv aU))] a) ?_ ?_
   ·rcases Bool.eq_false_or_eq_true m1 with hc5|hc5
    ·
     replace hg2:=(it hc5).symm.trans hg2
     refine Gkq hE hc5 rfl fun a hE=>Gkq hE hc5 rfl fun a hE=>Gkq hE hc5 rfl fun a hE=>Gkq hE hc5 rfl fun a hE=>Gkq hE hc5 rfl fun a hE=>Gkq hE hc5 rfl fun a hE=>Gkq hE hc5 rfl fun a hE=>Gkq hE hc5 rfl fun a hE=>Gkq hE hc5 rfl fun a hE=>Gkq hE hc5 rfl fun a hE=>Gkq hE hc5 rfl fun a hE=>Gkq hE hc5 rfl fun a hE=>Gkq hE hc5 rfl fun a hE=>?_
     refine Vq hE rfl (v:=(.bool true)) (iD rfl hE rfl hc5 rfl) fun a hE=>?_
     obtain rfl:=oj hg2
     exact iM (hE.cut ⟨rfl,rfl,rfl,rfl,rfl,rfl,trivial⟩)
    replace hg2:=(ie hc5).symm.trans hg2
    refine Gq hE hc5 rfl (eH rfl hE rfl) fun a hE=>Gq hE hc5 rfl (xf hE fA rfl rfl) fun a hE=>Gq hE hc5 rfl (xl hE aT 0 rfl rfl rfl rfl) fun a hE=>?_
    obtain⟨x6,ex6,hg2⟩:=bnd hg2
    obtain⟨b8,b8o,b8r,b8v,b8f⟩:=aC.at hp 2 rfl iQ ex6
    refine Gq hE hc5 rfl (aN rfl hE rfl rfl b8r) fun a hE=>Gq hE hc5 rfl (xf hE L6 rfl rfl) fun a hE=>Gq hE hc5 rfl (aK rfl hE rfl (fun w hw=>aV xR (b8f 1 _ rfl _ _ w (hw.get 2 rfl)))) fun a hE=>Gq hE hc5 rfl (eH rfl hE rfl) fun a hE=>Gq hE hc5 rfl (xf hE dK rfl rfl) fun a hE=>Gq hE hc5 rfl (xl hE aT 0 rfl rfl rfl rfl) fun a hE=>?_
    obtain⟨x7,ex7,hg2⟩:=bnd hg2
    obtain⟨b9,b9o,b9r,b9v,b9f⟩:=aC.at hp 1 rfl iQ ex7
    refine Gq hE hc5 rfl (aN rfl hE rfl rfl b9r) fun a hE=>Gq hE hc5 rfl (xf hE L6 rfl rfl) fun a hE=>Gq hE hc5 rfl (aK rfl hE rfl (fun w hw=>aV xR (b9f 1 _ rfl _ _ w (hw.get 1 rfl)))) fun a hE=>Gq hE hc5 rfl (v:=(.bool (!decide (x6.text=x7.text)))) (ex_sneq rfl hE rfl rfl) fun a hE=>Vq hE rfl (v:=(.bool (!decide (x6.text=x7.text)))) (gQ rfl hE rfl hc5 rfl) fun a hE=>?_
    obtain rfl:=oj hg2
    exact iM (hE.cut ⟨rfl,rfl,rfl,rfl,rfl,rfl,trivial⟩)
   intro a hE
   refine iM fun w hp=>?_
   have hp:=r5 hp
   refine dE hE rfl (fun hc6=>?_) (fun hc6=>?_)
   ·replace hl1:=(it hc6).symm.trans hl1
    refine aA (S hE 1 rfl fun a hE=>?_)
    obtain⟨x8,ex8,hl1⟩:=bnd hl1
    refine V hE hp rfl (bF rfl hE rfl rfl (aO ex8)) fun a hE=>S hE 1 rfl fun a hE=>aB (aA ?_)
    refine S hE 1 rfl fun a hE=>?_
    obtain⟨x9,ex9,hl1⟩:=bnd hl1
    refine V hE hp rfl (bF rfl hE rfl rfl (aO ex9)) fun a hE=>S hE 1 rfl fun a hE=>aB ?_
    exact⟨_,(oj hl1).symm,hE.cut ⟨rfl,rfl,rfl,rfl,rfl,trivial⟩,(hp.drop)⟩
   replace hl1:=(ie hc6).symm.trans hl1
   refine aZ (aA ?_)
   refine S hE 1 rfl fun a hE=>?_
   obtain⟨x10,ex10,hl1⟩:=bnd hl1
   refine V hE hp rfl (bF rfl hE rfl rfl (aO ex10)) fun a hE=>S hE 1 rfl fun a hE=>aB ?_
   exact⟨_,(oj hl1).symm,hE.cut ⟨rfl,rfl,rfl,rfl,rfl,trivial⟩,(hp.drop)⟩
  replace hl1:=(ie hc2).symm.trans hl1
  refine dS ?_
  refine⟨_,(oj hl1).symm,fun hbb=>?_⟩
  subst hbb
  exact⟨hE.cut ⟨rfl,trivial⟩,hp⟩
 rintro a w ⟨hE,hp⟩
 refine aG (aA ?_)
 refine S hE 2 rfl fun a hE=>aB (bZ ?_)
 obtain rfl:=oj hm
 exact gJ hE rfl rfl ⟨_,rfl,rfl,(((((((hp.get 3 rfl).drop).get 2 rfl).drop).get 1 rfl).drop).drop)⟩
theorem Z5 {Z:World} {ρ:PH} {L:List bK} {w:World} (p0:(List Opn)) (vp0:Value) (hp0:aH ρ vp0 p0) (p1:Int) (hp:Hp Z ρ (L) w) (r:(Int×Bool)) (hm:mG p0 p1=some r):
  Calls Tryz.prog 14 #[vp0,(Iv p1)] w (Ret fun v w'=>v= .tuple #[(Iv r.1),(.bool r.2)]∧Hp Z ρ (L) w'):=by
 refine enter (N:=35) Tryz.func14 rfl rfl [(0,vp0),(1,(Iv p1))] rfl (bC ⟨rfl,rfl,trivial⟩) fun a hE=>?_
 unfold mG at hm
 refine aG (aA ?_)
 refine S hE 2 rfl fun a hE=>aB (aG ?_)
 refine aG (aA ?_)
 refine S hE 1 rfl fun a hE=>aB ?_
 obtain⟨b1,hc1,hm⟩:=bnd hm
 refine dH (fun a w=>∃s:Unit,b1= .brk s∧(Env 35 [] a∧Hp Z ρ (L) w)) ?_ ?_
 ·refine dZ hc1 (fun s a w=>Env 35 [(0,vp0),(1,(Iv p1)),(6,(Iv s))] a∧Hp Z ρ (L) w) ?_ ?_
  ·exact⟨hE.cut ⟨rfl,rfl,rfl,trivial⟩,hp⟩
  rintro aP st a w ⟨hE,hp⟩ hl1
  unfold jU at hl1
  refine aG (aG ?_)
  refine aA (S hE 2 rfl fun a hE=>?_)
  refine V hE hp rfl (bT rfl hE rfl (aH.len hp0 dW)) fun a hE=>S hE 1 rfl fun a hE=>aB ?_
  have hE:=hE.cut (E':=[(0,vp0),(1,(Iv p1)),(6,(Iv aP)),(10,(.bool (decide (aP<(p0.length:Int)))))]) ⟨rfl,rfl,rfl,rfl,trivial⟩
  refine dE hE rfl (fun hc2=>?_) (fun hc2=>?_)
  ·replace hl1:=(it hc2).symm.trans hl1
   refine aZ (aG ?_)
   refine dM (aG ?_)
   refine aA (S hE 2 rfl fun a hE=>?_)
   obtain⟨x1,ex1,hl1⟩:=bnd hl1
   obtain⟨b2,b2o,b2c,b2r,b2k,b2f⟩:=aH.at hp0 dW ex1
   obtain rfl:b2c=Enc.enc x1:=b2k
   have b2f:AtP ρ b2 b2o [(Iv x1.a),(Iv x1.b)]:=b2f
   refine V hE hp rfl (aN rfl hE rfl rfl b2r) fun a hE=>V hE hp rfl (xf hE fA rfl rfl) fun a hE=>V hE hp rfl (aK rfl hE rfl (fun w hw=>aV aT (b2f.c 0 rfl w hw))) fun a hE=>S hE 3 rfl fun a hE=>?_
   refine iL [_,_,_] (fun a w=>Env 35 [(23,(.bool ((decide (x1.a=p1))&&(decide (0≤p1))))),(0,vp0),(1,(Iv p1)),(6,(Iv aP))] a∧Hp Z ρ (L) w) ?_ ?_
   ·rcases Bool.eq_false_or_eq_true (decide (x1.a=p1)) with hc3|hc3
    ·
     refine Gs hE hc3 rfl rfl fun a hE=>Gs hE hc3 rfl rfl fun a hE=>pk1 hE hc3 rfl rfl rfl rfl fun a hE=>?_
     have hE:=hE.eqv (v':=(.bool ((decide (x1.a=p1))&&(decide (0≤p1))))) (by rw[hc3];rfl)
     exact aB ⟨hE.cut ⟨rfl,rfl,rfl,rfl,trivial⟩,hp⟩
    refine Gk hE hc3 rfl fun a hE=>Gk hE hc3 rfl fun a hE=>pk0 hE hc3 rfl rfl rfl rfl fun a hE=>?_
    have hE:=hE.eqv (v':=(.bool ((decide (x1.a=p1))&&(decide (0≤p1))))) (by rw[hc3];rfl)
    exact aB ⟨hE.cut ⟨rfl,rfl,rfl,rfl,trivial⟩,hp⟩
   rintro a w ⟨hE,hp⟩
   refine aB ?_
   refine dE hE rfl (fun hc4=>?_) (fun hc4=>?_)
   ·replace hl1:=(it hc4).symm.trans hl1
    refine aG (aG ?_)
    refine aA (S hE 2 rfl fun a hE=>?_)
    obtain⟨x2,ex2,hl1⟩:=bnd hl1
    obtain⟨b3,b3o,b3c,b3r,b3k,b3f⟩:=aH.at hp0 dW ex2
    obtain rfl:b3c=Enc.enc x2:=b3k
    have b3f:AtP ρ b3 b3o [(Iv x2.a),(Iv x2.b)]:=b3f
    refine V hE hp rfl (aN rfl hE rfl rfl b3r) fun a hE=>V hE hp rfl (xf hE dK rfl rfl) fun a hE=>V hE hp rfl (aK rfl hE rfl (fun w hw=>aV aT (b3f.c 1 rfl w hw))) fun a hE=>S hE 1 rfl fun a hE=>aB ?_
    refine dE hE rfl (fun hc5=>?_) (fun hc5=>?_)
    ·replace hl1:=(it hc5).symm.trans hl1
     refine aG (aA ?_)
     refine S hE 2 rfl fun a hE=>aB (bZ ?_)
     refine⟨_,(oj hl1).symm,fun hb=>?_⟩
     subst hb
     obtain rfl:=oj hm
     exact yU hE rfl rfl rfl ⟨_,rfl,rfl,hp⟩
    replace hl1:=(ie hc5).symm.trans hl1
    refine aZ (aG ?_)
    refine aA (S hE 2 rfl fun a hE=>?_)
    obtain⟨x3,ex3,hl1⟩:=bnd hl1
    obtain⟨b4,b4o,b4c,b4r,b4k,b4f⟩:=aH.at hp0 dW ex3
    obtain rfl:b4c=Enc.enc x3:=b4k
    have b4f:AtP ρ b4 b4o [(Iv x3.a),(Iv x3.b)]:=b4f
    refine V hE hp rfl (aN rfl hE rfl rfl b4r) fun a hE=>V hE hp rfl (xf hE dK rfl rfl) fun a hE=>V hE hp rfl (aK rfl hE rfl (fun w hw=>aV aT (b4f.c 1 rfl w hw))) fun a hE=>S hE 2 rfl fun a hE=>aB (bZ ?_)
    refine⟨_,(oj hl1).symm,fun hb=>?_⟩
    subst hb
    obtain rfl:=oj hm
    exact yU hE rfl rfl rfl ⟨_,rfl,rfl,hp⟩
   replace hl1:=(ie hc4).symm.trans hl1
   refine aZ (aA ?_)
   refine S hE 1 rfl fun a hE=>?_
   obtain⟨x4,ex4,hl1⟩:=bnd hl1
   refine V hE hp rfl (bF rfl hE rfl rfl (aO ex4)) fun a hE=>S hE 1 rfl fun a hE=>aB ?_
   exact⟨_,(oj hl1).symm,hE.cut ⟨rfl,rfl,rfl,trivial⟩,hp⟩
  replace hl1:=(ie hc2).symm.trans hl1
  refine dS ?_
  refine⟨_,(oj hl1).symm,fun hbb=>?_⟩
  exact⟨_,hbb.symm,hE.cut trivial,hp⟩
 rintro a w ⟨b1s,rfl,hE,hp⟩
 dsimp only at hm
 refine aG (aA ?_)
 refine S hE 2 rfl fun a hE=>aB (bZ ?_)
 obtain rfl:=oj hm
 exact yU hE rfl rfl rfl ⟨_,rfl,rfl,hp⟩
end Go.Proofs.YtopnldfjcciieaaGreat
