/- The code goes as its model: assessor/assessorlaw38.few, assessor/assessorlaw38.name, assessor/assessorlaw38.binary, assessor/assessorlaw38.node, assessor/assess -/
import Derived.Test.YtopnldfjcciieaaGreatKLeT
import Derived.Test.YtopnldfjcciieaaGreatKLe3
import Derived.Test.YtopnldfjcciieaaGreatKLe5
import Derived.Test.YtopnldfjcciieaaGreatKLe4
import Derived.RangeFuncIn
import Derived.RangeFuncLeaves
import Derived.RangeFuncRecord
import Derived.RangeFuncSeq
import Derived.Test.YtopnldfjcciieaaGreatProg
import Derived.Test.YtopnldfjcciieaaGreatKLe2
set_option linter.unusedVariables false
set_option linter.unusedSimpArgs false
set_option maxRecDepth 100000
set_option maxHeartbeats 4000000
namespace Go.Proofs.YtopnldfjcciieaaGreat
open Go.RowKit
theorem aP2 {Z:World} {ρ:PH} {L:List bQ} {w:World} (C:Node) (aI:Value) (aY:aH ρ aI C.kids) (B:Node) (aJ:Value) (bG:aH ρ aJ B.kids) (I:Int) (F:Hp Z ρ (L) w) (r:Bool) (H:sU C B I=some r):
  Calls Tryz.prog 11 #[(.agg #[(Iv C.kind),(.string C.text),(Iv C.at_),(Iv C.fin),aI]),(.agg #[(Iv B.kind),(.string B.text),(Iv B.at_),(Iv B.fin),aJ]),(Iv I)] w (Ret fun v w'=>v=(.bool r)∧Hp Z ρ (L) w'):=by
 refine enter (N:=15) Tryz.func11 O O [(0,(.agg #[(Iv C.kind),(.string C.text),(Iv C.at_),(Iv C.fin),aI])),(1,(.agg #[(Iv B.kind),(.string B.text),(Iv B.at_),(Iv B.fin),aJ])),(2,(Iv I))] O (bH ⟨O,O,O,tv⟩) fun a A=>?_
 unfold sU at H
 refine aG (aA ?_)
 refine iH (wk0 O) O O A F O (v:=(.agg #[(Iv C.kind),(.string C.text),(Iv C.at_),(Iv C.fin),aI])) O ?_
 intro a w b1 A F
 have F:=r1 F
 refine iH (wk0 O) O O A F O (v:=(.agg #[(Iv B.kind),(.string B.text),(Iv B.at_),(Iv B.fin),aJ])) O ?_
 intro a w b2 A F
 have F:=r2 F
 refine S A 1 O fun a A=>aB (aG ?_)
 refine aA (V A F O (aK O A O (fun w J=>aX (cs:=[(Iv C.kind),(.string C.text),(Iv C.at_),(Iv C.fin),aI]) cO (Hp.cN 1 O 0 _ (aS O) w J))) fun a A=>?_)
 refine S A 1 O fun a A=>?_
 obtain⟨U,T,H⟩:=bnd H
 refine Cl A O O ent31 (V9 C aI aY I F U T) ⟨O,O,tv⟩ fun v a w K A=>?_
 obtain⟨rfl,F⟩:=K
 have F:=r2 F
 refine S A 1 O fun a A=>?_
 obtain⟨m1,hg1,H⟩:=bnd H
 refine jI [_,_,_,_] (fun a w=>Env 15 [(14,(.bool m1))] a∧Hp Z ρ (Pt b2 (.cells #[(Iv B.kind),(.string B.text),(Iv B.at_),(Iv B.fin),aJ] 24 (0,0))::Pt b1 (.cells #[(Iv C.kind),(.string C.text),(Iv C.at_),(Iv C.fin),aI] 24 (0,0))::L) w) ?_ ?_
 ·rcases vA U with D|D
  ·
   replace hg1:=(it D).symm.trans hg1
   refine G A F D O (aK O A O (fun w J=>aX (cs:=[(Iv B.kind),(.string B.text),(Iv B.at_),(Iv B.fin),aJ]) cO (Hp.cN 0 O 0 _ (aS O) w J))) fun a A=>Gs A D O O fun a A=>?_
   obtain⟨W,M,hg1⟩:=bnd hg1
   refine Cg A D O O ent31 (V9 B aJ bG I F W M) ⟨O,O,tv⟩ fun v a w K A=>?_
   obtain⟨rfl,F⟩:=K
   have F:=r2 F
   refine pk1 A D O O O O fun a A=>?_
   obtain rfl:=oj hg1
   exact aB ⟨A.cut ⟨O,tv⟩,F⟩
  replace hg1:=(ie D).symm.trans hg1
  refine Gk A D O fun a A=>Gk A D O fun a A=>Gk A D O fun a A=>pk0 A D O O O O fun a A=>?_
  obtain rfl:=oj hg1
  exact aB ⟨A.cut ⟨O,tv⟩,F⟩
 rintro a w ⟨A,F⟩
 refine S A 1 O fun a A=>aB (cZ ?_)
 obtain rfl:=oj H
 exact gY A O O ⟨_,O,O,(((F.get 1 O).drop).drop)⟩
theorem rJ {Z:World} {ρ:PH} {L:List bQ} {w:World} (C:ByteArray) (A:Hp Z ρ (L) w) (r:Node) (D:lK C=some r):
  Calls Tryz.prog 36 #[(.string C)] w (Ret fun v w'=>∃(ρ':PH) (aC3:Value),ρ.le ρ'∧v=(.agg #[(Iv r.kind),(.string r.text),(Iv r.at_),(Iv r.fin),aC3])∧aH ρ' aC3 r.kids∧Hp Z ρ' (L) w'):=by
 refine enter (N:=5) Tryz.func36 O O [(0,(.string C))] O (bH ⟨O,tv⟩) fun a B=>?_
 unfold lK at D
 refine aG (aA ?_)
 refine dF (wk0 O) O O B A O [(Iv 0),(.string ByteArray.empty),(Iv 0),(Iv 0),N0] (fun w=>by simp[Instr.alloc,go_sem]<;>rfl) ?_
 intro a w b1 B A
 have A:=r1 A
 refine aB (aG ?_)
 refine aA (S B 1 O fun a B=>?_)
 refine V B A O (v:=(.agg #[(Iv 20),(.string C),(Iv 0),(Iv 0),N0])) (oD O B [(0,(Iv 20)),(1,(.string C))] (by exact⟨⟨O,O⟩,⟨O,O⟩,tv⟩) (fun w=>by simp[Instr.build,Instr.fill,Value.cells,go_sem])) fun a B=>?_
 refine aV (wk0 O) O B A O O O 0 O cO.size_ O (aP ⟨O,O,O,O,O,tv⟩) [(Iv 20),(.string C),(Iv 0),(Iv 0),N0] O ?_
 intro w A
 have A:=r1 A
 refine aB (cZ ?_)
 obtain rfl:=oj D
 exact retc1 B O O (aI6 (cs:=[(Iv 20),(.string C),(Iv 0),(Iv 0),N0]) cO (Hp.cN 0 O 0 _ (aS O) _ A)) ⟨_,O,_,_,(PH.le.rf _),O,(aH.nil _),(A.drop)⟩
theorem wS {Z:World} {ρ:PH} {L:List bQ} {w:World} (G:ByteArray) (B:Node) (aJ:Value) (bG:aH ρ aJ B.kids) (A:Node) (Q9:Value) (hp2_kids:aH ρ Q9 A.kids) (C:Hp Z ρ (L) w) (r:Node) (J:pK G B A=some r):
  Calls Tryz.prog 35 #[(.string G),(.agg #[(Iv B.kind),(.string B.text),(Iv B.at_),(Iv B.fin),aJ]),(.agg #[(Iv A.kind),(.string A.text),(Iv A.at_),(Iv A.fin),Q9])] w (Ret fun v w'=>∃(ρ':PH) (aC3:Value),ρ.le ρ'∧v=(.agg #[(Iv r.kind),(.string r.text),(Iv r.at_),(Iv r.fin),aC3])∧aH ρ' aC3 r.kids∧Hp Z ρ' (L) w'):=by
 refine enter (N:=12) Tryz.func35 O O [(0,(.string G)),(1,(.agg #[(Iv B.kind),(.string B.text),(Iv B.at_),(Iv B.fin),aJ])),(2,(.agg #[(Iv A.kind),(.string A.text),(Iv A.at_),(Iv A.fin),Q9]))] O (bH ⟨O,O,O,tv⟩) fun a D=>?_
 unfold pK at J
 refine aG (aA ?_)
 refine iH (wk0 O) O O D C O (v:=(.agg #[(Iv B.kind),(.string B.text),(Iv B.at_),(Iv B.fin),aJ])) O ?_
 intro a w b1 D C
 have C:=r1 C
 refine iH (wk0 O) O O D C O (v:=(.agg #[(Iv A.kind),(.string A.text),(Iv A.at_),(Iv A.fin),Q9])) O ?_
 intro a w b2 D C
 have C:=r2 C
 refine dF (wk0 O) O O D C O [(Iv 0),(.string ByteArray.empty),(Iv 0),(Iv 0),N0] (fun w=>by simp[Instr.alloc,go_sem]<;>rfl) ?_
 intro a w b3 D C
 have C:=r3 C
 refine aB (aG ?_)
 refine aA (S D 1 O fun a D=>?_)
 refine V D C O (aK O D O (fun w I=>aX (cs:=[(Iv B.kind),(.string B.text),(Iv B.at_),(Iv B.fin),aJ]) cO (Hp.cN 2 O 0 _ (aS O) w I))) fun a D=>V D C O (aK O D O (fun w I=>aX (cs:=[(Iv A.kind),(.string A.text),(Iv A.at_),(Iv A.fin),Q9]) cO (Hp.cN 1 O 0 _ (aS O) w I))) fun a D=>?_
 refine fU (wk0 O) O O D C O [(0,(.agg #[(Iv B.kind),(.string B.text),(Iv B.at_),(Iv B.fin),aJ])),(1,(.agg #[(Iv A.kind),(.string A.text),(Iv A.at_),(Iv A.fin),Q9]))] ⟨⟨O,O⟩,⟨O,O⟩,tv⟩ [(Iv B.kind),(.string B.text),(Iv B.at_),(Iv B.fin),aJ,(Iv A.kind),(.string A.text),(Iv A.at_),(Iv A.fin),Q9] 24 (fun w=>by have F:=aH.cells bG;simp only[Value.cells] at F;have H:=aH.cells hp2_kids;simp only[Value.cells] at H;simp[Instr.buildSlice,Instr.fill,Value.cells,F,H,go_sem]) ?_
 intro a w b4 D C
 have C:=r4 C
 obtain⟨k1,k1a,k1d,C⟩:=(C.get 0 O).lend
 have f1:aH (ρ.un k1) (.slice (some ⟨b4,0,none⟩) 2 2) ([B,A]:List Node):=aH.of_all (l:=(([B,A]:List Node))) k1d k1a ⟨_,_,O,(show NodeAt (ρ.un k1) B [(Iv B.kind),(.string B.text),(Iv B.at_),(Iv B.fin),aJ] from NodeAt.shutv ((aH.mono bG (PH.le_un _ k1)))),⟨_,_,O,(show NodeAt (ρ.un k1) A [(Iv A.kind),(.string A.text),(Iv A.at_),(Iv A.fin),Q9] from NodeAt.shutv ((aH.mono hp2_kids (PH.le_un _ k1)))),O⟩⟩
 have C:=r3 C
 refine V D C O (v:=(.agg #[(Iv 29),(.string G),(Iv 0),(Iv 0),(.slice (some ⟨b4,0,none⟩) 2 2)])) (oD O D [(0,(Iv 29)),(1,(.string G)),(4,(.slice (some ⟨b4,0,none⟩) 2 2))] (by exact⟨⟨O,O⟩,⟨O,O⟩,⟨O,O⟩,tv⟩) (fun w=>by have F:=aH.cells f1;simp only[Value.cells] at F;simp[Instr.build,Instr.fill,Value.cells,F,go_sem])) fun a D=>?_
 refine aV (wk0 O) O D C O O O 0 O cO.size_ O (aP ⟨O,O,O,O,(aH.one f1),tv⟩) [(Iv 29),(.string G),(Iv 0),(Iv 0),(.slice (some ⟨b4,0,none⟩) 2 2)] O ?_
 intro w C
 have C:=r3 C
 refine aB (cZ ?_)
 obtain rfl:=oj J
 exact retc1 D O O (aI6 (cs:=[(Iv 29),(.string G),(Iv 0),(Iv 0),(.slice (some ⟨b4,0,none⟩) 2 2)]) cO (Hp.cN 0 O 0 _ (aS O) _ C)) ⟨_,O,_,_,(PH.le_un _ k1),O,f1,(((((C.get 2 O).drop).get 1 O).drop).drop)⟩
theorem aE4 {Z:World} {ρ:PH} {L:List bQ} {w:World} (f:(List Node)) (vp0:Value) (hp0:aH ρ vp0 f) (c:(List Node)) (vp1:Value) (hp1:aH ρ vp1 c) (C:Hp Z ρ (L) w) (r:Bool) (G:vF f c=some r):
  Calls Tryz.prog 25 #[vp0,vp1] w (Ret fun v w'=>v=(.bool r)∧Hp Z ρ (L) w'):=by
 refine enter (N:=27) Tryz.func25 O O [(0,vp0),(1,vp1)] O (bH ⟨O,O,tv⟩) fun a A=>?_
 unfold vF at G
 refine aG (aA ?_)
 refine S A 1 O fun a A=>aB (aG ?_)
 refine aG (aA ?_)
 refine S A 1 O fun a A=>V A C O (bW O A O (aH.len hp0 iZ)) fun a A=>S A 1 O fun a A=>V A C O (bW O A O (aH.len hp1 iZ)) fun a A=>S A 1 O fun a A=>aB ?_
 refine dK A O (fun J=>?_) (fun J=>?_)
 ·replace G:=(it J).symm.trans G
  refine aG (aA ?_)
  refine S A 1 O fun a A=>aB (cZ ?_)
  obtain rfl:=oj G
  exact gY A O O ⟨_,O,O,C⟩
 replace G:=(ie J).symm.trans G
 refine bI (aG ?_)
 refine aG (aA ?_)
 refine S A 1 O fun a A=>aB ?_
 obtain⟨b1,T,G⟩:=bnd G
 refine dM (fun a w=>∃s:Unit,b1= .brk s∧(Env 27 [] a∧Hp Z ρ (L) w)) ?_ ?_
 ·refine eQ T (fun s a w=>Env 27 [(0,vp0),(1,vp1),(5,(Iv s))] a∧Hp Z ρ (L) w) ?_ ?_
  ·exact⟨A.cut ⟨O,O,O,tv⟩,C⟩
  rintro aQ st a w ⟨A,C⟩ B
  unfold xA at B
  refine aG (aG ?_)
  refine aA (S A 2 O fun a A=>?_)
  refine V A C O (bW O A O (aH.len hp0 iZ)) fun a A=>S A 1 O fun a A=>aB ?_
  refine dK A O (fun I=>?_) (fun I=>?_)
  ·replace B:=(it I).symm.trans B
   refine bI (aG ?_)
   refine dN (aG ?_)
   refine jU kr kr C ?_
   refine Sq A 2 O fun a A=>?_
   obtain⟨F,Y,B⟩:=bnd B
   obtain⟨b2,b2o,b2c,b2r,b2k,b2f⟩:=aH.at hp0 iZ Y
   obtain⟨uP,rfl,aL7⟩:=NodeAt.opens b2k
   have b2f:AtP ρ b2 b2o [(Iv F.kind),(.string F.text),(Iv F.at_),(Iv F.fin),uP]:=b2f
   refine Vq A O (aO O A O O b2r) fun a A=>Vq A O (aK O A O (fun w K=>aX (cs:=[(Iv F.kind),(.string F.text),(Iv F.at_),(Iv F.fin),uP]) cO (fun j u M=>cell_of K.le (b2f j u M)))) fun a A=>Sq A 2 O fun a A=>?_
   obtain⟨D,X,B⟩:=bnd B
   obtain⟨b3,b3o,b3c,b3r,b3k,b3f⟩:=aH.at hp1 iZ X
   obtain⟨pU,rfl,P6⟩:=NodeAt.opens b3k
   have b3f:AtP ρ b3 b3o [(Iv D.kind),(.string D.text),(Iv D.at_),(Iv D.fin),pU]:=b3f
   refine Vq A O (aO O A O O b3r) fun a A=>Vq A O (aK O A O (fun w K=>aX (cs:=[(Iv D.kind),(.string D.text),(Iv D.at_),(Iv D.fin),pU]) cO (fun j u M=>cell_of K.le (b3f j u M)))) fun a A=>?_
   obtain⟨b,W,B⟩:=bnd B
   refine aE8 (wk0 O) O O A O [(.agg #[(Iv F.kind),(.string F.text),(Iv F.at_),(Iv F.fin),uP]),(.agg #[(Iv D.kind),(.string D.text),(Iv D.at_),(Iv D.fin),pU])] ⟨O,O,tv⟩ ent55 (v:=(.bool b)) (fun w K=>Calls.mono (aL3 F uP aL7 D pU P6 K b W) fun e w' ⟨v,he,hv,hh⟩=>⟨by rw[he,hv],hh⟩) ?_
   intro a A
   refine Sq A 1 O fun a A=>?_
   refine jQ fun w C=>?_
   have C:=r0 C
   refine dK A O (fun H=>?_) (fun H=>?_)
   ·replace B:=(it H).symm.trans B
    refine aG (aA ?_)
    refine S A 1 O fun a A=>aB (cZ ?_)
    refine⟨_,(oj B).symm,fun hb=>?_⟩
    subst hb
    obtain rfl:=oj G
    exact gY A O O ⟨_,O,O,C⟩
   replace B:=(ie H).symm.trans B
   refine bI (aA ?_)
   refine S A 1 O fun a A=>?_
   obtain⟨x4,U,B⟩:=bnd B
   refine V A C O (bF O A O O (aN U)) fun a A=>S A 1 O fun a A=>aB ?_
   exact⟨_,(oj B).symm,A.cut ⟨O,O,O,tv⟩,C⟩
  replace B:=(ie I).symm.trans B
  refine dZ ?_
  refine⟨_,(oj B).symm,fun hbb=>?_⟩
  exact⟨_,hbb.symm,A.cut trivial,C⟩
 rintro a w ⟨b1s,rfl,A,C⟩
 dsimp only at G
 refine aG (aA ?_)
 refine S A 1 O fun a A=>aB (cZ ?_)
 obtain rfl:=oj G
 exact gY A O O ⟨_,O,O,C⟩
def Stars:List bQ→bQ
 | []=>fun k=>k=PH.emp
 |A::l=>fun k=>∃k1 k2,A k1∧Stars l k2∧k1.dj k2∧k=k1.un k2
theorem un_emp (ρ:PH):ρ.un PH.emp=ρ:=by funext b;unfold PH.un PH.emp;cases ρ b<;>rfl
theorem Sep.stars:∀(l:List bQ) {L:List bQ} {ρ h:PH},Sep ρ (Stars l::L) h↔Sep ρ (l++L) h
 | [],L,ρ,h=>⟨fun⟨k,e,_,s⟩=>by
   have e:k=PH.emp:=e
   rw[e,un_emp] at s;exact s,fun s=>⟨PH.emp,rfl,PH.dj_emp _,by rw[un_emp];exact s⟩⟩
 |A::l,L,ρ,h=>⟨fun⟨k,⟨k1,k2,a,b,d,e⟩,d',s⟩=>by
   subst e
   have d1:=PH.dj_un.1 d'.symm
   exact⟨k1,a,d1.1.symm,(Sep.stars l).1 ⟨k2,b,PH.dj_un.2 ⟨d1.2.symm,d⟩,by rw[PH.un_assoc];exact s⟩⟩,
  fun⟨k1,a,d1,s⟩=>by
   obtain⟨k2,b,d2,s⟩:=(Sep.stars l).2 s
   have d3:=PH.dj_un.1 d2
   exact⟨k1.un k2,⟨k1,k2,a,b,d3.2,O⟩,(PH.dj_un.2 ⟨d1.symm,d3.1.symm⟩).symm,by rw[←PH.un_assoc];exact s⟩⟩
section
variable {Z:World} {ρ:PH} {L:List bQ} {w:World}
theorem Hp.stars {l:List bQ} (h:Hp Z ρ (l++L) w):Hp Z ρ (Stars l::L) w:=h.to (Sep.stars l).2
theorem Hp.unstar {l:List bQ} (h:Hp Z ρ (Stars l::L) w):Hp Z ρ (l++L) w:=h.to (Sep.stars l).1
theorem Hp.exI {α:Type} {F:α→bQ} (x:α) (h:Hp Z ρ (F x::L) w):Hp Z ρ ((fun k=>∃x,F x k)::L) w:=h.imp fun _ hk=>⟨x,hk⟩
theorem Hp.exO {α:Type} {F:α→bQ} (h:Hp Z ρ ((fun k=>∃x,F x k)::L) w):∃x,Hp Z ρ (F x::L) w:=by
 obtain⟨k,⟨x,hk⟩,d,hs⟩:=h.lend
 exact⟨x,Hp.back hk d hs⟩
end
def Step.more {σ ε:Type}:Step σ ε→Bool
 | .next _=>true
 | .done _=>false
def yieldM {α σ ε:Type} (f:α→σ→Option (Step σ ε)) (x:α):Step σ ε→Option (Step σ ε)
 | .next s=>f x s
 | .done _=>none
theorem yieldM_some {α σ ε:Type} {f:α→σ→Option (Step σ ε)} {x:α} {S t:Step σ ε} (h:yieldM f x S=some t):∃s,S= .next s∧f x s=some t:=by
 cases S with
 |next s=>exact⟨s,rfl,h⟩
 |done r=>cases h
abbrev YieldOk {α σ ε:Type} (P:Program) (Z:World) (ρ:PH) (l:Nat) (vs:α→List Value) (f:α→σ→Option (Step σ ε)) (Y:Step σ ε→bQ):Prop:=
 ∀(x:α) (s:σ) (st:Step σ ε) (L:List bQ) (W:World),f x s=some st→Hp Z ρ (Y (.next s)::L) W→YieldAt Fence.wide 0 P l (vs x).toArray W (Ret fun v W'=>v= .bool st.more∧Hp Z ρ (Y st::L) W')
theorem YieldOk.at {α σ ε:Type} {P:Program} {Z:World} {ρ:PH} {l:Nat} {vs:α→List Value} {f:α→σ→Option (Step σ ε)} {Y:Step σ ε→bQ} (h:YieldOk P Z ρ l vs f Y) {x:α} {S t:Step σ ε} (hy:yieldM f x S=some t) {L:List bQ} {W:World} (A:Hp Z ρ (Y S::L) W):
  YieldAt Fence.wide 0 P l (vs x).toArray W (Ret fun v W'=>v= .bool t.more∧Hp Z ρ (Y t::L) W'):=by
 obtain⟨s,rfl,hf⟩:=yieldM_some hy
 exact h x s t L W hf A
section
variable {R:Option Nat} {P:Program} {ops:Array Oper} {Q:Exit→Act→World→Prop} {rest:List Oper} {o:Oper} {a:Act} {w:World} {Df:List Deferred} {N:Nat} {E:Ent} {d:Nat} {cs:List Code}
theorem k_regionY {id:Nat} {l:List Oper} (h:wpListIn (fR R) 0 P l.toArray (fun e a w=>match e with| .normal=>wpK R P Q cs a w|e=>Q e a w) l a w):wpK R P Q (.region id l.toArray false::cs) a w:=by
 have e:(fun e a w=>match e with| .normal=>wpK R P Q cs a w|e=>Q e a w)=Exit.then (wpK R P Q cs) Q:=by
  funext e a w;cases e<;>rfl
 rw[e] at h
 exact wpIn_region_lit h
theorem y_val {C:World→Prop} (wk:Region.wanted o (yielded ops a.tmps)=true) (hd:o.dst=some d) (hN:Nat.blt d N=true) (B:EnvD Df N E a) (hC:C w) {v:Value} (A:Ex P C a o v) (K:∀a,EnvD Df N ((d,v)::E) a→wpListIn (fR R) 0 P ops Q rest a w):wpListIn (fR R) 0 P ops Q (o::rest) a w:=by
 unfold wpListIn
 rw[if_pos wk]
 refine⟨fun f _=>fR_fn R f,?_⟩
 rw[Oper.semAt_eq _ _ _ (nd_of (A w hC) (fun d h=>by cases h)),A w hC]
 show wpListIn _ _ _ _ _ _ (a.put o.dst v) _
 rw[hd]
 exact K _ (B.put hN v)
theorem y_nil (h:Q .normal a w):wpListIn (fR R) 0 P ops Q [] a w:=h
theorem yieldAt_in {l n:Nat} {args:Array Value} {W:World} {T:Ending→World→Prop} (h:YieldAt Fence.wide n P l args W T):∃fn tmps assign body,(Instr.yield l args).run P W= .ok (.round l fn tmps assign body) W∧RoundIn (fR R) n P l fn tmps assign body W T:=by
 obtain⟨fn,tmps,assign,body,h1,h2⟩:=h
 refine⟨fn,tmps,assign,body,h1,?_⟩
 cases R<;>exact h2
theorem y_yield {l:Nat} (wk:Region.wanted o (yielded ops a.tmps)=true) (hd:o.dst=some d) (hN:Nat.blt d N=true) (A:EnvD Df N E a) {x:Operand} {xs:List Operand} {ts:Array TypeId} (C:o.op= .call {callee:= .value x,args:=xs.toArray,argTypes:=ts})
  (hf:evo E x=some (.func (.yield l) #[] #[])) (vs:List Value) (B:evA E xs vs) {T:Value→World→Prop} (hY:YieldAt Fence.wide 0 P l vs.toArray w (Ret T)) (K:∀v a w,T v w→EnvD Df N ((d,v)::E) a→wpListIn (fR R) 0 P ops Q rest a w):wpListIn (fR R) 0 P ops Q (o::rest) a w:=by
 obtain⟨fn,tmps,assign,body,hy,D⟩:=yieldAt_in (R:=R) hY
 have hxs:xs.toArray.map a.eval=vs.toArray:=by rw[List.map_toArray,aH9 A B]
 have hex:(execOp a.eval o).run P w= .ok (.round l fn tmps assign body) w:=by
  simp only[execOp,C,resolve,A.eval hf,hxs,Deferred.ofValue,invoke,Sem.run_bind,Sem.run_pure,Result.andThen_ok]
  simp[hy]
 unfold wpListIn
 rw[if_pos wk]
 refine⟨fun f _=>fR_fn R f,?_⟩
 rw[Oper.semAt_eq _ _ _ (nd_of hex (fun d h=>by cases h)),hex,Oper.uponIn_round]
 refine⟨fR_depth R,D.mono fun e w' he=>?_⟩
 obtain⟨v,rfl,hr⟩:=he
 rw[hd]
 exact K v _ w' hr (A.put hN v)
end
def aM3:Ent→List (Nat×Value)→Ent
 |E,[]=>E
 |E,p::r=>aM3 (p::E) r
theorem env_round {N:Nat} {Df:List Deferred}:∀(l:List (Nat×Value)) {E:Ent} {t:Array Value},(∀p∈l,Nat.blt p.1 N=true)→EnvD Df N E ⟨t,Df⟩→EnvD Df N (aM3 E l) ⟨l.foldl (fun t p=>t.setIfInBounds p.1 p.2) t,Df⟩
 | [],E,t,_,h=>h
 |p::r,E,t,hb,h=>by
  have:=h.put (hb p (List.mem_cons_self ..)) p.2
  exact env_round r (E:=p::E) (t:=t.setIfInBounds p.1 p.2) (fun q hq=>hb q (List.mem_cons_of_mem _ hq)) this
def markOf (dd:Nat):Deferred:={target:= .collected dd,args:= #[] }
section
variable {P:Program} {Q:Exit→Act→World→Prop} {a:Act} {w:World} {N:Nat} {E:Ent} {cs:List Code} {Z:World} {ρ:PH} {L:List bQ}
theorem enterM {f:FuncId} {fn:Func} {c:Code} {args:Array Value} {R:Ending→World→Prop} (hf:P.funcs[f]?=some fn) (hb:fn.body=some c) (hN:fn.ntmps=N) (E:Ent) (h1:Nat.ble args.size N=true) (A:∀p∈E,args[p.1]?=some p.2)
  (h:∀a,Env N E a→wpK none P (bodyPostM Fence.wide 0 P fn R) [c] a w):Calls P f args w R:=
 (callsIn_wide (n:=0)).1 (callsIn_of_wp_marks hf hb trivial (by rw[hN];exact k_one (h _ (Env.start N args E (by simpa using h1) A))) O)
theorem retM {fn:Func} {R:Ending→World→Prop} {e:Exit} (he:e= .ret∨e= .normal) {dd:Nat} (A:EnvD [markOf dd] N E a) (B:Hp Z ρ (Pt dd (.deferred (some []))::L) w) (h:∀a w,Env N E a→Hp Z ρ L w→bodyPost P fn R .ret a w):bodyPostM Fence.wide 0 P fn R e a w:=by
 have C:=B.look 0 O
 have hlt:=(Array.getElem?_eq_some_iff.1 C).1
 have hq:=Hp.set (w':=World.putObj w dd (.deferred none)) B O O O (World.putObj_heap_same hlt) (fun k hk=>World.putObj_heap_other hk)
 have hE':Env N E ⟨a.tmps,[]⟩:=⟨A.size,O,A.val⟩
 obtain⟨v,hv⟩:=(h _ _ hE' hq.drop).2
 rcases he with rfl|rfl<;>
 ·show LeavesInM _ _ _ _ _ _ _ _ _
  rw[A.defers]
  refine⟨by simp,.inl ⟨dd,_,O,run_takeDeferred C,?_⟩⟩
  exact⟨v,hv⟩
def recOf (fn dd:Nat) (tmps:Array Value) (ps:Array Tmp) (assign body:Code):Loop:={state:= .ready,pending:=none,fn:=fn,tmps:=tmps,params:=ps,assign:=assign,body:=body,defers:=dd}
def LoopAt {σ ε:Type} (J:σ→bQ) (K:ε→bQ) (l dd:Nat) (rec:Loop):Step σ ε→bQ
 | .next s=>Stars [J s,Pt l (.loop rec),Pt dd (.deferred (some []))]
 | .done r=>Stars [K r,Pt l (.loop {rec with state:= .done,pending:=some .ret}),Pt dd (.deferred (some []))]
theorem round_of {σ ε α:Type} {J:σ→bQ} {K:ε→bQ} {l dd fn:Nat} {t0:Array Value} {ps:Array Tmp} {assign body:Code} {E2:α→Ent} (F:Env N E ⟨t0,[]⟩) (vs:α→List Value) {f:α→σ→Option (Step σ ε)}
  (hps:∀x,(vs x).length=ps.size) (hpN:∀p∈ps,Nat.blt p N=true)
  (ha:∀(x:α) (a:Act) (L:List bQ) (w:World),Env N (aM3 E (ps.toList.zip (vs x))) a→Hp Z ρ L w→wpK (some l) P (fun e a w=>match e with| .normal=>Env N (E2 x++aM3 E (ps.toList.zip (vs x))) a∧Hp Z ρ L w|_=>False) [assign] a w)
  (hb:∀(x:α) (s:σ) (st:Step σ ε) (a:Act) (L:List bQ) (w:World),f x s=some st→Env N (E2 x++aM3 E (ps.toList.zip (vs x))) a→Hp Z ρ (J s::L) w→wpK (some l) P (fun e a w=>match e with| .normal=>∃s',st= .next s'∧Hp Z ρ (J s'::L) w| .ret=>∃r,st= .done r∧Hp Z ρ (K r::L) w|_=>False) [body] a w)
  (x:α) (s:σ) (st:Step σ ε) (L:List bQ) (W:World) (hs:f x s=some st) (C:Hp Z ρ (LoopAt J K l dd (recOf fn dd t0 ps assign body) (.next s)::L) W):
  YieldAt Fence.wide 0 P l (vs x).toArray W (Ret fun v W'=>v= .bool st.more∧Hp Z ρ (LoopAt J K l dd (recOf fn dd t0 ps assign body) st::L) W'):=by
 have hp1:Hp Z ρ (J s::Pt l (.loop (recOf fn dd t0 ps assign body))::Pt dd (.deferred (some []))::L) W:=C.unstar
 have D:=hp1.look 1 O
 have hy:=run_yield (P:=P) (args:=(vs x).toArray) D (by simpa[recOf] using hps x)
 refine⟨fn,_,_,_,hy,roundIn_of_wpIn trivial ?_⟩
 have hE1:=env_round (ps.toList.zip (vs x)) (fun p C=>hpN p.1 (by simpa using(List.of_mem_zip C).1)) F
 have e1:(ps.toList.zip (vs x)).foldl (fun t p=>t.setIfInBounds p.1 p.2) t0=(ps.zip (vs x).toArray).foldl (fun tmps (p:Tmp×Value)=>tmps.setIfInBounds p.1 p.2) t0:=by
  obtain⟨q⟩:=ps
  simp
 rw[e1] at hE1
 have h1:=k_one (ha x _ _ _ hE1 hp1)
 refine wpIn_mono h1 fun e a2 w2 q=>?_
 cases e with
 |normal=>
  obtain⟨hE2,hp2⟩:=q
  have B:=hp2.look 1 O
  have hlt:=(Array.getElem?_eq_some_iff.1 B).1
  refine⟨_,run_beginRound B O,?_⟩
  have hp3:Hp Z ρ (Pt l (.loop {recOf fn dd t0 ps assign body with state:= .busy})::J s::Pt dd (.deferred (some []))::L) (w2.putObj l (.loop {recOf fn dd t0 ps assign body with state:= .busy})):=
   Hp.set (w':=World.putObj _ _ _) (hp2.get 1 O) O O O (World.putObj_heap_same hlt) (fun k hk=>World.putObj_heap_other hk)
  have hp3:=hp3.get 1 O
  refine wpIn_mono (k_one (hb x s st a2 _ _ hs hE2 hp3)) fun e a4 w4 q=>?_
  cases e with
  |normal=>
   obtain⟨s',rfl,hq⟩:=q
   have A:=hq.look 1 O
   have hlt4:=(Array.getElem?_eq_some_iff.1 A).1
   have h5:=Hp.set (w':=World.putObj w4 l (.loop (recOf fn dd t0 ps assign body))) (hq.get 1 O) O O O (World.putObj_heap_same hlt4) (fun k hk=>World.putObj_heap_other hk)
   exact⟨_,_,run_endRound none A,_,O,O,Hp.stars (l:=[J s',_,_]) (h5.get 1 O)⟩
  |ret=>
   obtain⟨r,rfl,hq⟩:=q
   have A:=hq.look 1 O
   have hlt4:=(Array.getElem?_eq_some_iff.1 A).1
   have h5:=Hp.set (w':=World.putObj w4 l (.loop {recOf fn dd t0 ps assign body with state:= .done,pending:=some .ret})) (hq.get 1 O) O O O (World.putObj_heap_same hlt4) (fun k hk=>World.putObj_heap_other hk)
   exact⟨_,_,run_endRound (some .ret) A,_,O,O,Hp.stars (l:=[K r,_,_]) (h5.get 1 O)⟩
  |exit i=>exact q.elim
  |goto t=>exact q.elim
  |panic c=>exact q.elim
  |outgrown=>exact q.elim
 |exit i=>exact q.elim
 |goto t=>exact q.elim
 |ret=>exact q.elim
 |panic c=>exact q.elim
 |outgrown=>exact q.elim
theorem k_rangeF {σ ε α:Type} {g:Operand} {ps:Array Tmp} {assign body:Code} {gf:FuncId} {lb:List Value} {s0:σ} {b:Step σ ε} {L L':List bQ} {E2:α→Ent} (J:σ→bQ) (K:ε→bQ) (vs:α→List Value) (f:α→σ→Option (Step σ ε))
  (A:Env N E a) (hg:evo E g=some (.func (.func gf) #[] lb.toArray)) (eg:∀args w,(callFunc gf args).run P w= .ok (.enter gf args) w) (C:Hp Z ρ (J s0::L) w)
  (hps:∀x,(vs x).length=ps.size) (hpN:∀p∈ps,Nat.blt p N=true)
  (D:∀(l:Nat) (Y:Step σ ε→bQ) (w:World),YieldOk P Z ρ l vs f Y→
   Hp Z ρ (Y (.next s0)::L) w→Calls P gf (#[.func (.yield l) #[] #[]]++lb.toArray) w (Ret fun _ W'=>Hp Z ρ (Y b::L') W'))
  (ha:∀(l:Nat) (x:α) (a:Act) (L:List bQ) (w:World),Env N (aM3 E (ps.toList.zip (vs x))) a→Hp Z ρ L w→wpK (some l) P (fun e a w=>match e with| .normal=>Env N (E2 x++aM3 E (ps.toList.zip (vs x))) a∧Hp Z ρ L w|_=>False) [assign] a w)
  (hb:∀(l:Nat) (x:α) (s:σ) (st:Step σ ε) (a:Act) (L:List bQ) (w:World),f x s=some st→Env N (E2 x++aM3 E (ps.toList.zip (vs x))) a→Hp Z ρ (J s::L) w→wpK (some l) P (fun e a w=>match e with| .normal=>∃s',st= .next s'∧Hp Z ρ (J s'::L) w| .ret=>∃r,st= .done r∧Hp Z ρ (K r::L) w|_=>False) [body] a w)
  (hn:∀s,b= .next s→∀dd a w,EnvD [markOf dd] N E a→Hp Z ρ (J s::Pt dd (.deferred (some []))::L') w→wpK none P Q cs a w)
  (hr:∀r,b= .done r→∀dd a w,EnvD [markOf dd] N E a→Hp Z ρ (K r::Pt dd (.deferred (some []))::L') w→Q .ret a w):wpK none P Q (.rangeFunc g ps assign body::cs) a w:=by
 show(Code.rangeFunc g ps assign body).wpIn Fence.wide 0 P (Exit.then (wpK none P Q cs) Q) a w
 refine wpIn_rangeFunc fun fn _=>?_
 obtain⟨rec,hrec⟩:∃rec:Loop,rec=recOf fn w.heap.size a.tmps ps assign body:=⟨_,O⟩
 obtain⟨W1,hW1⟩:∃W1,(w.alloc (.deferred (some []))).alloc (.loop rec)=W1:=⟨_,O⟩
 have hp1:Hp Z ρ (Pt (w.heap.size+1) (.loop rec)::Pt w.heap.size (.deferred (some []))::J s0::L) W1:=by
  have:=(C.alloc (.deferred (some []))).alloc (.loop rec)
  rwa [World.size_alloc,hW1] at this
 have hE0:Env N E ⟨a.tmps,[]⟩:=⟨A.size,O,A.val⟩
 have hp2:Hp Z ρ (LoopAt (ε:=ε) J K (w.heap.size+1) w.heap.size rec (.next s0)::L) W1:=Hp.stars (l:=[J s0,_,_]) (hp1.get 2 O)
 refine⟨w.heap.size+1,[{target:= .collected w.heap.size,args:= #[] }],W1,{target:= .fn (.func gf) lb.toArray,args:= #[.func (.yield (w.heap.size+1)) #[] #[]] },W1,gf,#[.func (.yield (w.heap.size+1)) #[] #[]]++lb.toArray,W1,?_,?_,?_,?_,?_,?_⟩
 ·rw[←hW1,hrec];exact run_enterLoop_outer _ _ _ _ _
 ·simp only[resolve,A.eval hg]
  simp[go_sem]
 ·exact fun _ _=>trivial
 ·simp[invoke,go_sem,eg]
 ·intro h;simp[Fence.wide] at h
 refine callsIn_wide.2 (Calls.mono (D (w.heap.size+1) (LoopAt J K (w.heap.size+1) w.heap.size rec) W1 (fun x s st L W hs h=>by
  rw[hrec] at h⊢
  exact round_of hE0 vs hps hpN (ha _) (hb _) x s st L W hs h) hp2) fun e W' he=>?_)
 obtain⟨v,rfl,hp'⟩:=he
 have hE':EnvD [markOf w.heap.size] N E {a with defers:=[{target:= .collected w.heap.size,args:= #[] }]++a.defers}:=⟨A.size,by simp[A.defers,markOf],A.val⟩
 cases b with
 |next s=>
  have hp':Hp Z ρ (J s::Pt (w.heap.size+1) (.loop rec)::Pt w.heap.size (.deferred (some []))::L') W':=hp'.unstar
  have B:=hp'.look 1 O
  have hlt:=(Array.getElem?_eq_some_iff.1 B).1
  have hrun:=run_endLoop (P:=P) B (by rw[hrec];simp[recOf])
  rw[show rec.pending=none by rw[hrec];rfl] at hrun
  refine⟨none,_,hrun,?_⟩
  exact hn s O _ _ _ hE' (Hp.set (w':=World.putObj _ _ _) (hp'.get 1 O) O O O (World.putObj_heap_same hlt) (fun k hk=>World.putObj_heap_other hk)).drop
 |done r=>
  have hp':Hp Z ρ (K r::Pt (w.heap.size+1) (.loop {rec with state:= .done,pending:=some .ret})::Pt w.heap.size (.deferred (some []))::L') W':=hp'.unstar
  have B:=hp'.look 1 O
  have hlt:=(Array.getElem?_eq_some_iff.1 B).1
  have hrun:=run_endLoop (P:=P) B (by simp)
  refine⟨some .ret,_,hrun,?_⟩
  exact wpIn_ret (hr r O _ _ _ hE' (Hp.set (w':=World.putObj _ _ _) (hp'.get 1 O) O O O (World.putObj_heap_same hlt) (fun k hk=>World.putObj_heap_other hk)).drop)
end
theorem tcVN:VarTy Tryz.prog 24 true 5:=⟨fun w=>by simp[isAgg,go_sem],fun w=>by simp[sizeOf,go_sem]<;>rfl⟩
theorem tcVS:VarTy Tryz.prog 22 false 1:=⟨fun w=>by simp[isAgg,go_sem],fun w=>by simp[sizeOf,go_sem]<;>rfl⟩
theorem rD:VarTy Tryz.prog 3 false 1:=⟨fun w=>by simp[isAgg,go_sem],fun w=>by simp[sizeOf,go_sem]<;>rfl⟩
theorem tcF4:oI Tryz.prog 24 4 4:=fun b o w=>by simp[Instr.fieldAt,go_sem]
theorem tcSl:SlTy Tryz.prog 22 24 5 64:=SlTy.of (z:= .agg #[.int .i64 0,.string ByteArray.empty,.int .i64 0,.int .i64 0,.slice none 0 0]) kr kr O
theorem tcEv:∀args w,(callFunc 102 args).run Tryz.prog w= .ok (.enter 102 args) w:=enters Tryz.func102 kr O
theorem tcE1:∀args w,(callFunc 101 args).run Tryz.prog w= .ok (.enter 101 args) w:=enters Tryz.func101 kr O
theorem tcEn:∀args w,(callFunc 87 args).run Tryz.prog w= .ok (.enter 87 args) w:=enters Tryz.func87 kr O
theorem D8 (n:Node) (l:List Node):gW (n::l)=bK n+gW l:=by rw[gW]
theorem pG (n:Node):bK n=1+gW n.kids:=by obtain⟨a,b,c,d,k⟩:=n;rw[bK]
theorem aR3:∀(l m:List Node),gW (l++m)=gW l+gW m
 | [],m=>by simp[gW]
 |n::l,m=>by rw[List.cons_append,D8,D8,aR3 l m];omega
theorem zG {l:List Node} {i:Nat} {n:Node} (h:l[i]?=some n):gW (l.take (i+1))=gW (l.take i)+bK n:=by
 obtain⟨h1,h2⟩:=uR.1 h
 rw[←h2,List.take_succ_eq_append_getElem h1,aR3,D8];simp[gW]
theorem aD3 (l:List Node) (i:Nat):gW (l.take i)≤gW l:=by
 have:=aR3 (l.take i) (l.drop i)
 rw[zR] at this;omega
theorem aD5 {n m:Node} {i:Nat} (h:n.kids[i]?=some m):SizeOf.sizeOf m<SizeOf.sizeOf n:=by
 obtain⟨a,b,c,d,k⟩:=n
 change k[i]?=some m at h
 have:=List.sizeOf_lt_of_mem (vL h)
 simp only[Node.mk.sizeOf_spec]
 omega
theorem wY:∀(l:List Node),l.length≤gW l
 | []=>Nat.zero_le _
 |n::l=>by
  have:=wY l
  have h:=pG n
  rw[D8,uA0];omega
def P8 (n i:Nat):Option (Step Nat Unit):=if i<n then some (.next (i+1)) else some (.done ())
theorem kidsLoop (n:Nat):∀(j i:Nat),i+j=n→dY (P8 n) i=some ()
 |0,i,h=>sN (by unfold P8;rw[if_neg (by omega)])
 |j+1,i,h=>by rw[zX (show P8 n i=some (.next (i+1)) by unfold P8;rw[if_pos (by omega)])];exact kidsLoop n j (i+1) (by omega)
abbrev uO (A:Node) (v:Value):Value:= .agg #[.int .i64 A.kind,.string A.text,.int .i64 A.at_,.int .i64 A.fin,v]
def cntF (N:Nat) (_:Value) (c:Nat):Option (Step Nat Empty):=if c<N then some (.next (c+1)) else none
theorem visit_c {Z:World} {ρ:PH} {l N:Nat} {Y:Step Nat Empty→bQ} (hN:N≤4611686018427387904)
  (hY:YieldOk Tryz.prog Z ρ l (fun x:Value=>[x]) (cntF N) Y):
  ∀(m:Nat) (B:Node),SizeOf.sizeOf B≤m→∀(c:Nat) (L:List bQ) (w:World) (v:Value) (hv:aH ρ v B.kids),c+bK B≤N→Hp Z ρ (Y (.next c)::L) w→
   Calls Tryz.prog 102 #[uO B v,.func (.yield l) #[] #[]] w (Ret fun r w'=>r= .bool true∧Hp Z ρ (Y (.next (c+bK B))::L) w'):=by
 intro m
 induction m with
 |zero=>intro B h;obtain⟨a,b,c,d,k⟩:=B;simp only[Node.mk.sizeOf_spec] at h;omega
 |succ m ih=>
  intro B hsz c L w v hv hcN hp
  have hcnt:=pG B
  refine enter (N:=23) Tryz.func102 O O [(0,uO B v),(1,.func (.yield l) #[] #[])] O (bH ⟨O,O,tv⟩) fun a A=>?_
  refine aG (aA ?_)
  refine iH (wk0 O) O O A hp O (v:=uO B v) O ?_
  intro a w b1 A hp
  have hp:=r2 hp
  refine S A 1 O fun a A=>aB (aG ?_)
  refine aG ?_
  refine k_regionY ?_
  refine y_val (wk0 O) O O A hp (v:= .func (.yield l) #[] #[]) (iR O A O) ?_
  intro a A
  refine y_val (wk0 O) O O A hp (v:=uO B v) (aK O A O (fun w D=>aX (cs:=[(Iv B.kind),(.string B.text),(Iv B.at_),(Iv B.fin),v]) tcVN (Hp.cN 0 O 0 _ (aS O) w D))) ?_
  intro a A
  have hp:Hp Z ρ (Y (.next c)::Pt b1 (.cells #[(Iv B.kind),(.string B.text),(Iv B.at_),(Iv B.fin),v] 24 (0,0))::L) w:=hp.get 1 O
  refine y_yield (wk0 O) O O A O O [uO B v] ⟨O,tv⟩ (hY (uO B v) c (.next (c+1)) _ w (by unfold cntF;rw[if_pos (by omega)]) hp) ?_
  rintro _ a w ⟨rfl,hp⟩ A
  have A:Env 23 ((9,.bool true)::_) a:=A
  refine y_val (wk0 O) O O A hp (v:= .bool (!true)) (ex_not O A O) ?_
  intro a A
  refine y_nil ?_
  refine dK A O (fun hb=>by cases hb) (fun _=>?_)
  refine bI (aG ?_)
  refine aG (aA ?_)
  refine V A hp O (dJ O A O (tcF4 _ _)) fun a A=>V A hp O (xl A tcVS 1 O O O O) fun a A=>V A hp O (bW O A O (aH.len hv tcSl)) fun a A=>S A 1 O fun a A=>aB ?_
  refine dM (fun a w=>Env 23 [] a∧Hp Z ρ (Y (.next (c+bK B))::L) w) ?_ ?_
  ·refine eQ (kidsLoop B.kids.length B.kids.length 0 (by omega)) (fun i a w=>i≤B.kids.length∧Env 23 [(1,.func (.yield l) #[] #[]),(12,v),(13,(Iv (B.kids.length:Int))),(14,(Iv (i:Int)))] a∧∃L',Hp Z ρ (Y (.next (c+1+gW (B.kids.take i)))::L') w∧∀c w,Hp Z ρ (Y (.next c)::L') w→Hp Z ρ (Y (.next c)::L) w) ?_ ?_
   ·refine⟨Nat.zero_le _,A.cut ⟨O,O,O,O,tv⟩,(Pt b1 (.cells #[(Iv B.kind),(.string B.text),(Iv B.at_),(Iv B.fin),v] 24 (0,0))::L),?_,fun c w h=>?_⟩
    ·rw[List.take_zero,gW,Nat.add_zero];exact hp
    exact(h.get 1 O).drop
   rintro i st a w ⟨hi,A,L',hp,hL'⟩ C
   refine aG (aA ?_)
   refine S A 1 O fun a A=>aB (aG ?_)
   refine dK A O (fun hb=>?_) (fun hb=>?_)
   ·have hlt:i<B.kids.length:=by simpa using hb
    obtain⟨x,F⟩:∃x,B.kids[i]?=some x:=⟨_,vB hlt⟩
    refine bI (aG ?_)
    refine dN (aG ?_)
    refine aA ?_
    have ex:idx B.kids (i:Int)=some x:=by unfold idx;rw[if_pos (by omega)];simpa using F
    obtain⟨b3,b3o,b3c,b3r,b3k,b3f⟩:=aH.at hv tcSl ex
    obtain⟨vk,rfl,hk⟩:=NodeAt.opens b3k
    refine V A hp O (aO O A O O b3r) fun a A=>V A hp O (aK O A O (fun w D=>aX (cs:=[(Iv x.kind),(.string x.text),(Iv x.at_),(Iv x.fin),vk]) tcVN (fun j u G=>cell_of D.le (b3f j u G)))) fun a A=>?_
    refine dF (wk0 O) O O A hp O [(Iv 0),(.string ByteArray.empty),(Iv 0),(Iv 0),N0] (fun w=>by simp[Instr.alloc,go_sem]<;>rfl) ?_
    intro a w b2 A hp
    refine aV (wk0 O) O A hp O O (v:=uO x vk) O 0 O (by exact tcVN.size_) O (by
     have h1:=aH.one hk
     intro u hu
     simp[Value.cells] at hu
     rcases hu with rfl|rfl|rfl|rfl|rfl<;>first|rfl|exact h1) [(Iv x.kind),(.string x.text),(Iv x.at_),(Iv x.fin),vk] (by simp[Value.cells]) ?_
    intro w hp
    refine aB (aG ?_)
    refine aA (V A hp O (aK O A O (fun w D=>aX (cs:=[(Iv x.kind),(.string x.text),(Iv x.at_),(Iv x.fin),vk]) tcVN (Hp.cN 0 O 0 _ (aS O) w D))) fun a A=>?_)
    refine S A 1 O fun a A=>?_
    have hp:=hp.drop
    have h1:=zG F
    have h2:=aD3 B.kids (i+1)
    refine s_call (wk0 O) O O A O [uO x vk,.func (.yield l) #[] #[]] ⟨O,O,tv⟩ tcEv (ih x (by have:=aD5 F;omega) _ _ w vk hk (by omega) hp) Ret.ret ?_
    intro v2 a w H A
    obtain⟨rfl,hp⟩:=Ret.of H
    refine S A 1 O fun a A=>aB ?_
    refine dK A O (fun hb=>by cases hb) (fun _=>?_)
    refine bI (aA ?_)
    refine V A hp O (v:=(Iv ((i+1:Nat):Int))) (bF O A O O (by have:=wY B.kids;rw[IntKind.wrap_i64];omega)) fun a A=>S A 1 O fun a A=>aB ?_
    refine⟨i+1,?_,by omega,A.cut ⟨O,O,O,O,tv⟩,L',?_,hL'⟩
    ·unfold P8 at C;rw[if_pos hlt] at C;exact(oj C).symm
    rw[h1,←Nat.add_assoc];exact hp
   have hge:¬i<B.kids.length:=by simpa using hb
   refine dZ ?_
   refine⟨(),?_,fun _=>?_⟩
   ·unfold P8 at C;rw[if_neg hge] at C;exact(oj C).symm
   refine⟨A.cut trivial,?_⟩
   have:=hL' _ _ hp
   rw[wN (by omega)] at this
   rw[hcnt,←Nat.add_assoc];exact this
  rintro a w ⟨A,hp⟩
  refine aG (aA ?_)
  refine S A 1 O fun a A=>aB (cZ ?_)
  exact gY A O O ⟨_,O,O,hp⟩
theorem nodes_c {Z:World} {ρ:PH} {L:List bQ} {w:World} (B:Node) (v:Value) (C:Hp Z ρ L w):
  Calls Tryz.prog 87 #[uO B v] w (Ret fun r w'=>∃b,r= .func (.func 101) #[] #[.pointer (some ⟨b,0,none⟩)]∧Hp Z ρ (Pt b (.cells #[(Iv B.kind),(.string B.text),(Iv B.at_),(Iv B.fin),v] 24 (0,0))::L) w'):=by
 refine enter (N:=4) Tryz.func87 O O [(0,uO B v)] O (bH ⟨O,tv⟩) fun a A=>?_
 refine aG (aA ?_)
 refine iH (wk0 O) O O A C O (v:=uO B v) O ?_
 intro a w b1 A C
 refine S A 1 O fun a A=>aB (aG ?_)
 refine aA (V A C O (v:= .func (.func 101) #[] #[.pointer (some ⟨b1,0,none⟩)]) (ex_fn O A [.pointer (some ⟨b1,0,none⟩)] (by exact⟨O,tv⟩)) fun a A=>?_)
 refine S A 1 O fun a A=>aB (cZ ?_)
 exact gY A O O ⟨_,O,_,O,C⟩
theorem nodes1_c {Z:World} {ρ:PH} {l N:Nat} {Y:Step Nat Empty→bQ} (hN:N≤4611686018427387904)
  (hY:YieldOk Tryz.prog Z ρ l (fun x:Value=>[x]) (cntF N) Y)
  (A:Node) (b:Nat) (L:List bQ) (w:World) (v:Value) (hv:aH ρ v A.kids) (hcN:bK A≤N)
  (C:Hp Z ρ (Y (.next 0)::Pt b (.cells #[(Iv A.kind),(.string A.text),(Iv A.at_),(Iv A.fin),v] 24 (0,0))::L) w):
  Calls Tryz.prog 101 #[.func (.yield l) #[] #[],.pointer (some ⟨b,0,none⟩)] w (Ret fun _ w'=>Hp Z ρ (Y (.next (bK A))::L) w'):=by
 refine enter (N:=6) Tryz.func101 O O [(0,.func (.yield l) #[] #[]),(1,.pointer (some ⟨b,0,none⟩))] O (bH ⟨O,O,tv⟩) fun a B=>?_
 refine aA (V B C O (aK O B O (fun w D=>aX (cs:=[(Iv A.kind),(.string A.text),(Iv A.at_),(Iv A.fin),v]) tcVN (Hp.cN 1 O 0 _ (aS O) w D))) fun a B=>?_)
 refine S B 1 O fun a B=>?_
 refine s_call (wk0 O) O O B O [uO A v,.func (.yield l) #[] #[]] ⟨O,O,tv⟩ tcEv (visit_c hN hY _ A (zP _) 0 _ w v hv (by omega) C) Ret.ret ?_
 intro v2 a w F B
 obtain⟨rfl,C⟩:=Ret.of F
 refine aB ?_
 refine⟨B.defers,_,results_none O _ _ _,_,O,?_⟩
 rw[Nat.zero_add] at C
 exact(C.get 1 O).drop
theorem aN5 {Z:World} {ρ:PH} {L:List bQ} {w:World} (C:Node) (aI:Value) (aY:aH ρ aI C.kids) (B:Hp Z ρ (L) w) (r:Int) (F:aD4 C=some r):
  Calls Tryz.prog 64 #[(.agg #[(Iv C.kind),(.string C.text),(Iv C.at_),(Iv C.fin),aI])] w (Ret fun v w'=>v=(Iv r)∧Hp Z ρ (L) w'):=by
 obtain⟨hlt,rfl⟩:bK C<4611686018427387904∧r=(bK C:Int):=by
  unfold aD4 at F
  split at F
  ·exact⟨by assumption,(oj F).symm⟩
  cases F
 refine enterM (N:=10) Tryz.func64 O O [(0,uO C aI)] O (bH ⟨O,tv⟩) fun a A=>?_
 refine aG (aA ?_)
 refine iH (wk0 O) O O A B O (v:=uO C aI) O ?_
 intro a w b1 A B
 have B:=r1 B
 refine S A 1 O fun a A=>aB (aG ?_)
 refine aA ?_
 refine dF (wk0 O) O O A B O [.int .i64 0] (fun w=>by simp[Instr.alloc,go_sem]<;>rfl) ?_
 intro a w b2 A B
 refine aV (wk0 O) O A B O O (v:= .int .i64 0) O 0 O (by exact rD.size_) O (by simp[Value.cells,Value.oneCell']) [.int .i64 0] (by simp[Value.cells]) ?_
 intro w B
 refine aB (aG ?_)
 refine aG (aA ?_)
 refine V A B O (aK O A O (fun w G=>aX (cs:=[(Iv C.kind),(.string C.text),(Iv C.at_),(Iv C.fin),aI]) tcVN (Hp.cN 1 O 0 _ (aS O) w G))) fun a A=>?_
 refine s_call (wk0 O) O O A O [uO C aI] ⟨O,tv⟩ tcEn (nodes_c C aI B) Ret.ret ?_
 intro v2 a w I A
 obtain⟨b,rfl,B⟩:=Ret.of I
 refine aB (dN ?_)
 refine k_rangeF (fun c:Nat=>Pt b2 (.cells #[.int .i64 (c:Int)] 3 (0,0))) (fun r:Empty=>fun k=>False) (fun x:Value=>[x]) (cntF (bK C)) (b:= .next (bK C)) (L':=L) (E2:=fun x=>[]) (lb:=[.pointer (some ⟨b,0,none⟩)]) (s0:=0) A O tcE1 ((B.get 2 O).drop.get 1 O) (fun _=>rfl) (by decide) ?_ ?_ ?_ ?_ ?_
 ·intro yl Y w hY B
  refine Calls.mono (nodes1_c (by omega) hY C b L w aI aY (zP _) B) fun e w' he=>?_
  obtain⟨v,rfl,hh⟩:=he
  exact⟨_,O,hh⟩
 ·intro yl x a L w A B
  refine bI ?_
  exact⟨A,B⟩
 ·rintro yl x c st a L w D A B
  have H:c<bK C:=by
   unfold cntF at D
   split at D
   ·assumption
   cases D
  unfold cntF at D
  rw[if_pos H] at D
  refine dN (aA ?_)
  refine V A B O (xl A rD 0 O O O O) fun a A=>V A B O (v:= .int .i64 ((c+1:Nat):Int)) (bF O A O O (by rw[IntKind.wrap_i64];omega)) fun a A=>?_
  refine aV (wk0 O) O A B O O (v:= .int .i64 ((c+1:Nat):Int)) O 0 O (by exact rD.size_) O (by simp[Value.cells,Value.oneCell']) [.int .i64 ((c+1:Nat):Int)] (by simp[Value.cells]) ?_
  intro w B
  refine aB ?_
  exact⟨_,(oj D).symm,B⟩
 ·intro s hs dd a w A B
  obtain rfl:=Step.next.inj hs
  refine aG (aA ?_)
  refine V A B O (xl A rD 0 O O O O) fun a A=>S A 1 O fun a A=>aB (cZ ?_)
  refine retM (.inl O) A (B.get 1 O) fun a w A B=>?_
  exact gY A O O ⟨_,O,O,B.drop⟩
 intro r _ dd a w A B
 exact r.elim
end Go.Proofs.YtopnldfjcciieaaGreat
