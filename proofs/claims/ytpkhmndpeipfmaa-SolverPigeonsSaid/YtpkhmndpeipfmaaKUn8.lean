/- The code goes as its model: (*assessor/solver.queue).Len, (*assessor/solver.queue).Less, (*assessor/solver.queue).Swap, (*assessor/solver.queue).Push, (*assesso -/
import Derived.Test.YtpkhmndpeipfmaaKUnT
import Derived.Test.YtpkhmndpeipfmaaKUn5
import Derived.Test.YtpkhmndpeipfmaaKUn6
set_option linter.unusedVariables false
set_option linter.unusedSimpArgs false
set_option maxRecDepth 100000
set_option maxHeartbeats 4000000
namespace Go.Proofs.Ytpkhmndpeipfmaa
open Go.RowKit
theorem uO {Z:World} {ρ:PH} {L:List bZ} {w:World} (bp0:Nat) (p0:Que) (eY:Value) (dY:Value) (hp:Hp Z ρ (Pt bp0 (.cells #[eY,dY] 68 (0,0))::aA 3 eY p0.list::aA 4 dY p0.isin::L) w) (r:Int) (hm:jX p0=some r):
  Calls Try.prog 66 #[(Pv bp0 0)] w (Ret fun v w'=>v=(Iv r)∧Hp Z ρ (Pt bp0 (.cells #[eY,dY] 68 (0,0))::aA 3 eY p0.list::aA 4 dY p0.isin::L) w'):=by
 refine enter (N:=8) Try.func66 rfl rfl [(0,(Pv bp0 0))] rfl (bM ⟨rfl,trivial⟩) fun a hE=>?_
 unfold jX at hm
 refine aG (aB ?_)
 refine S hE 1 rfl fun a hE=>aC (aG ?_)
 refine aB (S hE 2 rfl fun a hE=>?_)
 refine V hE hp rfl (xf hE oU rfl rfl) fun a hE=>V hE hp rfl (xl hE bJ 0 rfl rfl rfl rfl) fun a hE=>V hE hp rfl (dL rfl hE rfl (aA.len hp 1 rfl bC)) fun a hE=>S hE 1 rfl fun a hE=>aC (dE ?_)
 obtain rfl:=oj hm
 exact iH hE rfl rfl ⟨_,rfl,rfl,hp⟩
theorem tK {Z:World} {ρ:PH} {L:List bZ} {w:World} (bp0:Nat) (p0:Que) (eY:Value) (dY:Value) (p1:Int) (p2:Int) (hp:Hp Z ρ (Pt bp0 (.cells #[eY,dY] 68 (0,0))::aA 3 eY p0.list::aA 4 dY p0.isin::L) w) (r:Bool) (hm:jG p0 p1 p2=some r):
  Calls Try.prog 119 #[(Pv bp0 0),(Iv p1),(Iv p2)] w (Ret fun v w'=>v=(.bool r)∧Hp Z ρ (Pt bp0 (.cells #[eY,dY] 68 (0,0))::aA 3 eY p0.list::aA 4 dY p0.isin::L) w'):=by
 refine enter (N:=22) Try.func119 rfl rfl [(0,(Pv bp0 0)),(1,(Iv p1)),(2,(Iv p2))] rfl (bM ⟨rfl,rfl,rfl,trivial⟩) fun a hE=>?_
 unfold jG at hm
 refine aG (aB ?_)
 refine S hE 1 rfl fun a hE=>aC (aG ?_)
 refine oN (by kernel_rfl) (by kernel_rfl) hp ?_
 refine Sq hE 2 rfl fun a hE=>Vq hE rfl (xf hE oU rfl rfl) fun a hE=>Vq hE rfl (xl hE bJ 0 rfl rfl rfl rfl) fun a hE=>Sq hE 1 rfl fun a hE=>?_
 obtain⟨x1,ex1,hm⟩:=bnd hm
 obtain⟨b1,b1o,b1r,b1v,b1f⟩:=aA.at hp 1 rfl bC ex1
 refine Vq hE rfl (aU rfl hE rfl rfl b1r) fun a hE=>Vq hE rfl (bD rfl hE rfl (fun w hw=>bH bG (b1f 0 _ rfl _ _ w (hw.get 1 rfl)))) fun a hE=>Sq hE 2 rfl fun a hE=>Vq hE rfl (xf hE oU rfl rfl) fun a hE=>Vq hE rfl (xl hE bJ 0 rfl rfl rfl rfl) fun a hE=>Sq hE 1 rfl fun a hE=>?_
 obtain⟨x2,ex2,hm⟩:=bnd hm
 obtain⟨b2,b2o,b2r,b2v,b2f⟩:=aA.at hp 1 rfl bC ex2
 refine Vq hE rfl (aU rfl hE rfl rfl b2r) fun a hE=>Vq hE rfl (bD rfl hE rfl (fun w hw=>bH bG (b2f 0 _ rfl _ _ w (hw.get 1 rfl)))) fun a hE=>Sq hE 2 rfl fun a hE=>?_
 refine qR fun w hp=>?_
 have hp:=r3 hp
 refine dE ?_
 obtain rfl:=oj hm
 exact iH hE rfl rfl ⟨_,rfl,rfl,hp⟩
theorem tN {Z:World} {ρ:PH} {L:List bZ} {w:World} (bp0:Nat) (p0:Que) (eY:Value) (dY:Value) (p1:Int) (p2:Int) (hp:Hp Z ρ (Pt bp0 (.cells #[eY,dY] 68 (0,0))::aA 3 eY p0.list::aA 4 dY p0.isin::L) w) (r:Que) (hm:iJ p0 p1 p2=some r):
  Calls Try.prog 122 #[(Pv bp0 0),(Iv p1),(Iv p2)] w (Ret fun v w'=>∃(jR:Value) (jQ:Value),v= .tuple #[]∧Hp Z ρ (Pt bp0 (.cells #[jR,jQ] 68 (0,0))::aA 3 jR r.list::aA 4 jQ r.isin::L) w'):=by
 refine enter (N:=32) Try.func122 rfl rfl [(0,(Pv bp0 0)),(1,(Iv p1)),(2,(Iv p2))] rfl (bM ⟨rfl,rfl,rfl,trivial⟩) fun a hE=>?_
 unfold iJ at hm
 obtain⟨x1,ex1,hm⟩:=bnd hm
 obtain⟨x2,ex2,hm⟩:=bnd hm
 obtain⟨x3,ex3,hm⟩:=bnd hm
 obtain⟨x4,ex4,hm⟩:=bnd hm
 have hp:=hp.drew
 refine jS ([([],At0 Z ρ),([],At1 Z ρ (Pt bp0 (.cells #[eY,dY] 68 (0,0)))),([25,27],At1 Z ρ (aA 3 eY p0.list))]:Facts) (fun a w=>Env 32 [] a∧Hp Z ρ (Pt bp0 (.cells #[eY,dY] 68 (0,0))::aA 3 eY ((p0.list.set p1.toNat x1).set p2.toNat x2)::aA 4 dY p0.isin::L) w) (by kernel_rfl) ⟨fun _=>⟨_,hp⟩,fun _=>⟨_,(hp.get 0 rfl)⟩,fun _=>⟨_,(hp.get 1 rfl)⟩,trivial⟩ (fun hS=>?_) ?_
 ·
  generalize w.drew=w at hS hp⊢
  refine Ts [0,1] hE hS rfl rfl (by kernel_rfl) fun a hE hS=>T0 2 hE hS rfl rfl rfl (by kernel_rfl) (fun _=>xf hE oU rfl rfl) fun a hE hS=>T 3 1 hE hS rfl rfl rfl (by kernel_rfl) (fun _=>xl hE bJ 0 rfl rfl rfl rfl) fun a hE hS=>Ts [4,5,6] hE hS rfl rfl (by kernel_rfl) fun a hE hS=>T0 7 hE hS rfl rfl rfl (by kernel_rfl) (fun _=>xf hE oU rfl rfl) fun a hE hS=>T 8 1 hE hS rfl rfl rfl (by kernel_rfl) (fun _=>xl hE bJ 0 rfl rfl rfl rfl) fun a hE hS=>Ts [9,10,11] hE hS rfl rfl (by kernel_rfl) fun a hE hS=>T0 12 hE hS rfl rfl rfl (by kernel_rfl) (fun _=>xf hE oU rfl rfl) fun a hE hS=>T 13 1 hE hS rfl rfl rfl (by kernel_rfl) (fun _=>xl hE bJ 0 rfl rfl rfl rfl) fun a hE hS=>Ts [14] hE hS rfl rfl (by kernel_rfl) fun a hE hS=>?_
  obtain⟨b5,b5o,b5r,b5v,b5f⟩:=aA.at hp 1 rfl bC ex1
  refine T0 15 hE hS rfl rfl rfl (by kernel_rfl) (fun _=>aU rfl hE rfl rfl b5r) fun a hE hS=>T 16 2 hE hS rfl rfl rfl (by kernel_rfl) (fun _=>bD rfl hE rfl (fun w hw=>bH bG (b5f 0 _ rfl _ _ w (hw.get 0 rfl)))) fun a hE hS=>Ts [17,18] hE hS rfl rfl (by kernel_rfl) fun a hE hS=>T0 19 hE hS rfl rfl rfl (by kernel_rfl) (fun _=>xf hE oU rfl rfl) fun a hE hS=>T 20 1 hE hS rfl rfl rfl (by kernel_rfl) (fun _=>xl hE bJ 0 rfl rfl rfl rfl) fun a hE hS=>Ts [21] hE hS rfl rfl (by kernel_rfl) fun a hE hS=>?_
  obtain⟨b6,b6o,b6r,b6v,b6f⟩:=aA.at hp 1 rfl bC ex2
  refine T0 22 hE hS rfl rfl rfl (by kernel_rfl) (fun _=>aU rfl hE rfl rfl b6r) fun a hE hS=>T 23 2 hE hS rfl rfl rfl (by kernel_rfl) (fun _=>bD rfl hE rfl (fun w hw=>bH bG (b6f 0 _ rfl _ _ w (hw.get 0 rfl)))) fun a hE hS=>?_
  obtain⟨b7,b7o,b7r,b7v,b7f⟩:=aA.at hp 1 rfl bC ex3
  refine T0 24 hE hS rfl rfl rfl (by kernel_rfl) (fun _=>aU rfl hE rfl rfl b7r) fun a hE hS=>?_
  refine W1 25 (by kernel_rfl) rfl ?_
  refine mY (wk0 rfl) rfl hE hp rfl rfl rfl 1 rfl ex3 b7v 0 (e':=x1) bG.size_ rfl rfl rfl ⟨rfl,rfl⟩ ?_
  intro w hp
  have hp:=r3 hp
  refine aC (aI ⟨gp0 hp,gp 0 hp rfl,dead (by kernel_rfl),trivial⟩ fun hS=>?_)
  obtain⟨b8,b8o,b8r,b8v,b8f⟩:=aA.at hp 1 rfl bC ex4
  refine T0 26 hE hS rfl rfl rfl (by kernel_rfl) (fun _=>aU rfl hE rfl rfl b8r) fun a hE hS=>?_
  refine W1 27 (by kernel_rfl) rfl ?_
  refine mY (wk0 rfl) rfl hE hp rfl rfl rfl 1 rfl ex4 b8v 0 (e':=x2) bG.size_ rfl rfl rfl ⟨rfl,rfl⟩ ?_
  intro w hp
  have hp:=r3 hp
  refine aC (aI ⟨gp0 hp,gp 0 hp rfl,dead (by kernel_rfl),trivial⟩ fun hS=>?_)
  exact eG (by kernel_rfl) ⟨hE.cut trivial,hp⟩
 rintro a w ⟨hE,hp⟩
 obtain rfl:=oj hm
 exact wZ hE rfl ⟨_,rfl,_,_,rfl,hp⟩
theorem aB8 {Z:World} {ρ:PH} {L:List bZ} {w:World} (bp0:Nat) (p0:Que) (eY:Value) (dY:Value) (p1:Int) (hp:Hp Z ρ (Pt bp0 (.cells #[eY,dY] 68 (0,0))::aA 3 eY p0.list::aA 4 dY p0.isin::L) w) (r:Que) (hm:qJ p0 p1=some r):
  Calls Try.prog 121 #[(Pv bp0 0),(.iface 3 (Iv p1))] w (Ret fun v w'=>∃(jR:Value) (jQ:Value),v= .tuple #[]∧Hp Z ρ (Pt bp0 (.cells #[jR,jQ] 68 (0,0))::aA 3 jR r.list::aA 4 jQ r.isin::L) w'):=by
 refine enter (N:=23) Try.func121 rfl rfl [(0,(Pv bp0 0)),(1,(.iface 3 (Iv p1)))] rfl (bM ⟨rfl,rfl,trivial⟩) fun a hE=>?_
 unfold qJ at hm
 refine aG (aB ?_)
 refine S hE 1 rfl fun a hE=>V hE hp rfl (v:=(Iv p1)) (ex_tas rfl hE rfl (tas20_3 _)) fun a hE=>S hE 1 rfl fun a hE=>aC (aG ?_)
 refine aB (S hE 2 rfl fun a hE=>?_)
 refine V hE hp rfl (xf hE fldty68_1 rfl rfl) fun a hE=>V hE hp rfl (xl hE varty66 0 rfl rfl rfl rfl) fun a hE=>S hE 1 rfl fun a hE=>?_
 obtain⟨x1,ex1,hm⟩:=bnd hm
 obtain⟨b1,b1o,b1r,b1v,b1f⟩:=aA.at hp 2 rfl slty66 ex1
 refine V hE hp rfl (aU rfl hE rfl rfl b1r) fun a hE=>?_
 refine mY (wk0 rfl) rfl hE hp rfl rfl rfl 2 rfl ex1 b1v 0 (e':=true) sO.size_ rfl rfl rfl ⟨rfl,rfl⟩ ?_
 intro w hp
 have hp:=r3 hp
 refine aC (aB ?_)
 refine S hE 3 rfl fun a hE=>V hE hp rfl (xf hE oU rfl rfl) fun a hE=>V hE hp rfl (xl hE bJ 0 rfl rfl rfl rfl) fun a hE=>S hE 1 rfl fun a hE=>?_
 refine iP (wk0 rfl) rfl rfl hE hp rfl [(0,(Iv p1))] ⟨⟨rfl,rfl⟩,trivial⟩ [(Iv p1)] 3 (fun w=>by simp[Instr.buildSlice,Instr.fill,Value.cells,go_sem]) ?_
 intro a w b2 hE hp
 have hp:=r4 hp
 obtain⟨x2,ex2,hm⟩:=bnd hm
 refine lY (wk0 rfl) rfl rfl hE hp rfl bC rfl rfl 2 rfl rfl (l2:=[p1]) rfl (fun j u hj=>by have:=Hp.cN 0 rfl 0 _ (bV rfl) w hp j u hj;simpa using this) ex2 ?_
 intro v1 a w hE hp
 have hp:=r4 hp
 refine S hE 1 rfl fun a hE=>V hE hp rfl (xf hE oU rfl rfl) fun a hE=>?_
 refine oK (wk0 rfl) rfl hE hp rfl rfl rfl 1 rfl bJ.size_ (aA.cells hp 2 rfl) (aA.one hp 2 rfl) rfl [v1,dY] rfl ?_
 intro w hp
 have hp:=r4 hp
 refine aC ?_
 obtain rfl:=oj hm
 exact wZ hE rfl ⟨_,rfl,_,_,rfl,(hp.drop)⟩
theorem aC8 {Z:World} {ρ:PH} {L:List bZ} {w:World} (bp0:Nat) (p0:Que) (eY:Value) (dY:Value) (hp:Hp Z ρ (Pt bp0 (.cells #[eY,dY] 68 (0,0))::aA 3 eY p0.list::aA 4 dY p0.isin::L) w) (r:(Int×Que)) (hm:rF p0=some r):
  Calls Try.prog 120 #[(Pv bp0 0)] w (Ret fun v w'=>∃(jR:Value) (jQ:Value),v=(.iface 3 (Iv r.1))∧Hp Z ρ (Pt bp0 (.cells #[jR,jQ] 68 (0,0))::aA 3 jR r.2.list::aA 4 jQ r.2.isin::L) w'):=by
 refine enter (N:=35) Try.func120 rfl rfl [(0,(Pv bp0 0))] rfl (bM ⟨rfl,trivial⟩) fun a hE=>?_
 unfold rF at hm
 refine aG (aB ?_)
 refine S hE 1 rfl fun a hE=>aC (aG ?_)
 refine aB (S hE 2 rfl fun a hE=>?_)
 refine V hE hp rfl (xf hE oU rfl rfl) fun a hE=>V hE hp rfl (xl hE bJ 0 rfl rfl rfl rfl) fun a hE=>V hE hp rfl (dL rfl hE rfl (aA.len hp 1 rfl bC)) fun a hE=>?_
 obtain⟨x1,ex1,hm⟩:=bnd hm
 refine V hE hp rfl (rX rfl hE rfl rfl (aZ ex1)) fun a hE=>S hE 1 rfl fun a hE=>aC (aG ?_)
 refine aB (S hE 2 rfl fun a hE=>?_)
 refine V hE hp rfl (xf hE oU rfl rfl) fun a hE=>V hE hp rfl (xl hE bJ 0 rfl rfl rfl rfl) fun a hE=>S hE 1 rfl fun a hE=>?_
 obtain⟨x2,ex2,hm⟩:=bnd hm
 obtain⟨b1,b1o,b1r,b1v,b1f⟩:=aA.at hp 1 rfl bC ex2
 refine V hE hp rfl (aU rfl hE rfl rfl b1r) fun a hE=>V hE hp rfl (bD rfl hE rfl (fun w hw=>bH bG (b1f 0 _ rfl _ _ w (hw.get 1 rfl)))) fun a hE=>S hE 1 rfl fun a hE=>aC (aG ?_)
 obtain⟨x3,ex3,hm⟩:=bnd hm
 obtain⟨x4,ex4,hm⟩:=bnd hm
 have hp:=hp.drew
 refine jS ([([],At0 Z ρ),([14],At1 Z ρ (Pt bp0 (.cells #[eY,dY] 68 (0,0))))]:Facts) (fun a w=>∃y2:Value,Env 35 [(4,(Iv x2))] a∧Hp Z ρ (aA 3 y2 x3::Pt bp0 (.cells #[y2,dY] 68 (0,0))::aA 4 dY (p0.isin.set x2.toNat false)::L) w) (by kernel_rfl) ⟨fun _=>⟨_,hp⟩,fun _=>⟨_,(hp.get 0 rfl)⟩,trivial⟩ (fun hS=>?_) ?_
 ·
  generalize w.drew=w at hS hp⊢
  refine Ts [0,1,2] hE hS rfl rfl (by kernel_rfl) fun a hE hS=>T0 3 hE hS rfl rfl rfl (by kernel_rfl) (fun _=>xf hE fldty68_1 rfl rfl) fun a hE hS=>T 4 1 hE hS rfl rfl rfl (by kernel_rfl) (fun _=>xl hE varty66 0 rfl rfl rfl rfl) fun a hE hS=>Ts [5,6,7] hE hS rfl rfl (by kernel_rfl) fun a hE hS=>T0 8 hE hS rfl rfl rfl (by kernel_rfl) (fun _=>xf hE oU rfl rfl) fun a hE hS=>T 9 1 hE hS rfl rfl rfl (by kernel_rfl) (fun _=>xl hE bJ 0 rfl rfl rfl rfl) fun a hE hS=>Ts [10] hE hS rfl rfl (by kernel_rfl) fun a hE hS=>?_
  refine W1 11 (by kernel_rfl) rfl ?_
  obtain⟨v2,v2r,hp⟩:=aA.head (hp.get 1 rfl) bC (some (.i64,x1)) rfl ex3
  have hp:=r3 hp
  refine V hE hp rfl (wV rfl hE rfl none (some (.i64,x1)) (by exact trivial) (by exact rfl) v2r) fun a hE=>?_
  refine aC (aI ⟨gp0 hp,gp 1 hp rfl,trivial⟩ fun hS=>?_)
  refine Ts [12] hE hS rfl rfl (by kernel_rfl) fun a hE hS=>T0 13 hE hS rfl rfl rfl (by kernel_rfl) (fun _=>xf hE oU rfl rfl) fun a hE hS=>?_
  refine W1 14 (by kernel_rfl) rfl ?_
  refine oK (wk0 rfl) rfl hE hp rfl rfl rfl 1 rfl bJ.size_ (aA.cells hp 0 rfl) (aA.one hp 0 rfl) rfl [v2,dY] rfl ?_
  intro w hp
  have hp:=r3 hp
  refine aC (aI ⟨gp0 hp,dead (by kernel_rfl),trivial⟩ fun hS=>?_)
  obtain⟨b3,b3o,b3r,b3v,b3f⟩:=aA.at hp 2 rfl slty66 ex4
  refine T0 15 hE hS rfl rfl rfl (by kernel_rfl) (fun _=>aU rfl hE rfl rfl b3r) fun a hE hS=>?_
  refine W1 16 (by kernel_rfl) rfl ?_
  refine mY (wk0 rfl) rfl hE hp rfl rfl rfl 2 rfl ex4 b3v 0 (e':=false) sO.size_ rfl rfl rfl ⟨rfl,rfl⟩ ?_
  intro w hp
  have hp:=r3 hp
  refine aC (aI ⟨gp0 hp,dead (by kernel_rfl),trivial⟩ fun hS=>?_)
  exact eG (by kernel_rfl) ⟨_,hE.cut ⟨rfl,trivial⟩,hp⟩
 rintro a w ⟨y2,hE,hp⟩
 refine aG (aB ?_)
 refine S hE 1 rfl fun a hE=>V hE hp rfl (v:=(.iface 3 (Iv x2))) (ex_mki rfl hE rfl (mki3 _)) fun a hE=>S hE 1 rfl fun a hE=>aC (dE ?_)
 obtain rfl:=oj hm
 exact iH hE rfl rfl ⟨_,rfl,_,_,rfl,(((hp.get 2 rfl).get 1 rfl).get 2 rfl)⟩
theorem c_heap_up {Z:World} {ρ:PH} {L:List bZ} {w:World} (bp0:Nat) (p0:Que) (eY:Value) (dY:Value) (p1:Int) (hp:Hp Z ρ (Pt bp0 (.cells #[eY,dY] 68 (0,0))::aA 3 eY p0.list::aA 4 dY p0.isin::L) w) (r:Que) (hm:F8 p0 p1=some r):
  Calls Try.prog 63 #[(.iface 63 (Pv bp0 0)),(Iv p1)] w (Ret fun v w'=>∃(jR:Value) (jQ:Value),v= .tuple #[]∧Hp Z ρ (Pt bp0 (.cells #[jR,jQ] 68 (0,0))::aA 3 jR r.list::aA 4 jQ r.isin::L) w'):=by
 refine enter (N:=23) Try.func63 rfl rfl [(0,(.iface 63 (Pv bp0 0))),(1,(Iv p1))] rfl (bM ⟨rfl,rfl,trivial⟩) fun a hE=>?_
 unfold F8 at hm
 obtain⟨b1,hc1,hm⟩:=bnd hm
 refine dH (fun a w=>∃(w2:Value) (w3:Value),Env 23 [] a∧Hp Z ρ (Pt bp0 (.cells #[w2,w3] 68 (0,0))::aA 3 w2 b1.1::aA 4 w3 b1.2::L) w) ?_ ?_
 ·refine eU hc1 (fun s a w=>∃(w2:Value) (w3:Value),Env 23 [(0,(.iface 63 (Pv bp0 0))),(1,(Iv s.1))] a∧Hp Z ρ (Pt bp0 (.cells #[w2,w3] 68 (0,0))::aA 3 w2 s.2.1::aA 4 w3 s.2.2::L) w) ?_ ?_
  ·exact⟨_,_,hE.cut ⟨rfl,rfl,trivial⟩,hp⟩
  rintro⟨aW,bU,dJ⟩ st a w ⟨w2,w3,hE,hp⟩ hl1
  dsimp only at hE hp hl1
  unfold wJ at hl1
  refine dF (aG ?_)
  refine aB (S hE 1 rfl fun a hE=>?_)
  obtain⟨x1,ex1,hl1⟩:=bnd hl1
  refine V hE hp rfl (rX rfl hE rfl rfl (aZ ex1)) fun a hE=>?_
  obtain⟨x2,ex2,hl1⟩:=bnd hl1
  refine V hE hp rfl (ex_quo rfl hE rfl rfl (quoK_some ex2).1 (quoK_some ex2).2) fun a hE=>S hE 1 rfl fun a hE=>aC (aG ?_)
  refine aG (aB ?_)
  refine S hE 4 rfl fun a hE=>?_
  obtain⟨m1,hg1,hl1⟩:=bnd hl1
  refine lZ [_,_,_,_,_,_] (fun a w=>Env 23 [(17,(.bool m1)),(0,(.iface 63 (Pv bp0 0))),(1,(Iv aW)),(4,(Iv x2))] a∧Hp Z ρ (Pt bp0 (.cells #[w2,w3] 68 (0,0))::aA 3 w2 bU::aA 4 w3 dJ::L) w) ?_ ?_
  ·rcases Bool.eq_false_or_eq_true (decide (x2=aW)) with hc2|hc2
   ·
    replace hg1:=(it hc2).symm.trans hg1
    refine Gk hE hc2 rfl fun a hE=>Gk hE hc2 rfl fun a hE=>Gk hE hc2 rfl fun a hE=>Gk hE hc2 rfl fun a hE=>Gk hE hc2 rfl fun a hE=>pk1 hE hc2 rfl rfl rfl rfl fun a hE=>?_
    obtain rfl:=oj hg1
    exact aC ⟨hE.cut ⟨rfl,rfl,rfl,rfl,trivial⟩,hp⟩
   replace hg1:=(ie hc2).symm.trans hg1
   refine Gs hE hc2 rfl rfl fun a hE=>Gs hE hc2 rfl rfl fun a hE=>Gs hE hc2 rfl rfl fun a hE=>?_
   obtain⟨x3,ex3,hg1⟩:=bnd hg1
   refine wL (wk1 hE rfl rfl rfl hc2) rfl rfl hE rfl rfl [(Iv aW),(Iv x2)] ⟨rfl,rfl,trivial⟩ (aD2 _ _ _) (tK bp0 (Que.mk bU dJ) w2 w3 aW x2 (((hp.get 2 rfl).get 2 rfl).get 2 rfl) x3 ex3) Ret.ret ?_
   intro v a w hR hE
   obtain⟨rfl,hp⟩:=Ret.of hR
   have hp:=r3 hp
   refine Gs hE hc2 rfl rfl fun a hE=>pk0 hE hc2 rfl rfl rfl rfl fun a hE=>?_
   obtain rfl:=oj hg1
   exact aC ⟨hE.cut ⟨rfl,rfl,rfl,rfl,trivial⟩,hp⟩
  rintro a w ⟨hE,hp⟩
  refine aC ?_
  refine dK hE rfl (fun hc3=>?_) (fun hc3=>?_)
  ·replace hl1:=(it hc3).symm.trans hl1
   refine dR ?_
   refine⟨_,(oj hl1).symm,fun hbb=>?_⟩
   subst hbb
   exact⟨_,_,hE.cut trivial,hp⟩
  replace hl1:=(ie hc3).symm.trans hl1
  refine bP (aG ?_)
  refine aB (S hE 3 rfl fun a hE=>?_)
  obtain⟨x4,ex4,hl1⟩:=bnd hl1
  refine wL (wk0 rfl) rfl rfl hE rfl rfl [(Iv x2),(Iv aW)] ⟨rfl,rfl,trivial⟩ (aD3 _ _ _) (tN bp0 (Que.mk bU dJ) w2 w3 x2 aW (((hp.get 2 rfl).get 2 rfl).get 2 rfl) x4 ex4) Ret.ret ?_
  intro v a w hR hE
  obtain⟨rQ,rP,rfl,hp⟩:=Ret.of hR
  have hp:=r3 hp
  refine aC (aB ?_)
  refine S hE 2 rfl fun a hE=>aC ?_
  exact⟨_,(oj hl1).symm,_,_,hE.cut ⟨rfl,rfl,trivial⟩,hp⟩
 rintro a w ⟨w2,w3,hE,hp⟩
 obtain rfl:=oj hm
 exact wZ hE rfl ⟨_,rfl,_,_,rfl,hp⟩
theorem c_heap_down {Z:World} {ρ:PH} {L:List bZ} {w:World} (bp0:Nat) (p0:Que) (eY:Value) (dY:Value) (p1:Int) (p2:Int) (hp:Hp Z ρ (Pt bp0 (.cells #[eY,dY] 68 (0,0))::aA 3 eY p0.list::aA 4 dY p0.isin::L) w) (r:(Bool×Que)) (hm:wX p0 p1 p2=some r):
  Calls Try.prog 74 #[(.iface 63 (Pv bp0 0)),(Iv p1),(Iv p2)] w (Ret fun v w'=>∃(jR:Value) (jQ:Value),v=(.bool r.1)∧Hp Z ρ (Pt bp0 (.cells #[jR,jQ] 68 (0,0))::aA 3 jR r.2.list::aA 4 jQ r.2.isin::L) w'):=by
 refine enter (N:=48) Try.func74 rfl rfl [(0,(.iface 63 (Pv bp0 0))),(1,(Iv p1)),(2,(Iv p2))] rfl (bM ⟨rfl,rfl,rfl,trivial⟩) fun a hE=>?_
 unfold wX at hm
 refine aG (aB ?_)
 refine S hE 1 rfl fun a hE=>aC (aG ?_)
 refine aB (S hE 2 rfl fun a hE=>?_)
 refine aC (aG ?_)
 obtain⟨b1,hc1,hm⟩:=bnd hm
 refine dH (fun a w=>∃(w2:Value) (w3:Value),Env 48 [(1,(Iv p1)),(7,(Iv b1.1))] a∧Hp Z ρ (Pt bp0 (.cells #[w2,w3] 68 (0,0))::aA 3 w2 b1.2.1::aA 4 w3 b1.2.2::L) w) ?_ ?_
 ·refine eU hc1 (fun s a w=>∃(w2:Value) (w3:Value),Env 48 [(0,(.iface 63 (Pv bp0 0))),(1,(Iv p1)),(2,(Iv p2)),(7,(Iv s.1))] a∧Hp Z ρ (Pt bp0 (.cells #[w2,w3] 68 (0,0))::aA 3 w2 s.2.1::aA 4 w3 s.2.2::L) w) ?_ ?_
  ·exact⟨_,_,hE.cut ⟨rfl,rfl,rfl,rfl,trivial⟩,hp⟩
  rintro⟨aW,bU,dJ⟩ st a w ⟨w2,w3,hE,hp⟩ hl1
  dsimp only at hE hp hl1
  unfold uI at hl1
  refine dF (aG ?_)
  refine aB (S hE 1 rfl fun a hE=>?_)
  obtain⟨x1,ex1,hl1⟩:=bnd hl1
  refine V hE hp rfl (yO rfl hE rfl rfl (aZ ex1)) fun a hE=>?_
  obtain⟨x2,ex2,hl1⟩:=bnd hl1
  refine V hE hp rfl (dD rfl hE rfl rfl (aZ ex2)) fun a hE=>S hE 1 rfl fun a hE=>aC ?_
  have hE:=hE.cut (E':=[(0,(.iface 63 (Pv bp0 0))),(1,(Iv p1)),(2,(Iv p2)),(7,(Iv aW)),(8,(Iv x2))]) ⟨rfl,rfl,rfl,rfl,rfl,trivial⟩
  refine aG (aG ?_)
  refine aB (S hE 4 rfl fun a hE=>?_)
  refine lZ [_,_,_] (fun a w=>Env 48 [(21,(.bool ((decide (p2≤x2))||(decide (x2<0))))),(0,(.iface 63 (Pv bp0 0))),(1,(Iv p1)),(2,(Iv p2)),(7,(Iv aW)),(8,(Iv x2))] a∧Hp Z ρ (Pt bp0 (.cells #[w2,w3] 68 (0,0))::aA 3 w2 bU::aA 4 w3 dJ::L) w) ?_ ?_
  ·rcases Bool.eq_false_or_eq_true (decide (p2≤x2)) with hc2|hc2
   ·
    refine Gk hE hc2 rfl fun a hE=>Gk hE hc2 rfl fun a hE=>pk1 hE hc2 rfl rfl rfl rfl fun a hE=>?_
    have hE:=hE.eqv (v':=(.bool ((decide (p2≤x2))||(decide (x2<0))))) (by rw[hc2];rfl)
    exact aC ⟨hE.cut ⟨rfl,rfl,rfl,rfl,rfl,rfl,trivial⟩,hp⟩
   refine Gs hE hc2 rfl rfl fun a hE=>Gs hE hc2 rfl rfl fun a hE=>pk0 hE hc2 rfl rfl rfl rfl fun a hE=>?_
   have hE:=hE.eqv (v':=(.bool ((decide (p2≤x2))||(decide (x2<0))))) (by rw[hc2];rfl)
   exact aC ⟨hE.cut ⟨rfl,rfl,rfl,rfl,rfl,rfl,trivial⟩,hp⟩
  rintro a w ⟨hE,hp⟩
  refine aC ?_
  refine dK hE rfl (fun hc3=>?_) (fun hc3=>?_)
  ·replace hl1:=(it hc3).symm.trans hl1
   refine dR ?_
   refine⟨_,(oj hl1).symm,fun hbb=>?_⟩
   subst hbb
   exact⟨_,_,hE.cut ⟨rfl,rfl,trivial⟩,hp⟩
  replace hl1:=(ie hc3).symm.trans hl1
  refine bP (aG ?_)
  refine aB (S hE 2 rfl fun a hE=>?_)
  refine aC (aG ?_)
  refine aG (aB ?_)
  refine S hE 1 rfl fun a hE=>?_
  obtain⟨x3,ex3,hl1⟩:=bnd hl1
  refine V hE hp rfl (dD rfl hE rfl rfl (aZ ex3)) fun a hE=>S hE 1 rfl fun a hE=>aC (aG ?_)
  refine aB (S hE 4 rfl fun a hE=>?_)
  obtain⟨m1,hg1,hl1⟩:=bnd hl1
  refine lZ [_,_,_,_,_] (fun a w=>Env 48 [(33,(.bool m1)),(0,(.iface 63 (Pv bp0 0))),(1,(Iv p1)),(2,(Iv p2)),(7,(Iv aW)),(9,(Iv x2)),(10,(Iv x3))] a∧Hp Z ρ (Pt bp0 (.cells #[w2,w3] 68 (0,0))::aA 3 w2 bU::aA 4 w3 dJ::L) w) ?_ ?_
  ·rcases Bool.eq_false_or_eq_true (decide (x3<p2)) with hc4|hc4
   ·
    replace hg1:=(it hc4).symm.trans hg1
    refine Gs hE hc4 rfl rfl fun a hE=>Gs hE hc4 rfl rfl fun a hE=>Gs hE hc4 rfl rfl fun a hE=>?_
    obtain⟨x4,ex4,hg1⟩:=bnd hg1
    refine wL (wk1 hE rfl rfl rfl hc4) rfl rfl hE rfl rfl [(Iv x3),(Iv x2)] ⟨rfl,rfl,trivial⟩ (aD2 _ _ _) (tK bp0 (Que.mk bU dJ) w2 w3 x3 x2 (((hp.get 2 rfl).get 2 rfl).get 2 rfl) x4 ex4) Ret.ret ?_
    intro v a w hR hE
    obtain⟨rfl,hp⟩:=Ret.of hR
    have hp:=r3 hp
    refine pk1 hE hc4 rfl rfl rfl rfl fun a hE=>?_
    obtain rfl:=oj hg1
    exact aC ⟨hE.cut ⟨rfl,rfl,rfl,rfl,rfl,rfl,rfl,trivial⟩,hp⟩
   replace hg1:=(ie hc4).symm.trans hg1
   refine Gk hE hc4 rfl fun a hE=>Gk hE hc4 rfl fun a hE=>Gk hE hc4 rfl fun a hE=>Gk hE hc4 rfl fun a hE=>pk0 hE hc4 rfl rfl rfl rfl fun a hE=>?_
   obtain rfl:=oj hg1
   exact aC ⟨hE.cut ⟨rfl,rfl,rfl,rfl,rfl,rfl,rfl,trivial⟩,hp⟩
  rintro a w ⟨hE,hp⟩
  refine aC ?_
  obtain⟨j1,hj1,hl1⟩:=bnd hl1
  refine k_cut (fun a w=>Env 48 [(0,(.iface 63 (Pv bp0 0))),(1,(Iv p1)),(2,(Iv p2)),(7,(Iv aW)),(9,(Iv j1))] a∧Hp Z ρ (Pt bp0 (.cells #[w2,w3] 68 (0,0))::aA 3 w2 bU::aA 4 w3 dJ::L) w) ?_ ?_
  ·
   refine dK hE rfl (fun hc5=>?_) (fun hc5=>?_)
   ·replace hj1:=(it hc5).symm.trans hj1
    refine aB (S hE 2 rfl fun a hE=>?_)
    refine aC ?_
    obtain rfl:=oj hj1
    exact⟨hE.cut ⟨rfl,rfl,rfl,rfl,rfl,trivial⟩,hp⟩
   replace hj1:=(ie hc5).symm.trans hj1
   refine bP ?_
   obtain rfl:=oj hj1
   exact⟨hE.cut ⟨rfl,rfl,rfl,rfl,rfl,trivial⟩,hp⟩
  rintro a w ⟨hE,hp⟩
  refine aG (aG ?_)
  refine aB (S hE 3 rfl fun a hE=>?_)
  obtain⟨x5,ex5,hl1⟩:=bnd hl1
  refine wL (wk0 rfl) rfl rfl hE rfl rfl [(Iv j1),(Iv aW)] ⟨rfl,rfl,trivial⟩ (aD2 _ _ _) (tK bp0 (Que.mk bU dJ) w2 w3 j1 aW (((hp.get 2 rfl).get 2 rfl).get 2 rfl) x5 ex5) Ret.ret ?_
  intro v a w hR hE
  obtain⟨rfl,hp⟩:=Ret.of hR
  have hp:=r3 hp
  refine S hE 1 rfl fun a hE=>aC ?_
  refine dK hE rfl (fun hc6=>?_) (fun hc6=>?_)
  ·replace hl1:=(it hc6).symm.trans hl1
   refine dR ?_
   refine⟨_,(oj hl1).symm,fun hbb=>?_⟩
   subst hbb
   exact⟨_,_,hE.cut ⟨rfl,rfl,trivial⟩,hp⟩
  replace hl1:=(ie hc6).symm.trans hl1
  refine bP (aG ?_)
  refine aB (S hE 3 rfl fun a hE=>?_)
  obtain⟨x6,ex6,hl1⟩:=bnd hl1
  refine wL (wk0 rfl) rfl rfl hE rfl rfl [(Iv aW),(Iv j1)] ⟨rfl,rfl,trivial⟩ (aD3 _ _ _) (tN bp0 (Que.mk bU dJ) w2 w3 aW j1 (((hp.get 2 rfl).get 2 rfl).get 2 rfl) x6 ex6) Ret.ret ?_
  intro v a w hR hE
  obtain⟨rQ,rP,rfl,hp⟩:=Ret.of hR
  have hp:=r3 hp
  refine aC (aB ?_)
  refine S hE 2 rfl fun a hE=>aC ?_
  exact⟨_,(oj hl1).symm,_,_,hE.cut ⟨rfl,rfl,rfl,rfl,trivial⟩,hp⟩
 rintro a w ⟨w2,w3,hE,hp⟩
 refine aG (aB ?_)
 refine S hE 4 rfl fun a hE=>aC ?_
 have hE:=hE.cut (E':=[(6,(.bool (decide (p1<b1.1))))]) ⟨rfl,trivial⟩
 refine dE ?_
 obtain rfl:=oj hm
 exact iH hE rfl rfl ⟨_,rfl,_,_,rfl,hp⟩
theorem c_heap_Push {Z:World} {ρ:PH} {L:List bZ} {w:World} (bp0:Nat) (p0:Que) (eY:Value) (dY:Value) (p1:Int) (hp:Hp Z ρ (Pt bp0 (.cells #[eY,dY] 68 (0,0))::aA 3 eY p0.list::aA 4 dY p0.isin::L) w) (r:Que) (hm:uT p0 p1=some r):
  Calls Try.prog 48 #[(.iface 63 (Pv bp0 0)),(.iface 3 (Iv p1))] w (Ret fun v w'=>∃(jR:Value) (jQ:Value),v= .tuple #[]∧Hp Z ρ (Pt bp0 (.cells #[jR,jQ] 68 (0,0))::aA 3 jR r.list::aA 4 jQ r.isin::L) w'):=by
 refine enter (N:=12) Try.func48 rfl rfl [(0,(.iface 63 (Pv bp0 0))),(1,(.iface 3 (Iv p1)))] rfl (bM ⟨rfl,rfl,trivial⟩) fun a hE=>?_
 unfold uT at hm
 refine aG (aB ?_)
 refine S hE 2 rfl fun a hE=>?_
 obtain⟨x1,ex1,hm⟩:=bnd hm
 refine wL (wk0 rfl) rfl rfl hE rfl rfl [(.iface 3 (Iv p1))] ⟨rfl,trivial⟩ (inv63_Push _ _) (aB8 bp0 p0 eY dY p1 (((hp.get 2 rfl).get 2 rfl).get 2 rfl) x1 ex1) Ret.ret ?_
 intro v a w hR hE
 obtain⟨rQ,rP,rfl,hp⟩:=Ret.of hR
 have hp:=r3 hp
 refine aC (aB ?_)
 refine S hE 2 rfl fun a hE=>?_
 obtain⟨x2,ex2,hm⟩:=bnd hm
 refine wL (wk0 rfl) rfl rfl hE rfl rfl [] trivial (inv63_Len _) (uO bp0 x1 rQ rP (((hp.get 2 rfl).get 2 rfl).get 2 rfl) x2 ex2) Ret.ret ?_
 intro v a w hR hE
 obtain⟨rfl,hp⟩:=Ret.of hR
 have hp:=r3 hp
 obtain⟨x3,ex3,hm⟩:=bnd hm
 refine V hE hp rfl (rX rfl hE rfl rfl (aZ ex3)) fun a hE=>?_
 obtain⟨x4,ex4,hm⟩:=bnd hm
 refine Cl hE rfl rfl ent63 (c_heap_up bp0 x1 rQ rP x3 (((hp.get 2 rfl).get 2 rfl).get 2 rfl) x4 ex4) ⟨rfl,rfl,trivial⟩ fun v a w hR hE=>?_
 obtain⟨vz2_list,vz2_isin,rfl,hp⟩:=hR
 have hp:=r3 hp
 refine aC ?_
 obtain rfl:=oj hm
 exact wZ hE rfl ⟨_,rfl,_,_,rfl,hp⟩
theorem c_heap_Pop {Z:World} {ρ:PH} {L:List bZ} {w:World} (bp0:Nat) (p0:Que) (eY:Value) (dY:Value) (hp:Hp Z ρ (Pt bp0 (.cells #[eY,dY] 68 (0,0))::aA 3 eY p0.list::aA 4 dY p0.isin::L) w) (r:(Int×Que)) (hm:yQ p0=some r):
  Calls Try.prog 67 #[(.iface 63 (Pv bp0 0))] w (Ret fun v w'=>∃(jR:Value) (jQ:Value),v=(.iface 3 (Iv r.1))∧Hp Z ρ (Pt bp0 (.cells #[jR,jQ] 68 (0,0))::aA 3 jR r.2.list::aA 4 jQ r.2.isin::L) w'):=by
 refine enter (N:=15) Try.func67 rfl rfl [(0,(.iface 63 (Pv bp0 0)))] rfl (bM ⟨rfl,trivial⟩) fun a hE=>?_
 unfold yQ at hm
 refine aG (aB ?_)
 refine S hE 1 rfl fun a hE=>aC (aG ?_)
 refine aB (S hE 1 rfl fun a hE=>?_)
 obtain⟨x1,ex1,hm⟩:=bnd hm
 refine wL (wk0 rfl) rfl rfl hE rfl rfl [] trivial (inv63_Len _) (uO bp0 p0 eY dY (((hp.get 2 rfl).get 2 rfl).get 2 rfl) x1 ex1) Ret.ret ?_
 intro v a w hR hE
 obtain⟨rfl,hp⟩:=Ret.of hR
 have hp:=r3 hp
 obtain⟨x2,ex2,hm⟩:=bnd hm
 refine V hE hp rfl (rX rfl hE rfl rfl (aZ ex2)) fun a hE=>S hE 1 rfl fun a hE=>aC (aG ?_)
 refine aB (S hE 2 rfl fun a hE=>?_)
 obtain⟨x3,ex3,hm⟩:=bnd hm
 refine wL (wk0 rfl) rfl rfl hE rfl rfl [(Iv 0),(Iv x2)] ⟨rfl,rfl,trivial⟩ (aD3 _ _ _) (tN bp0 p0 eY dY 0 x2 (((hp.get 2 rfl).get 2 rfl).get 2 rfl) x3 ex3) Ret.ret ?_
 intro v a w hR hE
 obtain⟨rQ,rP,rfl,hp⟩:=Ret.of hR
 have hp:=r3 hp
 refine aC (aG ?_)
 refine aB (S hE 2 rfl fun a hE=>?_)
 obtain⟨x4,ex4,hm⟩:=bnd hm
 refine Cl hE rfl rfl ent74 (c_heap_down bp0 x3 rQ rP 0 x2 (((hp.get 2 rfl).get 2 rfl).get 2 rfl) x4 ex4) ⟨rfl,rfl,rfl,trivial⟩ fun v a w hR hE=>?_
 obtain⟨vz2_list,vz2_isin,rfl,hp⟩:=hR
 have hp:=r3 hp
 refine aC (aG ?_)
 refine aB (S hE 1 rfl fun a hE=>?_)
 obtain⟨x5,ex5,hm⟩:=bnd hm
 refine wL (wk0 rfl) rfl rfl hE rfl rfl [] trivial (inv63_Pop _) (aC8 bp0 x4.2 vz2_list vz2_isin (((hp.get 2 rfl).get 2 rfl).get 2 rfl) x5 ex5) Ret.ret ?_
 intro v a w hR hE
 obtain⟨vz3_list,vz3_isin,rfl,hp⟩:=Ret.of hR
 have hp:=r3 hp
 refine S hE 1 rfl fun a hE=>aC (dE ?_)
 obtain rfl:=oj hm
 exact iH hE rfl rfl ⟨_,rfl,_,_,rfl,hp⟩
end Go.Proofs.Ytpkhmndpeipfmaa
