/- The code goes as its model: (*assessor/solver.queue).Len, (*assessor/solver.queue).Less, (*assessor/solver.queue).Swap, (*assessor/solver.queue).Push, (*assesso -/
import Derived.Test.YtpkhmndpeipfmaaKAsT
import Derived.Test.YtpkhmndpeipfmaaKAs5
import Derived.Test.YtpkhmndpeipfmaaKAs6
set_option linter.unusedVariables false
set_option linter.unusedSimpArgs false
namespace Go.Proofs.Ytpkhmndpeipfmaa
open Go.RowKit
set_option maxRecDepth 100000 in
set_option maxHeartbeats 4000000 in
theorem sV {Z:World} {ρ:PH} {L:List bV} {w:World} (bp0:Nat) (p0:Que) (eP:Value) (dU:Value) (hp:Hp Z ρ (Pt bp0 (.cells #[eP,dU] 68 (0,0))::aA 3 eP p0.list::aA 4 dU p0.isin::L) w) (r:Int) (hm:jH p0=some r):
  Calls Try.prog 66 #[(.pointer (some ⟨bp0,0,none⟩))] w (Ret fun v w'=>v=(.int .i64 r)∧Hp Z ρ (Pt bp0 (.cells #[eP,dU] 68 (0,0))::aA 3 eP p0.list::aA 4 dU p0.isin::L) w'):=by
 refine enter (N:=8) Try.func66 rfl rfl [(0,(.pointer (some ⟨bp0,0,none⟩)))] rfl (bP ⟨rfl,trivial⟩) fun a hE=>?_
 unfold jH at hm
 refine aH (aB ?_)
 refine S hE 1 rfl fun a hE=>aC (aH ?_)
 refine aB (S hE 2 rfl fun a hE=>?_)
 refine V hE hp rfl (xf hE nM rfl rfl) fun a hE=>V hE hp rfl (xl hE bK 0 rfl rfl rfl rfl) fun a hE=>V hE hp rfl (dJ rfl hE rfl (aA.len hp 1 rfl aY)) fun a hE=>S hE 1 rfl fun a hE=>aC (dE ?_)
 obtain rfl:=Option.some.inj hm
 exact iV hE rfl rfl ⟨_,rfl,rfl,hp⟩
set_option maxRecDepth 100000 in
set_option maxHeartbeats 4000000 in
theorem rU {Z:World} {ρ:PH} {L:List bV} {w:World} (bp0:Nat) (p0:Que) (eP:Value) (dU:Value) (p1:Int) (p2:Int) (hp:Hp Z ρ (Pt bp0 (.cells #[eP,dU] 68 (0,0))::aA 3 eP p0.list::aA 4 dU p0.isin::L) w) (r:Bool) (hm:iW p0 p1 p2=some r):
  Calls Try.prog 119 #[(.pointer (some ⟨bp0,0,none⟩)),(.int .i64 p1),(.int .i64 p2)] w (Ret fun v w'=>v=(.bool r)∧Hp Z ρ (Pt bp0 (.cells #[eP,dU] 68 (0,0))::aA 3 eP p0.list::aA 4 dU p0.isin::L) w'):=by
 refine enter (N:=22) Try.func119 rfl rfl [(0,(.pointer (some ⟨bp0,0,none⟩))),(1,(.int .i64 p1)),(2,(.int .i64 p2))] rfl (bP ⟨rfl,rfl,rfl,trivial⟩) fun a hE=>?_
 unfold iW at hm
 refine aH (aB ?_)
 refine S hE 1 rfl fun a hE=>aC (aH ?_)
 refine mY (by kernel_rfl) (by kernel_rfl) hp ?_
 refine Sq hE 2 rfl fun a hE=>Vq hE rfl (xf hE nM rfl rfl) fun a hE=>Vq hE rfl (xl hE bK 0 rfl rfl rfl rfl) fun a hE=>Sq hE 1 rfl fun a hE=>?_
 obtain⟨x1,ex1,hm⟩:=bnd hm
 obtain⟨b1,b1o,b1r,b1v,b1f⟩:=aA.at hp 1 rfl aY ex1
 refine Vq hE rfl (aV rfl hE rfl rfl b1r) fun a hE=>Vq hE rfl (aZ rfl hE rfl (fun w hw=>bH bG (b1f 0 _ rfl _ _ w (hw.get 1 rfl)))) fun a hE=>Sq hE 2 rfl fun a hE=>Vq hE rfl (xf hE nM rfl rfl) fun a hE=>Vq hE rfl (xl hE bK 0 rfl rfl rfl rfl) fun a hE=>Sq hE 1 rfl fun a hE=>?_
 obtain⟨x2,ex2,hm⟩:=bnd hm
 obtain⟨b2,b2o,b2r,b2v,b2f⟩:=aA.at hp 1 rfl aY ex2
 refine Vq hE rfl (aV rfl hE rfl rfl b2r) fun a hE=>Vq hE rfl (aZ rfl hE rfl (fun w hw=>bH bG (b2f 0 _ rfl _ _ w (hw.get 1 rfl)))) fun a hE=>Sq hE 2 rfl fun a hE=>?_
 refine oW fun w hp=>?_
 have hp:=r3 hp
 refine dE ?_
 obtain rfl:=Option.some.inj hm
 exact iV hE rfl rfl ⟨_,rfl,rfl,hp⟩
set_option maxRecDepth 100000 in
set_option maxHeartbeats 4000000 in
theorem rV {Z:World} {ρ:PH} {L:List bV} {w:World} (bp0:Nat) (p0:Que) (eP:Value) (dU:Value) (p1:Int) (p2:Int) (hp:Hp Z ρ (Pt bp0 (.cells #[eP,dU] 68 (0,0))::aA 3 eP p0.list::aA 4 dU p0.isin::L) w) (r:Que) (hm:gY p0 p1 p2=some r):
  Calls Try.prog 122 #[(.pointer (some ⟨bp0,0,none⟩)),(.int .i64 p1),(.int .i64 p2)] w (Ret fun v w'=>∃(jE:Value) (jD:Value),v= .tuple #[]∧Hp Z ρ (Pt bp0 (.cells #[jE,jD] 68 (0,0))::aA 3 jE r.list::aA 4 jD r.isin::L) w'):=by
 refine enter (N:=32) Try.func122 rfl rfl [(0,(.pointer (some ⟨bp0,0,none⟩))),(1,(.int .i64 p1)),(2,(.int .i64 p2))] rfl (bP ⟨rfl,rfl,rfl,trivial⟩) fun a hE=>?_
 unfold gY at hm
 obtain⟨x1,ex1,hm⟩:=bnd hm
 obtain⟨x2,ex2,hm⟩:=bnd hm
 obtain⟨x3,ex3,hm⟩:=bnd hm
 obtain⟨x4,ex4,hm⟩:=bnd hm
 have hp:=hp.drew
 refine kC ([([],At0 Z ρ),([],At1 Z ρ (Pt bp0 (.cells #[eP,dU] 68 (0,0)))),([25,27],At1 Z ρ (aA 3 eP p0.list))]:Facts) (fun a w=>Env 32 [] a∧Hp Z ρ (Pt bp0 (.cells #[eP,dU] 68 (0,0))::aA 3 eP ((p0.list.set p1.toNat x1).set p2.toNat x2)::aA 4 dU p0.isin::L) w) (by kernel_rfl) ⟨fun _=>⟨_,hp⟩,fun _=>⟨_,(hp.get 0 rfl)⟩,fun _=>⟨_,(hp.get 1 rfl)⟩,trivial⟩ (fun hS=>?_) ?_
 ·
  generalize w.drew=w at hS hp⊢
  refine Ts [0,1] hE hS rfl rfl (by kernel_rfl) fun a hE hS=>T0 2 hE hS rfl rfl rfl (by kernel_rfl) (fun _=>xf hE nM rfl rfl) fun a hE hS=>T 3 1 hE hS rfl rfl rfl (by kernel_rfl) (fun _=>xl hE bK 0 rfl rfl rfl rfl) fun a hE hS=>Ts [4,5,6] hE hS rfl rfl (by kernel_rfl) fun a hE hS=>T0 7 hE hS rfl rfl rfl (by kernel_rfl) (fun _=>xf hE nM rfl rfl) fun a hE hS=>T 8 1 hE hS rfl rfl rfl (by kernel_rfl) (fun _=>xl hE bK 0 rfl rfl rfl rfl) fun a hE hS=>Ts [9,10,11] hE hS rfl rfl (by kernel_rfl) fun a hE hS=>T0 12 hE hS rfl rfl rfl (by kernel_rfl) (fun _=>xf hE nM rfl rfl) fun a hE hS=>T 13 1 hE hS rfl rfl rfl (by kernel_rfl) (fun _=>xl hE bK 0 rfl rfl rfl rfl) fun a hE hS=>Ts [14] hE hS rfl rfl (by kernel_rfl) fun a hE hS=>?_
  obtain⟨b5,b5o,b5r,b5v,b5f⟩:=aA.at hp 1 rfl aY ex1
  refine T0 15 hE hS rfl rfl rfl (by kernel_rfl) (fun _=>aV rfl hE rfl rfl b5r) fun a hE hS=>T 16 2 hE hS rfl rfl rfl (by kernel_rfl) (fun _=>aZ rfl hE rfl (fun w hw=>bH bG (b5f 0 _ rfl _ _ w (hw.get 0 rfl)))) fun a hE hS=>Ts [17,18] hE hS rfl rfl (by kernel_rfl) fun a hE hS=>T0 19 hE hS rfl rfl rfl (by kernel_rfl) (fun _=>xf hE nM rfl rfl) fun a hE hS=>T 20 1 hE hS rfl rfl rfl (by kernel_rfl) (fun _=>xl hE bK 0 rfl rfl rfl rfl) fun a hE hS=>Ts [21] hE hS rfl rfl (by kernel_rfl) fun a hE hS=>?_
  obtain⟨b6,b6o,b6r,b6v,b6f⟩:=aA.at hp 1 rfl aY ex2
  refine T0 22 hE hS rfl rfl rfl (by kernel_rfl) (fun _=>aV rfl hE rfl rfl b6r) fun a hE hS=>T 23 2 hE hS rfl rfl rfl (by kernel_rfl) (fun _=>aZ rfl hE rfl (fun w hw=>bH bG (b6f 0 _ rfl _ _ w (hw.get 0 rfl)))) fun a hE hS=>?_
  obtain⟨b7,b7o,b7r,b7v,b7f⟩:=aA.at hp 1 rfl aY ex3
  refine T0 24 hE hS rfl rfl rfl (by kernel_rfl) (fun _=>aV rfl hE rfl rfl b7r) fun a hE hS=>?_
  refine W1 25 (by kernel_rfl) rfl ?_
  refine lY (wk0 rfl) rfl hE hp rfl rfl rfl 1 rfl ex3 b7v 0 (e':=x1) bG.size_ rfl rfl rfl ⟨rfl,rfl⟩ ?_
  intro w hp
  have hp:=r3 hp
  refine aC (aI ⟨gp0 hp,gp 0 hp rfl,dead (by kernel_rfl),trivial⟩ fun hS=>?_)
  obtain⟨b8,b8o,b8r,b8v,b8f⟩:=aA.at hp 1 rfl aY ex4
  refine T0 26 hE hS rfl rfl rfl (by kernel_rfl) (fun _=>aV rfl hE rfl rfl b8r) fun a hE hS=>?_
  refine W1 27 (by kernel_rfl) rfl ?_
  refine lY (wk0 rfl) rfl hE hp rfl rfl rfl 1 rfl ex4 b8v 0 (e':=x2) bG.size_ rfl rfl rfl ⟨rfl,rfl⟩ ?_
  intro w hp
  have hp:=r3 hp
  refine aC (aI ⟨gp0 hp,gp 0 hp rfl,dead (by kernel_rfl),trivial⟩ fun hS=>?_)
  exact dZ (by kernel_rfl) ⟨hE.cut trivial,hp⟩
 rintro a w ⟨hE,hp⟩
 obtain rfl:=Option.some.inj hm
 exact vX hE rfl ⟨_,rfl,_,_,rfl,hp⟩
set_option maxRecDepth 100000 in
set_option maxHeartbeats 4000000 in
theorem Y5 {Z:World} {ρ:PH} {L:List bV} {w:World} (bp0:Nat) (p0:Que) (eP:Value) (dU:Value) (p1:Int) (hp:Hp Z ρ (Pt bp0 (.cells #[eP,dU] 68 (0,0))::aA 3 eP p0.list::aA 4 dU p0.isin::L) w) (r:Que) (hm:pF p0 p1=some r):
  Calls Try.prog 121 #[(.pointer (some ⟨bp0,0,none⟩)),(.iface 3 (.int .i64 p1))] w (Ret fun v w'=>∃(jE:Value) (jD:Value),v= .tuple #[]∧Hp Z ρ (Pt bp0 (.cells #[jE,jD] 68 (0,0))::aA 3 jE r.list::aA 4 jD r.isin::L) w'):=by
 refine enter (N:=23) Try.func121 rfl rfl [(0,(.pointer (some ⟨bp0,0,none⟩))),(1,(.iface 3 (.int .i64 p1)))] rfl (bP ⟨rfl,rfl,trivial⟩) fun a hE=>?_
 unfold pF at hm
 refine aH (aB ?_)
 refine S hE 1 rfl fun a hE=>V hE hp rfl (v:=(.int .i64 p1)) (ex_tas rfl hE rfl (tas20_3 _)) fun a hE=>S hE 1 rfl fun a hE=>aC (aH ?_)
 refine aB (S hE 2 rfl fun a hE=>?_)
 refine V hE hp rfl (xf hE fldty68_1 rfl rfl) fun a hE=>V hE hp rfl (xl hE varty66 0 rfl rfl rfl rfl) fun a hE=>S hE 1 rfl fun a hE=>?_
 obtain⟨x1,ex1,hm⟩:=bnd hm
 obtain⟨b1,b1o,b1r,b1v,b1f⟩:=aA.at hp 2 rfl slty66 ex1
 refine V hE hp rfl (aV rfl hE rfl rfl b1r) fun a hE=>?_
 refine lY (wk0 rfl) rfl hE hp rfl rfl rfl 2 rfl ex1 b1v 0 (e':=true) rC.size_ rfl rfl rfl ⟨rfl,rfl⟩ ?_
 intro w hp
 have hp:=r3 hp
 refine aC (aB ?_)
 refine S hE 3 rfl fun a hE=>V hE hp rfl (xf hE nM rfl rfl) fun a hE=>V hE hp rfl (xl hE bK 0 rfl rfl rfl rfl) fun a hE=>S hE 1 rfl fun a hE=>?_
 refine jM (wk0 rfl) rfl rfl hE hp rfl [(0,(.int .i64 p1))] ⟨⟨rfl,rfl⟩,trivial⟩ [(.int .i64 p1)] 3 (fun w=>by simp[Instr.buildSlice,Instr.fill,Value.cells,go_sem]) ?_
 intro a w b2 hE hp
 have hp:=r4 hp
 obtain⟨x2,ex2,hm⟩:=bnd hm
 refine lZ (wk0 rfl) rfl rfl hE hp rfl aY rfl rfl 2 rfl rfl (l2:=[p1]) rfl (fun j u hj=>by have:=Hp.cN 0 rfl 0 _ (bY rfl) w hp j u hj;simpa using this) ex2 ?_
 intro v1 a w hE hp
 have hp:=r4 hp
 refine S hE 1 rfl fun a hE=>V hE hp rfl (xf hE nM rfl rfl) fun a hE=>?_
 refine oO (wk0 rfl) rfl hE hp rfl rfl rfl 1 rfl bK.size_ (aA.cells hp 2 rfl) (aA.one hp 2 rfl) rfl [v1,dU] rfl ?_
 intro w hp
 have hp:=r4 hp
 refine aC ?_
 obtain rfl:=Option.some.inj hm
 exact vX hE rfl ⟨_,rfl,_,_,rfl,(hp.drop)⟩
set_option maxRecDepth 100000 in
set_option maxHeartbeats 4000000 in
theorem aA3 {Z:World} {ρ:PH} {L:List bV} {w:World} (bp0:Nat) (p0:Que) (eP:Value) (dU:Value) (hp:Hp Z ρ (Pt bp0 (.cells #[eP,dU] 68 (0,0))::aA 3 eP p0.list::aA 4 dU p0.isin::L) w) (r:(Int×Que)) (hm:qG p0=some r):
  Calls Try.prog 120 #[(.pointer (some ⟨bp0,0,none⟩))] w (Ret fun v w'=>∃(jE:Value) (jD:Value),v=(.iface 3 (.int .i64 r.1))∧Hp Z ρ (Pt bp0 (.cells #[jE,jD] 68 (0,0))::aA 3 jE r.2.list::aA 4 jD r.2.isin::L) w'):=by
 refine enter (N:=35) Try.func120 rfl rfl [(0,(.pointer (some ⟨bp0,0,none⟩)))] rfl (bP ⟨rfl,trivial⟩) fun a hE=>?_
 unfold qG at hm
 refine aH (aB ?_)
 refine S hE 1 rfl fun a hE=>aC (aH ?_)
 refine aB (S hE 2 rfl fun a hE=>?_)
 refine V hE hp rfl (xf hE nM rfl rfl) fun a hE=>V hE hp rfl (xl hE bK 0 rfl rfl rfl rfl) fun a hE=>V hE hp rfl (dJ rfl hE rfl (aA.len hp 1 rfl aY)) fun a hE=>?_
 obtain⟨x1,ex1,hm⟩:=bnd hm
 refine V hE hp rfl (sW rfl hE rfl rfl (bF ex1)) fun a hE=>S hE 1 rfl fun a hE=>aC (aH ?_)
 refine aB (S hE 2 rfl fun a hE=>?_)
 refine V hE hp rfl (xf hE nM rfl rfl) fun a hE=>V hE hp rfl (xl hE bK 0 rfl rfl rfl rfl) fun a hE=>S hE 1 rfl fun a hE=>?_
 obtain⟨x2,ex2,hm⟩:=bnd hm
 obtain⟨b1,b1o,b1r,b1v,b1f⟩:=aA.at hp 1 rfl aY ex2
 refine V hE hp rfl (aV rfl hE rfl rfl b1r) fun a hE=>V hE hp rfl (aZ rfl hE rfl (fun w hw=>bH bG (b1f 0 _ rfl _ _ w (hw.get 1 rfl)))) fun a hE=>S hE 1 rfl fun a hE=>aC (aH ?_)
 obtain⟨x3,ex3,hm⟩:=bnd hm
 obtain⟨x4,ex4,hm⟩:=bnd hm
 have hp:=hp.drew
 refine kC ([([],At0 Z ρ),([14],At1 Z ρ (Pt bp0 (.cells #[eP,dU] 68 (0,0))))]:Facts) (fun a w=>∃y2:Value,Env 35 [(4,(.int .i64 x2))] a∧Hp Z ρ (aA 3 y2 x3::Pt bp0 (.cells #[y2,dU] 68 (0,0))::aA 4 dU (p0.isin.set x2.toNat false)::L) w) (by kernel_rfl) ⟨fun _=>⟨_,hp⟩,fun _=>⟨_,(hp.get 0 rfl)⟩,trivial⟩ (fun hS=>?_) ?_
 ·
  generalize w.drew=w at hS hp⊢
  refine Ts [0,1,2] hE hS rfl rfl (by kernel_rfl) fun a hE hS=>T0 3 hE hS rfl rfl rfl (by kernel_rfl) (fun _=>xf hE fldty68_1 rfl rfl) fun a hE hS=>T 4 1 hE hS rfl rfl rfl (by kernel_rfl) (fun _=>xl hE varty66 0 rfl rfl rfl rfl) fun a hE hS=>Ts [5,6,7] hE hS rfl rfl (by kernel_rfl) fun a hE hS=>T0 8 hE hS rfl rfl rfl (by kernel_rfl) (fun _=>xf hE nM rfl rfl) fun a hE hS=>T 9 1 hE hS rfl rfl rfl (by kernel_rfl) (fun _=>xl hE bK 0 rfl rfl rfl rfl) fun a hE hS=>Ts [10] hE hS rfl rfl (by kernel_rfl) fun a hE hS=>?_
  refine W1 11 (by kernel_rfl) rfl ?_
  obtain⟨v2,v2r,hp⟩:=aA.head (hp.get 1 rfl) aY (some (.i64,x1)) rfl ex3
  have hp:=r3 hp
  refine V hE hp rfl (uP rfl hE rfl none (some (.i64,x1)) (by exact trivial) (by exact rfl) v2r) fun a hE=>?_
  refine aC (aI ⟨gp0 hp,gp 1 hp rfl,trivial⟩ fun hS=>?_)
  refine Ts [12] hE hS rfl rfl (by kernel_rfl) fun a hE hS=>T0 13 hE hS rfl rfl rfl (by kernel_rfl) (fun _=>xf hE nM rfl rfl) fun a hE hS=>?_
  refine W1 14 (by kernel_rfl) rfl ?_
  refine oO (wk0 rfl) rfl hE hp rfl rfl rfl 1 rfl bK.size_ (aA.cells hp 0 rfl) (aA.one hp 0 rfl) rfl [v2,dU] rfl ?_
  intro w hp
  have hp:=r3 hp
  refine aC (aI ⟨gp0 hp,dead (by kernel_rfl),trivial⟩ fun hS=>?_)
  obtain⟨b3,b3o,b3r,b3v,b3f⟩:=aA.at hp 2 rfl slty66 ex4
  refine T0 15 hE hS rfl rfl rfl (by kernel_rfl) (fun _=>aV rfl hE rfl rfl b3r) fun a hE hS=>?_
  refine W1 16 (by kernel_rfl) rfl ?_
  refine lY (wk0 rfl) rfl hE hp rfl rfl rfl 2 rfl ex4 b3v 0 (e':=false) rC.size_ rfl rfl rfl ⟨rfl,rfl⟩ ?_
  intro w hp
  have hp:=r3 hp
  refine aC (aI ⟨gp0 hp,dead (by kernel_rfl),trivial⟩ fun hS=>?_)
  exact dZ (by kernel_rfl) ⟨_,hE.cut ⟨rfl,trivial⟩,hp⟩
 rintro a w ⟨y2,hE,hp⟩
 refine aH (aB ?_)
 refine S hE 1 rfl fun a hE=>V hE hp rfl (v:=(.iface 3 (.int .i64 x2))) (ex_mki rfl hE rfl (mki3 _)) fun a hE=>S hE 1 rfl fun a hE=>aC (dE ?_)
 obtain rfl:=Option.some.inj hm
 exact iV hE rfl rfl ⟨_,rfl,_,_,rfl,(((hp.get 2 rfl).get 1 rfl).get 2 rfl)⟩
set_option maxRecDepth 100000 in
set_option maxHeartbeats 4000000 in
theorem c_heap_up {Z:World} {ρ:PH} {L:List bV} {w:World} (bp0:Nat) (p0:Que) (eP:Value) (dU:Value) (p1:Int) (hp:Hp Z ρ (Pt bp0 (.cells #[eP,dU] 68 (0,0))::aA 3 eP p0.list::aA 4 dU p0.isin::L) w) (r:Que) (hm:zL p0 p1=some r):
  Calls Try.prog 63 #[(.iface 63 (.pointer (some ⟨bp0,0,none⟩))),(.int .i64 p1)] w (Ret fun v w'=>∃(jE:Value) (jD:Value),v= .tuple #[]∧Hp Z ρ (Pt bp0 (.cells #[jE,jD] 68 (0,0))::aA 3 jE r.list::aA 4 jD r.isin::L) w'):=by
 refine enter (N:=23) Try.func63 rfl rfl [(0,(.iface 63 (.pointer (some ⟨bp0,0,none⟩)))),(1,(.int .i64 p1))] rfl (bP ⟨rfl,rfl,trivial⟩) fun a hE=>?_
 unfold zL at hm
 obtain⟨b1,hc1,hm⟩:=bnd hm
 refine dN (fun a w=>∃(w2:Value) (w3:Value),Env 23 [] a∧Hp Z ρ (Pt bp0 (.cells #[w2,w3] 68 (0,0))::aA 3 w2 b1.1::aA 4 w3 b1.2::L) w) ?_ ?_
 ·refine fV hc1 (fun s a w=>∃(w2:Value) (w3:Value),Env 23 [(0,(.iface 63 (.pointer (some ⟨bp0,0,none⟩)))),(1,(.int .i64 s.1))] a∧Hp Z ρ (Pt bp0 (.cells #[w2,w3] 68 (0,0))::aA 3 w2 s.2.1::aA 4 w3 s.2.2::L) w) ?_ ?_
  ·exact⟨_,_,hE.cut ⟨rfl,rfl,trivial⟩,hp⟩
  rintro⟨bC,cZ,dG⟩ st a w ⟨w2,w3,hE,hp⟩ hl1
  dsimp only at hE hp hl1
  unfold vF at hl1
  refine dL (aH ?_)
  refine aB (S hE 1 rfl fun a hE=>?_)
  obtain⟨x1,ex1,hl1⟩:=bnd hl1
  refine V hE hp rfl (sW rfl hE rfl rfl (bF ex1)) fun a hE=>?_
  obtain⟨x2,ex2,hl1⟩:=bnd hl1
  refine V hE hp rfl (ex_quo rfl hE rfl rfl (quoK_some ex2).1 (quoK_some ex2).2) fun a hE=>S hE 1 rfl fun a hE=>aC (aH ?_)
  refine aH (aB ?_)
  refine S hE 4 rfl fun a hE=>?_
  obtain⟨m1,hg1,hl1⟩:=bnd hl1
  refine kV [_,_,_,_,_,_] (fun a w=>Env 23 [(17,(.bool m1)),(0,(.iface 63 (.pointer (some ⟨bp0,0,none⟩)))),(1,(.int .i64 bC)),(4,(.int .i64 x2))] a∧Hp Z ρ (Pt bp0 (.cells #[w2,w3] 68 (0,0))::aA 3 w2 cZ::aA 4 w3 dG::L) w) ?_ ?_
  ·rcases Bool.eq_false_or_eq_true (decide (x2=bC)) with hc2|hc2
   ·
    replace hg1:=(it hc2).symm.trans hg1
    refine Gk hE hc2 rfl fun a hE=>Gk hE hc2 rfl fun a hE=>Gk hE hc2 rfl fun a hE=>Gk hE hc2 rfl fun a hE=>Gk hE hc2 rfl fun a hE=>pk1 hE hc2 rfl rfl rfl rfl fun a hE=>?_
    obtain rfl:=Option.some.inj hg1
    exact aC ⟨hE.cut ⟨rfl,rfl,rfl,rfl,trivial⟩,hp⟩
   replace hg1:=(ie hc2).symm.trans hg1
   refine Gs hE hc2 rfl rfl fun a hE=>Gs hE hc2 rfl rfl fun a hE=>Gs hE hc2 rfl rfl fun a hE=>?_
   obtain⟨x3,ex3,hg1⟩:=bnd hg1
   refine vH (wk1 hE rfl rfl rfl hc2) rfl rfl hE rfl rfl [(.int .i64 bC),(.int .i64 x2)] ⟨rfl,rfl,trivial⟩ (aA7 _ _ _) (rU bp0 (Que.mk cZ dG) w2 w3 bC x2 (((hp.get 2 rfl).get 2 rfl).get 2 rfl) x3 ex3) Ret.ret ?_
   intro v a w hR hE
   obtain⟨rfl,hp⟩:=Ret.of hR
   have hp:=r3 hp
   refine Gs hE hc2 rfl rfl fun a hE=>pk0 hE hc2 rfl rfl rfl rfl fun a hE=>?_
   obtain rfl:=Option.some.inj hg1
   exact aC ⟨hE.cut ⟨rfl,rfl,rfl,rfl,trivial⟩,hp⟩
  rintro a w ⟨hE,hp⟩
  refine aC ?_
  refine dQ hE rfl (fun hc3=>?_) (fun hc3=>?_)
  ·replace hl1:=(it hc3).symm.trans hl1
   refine eU ?_
   refine⟨_,(Option.some.inj hl1).symm,fun hbb=>?_⟩
   subst hbb
   exact⟨_,_,hE.cut trivial,hp⟩
  replace hl1:=(ie hc3).symm.trans hl1
  refine bT (aH ?_)
  refine aB (S hE 3 rfl fun a hE=>?_)
  obtain⟨x4,ex4,hl1⟩:=bnd hl1
  refine vH (wk0 rfl) rfl rfl hE rfl rfl [(.int .i64 x2),(.int .i64 bC)] ⟨rfl,rfl,trivial⟩ (aA8 _ _ _) (rV bp0 (Que.mk cZ dG) w2 w3 x2 bC (((hp.get 2 rfl).get 2 rfl).get 2 rfl) x4 ex4) Ret.ret ?_
  intro v a w hR hE
  obtain⟨qM,qL,rfl,hp⟩:=Ret.of hR
  have hp:=r3 hp
  refine aC (aB ?_)
  refine S hE 2 rfl fun a hE=>aC ?_
  exact⟨_,(Option.some.inj hl1).symm,_,_,hE.cut ⟨rfl,rfl,trivial⟩,hp⟩
 rintro a w ⟨w2,w3,hE,hp⟩
 obtain rfl:=Option.some.inj hm
 exact vX hE rfl ⟨_,rfl,_,_,rfl,hp⟩
set_option maxRecDepth 100000 in
set_option maxHeartbeats 4000000 in
theorem c_heap_down {Z:World} {ρ:PH} {L:List bV} {w:World} (bp0:Nat) (p0:Que) (eP:Value) (dU:Value) (p1:Int) (p2:Int) (hp:Hp Z ρ (Pt bp0 (.cells #[eP,dU] 68 (0,0))::aA 3 eP p0.list::aA 4 dU p0.isin::L) w) (r:(Bool×Que)) (hm:vV p0 p1 p2=some r):
  Calls Try.prog 74 #[(.iface 63 (.pointer (some ⟨bp0,0,none⟩))),(.int .i64 p1),(.int .i64 p2)] w (Ret fun v w'=>∃(jE:Value) (jD:Value),v=(.bool r.1)∧Hp Z ρ (Pt bp0 (.cells #[jE,jD] 68 (0,0))::aA 3 jE r.2.list::aA 4 jD r.2.isin::L) w'):=by
 refine enter (N:=48) Try.func74 rfl rfl [(0,(.iface 63 (.pointer (some ⟨bp0,0,none⟩)))),(1,(.int .i64 p1)),(2,(.int .i64 p2))] rfl (bP ⟨rfl,rfl,rfl,trivial⟩) fun a hE=>?_
 unfold vV at hm
 refine aH (aB ?_)
 refine S hE 1 rfl fun a hE=>aC (aH ?_)
 refine aB (S hE 2 rfl fun a hE=>?_)
 refine aC (aH ?_)
 obtain⟨b1,hc1,hm⟩:=bnd hm
 refine dN (fun a w=>∃(w2:Value) (w3:Value),Env 48 [(1,(.int .i64 p1)),(7,(.int .i64 b1.1))] a∧Hp Z ρ (Pt bp0 (.cells #[w2,w3] 68 (0,0))::aA 3 w2 b1.2.1::aA 4 w3 b1.2.2::L) w) ?_ ?_
 ·refine fV hc1 (fun s a w=>∃(w2:Value) (w3:Value),Env 48 [(0,(.iface 63 (.pointer (some ⟨bp0,0,none⟩)))),(1,(.int .i64 p1)),(2,(.int .i64 p2)),(7,(.int .i64 s.1))] a∧Hp Z ρ (Pt bp0 (.cells #[w2,w3] 68 (0,0))::aA 3 w2 s.2.1::aA 4 w3 s.2.2::L) w) ?_ ?_
  ·exact⟨_,_,hE.cut ⟨rfl,rfl,rfl,rfl,trivial⟩,hp⟩
  rintro⟨bC,cZ,dG⟩ st a w ⟨w2,w3,hE,hp⟩ hl1
  dsimp only at hE hp hl1
  unfold sN at hl1
  refine dL (aH ?_)
  refine aB (S hE 1 rfl fun a hE=>?_)
  obtain⟨x1,ex1,hl1⟩:=bnd hl1
  refine V hE hp rfl (ex_mul rfl hE rfl rfl (bF ex1)) fun a hE=>?_
  obtain⟨x2,ex2,hl1⟩:=bnd hl1
  refine V hE hp rfl (dS rfl hE rfl rfl (bF ex2)) fun a hE=>S hE 1 rfl fun a hE=>aC ?_
  have hE:=hE.cut (E':=[(0,(.iface 63 (.pointer (some ⟨bp0,0,none⟩)))),(1,(.int .i64 p1)),(2,(.int .i64 p2)),(7,(.int .i64 bC)),(8,(.int .i64 x2))]) ⟨rfl,rfl,rfl,rfl,rfl,trivial⟩
  refine aH (aH ?_)
  refine aB (S hE 4 rfl fun a hE=>?_)
  refine kV [_,_,_] (fun a w=>Env 48 [(21,(.bool ((decide (p2≤x2))||(decide (x2<0))))),(0,(.iface 63 (.pointer (some ⟨bp0,0,none⟩)))),(1,(.int .i64 p1)),(2,(.int .i64 p2)),(7,(.int .i64 bC)),(8,(.int .i64 x2))] a∧Hp Z ρ (Pt bp0 (.cells #[w2,w3] 68 (0,0))::aA 3 w2 cZ::aA 4 w3 dG::L) w) ?_ ?_
  ·rcases Bool.eq_false_or_eq_true (decide (p2≤x2)) with hc2|hc2
   ·
    refine Gk hE hc2 rfl fun a hE=>Gk hE hc2 rfl fun a hE=>pk1 hE hc2 rfl rfl rfl rfl fun a hE=>?_
    have hE:=hE.eqv (v':=(.bool ((decide (p2≤x2))||(decide (x2<0))))) (by rw[hc2];rfl)
    exact aC ⟨hE.cut ⟨rfl,rfl,rfl,rfl,rfl,rfl,trivial⟩,hp⟩
   refine Gs hE hc2 rfl rfl fun a hE=>Gs hE hc2 rfl rfl fun a hE=>pk0 hE hc2 rfl rfl rfl rfl fun a hE=>?_
   have hE:=hE.eqv (v':=(.bool ((decide (p2≤x2))||(decide (x2<0))))) (by rw[hc2];rfl)
   exact aC ⟨hE.cut ⟨rfl,rfl,rfl,rfl,rfl,rfl,trivial⟩,hp⟩
  rintro a w ⟨hE,hp⟩
  refine aC ?_
  refine dQ hE rfl (fun hc3=>?_) (fun hc3=>?_)
  ·replace hl1:=(it hc3).symm.trans hl1
   refine eU ?_
   refine⟨_,(Option.some.inj hl1).symm,fun hbb=>?_⟩
   subst hbb
   exact⟨_,_,hE.cut ⟨rfl,rfl,trivial⟩,hp⟩
  replace hl1:=(ie hc3).symm.trans hl1
  refine bT (aH ?_)
  refine aB (S hE 2 rfl fun a hE=>?_)
  refine aC (aH ?_)
  refine aH (aB ?_)
  refine S hE 1 rfl fun a hE=>?_
  obtain⟨x3,ex3,hl1⟩:=bnd hl1
  refine V hE hp rfl (dS rfl hE rfl rfl (bF ex3)) fun a hE=>S hE 1 rfl fun a hE=>aC (aH ?_)
  refine aB (S hE 4 rfl fun a hE=>?_)
  obtain⟨m1,hg1,hl1⟩:=bnd hl1
  refine kV [_,_,_,_,_] (fun a w=>Env 48 [(33,(.bool m1)),(0,(.iface 63 (.pointer (some ⟨bp0,0,none⟩)))),(1,(.int .i64 p1)),(2,(.int .i64 p2)),(7,(.int .i64 bC)),(9,(.int .i64 x2)),(10,(.int .i64 x3))] a∧Hp Z ρ (Pt bp0 (.cells #[w2,w3] 68 (0,0))::aA 3 w2 cZ::aA 4 w3 dG::L) w) ?_ ?_
  ·rcases Bool.eq_false_or_eq_true (decide (x3<p2)) with hc4|hc4
   ·
    replace hg1:=(it hc4).symm.trans hg1
    refine Gs hE hc4 rfl rfl fun a hE=>Gs hE hc4 rfl rfl fun a hE=>Gs hE hc4 rfl rfl fun a hE=>?_
    obtain⟨x4,ex4,hg1⟩:=bnd hg1
    refine vH (wk1 hE rfl rfl rfl hc4) rfl rfl hE rfl rfl [(.int .i64 x3),(.int .i64 x2)] ⟨rfl,rfl,trivial⟩ (aA7 _ _ _) (rU bp0 (Que.mk cZ dG) w2 w3 x3 x2 (((hp.get 2 rfl).get 2 rfl).get 2 rfl) x4 ex4) Ret.ret ?_
    intro v a w hR hE
    obtain⟨rfl,hp⟩:=Ret.of hR
    have hp:=r3 hp
    refine pk1 hE hc4 rfl rfl rfl rfl fun a hE=>?_
    obtain rfl:=Option.some.inj hg1
    exact aC ⟨hE.cut ⟨rfl,rfl,rfl,rfl,rfl,rfl,rfl,trivial⟩,hp⟩
   replace hg1:=(ie hc4).symm.trans hg1
   refine Gk hE hc4 rfl fun a hE=>Gk hE hc4 rfl fun a hE=>Gk hE hc4 rfl fun a hE=>Gk hE hc4 rfl fun a hE=>pk0 hE hc4 rfl rfl rfl rfl fun a hE=>?_
   obtain rfl:=Option.some.inj hg1
   exact aC ⟨hE.cut ⟨rfl,rfl,rfl,rfl,rfl,rfl,rfl,trivial⟩,hp⟩
  rintro a w ⟨hE,hp⟩
  refine aC ?_
  obtain⟨j1,hj1,hl1⟩:=bnd hl1
  refine k_cut (fun a w=>Env 48 [(0,(.iface 63 (.pointer (some ⟨bp0,0,none⟩)))),(1,(.int .i64 p1)),(2,(.int .i64 p2)),(7,(.int .i64 bC)),(9,(.int .i64 j1))] a∧Hp Z ρ (Pt bp0 (.cells #[w2,w3] 68 (0,0))::aA 3 w2 cZ::aA 4 w3 dG::L) w) ?_ ?_
  ·
   refine dQ hE rfl (fun hc5=>?_) (fun hc5=>?_)
   ·replace hj1:=(it hc5).symm.trans hj1
    refine aB (S hE 2 rfl fun a hE=>?_)
    refine aC ?_
    obtain rfl:=Option.some.inj hj1
    exact⟨hE.cut ⟨rfl,rfl,rfl,rfl,rfl,trivial⟩,hp⟩
   replace hj1:=(ie hc5).symm.trans hj1
   refine bT ?_
   obtain rfl:=Option.some.inj hj1
   exact⟨hE.cut ⟨rfl,rfl,rfl,rfl,rfl,trivial⟩,hp⟩
  rintro a w ⟨hE,hp⟩
  refine aH (aH ?_)
  refine aB (S hE 3 rfl fun a hE=>?_)
  obtain⟨x5,ex5,hl1⟩:=bnd hl1
  refine vH (wk0 rfl) rfl rfl hE rfl rfl [(.int .i64 j1),(.int .i64 bC)] ⟨rfl,rfl,trivial⟩ (aA7 _ _ _) (rU bp0 (Que.mk cZ dG) w2 w3 j1 bC (((hp.get 2 rfl).get 2 rfl).get 2 rfl) x5 ex5) Ret.ret ?_
  intro v a w hR hE
  obtain⟨rfl,hp⟩:=Ret.of hR
  have hp:=r3 hp
  refine S hE 1 rfl fun a hE=>aC ?_
  refine dQ hE rfl (fun hc6=>?_) (fun hc6=>?_)
  ·replace hl1:=(it hc6).symm.trans hl1
   refine eU ?_
   refine⟨_,(Option.some.inj hl1).symm,fun hbb=>?_⟩
   subst hbb
   exact⟨_,_,hE.cut ⟨rfl,rfl,trivial⟩,hp⟩
  replace hl1:=(ie hc6).symm.trans hl1
  refine bT (aH ?_)
  refine aB (S hE 3 rfl fun a hE=>?_)
  obtain⟨x6,ex6,hl1⟩:=bnd hl1
  refine vH (wk0 rfl) rfl rfl hE rfl rfl [(.int .i64 bC),(.int .i64 j1)] ⟨rfl,rfl,trivial⟩ (aA8 _ _ _) (rV bp0 (Que.mk cZ dG) w2 w3 bC j1 (((hp.get 2 rfl).get 2 rfl).get 2 rfl) x6 ex6) Ret.ret ?_
  intro v a w hR hE
  obtain⟨qM,qL,rfl,hp⟩:=Ret.of hR
  have hp:=r3 hp
  refine aC (aB ?_)
  refine S hE 2 rfl fun a hE=>aC ?_
  exact⟨_,(Option.some.inj hl1).symm,_,_,hE.cut ⟨rfl,rfl,rfl,rfl,trivial⟩,hp⟩
 rintro a w ⟨w2,w3,hE,hp⟩
 refine aH (aB ?_)
 refine S hE 4 rfl fun a hE=>aC ?_
 have hE:=hE.cut (E':=[(6,(.bool (decide (p1<b1.1))))]) ⟨rfl,trivial⟩
 refine dE ?_
 obtain rfl:=Option.some.inj hm
 exact iV hE rfl rfl ⟨_,rfl,_,_,rfl,hp⟩
set_option maxRecDepth 100000 in
set_option maxHeartbeats 4000000 in
theorem c_heap_Push {Z:World} {ρ:PH} {L:List bV} {w:World} (bp0:Nat) (p0:Que) (eP:Value) (dU:Value) (p1:Int) (hp:Hp Z ρ (Pt bp0 (.cells #[eP,dU] 68 (0,0))::aA 3 eP p0.list::aA 4 dU p0.isin::L) w) (r:Que) (hm:tN p0 p1=some r):
  Calls Try.prog 48 #[(.iface 63 (.pointer (some ⟨bp0,0,none⟩))),(.iface 3 (.int .i64 p1))] w (Ret fun v w'=>∃(jE:Value) (jD:Value),v= .tuple #[]∧Hp Z ρ (Pt bp0 (.cells #[jE,jD] 68 (0,0))::aA 3 jE r.list::aA 4 jD r.isin::L) w'):=by
 refine enter (N:=12) Try.func48 rfl rfl [(0,(.iface 63 (.pointer (some ⟨bp0,0,none⟩)))),(1,(.iface 3 (.int .i64 p1)))] rfl (bP ⟨rfl,rfl,trivial⟩) fun a hE=>?_
 unfold tN at hm
 refine aH (aB ?_)
 refine S hE 2 rfl fun a hE=>?_
 obtain⟨x1,ex1,hm⟩:=bnd hm
 refine vH (wk0 rfl) rfl rfl hE rfl rfl [(.iface 3 (.int .i64 p1))] ⟨rfl,trivial⟩ (inv63_Push _ _) (Y5 bp0 p0 eP dU p1 (((hp.get 2 rfl).get 2 rfl).get 2 rfl) x1 ex1) Ret.ret ?_
 intro v a w hR hE
 obtain⟨qM,qL,rfl,hp⟩:=Ret.of hR
 have hp:=r3 hp
 refine aC (aB ?_)
 refine S hE 2 rfl fun a hE=>?_
 obtain⟨x2,ex2,hm⟩:=bnd hm
 refine vH (wk0 rfl) rfl rfl hE rfl rfl [] trivial (inv63_Len _) (sV bp0 x1 qM qL (((hp.get 2 rfl).get 2 rfl).get 2 rfl) x2 ex2) Ret.ret ?_
 intro v a w hR hE
 obtain⟨rfl,hp⟩:=Ret.of hR
 have hp:=r3 hp
 obtain⟨x3,ex3,hm⟩:=bnd hm
 refine V hE hp rfl (sW rfl hE rfl rfl (bF ex3)) fun a hE=>?_
 obtain⟨x4,ex4,hm⟩:=bnd hm
 refine s_call (wk0 rfl) rfl rfl hE rfl [(.iface 63 (.pointer (some ⟨bp0,0,none⟩))),(.int .i64 x3)] ⟨rfl,rfl,trivial⟩ ent63 (c_heap_up bp0 x1 qM qL x3 (((hp.get 2 rfl).get 2 rfl).get 2 rfl) x4 ex4) Ret.ret ?_
 intro v a w hR hE
 obtain⟨vz2_list,vz2_isin,rfl,hp⟩:=Ret.of hR
 have hp:=r3 hp
 refine aC ?_
 obtain rfl:=Option.some.inj hm
 exact vX hE rfl ⟨_,rfl,_,_,rfl,hp⟩
set_option maxRecDepth 100000 in
set_option maxHeartbeats 4000000 in
theorem c_heap_Pop {Z:World} {ρ:PH} {L:List bV} {w:World} (bp0:Nat) (p0:Que) (eP:Value) (dU:Value) (hp:Hp Z ρ (Pt bp0 (.cells #[eP,dU] 68 (0,0))::aA 3 eP p0.list::aA 4 dU p0.isin::L) w) (r:(Int×Que)) (hm:xW p0=some r):
  Calls Try.prog 67 #[(.iface 63 (.pointer (some ⟨bp0,0,none⟩)))] w (Ret fun v w'=>∃(jE:Value) (jD:Value),v=(.iface 3 (.int .i64 r.1))∧Hp Z ρ (Pt bp0 (.cells #[jE,jD] 68 (0,0))::aA 3 jE r.2.list::aA 4 jD r.2.isin::L) w'):=by
 refine enter (N:=15) Try.func67 rfl rfl [(0,(.iface 63 (.pointer (some ⟨bp0,0,none⟩))))] rfl (bP ⟨rfl,trivial⟩) fun a hE=>?_
 unfold xW at hm
 refine aH (aB ?_)
 refine S hE 1 rfl fun a hE=>aC (aH ?_)
 refine aB (S hE 1 rfl fun a hE=>?_)
 obtain⟨x1,ex1,hm⟩:=bnd hm
 refine vH (wk0 rfl) rfl rfl hE rfl rfl [] trivial (inv63_Len _) (sV bp0 p0 eP dU (((hp.get 2 rfl).get 2 rfl).get 2 rfl) x1 ex1) Ret.ret ?_
 intro v a w hR hE
 obtain⟨rfl,hp⟩:=Ret.of hR
 have hp:=r3 hp
 obtain⟨x2,ex2,hm⟩:=bnd hm
 refine V hE hp rfl (sW rfl hE rfl rfl (bF ex2)) fun a hE=>S hE 1 rfl fun a hE=>aC (aH ?_)
 refine aB (S hE 2 rfl fun a hE=>?_)
 obtain⟨x3,ex3,hm⟩:=bnd hm
 refine vH (wk0 rfl) rfl rfl hE rfl rfl [(.int .i64 0),(.int .i64 x2)] ⟨rfl,rfl,trivial⟩ (aA8 _ _ _) (rV bp0 p0 eP dU 0 x2 (((hp.get 2 rfl).get 2 rfl).get 2 rfl) x3 ex3) Ret.ret ?_
 intro v a w hR hE
 obtain⟨qM,qL,rfl,hp⟩:=Ret.of hR
 have hp:=r3 hp
 refine aC (aH ?_)
 refine aB (S hE 2 rfl fun a hE=>?_)
 obtain⟨x4,ex4,hm⟩:=bnd hm
 refine s_call (wk0 rfl) rfl rfl hE rfl [(.iface 63 (.pointer (some ⟨bp0,0,none⟩))),(.int .i64 0),(.int .i64 x2)] ⟨rfl,rfl,rfl,trivial⟩ ent74 (c_heap_down bp0 x3 qM qL 0 x2 (((hp.get 2 rfl).get 2 rfl).get 2 rfl) x4 ex4) Ret.ret ?_
 intro v a w hR hE
 obtain⟨vz2_list,vz2_isin,rfl,hp⟩:=Ret.of hR
 have hp:=r3 hp
 refine aC (aH ?_)
 refine aB (S hE 1 rfl fun a hE=>?_)
 obtain⟨x5,ex5,hm⟩:=bnd hm
 refine vH (wk0 rfl) rfl rfl hE rfl rfl [] trivial (inv63_Pop _) (aA3 bp0 x4.2 vz2_list vz2_isin (((hp.get 2 rfl).get 2 rfl).get 2 rfl) x5 ex5) Ret.ret ?_
 intro v a w hR hE
 obtain⟨vz3_list,vz3_isin,rfl,hp⟩:=Ret.of hR
 have hp:=r3 hp
 refine S hE 1 rfl fun a hE=>aC (dE ?_)
 obtain rfl:=Option.some.inj hm
 exact iV hE rfl rfl ⟨_,rfl,_,_,rfl,hp⟩
end Go.Proofs.Ytpkhmndpeipfmaa
