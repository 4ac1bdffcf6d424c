/- The code goes as its model: assessor/solver.open, assessor/solver.fits$1, slices.IndexFunc[[]int,int]@assessor/solver.fits$1, slices.ContainsFunc[[]int,int]@ass -/
import Derived.Test.YtpkhmndpeipfmaaKUnT
import Derived.Test.YtpkhmndpeipfmaaKUn5
import Derived.Test.YtpkhmndpeipfmaaKUn6
import Derived.Test.YtpkhmndpeipfmaaKUn7
import Derived.Test.YtpkhmndpeipfmaaKUn9
set_option linter.unusedVariables false
set_option linter.unusedSimpArgs false
set_option maxRecDepth 100000
set_option maxHeartbeats 4000000
namespace Go.Proofs.Ytpkhmndpeipfmaa
open Go.RowKit
theorem kC {Z:World} {ρ:PH} {L:List bZ} {w:World} (p0:Formula) (aH:Value) (bI:bW ρ aH p0.clauses) (p1:(List Int)) (vp1:Value) (hp1:bW ρ vp1 p1) (hp:Hp Z ρ (L) w) (r:Sol) (hm:oQ p0 p1=some r):
  Calls Try.prog 29 #[(.agg #[(Iv p0.vars),aH]),vp1] w (Ret fun v w'=>∃(br1:Nat) (yM:Value) (vr1_level:Value) (vr1_reason:Value) (vr1_saved:Value) (uU:Value) (tH:List Sl×List Pc) (yL:Value) (vr1_starts:Value) (br1_queue:Nat) (Y2:Value) (Y1:Value) (nS:Value) (sN:List Sl),v=(Pv br1 0)∧Hp Z ρ (Pt br1 (.cells #[yM,vr1_level,vr1_reason,vr1_saved,uU,yL,vr1_starts,(Iv r.head),(Pv br1_queue 0),nS,(Iv r.literals),(.bool r.broken)] 65 (0,0))::aA 3 yM r.value::aA 3 vr1_level r.level::aA 71 vr1_reason (List.map (hq (tH).2) (r.reason:List (Option Nat)))::aA 3 vr1_saved r.saved::cO 61 71 (78,3) uU tH (r.watches:WD) none none::aA 3 yL r.trail::aA 3 vr1_starts r.starts::Pt br1_queue (.cells #[Y2,Y1] 68 (0,0))::aA 3 Y2 r.queue.list::aA 4 Y1 r.queue.isin::bT 25 3 nS sN (r.proof:(List (List Int)))::L) w'):=by
 refine enter (N:=79) Try.func29 rfl rfl [(0,(.agg #[(Iv p0.vars),aH])),(1,vp1)] rfl (bM ⟨rfl,rfl,trivial⟩) fun a hE=>?_
 unfold oQ at hm
 refine aG (aB ?_)
 refine rO (wk0 rfl) rfl rfl hE hp rfl (v:=(.agg #[(Iv p0.vars),aH])) rfl ?_
 intro a w b1 hE hp
 have hp:=r1 hp
 refine S hE 1 rfl fun a hE=>aC (aG ?_)
 refine aB (V hE hp rfl (xf hE lM rfl rfl) fun a hE=>?_)
 refine V hE hp rfl (xl hE bG 0 rfl rfl rfl rfl) fun a hE=>?_
 obtain⟨x1,ex1,hm⟩:=bnd hm
 refine V hE hp rfl (dD rfl hE rfl rfl (aZ ex1)) fun a hE=>S hE 1 rfl fun a hE=>aC (aG ?_)
 obtain⟨x2,ex2,hm⟩:=bnd hm
 obtain⟨x3,ex3,hm⟩:=bnd hm
 obtain⟨x4,ex4,hm⟩:=bnd hm
 obtain⟨x5,ex5,hm⟩:=bnd hm
 obtain⟨x6,ex6,hm⟩:=bnd hm
 obtain⟨x7,ex7,hm⟩:=bnd hm
 have hp:=hp.drew
 refine jS ([([],At0 Z ρ)]:Facts) (fun a w=>∃y19:Nat,∃y18:Value,∃yut18:List Sl×List Pc,∃y17:Value,∃y16:Value,∃y15:Value,∃y14:Value,Env 79 [(1,vp1),(2,(Pv b1 0)),(5,(Iv x1)),(6,(Pv y19 0))] a∧Hp Z ρ (Pt y19 (.cells #[y14,y15,y16,y17,y18,N0,N0,(Iv 0),(.pointer none),N0,(Iv 0),(.bool false)] 65 (0,0))::cO 61 71 (78,3) y18 yut18 ((x7,[]):WD) none none::aA 3 y17 x5::aA 71 y16 (List.map (hq (yut18).2) (x4:List (Option Nat)))::aA 3 y15 x3::aA 3 y14 x2::Pt b1 (.cells #[(Iv p0.vars),aH] 24 (0,0))::L) w) (by kernel_rfl) ⟨fun _=>⟨_,hp⟩,trivial⟩ (fun hS=>?_) ?_
 ·
  generalize w.drew=w at hS hp⊢
  refine v_dag hS fun G I gi go ii io _=>?_
  have hd_0_1_2_3_4_5_6_7_8_9_10_11:∀(du18:List Sl×List Pc) (dv14:Value) (dv15:Value) (dv16:Value) (dv17:Value) (dv18:Value) (a:Act) (w:World),Env 79 [(1,vp1),(2,(Pv b1 0)),(5,(Iv x1)),(15,(Iv x1)),(16,dv14),(17,(Iv x1)),(18,dv15),(19,(Iv x1)),(20,dv16),(21,(Iv x1)),(22,dv17),(23,(Iv x1)),(24,(Iv x6)),(25,dv18),(26,(.agg #[dv14,dv15,dv16,dv17,dv18,N0,N0,(Iv 0),(.pointer none),N0,(Iv 0),(.bool false)]))] a→Hp Z ρ (Pt b1 (.cells #[(Iv p0.vars),aH] 24 (0,0))::aA 3 dv14 x2::aA 3 dv15 x3::aA 71 dv16 (List.map (hq (du18).2) (x4:List (Option Nat)))::aA 3 dv17 x5::cO 61 71 (78,3) dv18 du18 ((x7,[]):WD) none none::L) w→I #[true,true,true,true,true,true,true,true,true,true,true,true,false,false] w→G 2 #[true,true,true,true,true,true,true,true,true,true,true,true,false,false] a w:=by
   intro du18 dv14 dv15 dv16 dv17 dv18 a w hE hp hI
   have hS:=ii _ _ hI
   refine gi _ _ _ _ ?_
   refine W1 12 (by kernel_rfl) rfl ?_
   refine rO (wk0 rfl) rfl rfl hE hp rfl (v:=(.agg #[dv14,dv15,dv16,dv17,dv18,N0,N0,(Iv 0),(.pointer none),N0,(Iv 0),(.bool false)])) rfl ?_
   intro a w b3 hE hp
   have hp:=r7 hp
   refine aC (aI ⟨gp0 hp,trivial⟩ fun hS=>?_)
   refine Ts [13] hE hS rfl rfl (by kernel_rfl) fun a hE hS=>?_
   exact eG (by kernel_rfl) ⟨_,_,du18,_,_,_,_,hE.cut ⟨rfl,rfl,rfl,rfl,trivial⟩,(((((((hp.get 1 rfl).get 2 rfl).get 3 rfl).get 4 rfl).get 5 rfl).get 6 rfl).get 6 rfl)⟩
  have hd_0_1_2_3_4_5_6_7_8_9:∀(dv14:Value) (dv15:Value) (dv16:Value) (dv17:Value) (a:Act) (w:World),Env 79 [(1,vp1),(2,(Pv b1 0)),(5,(Iv x1)),(15,(Iv x1)),(16,dv14),(17,(Iv x1)),(18,dv15),(19,(Iv x1)),(20,dv16),(21,(Iv x1)),(22,dv17),(23,(Iv x1)),(24,(Iv x6))] a→Hp Z ρ (Pt b1 (.cells #[(Iv p0.vars),aH] 24 (0,0))::aA 3 dv14 x2::aA 3 dv15 x3::aA 71 dv16 (List.map (hq ((([],[]):List Sl×List Pc)).2) (x4:List (Option Nat)))::aA 3 dv17 x5::L) w→I #[true,true,true,true,true,true,true,true,true,true,false,false,false,false] w→G 4 #[true,true,true,true,true,true,true,true,true,true,false,false,false,false] a w:=by
   intro dv14 dv15 dv16 dv17 a w hE hp hI
   have hS:=ii _ _ hI
   refine gi _ _ _ _ ?_
   refine W1 10 (by kernel_rfl) rfl ?_
   refine oJ (wk0 rfl) rfl rfl hE hp rfl (T:=61) (bytes:=24) (by kernel_rfl) (by kernel_rfl) rfl rfl rfl ex7 71 (78,3) ?_
   intro v6 ut2 a w hE hp
   rw[wW ex4 _ ut2.2] at hp
   have hp:=r6 hp
   refine aC (aI ⟨gp0 hp,trivial⟩ fun hS=>?_)
   refine T0 11 hE hS rfl rfl rfl (by kernel_rfl) (v:=(.agg #[dv14,dv15,dv16,dv17,v6,N0,N0,(Iv 0),(.pointer none),N0,(Iv 0),(.bool false)])) (fun _=>qN rfl hE [(0,dv14),(1,dv15),(2,dv16),(3,dv17),(4,v6)] (by exact⟨⟨rfl,rfl⟩,⟨rfl,rfl⟩,⟨rfl,rfl⟩,⟨rfl,rfl⟩,⟨rfl,rfl⟩,trivial⟩) (fun w=>by have hc0:=aA.cells hp 2 rfl;simp only[Value.cells] at hc0;have hc1:=aA.cells hp 3 rfl;simp only[Value.cells] at hc1;have hc2:=aA.cells hp 4 rfl;simp only[Value.cells] at hc2;have hc3:=aA.cells hp 5 rfl;simp only[Value.cells] at hc3;have hc4:=cO.cells hp 0 rfl;simp only[Value.cells] at hc4;simp[Instr.build,Instr.fill,Value.cells,hc0,hc1,hc2,hc3,hc4,go_sem])) fun a hE hS=>?_
   exact go _ _ _ _ _ (by kernel_rfl) (hd_0_1_2_3_4_5_6_7_8_9_10_11 ut2 dv14 dv15 dv16 dv17 v6 a w (hE.cut ⟨rfl,rfl,rfl,rfl,rfl,rfl,rfl,rfl,rfl,rfl,rfl,rfl,rfl,rfl,rfl,trivial⟩) ((((((hp.get 0 rfl).get 5 rfl).get 5 rfl).get 5 rfl).get 5 rfl).get 5 rfl) (io _ _ _ (by kernel_rfl) hS))
  have hd_0_1_2_3_4_5_6_8_9_10:∀(du18:List Sl×List Pc) (dv14:Value) (dv15:Value) (dv16:Value) (dv18:Value) (a:Act) (w:World),Env 79 [(1,vp1),(2,(Pv b1 0)),(5,(Iv x1)),(15,(Iv x1)),(16,dv14),(17,(Iv x1)),(18,dv15),(19,(Iv x1)),(20,dv16),(21,(Iv x1)),(23,(Iv x1)),(24,(Iv x6)),(25,dv18)] a→Hp Z ρ (Pt b1 (.cells #[(Iv p0.vars),aH] 24 (0,0))::aA 3 dv14 x2::aA 3 dv15 x3::aA 71 dv16 (List.map (hq (du18).2) (x4:List (Option Nat)))::cO 61 71 (78,3) dv18 du18 ((x7,[]):WD) none none::L) w→I #[true,true,true,true,true,true,true,false,true,true,true,false,false,false] w→G 4 #[true,true,true,true,true,true,true,false,true,true,true,false,false,false] a w:=by
   intro du18 dv14 dv15 dv16 dv18 a w hE hp hI
   have hS:=ii _ _ hI
   refine gi _ _ _ _ ?_
   refine W1 7 (by kernel_rfl) rfl ?_
   refine fH (wk0 rfl) rfl rfl hE hp rfl (El:=3) (bytes:=8) (by kernel_rfl) (0:Int) (by kernel_rfl) (by kernel_rfl) rfl rfl ex5 ?_
   intro v7 a w hE hp
   have hp:=r6 hp
   refine aC (aI ⟨gp0 hp,trivial⟩ fun hS=>?_)
   refine T0 11 hE hS rfl rfl rfl (by kernel_rfl) (v:=(.agg #[dv14,dv15,dv16,v7,dv18,N0,N0,(Iv 0),(.pointer none),N0,(Iv 0),(.bool false)])) (fun _=>qN rfl hE [(0,dv14),(1,dv15),(2,dv16),(3,v7),(4,dv18)] (by exact⟨⟨rfl,rfl⟩,⟨rfl,rfl⟩,⟨rfl,rfl⟩,⟨rfl,rfl⟩,⟨rfl,rfl⟩,trivial⟩) (fun w=>by have hc0:=aA.cells hp 2 rfl;simp only[Value.cells] at hc0;have hc1:=aA.cells hp 3 rfl;simp only[Value.cells] at hc1;have hc2:=aA.cells hp 4 rfl;simp only[Value.cells] at hc2;have hc3:=aA.cells hp 0 rfl;simp only[Value.cells] at hc3;have hc4:=cO.cells hp 5 rfl;simp only[Value.cells] at hc4;simp[Instr.build,Instr.fill,Value.cells,hc0,hc1,hc2,hc3,hc4,go_sem])) fun a hE hS=>?_
   exact go _ _ _ _ _ (by kernel_rfl) (hd_0_1_2_3_4_5_6_7_8_9_10_11 du18 dv14 dv15 dv16 v7 dv18 a w (hE.cut ⟨rfl,rfl,rfl,rfl,rfl,rfl,rfl,rfl,rfl,rfl,rfl,rfl,rfl,rfl,rfl,trivial⟩) ((((((hp.get 5 rfl).get 1 rfl).get 5 rfl).get 5 rfl).get 5 rfl).get 5 rfl) (io _ _ _ (by kernel_rfl) hS))
  have hd_0_1_2_3_4_6_7_8_9_10:∀(du18:List Sl×List Pc) (dv14:Value) (dv15:Value) (dv17:Value) (dv18:Value) (a:Act) (w:World),Env 79 [(1,vp1),(2,(Pv b1 0)),(5,(Iv x1)),(15,(Iv x1)),(16,dv14),(17,(Iv x1)),(18,dv15),(19,(Iv x1)),(21,(Iv x1)),(22,dv17),(23,(Iv x1)),(24,(Iv x6)),(25,dv18)] a→Hp Z ρ (Pt b1 (.cells #[(Iv p0.vars),aH] 24 (0,0))::aA 3 dv14 x2::aA 3 dv15 x3::aA 3 dv17 x5::cO 61 71 (78,3) dv18 du18 ((x7,[]):WD) none none::L) w→I #[true,true,true,true,true,false,true,true,true,true,true,false,false,false] w→G 4 #[true,true,true,true,true,false,true,true,true,true,true,false,false,false] a w:=by
   intro du18 dv14 dv15 dv17 dv18 a w hE hp hI
   have hS:=ii _ _ hI
   refine gi _ _ _ _ ?_
   refine W1 5 (by kernel_rfl) rfl ?_
   refine qK (du18).2 (wk0 rfl) rfl rfl hE hp rfl (El:=71) (bytes:=8) (by kernel_rfl) (by kernel_rfl) rfl rfl rfl ex4 ?_
   intro v8 a w hE hp
   have hp:=r6 hp
   refine aC (aI ⟨gp0 hp,trivial⟩ fun hS=>?_)
   refine T0 11 hE hS rfl rfl rfl (by kernel_rfl) (v:=(.agg #[dv14,dv15,v8,dv17,dv18,N0,N0,(Iv 0),(.pointer none),N0,(Iv 0),(.bool false)])) (fun _=>qN rfl hE [(0,dv14),(1,dv15),(2,v8),(3,dv17),(4,dv18)] (by exact⟨⟨rfl,rfl⟩,⟨rfl,rfl⟩,⟨rfl,rfl⟩,⟨rfl,rfl⟩,⟨rfl,rfl⟩,trivial⟩) (fun w=>by have hc0:=aA.cells hp 2 rfl;simp only[Value.cells] at hc0;have hc1:=aA.cells hp 3 rfl;simp only[Value.cells] at hc1;have hc2:=aA.cells hp 0 rfl;simp only[Value.cells] at hc2;have hc3:=aA.cells hp 4 rfl;simp only[Value.cells] at hc3;have hc4:=cO.cells hp 5 rfl;simp only[Value.cells] at hc4;simp[Instr.build,Instr.fill,Value.cells,hc0,hc1,hc2,hc3,hc4,go_sem])) fun a hE hS=>?_
   exact go _ _ _ _ _ (by kernel_rfl) (hd_0_1_2_3_4_5_6_7_8_9_10_11 du18 dv14 dv15 v8 dv17 dv18 a w (hE.cut ⟨rfl,rfl,rfl,rfl,rfl,rfl,rfl,rfl,rfl,rfl,rfl,rfl,rfl,rfl,rfl,trivial⟩) ((((((hp.get 5 rfl).get 5 rfl).get 2 rfl).get 5 rfl).get 5 rfl).get 5 rfl) (io _ _ _ (by kernel_rfl) hS))
  have hd_0_1_2_4_5_6_7_8_9_10:∀(du18:List Sl×List Pc) (dv14:Value) (dv16:Value) (dv17:Value) (dv18:Value) (a:Act) (w:World),Env 79 [(1,vp1),(2,(Pv b1 0)),(5,(Iv x1)),(15,(Iv x1)),(16,dv14),(17,(Iv x1)),(19,(Iv x1)),(20,dv16),(21,(Iv x1)),(22,dv17),(23,(Iv x1)),(24,(Iv x6)),(25,dv18)] a→Hp Z ρ (Pt b1 (.cells #[(Iv p0.vars),aH] 24 (0,0))::aA 3 dv14 x2::aA 71 dv16 (List.map (hq (du18).2) (x4:List (Option Nat)))::aA 3 dv17 x5::cO 61 71 (78,3) dv18 du18 ((x7,[]):WD) none none::L) w→I #[true,true,true,false,true,true,true,true,true,true,true,false,false,false] w→G 4 #[true,true,true,false,true,true,true,true,true,true,true,false,false,false] a w:=by
   intro du18 dv14 dv16 dv17 dv18 a w hE hp hI
   have hS:=ii _ _ hI
   refine gi _ _ _ _ ?_
   refine W1 3 (by kernel_rfl) rfl ?_
   refine fH (wk0 rfl) rfl rfl hE hp rfl (El:=3) (bytes:=8) (by kernel_rfl) (0:Int) (by kernel_rfl) (by kernel_rfl) rfl rfl ex3 ?_
   intro v9 a w hE hp
   have hp:=r6 hp
   refine aC (aI ⟨gp0 hp,trivial⟩ fun hS=>?_)
   refine T0 11 hE hS rfl rfl rfl (by kernel_rfl) (v:=(.agg #[dv14,v9,dv16,dv17,dv18,N0,N0,(Iv 0),(.pointer none),N0,(Iv 0),(.bool false)])) (fun _=>qN rfl hE [(0,dv14),(1,v9),(2,dv16),(3,dv17),(4,dv18)] (by exact⟨⟨rfl,rfl⟩,⟨rfl,rfl⟩,⟨rfl,rfl⟩,⟨rfl,rfl⟩,⟨rfl,rfl⟩,trivial⟩) (fun w=>by have hc0:=aA.cells hp 2 rfl;simp only[Value.cells] at hc0;have hc1:=aA.cells hp 0 rfl;simp only[Value.cells] at hc1;have hc2:=aA.cells hp 3 rfl;simp only[Value.cells] at hc2;have hc3:=aA.cells hp 4 rfl;simp only[Value.cells] at hc3;have hc4:=cO.cells hp 5 rfl;simp only[Value.cells] at hc4;simp[Instr.build,Instr.fill,Value.cells,hc0,hc1,hc2,hc3,hc4,go_sem])) fun a hE hS=>?_
   exact go _ _ _ _ _ (by kernel_rfl) (hd_0_1_2_3_4_5_6_7_8_9_10_11 du18 dv14 v9 dv16 dv17 dv18 a w (hE.cut ⟨rfl,rfl,rfl,rfl,rfl,rfl,rfl,rfl,rfl,rfl,rfl,rfl,rfl,rfl,rfl,trivial⟩) ((((((hp.get 5 rfl).get 5 rfl).get 5 rfl).get 3 rfl).get 5 rfl).get 5 rfl) (io _ _ _ (by kernel_rfl) hS))
  have hd_0_2_3_4_5_6_7_8_9_10:∀(du18:List Sl×List Pc) (dv15:Value) (dv16:Value) (dv17:Value) (dv18:Value) (a:Act) (w:World),Env 79 [(1,vp1),(2,(Pv b1 0)),(5,(Iv x1)),(15,(Iv x1)),(17,(Iv x1)),(18,dv15),(19,(Iv x1)),(20,dv16),(21,(Iv x1)),(22,dv17),(23,(Iv x1)),(24,(Iv x6)),(25,dv18)] a→Hp Z ρ (Pt b1 (.cells #[(Iv p0.vars),aH] 24 (0,0))::aA 3 dv15 x3::aA 71 dv16 (List.map (hq (du18).2) (x4:List (Option Nat)))::aA 3 dv17 x5::cO 61 71 (78,3) dv18 du18 ((x7,[]):WD) none none::L) w→I #[true,false,true,true,true,true,true,true,true,true,true,false,false,false] w→G 4 #[true,false,true,true,true,true,true,true,true,true,true,false,false,false] a w:=by
   intro du18 dv15 dv16 dv17 dv18 a w hE hp hI
   have hS:=ii _ _ hI
   refine gi _ _ _ _ ?_
   refine W1 1 (by kernel_rfl) rfl ?_
   refine fH (wk0 rfl) rfl rfl hE hp rfl (El:=3) (bytes:=8) (by kernel_rfl) (0:Int) (by kernel_rfl) (by kernel_rfl) rfl rfl ex2 ?_
   intro v10 a w hE hp
   have hp:=r6 hp
   refine aC (aI ⟨gp0 hp,trivial⟩ fun hS=>?_)
   refine T0 11 hE hS rfl rfl rfl (by kernel_rfl) (v:=(.agg #[v10,dv15,dv16,dv17,dv18,N0,N0,(Iv 0),(.pointer none),N0,(Iv 0),(.bool false)])) (fun _=>qN rfl hE [(0,v10),(1,dv15),(2,dv16),(3,dv17),(4,dv18)] (by exact⟨⟨rfl,rfl⟩,⟨rfl,rfl⟩,⟨rfl,rfl⟩,⟨rfl,rfl⟩,⟨rfl,rfl⟩,trivial⟩) (fun w=>by have hc0:=aA.cells hp 0 rfl;simp only[Value.cells] at hc0;have hc1:=aA.cells hp 2 rfl;simp only[Value.cells] at hc1;have hc2:=aA.cells hp 3 rfl;simp only[Value.cells] at hc2;have hc3:=aA.cells hp 4 rfl;simp only[Value.cells] at hc3;have hc4:=cO.cells hp 5 rfl;simp only[Value.cells] at hc4;simp[Instr.build,Instr.fill,Value.cells,hc0,hc1,hc2,hc3,hc4,go_sem])) fun a hE hS=>?_
   exact go _ _ _ _ _ (by kernel_rfl) (hd_0_1_2_3_4_5_6_7_8_9_10_11 du18 v10 dv15 dv16 dv17 dv18 a w (hE.cut ⟨rfl,rfl,rfl,rfl,rfl,rfl,rfl,rfl,rfl,rfl,rfl,rfl,rfl,rfl,rfl,trivial⟩) ((((((hp.get 5 rfl).get 5 rfl).get 5 rfl).get 5 rfl).get 4 rfl).get 5 rfl) (io _ _ _ (by kernel_rfl) hS))
  have hd_0_1_2_3_4_5_6_8_9:∀(dv14:Value) (dv15:Value) (dv16:Value) (a:Act) (w:World),Env 79 [(1,vp1),(2,(Pv b1 0)),(5,(Iv x1)),(15,(Iv x1)),(16,dv14),(17,(Iv x1)),(18,dv15),(19,(Iv x1)),(20,dv16),(21,(Iv x1)),(23,(Iv x1)),(24,(Iv x6))] a→Hp Z ρ (Pt b1 (.cells #[(Iv p0.vars),aH] 24 (0,0))::aA 3 dv14 x2::aA 3 dv15 x3::aA 71 dv16 (List.map (hq ((([],[]):List Sl×List Pc)).2) (x4:List (Option Nat)))::L) w→I #[true,true,true,true,true,true,true,false,true,true,false,false,false,false] w→G 5 #[true,true,true,true,true,true,true,false,true,true,false,false,false,false] a w:=by
   intro dv14 dv15 dv16 a w hE hp hI
   have hS:=ii _ _ hI
   refine gi _ _ _ _ ?_
   refine jH [7,10] (by kernel_rfl) rfl ?_
   refine List.forall_mem_cons.2 ⟨?_,List.forall_mem_cons.2 ⟨?_,fun _ h=>absurd h (by simp)⟩⟩
   ·
    refine dZ rfl ?_
    refine fH (wk0 rfl) rfl rfl hE hp rfl (El:=3) (bytes:=8) (by kernel_rfl) (0:Int) (by kernel_rfl) (by kernel_rfl) rfl rfl ex5 ?_
    intro v11 a w hE hp
    have hp:=r5 hp
    refine aC (aI ⟨gp0 hp,trivial⟩ fun hS=>?_)
    exact go _ _ _ _ _ (by kernel_rfl) (hd_0_1_2_3_4_5_6_7_8_9 dv14 dv15 dv16 v11 a w (hE.cut ⟨rfl,rfl,rfl,rfl,rfl,rfl,rfl,rfl,rfl,rfl,rfl,rfl,rfl,trivial⟩) (((((hp.get 0 rfl).get 4 rfl).get 4 rfl).get 4 rfl).get 4 rfl) (io _ _ _ (by kernel_rfl) hS))
   refine dZ rfl ?_
   refine oJ (wk0 rfl) rfl rfl hE hp rfl (T:=61) (bytes:=24) (by kernel_rfl) (by kernel_rfl) rfl rfl rfl ex7 71 (78,3) ?_
   intro v12 ut3 a w hE hp
   rw[wW ex4 _ ut3.2] at hp
   have hp:=r5 hp
   refine aC (aI ⟨gp0 hp,trivial⟩ fun hS=>?_)
   exact go _ _ _ _ _ (by kernel_rfl) (hd_0_1_2_3_4_5_6_8_9_10 ut3 dv14 dv15 dv16 v12 a w (hE.cut ⟨rfl,rfl,rfl,rfl,rfl,rfl,rfl,rfl,rfl,rfl,rfl,rfl,rfl,trivial⟩) (((((hp.get 0 rfl).get 4 rfl).get 4 rfl).get 4 rfl).get 4 rfl) (io _ _ _ (by kernel_rfl) hS))
  have hd_0_1_2_3_4_6_7_8_9:∀(dv14:Value) (dv15:Value) (dv17:Value) (a:Act) (w:World),Env 79 [(1,vp1),(2,(Pv b1 0)),(5,(Iv x1)),(15,(Iv x1)),(16,dv14),(17,(Iv x1)),(18,dv15),(19,(Iv x1)),(21,(Iv x1)),(22,dv17),(23,(Iv x1)),(24,(Iv x6))] a→Hp Z ρ (Pt b1 (.cells #[(Iv p0.vars),aH] 24 (0,0))::aA 3 dv14 x2::aA 3 dv15 x3::aA 3 dv17 x5::L) w→I #[true,true,true,true,true,false,true,true,true,true,false,false,false,false] w→G 5 #[true,true,true,true,true,false,true,true,true,true,false,false,false,false] a w:=by
   intro dv14 dv15 dv17 a w hE hp hI
   have hS:=ii _ _ hI
   refine gi _ _ _ _ ?_
   refine jH [5,10] (by kernel_rfl) rfl ?_
   refine List.forall_mem_cons.2 ⟨?_,List.forall_mem_cons.2 ⟨?_,fun _ h=>absurd h (by simp)⟩⟩
   ·
    refine dZ rfl ?_
    refine qK ((([],[]):List Sl×List Pc)).2 (wk0 rfl) rfl rfl hE hp rfl (El:=71) (bytes:=8) (by kernel_rfl) (by kernel_rfl) rfl rfl rfl ex4 ?_
    intro v13 a w hE hp
    have hp:=r5 hp
    refine aC (aI ⟨gp0 hp,trivial⟩ fun hS=>?_)
    exact go _ _ _ _ _ (by kernel_rfl) (hd_0_1_2_3_4_5_6_7_8_9 dv14 dv15 v13 dv17 a w (hE.cut ⟨rfl,rfl,rfl,rfl,rfl,rfl,rfl,rfl,rfl,rfl,rfl,rfl,rfl,trivial⟩) (((((hp.get 4 rfl).get 1 rfl).get 4 rfl).get 4 rfl).get 4 rfl) (io _ _ _ (by kernel_rfl) hS))
   refine dZ rfl ?_
   refine oJ (wk0 rfl) rfl rfl hE hp rfl (T:=61) (bytes:=24) (by kernel_rfl) (by kernel_rfl) rfl rfl rfl ex7 71 (78,3) ?_
   intro v14 ut4 a w hE hp
   have hp:=r5 hp
   refine aC (aI ⟨gp0 hp,trivial⟩ fun hS=>?_)
   exact go _ _ _ _ _ (by kernel_rfl) (hd_0_1_2_3_4_6_7_8_9_10 ut4 dv14 dv15 dv17 v14 a w (hE.cut ⟨rfl,rfl,rfl,rfl,rfl,rfl,rfl,rfl,rfl,rfl,rfl,rfl,rfl,trivial⟩) (((((hp.get 0 rfl).get 4 rfl).get 4 rfl).get 4 rfl).get 4 rfl) (io _ _ _ (by kernel_rfl) hS))
  have hd_0_1_2_3_4_6_8_9_10:∀(du18:List Sl×List Pc) (dv14:Value) (dv15:Value) (dv18:Value) (a:Act) (w:World),Env 79 [(1,vp1),(2,(Pv b1 0)),(5,(Iv x1)),(15,(Iv x1)),(16,dv14),(17,(Iv x1)),(18,dv15),(19,(Iv x1)),(21,(Iv x1)),(23,(Iv x1)),(24,(Iv x6)),(25,dv18)] a→Hp Z ρ (Pt b1 (.cells #[(Iv p0.vars),aH] 24 (0,0))::aA 3 dv14 x2::aA 3 dv15 x3::cO 61 71 (78,3) dv18 du18 ((x7,[]):WD) none none::L) w→I #[true,true,true,true,true,false,true,false,true,true,true,false,false,false] w→G 5 #[true,true,true,true,true,false,true,false,true,true,true,false,false,false] a w:=by
   intro du18 dv14 dv15 dv18 a w hE hp hI
   have hS:=ii _ _ hI
   refine gi _ _ _ _ ?_
   refine jH [5,7] (by kernel_rfl) rfl ?_
   refine List.forall_mem_cons.2 ⟨?_,List.forall_mem_cons.2 ⟨?_,fun _ h=>absurd h (by simp)⟩⟩
   ·
    refine dZ rfl ?_
    refine qK (du18).2 (wk0 rfl) rfl rfl hE hp rfl (El:=71) (bytes:=8) (by kernel_rfl) (by kernel_rfl) rfl rfl rfl ex4 ?_
    intro v15 a w hE hp
    have hp:=r5 hp
    refine aC (aI ⟨gp0 hp,trivial⟩ fun hS=>?_)
    exact go _ _ _ _ _ (by kernel_rfl) (hd_0_1_2_3_4_5_6_8_9_10 du18 dv14 dv15 v15 dv18 a w (hE.cut ⟨rfl,rfl,rfl,rfl,rfl,rfl,rfl,rfl,rfl,rfl,rfl,rfl,rfl,trivial⟩) (((((hp.get 4 rfl).get 1 rfl).get 4 rfl).get 4 rfl).get 4 rfl) (io _ _ _ (by kernel_rfl) hS))
   refine dZ rfl ?_
   refine fH (wk0 rfl) rfl rfl hE hp rfl (El:=3) (bytes:=8) (by kernel_rfl) (0:Int) (by kernel_rfl) (by kernel_rfl) rfl rfl ex5 ?_
   intro v16 a w hE hp
   have hp:=r5 hp
   refine aC (aI ⟨gp0 hp,trivial⟩ fun hS=>?_)
   exact go _ _ _ _ _ (by kernel_rfl) (hd_0_1_2_3_4_6_7_8_9_10 du18 dv14 dv15 v16 dv18 a w (hE.cut ⟨rfl,rfl,rfl,rfl,rfl,rfl,rfl,rfl,rfl,rfl,rfl,rfl,rfl,trivial⟩) (((((hp.get 4 rfl).get 1 rfl).get 4 rfl).get 4 rfl).get 4 rfl) (io _ _ _ (by kernel_rfl) hS))
  have hd_0_1_2_4_5_6_7_8_9:∀(dv14:Value) (dv16:Value) (dv17:Value) (a:Act) (w:World),Env 79 [(1,vp1),(2,(Pv b1 0)),(5,(Iv x1)),(15,(Iv x1)),(16,dv14),(17,(Iv x1)),(19,(Iv x1)),(20,dv16),(21,(Iv x1)),(22,dv17),(23,(Iv x1)),(24,(Iv x6))] a→Hp Z ρ (Pt b1 (.cells #[(Iv p0.vars),aH] 24 (0,0))::aA 3 dv14 x2::aA 71 dv16 (List.map (hq ((([],[]):List Sl×List Pc)).2) (x4:List (Option Nat)))::aA 3 dv17 x5::L) w→I #[true,true,true,false,true,true,true,true,true,true,false,false,false,false] w→G 5 #[true,true,true,false,true,true,true,true,true,true,false,false,false,false] a w:=by
   intro dv14 dv16 dv17 a w hE hp hI
   have hS:=ii _ _ hI
   refine gi _ _ _ _ ?_
   refine jH [3,10] (by kernel_rfl) rfl ?_
   refine List.forall_mem_cons.2 ⟨?_,List.forall_mem_cons.2 ⟨?_,fun _ h=>absurd h (by simp)⟩⟩
   ·
    refine dZ rfl ?_
    refine fH (wk0 rfl) rfl rfl hE hp rfl (El:=3) (bytes:=8) (by kernel_rfl) (0:Int) (by kernel_rfl) (by kernel_rfl) rfl rfl ex3 ?_
    intro v17 a w hE hp
    have hp:=r5 hp
    refine aC (aI ⟨gp0 hp,trivial⟩ fun hS=>?_)
    exact go _ _ _ _ _ (by kernel_rfl) (hd_0_1_2_3_4_5_6_7_8_9 dv14 v17 dv16 dv17 a w (hE.cut ⟨rfl,rfl,rfl,rfl,rfl,rfl,rfl,rfl,rfl,rfl,rfl,rfl,rfl,trivial⟩) (((((hp.get 4 rfl).get 4 rfl).get 2 rfl).get 4 rfl).get 4 rfl) (io _ _ _ (by kernel_rfl) hS))
   refine dZ rfl ?_
   refine oJ (wk0 rfl) rfl rfl hE hp rfl (T:=61) (bytes:=24) (by kernel_rfl) (by kernel_rfl) rfl rfl rfl ex7 71 (78,3) ?_
   intro v18 ut5 a w hE hp
   rw[wW ex4 _ ut5.2] at hp
   have hp:=r5 hp
   refine aC (aI ⟨gp0 hp,trivial⟩ fun hS=>?_)
   exact go _ _ _ _ _ (by kernel_rfl) (hd_0_1_2_4_5_6_7_8_9_10 ut5 dv14 dv16 dv17 v18 a w (hE.cut ⟨rfl,rfl,rfl,rfl,rfl,rfl,rfl,rfl,rfl,rfl,rfl,rfl,rfl,trivial⟩) (((((hp.get 0 rfl).get 4 rfl).get 4 rfl).get 4 rfl).get 4 rfl) (io _ _ _ (by kernel_rfl) hS))
  have hd_0_1_2_4_5_6_8_9_10:∀(du18:List Sl×List Pc) (dv14:Value) (dv16:Value) (dv18:Value) (a:Act) (w:World),Env 79 [(1,vp1),(2,(Pv b1 0)),(5,(Iv x1)),(15,(Iv x1)),(16,dv14),(17,(Iv x1)),(19,(Iv x1)),(20,dv16),(21,(Iv x1)),(23,(Iv x1)),(24,(Iv x6)),(25,dv18)] a→Hp Z ρ (Pt b1 (.cells #[(Iv p0.vars),aH] 24 (0,0))::aA 3 dv14 x2::aA 71 dv16 (List.map (hq (du18).2) (x4:List (Option Nat)))::cO 61 71 (78,3) dv18 du18 ((x7,[]):WD) none none::L) w→I #[true,true,true,false,true,true,true,false,true,true,true,false,false,false] w→G 5 #[true,true,true,false,true,true,true,false,true,true,true,false,false,false] a w:=by
   intro du18 dv14 dv16 dv18 a w hE hp hI
   have hS:=ii _ _ hI
   refine gi _ _ _ _ ?_
   refine jH [3,7] (by kernel_rfl) rfl ?_
   refine List.forall_mem_cons.2 ⟨?_,List.forall_mem_cons.2 ⟨?_,fun _ h=>absurd h (by simp)⟩⟩
   ·
    refine dZ rfl ?_
    refine fH (wk0 rfl) rfl rfl hE hp rfl (El:=3) (bytes:=8) (by kernel_rfl) (0:Int) (by kernel_rfl) (by kernel_rfl) rfl rfl ex3 ?_
    intro v19 a w hE hp
    have hp:=r5 hp
    refine aC (aI ⟨gp0 hp,trivial⟩ fun hS=>?_)
    exact go _ _ _ _ _ (by kernel_rfl) (hd_0_1_2_3_4_5_6_8_9_10 du18 dv14 v19 dv16 dv18 a w (hE.cut ⟨rfl,rfl,rfl,rfl,rfl,rfl,rfl,rfl,rfl,rfl,rfl,rfl,rfl,trivial⟩) (((((hp.get 4 rfl).get 4 rfl).get 2 rfl).get 4 rfl).get 4 rfl) (io _ _ _ (by kernel_rfl) hS))
   refine dZ rfl ?_
   refine fH (wk0 rfl) rfl rfl hE hp rfl (El:=3) (bytes:=8) (by kernel_rfl) (0:Int) (by kernel_rfl) (by kernel_rfl) rfl rfl ex5 ?_
   intro v20 a w hE hp
   have hp:=r5 hp
   refine aC (aI ⟨gp0 hp,trivial⟩ fun hS=>?_)
   exact go _ _ _ _ _ (by kernel_rfl) (hd_0_1_2_4_5_6_7_8_9_10 du18 dv14 dv16 v20 dv18 a w (hE.cut ⟨rfl,rfl,rfl,rfl,rfl,rfl,rfl,rfl,rfl,rfl,rfl,rfl,rfl,trivial⟩) (((((hp.get 4 rfl).get 1 rfl).get 4 rfl).get 4 rfl).get 4 rfl) (io _ _ _ (by kernel_rfl) hS))
  have hd_0_1_2_4_6_7_8_9_10:∀(du18:List Sl×List Pc) (dv14:Value) (dv17:Value) (dv18:Value) (a:Act) (w:World),Env 79 [(1,vp1),(2,(Pv b1 0)),(5,(Iv x1)),(15,(Iv x1)),(16,dv14),(17,(Iv x1)),(19,(Iv x1)),(21,(Iv x1)),(22,dv17),(23,(Iv x1)),(24,(Iv x6)),(25,dv18)] a→Hp Z ρ (Pt b1 (.cells #[(Iv p0.vars),aH] 24 (0,0))::aA 3 dv14 x2::aA 3 dv17 x5::cO 61 71 (78,3) dv18 du18 ((x7,[]):WD) none none::L) w→I #[true,true,true,false,true,false,true,true,true,true,true,false,false,false] w→G 5 #[true,true,true,false,true,false,true,true,true,true,true,false,false,false] a w:=by
   intro du18 dv14 dv17 dv18 a w hE hp hI
   have hS:=ii _ _ hI
   refine gi _ _ _ _ ?_
   refine jH [3,5] (by kernel_rfl) rfl ?_
   refine List.forall_mem_cons.2 ⟨?_,List.forall_mem_cons.2 ⟨?_,fun _ h=>absurd h (by simp)⟩⟩
   ·
    refine dZ rfl ?_
    refine fH (wk0 rfl) rfl rfl hE hp rfl (El:=3) (bytes:=8) (by kernel_rfl) (0:Int) (by kernel_rfl) (by kernel_rfl) rfl rfl ex3 ?_
    intro v21 a w hE hp
    have hp:=r5 hp
    refine aC (aI ⟨gp0 hp,trivial⟩ fun hS=>?_)
    exact go _ _ _ _ _ (by kernel_rfl) (hd_0_1_2_3_4_6_7_8_9_10 du18 dv14 v21 dv17 dv18 a w (hE.cut ⟨rfl,rfl,rfl,rfl,rfl,rfl,rfl,rfl,rfl,rfl,rfl,rfl,rfl,trivial⟩) (((((hp.get 4 rfl).get 4 rfl).get 2 rfl).get 4 rfl).get 4 rfl) (io _ _ _ (by kernel_rfl) hS))
   refine dZ rfl ?_
   refine qK (du18).2 (wk0 rfl) rfl rfl hE hp rfl (El:=71) (bytes:=8) (by kernel_rfl) (by kernel_rfl) rfl rfl rfl ex4 ?_
   intro v22 a w hE hp
   have hp:=r5 hp
   refine aC (aI ⟨gp0 hp,trivial⟩ fun hS=>?_)
   exact go _ _ _ _ _ (by kernel_rfl) (hd_0_1_2_4_5_6_7_8_9_10 du18 dv14 v22 dv17 dv18 a w (hE.cut ⟨rfl,rfl,rfl,rfl,rfl,rfl,rfl,rfl,rfl,rfl,rfl,rfl,rfl,trivial⟩) (((((hp.get 4 rfl).get 4 rfl).get 2 rfl).get 4 rfl).get 4 rfl) (io _ _ _ (by kernel_rfl) hS))
  have hd_0_2_3_4_5_6_7_8_9:∀(dv15:Value) (dv16:Value) (dv17:Value) (a:Act) (w:World),Env 79 [(1,vp1),(2,(Pv b1 0)),(5,(Iv x1)),(15,(Iv x1)),(17,(Iv x1)),(18,dv15),(19,(Iv x1)),(20,dv16),(21,(Iv x1)),(22,dv17),(23,(Iv x1)),(24,(Iv x6))] a→Hp Z ρ (Pt b1 (.cells #[(Iv p0.vars),aH] 24 (0,0))::aA 3 dv15 x3::aA 71 dv16 (List.map (hq ((([],[]):List Sl×List Pc)).2) (x4:List (Option Nat)))::aA 3 dv17 x5::L) w→I #[true,false,true,true,true,true,true,true,true,true,false,false,false,false] w→G 5 #[true,false,true,true,true,true,true,true,true,true,false,false,false,false] a w:=by
   intro dv15 dv16 dv17 a w hE hp hI
   have hS:=ii _ _ hI
   refine gi _ _ _ _ ?_
   refine jH [1,10] (by kernel_rfl) rfl ?_
   refine List.forall_mem_cons.2 ⟨?_,List.forall_mem_cons.2 ⟨?_,fun _ h=>absurd h (by simp)⟩⟩
   ·
    refine dZ rfl ?_
    refine fH (wk0 rfl) rfl rfl hE hp rfl (El:=3) (bytes:=8) (by kernel_rfl) (0:Int) (by kernel_rfl) (by kernel_rfl) rfl rfl ex2 ?_
    intro v23 a w hE hp
    have hp:=r5 hp
    refine aC (aI ⟨gp0 hp,trivial⟩ fun hS=>?_)
    exact go _ _ _ _ _ (by kernel_rfl) (hd_0_1_2_3_4_5_6_7_8_9 v23 dv15 dv16 dv17 a w (hE.cut ⟨rfl,rfl,rfl,rfl,rfl,rfl,rfl,rfl,rfl,rfl,rfl,rfl,rfl,trivial⟩) (((((hp.get 4 rfl).get 4 rfl).get 4 rfl).get 3 rfl).get 4 rfl) (io _ _ _ (by kernel_rfl) hS))
   refine dZ rfl ?_
   refine oJ (wk0 rfl) rfl rfl hE hp rfl (T:=61) (bytes:=24) (by kernel_rfl) (by kernel_rfl) rfl rfl rfl ex7 71 (78,3) ?_
   intro v24 ut6 a w hE hp
   rw[wW ex4 _ ut6.2] at hp
   have hp:=r5 hp
   refine aC (aI ⟨gp0 hp,trivial⟩ fun hS=>?_)
   exact go _ _ _ _ _ (by kernel_rfl) (hd_0_2_3_4_5_6_7_8_9_10 ut6 dv15 dv16 dv17 v24 a w (hE.cut ⟨rfl,rfl,rfl,rfl,rfl,rfl,rfl,rfl,rfl,rfl,rfl,rfl,rfl,trivial⟩) (((((hp.get 0 rfl).get 4 rfl).get 4 rfl).get 4 rfl).get 4 rfl) (io _ _ _ (by kernel_rfl) hS))
  have hd_0_2_3_4_5_6_8_9_10:∀(du18:List Sl×List Pc) (dv15:Value) (dv16:Value) (dv18:Value) (a:Act) (w:World),Env 79 [(1,vp1),(2,(Pv b1 0)),(5,(Iv x1)),(15,(Iv x1)),(17,(Iv x1)),(18,dv15),(19,(Iv x1)),(20,dv16),(21,(Iv x1)),(23,(Iv x1)),(24,(Iv x6)),(25,dv18)] a→Hp Z ρ (Pt b1 (.cells #[(Iv p0.vars),aH] 24 (0,0))::aA 3 dv15 x3::aA 71 dv16 (List.map (hq (du18).2) (x4:List (Option Nat)))::cO 61 71 (78,3) dv18 du18 ((x7,[]):WD) none none::L) w→I #[true,false,true,true,true,true,true,false,true,true,true,false,false,false] w→G 5 #[true,false,true,true,true,true,true,false,true,true,true,false,false,false] a w:=by
   intro du18 dv15 dv16 dv18 a w hE hp hI
   have hS:=ii _ _ hI
   refine gi _ _ _ _ ?_
   refine jH [1,7] (by kernel_rfl) rfl ?_
   refine List.forall_mem_cons.2 ⟨?_,List.forall_mem_cons.2 ⟨?_,fun _ h=>absurd h (by simp)⟩⟩
   ·
    refine dZ rfl ?_
    refine fH (wk0 rfl) rfl rfl hE hp rfl (El:=3) (bytes:=8) (by kernel_rfl) (0:Int) (by kernel_rfl) (by kernel_rfl) rfl rfl ex2 ?_
    intro v25 a w hE hp
    have hp:=r5 hp
    refine aC (aI ⟨gp0 hp,trivial⟩ fun hS=>?_)
    exact go _ _ _ _ _ (by kernel_rfl) (hd_0_1_2_3_4_5_6_8_9_10 du18 v25 dv15 dv16 dv18 a w (hE.cut ⟨rfl,rfl,rfl,rfl,rfl,rfl,rfl,rfl,rfl,rfl,rfl,rfl,rfl,trivial⟩) (((((hp.get 4 rfl).get 4 rfl).get 4 rfl).get 3 rfl).get 4 rfl) (io _ _ _ (by kernel_rfl) hS))
   refine dZ rfl ?_
   refine fH (wk0 rfl) rfl rfl hE hp rfl (El:=3) (bytes:=8) (by kernel_rfl) (0:Int) (by kernel_rfl) (by kernel_rfl) rfl rfl ex5 ?_
   intro v26 a w hE hp
   have hp:=r5 hp
   refine aC (aI ⟨gp0 hp,trivial⟩ fun hS=>?_)
   exact go _ _ _ _ _ (by kernel_rfl) (hd_0_2_3_4_5_6_7_8_9_10 du18 dv15 dv16 v26 dv18 a w (hE.cut ⟨rfl,rfl,rfl,rfl,rfl,rfl,rfl,rfl,rfl,rfl,rfl,rfl,rfl,trivial⟩) (((((hp.get 4 rfl).get 1 rfl).get 4 rfl).get 4 rfl).get 4 rfl) (io _ _ _ (by kernel_rfl) hS))
  have hd_0_2_3_4_6_7_8_9_10:∀(du18:List Sl×List Pc) (dv15:Value) (dv17:Value) (dv18:Value) (a:Act) (w:World),Env 79 [(1,vp1),(2,(Pv b1 0)),(5,(Iv x1)),(15,(Iv x1)),(17,(Iv x1)),(18,dv15),(19,(Iv x1)),(21,(Iv x1)),(22,dv17),(23,(Iv x1)),(24,(Iv x6)),(25,dv18)] a→Hp Z ρ (Pt b1 (.cells #[(Iv p0.vars),aH] 24 (0,0))::aA 3 dv15 x3::aA 3 dv17 x5::cO 61 71 (78,3) dv18 du18 ((x7,[]):WD) none none::L) w→I #[true,false,true,true,true,false,true,true,true,true,true,false,false,false] w→G 5 #[true,false,true,true,true,false,true,true,true,true,true,false,false,false] a w:=by
   intro du18 dv15 dv17 dv18 a w hE hp hI
   have hS:=ii _ _ hI
   refine gi _ _ _ _ ?_
   refine jH [1,5] (by kernel_rfl) rfl ?_
   refine List.forall_mem_cons.2 ⟨?_,List.forall_mem_cons.2 ⟨?_,fun _ h=>absurd h (by simp)⟩⟩
   ·
    refine dZ rfl ?_
    refine fH (wk0 rfl) rfl rfl hE hp rfl (El:=3) (bytes:=8) (by kernel_rfl) (0:Int) (by kernel_rfl) (by kernel_rfl) rfl rfl ex2 ?_
    intro v27 a w hE hp
    have hp:=r5 hp
    refine aC (aI ⟨gp0 hp,trivial⟩ fun hS=>?_)
    exact go _ _ _ _ _ (by kernel_rfl) (hd_0_1_2_3_4_6_7_8_9_10 du18 v27 dv15 dv17 dv18 a w (hE.cut ⟨rfl,rfl,rfl,rfl,rfl,rfl,rfl,rfl,rfl,rfl,rfl,rfl,rfl,trivial⟩) (((((hp.get 4 rfl).get 4 rfl).get 4 rfl).get 3 rfl).get 4 rfl) (io _ _ _ (by kernel_rfl) hS))
   refine dZ rfl ?_
   refine qK (du18).2 (wk0 rfl) rfl rfl hE hp rfl (El:=71) (bytes:=8) (by kernel_rfl) (by kernel_rfl) rfl rfl rfl ex4 ?_
   intro v28 a w hE hp
   have hp:=r5 hp
   refine aC (aI ⟨gp0 hp,trivial⟩ fun hS=>?_)
   exact go _ _ _ _ _ (by kernel_rfl) (hd_0_2_3_4_5_6_7_8_9_10 du18 dv15 v28 dv17 dv18 a w (hE.cut ⟨rfl,rfl,rfl,rfl,rfl,rfl,rfl,rfl,rfl,rfl,rfl,rfl,rfl,trivial⟩) (((((hp.get 4 rfl).get 4 rfl).get 2 rfl).get 4 rfl).get 4 rfl) (io _ _ _ (by kernel_rfl) hS))
  have hd_0_2_4_5_6_7_8_9_10:∀(du18:List Sl×List Pc) (dv16:Value) (dv17:Value) (dv18:Value) (a:Act) (w:World),Env 79 [(1,vp1),(2,(Pv b1 0)),(5,(Iv x1)),(15,(Iv x1)),(17,(Iv x1)),(19,(Iv x1)),(20,dv16),(21,(Iv x1)),(22,dv17),(23,(Iv x1)),(24,(Iv x6)),(25,dv18)] a→Hp Z ρ (Pt b1 (.cells #[(Iv p0.vars),aH] 24 (0,0))::aA 71 dv16 (List.map (hq (du18).2) (x4:List (Option Nat)))::aA 3 dv17 x5::cO 61 71 (78,3) dv18 du18 ((x7,[]):WD) none none::L) w→I #[true,false,true,false,true,true,true,true,true,true,true,false,false,false] w→G 5 #[true,false,true,false,true,true,true,true,true,true,true,false,false,false] a w:=by
   intro du18 dv16 dv17 dv18 a w hE hp hI
   have hS:=ii _ _ hI
   refine gi _ _ _ _ ?_
   refine jH [1,3] (by kernel_rfl) rfl ?_
   refine List.forall_mem_cons.2 ⟨?_,List.forall_mem_cons.2 ⟨?_,fun _ h=>absurd h (by simp)⟩⟩
   ·
    refine dZ rfl ?_
    refine fH (wk0 rfl) rfl rfl hE hp rfl (El:=3) (bytes:=8) (by kernel_rfl) (0:Int) (by kernel_rfl) (by kernel_rfl) rfl rfl ex2 ?_
    intro v29 a w hE hp
    have hp:=r5 hp
    refine aC (aI ⟨gp0 hp,trivial⟩ fun hS=>?_)
    exact go _ _ _ _ _ (by kernel_rfl) (hd_0_1_2_4_5_6_7_8_9_10 du18 v29 dv16 dv17 dv18 a w (hE.cut ⟨rfl,rfl,rfl,rfl,rfl,rfl,rfl,rfl,rfl,rfl,rfl,rfl,rfl,trivial⟩) (((((hp.get 4 rfl).get 4 rfl).get 4 rfl).get 3 rfl).get 4 rfl) (io _ _ _ (by kernel_rfl) hS))
   refine dZ rfl ?_
   refine fH (wk0 rfl) rfl rfl hE hp rfl (El:=3) (bytes:=8) (by kernel_rfl) (0:Int) (by kernel_rfl) (by kernel_rfl) rfl rfl ex3 ?_
   intro v30 a w hE hp
   have hp:=r5 hp
   refine aC (aI ⟨gp0 hp,trivial⟩ fun hS=>?_)
   exact go _ _ _ _ _ (by kernel_rfl) (hd_0_2_3_4_5_6_7_8_9_10 du18 v30 dv16 dv17 dv18 a w (hE.cut ⟨rfl,rfl,rfl,rfl,rfl,rfl,rfl,rfl,rfl,rfl,rfl,rfl,rfl,trivial⟩) (((((hp.get 4 rfl).get 4 rfl).get 4 rfl).get 3 rfl).get 4 rfl) (io _ _ _ (by kernel_rfl) hS))
  have hd_0_1_2_3_4_6_8_9:∀(dv14:Value) (dv15:Value) (a:Act) (w:World),Env 79 [(1,vp1),(2,(Pv b1 0)),(5,(Iv x1)),(15,(Iv x1)),(16,dv14),(17,(Iv x1)),(18,dv15),(19,(Iv x1)),(21,(Iv x1)),(23,(Iv x1)),(24,(Iv x6))] a→Hp Z ρ (Pt b1 (.cells #[(Iv p0.vars),aH] 24 (0,0))::aA 3 dv14 x2::aA 3 dv15 x3::L) w→I #[true,true,true,true,true,false,true,false,true,true,false,false,false,false] w→G 6 #[true,true,true,true,true,false,true,false,true,true,false,false,false,false] a w:=by
   intro dv14 dv15 a w hE hp hI
   have hS:=ii _ _ hI
   refine gi _ _ _ _ ?_
   refine jH [5,7,10] (by kernel_rfl) rfl ?_
   refine List.forall_mem_cons.2 ⟨?_,List.forall_mem_cons.2 ⟨?_,List.forall_mem_cons.2 ⟨?_,fun _ h=>absurd h (by simp)⟩⟩⟩
   ·
    refine dZ rfl ?_
    refine qK ((([],[]):List Sl×List Pc)).2 (wk0 rfl) rfl rfl hE hp rfl (El:=71) (bytes:=8) (by kernel_rfl) (by kernel_rfl) rfl rfl rfl ex4 ?_
    intro v31 a w hE hp
    have hp:=r4 hp
    refine aC (aI ⟨gp0 hp,trivial⟩ fun hS=>?_)
    exact go _ _ _ _ _ (by kernel_rfl) (hd_0_1_2_3_4_5_6_8_9 dv14 dv15 v31 a w (hE.cut ⟨rfl,rfl,rfl,rfl,rfl,rfl,rfl,rfl,rfl,rfl,rfl,rfl,trivial⟩) ((((hp.get 0 rfl).get 3 rfl).get 3 rfl).get 3 rfl) (io _ _ _ (by kernel_rfl) hS))
   ·
    refine dZ rfl ?_
    refine fH (wk0 rfl) rfl rfl hE hp rfl (El:=3) (bytes:=8) (by kernel_rfl) (0:Int) (by kernel_rfl) (by kernel_rfl) rfl rfl ex5 ?_
    intro v32 a w hE hp
    have hp:=r4 hp
    refine aC (aI ⟨gp0 hp,trivial⟩ fun hS=>?_)
    exact go _ _ _ _ _ (by kernel_rfl) (hd_0_1_2_3_4_6_7_8_9 dv14 dv15 v32 a w (hE.cut ⟨rfl,rfl,rfl,rfl,rfl,rfl,rfl,rfl,rfl,rfl,rfl,rfl,trivial⟩) ((((hp.get 0 rfl).get 3 rfl).get 3 rfl).get 3 rfl) (io _ _ _ (by kernel_rfl) hS))
   refine dZ rfl ?_
   refine oJ (wk0 rfl) rfl rfl hE hp rfl (T:=61) (bytes:=24) (by kernel_rfl) (by kernel_rfl) rfl rfl rfl ex7 71 (78,3) ?_
   intro v33 ut7 a w hE hp
   have hp:=r4 hp
   refine aC (aI ⟨gp0 hp,trivial⟩ fun hS=>?_)
   exact go _ _ _ _ _ (by kernel_rfl) (hd_0_1_2_3_4_6_8_9_10 ut7 dv14 dv15 v33 a w (hE.cut ⟨rfl,rfl,rfl,rfl,rfl,rfl,rfl,rfl,rfl,rfl,rfl,rfl,trivial⟩) ((((hp.get 0 rfl).get 3 rfl).get 3 rfl).get 3 rfl) (io _ _ _ (by kernel_rfl) hS))
  have hd_0_1_2_4_5_6_8_9:∀(dv14:Value) (dv16:Value) (a:Act) (w:World),Env 79 [(1,vp1),(2,(Pv b1 0)),(5,(Iv x1)),(15,(Iv x1)),(16,dv14),(17,(Iv x1)),(19,(Iv x1)),(20,dv16),(21,(Iv x1)),(23,(Iv x1)),(24,(Iv x6))] a→Hp Z ρ (Pt b1 (.cells #[(Iv p0.vars),aH] 24 (0,0))::aA 3 dv14 x2::aA 71 dv16 (List.map (hq ((([],[]):List Sl×List Pc)).2) (x4:List (Option Nat)))::L) w→I #[true,true,true,false,true,true,true,false,true,true,false,false,false,false] w→G 6 #[true,true,true,false,true,true,true,false,true,true,false,false,false,false] a w:=by
   intro dv14 dv16 a w hE hp hI
   have hS:=ii _ _ hI
   refine gi _ _ _ _ ?_
   refine jH [3,7,10] (by kernel_rfl) rfl ?_
   refine List.forall_mem_cons.2 ⟨?_,List.forall_mem_cons.2 ⟨?_,List.forall_mem_cons.2 ⟨?_,fun _ h=>absurd h (by simp)⟩⟩⟩
   ·
    refine dZ rfl ?_
    refine fH (wk0 rfl) rfl rfl hE hp rfl (El:=3) (bytes:=8) (by kernel_rfl) (0:Int) (by kernel_rfl) (by kernel_rfl) rfl rfl ex3 ?_
    intro v34 a w hE hp
    have hp:=r4 hp
    refine aC (aI ⟨gp0 hp,trivial⟩ fun hS=>?_)
    exact go _ _ _ _ _ (by kernel_rfl) (hd_0_1_2_3_4_5_6_8_9 dv14 v34 dv16 a w (hE.cut ⟨rfl,rfl,rfl,rfl,rfl,rfl,rfl,rfl,rfl,rfl,rfl,rfl,trivial⟩) ((((hp.get 3 rfl).get 1 rfl).get 3 rfl).get 3 rfl) (io _ _ _ (by kernel_rfl) hS))
   ·
    refine dZ rfl ?_
    refine fH (wk0 rfl) rfl rfl hE hp rfl (El:=3) (bytes:=8) (by kernel_rfl) (0:Int) (by kernel_rfl) (by kernel_rfl) rfl rfl ex5 ?_
    intro v35 a w hE hp
    have hp:=r4 hp
    refine aC (aI ⟨gp0 hp,trivial⟩ fun hS=>?_)
    exact go _ _ _ _ _ (by kernel_rfl) (hd_0_1_2_4_5_6_7_8_9 dv14 dv16 v35 a w (hE.cut ⟨rfl,rfl,rfl,rfl,rfl,rfl,rfl,rfl,rfl,rfl,rfl,rfl,trivial⟩) ((((hp.get 0 rfl).get 3 rfl).get 3 rfl).get 3 rfl) (io _ _ _ (by kernel_rfl) hS))
   refine dZ rfl ?_
   refine oJ (wk0 rfl) rfl rfl hE hp rfl (T:=61) (bytes:=24) (by kernel_rfl) (by kernel_rfl) rfl rfl rfl ex7 71 (78,3) ?_
   intro v36 ut8 a w hE hp
   rw[wW ex4 _ ut8.2] at hp
   have hp:=r4 hp
   refine aC (aI ⟨gp0 hp,trivial⟩ fun hS=>?_)
   exact go _ _ _ _ _ (by kernel_rfl) (hd_0_1_2_4_5_6_8_9_10 ut8 dv14 dv16 v36 a w (hE.cut ⟨rfl,rfl,rfl,rfl,rfl,rfl,rfl,rfl,rfl,rfl,rfl,rfl,trivial⟩) ((((hp.get 0 rfl).get 3 rfl).get 3 rfl).get 3 rfl) (io _ _ _ (by kernel_rfl) hS))
  have hd_0_1_2_4_6_7_8_9:∀(dv14:Value) (dv17:Value) (a:Act) (w:World),Env 79 [(1,vp1),(2,(Pv b1 0)),(5,(Iv x1)),(15,(Iv x1)),(16,dv14),(17,(Iv x1)),(19,(Iv x1)),(21,(Iv x1)),(22,dv17),(23,(Iv x1)),(24,(Iv x6))] a→Hp Z ρ (Pt b1 (.cells #[(Iv p0.vars),aH] 24 (0,0))::aA 3 dv14 x2::aA 3 dv17 x5::L) w→I #[true,true,true,false,true,false,true,true,true,true,false,false,false,false] w→G 6 #[true,true,true,false,true,false,true,true,true,true,false,false,false,false] a w:=by
   intro dv14 dv17 a w hE hp hI
   have hS:=ii _ _ hI
   refine gi _ _ _ _ ?_
   refine jH [3,5,10] (by kernel_rfl) rfl ?_
   refine List.forall_mem_cons.2 ⟨?_,List.forall_mem_cons.2 ⟨?_,List.forall_mem_cons.2 ⟨?_,fun _ h=>absurd h (by simp)⟩⟩⟩
   ·
    refine dZ rfl ?_
    refine fH (wk0 rfl) rfl rfl hE hp rfl (El:=3) (bytes:=8) (by kernel_rfl) (0:Int) (by kernel_rfl) (by kernel_rfl) rfl rfl ex3 ?_
    intro v37 a w hE hp
    have hp:=r4 hp
    refine aC (aI ⟨gp0 hp,trivial⟩ fun hS=>?_)
    exact go _ _ _ _ _ (by kernel_rfl) (hd_0_1_2_3_4_6_7_8_9 dv14 v37 dv17 a w (hE.cut ⟨rfl,rfl,rfl,rfl,rfl,rfl,rfl,rfl,rfl,rfl,rfl,rfl,trivial⟩) ((((hp.get 3 rfl).get 1 rfl).get 3 rfl).get 3 rfl) (io _ _ _ (by kernel_rfl) hS))
   ·
    refine dZ rfl ?_
    refine qK ((([],[]):List Sl×List Pc)).2 (wk0 rfl) rfl rfl hE hp rfl (El:=71) (bytes:=8) (by kernel_rfl) (by kernel_rfl) rfl rfl rfl ex4 ?_
    intro v38 a w hE hp
    have hp:=r4 hp
    refine aC (aI ⟨gp0 hp,trivial⟩ fun hS=>?_)
    exact go _ _ _ _ _ (by kernel_rfl) (hd_0_1_2_4_5_6_7_8_9 dv14 v38 dv17 a w (hE.cut ⟨rfl,rfl,rfl,rfl,rfl,rfl,rfl,rfl,rfl,rfl,rfl,rfl,trivial⟩) ((((hp.get 3 rfl).get 1 rfl).get 3 rfl).get 3 rfl) (io _ _ _ (by kernel_rfl) hS))
   refine dZ rfl ?_
   refine oJ (wk0 rfl) rfl rfl hE hp rfl (T:=61) (bytes:=24) (by kernel_rfl) (by kernel_rfl) rfl rfl rfl ex7 71 (78,3) ?_
   intro v39 ut9 a w hE hp
   have hp:=r4 hp
   refine aC (aI ⟨gp0 hp,trivial⟩ fun hS=>?_)
   exact go _ _ _ _ _ (by kernel_rfl) (hd_0_1_2_4_6_7_8_9_10 ut9 dv14 dv17 v39 a w (hE.cut ⟨rfl,rfl,rfl,rfl,rfl,rfl,rfl,rfl,rfl,rfl,rfl,rfl,trivial⟩) ((((hp.get 0 rfl).get 3 rfl).get 3 rfl).get 3 rfl) (io _ _ _ (by kernel_rfl) hS))
  have hd_0_1_2_4_6_8_9_10:∀(du18:List Sl×List Pc) (dv14:Value) (dv18:Value) (a:Act) (w:World),Env 79 [(1,vp1),(2,(Pv b1 0)),(5,(Iv x1)),(15,(Iv x1)),(16,dv14),(17,(Iv x1)),(19,(Iv x1)),(21,(Iv x1)),(23,(Iv x1)),(24,(Iv x6)),(25,dv18)] a→Hp Z ρ (Pt b1 (.cells #[(Iv p0.vars),aH] 24 (0,0))::aA 3 dv14 x2::cO 61 71 (78,3) dv18 du18 ((x7,[]):WD) none none::L) w→I #[true,true,true,false,true,false,true,false,true,true,true,false,false,false] w→G 6 #[true,true,true,false,true,false,true,false,true,true,true,false,false,false] a w:=by
   intro du18 dv14 dv18 a w hE hp hI
   have hS:=ii _ _ hI
   refine gi _ _ _ _ ?_
   refine jH [3,5,7] (by kernel_rfl) rfl ?_
   refine List.forall_mem_cons.2 ⟨?_,List.forall_mem_cons.2 ⟨?_,List.forall_mem_cons.2 ⟨?_,fun _ h=>absurd h (by simp)⟩⟩⟩
   ·
    refine dZ rfl ?_
    refine fH (wk0 rfl) rfl rfl hE hp rfl (El:=3) (bytes:=8) (by kernel_rfl) (0:Int) (by kernel_rfl) (by kernel_rfl) rfl rfl ex3 ?_
    intro v40 a w hE hp
    have hp:=r4 hp
    refine aC (aI ⟨gp0 hp,trivial⟩ fun hS=>?_)
    exact go _ _ _ _ _ (by kernel_rfl) (hd_0_1_2_3_4_6_8_9_10 du18 dv14 v40 dv18 a w (hE.cut ⟨rfl,rfl,rfl,rfl,rfl,rfl,rfl,rfl,rfl,rfl,rfl,rfl,trivial⟩) ((((hp.get 3 rfl).get 1 rfl).get 3 rfl).get 3 rfl) (io _ _ _ (by kernel_rfl) hS))
   ·
    refine dZ rfl ?_
    refine qK (du18).2 (wk0 rfl) rfl rfl hE hp rfl (El:=71) (bytes:=8) (by kernel_rfl) (by kernel_rfl) rfl rfl rfl ex4 ?_
    intro v41 a w hE hp
    have hp:=r4 hp
    refine aC (aI ⟨gp0 hp,trivial⟩ fun hS=>?_)
    exact go _ _ _ _ _ (by kernel_rfl) (hd_0_1_2_4_5_6_8_9_10 du18 dv14 v41 dv18 a w (hE.cut ⟨rfl,rfl,rfl,rfl,rfl,rfl,rfl,rfl,rfl,rfl,rfl,rfl,trivial⟩) ((((hp.get 3 rfl).get 1 rfl).get 3 rfl).get 3 rfl) (io _ _ _ (by kernel_rfl) hS))
   refine dZ rfl ?_
   refine fH (wk0 rfl) rfl rfl hE hp rfl (El:=3) (bytes:=8) (by kernel_rfl) (0:Int) (by kernel_rfl) (by kernel_rfl) rfl rfl ex5 ?_
   intro v42 a w hE hp
   have hp:=r4 hp
   refine aC (aI ⟨gp0 hp,trivial⟩ fun hS=>?_)
   exact go _ _ _ _ _ (by kernel_rfl) (hd_0_1_2_4_6_7_8_9_10 du18 dv14 v42 dv18 a w (hE.cut ⟨rfl,rfl,rfl,rfl,rfl,rfl,rfl,rfl,rfl,rfl,rfl,rfl,trivial⟩) ((((hp.get 3 rfl).get 1 rfl).get 3 rfl).get 3 rfl) (io _ _ _ (by kernel_rfl) hS))
  have hd_0_2_3_4_5_6_8_9:∀(dv15:Value) (dv16:Value) (a:Act) (w:World),Env 79 [(1,vp1),(2,(Pv b1 0)),(5,(Iv x1)),(15,(Iv x1)),(17,(Iv x1)),(18,dv15),(19,(Iv x1)),(20,dv16),(21,(Iv x1)),(23,(Iv x1)),(24,(Iv x6))] a→Hp Z ρ (Pt b1 (.cells #[(Iv p0.vars),aH] 24 (0,0))::aA 3 dv15 x3::aA 71 dv16 (List.map (hq ((([],[]):List Sl×List Pc)).2) (x4:List (Option Nat)))::L) w→I #[true,false,true,true,true,true,true,false,true,true,false,false,false,false] w→G 6 #[true,false,true,true,true,true,true,false,true,true,false,false,false,false] a w:=by
   intro dv15 dv16 a w hE hp hI
   have hS:=ii _ _ hI
   refine gi _ _ _ _ ?_
   refine jH [1,7,10] (by kernel_rfl) rfl ?_
   refine List.forall_mem_cons.2 ⟨?_,List.forall_mem_cons.2 ⟨?_,List.forall_mem_cons.2 ⟨?_,fun _ h=>absurd h (by simp)⟩⟩⟩
   ·
    refine dZ rfl ?_
    refine fH (wk0 rfl) rfl rfl hE hp rfl (El:=3) (bytes:=8) (by kernel_rfl) (0:Int) (by kernel_rfl) (by kernel_rfl) rfl rfl ex2 ?_
    intro v43 a w hE hp
    have hp:=r4 hp
    refine aC (aI ⟨gp0 hp,trivial⟩ fun hS=>?_)
    exact go _ _ _ _ _ (by kernel_rfl) (hd_0_1_2_3_4_5_6_8_9 v43 dv15 dv16 a w (hE.cut ⟨rfl,rfl,rfl,rfl,rfl,rfl,rfl,rfl,rfl,rfl,rfl,rfl,trivial⟩) ((((hp.get 3 rfl).get 3 rfl).get 2 rfl).get 3 rfl) (io _ _ _ (by kernel_rfl) hS))
   ·
    refine dZ rfl ?_
    refine fH (wk0 rfl) rfl rfl hE hp rfl (El:=3) (bytes:=8) (by kernel_rfl) (0:Int) (by kernel_rfl) (by kernel_rfl) rfl rfl ex5 ?_
    intro v44 a w hE hp
    have hp:=r4 hp
    refine aC (aI ⟨gp0 hp,trivial⟩ fun hS=>?_)
    exact go _ _ _ _ _ (by kernel_rfl) (hd_0_2_3_4_5_6_7_8_9 dv15 dv16 v44 a w (hE.cut ⟨rfl,rfl,rfl,rfl,rfl,rfl,rfl,rfl,rfl,rfl,rfl,rfl,trivial⟩) ((((hp.get 0 rfl).get 3 rfl).get 3 rfl).get 3 rfl) (io _ _ _ (by kernel_rfl) hS))
   refine dZ rfl ?_
   refine oJ (wk0 rfl) rfl rfl hE hp rfl (T:=61) (bytes:=24) (by kernel_rfl) (by kernel_rfl) rfl rfl rfl ex7 71 (78,3) ?_
   intro v45 ut10 a w hE hp
   rw[wW ex4 _ ut10.2] at hp
   have hp:=r4 hp
   refine aC (aI ⟨gp0 hp,trivial⟩ fun hS=>?_)
   exact go _ _ _ _ _ (by kernel_rfl) (hd_0_2_3_4_5_6_8_9_10 ut10 dv15 dv16 v45 a w (hE.cut ⟨rfl,rfl,rfl,rfl,rfl,rfl,rfl,rfl,rfl,rfl,rfl,rfl,trivial⟩) ((((hp.get 0 rfl).get 3 rfl).get 3 rfl).get 3 rfl) (io _ _ _ (by kernel_rfl) hS))
  have hd_0_2_3_4_6_7_8_9:∀(dv15:Value) (dv17:Value) (a:Act) (w:World),Env 79 [(1,vp1),(2,(Pv b1 0)),(5,(Iv x1)),(15,(Iv x1)),(17,(Iv x1)),(18,dv15),(19,(Iv x1)),(21,(Iv x1)),(22,dv17),(23,(Iv x1)),(24,(Iv x6))] a→Hp Z ρ (Pt b1 (.cells #[(Iv p0.vars),aH] 24 (0,0))::aA 3 dv15 x3::aA 3 dv17 x5::L) w→I #[true,false,true,true,true,false,true,true,true,true,false,false,false,false] w→G 6 #[true,false,true,true,true,false,true,true,true,true,false,false,false,false] a w:=by
   intro dv15 dv17 a w hE hp hI
   have hS:=ii _ _ hI
   refine gi _ _ _ _ ?_
   refine jH [1,5,10] (by kernel_rfl) rfl ?_
   refine List.forall_mem_cons.2 ⟨?_,List.forall_mem_cons.2 ⟨?_,List.forall_mem_cons.2 ⟨?_,fun _ h=>absurd h (by simp)⟩⟩⟩
   ·
    refine dZ rfl ?_
    refine fH (wk0 rfl) rfl rfl hE hp rfl (El:=3) (bytes:=8) (by kernel_rfl) (0:Int) (by kernel_rfl) (by kernel_rfl) rfl rfl ex2 ?_
    intro v46 a w hE hp
    have hp:=r4 hp
    refine aC (aI ⟨gp0 hp,trivial⟩ fun hS=>?_)
    exact go _ _ _ _ _ (by kernel_rfl) (hd_0_1_2_3_4_6_7_8_9 v46 dv15 dv17 a w (hE.cut ⟨rfl,rfl,rfl,rfl,rfl,rfl,rfl,rfl,rfl,rfl,rfl,rfl,trivial⟩) ((((hp.get 3 rfl).get 3 rfl).get 2 rfl).get 3 rfl) (io _ _ _ (by kernel_rfl) hS))
   ·
    refine dZ rfl ?_
    refine qK ((([],[]):List Sl×List Pc)).2 (wk0 rfl) rfl rfl hE hp rfl (El:=71) (bytes:=8) (by kernel_rfl) (by kernel_rfl) rfl rfl rfl ex4 ?_
    intro v47 a w hE hp
    have hp:=r4 hp
    refine aC (aI ⟨gp0 hp,trivial⟩ fun hS=>?_)
    exact go _ _ _ _ _ (by kernel_rfl) (hd_0_2_3_4_5_6_7_8_9 dv15 v47 dv17 a w (hE.cut ⟨rfl,rfl,rfl,rfl,rfl,rfl,rfl,rfl,rfl,rfl,rfl,rfl,trivial⟩) ((((hp.get 3 rfl).get 1 rfl).get 3 rfl).get 3 rfl) (io _ _ _ (by kernel_rfl) hS))
   refine dZ rfl ?_
   refine oJ (wk0 rfl) rfl rfl hE hp rfl (T:=61) (bytes:=24) (by kernel_rfl) (by kernel_rfl) rfl rfl rfl ex7 71 (78,3) ?_
   intro v48 ut11 a w hE hp
   have hp:=r4 hp
   refine aC (aI ⟨gp0 hp,trivial⟩ fun hS=>?_)
   exact go _ _ _ _ _ (by kernel_rfl) (hd_0_2_3_4_6_7_8_9_10 ut11 dv15 dv17 v48 a w (hE.cut ⟨rfl,rfl,rfl,rfl,rfl,rfl,rfl,rfl,rfl,rfl,rfl,rfl,trivial⟩) ((((hp.get 0 rfl).get 3 rfl).get 3 rfl).get 3 rfl) (io _ _ _ (by kernel_rfl) hS))
  have hd_0_2_3_4_6_8_9_10:∀(du18:List Sl×List Pc) (dv15:Value) (dv18:Value) (a:Act) (w:World),Env 79 [(1,vp1),(2,(Pv b1 0)),(5,(Iv x1)),(15,(Iv x1)),(17,(Iv x1)),(18,dv15),(19,(Iv x1)),(21,(Iv x1)),(23,(Iv x1)),(24,(Iv x6)),(25,dv18)] a→Hp Z ρ (Pt b1 (.cells #[(Iv p0.vars),aH] 24 (0,0))::aA 3 dv15 x3::cO 61 71 (78,3) dv18 du18 ((x7,[]):WD) none none::L) w→I #[true,false,true,true,true,false,true,false,true,true,true,false,false,false] w→G 6 #[true,false,true,true,true,false,true,false,true,true,true,false,false,false] a w:=by
   intro du18 dv15 dv18 a w hE hp hI
   have hS:=ii _ _ hI
   refine gi _ _ _ _ ?_
   refine jH [1,5,7] (by kernel_rfl) rfl ?_
   refine List.forall_mem_cons.2 ⟨?_,List.forall_mem_cons.2 ⟨?_,List.forall_mem_cons.2 ⟨?_,fun _ h=>absurd h (by simp)⟩⟩⟩
   ·
    refine dZ rfl ?_
    refine fH (wk0 rfl) rfl rfl hE hp rfl (El:=3) (bytes:=8) (by kernel_rfl) (0:Int) (by kernel_rfl) (by kernel_rfl) rfl rfl ex2 ?_
    intro v49 a w hE hp
    have hp:=r4 hp
    refine aC (aI ⟨gp0 hp,trivial⟩ fun hS=>?_)
    exact go _ _ _ _ _ (by kernel_rfl) (hd_0_1_2_3_4_6_8_9_10 du18 v49 dv15 dv18 a w (hE.cut ⟨rfl,rfl,rfl,rfl,rfl,rfl,rfl,rfl,rfl,rfl,rfl,rfl,trivial⟩) ((((hp.get 3 rfl).get 3 rfl).get 2 rfl).get 3 rfl) (io _ _ _ (by kernel_rfl) hS))
   ·
    refine dZ rfl ?_
    refine qK (du18).2 (wk0 rfl) rfl rfl hE hp rfl (El:=71) (bytes:=8) (by kernel_rfl) (by kernel_rfl) rfl rfl rfl ex4 ?_
    intro v50 a w hE hp
    have hp:=r4 hp
    refine aC (aI ⟨gp0 hp,trivial⟩ fun hS=>?_)
    exact go _ _ _ _ _ (by kernel_rfl) (hd_0_2_3_4_5_6_8_9_10 du18 dv15 v50 dv18 a w (hE.cut ⟨rfl,rfl,rfl,rfl,rfl,rfl,rfl,rfl,rfl,rfl,rfl,rfl,trivial⟩) ((((hp.get 3 rfl).get 1 rfl).get 3 rfl).get 3 rfl) (io _ _ _ (by kernel_rfl) hS))
   refine dZ rfl ?_
   refine fH (wk0 rfl) rfl rfl hE hp rfl (El:=3) (bytes:=8) (by kernel_rfl) (0:Int) (by kernel_rfl) (by kernel_rfl) rfl rfl ex5 ?_
   intro v51 a w hE hp
   have hp:=r4 hp
   refine aC (aI ⟨gp0 hp,trivial⟩ fun hS=>?_)
   exact go _ _ _ _ _ (by kernel_rfl) (hd_0_2_3_4_6_7_8_9_10 du18 dv15 v51 dv18 a w (hE.cut ⟨rfl,rfl,rfl,rfl,rfl,rfl,rfl,rfl,rfl,rfl,rfl,rfl,trivial⟩) ((((hp.get 3 rfl).get 1 rfl).get 3 rfl).get 3 rfl) (io _ _ _ (by kernel_rfl) hS))
  have hd_0_2_4_5_6_7_8_9:∀(dv16:Value) (dv17:Value) (a:Act) (w:World),Env 79 [(1,vp1),(2,(Pv b1 0)),(5,(Iv x1)),(15,(Iv x1)),(17,(Iv x1)),(19,(Iv x1)),(20,dv16),(21,(Iv x1)),(22,dv17),(23,(Iv x1)),(24,(Iv x6))] a→Hp Z ρ (Pt b1 (.cells #[(Iv p0.vars),aH] 24 (0,0))::aA 71 dv16 (List.map (hq ((([],[]):List Sl×List Pc)).2) (x4:List (Option Nat)))::aA 3 dv17 x5::L) w→I #[true,false,true,false,true,true,true,true,true,true,false,false,false,false] w→G 6 #[true,false,true,false,true,true,true,true,true,true,false,false,false,false] a w:=by
   intro dv16 dv17 a w hE hp hI
   have hS:=ii _ _ hI
   refine gi _ _ _ _ ?_
   refine jH [1,3,10] (by kernel_rfl) rfl ?_
   refine List.forall_mem_cons.2 ⟨?_,List.forall_mem_cons.2 ⟨?_,List.forall_mem_cons.2 ⟨?_,fun _ h=>absurd h (by simp)⟩⟩⟩
   ·
    refine dZ rfl ?_
    refine fH (wk0 rfl) rfl rfl hE hp rfl (El:=3) (bytes:=8) (by kernel_rfl) (0:Int) (by kernel_rfl) (by kernel_rfl) rfl rfl ex2 ?_
    intro v52 a w hE hp
    have hp:=r4 hp
    refine aC (aI ⟨gp0 hp,trivial⟩ fun hS=>?_)
    exact go _ _ _ _ _ (by kernel_rfl) (hd_0_1_2_4_5_6_7_8_9 v52 dv16 dv17 a w (hE.cut ⟨rfl,rfl,rfl,rfl,rfl,rfl,rfl,rfl,rfl,rfl,rfl,rfl,trivial⟩) ((((hp.get 3 rfl).get 3 rfl).get 2 rfl).get 3 rfl) (io _ _ _ (by kernel_rfl) hS))
   ·
    refine dZ rfl ?_
    refine fH (wk0 rfl) rfl rfl hE hp rfl (El:=3) (bytes:=8) (by kernel_rfl) (0:Int) (by kernel_rfl) (by kernel_rfl) rfl rfl ex3 ?_
    intro v53 a w hE hp
    have hp:=r4 hp
    refine aC (aI ⟨gp0 hp,trivial⟩ fun hS=>?_)
    exact go _ _ _ _ _ (by kernel_rfl) (hd_0_2_3_4_5_6_7_8_9 v53 dv16 dv17 a w (hE.cut ⟨rfl,rfl,rfl,rfl,rfl,rfl,rfl,rfl,rfl,rfl,rfl,rfl,trivial⟩) ((((hp.get 3 rfl).get 3 rfl).get 2 rfl).get 3 rfl) (io _ _ _ (by kernel_rfl) hS))
   refine dZ rfl ?_
   refine oJ (wk0 rfl) rfl rfl hE hp rfl (T:=61) (bytes:=24) (by kernel_rfl) (by kernel_rfl) rfl rfl rfl ex7 71 (78,3) ?_
   intro v54 ut12 a w hE hp
   rw[wW ex4 _ ut12.2] at hp
   have hp:=r4 hp
   refine aC (aI ⟨gp0 hp,trivial⟩ fun hS=>?_)
   exact go _ _ _ _ _ (by kernel_rfl) (hd_0_2_4_5_6_7_8_9_10 ut12 dv16 dv17 v54 a w (hE.cut ⟨rfl,rfl,rfl,rfl,rfl,rfl,rfl,rfl,rfl,rfl,rfl,rfl,trivial⟩) ((((hp.get 0 rfl).get 3 rfl).get 3 rfl).get 3 rfl) (io _ _ _ (by kernel_rfl) hS))
  have hd_0_2_4_5_6_8_9_10:∀(du18:List Sl×List Pc) (dv16:Value) (dv18:Value) (a:Act) (w:World),Env 79 [(1,vp1),(2,(Pv b1 0)),(5,(Iv x1)),(15,(Iv x1)),(17,(Iv x1)),(19,(Iv x1)),(20,dv16),(21,(Iv x1)),(23,(Iv x1)),(24,(Iv x6)),(25,dv18)] a→Hp Z ρ (Pt b1 (.cells #[(Iv p0.vars),aH] 24 (0,0))::aA 71 dv16 (List.map (hq (du18).2) (x4:List (Option Nat)))::cO 61 71 (78,3) dv18 du18 ((x7,[]):WD) none none::L) w→I #[true,false,true,false,true,true,true,false,true,true,true,false,false,false] w→G 6 #[true,false,true,false,true,true,true,false,true,true,true,false,false,false] a w:=by
   intro du18 dv16 dv18 a w hE hp hI
   have hS:=ii _ _ hI
   refine gi _ _ _ _ ?_
   refine jH [1,3,7] (by kernel_rfl) rfl ?_
   refine List.forall_mem_cons.2 ⟨?_,List.forall_mem_cons.2 ⟨?_,List.forall_mem_cons.2 ⟨?_,fun _ h=>absurd h (by simp)⟩⟩⟩
   ·
    refine dZ rfl ?_
    refine fH (wk0 rfl) rfl rfl hE hp rfl (El:=3) (bytes:=8) (by kernel_rfl) (0:Int) (by kernel_rfl) (by kernel_rfl) rfl rfl ex2 ?_
    intro v55 a w hE hp
    have hp:=r4 hp
    refine aC (aI ⟨gp0 hp,trivial⟩ fun hS=>?_)
    exact go _ _ _ _ _ (by kernel_rfl) (hd_0_1_2_4_5_6_8_9_10 du18 v55 dv16 dv18 a w (hE.cut ⟨rfl,rfl,rfl,rfl,rfl,rfl,rfl,rfl,rfl,rfl,rfl,rfl,trivial⟩) ((((hp.get 3 rfl).get 3 rfl).get 2 rfl).get 3 rfl) (io _ _ _ (by kernel_rfl) hS))
   ·
    refine dZ rfl ?_
    refine fH (wk0 rfl) rfl rfl hE hp rfl (El:=3) (bytes:=8) (by kernel_rfl) (0:Int) (by kernel_rfl) (by kernel_rfl) rfl rfl ex3 ?_
    intro v56 a w hE hp
    have hp:=r4 hp
    refine aC (aI ⟨gp0 hp,trivial⟩ fun hS=>?_)
    exact go _ _ _ _ _ (by kernel_rfl) (hd_0_2_3_4_5_6_8_9_10 du18 v56 dv16 dv18 a w (hE.cut ⟨rfl,rfl,rfl,rfl,rfl,rfl,rfl,rfl,rfl,rfl,rfl,rfl,trivial⟩) ((((hp.get 3 rfl).get 3 rfl).get 2 rfl).get 3 rfl) (io _ _ _ (by kernel_rfl) hS))
   refine dZ rfl ?_
   refine fH (wk0 rfl) rfl rfl hE hp rfl (El:=3) (bytes:=8) (by kernel_rfl) (0:Int) (by kernel_rfl) (by kernel_rfl) rfl rfl ex5 ?_
   intro v57 a w hE hp
   have hp:=r4 hp
   refine aC (aI ⟨gp0 hp,trivial⟩ fun hS=>?_)
   exact go _ _ _ _ _ (by kernel_rfl) (hd_0_2_4_5_6_7_8_9_10 du18 dv16 v57 dv18 a w (hE.cut ⟨rfl,rfl,rfl,rfl,rfl,rfl,rfl,rfl,rfl,rfl,rfl,rfl,trivial⟩) ((((hp.get 3 rfl).get 1 rfl).get 3 rfl).get 3 rfl) (io _ _ _ (by kernel_rfl) hS))
  have hd_0_2_4_6_7_8_9_10:∀(du18:List Sl×List Pc) (dv17:Value) (dv18:Value) (a:Act) (w:World),Env 79 [(1,vp1),(2,(Pv b1 0)),(5,(Iv x1)),(15,(Iv x1)),(17,(Iv x1)),(19,(Iv x1)),(21,(Iv x1)),(22,dv17),(23,(Iv x1)),(24,(Iv x6)),(25,dv18)] a→Hp Z ρ (Pt b1 (.cells #[(Iv p0.vars),aH] 24 (0,0))::aA 3 dv17 x5::cO 61 71 (78,3) dv18 du18 ((x7,[]):WD) none none::L) w→I #[true,false,true,false,true,false,true,true,true,true,true,false,false,false] w→G 6 #[true,false,true,false,true,false,true,true,true,true,true,false,false,false] a w:=by
   intro du18 dv17 dv18 a w hE hp hI
   have hS:=ii _ _ hI
   refine gi _ _ _ _ ?_
   refine jH [1,3,5] (by kernel_rfl) rfl ?_
   refine List.forall_mem_cons.2 ⟨?_,List.forall_mem_cons.2 ⟨?_,List.forall_mem_cons.2 ⟨?_,fun _ h=>absurd h (by simp)⟩⟩⟩
   ·
    refine dZ rfl ?_
    refine fH (wk0 rfl) rfl rfl hE hp rfl (El:=3) (bytes:=8) (by kernel_rfl) (0:Int) (by kernel_rfl) (by kernel_rfl) rfl rfl ex2 ?_
    intro v58 a w hE hp
    have hp:=r4 hp
    refine aC (aI ⟨gp0 hp,trivial⟩ fun hS=>?_)
    exact go _ _ _ _ _ (by kernel_rfl) (hd_0_1_2_4_6_7_8_9_10 du18 v58 dv17 dv18 a w (hE.cut ⟨rfl,rfl,rfl,rfl,rfl,rfl,rfl,rfl,rfl,rfl,rfl,rfl,trivial⟩) ((((hp.get 3 rfl).get 3 rfl).get 2 rfl).get 3 rfl) (io _ _ _ (by kernel_rfl) hS))
   ·
    refine dZ rfl ?_
    refine fH (wk0 rfl) rfl rfl hE hp rfl (El:=3) (bytes:=8) (by kernel_rfl) (0:Int) (by kernel_rfl) (by kernel_rfl) rfl rfl ex3 ?_
    intro v59 a w hE hp
    have hp:=r4 hp
    refine aC (aI ⟨gp0 hp,trivial⟩ fun hS=>?_)
    exact go _ _ _ _ _ (by kernel_rfl) (hd_0_2_3_4_6_7_8_9_10 du18 v59 dv17 dv18 a w (hE.cut ⟨rfl,rfl,rfl,rfl,rfl,rfl,rfl,rfl,rfl,rfl,rfl,rfl,trivial⟩) ((((hp.get 3 rfl).get 3 rfl).get 2 rfl).get 3 rfl) (io _ _ _ (by kernel_rfl) hS))
   refine dZ rfl ?_
   refine qK (du18).2 (wk0 rfl) rfl rfl hE hp rfl (El:=71) (bytes:=8) (by kernel_rfl) (by kernel_rfl) rfl rfl rfl ex4 ?_
   intro v60 a w hE hp
   have hp:=r4 hp
   refine aC (aI ⟨gp0 hp,trivial⟩ fun hS=>?_)
   exact go _ _ _ _ _ (by kernel_rfl) (hd_0_2_4_5_6_7_8_9_10 du18 v60 dv17 dv18 a w (hE.cut ⟨rfl,rfl,rfl,rfl,rfl,rfl,rfl,rfl,rfl,rfl,rfl,rfl,trivial⟩) ((((hp.get 3 rfl).get 3 rfl).get 2 rfl).get 3 rfl) (io _ _ _ (by kernel_rfl) hS))
  have hd_0_1_2_4_6_8_9:∀(dv14:Value) (a:Act) (w:World),Env 79 [(1,vp1),(2,(Pv b1 0)),(5,(Iv x1)),(15,(Iv x1)),(16,dv14),(17,(Iv x1)),(19,(Iv x1)),(21,(Iv x1)),(23,(Iv x1)),(24,(Iv x6))] a→Hp Z ρ (Pt b1 (.cells #[(Iv p0.vars),aH] 24 (0,0))::aA 3 dv14 x2::L) w→I #[true,true,true,false,true,false,true,false,true,true,false,false,false,false] w→G 7 #[true,true,true,false,true,false,true,false,true,true,false,false,false,false] a w:=by
   intro dv14 a w hE hp hI
   have hS:=ii _ _ hI
   refine gi _ _ _ _ ?_
   refine jH [3,5,7,10] (by kernel_rfl) rfl ?_
   refine List.forall_mem_cons.2 ⟨?_,List.forall_mem_cons.2 ⟨?_,List.forall_mem_cons.2 ⟨?_,List.forall_mem_cons.2 ⟨?_,fun _ h=>absurd h (by simp)⟩⟩⟩⟩
   ·
    refine dZ rfl ?_
    refine fH (wk0 rfl) rfl rfl hE hp rfl (El:=3) (bytes:=8) (by kernel_rfl) (0:Int) (by kernel_rfl) (by kernel_rfl) rfl rfl ex3 ?_
    intro v61 a w hE hp
    have hp:=r3 hp
    refine aC (aI ⟨gp0 hp,trivial⟩ fun hS=>?_)
    exact go _ _ _ _ _ (by kernel_rfl) (hd_0_1_2_3_4_6_8_9 dv14 v61 a w (hE.cut ⟨rfl,rfl,rfl,rfl,rfl,rfl,rfl,rfl,rfl,rfl,rfl,trivial⟩) (((hp.get 0 rfl).get 2 rfl).get 2 rfl) (io _ _ _ (by kernel_rfl) hS))
   ·
    refine dZ rfl ?_
    refine qK ((([],[]):List Sl×List Pc)).2 (wk0 rfl) rfl rfl hE hp rfl (El:=71) (bytes:=8) (by kernel_rfl) (by kernel_rfl) rfl rfl rfl ex4 ?_
    intro v62 a w hE hp
    have hp:=r3 hp
    refine aC (aI ⟨gp0 hp,trivial⟩ fun hS=>?_)
    exact go _ _ _ _ _ (by kernel_rfl) (hd_0_1_2_4_5_6_8_9 dv14 v62 a w (hE.cut ⟨rfl,rfl,rfl,rfl,rfl,rfl,rfl,rfl,rfl,rfl,rfl,trivial⟩) (((hp.get 0 rfl).get 2 rfl).get 2 rfl) (io _ _ _ (by kernel_rfl) hS))
   ·
    refine dZ rfl ?_
    refine fH (wk0 rfl) rfl rfl hE hp rfl (El:=3) (bytes:=8) (by kernel_rfl) (0:Int) (by kernel_rfl) (by kernel_rfl) rfl rfl ex5 ?_
    intro v63 a w hE hp
    have hp:=r3 hp
    refine aC (aI ⟨gp0 hp,trivial⟩ fun hS=>?_)
    exact go _ _ _ _ _ (by kernel_rfl) (hd_0_1_2_4_6_7_8_9 dv14 v63 a w (hE.cut ⟨rfl,rfl,rfl,rfl,rfl,rfl,rfl,rfl,rfl,rfl,rfl,trivial⟩) (((hp.get 0 rfl).get 2 rfl).get 2 rfl) (io _ _ _ (by kernel_rfl) hS))
   refine dZ rfl ?_
   refine oJ (wk0 rfl) rfl rfl hE hp rfl (T:=61) (bytes:=24) (by kernel_rfl) (by kernel_rfl) rfl rfl rfl ex7 71 (78,3) ?_
   intro v64 ut13 a w hE hp
   have hp:=r3 hp
   refine aC (aI ⟨gp0 hp,trivial⟩ fun hS=>?_)
   exact go _ _ _ _ _ (by kernel_rfl) (hd_0_1_2_4_6_8_9_10 ut13 dv14 v64 a w (hE.cut ⟨rfl,rfl,rfl,rfl,rfl,rfl,rfl,rfl,rfl,rfl,rfl,trivial⟩) (((hp.get 0 rfl).get 2 rfl).get 2 rfl) (io _ _ _ (by kernel_rfl) hS))
  have hd_0_2_3_4_6_8_9:∀(dv15:Value) (a:Act) (w:World),Env 79 [(1,vp1),(2,(Pv b1 0)),(5,(Iv x1)),(15,(Iv x1)),(17,(Iv x1)),(18,dv15),(19,(Iv x1)),(21,(Iv x1)),(23,(Iv x1)),(24,(Iv x6))] a→Hp Z ρ (Pt b1 (.cells #[(Iv p0.vars),aH] 24 (0,0))::aA 3 dv15 x3::L) w→I #[true,false,true,true,true,false,true,false,true,true,false,false,false,false] w→G 7 #[true,false,true,true,true,false,true,false,true,true,false,false,false,false] a w:=by
   intro dv15 a w hE hp hI
   have hS:=ii _ _ hI
   refine gi _ _ _ _ ?_
   refine jH [1,5,7,10] (by kernel_rfl) rfl ?_
   refine List.forall_mem_cons.2 ⟨?_,List.forall_mem_cons.2 ⟨?_,List.forall_mem_cons.2 ⟨?_,List.forall_mem_cons.2 ⟨?_,fun _ h=>absurd h (by simp)⟩⟩⟩⟩
   ·
    refine dZ rfl ?_
    refine fH (wk0 rfl) rfl rfl hE hp rfl (El:=3) (bytes:=8) (by kernel_rfl) (0:Int) (by kernel_rfl) (by kernel_rfl) rfl rfl ex2 ?_
    intro v65 a w hE hp
    have hp:=r3 hp
    refine aC (aI ⟨gp0 hp,trivial⟩ fun hS=>?_)
    exact go _ _ _ _ _ (by kernel_rfl) (hd_0_1_2_3_4_6_8_9 v65 dv15 a w (hE.cut ⟨rfl,rfl,rfl,rfl,rfl,rfl,rfl,rfl,rfl,rfl,rfl,trivial⟩) (((hp.get 2 rfl).get 1 rfl).get 2 rfl) (io _ _ _ (by kernel_rfl) hS))
   ·
    refine dZ rfl ?_
    refine qK ((([],[]):List Sl×List Pc)).2 (wk0 rfl) rfl rfl hE hp rfl (El:=71) (bytes:=8) (by kernel_rfl) (by kernel_rfl) rfl rfl rfl ex4 ?_
    intro v66 a w hE hp
    have hp:=r3 hp
    refine aC (aI ⟨gp0 hp,trivial⟩ fun hS=>?_)
    exact go _ _ _ _ _ (by kernel_rfl) (hd_0_2_3_4_5_6_8_9 dv15 v66 a w (hE.cut ⟨rfl,rfl,rfl,rfl,rfl,rfl,rfl,rfl,rfl,rfl,rfl,trivial⟩) (((hp.get 0 rfl).get 2 rfl).get 2 rfl) (io _ _ _ (by kernel_rfl) hS))
   ·
    refine dZ rfl ?_
    refine fH (wk0 rfl) rfl rfl hE hp rfl (El:=3) (bytes:=8) (by kernel_rfl) (0:Int) (by kernel_rfl) (by kernel_rfl) rfl rfl ex5 ?_
    intro v67 a w hE hp
    have hp:=r3 hp
    refine aC (aI ⟨gp0 hp,trivial⟩ fun hS=>?_)
    exact go _ _ _ _ _ (by kernel_rfl) (hd_0_2_3_4_6_7_8_9 dv15 v67 a w (hE.cut ⟨rfl,rfl,rfl,rfl,rfl,rfl,rfl,rfl,rfl,rfl,rfl,trivial⟩) (((hp.get 0 rfl).get 2 rfl).get 2 rfl) (io _ _ _ (by kernel_rfl) hS))
   refine dZ rfl ?_
   refine oJ (wk0 rfl) rfl rfl hE hp rfl (T:=61) (bytes:=24) (by kernel_rfl) (by kernel_rfl) rfl rfl rfl ex7 71 (78,3) ?_
   intro v68 ut14 a w hE hp
   have hp:=r3 hp
   refine aC (aI ⟨gp0 hp,trivial⟩ fun hS=>?_)
   exact go _ _ _ _ _ (by kernel_rfl) (hd_0_2_3_4_6_8_9_10 ut14 dv15 v68 a w (hE.cut ⟨rfl,rfl,rfl,rfl,rfl,rfl,rfl,rfl,rfl,rfl,rfl,trivial⟩) (((hp.get 0 rfl).get 2 rfl).get 2 rfl) (io _ _ _ (by kernel_rfl) hS))
  have hd_0_2_4_5_6_8_9:∀(dv16:Value) (a:Act) (w:World),Env 79 [(1,vp1),(2,(Pv b1 0)),(5,(Iv x1)),(15,(Iv x1)),(17,(Iv x1)),(19,(Iv x1)),(20,dv16),(21,(Iv x1)),(23,(Iv x1)),(24,(Iv x6))] a→Hp Z ρ (Pt b1 (.cells #[(Iv p0.vars),aH] 24 (0,0))::aA 71 dv16 (List.map (hq ((([],[]):List Sl×List Pc)).2) (x4:List (Option Nat)))::L) w→I #[true,false,true,false,true,true,true,false,true,true,false,false,false,false] w→G 7 #[true,false,true,false,true,true,true,false,true,true,false,false,false,false] a w:=by
   intro dv16 a w hE hp hI
   have hS:=ii _ _ hI
   refine gi _ _ _ _ ?_
   refine jH [1,3,7,10] (by kernel_rfl) rfl ?_
   refine List.forall_mem_cons.2 ⟨?_,List.forall_mem_cons.2 ⟨?_,List.forall_mem_cons.2 ⟨?_,List.forall_mem_cons.2 ⟨?_,fun _ h=>absurd h (by simp)⟩⟩⟩⟩
   ·
    refine dZ rfl ?_
    refine fH (wk0 rfl) rfl rfl hE hp rfl (El:=3) (bytes:=8) (by kernel_rfl) (0:Int) (by kernel_rfl) (by kernel_rfl) rfl rfl ex2 ?_
    intro v69 a w hE hp
    have hp:=r3 hp
    refine aC (aI ⟨gp0 hp,trivial⟩ fun hS=>?_)
    exact go _ _ _ _ _ (by kernel_rfl) (hd_0_1_2_4_5_6_8_9 v69 dv16 a w (hE.cut ⟨rfl,rfl,rfl,rfl,rfl,rfl,rfl,rfl,rfl,rfl,rfl,trivial⟩) (((hp.get 2 rfl).get 1 rfl).get 2 rfl) (io _ _ _ (by kernel_rfl) hS))
   ·
    refine dZ rfl ?_
    refine fH (wk0 rfl) rfl rfl hE hp rfl (El:=3) (bytes:=8) (by kernel_rfl) (0:Int) (by kernel_rfl) (by kernel_rfl) rfl rfl ex3 ?_
    intro v70 a w hE hp
    have hp:=r3 hp
    refine aC (aI ⟨gp0 hp,trivial⟩ fun hS=>?_)
    exact go _ _ _ _ _ (by kernel_rfl) (hd_0_2_3_4_5_6_8_9 v70 dv16 a w (hE.cut ⟨rfl,rfl,rfl,rfl,rfl,rfl,rfl,rfl,rfl,rfl,rfl,trivial⟩) (((hp.get 2 rfl).get 1 rfl).get 2 rfl) (io _ _ _ (by kernel_rfl) hS))
   ·
    refine dZ rfl ?_
    refine fH (wk0 rfl) rfl rfl hE hp rfl (El:=3) (bytes:=8) (by kernel_rfl) (0:Int) (by kernel_rfl) (by kernel_rfl) rfl rfl ex5 ?_
    intro v71 a w hE hp
    have hp:=r3 hp
    refine aC (aI ⟨gp0 hp,trivial⟩ fun hS=>?_)
    exact go _ _ _ _ _ (by kernel_rfl) (hd_0_2_4_5_6_7_8_9 dv16 v71 a w (hE.cut ⟨rfl,rfl,rfl,rfl,rfl,rfl,rfl,rfl,rfl,rfl,rfl,trivial⟩) (((hp.get 0 rfl).get 2 rfl).get 2 rfl) (io _ _ _ (by kernel_rfl) hS))
   refine dZ rfl ?_
   refine oJ (wk0 rfl) rfl rfl hE hp rfl (T:=61) (bytes:=24) (by kernel_rfl) (by kernel_rfl) rfl rfl rfl ex7 71 (78,3) ?_
   intro v72 ut15 a w hE hp
   rw[wW ex4 _ ut15.2] at hp
   have hp:=r3 hp
   refine aC (aI ⟨gp0 hp,trivial⟩ fun hS=>?_)
   exact go _ _ _ _ _ (by kernel_rfl) (hd_0_2_4_5_6_8_9_10 ut15 dv16 v72 a w (hE.cut ⟨rfl,rfl,rfl,rfl,rfl,rfl,rfl,rfl,rfl,rfl,rfl,trivial⟩) (((hp.get 0 rfl).get 2 rfl).get 2 rfl) (io _ _ _ (by kernel_rfl) hS))
  have hd_0_2_4_6_7_8_9:∀(dv17:Value) (a:Act) (w:World),Env 79 [(1,vp1),(2,(Pv b1 0)),(5,(Iv x1)),(15,(Iv x1)),(17,(Iv x1)),(19,(Iv x1)),(21,(Iv x1)),(22,dv17),(23,(Iv x1)),(24,(Iv x6))] a→Hp Z ρ (Pt b1 (.cells #[(Iv p0.vars),aH] 24 (0,0))::aA 3 dv17 x5::L) w→I #[true,false,true,false,true,false,true,true,true,true,false,false,false,false] w→G 7 #[true,false,true,false,true,false,true,true,true,true,false,false,false,false] a w:=by
   intro dv17 a w hE hp hI
   have hS:=ii _ _ hI
   refine gi _ _ _ _ ?_
   refine jH [1,3,5,10] (by kernel_rfl) rfl ?_
   refine List.forall_mem_cons.2 ⟨?_,List.forall_mem_cons.2 ⟨?_,List.forall_mem_cons.2 ⟨?_,List.forall_mem_cons.2 ⟨?_,fun _ h=>absurd h (by simp)⟩⟩⟩⟩
   ·
    refine dZ rfl ?_
    refine fH (wk0 rfl) rfl rfl hE hp rfl (El:=3) (bytes:=8) (by kernel_rfl) (0:Int) (by kernel_rfl) (by kernel_rfl) rfl rfl ex2 ?_
    intro v73 a w hE hp
    have hp:=r3 hp
    refine aC (aI ⟨gp0 hp,trivial⟩ fun hS=>?_)
    exact go _ _ _ _ _ (by kernel_rfl) (hd_0_1_2_4_6_7_8_9 v73 dv17 a w (hE.cut ⟨rfl,rfl,rfl,rfl,rfl,rfl,rfl,rfl,rfl,rfl,rfl,trivial⟩) (((hp.get 2 rfl).get 1 rfl).get 2 rfl) (io _ _ _ (by kernel_rfl) hS))
   ·
    refine dZ rfl ?_
    refine fH (wk0 rfl) rfl rfl hE hp rfl (El:=3) (bytes:=8) (by kernel_rfl) (0:Int) (by kernel_rfl) (by kernel_rfl) rfl rfl ex3 ?_
    intro v74 a w hE hp
    have hp:=r3 hp
    refine aC (aI ⟨gp0 hp,trivial⟩ fun hS=>?_)
    exact go _ _ _ _ _ (by kernel_rfl) (hd_0_2_3_4_6_7_8_9 v74 dv17 a w (hE.cut ⟨rfl,rfl,rfl,rfl,rfl,rfl,rfl,rfl,rfl,rfl,rfl,trivial⟩) (((hp.get 2 rfl).get 1 rfl).get 2 rfl) (io _ _ _ (by kernel_rfl) hS))
   ·
    refine dZ rfl ?_
    refine qK ((([],[]):List Sl×List Pc)).2 (wk0 rfl) rfl rfl hE hp rfl (El:=71) (bytes:=8) (by kernel_rfl) (by kernel_rfl) rfl rfl rfl ex4 ?_
    intro v75 a w hE hp
    have hp:=r3 hp
    refine aC (aI ⟨gp0 hp,trivial⟩ fun hS=>?_)
    exact go _ _ _ _ _ (by kernel_rfl) (hd_0_2_4_5_6_7_8_9 v75 dv17 a w (hE.cut ⟨rfl,rfl,rfl,rfl,rfl,rfl,rfl,rfl,rfl,rfl,rfl,trivial⟩) (((hp.get 2 rfl).get 1 rfl).get 2 rfl) (io _ _ _ (by kernel_rfl) hS))
   refine dZ rfl ?_
   refine oJ (wk0 rfl) rfl rfl hE hp rfl (T:=61) (bytes:=24) (by kernel_rfl) (by kernel_rfl) rfl rfl rfl ex7 71 (78,3) ?_
   intro v76 ut16 a w hE hp
   have hp:=r3 hp
   refine aC (aI ⟨gp0 hp,trivial⟩ fun hS=>?_)
   exact go _ _ _ _ _ (by kernel_rfl) (hd_0_2_4_6_7_8_9_10 ut16 dv17 v76 a w (hE.cut ⟨rfl,rfl,rfl,rfl,rfl,rfl,rfl,rfl,rfl,rfl,rfl,trivial⟩) (((hp.get 0 rfl).get 2 rfl).get 2 rfl) (io _ _ _ (by kernel_rfl) hS))
  have hd_0_2_4_6_8_9_10:∀(du18:List Sl×List Pc) (dv18:Value) (a:Act) (w:World),Env 79 [(1,vp1),(2,(Pv b1 0)),(5,(Iv x1)),(15,(Iv x1)),(17,(Iv x1)),(19,(Iv x1)),(21,(Iv x1)),(23,(Iv x1)),(24,(Iv x6)),(25,dv18)] a→Hp Z ρ (Pt b1 (.cells #[(Iv p0.vars),aH] 24 (0,0))::cO 61 71 (78,3) dv18 du18 ((x7,[]):WD) none none::L) w→I #[true,false,true,false,true,false,true,false,true,true,true,false,false,false] w→G 7 #[true,false,true,false,true,false,true,false,true,true,true,false,false,false] a w:=by
   intro du18 dv18 a w hE hp hI
   have hS:=ii _ _ hI
   refine gi _ _ _ _ ?_
   refine jH [1,3,5,7] (by kernel_rfl) rfl ?_
   refine List.forall_mem_cons.2 ⟨?_,List.forall_mem_cons.2 ⟨?_,List.forall_mem_cons.2 ⟨?_,List.forall_mem_cons.2 ⟨?_,fun _ h=>absurd h (by simp)⟩⟩⟩⟩
   ·
    refine dZ rfl ?_
    refine fH (wk0 rfl) rfl rfl hE hp rfl (El:=3) (bytes:=8) (by kernel_rfl) (0:Int) (by kernel_rfl) (by kernel_rfl) rfl rfl ex2 ?_
    intro v77 a w hE hp
    have hp:=r3 hp
    refine aC (aI ⟨gp0 hp,trivial⟩ fun hS=>?_)
    exact go _ _ _ _ _ (by kernel_rfl) (hd_0_1_2_4_6_8_9_10 du18 v77 dv18 a w (hE.cut ⟨rfl,rfl,rfl,rfl,rfl,rfl,rfl,rfl,rfl,rfl,rfl,trivial⟩) (((hp.get 2 rfl).get 1 rfl).get 2 rfl) (io _ _ _ (by kernel_rfl) hS))
   ·
    refine dZ rfl ?_
    refine fH (wk0 rfl) rfl rfl hE hp rfl (El:=3) (bytes:=8) (by kernel_rfl) (0:Int) (by kernel_rfl) (by kernel_rfl) rfl rfl ex3 ?_
    intro v78 a w hE hp
    have hp:=r3 hp
    refine aC (aI ⟨gp0 hp,trivial⟩ fun hS=>?_)
    exact go _ _ _ _ _ (by kernel_rfl) (hd_0_2_3_4_6_8_9_10 du18 v78 dv18 a w (hE.cut ⟨rfl,rfl,rfl,rfl,rfl,rfl,rfl,rfl,rfl,rfl,rfl,trivial⟩) (((hp.get 2 rfl).get 1 rfl).get 2 rfl) (io _ _ _ (by kernel_rfl) hS))
   ·
    refine dZ rfl ?_
    refine qK (du18).2 (wk0 rfl) rfl rfl hE hp rfl (El:=71) (bytes:=8) (by kernel_rfl) (by kernel_rfl) rfl rfl rfl ex4 ?_
    intro v79 a w hE hp
    have hp:=r3 hp
    refine aC (aI ⟨gp0 hp,trivial⟩ fun hS=>?_)
    exact go _ _ _ _ _ (by kernel_rfl) (hd_0_2_4_5_6_8_9_10 du18 v79 dv18 a w (hE.cut ⟨rfl,rfl,rfl,rfl,rfl,rfl,rfl,rfl,rfl,rfl,rfl,trivial⟩) (((hp.get 2 rfl).get 1 rfl).get 2 rfl) (io _ _ _ (by kernel_rfl) hS))
   refine dZ rfl ?_
   refine fH (wk0 rfl) rfl rfl hE hp rfl (El:=3) (bytes:=8) (by kernel_rfl) (0:Int) (by kernel_rfl) (by kernel_rfl) rfl rfl ex5 ?_
   intro v80 a w hE hp
   have hp:=r3 hp
   refine aC (aI ⟨gp0 hp,trivial⟩ fun hS=>?_)
   exact go _ _ _ _ _ (by kernel_rfl) (hd_0_2_4_6_7_8_9_10 du18 v80 dv18 a w (hE.cut ⟨rfl,rfl,rfl,rfl,rfl,rfl,rfl,rfl,rfl,rfl,rfl,trivial⟩) (((hp.get 2 rfl).get 1 rfl).get 2 rfl) (io _ _ _ (by kernel_rfl) hS))
  have hd_0_2_4_6_8_9:∀(a:Act) (w:World),Env 79 [(1,vp1),(2,(Pv b1 0)),(5,(Iv x1)),(15,(Iv x1)),(17,(Iv x1)),(19,(Iv x1)),(21,(Iv x1)),(23,(Iv x1)),(24,(Iv x6))] a→Hp Z ρ (Pt b1 (.cells #[(Iv p0.vars),aH] 24 (0,0))::L) w→I #[true,false,true,false,true,false,true,false,true,true,false,false,false,false] w→G 8 #[true,false,true,false,true,false,true,false,true,true,false,false,false,false] a w:=by
   intro a w hE hp hI
   have hS:=ii _ _ hI
   refine gi _ _ _ _ ?_
   refine jH [1,3,5,7,10] (by kernel_rfl) rfl ?_
   refine List.forall_mem_cons.2 ⟨?_,List.forall_mem_cons.2 ⟨?_,List.forall_mem_cons.2 ⟨?_,List.forall_mem_cons.2 ⟨?_,List.forall_mem_cons.2 ⟨?_,fun _ h=>absurd h (by simp)⟩⟩⟩⟩⟩
   ·
    refine dZ rfl ?_
    refine fH (wk0 rfl) rfl rfl hE hp rfl (El:=3) (bytes:=8) (by kernel_rfl) (0:Int) (by kernel_rfl) (by kernel_rfl) rfl rfl ex2 ?_
    intro v81 a w hE hp
    have hp:=r2 hp
    refine aC (aI ⟨gp0 hp,trivial⟩ fun hS=>?_)
    exact go _ _ _ _ _ (by kernel_rfl) (hd_0_1_2_4_6_8_9 v81 a w (hE.cut ⟨rfl,rfl,rfl,rfl,rfl,rfl,rfl,rfl,rfl,rfl,trivial⟩) ((hp.get 0 rfl).get 1 rfl) (io _ _ _ (by kernel_rfl) hS))
   ·
    refine dZ rfl ?_
    refine fH (wk0 rfl) rfl rfl hE hp rfl (El:=3) (bytes:=8) (by kernel_rfl) (0:Int) (by kernel_rfl) (by kernel_rfl) rfl rfl ex3 ?_
    intro v82 a w hE hp
    have hp:=r2 hp
    refine aC (aI ⟨gp0 hp,trivial⟩ fun hS=>?_)
    exact go _ _ _ _ _ (by kernel_rfl) (hd_0_2_3_4_6_8_9 v82 a w (hE.cut ⟨rfl,rfl,rfl,rfl,rfl,rfl,rfl,rfl,rfl,rfl,trivial⟩) ((hp.get 0 rfl).get 1 rfl) (io _ _ _ (by kernel_rfl) hS))
   ·
    refine dZ rfl ?_
    refine qK ((([],[]):List Sl×List Pc)).2 (wk0 rfl) rfl rfl hE hp rfl (El:=71) (bytes:=8) (by kernel_rfl) (by kernel_rfl) rfl rfl rfl ex4 ?_
    intro v83 a w hE hp
    have hp:=r2 hp
    refine aC (aI ⟨gp0 hp,trivial⟩ fun hS=>?_)
    exact go _ _ _ _ _ (by kernel_rfl) (hd_0_2_4_5_6_8_9 v83 a w (hE.cut ⟨rfl,rfl,rfl,rfl,rfl,rfl,rfl,rfl,rfl,rfl,trivial⟩) ((hp.get 0 rfl).get 1 rfl) (io _ _ _ (by kernel_rfl) hS))
   ·
    refine dZ rfl ?_
    refine fH (wk0 rfl) rfl rfl hE hp rfl (El:=3) (bytes:=8) (by kernel_rfl) (0:Int) (by kernel_rfl) (by kernel_rfl) rfl rfl ex5 ?_
    intro v84 a w hE hp
    have hp:=r2 hp
    refine aC (aI ⟨gp0 hp,trivial⟩ fun hS=>?_)
    exact go _ _ _ _ _ (by kernel_rfl) (hd_0_2_4_6_7_8_9 v84 a w (hE.cut ⟨rfl,rfl,rfl,rfl,rfl,rfl,rfl,rfl,rfl,rfl,trivial⟩) ((hp.get 0 rfl).get 1 rfl) (io _ _ _ (by kernel_rfl) hS))
   refine dZ rfl ?_
   refine oJ (wk0 rfl) rfl rfl hE hp rfl (T:=61) (bytes:=24) (by kernel_rfl) (by kernel_rfl) rfl rfl rfl ex7 71 (78,3) ?_
   intro v85 ut17 a w hE hp
   have hp:=r2 hp
   refine aC (aI ⟨gp0 hp,trivial⟩ fun hS=>?_)
   exact go _ _ _ _ _ (by kernel_rfl) (hd_0_2_4_6_8_9_10 ut17 v85 a w (hE.cut ⟨rfl,rfl,rfl,rfl,rfl,rfl,rfl,rfl,rfl,rfl,trivial⟩) ((hp.get 0 rfl).get 1 rfl) (io _ _ _ (by kernel_rfl) hS))
  refine gi _ _ _ _ ?_
  refine Ts [0,2,4,6,8] hE hS rfl rfl (by kernel_rfl) fun a hE hS=>T0 9 hE hS rfl rfl rfl (by kernel_rfl) (fun _=>yO rfl hE rfl rfl (aZ ex6)) fun a hE hS=>?_
  exact go _ _ _ _ _ (by kernel_rfl) (hd_0_2_4_6_8_9 a w (hE.cut ⟨rfl,rfl,rfl,rfl,rfl,rfl,rfl,rfl,rfl,trivial⟩) hp (io _ _ _ (by kernel_rfl) hS))
 rintro a w ⟨y19,y18,yut18,y17,y16,y15,y14,hE,hp⟩
 refine aG (aB ?_)
 refine S hE 2 rfl fun a hE=>?_
 obtain⟨x8,ex8,hm⟩:=bnd hm
 refine fH (wk0 rfl) rfl rfl hE hp rfl (El:=4) (bytes:=1) (by kernel_rfl) (false:Bool) (by kernel_rfl) (by kernel_rfl) rfl rfl ex8 ?_
 intro v86 a w hE hp
 have hp:=r8 hp
 refine V hE hp rfl (v:=(.agg #[N0,v86])) (qN rfl hE [(1,v86)] (by exact⟨⟨rfl,rfl⟩,trivial⟩) (fun w=>by have hc0:=aA.cells hp 0 rfl;simp only[Value.cells] at hc0;simp[Instr.build,Instr.fill,Value.cells,hc0,go_sem])) fun a hE=>?_
 refine rO (wk0 rfl) rfl rfl hE hp rfl (v:=(.agg #[N0,v86])) rfl ?_
 intro a w b4 hE hp
 have hp:=r9 hp
 refine S hE 1 rfl fun a hE=>V hE hp rfl (xf hE yI rfl rfl) fun a hE=>?_
 refine dO (wk0 rfl) rfl hE hp rfl rfl rfl 2 rfl aB1.size_ rfl (bY ⟨rfl,trivial⟩) [y14,y15,y16,y17,y18,N0,N0,(Iv 0),(Pv b4 0),N0,(Iv 0),(.bool false)] rfl ?_
 intro w hp
 have hp:=r9 hp
 refine aC (aG ?_)
 refine aG (aB ?_)
 refine S hE 1 rfl fun a hE=>aC ?_
 have hp:=hp.emp (aA.nil (α:=Int) 3)
 have hp:=r10 hp
 have hp:=r10 hp
 obtain⟨b5,hc1,hm⟩:=bnd hm
 refine dH (fun a w=>∃(w23:Value) (w20:Value) (w17:Value),Env 79 [(1,vp1),(2,(Pv b1 0)),(6,(Pv y19 0))] a∧Hp Z ρ (aA 3 w23 b5.1::Pt b4 (.cells #[w23,w20] 68 (0,0))::aA 4 w20 b5.2.1::Pt y19 (.cells #[y14,y15,y16,w17,y18,N0,N0,(Iv 0),(Pv b4 0),N0,(Iv 0),(.bool false)] 65 (0,0))::cO 61 71 (78,3) y18 yut18 ((x7,[]):WD) none none::aA 3 w17 b5.2.2::aA 71 y16 (List.map (hq (yut18).2) (x4:List (Option Nat)))::aA 3 y15 x3::aA 3 y14 x2::Pt b1 (.cells #[(Iv p0.vars),aH] 24 (0,0))::L) w) ?_ ?_
 ·refine eU hc1 (fun s a w=>∃(w23:Value) (w20:Value) (w17:Value),Env 79 [(1,vp1),(2,(Pv b1 0)),(5,(Iv x1)),(6,(Pv y19 0)),(7,(Iv s.1))] a∧Hp Z ρ (aA 3 w23 s.2.1::Pt b4 (.cells #[w23,w20] 68 (0,0))::aA 4 w20 s.2.2.1::Pt y19 (.cells #[y14,y15,y16,w17,y18,N0,N0,(Iv 0),(Pv b4 0),N0,(Iv 0),(.bool false)] 65 (0,0))::cO 61 71 (78,3) y18 yut18 ((x7,[]):WD) none none::aA 3 w17 s.2.2.2::aA 71 y16 (List.map (hq (yut18).2) (x4:List (Option Nat)))::aA 3 y15 x3::aA 3 y14 x2::Pt b1 (.cells #[(Iv p0.vars),aH] 24 (0,0))::L) w) ?_ ?_
  ·exact⟨_,_,_,hE.cut ⟨rfl,rfl,rfl,rfl,rfl,trivial⟩,hp⟩
  rintro⟨aW,bU,dJ,jB⟩ st a w ⟨w23,w20,w17,hE,hp⟩ hl1
  dsimp only at hE hp hl1
  unfold oG at hl1
  refine aG (aG ?_)
  refine aB (S hE 3 rfl fun a hE=>?_)
  refine aC ?_
  refine dK hE rfl (fun hc2=>?_) (fun hc2=>?_)
  ·replace hl1:=(it hc2).symm.trans hl1
   refine bP (aG ?_)
   refine dF (aG ?_)
   refine aB (S hE 2 rfl fun a hE=>?_)
   refine V hE hp rfl (xf hE fldty65_3 rfl rfl) fun a hE=>V hE hp rfl (xl hE bJ 3 rfl rfl rfl rfl) fun a hE=>S hE 2 rfl fun a hE=>?_
   obtain⟨x9,ex9,hl1⟩:=bnd hl1
   refine V hE hp rfl (mX rfl hE rfl (aZ ex9)) fun a hE=>?_
   obtain⟨x10,ex10,hl1⟩:=bnd hl1
   obtain⟨b6,b6o,b6r,b6v,b6f⟩:=aA.at hp 5 rfl bC ex10
   refine V hE hp rfl (aU rfl hE rfl rfl b6r) fun a hE=>?_
   refine mY (wk0 rfl) rfl hE hp rfl rfl rfl 5 rfl ex10 b6v 0 (e':=x9) bG.size_ rfl rfl rfl ⟨rfl,rfl⟩ ?_
   intro w hp
   have hp:=r10 hp
   refine aC (aB ?_)
   refine S hE 2 rfl fun a hE=>V hE hp rfl (xf hE yI rfl rfl) fun a hE=>V hE hp rfl (xl hE aB1 3 rfl rfl rfl rfl) fun a hE=>V hE hp rfl (v:=(.iface 63 (Pv b4 0))) (ex_mki rfl hE rfl (mki63 _)) fun a hE=>S hE 1 rfl fun a hE=>V hE hp rfl (v:=(.iface 3 (Iv aW))) (ex_mki rfl hE rfl (mki3 _)) fun a hE=>?_
   obtain⟨x11,ex11,hl1⟩:=bnd hl1
   refine Cl hE rfl rfl ent48 (c_heap_Push b4 (Que.mk bU dJ) w23 w20 aW (((hp.get 2 rfl).get 1 rfl).get 2 rfl) x11 ex11) ⟨rfl,rfl,trivial⟩ fun v a w hR hE=>?_
   obtain⟨rQ,rP,rfl,hp⟩:=hR
   have hp:=r10 hp
   refine aC ?_
   have hE:=hE.cut (E':=[(1,vp1),(2,(Pv b1 0)),(5,(Iv x1)),(6,(Pv y19 0)),(7,(Iv aW))]) ⟨rfl,rfl,rfl,rfl,rfl,trivial⟩
   refine aB (S hE 1 rfl fun a hE=>?_)
   obtain⟨x12,ex12,hl1⟩:=bnd hl1
   refine V hE hp rfl (dD rfl hE rfl rfl (aZ ex12)) fun a hE=>S hE 1 rfl fun a hE=>aC ?_
   exact⟨_,(oj hl1).symm,_,_,_,hE.cut ⟨rfl,rfl,rfl,rfl,rfl,trivial⟩,((((((((((hp.get 9 rfl).get 9 rfl).get 9 rfl).get 9 rfl).get 9 rfl).get 9 rfl).get 9 rfl).get 9 rfl).get 8 rfl).get 9 rfl)⟩
  replace hl1:=(ie hc2).symm.trans hl1
  refine dR ?_
  refine⟨_,(oj hl1).symm,fun hbb=>?_⟩
  subst hbb
  exact⟨_,_,_,hE.cut ⟨rfl,rfl,rfl,trivial⟩,hp⟩
 rintro a w ⟨w23,w20,w17,hE,hp⟩
 refine aG (aG ?_)
 refine aB (V hE hp rfl (xf hE iL rfl rfl) fun a hE=>?_)
 refine V hE hp rfl (xl hE jD 9 rfl rfl rfl rfl) fun a hE=>V hE hp rfl (dL rfl hE rfl (bW.len bI kU)) fun a hE=>S hE 1 rfl fun a hE=>aC ?_
 have hp:=hp.emp (aA.nil (α:=Int) 3)
 have hp:=r11 hp
 have hp:=r11 hp
 have hp:=hp.emp (aA.nil (α:=Int) 3)
 have hp:=r12 hp
 have hp:=r12 hp
 have hp:=hp.emp (bT.none (α:=Int) 25 3 none)
 have hp:=r13 hp
 have hp:=r13 hp
 obtain⟨b7,hc3,hm⟩:=bnd hm
 refine dH (fun a w=>∃(w27:Value) (w18:Value) (utw18:List Sl×List Pc) (w16:Value) (w15:Value) (w14:Value),Env 79 [(1,vp1),(6,(Pv y19 0))] a∧Hp Z ρ (bT 25 3 N0 ([]) ([]:(List (List Int)))::aA 3 N0 ([]:List Int)::aA 3 w27 b7.1::aA 3 w23 b5.1::Pt b4 (.cells #[w23,w20] 68 (0,0))::aA 4 w20 b5.2.1::Pt y19 (.cells #[w14,w15,w16,w17,w18,w27,N0,(Iv b7.2.1),(Pv b4 0),N0,(Iv b7.2.2.1),(.bool b7.2.2.2.1)] 65 (0,0))::cO 61 71 (78,3) w18 utw18 (b7.2.2.2.2.1:WD) none none::aA 3 w17 b5.2.2::aA 71 w16 (List.map (hq (utw18).2) (b7.2.2.2.2.2.1:List (Option Nat)))::aA 3 w15 b7.2.2.2.2.2.2.1::aA 3 w14 b7.2.2.2.2.2.2.2::Pt b1 (.cells #[(Iv p0.vars),aH] 24 (0,0))::L) w) ?_ ?_
 ·refine eU hc3 (fun s a w=>∃(w27:Value) (w18:Value) (utw18:List Sl×List Pc) (w16:Value) (w15:Value) (w14:Value),Env 79 [(1,vp1),(6,(Pv y19 0)),(57,aH),(58,(Iv (p0.clauses.length:Int))),(59,(Iv s.1))] a∧Hp Z ρ (bT 25 3 N0 ([]) ([]:(List (List Int)))::aA 3 N0 ([]:List Int)::aA 3 w27 s.2.1::aA 3 w23 b5.1::Pt b4 (.cells #[w23,w20] 68 (0,0))::aA 4 w20 b5.2.1::Pt y19 (.cells #[w14,w15,w16,w17,w18,w27,N0,(Iv s.2.2.1),(Pv b4 0),N0,(Iv s.2.2.2.1),(.bool s.2.2.2.2.1)] 65 (0,0))::cO 61 71 (78,3) w18 utw18 (s.2.2.2.2.2.1:WD) none none::aA 3 w17 b5.2.2::aA 71 w16 (List.map (hq (utw18).2) (s.2.2.2.2.2.2.1:List (Option Nat)))::aA 3 w15 s.2.2.2.2.2.2.2.1::aA 3 w14 s.2.2.2.2.2.2.2.2::Pt b1 (.cells #[(Iv p0.vars),aH] 24 (0,0))::L) w) ?_ ?_
  ·exact⟨_,_,yut18,_,_,_,hE.cut ⟨rfl,rfl,rfl,rfl,rfl,trivial⟩,hp⟩
  rintro⟨dG,fB,gU,fM,iI,iR,iT,qG,qH⟩ st a w ⟨w27,w18,utw18,w16,w15,w14,hE,hp⟩ hl2
  dsimp only at hE hp hl2
  unfold pY at hl2
  refine aG (aB ?_)
  refine S hE 1 rfl fun a hE=>aC (aG ?_)
  refine dK hE rfl (fun hc4=>?_) (fun hc4=>?_)
  ·replace hl2:=(it hc4).symm.trans hl2
   refine bP (aG ?_)
   refine dF (aG ?_)
   refine aB ?_
   obtain⟨x13,ex13,hl2⟩:=bnd hl2
   obtain⟨b8,b8o,b8c,b8r,b8k,b8f⟩:=bW.at bI kU ex13
   obtain⟨vb8,rfl,hb8⟩:=b8k
   have b8f:AtP ρ b8 b8o [vb8]:=b8f
   refine V hE hp rfl (aU rfl hE rfl rfl b8r) fun a hE=>V hE hp rfl (bD rfl hE rfl (fun w hw=>bH bJ (b8f.c 0 rfl w hw))) fun a hE=>S hE 1 rfl fun a hE=>aC (aB ?_)
   refine S hE 2 rfl fun a hE=>?_
   obtain⟨x14,ex14,hl2⟩:=bnd hl2
   refine Cl hE rfl rfl ent49 (xZ y19 (Sol.mk qH qG iT b5.2.2 iR fB ([]) gU (Que.mk b5.1 b5.2.1) ([]) fM iI) w14 w15 w16 w17 w18 utw18 w27 N0 b4 w23 w20 N0 ([]) x13 vb8 hb8 (((((((((((hp.get 5 rfl).get 4 rfl).get 5 rfl).get 4 rfl).get 5 rfl).get 7 rfl).get 8 rfl).get 9 rfl).get 10 rfl).get 11 rfl).get 11 rfl) x14 ex14) ⟨rfl,rfl,trivial⟩ fun v a w hR hE=>?_
   obtain⟨H8,vz2_level,vz2_reason,xC,rH,H7,rfl,hp⟩:=hR
   have hp:=r13 hp
   refine aC (aB ?_)
   obtain⟨x15,ex15,hl2⟩:=bnd hl2
   refine V hE hp rfl (dD rfl hE rfl rfl (aZ ex15)) fun a hE=>S hE 1 rfl fun a hE=>aC ?_
   exact⟨_,(oj hl2).symm,_,_,rH,_,_,_,hE.cut ⟨rfl,rfl,rfl,rfl,rfl,trivial⟩,(((((((((((((hp.get 12 rfl).get 2 rfl).get 3 rfl).get 4 rfl).get 5 rfl).get 6 rfl).get 6 rfl).get 11 rfl).get 10 rfl).get 11 rfl).get 10 rfl).get 11 rfl).get 12 rfl)⟩
  replace hl2:=(ie hc4).symm.trans hl2
  refine dR ?_
  refine⟨_,(oj hl2).symm,fun hbb=>?_⟩
  subst hbb
  exact⟨_,_,utw18,_,_,_,hE.cut ⟨rfl,rfl,trivial⟩,hp⟩
 rintro a w ⟨w27,w18,utw18,w16,w15,w14,hE,hp⟩
 refine aG (aG ?_)
 refine aB (S hE 1 rfl fun a hE=>?_)
 refine V hE hp rfl (dL rfl hE rfl (bW.len hp1 bC)) fun a hE=>S hE 1 rfl fun a hE=>aC ?_
 obtain⟨b9,hc5,hm⟩:=bnd hm
 refine dH (fun a w=>∃(w27:Value) (w18q:Value) (utw18q:List Sl×List Pc) (w16:Value) (w15:Value) (w14:Value),Env 79 [(6,(Pv y19 0))] a∧Hp Z ρ (bT 25 3 N0 ([]) ([]:(List (List Int)))::aA 3 N0 ([]:List Int)::aA 3 w27 b9.1::aA 3 w23 b5.1::Pt b4 (.cells #[w23,w20] 68 (0,0))::aA 4 w20 b5.2.1::Pt y19 (.cells #[w14,w15,w16,w17,w18q,w27,N0,(Iv b9.2.1),(Pv b4 0),N0,(Iv b9.2.2.1),(.bool b9.2.2.2.1)] 65 (0,0))::cO 61 71 (78,3) w18q utw18q (b9.2.2.2.2.1:WD) none none::aA 3 w17 b5.2.2::aA 71 w16 (List.map (hq (utw18q).2) (b9.2.2.2.2.2.1:List (Option Nat)))::aA 3 w15 b9.2.2.2.2.2.2.1::aA 3 w14 b9.2.2.2.2.2.2.2::Pt b1 (.cells #[(Iv p0.vars),aH] 24 (0,0))::L) w) ?_ ?_
 ·refine eU hc5 (fun s a w=>∃(w27:Value) (w18q:Value) (utw18q:List Sl×List Pc) (w16:Value) (w15:Value) (w14:Value),Env 79 [(6,(Pv y19 0)),(67,vp1),(68,(Iv (p1.length:Int))),(69,(Iv s.1))] a∧Hp Z ρ (bT 25 3 N0 ([]) ([]:(List (List Int)))::aA 3 N0 ([]:List Int)::aA 3 w27 s.2.1::aA 3 w23 b5.1::Pt b4 (.cells #[w23,w20] 68 (0,0))::aA 4 w20 b5.2.1::Pt y19 (.cells #[w14,w15,w16,w17,w18q,w27,N0,(Iv s.2.2.1),(Pv b4 0),N0,(Iv s.2.2.2.1),(.bool s.2.2.2.2.1)] 65 (0,0))::cO 61 71 (78,3) w18q utw18q (s.2.2.2.2.2.1:WD) none none::aA 3 w17 b5.2.2::aA 71 w16 (List.map (hq (utw18q).2) (s.2.2.2.2.2.2.1:List (Option Nat)))::aA 3 w15 s.2.2.2.2.2.2.2.1::aA 3 w14 s.2.2.2.2.2.2.2.2::Pt b1 (.cells #[(Iv p0.vars),aH] 24 (0,0))::L) w) ?_ ?_
  ·exact⟨_,_,utw18,_,_,_,hE.cut ⟨rfl,rfl,rfl,rfl,trivial⟩,hp⟩
  rintro⟨lN,F6,lp3_2,lp3_3,lp3_4,lp3_5,lp3_6,lp3_7,lp3_8⟩ st a w ⟨w27,w18q,utw18q,w16,w15,w14,hE,hp⟩ hl3
  dsimp only at hE hp hl3
  unfold qA at hl3
  refine aG (aB ?_)
  refine S hE 1 rfl fun a hE=>aC (aG ?_)
  refine dK hE rfl (fun hc6=>?_) (fun hc6=>?_)
  ·replace hl3:=(it hc6).symm.trans hl3
   refine bP (aG ?_)
   refine dF (aG ?_)
   refine aB ?_
   obtain⟨x16,ex16,hl3⟩:=bnd hl3
   obtain⟨b10,b10o,b10c,b10r,b10k,b10f⟩:=bW.at hp1 bC ex16
   obtain rfl:b10c=Enc.enc x16:=b10k
   have b10f:AtP ρ b10 b10o [(Iv x16)]:=b10f
   refine V hE hp rfl (aU rfl hE rfl rfl b10r) fun a hE=>V hE hp rfl (bD rfl hE rfl (fun w hw=>bH bG (b10f.c 0 rfl w hw))) fun a hE=>S hE 1 rfl fun a hE=>aC (aB ?_)
   refine S hE 2 rfl fun a hE=>?_
   refine iP (wk0 rfl) rfl rfl hE hp rfl [(0,(Iv x16))] ⟨⟨rfl,rfl⟩,trivial⟩ [(Iv x16)] 3 (fun w=>by simp[Instr.buildSlice,Instr.fill,Value.cells,go_sem]) ?_
   intro a w b11 hE hp
   have hp:=r14 hp
   have hp:=(hp.get 0 rfl).imp (oH (l:=(([x16]:List Int):List Int)) (n:=1) rfl (by decide) rfl)
   have hp:=r14 hp
   obtain⟨k1,k1a,k1d,k1h⟩:=(hp.get 0 rfl).lend
   obtain⟨x17,ex17,hl3⟩:=bnd hl3
   refine Cl hE rfl rfl ent49 (xZ y19 (Sol.mk lp3_8 lp3_7 lp3_6 b5.2.2 lp3_5 F6 ([]) lp3_2 (Que.mk b5.1 b5.2.1) ([]) lp3_3 lp3_4) w14 w15 w16 w17 w18q utw18q w27 N0 b4 w23 w20 N0 ([]) ([x16]:List Int) (.slice (some ⟨b11,0,none⟩) 1 1) (aA.ro k1d k1a) (((((((((((k1h.get 5 rfl).get 4 rfl).get 5 rfl).get 4 rfl).get 5 rfl).get 7 rfl).get 8 rfl).get 9 rfl).get 10 rfl).get 11 rfl).get 11 rfl) x17 ex17) ⟨rfl,rfl,trivial⟩ fun v a w hR hE=>?_
   obtain⟨vz3_value,vz3_level,vz3_reason,vz3_watches,aJ4,vz3_trail,rfl,hp⟩:=hR
   have hp:=Hp.back k1a k1d hp
   have hp:=r14 hp
   refine aC (aB ?_)
   obtain⟨x18,ex18,hl3⟩:=bnd hl3
   refine V hE hp rfl (dD rfl hE rfl rfl (aZ ex18)) fun a hE=>S hE 1 rfl fun a hE=>aC ?_
   exact⟨_,(oj hl3).symm,_,_,aJ4,_,_,_,hE.cut ⟨rfl,rfl,rfl,rfl,trivial⟩,(((((((((((((((hp.get 13 rfl).get 3 rfl).get 4 rfl).get 5 rfl).get 6 rfl).get 7 rfl).get 7 rfl).get 12 rfl).get 11 rfl).get 12 rfl).get 11 rfl).get 12 rfl).get 13 rfl).get 13 rfl).drop)⟩
  replace hl3:=(ie hc6).symm.trans hl3
  refine dR ?_
  refine⟨_,(oj hl3).symm,fun hbb=>?_⟩
  subst hbb
  exact⟨_,_,utw18q,_,_,_,hE.cut ⟨rfl,trivial⟩,hp⟩
 rintro a w ⟨w27,w18q,utw18q,w16,w15,w14,hE,hp⟩
 refine aG (aB ?_)
 refine S hE 2 rfl fun a hE=>aC (dE ?_)
 obtain rfl:=oj hm
 exact iH hE rfl rfl ⟨_,rfl,_,_,_,_,_,_,_,_,_,_,_,_,_,_,rfl,((((((((((((((hp.get 0 rfl).get 5 rfl).get 4 rfl).get 5 rfl).get 4 rfl).get 5 rfl).get 7 rfl).get 8 rfl).get 9 rfl).get 10 rfl).get 11 rfl).get 11 rfl).get 12 rfl).drop)⟩
theorem c_solver_fits_1 {Z:World} {ρ:PH} {L:List bZ} {w:World} (p0:Int) (bcp0:Nat) (cp0:Formula) (kJ:Value) (aI5:bW ρ kJ cp0.clauses) (hp:Hp Z ρ (Pt bcp0 (.cells #[(Iv cp0.vars),kJ] 24 (0,0))::L) w) (r:Bool) (hm:rM p0 cp0=some r):
  Calls Try.prog 47 #[(Iv p0),(Pv bcp0 0)] w (Ret fun v w'=>v=(.bool r)∧Hp Z ρ (Pt bcp0 (.cells #[(Iv cp0.vars),kJ] 24 (0,0))::L) w'):=by
 refine enter (N:=19) Try.func47 rfl rfl [(0,(Iv p0)),(1,(Pv bcp0 0))] rfl (bM ⟨rfl,rfl,trivial⟩) fun a hE=>?_
 unfold rM at hm
 refine aG (aB ?_)
 refine S hE 1 rfl fun a hE=>aC (aG ?_)
 refine aB (S hE 3 rfl fun a hE=>?_)
 obtain⟨m1,hg1,hm⟩:=bnd hm
 refine lZ [_,_,_,_,_,_] (fun a w=>Env 19 [(12,(.bool m1)),(0,(Iv p0)),(1,(Pv bcp0 0))] a∧Hp Z ρ (Pt bcp0 (.cells #[(Iv cp0.vars),kJ] 24 (0,0))::L) w) ?_ ?_
 ·rcases Bool.eq_false_or_eq_true (decide (p0=0)) with hc1|hc1
  ·
   replace hg1:=(it hc1).symm.trans hg1
   refine Gk hE hc1 rfl fun a hE=>Gk hE hc1 rfl fun a hE=>Gk hE hc1 rfl fun a hE=>Gk hE hc1 rfl fun a hE=>Gk hE hc1 rfl fun a hE=>pk1 hE hc1 rfl rfl rfl rfl fun a hE=>?_
   obtain rfl:=oj hg1
   exact aC ⟨hE.cut ⟨rfl,rfl,rfl,trivial⟩,hp⟩
  replace hg1:=(ie hc1).symm.trans hg1
  refine Gs hE hc1 rfl rfl fun a hE=>G hE hp hc1 rfl (xf hE lM rfl rfl) fun a hE=>G hE hp hc1 rfl (xl hE bG 0 rfl rfl rfl rfl) fun a hE=>?_
  obtain⟨x1,ex1,hg1⟩:=bnd hg1
  refine G hE hp hc1 rfl (mX rfl hE rfl (aZ ex1)) fun a hE=>Gs hE hc1 rfl rfl fun a hE=>pk0 hE hc1 rfl rfl rfl rfl fun a hE=>?_
  obtain rfl:=oj hg1
  exact aC ⟨hE.cut ⟨rfl,rfl,rfl,trivial⟩,hp⟩
 rintro a w ⟨hE,hp⟩
 refine S hE 1 rfl fun a hE=>?_
 refine lZ [_,_,_,_,_] (fun a w=>Env 19 [(18,(.bool (m1||(decide (cp0.vars<p0)))))] a∧Hp Z ρ (Pt bcp0 (.cells #[(Iv cp0.vars),kJ] 24 (0,0))::L) w) ?_ ?_
 ·rcases Bool.eq_false_or_eq_true m1 with hc2|hc2
  ·
   refine Gk hE hc2 rfl fun a hE=>Gk hE hc2 rfl fun a hE=>Gk hE hc2 rfl fun a hE=>Gk hE hc2 rfl fun a hE=>pk1 hE hc2 rfl rfl rfl rfl fun a hE=>?_
   have hE:=hE.eqv (v':=(.bool (m1||(decide (cp0.vars<p0))))) (by rw[hc2];rfl)
   exact aC ⟨hE.cut ⟨rfl,trivial⟩,hp⟩
  refine Gs hE hc2 rfl rfl fun a hE=>G hE hp hc2 rfl (xf hE lM rfl rfl) fun a hE=>G hE hp hc2 rfl (xl hE bG 0 rfl rfl rfl rfl) fun a hE=>Gs hE hc2 rfl rfl fun a hE=>pk0 hE hc2 rfl rfl rfl rfl fun a hE=>?_
  have hE:=hE.eqv (v':=(.bool (m1||(decide (cp0.vars<p0))))) (by rw[hc2];rfl)
  exact aC ⟨hE.cut ⟨rfl,trivial⟩,hp⟩
 rintro a w ⟨hE,hp⟩
 refine S hE 1 rfl fun a hE=>aC (dE ?_)
 obtain rfl:=oj hm
 exact iH hE rfl rfl ⟨_,rfl,rfl,hp⟩
theorem vF {Z:World} {ρ:PH} {L:List bZ} {w:World} (p0:(List Int)) (vp0:Value) (hp0:bW ρ vp0 p0) (bp1c0:Nat) (p1c0:Formula) (vp1c0_clauses:Value) (hp1c0_clauses:bW ρ vp1c0_clauses p1c0.clauses) (hp:Hp Z ρ (Pt bp1c0 (.cells #[(Iv p1c0.vars),vp1c0_clauses] 24 (0,0))::L) w) (r:Int) (hm:jM p0 p1c0=some r):
  Calls Try.prog 62 #[vp0,(.func (.func 47) #[] #[(Pv bp1c0 0)])] w (Ret fun v w'=>v=(Iv r)∧Hp Z ρ (Pt bp1c0 (.cells #[(Iv p1c0.vars),vp1c0_clauses] 24 (0,0))::L) w'):=by
 refine enter (N:=19) Try.func62 rfl rfl [(0,vp0),(1,(.func (.func 47) #[] #[(Pv bp1c0 0)]))] rfl (bM ⟨rfl,rfl,trivial⟩) fun a hE=>?_
 unfold jM at hm
 refine aG (aB ?_)
 refine S hE 1 rfl fun a hE=>aC (aG ?_)
 refine aG (aB ?_)
 refine S hE 1 rfl fun a hE=>V hE hp rfl (dL rfl hE rfl (bW.len hp0 bC)) fun a hE=>S hE 1 rfl fun a hE=>aC ?_
 obtain⟨b1,hc1,hm⟩:=bnd hm
 refine dH (fun a w=>∃s:Unit,b1= .brk s∧(Env 19 [] a∧Hp Z ρ (Pt bp1c0 (.cells #[(Iv p1c0.vars),vp1c0_clauses] 24 (0,0))::L) w)) ?_ ?_
 ·refine eU hc1 (fun s a w=>Env 19 [(0,vp0),(1,(.func (.func 47) #[] #[(Pv bp1c0 0)])),(7,(Iv (p0.length:Int))),(8,(Iv s))] a∧Hp Z ρ (Pt bp1c0 (.cells #[(Iv p1c0.vars),vp1c0_clauses] 24 (0,0))::L) w) ?_ ?_
  ·exact⟨hE.cut ⟨rfl,rfl,rfl,rfl,trivial⟩,hp⟩
  rintro aW st a w ⟨hE,hp⟩ hl1
  unfold fV at hl1
  refine aG (aB ?_)
  refine S hE 1 rfl fun a hE=>aC (aG ?_)
  refine dK hE rfl (fun hc2=>?_) (fun hc2=>?_)
  ·replace hl1:=(it hc2).symm.trans hl1
   refine bP (aG ?_)
   refine dF (aG ?_)
   refine aB (S hE 2 rfl fun a hE=>?_)
   refine aC (aG ?_)
   refine aB (S hE 3 rfl fun a hE=>?_)
   obtain⟨x1,ex1,hl1⟩:=bnd hl1
   obtain⟨b2,b2o,b2c,b2r,b2k,b2f⟩:=bW.at hp0 bC ex1
   obtain rfl:b2c=Enc.enc x1:=b2k
   have b2f:AtP ρ b2 b2o [(Iv x1)]:=b2f
   refine V hE hp rfl (aU rfl hE rfl rfl b2r) fun a hE=>V hE hp rfl (bD rfl hE rfl (fun w hw=>bH bG (b2f.c 0 rfl w hw))) fun a hE=>?_
   obtain⟨x2,ex2,hl1⟩:=bnd hl1
   refine s_callv (wk0 rfl) rfl rfl hE rfl rfl [(Iv x1)] ⟨rfl,trivial⟩ ent47 (c_solver_fits_1 x1 bp1c0 p1c0 vp1c0_clauses hp1c0_clauses hp x2 ex2) Ret.ret ?_
   intro v a w hR hE
   obtain⟨rfl,hp⟩:=Ret.of hR
   have hp:=r1 hp
   refine aC ?_
   have hE:=hE.cut (E':=[(0,vp0),(1,(.func (.func 47) #[] #[(Pv bp1c0 0)])),(5,(Iv aW)),(7,(Iv (p0.length:Int))),(8,(Iv aW)),(16,(.bool x2))]) ⟨rfl,rfl,rfl,rfl,rfl,rfl,trivial⟩
   refine dK hE rfl (fun hc3=>?_) (fun hc3=>?_)
   ·replace hl1:=(it hc3).symm.trans hl1
    refine aG (aB ?_)
    refine S hE 2 rfl fun a hE=>aC (dE ?_)
    refine⟨_,(oj hl1).symm,fun hb=>?_⟩
    subst hb
    obtain rfl:=oj hm
    exact iH hE rfl rfl ⟨_,rfl,rfl,hp⟩
   replace hl1:=(ie hc3).symm.trans hl1
   refine bP (aB ?_)
   obtain⟨x3,ex3,hl1⟩:=bnd hl1
   refine V hE hp rfl (dD rfl hE rfl rfl (aZ ex3)) fun a hE=>S hE 1 rfl fun a hE=>aC ?_
   exact⟨_,(oj hl1).symm,hE.cut ⟨rfl,rfl,rfl,rfl,trivial⟩,hp⟩
  replace hl1:=(ie hc2).symm.trans hl1
  refine dR ?_
  refine⟨_,(oj hl1).symm,fun hbb=>?_⟩
  exact⟨_,hbb.symm,hE.cut trivial,hp⟩
 rintro a w ⟨b1s,rfl,hE,hp⟩
 dsimp only at hm
 refine aG (aB ?_)
 refine S hE 1 rfl fun a hE=>aC (dE ?_)
 obtain rfl:=oj hm
 exact iH hE rfl rfl ⟨_,rfl,rfl,hp⟩
theorem tZ {Z:World} {ρ:PH} {L:List bZ} {w:World} (p0:(List Int)) (vp0:Value) (hp0:bW ρ vp0 p0) (bp1c0:Nat) (p1c0:Formula) (vp1c0_clauses:Value) (hp1c0_clauses:bW ρ vp1c0_clauses p1c0.clauses) (hp:Hp Z ρ (Pt bp1c0 (.cells #[(Iv p1c0.vars),vp1c0_clauses] 24 (0,0))::L) w) (r:Bool) (hm:gI p0 p1c0=some r):
  Calls Try.prog 44 #[vp0,(.func (.func 47) #[] #[(Pv bp1c0 0)])] w (Ret fun v w'=>v=(.bool r)∧Hp Z ρ (Pt bp1c0 (.cells #[(Iv p1c0.vars),vp1c0_clauses] 24 (0,0))::L) w'):=by
 refine enter (N:=9) Try.func44 rfl rfl [(0,vp0),(1,(.func (.func 47) #[] #[(Pv bp1c0 0)]))] rfl (bM ⟨rfl,rfl,trivial⟩) fun a hE=>?_
 unfold gI at hm
 refine aG (aB ?_)
 refine S hE 1 rfl fun a hE=>aC (aG ?_)
 refine aB (S hE 2 rfl fun a hE=>?_)
 obtain⟨x1,ex1,hm⟩:=bnd hm
 refine Cl hE rfl rfl ent62 (vF p0 vp0 hp0 bp1c0 p1c0 vp1c0_clauses hp1c0_clauses hp x1 ex1) ⟨rfl,rfl,trivial⟩ fun v a w hR hE=>?_
 obtain⟨rfl,hp⟩:=hR
 have hp:=r1 hp
 refine S hE 2 rfl fun a hE=>aC (dE ?_)
 obtain rfl:=oj hm
 exact iH hE rfl rfl ⟨_,rfl,rfl,hp⟩
theorem aB9 {Z:World} {ρ:PH} {L:List bZ} {w:World} (p0:Formula) (aH:Value) (bI:bW ρ aH p0.clauses) (p1:(List Int)) (vp1:Value) (hp1:bW ρ vp1 p1) (p2:Int) (hp:Hp Z ρ (L) w) (r:Bool) (hm:rU p0 p1 p2=some r):
  Calls Try.prog 28 #[(.agg #[(Iv p0.vars),aH]),vp1,(Iv p2)] w (Ret fun v w'=>v=(.bool r)∧Hp Z ρ (L) w'):=by
 refine enter (N:=23) Try.func28 rfl rfl [(0,(.agg #[(Iv p0.vars),aH])),(1,vp1),(2,(Iv p2))] rfl (bM ⟨rfl,rfl,rfl,trivial⟩) fun a hE=>?_
 unfold rU at hm
 refine aG (aB ?_)
 refine rO (wk0 rfl) rfl rfl hE hp rfl (v:=(.agg #[(Iv p0.vars),aH])) rfl ?_
 intro a w b1 hE hp
 have hp:=r1 hp
 refine S hE 1 rfl fun a hE=>aC (aG ?_)
 refine aB (S hE 3 rfl fun a hE=>?_)
 refine lZ [_,_,_] (fun a w=>Env 23 [(12,(.bool ((decide (0≤p2))&&(decide (p2≤65536))))),(1,vp1),(3,(Pv b1 0))] a∧Hp Z ρ (Pt b1 (.cells #[(Iv p0.vars),aH] 24 (0,0))::L) w) ?_ ?_
 ·rcases Bool.eq_false_or_eq_true (decide (0≤p2)) with hc1|hc1
  ·
   refine Gs hE hc1 rfl rfl fun a hE=>Gs hE hc1 rfl rfl fun a hE=>pk1 hE hc1 rfl rfl rfl rfl fun a hE=>?_
   have hE:=hE.eqv (v':=(.bool ((decide (0≤p2))&&(decide (p2≤65536))))) (by rw[hc1];rfl)
   exact aC ⟨hE.cut ⟨rfl,rfl,rfl,trivial⟩,hp⟩
  refine Gk hE hc1 rfl fun a hE=>Gk hE hc1 rfl fun a hE=>pk0 hE hc1 rfl rfl rfl rfl fun a hE=>?_
  have hE:=hE.eqv (v':=(.bool ((decide (0≤p2))&&(decide (p2≤65536))))) (by rw[hc1];rfl)
  exact aC ⟨hE.cut ⟨rfl,rfl,rfl,trivial⟩,hp⟩
 rintro a w ⟨hE,hp⟩
 refine S hE 1 rfl fun a hE=>?_
 obtain⟨m1,hg1,hm⟩:=bnd hm
 refine lZ [_,_,_] (fun a w=>Env 23 [(16,(.bool m1)),(1,vp1),(3,(Pv b1 0))] a∧Hp Z ρ (Pt b1 (.cells #[(Iv p0.vars),aH] 24 (0,0))::L) w) ?_ ?_
 ·rcases Bool.eq_false_or_eq_true ((decide (0≤p2))&&(decide (p2≤65536))) with hc2|hc2
  ·
   replace hg1:=(it hc2).symm.trans hg1
   refine G hE hp hc2 rfl (bD rfl hE rfl (fun w hw=>gB (cs:=[(Iv p0.vars),aH]) fC (Hp.cN 0 rfl 0 _ (bV rfl) w hw))) fun a hE=>?_
   obtain⟨x1,ex1,hg1⟩:=bnd hg1
   refine Cg hE hc2 rfl rfl ent19 (zH p0 aH bI hp x1 ex1) ⟨rfl,trivial⟩ fun v a w hR hE=>?_
   obtain⟨rfl,hp⟩:=hR
   have hp:=r1 hp
   refine pk1 hE hc2 rfl rfl rfl rfl fun a hE=>?_
   obtain rfl:=oj hg1
   exact aC ⟨hE.cut ⟨rfl,rfl,rfl,trivial⟩,hp⟩
  replace hg1:=(ie hc2).symm.trans hg1
  refine Gk hE hc2 rfl fun a hE=>Gk hE hc2 rfl fun a hE=>pk0 hE hc2 rfl rfl rfl rfl fun a hE=>?_
  obtain rfl:=oj hg1
  exact aC ⟨hE.cut ⟨rfl,rfl,rfl,trivial⟩,hp⟩
 rintro a w ⟨hE,hp⟩
 refine S hE 1 rfl fun a hE=>?_
 obtain⟨m2,hg2,hm⟩:=bnd hm
 refine lZ [_,_,_,_,_] (fun a w=>Env 23 [(22,(.bool m2))] a∧Hp Z ρ (Pt b1 (.cells #[(Iv p0.vars),aH] 24 (0,0))::L) w) ?_ ?_
 ·rcases Bool.eq_false_or_eq_true m1 with hc3|hc3
  ·
   replace hg2:=(it hc3).symm.trans hg2
   refine Gs hE hc3 rfl rfl fun a hE=>G hE hp hc3 rfl (v:=(.func (.func 47) #[] #[(Pv b1 0)])) (ex_fn rfl hE [(Pv b1 0)] (by exact⟨rfl,trivial⟩)) fun a hE=>?_
   obtain⟨x2,ex2,hg2⟩:=bnd hg2
   refine Cg hE hc3 rfl rfl ent44 (tZ p1 vp1 hp1 b1 p0 aH bI hp x2 ex2) ⟨rfl,rfl,trivial⟩ fun v a w hR hE=>?_
   obtain⟨rfl,hp⟩:=hR
   have hp:=r1 hp
   refine Gs hE hc3 rfl rfl fun a hE=>pk1 hE hc3 rfl rfl rfl rfl fun a hE=>?_
   obtain rfl:=oj hg2
   exact aC ⟨hE.cut ⟨rfl,trivial⟩,hp⟩
  replace hg2:=(ie hc3).symm.trans hg2
  refine Gk hE hc3 rfl fun a hE=>Gk hE hc3 rfl fun a hE=>Gk hE hc3 rfl fun a hE=>Gk hE hc3 rfl fun a hE=>pk0 hE hc3 rfl rfl rfl rfl fun a hE=>?_
  obtain rfl:=oj hg2
  exact aC ⟨hE.cut ⟨rfl,trivial⟩,hp⟩
 rintro a w ⟨hE,hp⟩
 refine S hE 1 rfl fun a hE=>aC (dE ?_)
 obtain rfl:=oj hm
 exact iH hE rfl rfl ⟨_,rfl,rfl,(hp.drop)⟩
end Go.Proofs.Ytpkhmndpeipfmaa
