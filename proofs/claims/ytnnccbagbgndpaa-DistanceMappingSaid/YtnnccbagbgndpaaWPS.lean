/-
  The code goes as its model: assessor/assessorlaw37.list, assessor/assessorlaw37.cheapest, assessor/assessorlaw37.DistanceMapping. (Printed by wip/sp/gen.py.)
-/
import Derived.Test.YtnnccbagbgndpaaWPM
import Derived.Test.YtnnccbagbgndpaaFct
import Derived.Test.YtnnccbagbgndpaaWS
import Derived.Test.YtnnccbagbgndpaaTyR
set_option linter.unusedVariables false
set_option linter.unusedSimpArgs false
namespace Go.Proofs.Ytnnccbagbgndpaa
open Go.RowKit

/- assessor/assessorlaw37.list -/
set_option maxRecDepth 100000 in
set_option maxHeartbeats 4000000 in
theorem c_assessorlaw37_list_body (self : Node → Int → Option (List LFlat)) (hself : ∀ {Z : World} {ρ : PH} {L : List Atom} {w : World} (p0 : Node) (vp0_kids : Value) (hp0_kids : RoSl ρ vp0_kids p0.kids) (p1 : Int) (hp : Hp Z ρ (L) w) (r : (List LFlat)) (hm : self p0 p1 = some r), Calls Try.prog 18 #[(.agg #[(.int .i64 p0.kind), (.string p0.text), (.int .i64 p0.at_), (.int .i64 p0.fin), vp0_kids]), (.int .i64 p1)] w (Ret fun v w' => ∃ (ρ' : PH) (vr1 : Value), ρ.le ρ' ∧ v = vr1 ∧ RoSl ρ' vr1 r ∧ Hp Z ρ' (L) w')) {Z : World} {ρ : PH} {L : List Atom} {w : World} (p0 : Node) (vp0_kids : Value) (hp0_kids : RoSl ρ vp0_kids p0.kids) (p1 : Int) (hp : Hp Z ρ (L) w) (r : (List LFlat)) (hm : m_assessorlaw37_list_body self p0 p1 = some r) :
    Calls Try.prog 18 #[(.agg #[(.int .i64 p0.kind), (.string p0.text), (.int .i64 p0.at_), (.int .i64 p0.fin), vp0_kids]), (.int .i64 p1)] w (Ret fun v w' => ∃ (ρ' : PH) (vr1 : Value), ρ.le ρ' ∧ v = vr1 ∧ RoSl ρ' vr1 r ∧ Hp Z ρ' (L) w') := by
  refine enter (N := 35) Try.func18 rfl rfl [(0, (.agg #[(.int .i64 p0.kind), (.string p0.text), (.int .i64 p0.at_), (.int .i64 p0.fin), vp0_kids])), (1, (.int .i64 p1))] rfl (argsIn_mem ⟨rfl, rfl, trivial⟩) fun a hE => ?_
  unfold m_assessorlaw37_list_body at hm
  refine k_seq ?_
  refine k_region ?_
  refine s_box (wk0 rfl) rfl rfl hE hp rfl (v := (.agg #[(.int .i64 p0.kind), (.string p0.text), (.int .i64 p0.at_), (.int .i64 p0.fin), vp0_kids])) rfl ?_
  intro a w b1 hE hp
  have hp : Hp Z ρ (Pt b1 (.cells #[(.int .i64 p0.kind), (.string p0.text), (.int .i64 p0.at_), (.int .i64 p0.fin), vp0_kids] 24 (0, 0)) :: L) w := hp
  refine s_val (wk0 rfl) rfl rfl hE hp (v := (.slice none 0 0)) (ex_asn rfl hE rfl) ?_
  intro a hE
  refine s_nil ?_
  refine k_seq ?_
  refine k_region ?_
  refine s_val (wk0 rfl) rfl rfl hE hp (v := (.agg #[(.int .i64 p0.kind), (.string p0.text), (.int .i64 p0.at_), (.int .i64 p0.fin), vp0_kids])) (ex_load rfl hE rfl (fun w hw => run_ldN (cs := [(.int .i64 p0.kind), (.string p0.text), (.int .i64 p0.at_), (.int .i64 p0.fin), vp0_kids]) varty24 (Hp.cN 0 rfl 0 _ (sub_all rfl) w hw))) ?_
  intro a hE
  refine s_val (wk0 rfl) rfl rfl hE hp (v := (.agg #[(.int .i64 p0.kind), (.string p0.text), (.int .i64 p0.at_), (.int .i64 p0.fin), vp0_kids, (.int .i64 0)])) (ex_bld rfl hE [(0, (.agg #[(.int .i64 p0.kind), (.string p0.text), (.int .i64 p0.at_), (.int .i64 p0.fin), vp0_kids]))] (by exact ⟨⟨rfl, rfl⟩, trivial⟩) (fun w => by have hc0 := RoSl.cells hp0_kids; simp only [Value.cells] at hc0; simp [Instr.build, Instr.fill, Value.cells, hc0, go_sem])) ?_
  intro a hE
  refine s_lit (wk0 rfl) rfl rfl hE hp rfl [(0, (.agg #[(.int .i64 p0.kind), (.string p0.text), (.int .i64 p0.at_), (.int .i64 p0.fin), vp0_kids, (.int .i64 0)]))] ⟨⟨rfl, rfl⟩, trivial⟩ [(.int .i64 p0.kind), (.string p0.text), (.int .i64 p0.at_), (.int .i64 p0.fin), vp0_kids, (.int .i64 0)] 73 (fun w => by have hc0 := RoSl.cells hp0_kids; simp only [Value.cells] at hc0; simp [Instr.buildSlice, Instr.fill, Value.cells, hc0, go_sem]) ?_
  intro a w b2 hE hp
  have hp : Hp Z ρ (Pt b2 (.cells #[(.int .i64 p0.kind), (.string p0.text), (.int .i64 p0.at_), (.int .i64 p0.fin), vp0_kids, (.int .i64 0)] 73 (0, 0)) :: _ :: L) w := hp
  refine s_val (wk0 rfl) rfl rfl hE hp (v := (.slice (some ⟨b2, 0, none⟩) 1 1)) (ex_asn rfl hE rfl) ?_
  intro a hE
  refine s_nil ?_
  refine k_seq ?_
  refine k_seq ?_
  refine k_region ?_
  refine s_val (wk0 rfl) rfl rfl hE hp (v := (.pointer (some ⟨b1, 4, none⟩))) (ex_field rfl hE rfl (fldty24_4 _ _)) ?_
  intro a hE
  refine s_val (wk0 rfl) rfl rfl hE hp (v := vp0_kids) (ex_load rfl hE rfl (fun w hw => run_ld1 varty22 (Hp.c 1 rfl 4 rfl w hw))) ?_
  intro a hE
  refine s_val (wk0 rfl) rfl rfl hE hp (v := (.int .i64 (p0.kids.length : Int))) (ex_len rfl hE rfl (RoSl.len hp0_kids slty22)) ?_
  intro a hE
  refine s_val (wk0 rfl) rfl rfl hE hp (v := (.int .i64 0)) (ex_move rfl hE rfl) ?_
  intro a hE
  refine s_nil ?_
  have hR1 : RepAll ρ ([(LFlat.mk p0 0)] : List LFlat) [(.int .i64 p0.kind), (.string p0.text), (.int .i64 p0.at_), (.int .i64 p0.fin), vp0_kids, (.int .i64 0)] := ⟨_, _, rfl, (show LFlatAt ρ (LFlat.mk p0 0) [(.int .i64 p0.kind), (.string p0.text), (.int .i64 p0.at_), (.int .i64 p0.fin), vp0_kids, (.int .i64 0)] from LFlatAt.shut (hp0_kids)), rfl⟩
  have hp := (hp.get 0 rfl).imp (rowR_of_pt (l := ([(LFlat.mk p0 0)] : List LFlat)) (n := 1) (cs := [(.int .i64 p0.kind), (.string p0.text), (.int .i64 p0.at_), (.int .i64 p0.fin), vp0_kids, (.int .i64 0)]) rfl (by decide) rfl)
  have hp : Hp Z ρ (RowR 73 (.slice (some ⟨b2, 0, none⟩) 1 1) (([(LFlat.mk p0 0)] : List LFlat) : (List LFlat)) ([(.int .i64 p0.kind), (.string p0.text), (.int .i64 p0.at_), (.int .i64 p0.fin), vp0_kids, (.int .i64 0)]) :: _ :: L) w := hp
  obtain ⟨b3, hb1, hm⟩ := bnd hm
  refine k_block (fun a w => ∃ (ρ1 : PH) (w2 : Value) (xs2 : List Value), ρ.le ρ1 ∧ RepAll ρ1 (b3 : (List LFlat)) xs2 ∧ Env 35 [(1, (.int .i64 p1)), (5, w2)] a ∧ Hp Z ρ1 (RowR 73 w2 (b3 : (List LFlat)) xs2 :: Pt b1 (.cells #[(.int .i64 p0.kind), (.string p0.text), (.int .i64 p0.at_), (.int .i64 p0.fin), vp0_kids] 24 (0, 0)) :: L) w) ?_ ?_
  · refine k_loop hb1 (fun s a w => ∃ (ρ1 : PH) (w2 : Value) (xs2 : List Value), ρ.le ρ1 ∧ RepAll ρ1 (s.2 : (List LFlat)) xs2 ∧ Env 35 [(1, (.int .i64 p1)), (5, w2), (12, vp0_kids), (13, (.int .i64 (p0.kids.length : Int))), (14, (.int .i64 s.1))] a ∧ Hp Z ρ1 (RowR 73 w2 (s.2 : (List LFlat)) xs2 :: Pt b1 (.cells #[(.int .i64 p0.kind), (.string p0.text), (.int .i64 p0.at_), (.int .i64 p0.fin), vp0_kids] 24 (0, 0)) :: L) w) ?_ ?_
    · exact ⟨ρ, _, _, (PH.le.rf _), hR1, hE.cut ⟨rfl, rfl, rfl, rfl, rfl, trivial⟩, hp⟩
    · rintro ⟨lp1_0, lp1_1⟩ st a w ⟨ρ1, w2, xs2, hlg1, hR2w, hE, hp⟩ hl1
      have hE : Env 35 [(1, (.int .i64 p1)), (5, w2), (12, vp0_kids), (13, (.int .i64 (p0.kids.length : Int))), (14, (.int .i64 lp1_0))] a := hE
      have hp : Hp Z ρ1 (RowR 73 w2 (lp1_1 : (List LFlat)) xs2 :: _ :: L) w := hp
      have hlg1 : ρ.le ρ1 := hlg1
      have hR2w : RepAll ρ1 (lp1_1 : (List LFlat)) xs2 := hR2w
      replace hl1 : m_assessorlaw37_list_body_lp1 p0 p1 self lp1_0 lp1_1 = some st := hl1
      unfold m_assessorlaw37_list_body_lp1 at hl1
      refine k_seq ?_
      refine k_region ?_
      refine s_val (wk0 rfl) rfl rfl hE hp (v := (.bool (decide (lp1_0 < (p0.kids.length : Int))))) (ex_lss rfl hE rfl rfl) ?_
      intro a hE
      refine s_nil ?_
      refine k_seq ?_
      refine k_if hE rfl (fun hb2 => ?_) (fun hb2 => ?_)
      · replace hl1 := (it hb2).symm.trans hl1
        refine k_skip ?_
        refine k_seq ?_
        refine k_plain ?_
        refine k_seq ?_
        refine k_region ?_
        obtain ⟨x1, ex1, hl1⟩ := bnd hl1
        obtain ⟨b4, b4o, b4c, b4r, b4k, b4f⟩ := RoSl.at (RoSl.mono hp0_kids hlg1) slty22 ex1
        obtain ⟨vb4_kids, rfl, hb4_kids⟩ := NodeAt.opens b4k
        have b4f : AtP ρ1 b4 b4o [(.int .i64 x1.kind), (.string x1.text), (.int .i64 x1.at_), (.int .i64 x1.fin), vb4_kids] := b4f
        refine s_val (wk0 rfl) rfl rfl hE hp (v := (.pointer (some ⟨b4, b4o, none⟩))) (ex_index rfl hE rfl rfl b4r) ?_
        intro a hE
        refine s_val (wk0 rfl) rfl rfl hE hp (v := (.agg #[(.int .i64 x1.kind), (.string x1.text), (.int .i64 x1.at_), (.int .i64 x1.fin), vb4_kids])) (ex_load rfl hE rfl (fun w hw => run_ldN (cs := [(.int .i64 x1.kind), (.string x1.text), (.int .i64 x1.at_), (.int .i64 x1.fin), vb4_kids]) varty24 (fun j u hj => cell_of hw.le (b4f j u hj)))) ?_
        intro a hE
        refine s_new (wk0 rfl) rfl rfl hE hp rfl [(.int .i64 0), (.string ByteArray.empty), (.int .i64 0), (.int .i64 0), (.slice none 0 0)] (fun w => by simp [Instr.alloc, go_sem] <;> rfl) ?_
        intro a w b5 hE hp
        have hp : Hp Z ρ1 (Pt b5 (.cells #[(.int .i64 0), (.string ByteArray.empty), (.int .i64 0), (.int .i64 0), (.slice none 0 0)] 24 (0, 0)) :: _ :: _ :: L) w := hp
        refine s_store (wk0 rfl) rfl hE hp rfl rfl rfl 0 rfl varty24.size_ rfl (allOne_mem ⟨rfl, rfl, rfl, rfl, (RoSl.one hb4_kids), trivial⟩) [(.int .i64 x1.kind), (.string x1.text), (.int .i64 x1.at_), (.int .i64 x1.fin), vb4_kids] rfl ?_
        intro w hp
        have hp : Hp Z ρ1 (Pt b5 (.cells #[(.int .i64 x1.kind), (.string x1.text), (.int .i64 x1.at_), (.int .i64 x1.fin), vb4_kids] 24 (0, 0)) :: _ :: _ :: L) w := hp
        refine s_nil ?_
        refine k_region ?_
        refine s_val (wk0 rfl) rfl rfl hE hp (v := w2) (ex_move rfl hE rfl) ?_
        intro a hE
        refine s_val (wk0 rfl) rfl rfl hE hp (v := (.agg #[(.int .i64 x1.kind), (.string x1.text), (.int .i64 x1.at_), (.int .i64 x1.fin), vb4_kids])) (ex_load rfl hE rfl (fun w hw => run_ldN (cs := [(.int .i64 x1.kind), (.string x1.text), (.int .i64 x1.at_), (.int .i64 x1.fin), vb4_kids]) varty24 (Hp.cN 0 rfl 0 _ (sub_all rfl) w hw))) ?_
        intro a hE
        refine s_val (wk0 rfl) rfl rfl hE hp (v := (.int .i64 p1)) (ex_move rfl hE rfl) ?_
        intro a hE
        refine s_val (wk0 rfl) rfl rfl hE hp (v := w2) (ex_move rfl hE rfl) ?_
        intro a hE
        refine s_val (wk0 rfl) rfl rfl hE hp (v := (.int .i64 (lp1_1.length : Int))) (ex_len rfl hE rfl (RowR.len hp 1 rfl slty38)) ?_
        intro a hE
        obtain ⟨x2, ex2, hl1⟩ := bnd hl1
        refine s_val (wk0 rfl) rfl rfl hE hp (v := (.int .i64 x2)) (ex_add rfl hE rfl rfl (inK_some ex2)) ?_
        intro a hE
        obtain ⟨x3, ex3, hl1⟩ := bnd hl1
        refine s_call (wk0 rfl) rfl rfl hE rfl [(.agg #[(.int .i64 x1.kind), (.string x1.text), (.int .i64 x1.at_), (.int .i64 x1.fin), vb4_kids]), (.int .i64 x2)] ⟨rfl, rfl, trivial⟩ ent18 (hself x1 vb4_kids hb4_kids x2 hp x3 ex3) Ret.ret ?_
        intro vr1 a w hR hE
        obtain ⟨ρ2, u, hle1, rfl, hr1, hp⟩ := Ret.of hR
        have hp : Hp Z ρ2 (_ :: _ :: _ :: L) w := hp
        obtain ⟨x4, ex4, hl1⟩ := bnd hl1
        refine s_appsR (wk0 rfl) rfl rfl hE hp rfl slty38 rfl rfl 1 rfl rfl hr1 ex4 ?_
        intro v1 ys1 a w hR3 hE hp
        have hR2 : RepAll ρ2 x4 (xs2 ++ ys1) := (app_some ex4).2 ▸ RepAll.app (RepAll.mono hle1 hR2w) hR3
        have hp : Hp Z ρ2 (_ :: RowR 73 v1 (x4 : (List LFlat)) (xs2 ++ ys1) :: _ :: L) w := hp
        refine s_val (wk0 rfl) rfl rfl hE hp (v := v1) (ex_asn rfl hE rfl) ?_
        intro a hE
        refine s_nil ?_
        have hE := hE.cut (E' := [(1, (.int .i64 p1)), (5, v1), (12, vp0_kids), (13, (.int .i64 (p0.kids.length : Int))), (14, (.int .i64 lp1_0))]) ⟨rfl, rfl, rfl, rfl, rfl, trivial⟩
        refine k_region ?_
        obtain ⟨x5, ex5, hl1⟩ := bnd hl1
        refine s_val (wk0 rfl) rfl rfl hE hp (v := (.int .i64 x5)) (ex_add rfl hE rfl rfl (inK_some ex5)) ?_
        intro a hE
        refine s_val (wk0 rfl) rfl rfl hE hp (v := (.int .i64 x5)) (ex_move rfl hE rfl) ?_
        intro a hE
        refine s_nil ?_
        exact ⟨_, (Option.some.inj hl1).symm, ρ2, _, _, (PH.le.tr hlg1 hle1), hR2, hE.cut ⟨rfl, rfl, rfl, rfl, rfl, trivial⟩, (hp.drop)⟩
      · replace hl1 := (ie hb2).symm.trans hl1
        refine k_exit ?_
        refine ⟨_, (Option.some.inj hl1).symm, fun hbb => ?_⟩
        subst hbb
        exact ⟨ρ1, _, _, hlg1, hR2w, hE.cut ⟨rfl, rfl, trivial⟩, hp⟩
  · rintro a w ⟨ρ1, w2, xs2, hlg1, hR2w, hE, hp⟩
    refine k_seq ?_
    refine k_region ?_
    refine s_val (wk0 rfl) rfl rfl hE hp (v := w2) (ex_move rfl hE rfl) ?_
    intro a hE
    refine s_val (wk0 rfl) rfl rfl hE hp (v := (.int .i64 p1)) (ex_move rfl hE rfl) ?_
    intro a hE
    refine s_val (wk0 rfl) rfl rfl hE hp (v := w2) (ex_move rfl hE rfl) ?_
    intro a hE
    refine s_val (wk0 rfl) rfl rfl hE hp (v := (.int .i64 (b3.length : Int))) (ex_len rfl hE rfl (RowR.len hp 0 rfl slty38)) ?_
    intro a hE
    obtain ⟨x6, ex6, hm⟩ := bnd hm
    refine s_val (wk0 rfl) rfl rfl hE hp (v := (.int .i64 x6)) (ex_add rfl hE rfl rfl (inK_some ex6)) ?_
    intro a hE
    obtain ⟨x7, ex7, hm⟩ := bnd hm
    obtain ⟨b6, b6o, b6c, b6r, b6v, b6k, b6f⟩ := RowR.at hp 0 rfl hR2w slty38 ex7
    obtain ⟨vb6_n_kids, rfl, hb6_n_kids⟩ := LFlatAt.opens b6k
    have b6f : ∀ (j : Nat) (u : Value), ([(.int .i64 x7.n.kind), (.string x7.n.text), (.int .i64 x7.n.at_), (.int .i64 x7.n.fin), vb6_n_kids, (.int .i64 x7.last)] : List Value)[j]? = some u → ∀ ρ' L' w, Hp Z ρ' (RowR 73 w2 (b3 : (List LFlat)) xs2 :: L') w → w.cell? ⟨b6, b6o + j, none⟩ = some u := b6f
    refine s_val (wk0 rfl) rfl rfl hE hp (v := (.pointer (some ⟨b6, b6o, none⟩))) (ex_index rfl hE rfl rfl b6r) ?_
    intro a hE
    refine s_val (wk0 rfl) rfl rfl hE hp (v := (.pointer (some ⟨b6, b6o + 5, none⟩))) (ex_field rfl hE rfl (fldty73_1 _ _)) ?_
    intro a hE
    refine s_stelR (wk0 rfl) rfl hE hp rfl rfl rfl 0 rfl hR2w ex7 b6v 5 (e' := (LFlat.mk x7.n x6)) (us := [(.int .i64 x6)]) (cs := [(.int .i64 x7.n.kind), (.string x7.n.text), (.int .i64 x7.n.at_), (.int .i64 x7.n.fin), vb6_n_kids, (.int .i64 x7.last)]) varty3.size_ rfl rfl (show LFlatAt ρ1 x7 [(.int .i64 x7.n.kind), (.string x7.n.text), (.int .i64 x7.n.at_), (.int .i64 x7.n.fin), vb6_n_kids, (.int .i64 x7.last)] from LFlatAt.shutv (hb6_n_kids)) (fun q z hz => b6f q z hz _ _ w (hp.get 0 rfl)) (show LFlatAt ρ1 (LFlat.mk x7.n x6) [(.int .i64 x7.n.kind), (.string x7.n.text), (.int .i64 x7.n.at_), (.int .i64 x7.n.fin), vb6_n_kids, (.int .i64 x6)] from LFlatAt.shut (hb6_n_kids)) rfl ?_
    intro w xs1 hR4 hp
    have hp : Hp Z ρ1 (RowR 73 w2 (b3.set (0 : Int).toNat (LFlat.mk x7.n x6) : (List LFlat)) xs1 :: _ :: L) w := hp
    refine s_nil ?_
    refine k_seq ?_
    refine k_region ?_
    refine s_val (wk0 rfl) rfl rfl hE hp (v := w2) (ex_move rfl hE rfl) ?_
    intro a hE
    refine s_val (wk0 rfl) rfl rfl hE hp (v := w2) (ex_asn rfl hE rfl) ?_
    intro a hE
    refine s_nil ?_
    refine k_ret ?_
    obtain ⟨k1, k1a, k1d, hp⟩ := (hp.get 0 rfl).lend
    have f1 : RoSl (ρ1.un k1) w2 (b3.set (0 : Int).toNat (LFlat.mk x7.n x6)) := RowR.ro k1d k1a hR4
    have hp : Hp Z (ρ1.un k1) (_ :: L) w := hp
    obtain rfl := Option.some.inj hm
    exact ret1 hE rfl rfl ⟨_, rfl, _, _, (PH.le.tr hlg1 (PH.le_un _ k1)), rfl, f1, (hp.drop)⟩
theorem c_assessorlaw37_list_r : ∀ (n : Nat), ∀ {Z : World} {ρ : PH} {L : List Atom} {w : World} (p0 : Node) (vp0_kids : Value) (hp0_kids : RoSl ρ vp0_kids p0.kids) (p1 : Int) (hp : Hp Z ρ (L) w) (r : (List LFlat)) (hm : m_assessorlaw37_list_r n p0 p1 = some r), Calls Try.prog 18 #[(.agg #[(.int .i64 p0.kind), (.string p0.text), (.int .i64 p0.at_), (.int .i64 p0.fin), vp0_kids]), (.int .i64 p1)] w (Ret fun v w' => ∃ (ρ' : PH) (vr1 : Value), ρ.le ρ' ∧ v = vr1 ∧ RoSl ρ' vr1 r ∧ Hp Z ρ' (L) w') := by
  intro n
  induction n with
  | zero => intro Z ρ L w p0 vp0_kids hp0_kids p1 hp r hm; cases hm
  | succ n ih => intro Z ρ L w p0 vp0_kids hp0_kids p1 hp r hm; exact c_assessorlaw37_list_body (m_assessorlaw37_list_r n) ih p0 vp0_kids hp0_kids p1 hp r hm
theorem c_assessorlaw37_list {Z : World} {ρ : PH} {L : List Atom} {w : World} (p0 : Node) (vp0_kids : Value) (hp0_kids : RoSl ρ vp0_kids p0.kids) (p1 : Int) (hp : Hp Z ρ (L) w) (r : (List LFlat)) (hm : m_assessorlaw37_list p0 p1 = some r) :
    Calls Try.prog 18 #[(.agg #[(.int .i64 p0.kind), (.string p0.text), (.int .i64 p0.at_), (.int .i64 p0.fin), vp0_kids]), (.int .i64 p1)] w (Ret fun v w' => ∃ (ρ' : PH) (vr1 : Value), ρ.le ρ' ∧ v = vr1 ∧ RoSl ρ' vr1 r ∧ Hp Z ρ' (L) w') := c_assessorlaw37_list_r _ p0 vp0_kids hp0_kids p1 hp r hm
/- assessor/assessorlaw37.cheapest -/
set_option maxRecDepth 100000 in
set_option maxHeartbeats 4000000 in
theorem c_assessorlaw37_cheapest_body (self : (List LFlat) → (List LFlat) → (List Int) → Option Int) (hself : ∀ {Z : World} {ρ : PH} {L : List Atom} {w : World} (p0 : (List LFlat)) (vp0 : Value) (hp0 : RoSl ρ vp0 p0) (p1 : (List LFlat)) (vp1 : Value) (hp1 : RoSl ρ vp1 p1) (p2 : (List Int)) (vp2 : Value) (hp2 : RoSl ρ vp2 p2) (hp : Hp Z ρ (L) w) (r : Int) (hm : self p0 p1 p2 = some r), Calls Try.prog 17 #[vp0, vp1, vp2] w (Ret fun v w' => v = (.int .i64 r) ∧ Hp Z ρ (L) w')) {Z : World} {ρ : PH} {L : List Atom} {w : World} (p0 : (List LFlat)) (vp0 : Value) (hp0 : RoSl ρ vp0 p0) (p1 : (List LFlat)) (vp1 : Value) (hp1 : RoSl ρ vp1 p1) (p2 : (List Int)) (vp2 : Value) (hp2 : RoSl ρ vp2 p2) (hp : Hp Z ρ (L) w) (r : Int) (hm : m_assessorlaw37_cheapest_body self p0 p1 p2 = some r) :
    Calls Try.prog 17 #[vp0, vp1, vp2] w (Ret fun v w' => v = (.int .i64 r) ∧ Hp Z ρ (L) w') := by
  refine enter (N := 114) Try.func17 rfl rfl [(0, vp0), (1, vp1), (2, vp2)] rfl (argsIn_mem ⟨rfl, rfl, rfl, trivial⟩) fun a hE => ?_
  unfold m_assessorlaw37_cheapest_body at hm
  refine k_seq ?_
  refine k_region ?_
  refine s_val (wk0 rfl) rfl rfl hE hp (v := (.int .i64 0)) (ex_asn rfl hE rfl) ?_
  intro a hE
  refine s_nil ?_
  refine k_seq ?_
  refine k_region ?_
  refine s_val (wk0 rfl) rfl rfl hE hp (v := vp2) (ex_move rfl hE rfl) ?_
  intro a hE
  refine s_val (wk0 rfl) rfl rfl hE hp (v := (.int .i64 (p2.length : Int))) (ex_len rfl hE rfl (RoSl.len hp2 slty34)) ?_
  intro a hE
  refine s_val (wk0 rfl) rfl rfl hE hp (v := (.int .i64 (p2.length : Int))) (ex_asn rfl hE rfl) ?_
  intro a hE
  refine s_nil ?_
  refine k_seq ?_
  refine k_seq ?_
  refine k_region ?_
  refine s_val (wk0 rfl) rfl rfl hE hp (v := (.int .i64 (p2.length : Int))) (ex_move rfl hE rfl) ?_
  intro a hE
  refine s_val (wk0 rfl) rfl rfl hE hp (v := vp0) (ex_move rfl hE rfl) ?_
  intro a hE
  refine s_val (wk0 rfl) rfl rfl hE hp (v := (.int .i64 (p0.length : Int))) (ex_len rfl hE rfl (RoSl.len hp0 slty38)) ?_
  intro a hE
  refine s_val (wk0 rfl) rfl rfl hE hp (v := (.bool (decide ((p2.length : Int) = (p0.length : Int))))) (ex_eql rfl hE rfl rfl) ?_
  intro a hE
  refine s_nil ?_
  refine k_if hE rfl (fun hb1 => ?_) (fun hb1 => ?_)
  · replace hm := (it hb1).symm.trans hm
    refine k_seq ?_
    refine k_region ?_
    refine s_val (wk0 rfl) rfl rfl hE hp (v := vp1) (ex_move rfl hE rfl) ?_
    intro a hE
    refine s_val (wk0 rfl) rfl rfl hE hp (v := (.int .i64 (p1.length : Int))) (ex_len rfl hE rfl (RoSl.len hp1 slty38)) ?_
    intro a hE
    refine s_val (wk0 rfl) rfl rfl hE hp (v := (.int .i64 (p1.length : Int))) (ex_asn rfl hE rfl) ?_
    intro a hE
    refine s_nil ?_
    refine k_seq ?_
    refine k_seq ?_
    refine k_region ?_
    refine s_val (wk0 rfl) rfl rfl hE hp (v := vp2) (ex_move rfl hE rfl) ?_
    intro a hE
    refine s_val (wk0 rfl) rfl rfl hE hp (v := (.int .i64 (p2.length : Int))) (ex_len rfl hE rfl (RoSl.len hp2 slty34)) ?_
    intro a hE
    refine s_val (wk0 rfl) rfl rfl hE hp (v := (.int .i64 0)) (ex_move rfl hE rfl) ?_
    intro a hE
    refine s_nil ?_
    obtain ⟨b1, hb2, hm⟩ := bnd hm
    refine k_block (fun a w => Env 114 [(8, (.int .i64 b1))] a ∧ Hp Z ρ (L) w) ?_ ?_
    · refine k_loop hb2 (fun s a w => Env 114 [(0, vp0), (1, vp1), (8, (.int .i64 s.1)), (24, vp2), (25, (.int .i64 (p2.length : Int))), (26, (.int .i64 s.2))] a ∧ Hp Z ρ (L) w) ?_ ?_
      · exact ⟨hE.cut ⟨rfl, rfl, rfl, rfl, rfl, rfl, trivial⟩, hp⟩
      · rintro ⟨lp1_0, lp1_1⟩ st a w ⟨hE, hp⟩ hl1
        have hE : Env 114 [(0, vp0), (1, vp1), (8, (.int .i64 lp1_0)), (24, vp2), (25, (.int .i64 (p2.length : Int))), (26, (.int .i64 lp1_1))] a := hE
        have hp : Hp Z ρ (L) w := hp
        replace hl1 : m_assessorlaw37_cheapest_body_lp1 p0 p1 p2 lp1_0 lp1_1 = some st := hl1
        unfold m_assessorlaw37_cheapest_body_lp1 at hl1
        refine k_seq ?_
        refine k_region ?_
        refine s_val (wk0 rfl) rfl rfl hE hp (v := (.bool (decide (lp1_1 < (p2.length : Int))))) (ex_lss rfl hE rfl rfl) ?_
        intro a hE
        refine s_nil ?_
        refine k_seq ?_
        refine k_if hE rfl (fun hb3 => ?_) (fun hb3 => ?_)
        · replace hl1 := (it hb3).symm.trans hl1
          refine k_skip ?_
          refine k_seq ?_
          refine k_plain ?_
          refine k_seq ?_
          refine k_region ?_
          refine s_val (wk0 rfl) rfl rfl hE hp (v := (.int .i64 lp1_1)) (ex_move rfl hE rfl) ?_
          intro a hE
          obtain ⟨x1, ex1, hl1⟩ := bnd hl1
          obtain ⟨b2, b2o, b2c, b2r, b2k, b2f⟩ := RoSl.at hp2 slty34 ex1
          obtain rfl : b2c = Enc.enc x1 := b2k
          have b2f : AtP ρ b2 b2o [(.int .i64 x1)] := b2f
          refine s_val (wk0 rfl) rfl rfl hE hp (v := (.pointer (some ⟨b2, b2o, none⟩))) (ex_index rfl hE rfl rfl b2r) ?_
          intro a hE
          refine s_val (wk0 rfl) rfl rfl hE hp (v := (.int .i64 x1)) (ex_load rfl hE rfl (fun w hw => run_ld1 varty3 (b2f.c 0 rfl w hw))) ?_
          intro a hE
          refine s_val (wk0 rfl) rfl rfl hE hp (v := (.int .i64 lp1_1)) (ex_asn rfl hE rfl) ?_
          intro a hE
          refine s_val (wk0 rfl) rfl rfl hE hp (v := (.int .i64 x1)) (ex_asn rfl hE rfl) ?_
          intro a hE
          refine s_nil ?_
          refine k_plain ?_
          refine k_seq ?_
          refine k_region ?_
          refine s_val (wk0 rfl) rfl rfl hE hp (v := (.int .i64 x1)) (ex_move rfl hE rfl) ?_
          intro a hE
          refine s_val (wk0 rfl) rfl rfl hE hp (v := (.bool (decide (x1 < 0)))) (ex_lss rfl hE rfl rfl) ?_
          intro a hE
          refine s_val (wk0 rfl) rfl rfl hE hp (v := (.bool (decide (x1 < 0)))) (ex_asn rfl hE rfl) ?_
          intro a hE
          refine s_nil ?_
          refine k_if hE rfl (fun hb4 => ?_) (fun hb4 => ?_)
          · replace hl1 := (it hb4).symm.trans hl1
            refine k_region ?_
            refine s_val (wk0 rfl) rfl rfl hE hp (v := (.int .i64 lp1_0)) (ex_move rfl hE rfl) ?_
            intro a hE
            obtain ⟨x2, ex2, hl1⟩ := bnd hl1
            refine s_val (wk0 rfl) rfl rfl hE hp (v := (.int .i64 x2)) (ex_add rfl hE rfl rfl (inK_some ex2)) ?_
            intro a hE
            refine s_val (wk0 rfl) rfl rfl hE hp (v := (.int .i64 x2)) (ex_asn rfl hE rfl) ?_
            intro a hE
            refine s_nil ?_
            refine k_region ?_
            obtain ⟨x3, ex3, hl1⟩ := bnd hl1
            refine s_val (wk0 rfl) rfl rfl hE hp (v := (.int .i64 x3)) (ex_add rfl hE rfl rfl (inK_some ex3)) ?_
            intro a hE
            refine s_val (wk0 rfl) rfl rfl hE hp (v := (.int .i64 x3)) (ex_move rfl hE rfl) ?_
            intro a hE
            refine s_nil ?_
            exact ⟨_, (Option.some.inj hl1).symm, hE.cut ⟨rfl, rfl, rfl, rfl, rfl, rfl, trivial⟩, hp⟩
          · replace hl1 := (ie hb4).symm.trans hl1
            refine k_seq ?_
            refine k_quiet (by kernel_rfl) (by kernel_rfl) hp ?_
            refine q_val (wk0 rfl) rfl rfl hE (v := vp0) (ex_move rfl hE rfl) ?_
            intro a hE
            refine q_val (wk0 rfl) rfl rfl hE (v := (.int .i64 lp1_1)) (ex_move rfl hE rfl) ?_
            intro a hE
            obtain ⟨x4, ex4, hl1⟩ := bnd hl1
            obtain ⟨b3, b3o, b3c, b3r, b3k, b3f⟩ := RoSl.at hp0 slty38 ex4
            obtain ⟨vb3_n_kids, rfl, hb3_n_kids⟩ := LFlatAt.opens b3k
            have b3f : AtP ρ b3 b3o [(.int .i64 x4.n.kind), (.string x4.n.text), (.int .i64 x4.n.at_), (.int .i64 x4.n.fin), vb3_n_kids, (.int .i64 x4.last)] := b3f
            refine q_val (wk0 rfl) rfl rfl hE (v := (.pointer (some ⟨b3, b3o, none⟩))) (ex_index rfl hE rfl rfl b3r) ?_
            intro a hE
            refine q_val (wk0 rfl) rfl rfl hE (v := (.pointer (some ⟨b3, b3o, none⟩))) (ex_field rfl hE rfl (fldty73_0 _ _)) ?_
            intro a hE
            refine q_val (wk0 rfl) rfl rfl hE (v := (.agg #[(.int .i64 x4.n.kind), (.string x4.n.text), (.int .i64 x4.n.at_), (.int .i64 x4.n.fin), vb3_n_kids])) (ex_load rfl hE rfl (fun w hw => run_ldN (cs := [(.int .i64 x4.n.kind), (.string x4.n.text), (.int .i64 x4.n.at_), (.int .i64 x4.n.fin), vb3_n_kids]) varty24 (fun j u hj => by have hq := cell_of hw.le (b3f (0 + j) u (sub_all (o := 0) rfl j u hj)); rw [← Nat.add_assoc] at hq; exact hq))) ?_
            intro a hE
            refine q_val (wk0 rfl) rfl rfl hE (v := vp1) (ex_move rfl hE rfl) ?_
            intro a hE
            refine q_val (wk0 rfl) rfl rfl hE (v := (.int .i64 x1)) (ex_move rfl hE rfl) ?_
            intro a hE
            obtain ⟨x5, ex5, hl1⟩ := bnd hl1
            obtain ⟨b4, b4o, b4c, b4r, b4k, b4f⟩ := RoSl.at hp1 slty38 ex5
            obtain ⟨vb4_n_kids, rfl, hb4_n_kids⟩ := LFlatAt.opens b4k
            have b4f : AtP ρ b4 b4o [(.int .i64 x5.n.kind), (.string x5.n.text), (.int .i64 x5.n.at_), (.int .i64 x5.n.fin), vb4_n_kids, (.int .i64 x5.last)] := b4f
            refine q_val (wk0 rfl) rfl rfl hE (v := (.pointer (some ⟨b4, b4o, none⟩))) (ex_index rfl hE rfl rfl b4r) ?_
            intro a hE
            refine q_val (wk0 rfl) rfl rfl hE (v := (.pointer (some ⟨b4, b4o, none⟩))) (ex_field rfl hE rfl (fldty73_0 _ _)) ?_
            intro a hE
            refine q_val (wk0 rfl) rfl rfl hE (v := (.agg #[(.int .i64 x5.n.kind), (.string x5.n.text), (.int .i64 x5.n.at_), (.int .i64 x5.n.fin), vb4_n_kids])) (ex_load rfl hE rfl (fun w hw => run_ldN (cs := [(.int .i64 x5.n.kind), (.string x5.n.text), (.int .i64 x5.n.at_), (.int .i64 x5.n.fin), vb4_n_kids]) varty24 (fun j u hj => by have hq := cell_of hw.le (b4f (0 + j) u (sub_all (o := 0) rfl j u hj)); rw [← Nat.add_assoc] at hq; exact hq))) ?_
            intro a hE
            obtain ⟨x6, ex6, hl1⟩ := bnd hl1
            refine q_call (wk0 rfl) rfl rfl hE rfl [(.agg #[(.int .i64 x4.n.kind), (.string x4.n.text), (.int .i64 x4.n.at_), (.int .i64 x4.n.fin), vb3_n_kids]), (.agg #[(.int .i64 x5.n.kind), (.string x5.n.text), (.int .i64 x5.n.at_), (.int .i64 x5.n.fin), vb4_n_kids])] ⟨rfl, rfl, trivial⟩ ent35 (v := (.bool x6)) (fun w hw => Calls.mono (c_assessorref37_Label x4.n vb3_n_kids hb3_n_kids x5.n vb4_n_kids hb4_n_kids hw x6 ex6) fun e w' ⟨v, he, hv, hh⟩ => ⟨by rw [he, hv], hh⟩) ?_
            intro a hE
            refine q_val (wk0 rfl) rfl rfl hE (v := (.bool x6)) (ex_asn rfl hE rfl) ?_
            intro a hE
            refine q_nil fun w hp => ?_
            have hp : Hp Z ρ (L) w := hp
            have hE := hE.cut (E' := [(0, vp0), (1, vp1), (8, (.int .i64 lp1_0)), (24, vp2), (25, (.int .i64 (p2.length : Int))), (26, (.int .i64 lp1_1)), (36, (.bool x6))]) ⟨rfl, rfl, rfl, rfl, rfl, rfl, rfl, trivial⟩
            refine k_if hE rfl (fun hb5 => ?_) (fun hb5 => ?_)
            · replace hl1 := (it hb5).symm.trans hl1
              refine k_region ?_
              refine s_val (wk0 rfl) rfl rfl hE hp (v := (.int .i64 lp1_0)) (ex_move rfl hE rfl) ?_
              intro a hE
              obtain ⟨x7, ex7, hl1⟩ := bnd hl1
              refine s_val (wk0 rfl) rfl rfl hE hp (v := (.int .i64 x7)) (ex_sub rfl hE rfl rfl (inK_some ex7)) ?_
              intro a hE
              refine s_val (wk0 rfl) rfl rfl hE hp (v := (.int .i64 x7)) (ex_asn rfl hE rfl) ?_
              intro a hE
              refine s_nil ?_
              refine k_region ?_
              obtain ⟨x8, ex8, hl1⟩ := bnd hl1
              refine s_val (wk0 rfl) rfl rfl hE hp (v := (.int .i64 x8)) (ex_add rfl hE rfl rfl (inK_some ex8)) ?_
              intro a hE
              refine s_val (wk0 rfl) rfl rfl hE hp (v := (.int .i64 x8)) (ex_move rfl hE rfl) ?_
              intro a hE
              refine s_nil ?_
              exact ⟨_, (Option.some.inj hl1).symm, hE.cut ⟨rfl, rfl, rfl, rfl, rfl, rfl, trivial⟩, hp⟩
            · replace hl1 := (ie hb5).symm.trans hl1
              refine k_skip ?_
              refine k_region ?_
              obtain ⟨x9, ex9, hl1⟩ := bnd hl1
              refine s_val (wk0 rfl) rfl rfl hE hp (v := (.int .i64 x9)) (ex_add rfl hE rfl rfl (inK_some ex9)) ?_
              intro a hE
              refine s_val (wk0 rfl) rfl rfl hE hp (v := (.int .i64 x9)) (ex_move rfl hE rfl) ?_
              intro a hE
              refine s_nil ?_
              exact ⟨_, (Option.some.inj hl1).symm, hE.cut ⟨rfl, rfl, rfl, rfl, rfl, rfl, trivial⟩, hp⟩
        · replace hl1 := (ie hb3).symm.trans hl1
          refine k_exit ?_
          refine ⟨_, (Option.some.inj hl1).symm, fun hbb => ?_⟩
          subst hbb
          exact ⟨hE.cut ⟨rfl, trivial⟩, hp⟩
    · rintro a w ⟨hE, hp⟩
      refine k_seq ?_
      refine k_region ?_
      refine s_val (wk0 rfl) rfl rfl hE hp (v := (.int .i64 b1)) (ex_move rfl hE rfl) ?_
      intro a hE
      refine s_val (wk0 rfl) rfl rfl hE hp (v := (.int .i64 b1)) (ex_asn rfl hE rfl) ?_
      intro a hE
      refine s_nil ?_
      refine k_ret ?_
      obtain rfl := Option.some.inj hm
      exact ret1 hE rfl rfl ⟨_, rfl, rfl, hp⟩
  · replace hm := (ie hb1).symm.trans hm
    refine k_skip ?_
    refine k_seq ?_
    refine k_region ?_
    refine s_val (wk0 rfl) rfl rfl hE hp (v := vp0) (ex_move rfl hE rfl) ?_
    intro a hE
    refine s_val (wk0 rfl) rfl rfl hE hp (v := vp1) (ex_move rfl hE rfl) ?_
    intro a hE
    refine s_lit (wk0 rfl) rfl rfl hE hp rfl [] trivial [] 3 (fun w => by simp [Instr.buildSlice, Instr.fill, Value.cells, go_sem]) ?_
    intro a w b5 hE hp
    have hp : Hp Z ρ (Pt b5 (.cells #[] 3 (0, 0)) :: L) w := hp
    refine s_val (wk0 rfl) rfl rfl hE hp (v := vp2) (ex_move rfl hE rfl) ?_
    intro a hE
    have hp := (hp.get 0 rfl).imp (own_of_pt (l := (([] : List Int) : List Int)) (n := 0) rfl (by decide) rfl)
    have hp : Hp Z ρ (OwnSl 3 (.slice (some ⟨b5, 0, none⟩) 0 0) ([] : List Int) :: L) w := hp
    obtain ⟨x10, ex10, hm⟩ := bnd hm
    refine s_apps (wk0 rfl) rfl rfl hE hp rfl slty34 rfl rfl 0 rfl rfl hp2 ex10 ?_
    intro v1 a w hE hp
    have hp : Hp Z ρ (OwnSl 3 v1 x10 :: L) w := hp
    refine s_lit (wk0 rfl) rfl rfl hE hp rfl [(0, (.int .i64 (-1)))] ⟨⟨rfl, rfl⟩, trivial⟩ [(.int .i64 (-1))] 3 (fun w => by simp [Instr.buildSlice, Instr.fill, Value.cells, go_sem]) ?_
    intro a w b6 hE hp
    have hp : Hp Z ρ (Pt b6 (.cells #[(.int .i64 (-1))] 3 (0, 0)) :: _ :: L) w := hp
    obtain ⟨x11, ex11, hm⟩ := bnd hm
    refine s_app (wk0 rfl) rfl rfl hE hp rfl slty34 rfl rfl 1 rfl rfl (l2 := [(-1)]) rfl (fun j u hj => by have := Hp.cN 0 rfl 0 _ (sub_all rfl) w hp j u hj; simpa using this) ex11 ?_
    intro v2 a w hE hp
    have hp : Hp Z ρ (_ :: OwnSl 3 v2 x11 :: L) w := hp
    obtain ⟨k1, k1a, k1d, k1h⟩ := (hp.get 1 rfl).lend
    obtain ⟨x12, ex12, hm⟩ := bnd hm
    refine s_call (wk0 rfl) rfl rfl hE rfl [vp0, vp1, v2] ⟨rfl, rfl, rfl, trivial⟩ ent17 (hself p0 vp0 (RoSl.mono hp0 (PH.le_un _ _)) p1 vp1 (RoSl.mono hp1 (PH.le_un _ _)) x11 v2 (OwnSl.ro k1d k1a) k1h x12 ex12) Ret.ret ?_
    intro v a w hR hE
    obtain ⟨rfl, hp⟩ := Ret.of hR
    have hp := Hp.back k1a k1d hp
    have hp : Hp Z ρ (_ :: _ :: L) w := hp
    refine s_val (wk0 rfl) rfl rfl hE hp (v := (.int .i64 x12)) (ex_asn rfl hE rfl) ?_
    intro a hE
    refine s_nil ?_
    have hE := hE.cut (E' := [(0, vp0), (1, vp1), (2, vp2), (7, (.int .i64 (p2.length : Int))), (11, (.int .i64 x12))]) ⟨rfl, rfl, rfl, rfl, rfl, trivial⟩
    refine k_seq ?_
    refine k_seq ?_
    refine k_region ?_
    refine s_val (wk0 rfl) rfl rfl hE hp (v := vp1) (ex_move rfl hE rfl) ?_
    intro a hE
    refine s_val (wk0 rfl) rfl rfl hE hp (v := (.int .i64 (p1.length : Int))) (ex_len rfl hE rfl (RoSl.len hp1 slty38)) ?_
    intro a hE
    refine s_val (wk0 rfl) rfl rfl hE hp (v := (.int .i64 0)) (ex_move rfl hE rfl) ?_
    intro a hE
    refine s_nil ?_
    obtain ⟨b7, hb6, hm⟩ := bnd hm
    refine k_block (fun a w => Env 114 [(11, (.int .i64 b7))] a ∧ Hp Z ρ (OwnSl 3 v2 x11 :: Pt b6 (.cells #[(.int .i64 (-1))] 3 (0, 0)) :: L) w) ?_ ?_
    · refine k_loop hb6 (fun s a w => Env 114 [(0, vp0), (1, vp1), (2, vp2), (7, (.int .i64 (p2.length : Int))), (11, (.int .i64 s.1)), (61, (.int .i64 (p1.length : Int))), (62, (.int .i64 s.2))] a ∧ Hp Z ρ (OwnSl 3 v2 x11 :: Pt b6 (.cells #[(.int .i64 (-1))] 3 (0, 0)) :: L) w) ?_ ?_
      · exact ⟨hE.cut ⟨rfl, rfl, rfl, rfl, rfl, rfl, rfl, trivial⟩, hp⟩
      · rintro ⟨lp2_0, lp2_1⟩ st a w ⟨hE, hp⟩ hl2
        have hE : Env 114 [(0, vp0), (1, vp1), (2, vp2), (7, (.int .i64 (p2.length : Int))), (11, (.int .i64 lp2_0)), (61, (.int .i64 (p1.length : Int))), (62, (.int .i64 lp2_1))] a := hE
        have hp : Hp Z ρ (_ :: _ :: L) w := hp
        replace hl2 : m_assessorlaw37_cheapest_body_lp2 p0 p1 p2 self lp2_0 lp2_1 = some st := hl2
        unfold m_assessorlaw37_cheapest_body_lp2 at hl2
        refine k_seq ?_
        refine k_region ?_
        refine s_val (wk0 rfl) rfl rfl hE hp (v := (.bool (decide (lp2_1 < (p1.length : Int))))) (ex_lss rfl hE rfl rfl) ?_
        intro a hE
        refine s_nil ?_
        refine k_seq ?_
        refine k_if hE rfl (fun hb7 => ?_) (fun hb7 => ?_)
        · replace hl2 := (it hb7).symm.trans hl2
          refine k_skip ?_
          refine k_seq ?_
          refine k_plain ?_
          refine k_seq ?_
          refine k_region ?_
          refine s_val (wk0 rfl) rfl rfl hE hp (v := (.int .i64 lp2_1)) (ex_move rfl hE rfl) ?_
          intro a hE
          refine s_val (wk0 rfl) rfl rfl hE hp (v := (.int .i64 lp2_1)) (ex_asn rfl hE rfl) ?_
          intro a hE
          refine s_nil ?_
          refine k_seq ?_
          refine k_region ?_
          refine s_val (wk0 rfl) rfl rfl hE hp (v := (.bool true)) (ex_asn rfl hE rfl) ?_
          intro a hE
          refine s_nil ?_
          refine k_seq ?_
          refine k_seq ?_
          refine k_region ?_
          refine s_val (wk0 rfl) rfl rfl hE hp (v := vp2) (ex_move rfl hE rfl) ?_
          intro a hE
          refine s_val (wk0 rfl) rfl rfl hE hp (v := (.int .i64 (p2.length : Int))) (ex_len rfl hE rfl (RoSl.len hp2 slty34)) ?_
          intro a hE
          refine s_val (wk0 rfl) rfl rfl hE hp (v := (.int .i64 0)) (ex_move rfl hE rfl) ?_
          intro a hE
          refine s_nil ?_
          obtain ⟨b8, hb8, hl2⟩ := bnd hl2
          refine k_block (fun a w => Env 114 [(0, vp0), (1, vp1), (2, vp2), (7, (.int .i64 (p2.length : Int))), (11, (.int .i64 lp2_0)), (12, (.int .i64 lp2_1)), (13, (.bool b8)), (61, (.int .i64 (p1.length : Int))), (62, (.int .i64 lp2_1))] a ∧ Hp Z ρ (OwnSl 3 v2 x11 :: Pt b6 (.cells #[(.int .i64 (-1))] 3 (0, 0)) :: L) w) ?_ ?_
          · refine k_loop hb8 (fun s a w => Env 114 [(0, vp0), (1, vp1), (2, vp2), (7, (.int .i64 (p2.length : Int))), (11, (.int .i64 lp2_0)), (12, (.int .i64 lp2_1)), (13, (.bool s.1)), (61, (.int .i64 (p1.length : Int))), (62, (.int .i64 lp2_1)), (65, vp2), (66, (.int .i64 (p2.length : Int))), (67, (.int .i64 s.2))] a ∧ Hp Z ρ (OwnSl 3 v2 x11 :: Pt b6 (.cells #[(.int .i64 (-1))] 3 (0, 0)) :: L) w) ?_ ?_
            · exact ⟨hE.cut ⟨rfl, rfl, rfl, rfl, rfl, rfl, rfl, rfl, rfl, rfl, rfl, rfl, trivial⟩, hp⟩
            · rintro ⟨lp3_0, lp3_1⟩ st a w ⟨hE, hp⟩ hl3
              have hE : Env 114 [(0, vp0), (1, vp1), (2, vp2), (7, (.int .i64 (p2.length : Int))), (11, (.int .i64 lp2_0)), (12, (.int .i64 lp2_1)), (13, (.bool lp3_0)), (61, (.int .i64 (p1.length : Int))), (62, (.int .i64 lp2_1)), (65, vp2), (66, (.int .i64 (p2.length : Int))), (67, (.int .i64 lp3_1))] a := hE
              have hp : Hp Z ρ (_ :: _ :: L) w := hp
              replace hl3 : m_assessorlaw37_cheapest_body_lp3 p0 p1 p2 lp2_1 lp3_0 lp3_1 = some st := hl3
              unfold m_assessorlaw37_cheapest_body_lp3 at hl3
              refine k_seq ?_
              refine k_region ?_
              refine s_val (wk0 rfl) rfl rfl hE hp (v := (.bool (decide (lp3_1 < (p2.length : Int))))) (ex_lss rfl hE rfl rfl) ?_
              intro a hE
              refine s_nil ?_
              refine k_seq ?_
              refine k_if hE rfl (fun hb9 => ?_) (fun hb9 => ?_)
              · replace hl3 := (it hb9).symm.trans hl3
                refine k_skip ?_
                refine k_seq ?_
                refine k_plain ?_
                refine k_seq ?_
                refine k_region ?_
                refine s_val (wk0 rfl) rfl rfl hE hp (v := (.int .i64 lp3_1)) (ex_move rfl hE rfl) ?_
                intro a hE
                obtain ⟨x13, ex13, hl3⟩ := bnd hl3
                obtain ⟨b9, b9o, b9c, b9r, b9k, b9f⟩ := RoSl.at hp2 slty34 ex13
                obtain rfl : b9c = Enc.enc x13 := b9k
                have b9f : AtP ρ b9 b9o [(.int .i64 x13)] := b9f
                refine s_val (wk0 rfl) rfl rfl hE hp (v := (.pointer (some ⟨b9, b9o, none⟩))) (ex_index rfl hE rfl rfl b9r) ?_
                intro a hE
                refine s_val (wk0 rfl) rfl rfl hE hp (v := (.int .i64 x13)) (ex_load rfl hE rfl (fun w hw => run_ld1 varty3 (b9f.c 0 rfl w hw))) ?_
                intro a hE
                refine s_val (wk0 rfl) rfl rfl hE hp (v := (.int .i64 lp3_1)) (ex_asn rfl hE rfl) ?_
                intro a hE
                refine s_val (wk0 rfl) rfl rfl hE hp (v := (.int .i64 x13)) (ex_asn rfl hE rfl) ?_
                intro a hE
                refine s_nil ?_
                refine k_quiet (by kernel_rfl) (by kernel_rfl) hp ?_
                refine q_val (wk0 rfl) rfl rfl hE (v := (.bool lp3_0)) (ex_move rfl hE rfl) ?_
                intro a hE
                refine q_val (wk0 rfl) rfl rfl hE (v := (.bool lp3_0)) (ex_move rfl hE rfl) ?_
                intro a hE
                obtain ⟨m1, hg1, hl3⟩ := bnd hl3
                refine q_cut [_, _, _, _, _, _, _, _, _, _, _, _, _, _, _, _, _, _, _, _, _, _, _, _, _] (fun a => Env 114 [(98, (.bool m1)), (0, vp0), (1, vp1), (2, vp2), (7, (.int .i64 (p2.length : Int))), (11, (.int .i64 lp2_0)), (12, (.int .i64 lp2_1)), (61, (.int .i64 (p1.length : Int))), (62, (.int .i64 lp2_1)), (65, vp2), (66, (.int .i64 (p2.length : Int))), (67, (.int .i64 lp3_1))] a) ?_ ?_
                · rcases Bool.eq_false_or_eq_true lp3_0 with hb10 | hb10
                  ·
                    replace hg1 := (it hb10).symm.trans hg1
                    refine q_val (wk1 hE rfl rfl rfl hb10) rfl rfl hE (v := (.int .i64 x13)) (ex_move rfl hE rfl) ?_
                    intro a hE
                    refine q_val (wk1 hE rfl rfl rfl hb10) rfl rfl hE (v := (.bool (decide (x13 < 0)))) (ex_lss rfl hE rfl rfl) ?_
                    intro a hE
                    refine q_val (wk1 hE rfl rfl rfl hb10) rfl rfl hE (v := (.bool (decide (x13 < 0)))) (ex_move rfl hE rfl) ?_
                    intro a hE
                    obtain ⟨m2, hg2, hg1⟩ := bnd hg1
                    refine q_cut [_, _, _, _, _, _, _, _, _, _, _, _, _, _, _, _, _, _, _, _, _] (fun a => Env 114 [(97, (.bool m2)), (0, vp0), (1, vp1), (2, vp2), (7, (.int .i64 (p2.length : Int))), (11, (.int .i64 lp2_0)), (12, (.int .i64 lp2_1)), (61, (.int .i64 (p1.length : Int))), (62, (.int .i64 lp2_1)), (65, vp2), (66, (.int .i64 (p2.length : Int))), (67, (.int .i64 lp3_1)), (73, (.bool lp3_0)), (74, (.int .i64 x13)), (75, (.bool (decide (x13 < 0)))), (76, (.bool (decide (x13 < 0))))] a) ?_ ?_
                    · rcases Bool.eq_false_or_eq_true (decide (x13 < 0)) with hb11 | hb11
                      ·
                        replace hg2 := (it hb11).symm.trans hg2
                        refine q_skip (wk2 hE rfl rfl rfl hb11) rfl rfl hE ?_
                        intro a hE
                        refine q_skip (wk2 hE rfl rfl rfl hb11) rfl rfl hE ?_
                        intro a hE
                        refine q_skip (wk2 hE rfl rfl rfl hb11) rfl rfl hE ?_
                        intro a hE
                        refine q_skip (wk2 hE rfl rfl rfl hb11) rfl rfl hE ?_
                        intro a hE
                        refine q_skip (wk3 hE rfl rfl rfl) rfl rfl hE ?_
                        intro a hE
                        refine q_skip (wk3 hE rfl rfl rfl) rfl rfl hE ?_
                        intro a hE
                        refine q_skip (wk3 hE rfl rfl rfl) rfl rfl hE ?_
                        intro a hE
                        refine q_skip (wk3 hE rfl rfl rfl) rfl rfl hE ?_
                        intro a hE
                        refine q_skip (wk3 hE rfl rfl rfl) rfl rfl hE ?_
                        intro a hE
                        refine q_skip (wk3 hE rfl rfl rfl) rfl rfl hE ?_
                        intro a hE
                        refine q_skip (wk3 hE rfl rfl rfl) rfl rfl hE ?_
                        intro a hE
                        refine q_skip (wk3 hE rfl rfl rfl) rfl rfl hE ?_
                        intro a hE
                        refine q_skip (wk3 hE rfl rfl rfl) rfl rfl hE ?_
                        intro a hE
                        refine q_skip (wk3 hE rfl rfl rfl) rfl rfl hE ?_
                        intro a hE
                        refine q_skip (wk3 hE rfl rfl rfl) rfl rfl hE ?_
                        intro a hE
                        refine q_skip (wk3 hE rfl rfl rfl) rfl rfl hE ?_
                        intro a hE
                        refine q_skip (wk3 hE rfl rfl rfl) rfl rfl hE ?_
                        intro a hE
                        refine q_skip (wk3 hE rfl rfl rfl) rfl rfl hE ?_
                        intro a hE
                        refine q_skip (wk3 hE rfl rfl rfl) rfl rfl hE ?_
                        intro a hE
                        refine q_skip (wk2 hE rfl rfl rfl hb11) rfl rfl hE ?_
                        intro a hE
                        refine q_val (wk1 hE rfl rfl rfl hb10) rfl rfl hE (v := (.bool true)) (ex_pick1 rfl hE rfl hb11 rfl) ?_
                        intro a hE
                        obtain rfl := Option.some.inj hg2
                        exact q_nil (hE.cut ⟨rfl, rfl, rfl, rfl, rfl, rfl, rfl, rfl, rfl, rfl, rfl, rfl, rfl, rfl, rfl, rfl, trivial⟩)
                      ·
                        replace hg2 := (ie hb11).symm.trans hg2
                        refine q_val (wk1 hE rfl rfl rfl hb11) rfl rfl hE (v := (.int .i64 x13)) (ex_move rfl hE rfl) ?_
                        intro a hE
                        refine q_val (wk1 hE rfl rfl rfl hb11) rfl rfl hE (v := (.int .i64 lp2_1)) (ex_move rfl hE rfl) ?_
                        intro a hE
                        refine q_val (wk1 hE rfl rfl rfl hb11) rfl rfl hE (v := (.bool (decide (x13 < lp2_1)))) (ex_lss rfl hE rfl rfl) ?_
                        intro a hE
                        refine q_val (wk1 hE rfl rfl rfl hb11) rfl rfl hE (v := (.bool (decide (x13 < lp2_1)))) (ex_move rfl hE rfl) ?_
                        intro a hE
                        obtain ⟨m3, hg3, hg2⟩ := bnd hg2
                        refine q_cut [_, _, _, _, _, _, _, _, _, _, _, _, _, _, _, _] (fun a => Env 114 [(96, (.bool m3)), (0, vp0), (1, vp1), (2, vp2), (7, (.int .i64 (p2.length : Int))), (11, (.int .i64 lp2_0)), (12, (.int .i64 lp2_1)), (61, (.int .i64 (p1.length : Int))), (62, (.int .i64 lp2_1)), (65, vp2), (66, (.int .i64 (p2.length : Int))), (67, (.int .i64 lp3_1)), (73, (.bool lp3_0)), (74, (.int .i64 x13)), (75, (.bool (decide (x13 < 0)))), (76, (.bool (decide (x13 < 0)))), (77, (.int .i64 x13)), (78, (.int .i64 lp2_1)), (79, (.bool (decide (x13 < lp2_1)))), (80, (.bool (decide (x13 < lp2_1))))] a) ?_ ?_
                        · rcases Bool.eq_false_or_eq_true (decide (x13 < lp2_1)) with hb12 | hb12
                          ·
                            replace hg3 := (it hb12).symm.trans hg3
                            refine q_val (wk1 hE rfl rfl rfl hb12) rfl rfl hE (v := (.int .i64 (p2.length : Int))) (ex_move rfl hE rfl) ?_
                            intro a hE
                            refine q_val (wk1 hE rfl rfl rfl hb12) rfl rfl hE (v := vp0) (ex_move rfl hE rfl) ?_
                            intro a hE
                            refine q_val (wk1 hE rfl rfl rfl hb12) rfl rfl hE (v := (.int .i64 lp3_1)) (ex_move rfl hE rfl) ?_
                            intro a hE
                            obtain ⟨x14, ex14, hg3⟩ := bnd hg3
                            obtain ⟨b10, b10o, b10c, b10r, b10k, b10f⟩ := RoSl.at hp0 slty38 ex14
                            obtain ⟨vb10_n_kids, rfl, hb10_n_kids⟩ := LFlatAt.opens b10k
                            have b10f : AtP ρ b10 b10o [(.int .i64 x14.n.kind), (.string x14.n.text), (.int .i64 x14.n.at_), (.int .i64 x14.n.fin), vb10_n_kids, (.int .i64 x14.last)] := b10f
                            refine q_val (wk1 hE rfl rfl rfl hb12) rfl rfl hE (v := (.pointer (some ⟨b10, b10o, none⟩))) (ex_index rfl hE rfl rfl b10r) ?_
                            intro a hE
                            refine q_val (wk1 hE rfl rfl rfl hb12) rfl rfl hE (v := (.pointer (some ⟨b10, b10o + 5, none⟩))) (ex_field rfl hE rfl (fldty73_1 _ _)) ?_
                            intro a hE
                            refine q_val (wk1 hE rfl rfl rfl hb12) rfl rfl hE (v := (.int .i64 x14.last)) (ex_load rfl hE rfl (fun w hw => run_ld1 varty3 (b10f.c 5 rfl w hw))) ?_
                            intro a hE
                            refine q_val (wk1 hE rfl rfl rfl hb12) rfl rfl hE (v := (.bool (decide ((p2.length : Int) < x14.last)))) (ex_lss rfl hE rfl rfl) ?_
                            intro a hE
                            refine q_val (wk1 hE rfl rfl rfl hb12) rfl rfl hE (v := (.int .i64 lp2_1)) (ex_move rfl hE rfl) ?_
                            intro a hE
                            refine q_val (wk1 hE rfl rfl rfl hb12) rfl rfl hE (v := vp1) (ex_move rfl hE rfl) ?_
                            intro a hE
                            refine q_val (wk1 hE rfl rfl rfl hb12) rfl rfl hE (v := (.int .i64 x13)) (ex_move rfl hE rfl) ?_
                            intro a hE
                            obtain ⟨x15, ex15, hg3⟩ := bnd hg3
                            obtain ⟨b11, b11o, b11c, b11r, b11k, b11f⟩ := RoSl.at hp1 slty38 ex15
                            obtain ⟨vb11_n_kids, rfl, hb11_n_kids⟩ := LFlatAt.opens b11k
                            have b11f : AtP ρ b11 b11o [(.int .i64 x15.n.kind), (.string x15.n.text), (.int .i64 x15.n.at_), (.int .i64 x15.n.fin), vb11_n_kids, (.int .i64 x15.last)] := b11f
                            refine q_val (wk1 hE rfl rfl rfl hb12) rfl rfl hE (v := (.pointer (some ⟨b11, b11o, none⟩))) (ex_index rfl hE rfl rfl b11r) ?_
                            intro a hE
                            refine q_val (wk1 hE rfl rfl rfl hb12) rfl rfl hE (v := (.pointer (some ⟨b11, b11o + 5, none⟩))) (ex_field rfl hE rfl (fldty73_1 _ _)) ?_
                            intro a hE
                            refine q_val (wk1 hE rfl rfl rfl hb12) rfl rfl hE (v := (.int .i64 x15.last)) (ex_load rfl hE rfl (fun w hw => run_ld1 varty3 (b11f.c 5 rfl w hw))) ?_
                            intro a hE
                            refine q_val (wk1 hE rfl rfl rfl hb12) rfl rfl hE (v := (.bool (decide (lp2_1 < x15.last)))) (ex_lss rfl hE rfl rfl) ?_
                            intro a hE
                            refine q_val (wk1 hE rfl rfl rfl hb12) rfl rfl hE (v := (.bool ((decide ((p2.length : Int) < x14.last)) == (decide (lp2_1 < x15.last))))) (ex_beql bty4 rfl hE rfl rfl) ?_
                            intro a hE
                            refine q_val (wk1 hE rfl rfl rfl hb11) rfl rfl hE (v := (.bool ((decide ((p2.length : Int) < x14.last)) == (decide (lp2_1 < x15.last))))) (ex_pick1 rfl hE rfl hb12 rfl) ?_
                            intro a hE
                            obtain rfl := Option.some.inj hg3
                            exact q_nil (hE.cut ⟨rfl, rfl, rfl, rfl, rfl, rfl, rfl, rfl, rfl, rfl, rfl, rfl, rfl, rfl, rfl, rfl, rfl, rfl, rfl, rfl, trivial⟩)
                          ·
                            replace hg3 := (ie hb12).symm.trans hg3
                            refine q_skip (wk2 hE rfl rfl rfl hb12) rfl rfl hE ?_
                            intro a hE
                            refine q_skip (wk2 hE rfl rfl rfl hb12) rfl rfl hE ?_
                            intro a hE
                            refine q_skip (wk2 hE rfl rfl rfl hb12) rfl rfl hE ?_
                            intro a hE
                            refine q_skip (wk2 hE rfl rfl rfl hb12) rfl rfl hE ?_
                            intro a hE
                            refine q_skip (wk2 hE rfl rfl rfl hb12) rfl rfl hE ?_
                            intro a hE
                            refine q_skip (wk2 hE rfl rfl rfl hb12) rfl rfl hE ?_
                            intro a hE
                            refine q_skip (wk2 hE rfl rfl rfl hb12) rfl rfl hE ?_
                            intro a hE
                            refine q_skip (wk2 hE rfl rfl rfl hb12) rfl rfl hE ?_
                            intro a hE
                            refine q_skip (wk2 hE rfl rfl rfl hb12) rfl rfl hE ?_
                            intro a hE
                            refine q_skip (wk2 hE rfl rfl rfl hb12) rfl rfl hE ?_
                            intro a hE
                            refine q_skip (wk2 hE rfl rfl rfl hb12) rfl rfl hE ?_
                            intro a hE
                            refine q_skip (wk2 hE rfl rfl rfl hb12) rfl rfl hE ?_
                            intro a hE
                            refine q_skip (wk2 hE rfl rfl rfl hb12) rfl rfl hE ?_
                            intro a hE
                            refine q_skip (wk2 hE rfl rfl rfl hb12) rfl rfl hE ?_
                            intro a hE
                            refine q_skip (wk2 hE rfl rfl rfl hb12) rfl rfl hE ?_
                            intro a hE
                            refine q_val (wk1 hE rfl rfl rfl hb11) rfl rfl hE (v := (.bool false)) (ex_pick0 rfl hE rfl hb12 rfl) ?_
                            intro a hE
                            obtain rfl := Option.some.inj hg3
                            exact q_nil (hE.cut ⟨rfl, rfl, rfl, rfl, rfl, rfl, rfl, rfl, rfl, rfl, rfl, rfl, rfl, rfl, rfl, rfl, rfl, rfl, rfl, rfl, trivial⟩)
                        · intro a hE
                          refine q_val (wk1 hE rfl rfl rfl hb10) rfl rfl hE (v := (.bool m3)) (ex_pick0 rfl hE rfl hb11 rfl) ?_
                          intro a hE
                          obtain rfl := Option.some.inj hg2
                          exact q_nil (hE.cut ⟨rfl, rfl, rfl, rfl, rfl, rfl, rfl, rfl, rfl, rfl, rfl, rfl, rfl, rfl, rfl, rfl, trivial⟩)
                    · intro a hE
                      refine q_val (wk0 rfl) rfl rfl hE (v := (.bool m2)) (ex_pick1 rfl hE rfl hb10 rfl) ?_
                      intro a hE
                      obtain rfl := Option.some.inj hg1
                      exact q_nil (hE.cut ⟨rfl, rfl, rfl, rfl, rfl, rfl, rfl, rfl, rfl, rfl, rfl, rfl, trivial⟩)
                  ·
                    replace hg1 := (ie hb10).symm.trans hg1
                    refine q_skip (wk2 hE rfl rfl rfl hb10) rfl rfl hE ?_
                    intro a hE
                    refine q_skip (wk2 hE rfl rfl rfl hb10) rfl rfl hE ?_
                    intro a hE
                    refine q_skip (wk2 hE rfl rfl rfl hb10) rfl rfl hE ?_
                    intro a hE
                    refine q_skip (wk3 hE rfl rfl rfl) rfl rfl hE ?_
                    intro a hE
                    refine q_skip (wk3 hE rfl rfl rfl) rfl rfl hE ?_
                    intro a hE
                    refine q_skip (wk3 hE rfl rfl rfl) rfl rfl hE ?_
                    intro a hE
                    refine q_skip (wk3 hE rfl rfl rfl) rfl rfl hE ?_
                    intro a hE
                    refine q_skip (wk3 hE rfl rfl rfl) rfl rfl hE ?_
                    intro a hE
                    refine q_skip (wk3 hE rfl rfl rfl) rfl rfl hE ?_
                    intro a hE
                    refine q_skip (wk3 hE rfl rfl rfl) rfl rfl hE ?_
                    intro a hE
                    refine q_skip (wk3 hE rfl rfl rfl) rfl rfl hE ?_
                    intro a hE
                    refine q_skip (wk3 hE rfl rfl rfl) rfl rfl hE ?_
                    intro a hE
                    refine q_skip (wk3 hE rfl rfl rfl) rfl rfl hE ?_
                    intro a hE
                    refine q_skip (wk3 hE rfl rfl rfl) rfl rfl hE ?_
                    intro a hE
                    refine q_skip (wk3 hE rfl rfl rfl) rfl rfl hE ?_
                    intro a hE
                    refine q_skip (wk3 hE rfl rfl rfl) rfl rfl hE ?_
                    intro a hE
                    refine q_skip (wk3 hE rfl rfl rfl) rfl rfl hE ?_
                    intro a hE
                    refine q_skip (wk3 hE rfl rfl rfl) rfl rfl hE ?_
                    intro a hE
                    refine q_skip (wk3 hE rfl rfl rfl) rfl rfl hE ?_
                    intro a hE
                    refine q_skip (wk3 hE rfl rfl rfl) rfl rfl hE ?_
                    intro a hE
                    refine q_skip (wk3 hE rfl rfl rfl) rfl rfl hE ?_
                    intro a hE
                    refine q_skip (wk3 hE rfl rfl rfl) rfl rfl hE ?_
                    intro a hE
                    refine q_skip (wk3 hE rfl rfl rfl) rfl rfl hE ?_
                    intro a hE
                    refine q_skip (wk2 hE rfl rfl rfl hb10) rfl rfl hE ?_
                    intro a hE
                    refine q_val (wk0 rfl) rfl rfl hE (v := (.bool false)) (ex_pick0 rfl hE rfl hb10 rfl) ?_
                    intro a hE
                    obtain rfl := Option.some.inj hg1
                    exact q_nil (hE.cut ⟨rfl, rfl, rfl, rfl, rfl, rfl, rfl, rfl, rfl, rfl, rfl, rfl, trivial⟩)
                · intro a hE
                  refine q_val (wk0 rfl) rfl rfl hE (v := (.bool m1)) (ex_asn rfl hE rfl) ?_
                  intro a hE
                  refine q_nil fun w hp => ?_
                  have hp : Hp Z ρ (_ :: _ :: L) w := hp
                  refine k_region ?_
                  obtain ⟨x16, ex16, hl3⟩ := bnd hl3
                  refine s_val (wk0 rfl) rfl rfl hE hp (v := (.int .i64 x16)) (ex_add rfl hE rfl rfl (inK_some ex16)) ?_
                  intro a hE
                  refine s_val (wk0 rfl) rfl rfl hE hp (v := (.int .i64 x16)) (ex_move rfl hE rfl) ?_
                  intro a hE
                  refine s_nil ?_
                  exact ⟨_, (Option.some.inj hl3).symm, hE.cut ⟨rfl, rfl, rfl, rfl, rfl, rfl, rfl, rfl, rfl, rfl, rfl, rfl, trivial⟩, hp⟩
              · replace hl3 := (ie hb9).symm.trans hl3
                refine k_exit ?_
                refine ⟨_, (Option.some.inj hl3).symm, fun hbb => ?_⟩
                subst hbb
                exact ⟨hE.cut ⟨rfl, rfl, rfl, rfl, rfl, rfl, rfl, rfl, rfl, trivial⟩, hp⟩
          · rintro a w ⟨hE, hp⟩
            refine k_seq ?_
            refine k_region ?_
            refine s_val (wk0 rfl) rfl rfl hE hp (v := (.bool b8)) (ex_move rfl hE rfl) ?_
            intro a hE
            refine s_nil ?_
            refine k_if hE rfl (fun hb13 => ?_) (fun hb13 => ?_)
            · replace hl2 := (it hb13).symm.trans hl2
              refine k_region ?_
              refine s_val (wk0 rfl) rfl rfl hE hp (v := (.int .i64 lp2_0)) (ex_move rfl hE rfl) ?_
              intro a hE
              refine s_val (wk0 rfl) rfl rfl hE hp (v := vp0) (ex_move rfl hE rfl) ?_
              intro a hE
              refine s_val (wk0 rfl) rfl rfl hE hp (v := vp1) (ex_move rfl hE rfl) ?_
              intro a hE
              refine s_lit (wk0 rfl) rfl rfl hE hp rfl [] trivial [] 3 (fun w => by simp [Instr.buildSlice, Instr.fill, Value.cells, go_sem]) ?_
              intro a w b12 hE hp
              have hp : Hp Z ρ (Pt b12 (.cells #[] 3 (0, 0)) :: _ :: _ :: L) w := hp
              refine s_val (wk0 rfl) rfl rfl hE hp (v := vp2) (ex_move rfl hE rfl) ?_
              intro a hE
              have hp := (hp.get 0 rfl).imp (own_of_pt (l := (([] : List Int) : List Int)) (n := 0) rfl (by decide) rfl)
              have hp : Hp Z ρ (OwnSl 3 (.slice (some ⟨b12, 0, none⟩) 0 0) ([] : List Int) :: _ :: _ :: L) w := hp
              obtain ⟨x17, ex17, hl2⟩ := bnd hl2
              refine s_apps (wk0 rfl) rfl rfl hE hp rfl slty34 rfl rfl 0 rfl rfl hp2 ex17 ?_
              intro v3 a w hE hp
              have hp : Hp Z ρ (OwnSl 3 v3 x17 :: _ :: _ :: L) w := hp
              refine s_val (wk0 rfl) rfl rfl hE hp (v := (.int .i64 lp2_1)) (ex_move rfl hE rfl) ?_
              intro a hE
              refine s_lit (wk0 rfl) rfl rfl hE hp rfl [(0, (.int .i64 lp2_1))] ⟨⟨rfl, rfl⟩, trivial⟩ [(.int .i64 lp2_1)] 3 (fun w => by simp [Instr.buildSlice, Instr.fill, Value.cells, go_sem]) ?_
              intro a w b13 hE hp
              have hp : Hp Z ρ (Pt b13 (.cells #[(.int .i64 lp2_1)] 3 (0, 0)) :: _ :: _ :: _ :: L) w := hp
              obtain ⟨x18, ex18, hl2⟩ := bnd hl2
              refine s_app (wk0 rfl) rfl rfl hE hp rfl slty34 rfl rfl 1 rfl rfl (l2 := [lp2_1]) rfl (fun j u hj => by have := Hp.cN 0 rfl 0 _ (sub_all rfl) w hp j u hj; simpa using this) ex18 ?_
              intro v4 a w hE hp
              have hp : Hp Z ρ (_ :: OwnSl 3 v4 x18 :: _ :: _ :: L) w := hp
              obtain ⟨k2, k2a, k2d, k2h⟩ := (hp.get 1 rfl).lend
              obtain ⟨x19, ex19, hl2⟩ := bnd hl2
              refine s_call (wk0 rfl) rfl rfl hE rfl [vp0, vp1, v4] ⟨rfl, rfl, rfl, trivial⟩ ent17 (hself p0 vp0 (RoSl.mono hp0 (PH.le_un _ _)) p1 vp1 (RoSl.mono hp1 (PH.le_un _ _)) x18 v4 (OwnSl.ro k2d k2a) k2h x19 ex19) Ret.ret ?_
              intro v a w hR hE
              obtain ⟨rfl, hp⟩ := Ret.of hR
              have hp := Hp.back k2a k2d hp
              have hp : Hp Z ρ (_ :: _ :: _ :: _ :: L) w := hp
              refine s_val (wk0 rfl) rfl rfl hE hp (v := (.int .i64 (min lp2_0 x19))) (ex_min rfl hE rfl rfl) ?_
              intro a hE
              refine s_val (wk0 rfl) rfl rfl hE hp (v := (.int .i64 (min lp2_0 x19))) (ex_asn rfl hE rfl) ?_
              intro a hE
              refine s_nil ?_
              have hE := hE.cut (E' := [(0, vp0), (1, vp1), (2, vp2), (7, (.int .i64 (p2.length : Int))), (11, (.int .i64 (min lp2_0 x19))), (61, (.int .i64 (p1.length : Int))), (62, (.int .i64 lp2_1))]) ⟨rfl, rfl, rfl, rfl, rfl, rfl, rfl, trivial⟩
              refine k_region ?_
              obtain ⟨x20, ex20, hl2⟩ := bnd hl2
              refine s_val (wk0 rfl) rfl rfl hE hp (v := (.int .i64 x20)) (ex_add rfl hE rfl rfl (inK_some ex20)) ?_
              intro a hE
              refine s_val (wk0 rfl) rfl rfl hE hp (v := (.int .i64 x20)) (ex_move rfl hE rfl) ?_
              intro a hE
              refine s_nil ?_
              exact ⟨_, (Option.some.inj hl2).symm, hE.cut ⟨rfl, rfl, rfl, rfl, rfl, rfl, rfl, trivial⟩, (((hp.get 1 rfl).drop).drop)⟩
            · replace hl2 := (ie hb13).symm.trans hl2
              refine k_skip ?_
              refine k_region ?_
              obtain ⟨x21, ex21, hl2⟩ := bnd hl2
              refine s_val (wk0 rfl) rfl rfl hE hp (v := (.int .i64 x21)) (ex_add rfl hE rfl rfl (inK_some ex21)) ?_
              intro a hE
              refine s_val (wk0 rfl) rfl rfl hE hp (v := (.int .i64 x21)) (ex_move rfl hE rfl) ?_
              intro a hE
              refine s_nil ?_
              exact ⟨_, (Option.some.inj hl2).symm, hE.cut ⟨rfl, rfl, rfl, rfl, rfl, rfl, rfl, trivial⟩, hp⟩
        · replace hl2 := (ie hb7).symm.trans hl2
          refine k_exit ?_
          refine ⟨_, (Option.some.inj hl2).symm, fun hbb => ?_⟩
          subst hbb
          exact ⟨hE.cut ⟨rfl, trivial⟩, hp⟩
    · rintro a w ⟨hE, hp⟩
      refine k_seq ?_
      refine k_region ?_
      refine s_val (wk0 rfl) rfl rfl hE hp (v := (.int .i64 b7)) (ex_move rfl hE rfl) ?_
      intro a hE
      refine s_val (wk0 rfl) rfl rfl hE hp (v := (.int .i64 b7)) (ex_asn rfl hE rfl) ?_
      intro a hE
      refine s_nil ?_
      refine k_ret ?_
      obtain rfl := Option.some.inj hm
      exact ret1 hE rfl rfl ⟨_, rfl, rfl, (((hp.get 1 rfl).drop).drop)⟩
theorem c_assessorlaw37_cheapest_r : ∀ (n : Nat), ∀ {Z : World} {ρ : PH} {L : List Atom} {w : World} (p0 : (List LFlat)) (vp0 : Value) (hp0 : RoSl ρ vp0 p0) (p1 : (List LFlat)) (vp1 : Value) (hp1 : RoSl ρ vp1 p1) (p2 : (List Int)) (vp2 : Value) (hp2 : RoSl ρ vp2 p2) (hp : Hp Z ρ (L) w) (r : Int) (hm : m_assessorlaw37_cheapest_r n p0 p1 p2 = some r), Calls Try.prog 17 #[vp0, vp1, vp2] w (Ret fun v w' => v = (.int .i64 r) ∧ Hp Z ρ (L) w') := by
  intro n
  induction n with
  | zero => intro Z ρ L w p0 vp0 hp0 p1 vp1 hp1 p2 vp2 hp2 hp r hm; cases hm
  | succ n ih => intro Z ρ L w p0 vp0 hp0 p1 vp1 hp1 p2 vp2 hp2 hp r hm; exact c_assessorlaw37_cheapest_body (m_assessorlaw37_cheapest_r n) ih p0 vp0 hp0 p1 vp1 hp1 p2 vp2 hp2 hp r hm
theorem c_assessorlaw37_cheapest {Z : World} {ρ : PH} {L : List Atom} {w : World} (p0 : (List LFlat)) (vp0 : Value) (hp0 : RoSl ρ vp0 p0) (p1 : (List LFlat)) (vp1 : Value) (hp1 : RoSl ρ vp1 p1) (p2 : (List Int)) (vp2 : Value) (hp2 : RoSl ρ vp2 p2) (hp : Hp Z ρ (L) w) (r : Int) (hm : m_assessorlaw37_cheapest p0 p1 p2 = some r) :
    Calls Try.prog 17 #[vp0, vp1, vp2] w (Ret fun v w' => v = (.int .i64 r) ∧ Hp Z ρ (L) w') := c_assessorlaw37_cheapest_r _ p0 vp0 hp0 p1 vp1 hp1 p2 vp2 hp2 hp r hm
/- assessor/assessorlaw37.DistanceMapping -/
set_option maxRecDepth 100000 in
set_option maxHeartbeats 4000000 in
theorem c_assessorlaw37_DistanceMapping {Z : World} {ρ : PH} {L : List Atom} {w : World} (p0 : Node) (vp0_kids : Value) (hp0_kids : RoSl ρ vp0_kids p0.kids) (p1 : Node) (vp1_kids : Value) (hp1_kids : RoSl ρ vp1_kids p1.kids) (hp : Hp Z ρ (L) w) (r : Bool) (hm : m_assessorlaw37_DistanceMapping p0 p1 = some r) :
    Calls Try.prog 4 #[(.agg #[(.int .i64 p0.kind), (.string p0.text), (.int .i64 p0.at_), (.int .i64 p0.fin), vp0_kids]), (.agg #[(.int .i64 p1.kind), (.string p1.text), (.int .i64 p1.at_), (.int .i64 p1.fin), vp1_kids])] w (Ret fun v w' => v = (.bool r) ∧ Hp Z ρ (L) w') := by
  refine enter (N := 30) Try.func4 rfl rfl [(0, (.agg #[(.int .i64 p0.kind), (.string p0.text), (.int .i64 p0.at_), (.int .i64 p0.fin), vp0_kids])), (1, (.agg #[(.int .i64 p1.kind), (.string p1.text), (.int .i64 p1.at_), (.int .i64 p1.fin), vp1_kids]))] rfl (argsIn_mem ⟨rfl, rfl, trivial⟩) fun a hE => ?_
  unfold m_assessorlaw37_DistanceMapping at hm
  refine k_seq ?_
  refine k_region ?_
  refine s_box (wk0 rfl) rfl rfl hE hp rfl (v := (.agg #[(.int .i64 p0.kind), (.string p0.text), (.int .i64 p0.at_), (.int .i64 p0.fin), vp0_kids])) rfl ?_
  intro a w b1 hE hp
  have hp : Hp Z ρ (Pt b1 (.cells #[(.int .i64 p0.kind), (.string p0.text), (.int .i64 p0.at_), (.int .i64 p0.fin), vp0_kids] 24 (0, 0)) :: L) w := hp
  refine s_box (wk0 rfl) rfl rfl hE hp rfl (v := (.agg #[(.int .i64 p1.kind), (.string p1.text), (.int .i64 p1.at_), (.int .i64 p1.fin), vp1_kids])) rfl ?_
  intro a w b2 hE hp
  have hp : Hp Z ρ (Pt b2 (.cells #[(.int .i64 p1.kind), (.string p1.text), (.int .i64 p1.at_), (.int .i64 p1.fin), vp1_kids] 24 (0, 0)) :: _ :: L) w := hp
  refine s_val (wk0 rfl) rfl rfl hE hp (v := (.bool false)) (ex_asn rfl hE rfl) ?_
  intro a hE
  refine s_nil ?_
  refine k_seq ?_
  refine k_seq ?_
  refine k_region ?_
  obtain ⟨x1, ex1, hm⟩ := bnd hm
  refine s_call (wk0 rfl) rfl rfl hE rfl [] trivial ent10 (c_assessorlaw37_awake  hp x1 ex1) Ret.ret ?_
  intro v a w hR hE
  obtain ⟨rfl, hp⟩ := Ret.of hR
  have hp : Hp Z ρ (_ :: _ :: L) w := hp
  refine s_val (wk0 rfl) rfl rfl hE hp (v := (.bool (!x1))) (ex_not rfl hE rfl) ?_
  intro a hE
  refine s_nil ?_
  refine k_if hE rfl (fun hb1 => ?_) (fun hb1 => ?_)
  · replace hm := (it hb1).symm.trans hm
    refine k_seq ?_
    refine k_region ?_
    refine s_val (wk0 rfl) rfl rfl hE hp (v := (.bool false)) (ex_asn rfl hE rfl) ?_
    intro a hE
    refine s_nil ?_
    refine k_ret ?_
    obtain rfl := Option.some.inj hm
    exact ret1 hE rfl rfl ⟨_, rfl, rfl, (((hp.get 1 rfl).drop).drop)⟩
  · replace hm := (ie hb1).symm.trans hm
    refine k_skip ?_
    refine k_seq ?_
    refine k_seq ?_
    refine k_region ?_
    refine s_val (wk0 rfl) rfl rfl hE hp (v := (.agg #[(.int .i64 p0.kind), (.string p0.text), (.int .i64 p0.at_), (.int .i64 p0.fin), vp0_kids])) (ex_load rfl hE rfl (fun w hw => run_ldN (cs := [(.int .i64 p0.kind), (.string p0.text), (.int .i64 p0.at_), (.int .i64 p0.fin), vp0_kids]) varty24 (Hp.cN 1 rfl 0 _ (sub_all rfl) w hw))) ?_
    intro a hE
    refine s_val (wk0 rfl) rfl rfl hE hp (v := (.agg #[(.int .i64 p1.kind), (.string p1.text), (.int .i64 p1.at_), (.int .i64 p1.fin), vp1_kids])) (ex_load rfl hE rfl (fun w hw => run_ldN (cs := [(.int .i64 p1.kind), (.string p1.text), (.int .i64 p1.at_), (.int .i64 p1.fin), vp1_kids]) varty24 (Hp.cN 0 rfl 0 _ (sub_all rfl) w hw))) ?_
    intro a hE
    obtain ⟨x2, ex2, hm⟩ := bnd hm
    refine s_call (wk0 rfl) rfl rfl hE rfl [(.agg #[(.int .i64 p0.kind), (.string p0.text), (.int .i64 p0.at_), (.int .i64 p0.fin), vp0_kids]), (.agg #[(.int .i64 p1.kind), (.string p1.text), (.int .i64 p1.at_), (.int .i64 p1.fin), vp1_kids]), (.int .i64 5)] ⟨rfl, rfl, rfl, trivial⟩ ent11 (c_assessorlaw37_few p0 vp0_kids hp0_kids p1 vp1_kids hp1_kids 5 hp x2 ex2) Ret.ret ?_
    intro v a w hR hE
    obtain ⟨rfl, hp⟩ := Ret.of hR
    have hp : Hp Z ρ (_ :: _ :: L) w := hp
    refine s_val (wk0 rfl) rfl rfl hE hp (v := (.bool (!x2))) (ex_not rfl hE rfl) ?_
    intro a hE
    refine s_nil ?_
    refine k_if hE rfl (fun hb2 => ?_) (fun hb2 => ?_)
    · replace hm := (it hb2).symm.trans hm
      refine k_seq ?_
      refine k_region ?_
      refine s_val (wk0 rfl) rfl rfl hE hp (v := (.bool true)) (ex_asn rfl hE rfl) ?_
      intro a hE
      refine s_nil ?_
      refine k_ret ?_
      obtain rfl := Option.some.inj hm
      exact ret1 hE rfl rfl ⟨_, rfl, rfl, (((hp.get 1 rfl).drop).drop)⟩
    · replace hm := (ie hb2).symm.trans hm
      refine k_skip ?_
      refine k_seq ?_
      refine k_region ?_
      refine s_val (wk0 rfl) rfl rfl hE hp (v := (.agg #[(.int .i64 p0.kind), (.string p0.text), (.int .i64 p0.at_), (.int .i64 p0.fin), vp0_kids])) (ex_load rfl hE rfl (fun w hw => run_ldN (cs := [(.int .i64 p0.kind), (.string p0.text), (.int .i64 p0.at_), (.int .i64 p0.fin), vp0_kids]) varty24 (Hp.cN 1 rfl 0 _ (sub_all rfl) w hw))) ?_
      intro a hE
      refine s_val (wk0 rfl) rfl rfl hE hp (v := (.agg #[(.int .i64 p1.kind), (.string p1.text), (.int .i64 p1.at_), (.int .i64 p1.fin), vp1_kids])) (ex_load rfl hE rfl (fun w hw => run_ldN (cs := [(.int .i64 p1.kind), (.string p1.text), (.int .i64 p1.at_), (.int .i64 p1.fin), vp1_kids]) varty24 (Hp.cN 0 rfl 0 _ (sub_all rfl) w hw))) ?_
      intro a hE
      obtain ⟨x3, ex3, hm⟩ := bnd hm
      refine s_call (wk0 rfl) rfl rfl hE rfl [(.agg #[(.int .i64 p0.kind), (.string p0.text), (.int .i64 p0.at_), (.int .i64 p0.fin), vp0_kids]), (.agg #[(.int .i64 p1.kind), (.string p1.text), (.int .i64 p1.at_), (.int .i64 p1.fin), vp1_kids])] ⟨rfl, rfl, trivial⟩ ent12 (c_distance_Distance p0 vp0_kids hp0_kids p1 vp1_kids hp1_kids hp x3 ex3) Ret.ret ?_
      intro v a w hR hE
      obtain ⟨rfl, hp⟩ := Ret.of hR
      have hp : Hp Z ρ (_ :: _ :: L) w := hp
      refine s_val (wk0 rfl) rfl rfl hE hp (v := (.tuple #[(.int .i64 x3.1), (.int .i64 x3.2)])) (ex_move rfl hE rfl) ?_
      intro a hE
      refine s_val (wk0 rfl) rfl rfl hE hp (v := (.int .i64 x3.1)) (ex_extract rfl hE rfl rfl) ?_
      intro a hE
      refine s_val (wk0 rfl) rfl rfl hE hp (v := (.int .i64 x3.2)) (ex_extract rfl hE rfl rfl) ?_
      intro a hE
      refine s_val (wk0 rfl) rfl rfl hE hp (v := (.int .i64 x3.1)) (ex_asn rfl hE rfl) ?_
      intro a hE
      refine s_val (wk0 rfl) rfl rfl hE hp (v := (.int .i64 x3.2)) (ex_asn rfl hE rfl) ?_
      intro a hE
      refine s_nil ?_
      refine k_seq ?_
      obtain ⟨m1, hg1, hm⟩ := bnd hm
      have hp := hp.drew
      refine k_heldV ([([], At0 Z ρ), ([], At1 Z ρ (Pt b2 (.cells #[(.int .i64 p1.kind), (.string p1.text), (.int .i64 p1.at_), (.int .i64 p1.fin), vp1_kids] 24 (0, 0)))), ([], At1 Z ρ (Pt b1 (.cells #[(.int .i64 p0.kind), (.string p0.text), (.int .i64 p0.at_), (.int .i64 p0.fin), vp0_kids] 24 (0, 0))))] : Facts) (fun a w => Env 30 [(4, (.bool m1))] a ∧ Hp Z ρ (Pt b2 (.cells #[(.int .i64 p1.kind), (.string p1.text), (.int .i64 p1.at_), (.int .i64 p1.fin), vp1_kids] 24 (0, 0)) :: Pt b1 (.cells #[(.int .i64 p0.kind), (.string p0.text), (.int .i64 p0.at_), (.int .i64 p0.fin), vp0_kids] 24 (0, 0)) :: L) w) (by kernel_rfl) ⟨fun _ => ⟨_, hp⟩, fun _ => ⟨_, (hp.get 0 rfl)⟩, fun _ => ⟨_, (hp.get 1 rfl)⟩, trivial⟩ (fun hS => ?_) ?_
      ·
        generalize w.drew = w at hS hp ⊢
        refine v_take0 0 (wk0 rfl) rfl rfl rfl hE (by kernel_rfl) (by kernel_rfl) (by kernel_rfl) rfl (by kernel_rfl) hS (v := (.int .i64 x3.2)) (fun _ => ex_move rfl hE rfl) ?_
        intro a hE hS
        refine v_take0 1 (wk0 rfl) rfl rfl rfl hE (by kernel_rfl) (by kernel_rfl) (by kernel_rfl) rfl (by kernel_rfl) hS (v := (.bool (decide (x3.2 = 0)))) (fun _ => ex_eql rfl hE rfl rfl) ?_
        intro a hE hS
        refine v_take0 2 (wk0 rfl) rfl rfl rfl hE (by kernel_rfl) (by kernel_rfl) (by kernel_rfl) rfl (by kernel_rfl) hS (v := (.bool (decide (x3.2 = 0)))) (fun _ => ex_move rfl hE rfl) ?_
        intro a hE hS
        rcases Bool.eq_false_or_eq_true (decide (x3.2 = 0)) with hb4 | hb4
        ·
          have hg1 := (it hb4).symm.trans hg1
          obtain ⟨x4, ex4, hg1⟩ := bnd hg1
          obtain ⟨x5, ex5, hg1⟩ := bnd hg1
          obtain ⟨x6, ex6, hg1⟩ := bnd hg1
          refine v_take0 3 (wk1 hE rfl rfl rfl hb4) rfl rfl rfl hE (by kernel_rfl) (by kernel_rfl) (by kernel_rfl) rfl (by kernel_rfl) hS (v := (.int .i64 x3.1)) (fun _ => ex_move rfl hE rfl) ?_
          intro a hE hS
          refine v_take1 4 2 (wk1 hE rfl rfl rfl hb4) rfl rfl rfl hE (by kernel_rfl) (by kernel_rfl) (by kernel_rfl) rfl (by kernel_rfl) hS (v := (.agg #[(.int .i64 p0.kind), (.string p0.text), (.int .i64 p0.at_), (.int .i64 p0.fin), vp0_kids])) (fun _ => ex_load rfl hE rfl (fun w hw => run_ldN (cs := [(.int .i64 p0.kind), (.string p0.text), (.int .i64 p0.at_), (.int .i64 p0.fin), vp0_kids]) varty24 (Hp.cN 0 rfl 0 _ (sub_all rfl) w hw))) ?_
          intro a hE hS
          refine v_take1 6 1 (wk1 hE rfl rfl rfl hb4) rfl rfl rfl hE (by kernel_rfl) (by kernel_rfl) (by kernel_rfl) rfl (by kernel_rfl) hS (v := (.agg #[(.int .i64 p1.kind), (.string p1.text), (.int .i64 p1.at_), (.int .i64 p1.fin), vp1_kids])) (fun _ => ex_load rfl hE rfl (fun w hw => run_ldN (cs := [(.int .i64 p1.kind), (.string p1.text), (.int .i64 p1.at_), (.int .i64 p1.fin), vp1_kids]) varty24 (Hp.cN 0 rfl 0 _ (sub_all rfl) w hw))) ?_
          intro a hE hS
          refine v_all [5] (by kernel_rfl) rfl ?_
          refine List.forall_mem_cons.2 ⟨?_, fun _ h => absurd h (by simp)⟩
          ·
            refine h_op rfl ?_
            refine s_call (wk1 hE rfl rfl rfl hb4) rfl rfl hE rfl [(.agg #[(.int .i64 p0.kind), (.string p0.text), (.int .i64 p0.at_), (.int .i64 p0.fin), vp0_kids]), (.int .i64 0)] ⟨rfl, rfl, trivial⟩ ent18 (c_assessorlaw37_list p0 vp0_kids hp0_kids 0 hp x4 ex4) Ret.ret ?_
            intro vr8 a w hR hE
            obtain ⟨ρ3, u, hle3, rfl, hr8, hp⟩ := Ret.of hR
            have hp : Hp Z ρ3 (_ :: _ :: L) w := hp
            refine s_nil (and_with ⟨fun _ => ⟨_, (hp.less hle3)⟩, fun _ => ⟨_, ((hp.get 0 rfl).less hle3)⟩, fun _ => ⟨_, ((hp.get 1 rfl).less hle3)⟩, trivial⟩ fun hS => ?_)
            refine v_all [7] (by kernel_rfl) rfl ?_
            refine List.forall_mem_cons.2 ⟨?_, fun _ h => absurd h (by simp)⟩
            ·
              refine h_op rfl ?_
              refine s_call (wk1 hE rfl rfl rfl hb4) rfl rfl hE rfl [(.agg #[(.int .i64 p1.kind), (.string p1.text), (.int .i64 p1.at_), (.int .i64 p1.fin), vp1_kids]), (.int .i64 0)] ⟨rfl, rfl, trivial⟩ ent18 (c_assessorlaw37_list p1 vp1_kids (RoSl.mono hp1_kids hle3) 0 hp x5 ex5) Ret.ret ?_
              intro vr9 a w hR hE
              obtain ⟨ρ4, u, hle4, rfl, hr9, hp⟩ := Ret.of hR
              have hp : Hp Z ρ4 (_ :: _ :: L) w := hp
              refine s_nil (and_with ⟨fun _ => ⟨_, ((hp.less hle4).less hle3)⟩, fun _ => ⟨_, (((hp.get 0 rfl).less hle4).less hle3)⟩, fun _ => ⟨_, (((hp.get 1 rfl).less hle4).less hle3)⟩, trivial⟩ fun hS => ?_)
              refine v_all [8] (by kernel_rfl) rfl ?_
              refine List.forall_mem_cons.2 ⟨?_, fun _ h => absurd h (by simp)⟩
              ·
                refine h_op rfl ?_
                refine s_call (wk1 hE rfl rfl rfl hb4) rfl rfl hE rfl [vr8, vr9, (.slice none 0 0)] ⟨rfl, rfl, rfl, trivial⟩ ent17 (c_assessorlaw37_cheapest x4 vr8 (RoSl.mono hr8 hle4) x5 vr9 hr9 [] (.slice none 0 0) (RoSl.nil _) hp x6 ex6) Ret.ret ?_
                intro v a w hR hE
                obtain ⟨rfl, hp⟩ := Ret.of hR
                have hp : Hp Z ρ4 (_ :: _ :: L) w := hp
                refine s_nil (and_with ⟨fun _ => ⟨_, ((hp.less hle4).less hle3)⟩, fun _ => ⟨_, (((hp.get 0 rfl).less hle4).less hle3)⟩, fun _ => ⟨_, (((hp.get 1 rfl).less hle4).less hle3)⟩, trivial⟩ fun hS => ?_)
                refine v_take0 9 (wk1 hE rfl rfl rfl hb4) rfl rfl rfl hE (by kernel_rfl) (by kernel_rfl) (by kernel_rfl) rfl (by kernel_rfl) hS (v := (.bool (decide (x3.1 = x6)))) (fun _ => ex_eql rfl hE rfl rfl) ?_
                intro a hE hS
                refine v_take0 10 (wk0 rfl) rfl rfl rfl hE (by kernel_rfl) (by kernel_rfl) (by kernel_rfl) rfl (by kernel_rfl) hS (v := (.bool (decide (x3.1 = x6)))) (fun _ => ex_pick1 rfl hE rfl hb4 rfl) ?_
                intro a hE hS
                have hE := hE.eqv (v' := (.bool m1)) (congrArg Value.bool (Option.some.inj hg1))
                refine v_take0 11 (wk0 rfl) rfl rfl rfl hE (by kernel_rfl) (by kernel_rfl) (by kernel_rfl) rfl (by kernel_rfl) hS (v := (.bool m1)) (fun _ => ex_asn rfl hE rfl) ?_
                intro a hE hS
                exact v_done (by kernel_rfl) ⟨hE.cut ⟨rfl, trivial⟩, ((hp.less hle4).less hle3)⟩
        ·
          have hg1 := (ie hb4).symm.trans hg1
          refine v_skip 3 (wk2 hE rfl rfl rfl hb4) rfl rfl rfl hE (by kernel_rfl) (by kernel_rfl) (by kernel_rfl) rfl (by kernel_rfl) hS ?_
          intro a hE hS
          refine v_skip 4 (wk2 hE rfl rfl rfl hb4) rfl rfl rfl hE (by kernel_rfl) (by kernel_rfl) (by kernel_rfl) rfl (by kernel_rfl) hS ?_
          intro a hE hS
          refine v_skip 5 (wk2 hE rfl rfl rfl hb4) rfl rfl rfl hE (by kernel_rfl) (by kernel_rfl) (by kernel_rfl) rfl (by kernel_rfl) hS ?_
          intro a hE hS
          refine v_skip 6 (wk2 hE rfl rfl rfl hb4) rfl rfl rfl hE (by kernel_rfl) (by kernel_rfl) (by kernel_rfl) rfl (by kernel_rfl) hS ?_
          intro a hE hS
          refine v_skip 7 (wk2 hE rfl rfl rfl hb4) rfl rfl rfl hE (by kernel_rfl) (by kernel_rfl) (by kernel_rfl) rfl (by kernel_rfl) hS ?_
          intro a hE hS
          refine v_skip 8 (wk2 hE rfl rfl rfl hb4) rfl rfl rfl hE (by kernel_rfl) (by kernel_rfl) (by kernel_rfl) rfl (by kernel_rfl) hS ?_
          intro a hE hS
          refine v_skip 9 (wk2 hE rfl rfl rfl hb4) rfl rfl rfl hE (by kernel_rfl) (by kernel_rfl) (by kernel_rfl) rfl (by kernel_rfl) hS ?_
          intro a hE hS
          refine v_take0 10 (wk0 rfl) rfl rfl rfl hE (by kernel_rfl) (by kernel_rfl) (by kernel_rfl) rfl (by kernel_rfl) hS (v := (.bool false)) (fun _ => ex_pick0 rfl hE rfl hb4 rfl) ?_
          intro a hE hS
          have hE := hE.eqv (v' := (.bool m1)) (congrArg Value.bool (Option.some.inj hg1))
          refine v_take0 11 (wk0 rfl) rfl rfl rfl hE (by kernel_rfl) (by kernel_rfl) (by kernel_rfl) rfl (by kernel_rfl) hS (v := (.bool m1)) (fun _ => ex_asn rfl hE rfl) ?_
          intro a hE hS
          exact v_done (by kernel_rfl) ⟨hE.cut ⟨rfl, trivial⟩, hp⟩
      · rintro a w ⟨hE, hp⟩
        refine k_ret ?_
        obtain rfl := Option.some.inj hm
        exact ret1 hE rfl rfl ⟨_, rfl, rfl, (((hp.get 1 rfl).drop).drop)⟩
end Go.Proofs.Ytnnccbagbgndpaa
