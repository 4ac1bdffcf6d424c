/-
  The code goes as its model: assessor/assessorref52.with, assessor/assessorref52.Needed. (Printed by wip/sp/gen.py.)
-/
import Derived.Test.YtmjmoogldbejoaaTM
import Derived.Test.YtmjmoogldbejoaaFct
import Derived.Test.YtmjmoogldbejoaaRS
set_option linter.unusedVariables false
set_option linter.unusedSimpArgs false
namespace Go.Proofs.Ytmjmoogldbejoaa
open Go.RowKit

/- assessor/assessorref52.with -/
set_option maxRecDepth 100000 in
set_option maxHeartbeats 4000000 in
theorem c_assessorref52_with {Z : World} {ρ : PH} {L : List Atom} {w : World} (p0 : Rule) (p1 : (List Att)) (vp1 : Value) (hp1 : RoSl ρ vp1 p1) (p2 : Int) (hp : Hp Z ρ (L) w) (r : Int) (hm : m_assessorref52_with p0 p1 p2 = some r) :
    Calls Try.prog 31 #[(.agg #[(.int .i64 p0.kind), (.int .i64 p0.most), (.int .i64 p0.pause), (.int .i64 p0.keep)]), vp1, (.int .i64 p2)] w (Ret fun v w' => v = (.int .i64 r) ∧ Hp Z ρ (L) w') := by
  refine enter (N := 38) Try.func31 rfl rfl [(0, (.agg #[(.int .i64 p0.kind), (.int .i64 p0.most), (.int .i64 p0.pause), (.int .i64 p0.keep)])), (1, vp1), (2, (.int .i64 p2))] rfl (argsIn_mem ⟨rfl, rfl, rfl, trivial⟩) fun a hE => ?_
  unfold m_assessorref52_with at hm
  refine k_seq ?_
  refine k_region ?_
  refine s_box (wk0 rfl) rfl rfl hE hp rfl (v := (.agg #[(.int .i64 p0.kind), (.int .i64 p0.most), (.int .i64 p0.pause), (.int .i64 p0.keep)])) rfl ?_
  intro a w b1 hE hp
  have hp : Hp Z ρ (Pt b1 (.cells #[(.int .i64 p0.kind), (.int .i64 p0.most), (.int .i64 p0.pause), (.int .i64 p0.keep)] 23 (0, 0)) :: L) w := hp
  refine s_val (wk0 rfl) rfl rfl hE hp (v := (.int .i64 0)) (ex_asn rfl hE rfl) ?_
  intro a hE
  refine s_nil ?_
  refine k_seq ?_
  refine k_region ?_
  refine s_val (wk0 rfl) rfl rfl hE hp (v := vp1) (ex_move rfl hE rfl) ?_
  intro a hE
  refine s_val (wk0 rfl) rfl rfl hE hp (v := (.int .i64 (p1.length : Int))) (ex_len rfl hE rfl (RoSl.len hp1 slty24)) ?_
  intro a hE
  obtain ⟨x1, ex1, hm⟩ := bnd hm
  refine s_val (wk0 rfl) rfl rfl hE hp (v := (.int .i64 x1)) (ex_add rfl hE rfl rfl (inK_some ex1)) ?_
  intro a hE
  refine s_val (wk0 rfl) rfl rfl hE hp (v := (.int .i64 p2)) (ex_move rfl hE rfl) ?_
  intro a hE
  refine s_val (wk0 rfl) rfl rfl hE hp (v := (.agg #[(.int .i64 x1), (.int .i64 0), (.int .i64 p2)])) (ex_bld rfl hE [(0, (.int .i64 x1)), (2, (.int .i64 p2))] (by exact ⟨⟨rfl, rfl⟩, ⟨rfl, rfl⟩, trivial⟩) (fun w => by simp [Instr.build, Instr.fill, Value.cells, go_sem])) ?_
  intro a hE
  refine s_new (wk0 rfl) rfl rfl hE hp rfl [(.int .i64 0), (.int .i64 0), (.int .i64 0)] (fun w => by simp [Instr.alloc, go_sem]) ?_
  intro a w b2 hE hp
  have hp : Hp Z ρ (Pt b2 (.cells #[(.int .i64 0), (.int .i64 0), (.int .i64 0)] 38 (0, 0)) :: Pt b1 (.cells #[(.int .i64 p0.kind), (.int .i64 p0.most), (.int .i64 p0.pause), (.int .i64 p0.keep)] 23 (0, 0)) :: L) w := hp
  refine s_store (wk0 rfl) rfl hE hp rfl rfl rfl 0 rfl varty38.size_ rfl (by simp [Value.cells, Value.oneCell']) [(.int .i64 x1), (.int .i64 0), (.int .i64 p2)] rfl ?_
  intro w hp
  have hp : Hp Z ρ (Pt b2 (.cells #[(.int .i64 x1), (.int .i64 0), (.int .i64 p2)] 38 (0, 0)) :: Pt b1 (.cells #[(.int .i64 p0.kind), (.int .i64 p0.most), (.int .i64 p0.pause), (.int .i64 p0.keep)] 23 (0, 0)) :: L) w := hp
  refine s_nil ?_
  refine k_seq ?_
  refine k_seq ?_
  refine k_region ?_
  refine s_val (wk0 rfl) rfl rfl hE hp (v := vp1) (ex_move rfl hE rfl) ?_
  intro a hE
  refine s_val (wk0 rfl) rfl rfl hE hp (v := (.int .i64 (p1.length : Int))) (ex_len rfl hE rfl (RoSl.len hp1 slty24)) ?_
  intro a hE
  refine s_val (wk0 rfl) rfl rfl hE hp (v := (.bool (decide (0 < (p1.length : Int))))) (ex_gtr rfl hE rfl rfl) ?_
  intro a hE
  refine s_nil ?_
  obtain ⟨j1, hj1, hm⟩ := bnd hm
  refine k_cut (fun a w => Env 38 [(1, vp1), (3, (.pointer (some ⟨b1, 0, none⟩))), (7, (.pointer (some ⟨b2, 0, none⟩)))] a ∧ Hp Z ρ (Pt b2 (.cells #[(.int .i64 x1), (.int .i64 j1), (.int .i64 p2)] 38 (0, 0)) :: Pt b1 (.cells #[(.int .i64 p0.kind), (.int .i64 p0.most), (.int .i64 p0.pause), (.int .i64 p0.keep)] 23 (0, 0)) :: L) w) ?_ ?_
  ·
    refine k_if hE rfl (fun hb1 => ?_) (fun hb1 => ?_)
    · replace hj1 := (it hb1).symm.trans hj1
      refine k_region ?_
      refine s_val (wk0 rfl) rfl rfl hE hp (v := vp1) (ex_move rfl hE rfl) ?_
      intro a hE
      refine s_val (wk0 rfl) rfl rfl hE hp (v := vp1) (ex_move rfl hE rfl) ?_
      intro a hE
      refine s_val (wk0 rfl) rfl rfl hE hp (v := (.int .i64 (p1.length : Int))) (ex_len rfl hE rfl (RoSl.len hp1 slty24)) ?_
      intro a hE
      obtain ⟨x2, ex2, hj1⟩ := bnd hj1
      refine s_val (wk0 rfl) rfl rfl hE hp (v := (.int .i64 x2)) (ex_sub rfl hE rfl rfl (inK_some ex2)) ?_
      intro a hE
      obtain ⟨x3, ex3, hj1⟩ := bnd hj1
      obtain ⟨b3, b3o, b3c, b3r, b3k, b3f⟩ := RoSl.at hp1 slty24 ex3
      obtain rfl : b3c = Enc.enc x3 := b3k
      have b3f : AtP ρ b3 b3o [(.int .i64 x3.num), (.int .i64 x3.tick), (.int .i64 x3.pts)] := b3f
      refine s_val (wk0 rfl) rfl rfl hE hp (v := (.pointer (some ⟨b3, b3o, none⟩))) (ex_index rfl hE rfl rfl b3r) ?_
      intro a hE
      refine s_val (wk0 rfl) rfl rfl hE hp (v := (.pointer (some ⟨b3, b3o + 1, none⟩))) (ex_field rfl hE rfl (fldty38_1 _ _)) ?_
      intro a hE
      refine s_val (wk0 rfl) rfl rfl hE hp (v := (.int .i64 x3.tick)) (ex_load rfl hE rfl (fun w hw => run_ld1 varty3 (b3f.c 1 rfl w hw))) ?_
      intro a hE
      refine s_val (wk0 rfl) rfl rfl hE hp (v := (.pointer (some ⟨b2, 1, none⟩))) (ex_field rfl hE rfl (fldty38_1 _ _)) ?_
      intro a hE
      refine s_store (wk0 rfl) rfl hE hp rfl rfl rfl 0 rfl varty3.size_ rfl (by simp [Value.cells, Value.oneCell']) [(.int .i64 x1), (.int .i64 x3.tick), (.int .i64 p2)] rfl ?_
      intro w hp
      have hp : Hp Z ρ (Pt b2 (.cells #[(.int .i64 x1), (.int .i64 x3.tick), (.int .i64 p2)] 38 (0, 0)) :: Pt b1 (.cells #[(.int .i64 p0.kind), (.int .i64 p0.most), (.int .i64 p0.pause), (.int .i64 p0.keep)] 23 (0, 0)) :: L) w := hp
      refine s_nil ?_
      have hE := hE.cut (E' := [(1, vp1), (3, (.pointer (some ⟨b1, 0, none⟩))), (7, (.pointer (some ⟨b2, 0, none⟩)))]) ⟨rfl, rfl, rfl, trivial⟩
      obtain rfl := Option.some.inj hj1
      exact ⟨hE.cut ⟨rfl, rfl, rfl, trivial⟩, hp⟩
    · replace hj1 := (ie hb1).symm.trans hj1
      refine k_skip ?_
      obtain rfl := Option.some.inj hj1
      exact ⟨hE.cut ⟨rfl, rfl, rfl, trivial⟩, hp⟩
  · rintro a w ⟨hE, hp⟩
    refine k_seq ?_
    obtain ⟨x4, ex4, hm⟩ := bnd hm
    obtain ⟨x5, ex5, hm⟩ := bnd hm
    obtain ⟨x6, ex6, hm⟩ := bnd hm
    refine k_held (Z := Z) (ρ := ρ) (Pt b2 (.cells #[(.int .i64 x1), (.int .i64 j1), (.int .i64 p2)] 38 (0, 0)) :: Pt b1 (.cells #[(.int .i64 p0.kind), (.int .i64 p0.most), (.int .i64 p0.pause), (.int .i64 p0.keep)] 23 (0, 0)) :: L) (fun a w => ∃ y3 : Value, ∃ y4 : Nat, Env 38 [(8, (.int .i64 x6.1))] a ∧ Hp Z ρ (OwnSl 38 y3 x5 :: Pt y4 (.cells #[(.int .i64 x1), (.int .i64 j1), (.int .i64 p2)] 38 (0, 0)) :: Pt b2 (.cells #[(.int .i64 x1), (.int .i64 j1), (.int .i64 p2)] 38 (0, 0)) :: Pt b1 (.cells #[(.int .i64 p0.kind), (.int .i64 p0.most), (.int .i64 p0.pause), (.int .i64 p0.keep)] 23 (0, 0)) :: L) w) (by kernel_rfl) ?_ ?_
    ·
      have hp := hp.drew
      have hS : Hp Z ρ (Pt b2 (.cells #[(.int .i64 x1), (.int .i64 j1), (.int .i64 p2)] 38 (0, 0)) :: Pt b1 (.cells #[(.int .i64 p0.kind), (.int .i64 p0.most), (.int .i64 p0.pause), (.int .i64 p0.keep)] 23 (0, 0)) :: L) w.drew := hp
      refine h_take 0 (wk0 rfl) rfl rfl rfl hE (by kernel_rfl) (by kernel_rfl) (by kernel_rfl) hS (v := (.agg #[(.int .i64 p0.kind), (.int .i64 p0.most), (.int .i64 p0.pause), (.int .i64 p0.keep)])) (ex_load rfl hE rfl (fun w hw => run_ldN (cs := [(.int .i64 p0.kind), (.int .i64 p0.most), (.int .i64 p0.pause), (.int .i64 p0.keep)]) varty23 (Hp.cN 1 rfl 0 _ (sub_all rfl) w hw))) ?_
      intro a hE
      refine h_take 2 (wk0 rfl) rfl rfl rfl hE (by kernel_rfl) (by kernel_rfl) (by kernel_rfl) hS (v := vp1) (ex_move rfl hE rfl) ?_
      intro a hE
      refine h_take 4 (wk0 rfl) rfl rfl rfl hE (by kernel_rfl) (by kernel_rfl) (by kernel_rfl) hS (v := (.agg #[(.int .i64 x1), (.int .i64 j1), (.int .i64 p2)])) (ex_load rfl hE rfl (fun w hw => run_ldN (cs := [(.int .i64 x1), (.int .i64 j1), (.int .i64 p2)]) varty38 (Hp.cN 0 rfl 0 _ (sub_all rfl) w hw))) ?_
      intro a hE
      refine h_all [1, 5] (by kernel_rfl) rfl ?_
      refine List.forall_mem_cons.2 ⟨?_, List.forall_mem_cons.2 ⟨?_, fun _ h => absurd h (by simp)⟩⟩
      ·
        refine h_op rfl ?_
        refine s_lit (wk0 rfl) rfl rfl hE hp rfl [] trivial [] 38 (fun w => by simp [Instr.buildSlice, Instr.fill, Value.cells, go_sem]) ?_
        intro a w b6 hE hp
        have hp : Hp Z ρ (Pt b6 (.cells #[] 38 (0, 0)) :: Pt b2 (.cells #[(.int .i64 x1), (.int .i64 j1), (.int .i64 p2)] 38 (0, 0)) :: Pt b1 (.cells #[(.int .i64 p0.kind), (.int .i64 p0.most), (.int .i64 p0.pause), (.int .i64 p0.keep)] 23 (0, 0)) :: L) w := hp
        refine s_nil ⟨(hp.drop), ?_⟩
        have hS := (hp.drop)
        refine h_all [3, 5] (by kernel_rfl) rfl ?_
        refine List.forall_mem_cons.2 ⟨?_, List.forall_mem_cons.2 ⟨?_, fun _ h => absurd h (by simp)⟩⟩
        ·
          refine h_op rfl ?_
          have hp := (hp.get 0 rfl).imp (own_of_pt (l := (([] : List Att) : List Att)) (n := 0) rfl (by decide) rfl)
          have hp : Hp Z ρ (OwnSl 38 (.slice (some ⟨b6, 0, none⟩) 0 0) ([] : List Att) :: Pt b2 (.cells #[(.int .i64 x1), (.int .i64 j1), (.int .i64 p2)] 38 (0, 0)) :: Pt b1 (.cells #[(.int .i64 p0.kind), (.int .i64 p0.most), (.int .i64 p0.pause), (.int .i64 p0.keep)] 23 (0, 0)) :: L) w := hp
          refine s_apps (wk0 rfl) rfl rfl hE hp rfl slty24 rfl rfl 0 rfl rfl hp1 ex4 ?_
          intro v3 a w hE hp
          have hp : Hp Z ρ (OwnSl 38 v3 x4 :: Pt b2 (.cells #[(.int .i64 x1), (.int .i64 j1), (.int .i64 p2)] 38 (0, 0)) :: Pt b1 (.cells #[(.int .i64 p0.kind), (.int .i64 p0.most), (.int .i64 p0.pause), (.int .i64 p0.keep)] 23 (0, 0)) :: L) w := hp
          refine s_nil ⟨(hp.drop), ?_⟩
          have hS := (hp.drop)
          refine h_all [5] (by kernel_rfl) rfl ?_
          refine List.forall_mem_cons.2 ⟨?_, fun _ h => absurd h (by simp)⟩
          ·
            refine h_op rfl ?_
            refine s_lit (wk0 rfl) rfl rfl hE hp rfl [(0, (.agg #[(.int .i64 x1), (.int .i64 j1), (.int .i64 p2)]))] ⟨⟨rfl, rfl⟩, trivial⟩ [(.int .i64 x1), (.int .i64 j1), (.int .i64 p2)] 38 (fun w => by simp [Instr.buildSlice, Instr.fill, Value.cells, go_sem]) ?_
            intro a w b7 hE hp
            have hp : Hp Z ρ (Pt b7 (.cells #[(.int .i64 x1), (.int .i64 j1), (.int .i64 p2)] 38 (0, 0)) :: OwnSl 38 v3 x4 :: Pt b2 (.cells #[(.int .i64 x1), (.int .i64 j1), (.int .i64 p2)] 38 (0, 0)) :: Pt b1 (.cells #[(.int .i64 p0.kind), (.int .i64 p0.most), (.int .i64 p0.pause), (.int .i64 p0.keep)] 23 (0, 0)) :: L) w := hp
            refine s_nil ⟨(((hp.get 1 rfl).drop).drop), ?_⟩
            have hS := (((hp.get 1 rfl).drop).drop)
            refine h_all [6] (by kernel_rfl) rfl ?_
            refine List.forall_mem_cons.2 ⟨?_, fun _ h => absurd h (by simp)⟩
            ·
              refine h_op rfl ?_
              refine s_app (wk0 rfl) rfl rfl hE hp rfl slty24 rfl rfl 1 rfl rfl (l2 := [(Att.mk x1 j1 p2)]) rfl (fun j u hj => by have := Hp.cN 0 rfl 0 _ (sub_all rfl) w hp j u hj; simpa using this) ex5 ?_
              intro v4 a w hE hp
              have hp : Hp Z ρ (Pt b7 (.cells #[(.int .i64 x1), (.int .i64 j1), (.int .i64 p2)] 38 (0, 0)) :: OwnSl 38 v4 x5 :: Pt b2 (.cells #[(.int .i64 x1), (.int .i64 j1), (.int .i64 p2)] 38 (0, 0)) :: Pt b1 (.cells #[(.int .i64 p0.kind), (.int .i64 p0.most), (.int .i64 p0.pause), (.int .i64 p0.keep)] 23 (0, 0)) :: L) w := hp
              refine s_nil ⟨(((hp.get 1 rfl).drop).drop), ?_⟩
              have hS := (((hp.get 1 rfl).drop).drop)
              refine h_all [7] (by kernel_rfl) rfl ?_
              refine List.forall_mem_cons.2 ⟨?_, fun _ h => absurd h (by simp)⟩
              ·
                refine h_op rfl ?_
                obtain ⟨k2, k2a, k2d, k2h⟩ := (hp.get 1 rfl).lend
                refine s_call (wk0 rfl) rfl rfl hE rfl [(.agg #[(.int .i64 p0.kind), (.int .i64 p0.most), (.int .i64 p0.pause), (.int .i64 p0.keep)]), v4] ⟨rfl, rfl, trivial⟩ ent12 (c_assessorref52_Final p0 x5 v4 (OwnSl.ro k2d k2a) k2h x6 ex6) Ret.ret ?_
                intro v a w hR hE
                obtain ⟨rfl, hp⟩ := Ret.of hR
                have hp := Hp.back k2a k2d hp
                have hp : Hp Z ρ (OwnSl 38 v4 x5 :: Pt b7 (.cells #[(.int .i64 x1), (.int .i64 j1), (.int .i64 p2)] 38 (0, 0)) :: Pt b2 (.cells #[(.int .i64 x1), (.int .i64 j1), (.int .i64 p2)] 38 (0, 0)) :: Pt b1 (.cells #[(.int .i64 p0.kind), (.int .i64 p0.most), (.int .i64 p0.pause), (.int .i64 p0.keep)] 23 (0, 0)) :: L) w := hp
                have hp : Hp Z ρ (OwnSl 38 v4 x5 :: Pt b7 (.cells #[(.int .i64 x1), (.int .i64 j1), (.int .i64 p2)] 38 (0, 0)) :: Pt b2 (.cells #[(.int .i64 x1), (.int .i64 j1), (.int .i64 p2)] 38 (0, 0)) :: Pt b1 (.cells #[(.int .i64 p0.kind), (.int .i64 p0.most), (.int .i64 p0.pause), (.int .i64 p0.keep)] 23 (0, 0)) :: L) w := hp
                refine s_nil ⟨(((hp.get 1 rfl).drop).drop), ?_⟩
                have hS := (((hp.get 1 rfl).drop).drop)
                refine h_take 8 (wk0 rfl) rfl rfl rfl hE (by kernel_rfl) (by kernel_rfl) (by kernel_rfl) hS (v := (.tuple #[(.int .i64 x6.1), (.int .i64 x6.2)])) (ex_move rfl hE rfl) ?_
                intro a hE
                refine h_take 9 (wk0 rfl) rfl rfl rfl hE (by kernel_rfl) (by kernel_rfl) (by kernel_rfl) hS (v := (.int .i64 x6.1)) (ex_extract rfl hE rfl rfl) ?_
                intro a hE
                refine h_take 10 (wk0 rfl) rfl rfl rfl hE (by kernel_rfl) (by kernel_rfl) (by kernel_rfl) hS (v := (.int .i64 x6.2)) (ex_extract rfl hE rfl rfl) ?_
                intro a hE
                refine h_take 11 (wk0 rfl) rfl rfl rfl hE (by kernel_rfl) (by kernel_rfl) (by kernel_rfl) hS (v := (.int .i64 x6.1)) (ex_asn rfl hE rfl) ?_
                intro a hE
                refine h_take 12 (wk0 rfl) rfl rfl rfl hE (by kernel_rfl) (by kernel_rfl) (by kernel_rfl) hS (v := (.int .i64 x6.2)) (ex_asn rfl hE rfl) ?_
                intro a hE
                exact h_done (by kernel_rfl) ⟨_, _, hE.cut ⟨rfl, trivial⟩, hp⟩
        ·
          refine h_op rfl ?_
          refine s_lit (wk0 rfl) rfl rfl hE hp rfl [(0, (.agg #[(.int .i64 x1), (.int .i64 j1), (.int .i64 p2)]))] ⟨⟨rfl, rfl⟩, trivial⟩ [(.int .i64 x1), (.int .i64 j1), (.int .i64 p2)] 38 (fun w => by simp [Instr.buildSlice, Instr.fill, Value.cells, go_sem]) ?_
          intro a w b8 hE hp
          have hp : Hp Z ρ (Pt b8 (.cells #[(.int .i64 x1), (.int .i64 j1), (.int .i64 p2)] 38 (0, 0)) :: Pt b6 (.cells #[] 38 (0, 0)) :: Pt b2 (.cells #[(.int .i64 x1), (.int .i64 j1), (.int .i64 p2)] 38 (0, 0)) :: Pt b1 (.cells #[(.int .i64 p0.kind), (.int .i64 p0.most), (.int .i64 p0.pause), (.int .i64 p0.keep)] 23 (0, 0)) :: L) w := hp
          refine s_nil ⟨(((hp.get 1 rfl).drop).drop), ?_⟩
          have hS := (((hp.get 1 rfl).drop).drop)
          refine h_all [3] (by kernel_rfl) rfl ?_
          refine List.forall_mem_cons.2 ⟨?_, fun _ h => absurd h (by simp)⟩
          ·
            refine h_op rfl ?_
            have hp := (hp.get 1 rfl).imp (own_of_pt (l := (([] : List Att) : List Att)) (n := 0) rfl (by decide) rfl)
            have hp : Hp Z ρ (OwnSl 38 (.slice (some ⟨b6, 0, none⟩) 0 0) ([] : List Att) :: Pt b8 (.cells #[(.int .i64 x1), (.int .i64 j1), (.int .i64 p2)] 38 (0, 0)) :: Pt b2 (.cells #[(.int .i64 x1), (.int .i64 j1), (.int .i64 p2)] 38 (0, 0)) :: Pt b1 (.cells #[(.int .i64 p0.kind), (.int .i64 p0.most), (.int .i64 p0.pause), (.int .i64 p0.keep)] 23 (0, 0)) :: L) w := hp
            refine s_apps (wk0 rfl) rfl rfl hE hp rfl slty24 rfl rfl 0 rfl rfl hp1 ex4 ?_
            intro v5 a w hE hp
            have hp : Hp Z ρ (OwnSl 38 v5 x4 :: Pt b8 (.cells #[(.int .i64 x1), (.int .i64 j1), (.int .i64 p2)] 38 (0, 0)) :: Pt b2 (.cells #[(.int .i64 x1), (.int .i64 j1), (.int .i64 p2)] 38 (0, 0)) :: Pt b1 (.cells #[(.int .i64 p0.kind), (.int .i64 p0.most), (.int .i64 p0.pause), (.int .i64 p0.keep)] 23 (0, 0)) :: L) w := hp
            refine s_nil ⟨(((hp.get 1 rfl).drop).drop), ?_⟩
            have hS := (((hp.get 1 rfl).drop).drop)
            refine h_all [6] (by kernel_rfl) rfl ?_
            refine List.forall_mem_cons.2 ⟨?_, fun _ h => absurd h (by simp)⟩
            ·
              refine h_op rfl ?_
              refine s_app (wk0 rfl) rfl rfl hE hp rfl slty24 rfl rfl 0 rfl rfl (l2 := [(Att.mk x1 j1 p2)]) rfl (fun j u hj => by have := Hp.cN 1 rfl 0 _ (sub_all rfl) w hp j u hj; simpa using this) ex5 ?_
              intro v6 a w hE hp
              have hp : Hp Z ρ (OwnSl 38 v6 x5 :: Pt b8 (.cells #[(.int .i64 x1), (.int .i64 j1), (.int .i64 p2)] 38 (0, 0)) :: Pt b2 (.cells #[(.int .i64 x1), (.int .i64 j1), (.int .i64 p2)] 38 (0, 0)) :: Pt b1 (.cells #[(.int .i64 p0.kind), (.int .i64 p0.most), (.int .i64 p0.pause), (.int .i64 p0.keep)] 23 (0, 0)) :: L) w := hp
              refine s_nil ⟨(((hp.get 1 rfl).drop).drop), ?_⟩
              have hS := (((hp.get 1 rfl).drop).drop)
              refine h_all [7] (by kernel_rfl) rfl ?_
              refine List.forall_mem_cons.2 ⟨?_, fun _ h => absurd h (by simp)⟩
              ·
                refine h_op rfl ?_
                obtain ⟨k3, k3a, k3d, k3h⟩ := (hp.get 0 rfl).lend
                refine s_call (wk0 rfl) rfl rfl hE rfl [(.agg #[(.int .i64 p0.kind), (.int .i64 p0.most), (.int .i64 p0.pause), (.int .i64 p0.keep)]), v6] ⟨rfl, rfl, trivial⟩ ent12 (c_assessorref52_Final p0 x5 v6 (OwnSl.ro k3d k3a) k3h x6 ex6) Ret.ret ?_
                intro v a w hR hE
                obtain ⟨rfl, hp⟩ := Ret.of hR
                have hp := Hp.back k3a k3d hp
                have hp : Hp Z ρ (OwnSl 38 v6 x5 :: Pt b8 (.cells #[(.int .i64 x1), (.int .i64 j1), (.int .i64 p2)] 38 (0, 0)) :: Pt b2 (.cells #[(.int .i64 x1), (.int .i64 j1), (.int .i64 p2)] 38 (0, 0)) :: Pt b1 (.cells #[(.int .i64 p0.kind), (.int .i64 p0.most), (.int .i64 p0.pause), (.int .i64 p0.keep)] 23 (0, 0)) :: L) w := hp
                have hp : Hp Z ρ (OwnSl 38 v6 x5 :: Pt b8 (.cells #[(.int .i64 x1), (.int .i64 j1), (.int .i64 p2)] 38 (0, 0)) :: Pt b2 (.cells #[(.int .i64 x1), (.int .i64 j1), (.int .i64 p2)] 38 (0, 0)) :: Pt b1 (.cells #[(.int .i64 p0.kind), (.int .i64 p0.most), (.int .i64 p0.pause), (.int .i64 p0.keep)] 23 (0, 0)) :: L) w := hp
                refine s_nil ⟨(((hp.get 1 rfl).drop).drop), ?_⟩
                have hS := (((hp.get 1 rfl).drop).drop)
                refine h_take 8 (wk0 rfl) rfl rfl rfl hE (by kernel_rfl) (by kernel_rfl) (by kernel_rfl) hS (v := (.tuple #[(.int .i64 x6.1), (.int .i64 x6.2)])) (ex_move rfl hE rfl) ?_
                intro a hE
                refine h_take 9 (wk0 rfl) rfl rfl rfl hE (by kernel_rfl) (by kernel_rfl) (by kernel_rfl) hS (v := (.int .i64 x6.1)) (ex_extract rfl hE rfl rfl) ?_
                intro a hE
                refine h_take 10 (wk0 rfl) rfl rfl rfl hE (by kernel_rfl) (by kernel_rfl) (by kernel_rfl) hS (v := (.int .i64 x6.2)) (ex_extract rfl hE rfl rfl) ?_
                intro a hE
                refine h_take 11 (wk0 rfl) rfl rfl rfl hE (by kernel_rfl) (by kernel_rfl) (by kernel_rfl) hS (v := (.int .i64 x6.1)) (ex_asn rfl hE rfl) ?_
                intro a hE
                refine h_take 12 (wk0 rfl) rfl rfl rfl hE (by kernel_rfl) (by kernel_rfl) (by kernel_rfl) hS (v := (.int .i64 x6.2)) (ex_asn rfl hE rfl) ?_
                intro a hE
                exact h_done (by kernel_rfl) ⟨_, _, hE.cut ⟨rfl, trivial⟩, hp⟩
      ·
        refine h_op rfl ?_
        refine s_lit (wk0 rfl) rfl rfl hE hp rfl [(0, (.agg #[(.int .i64 x1), (.int .i64 j1), (.int .i64 p2)]))] ⟨⟨rfl, rfl⟩, trivial⟩ [(.int .i64 x1), (.int .i64 j1), (.int .i64 p2)] 38 (fun w => by simp [Instr.buildSlice, Instr.fill, Value.cells, go_sem]) ?_
        intro a w b9 hE hp
        have hp : Hp Z ρ (Pt b9 (.cells #[(.int .i64 x1), (.int .i64 j1), (.int .i64 p2)] 38 (0, 0)) :: Pt b2 (.cells #[(.int .i64 x1), (.int .i64 j1), (.int .i64 p2)] 38 (0, 0)) :: Pt b1 (.cells #[(.int .i64 p0.kind), (.int .i64 p0.most), (.int .i64 p0.pause), (.int .i64 p0.keep)] 23 (0, 0)) :: L) w := hp
        refine s_nil ⟨(hp.drop), ?_⟩
        have hS := (hp.drop)
        refine h_all [1] (by kernel_rfl) rfl ?_
        refine List.forall_mem_cons.2 ⟨?_, fun _ h => absurd h (by simp)⟩
        ·
          refine h_op rfl ?_
          refine s_lit (wk0 rfl) rfl rfl hE hp rfl [] trivial [] 38 (fun w => by simp [Instr.buildSlice, Instr.fill, Value.cells, go_sem]) ?_
          intro a w b10 hE hp
          have hp : Hp Z ρ (Pt b10 (.cells #[] 38 (0, 0)) :: Pt b9 (.cells #[(.int .i64 x1), (.int .i64 j1), (.int .i64 p2)] 38 (0, 0)) :: Pt b2 (.cells #[(.int .i64 x1), (.int .i64 j1), (.int .i64 p2)] 38 (0, 0)) :: Pt b1 (.cells #[(.int .i64 p0.kind), (.int .i64 p0.most), (.int .i64 p0.pause), (.int .i64 p0.keep)] 23 (0, 0)) :: L) w := hp
          refine s_nil ⟨(((hp.get 1 rfl).drop).drop), ?_⟩
          have hS := (((hp.get 1 rfl).drop).drop)
          refine h_all [3] (by kernel_rfl) rfl ?_
          refine List.forall_mem_cons.2 ⟨?_, fun _ h => absurd h (by simp)⟩
          ·
            refine h_op rfl ?_
            have hp := (hp.get 0 rfl).imp (own_of_pt (l := (([] : List Att) : List Att)) (n := 0) rfl (by decide) rfl)
            have hp : Hp Z ρ (OwnSl 38 (.slice (some ⟨b10, 0, none⟩) 0 0) ([] : List Att) :: Pt b9 (.cells #[(.int .i64 x1), (.int .i64 j1), (.int .i64 p2)] 38 (0, 0)) :: Pt b2 (.cells #[(.int .i64 x1), (.int .i64 j1), (.int .i64 p2)] 38 (0, 0)) :: Pt b1 (.cells #[(.int .i64 p0.kind), (.int .i64 p0.most), (.int .i64 p0.pause), (.int .i64 p0.keep)] 23 (0, 0)) :: L) w := hp
            refine s_apps (wk0 rfl) rfl rfl hE hp rfl slty24 rfl rfl 0 rfl rfl hp1 ex4 ?_
            intro v7 a w hE hp
            have hp : Hp Z ρ (OwnSl 38 v7 x4 :: Pt b9 (.cells #[(.int .i64 x1), (.int .i64 j1), (.int .i64 p2)] 38 (0, 0)) :: Pt b2 (.cells #[(.int .i64 x1), (.int .i64 j1), (.int .i64 p2)] 38 (0, 0)) :: Pt b1 (.cells #[(.int .i64 p0.kind), (.int .i64 p0.most), (.int .i64 p0.pause), (.int .i64 p0.keep)] 23 (0, 0)) :: L) w := hp
            refine s_nil ⟨(((hp.get 1 rfl).drop).drop), ?_⟩
            have hS := (((hp.get 1 rfl).drop).drop)
            refine h_all [6] (by kernel_rfl) rfl ?_
            refine List.forall_mem_cons.2 ⟨?_, fun _ h => absurd h (by simp)⟩
            ·
              refine h_op rfl ?_
              refine s_app (wk0 rfl) rfl rfl hE hp rfl slty24 rfl rfl 0 rfl rfl (l2 := [(Att.mk x1 j1 p2)]) rfl (fun j u hj => by have := Hp.cN 1 rfl 0 _ (sub_all rfl) w hp j u hj; simpa using this) ex5 ?_
              intro v8 a w hE hp
              have hp : Hp Z ρ (OwnSl 38 v8 x5 :: Pt b9 (.cells #[(.int .i64 x1), (.int .i64 j1), (.int .i64 p2)] 38 (0, 0)) :: Pt b2 (.cells #[(.int .i64 x1), (.int .i64 j1), (.int .i64 p2)] 38 (0, 0)) :: Pt b1 (.cells #[(.int .i64 p0.kind), (.int .i64 p0.most), (.int .i64 p0.pause), (.int .i64 p0.keep)] 23 (0, 0)) :: L) w := hp
              refine s_nil ⟨(((hp.get 1 rfl).drop).drop), ?_⟩
              have hS := (((hp.get 1 rfl).drop).drop)
              refine h_all [7] (by kernel_rfl) rfl ?_
              refine List.forall_mem_cons.2 ⟨?_, fun _ h => absurd h (by simp)⟩
              ·
                refine h_op rfl ?_
                obtain ⟨k4, k4a, k4d, k4h⟩ := (hp.get 0 rfl).lend
                refine s_call (wk0 rfl) rfl rfl hE rfl [(.agg #[(.int .i64 p0.kind), (.int .i64 p0.most), (.int .i64 p0.pause), (.int .i64 p0.keep)]), v8] ⟨rfl, rfl, trivial⟩ ent12 (c_assessorref52_Final p0 x5 v8 (OwnSl.ro k4d k4a) k4h x6 ex6) Ret.ret ?_
                intro v a w hR hE
                obtain ⟨rfl, hp⟩ := Ret.of hR
                have hp := Hp.back k4a k4d hp
                have hp : Hp Z ρ (OwnSl 38 v8 x5 :: Pt b9 (.cells #[(.int .i64 x1), (.int .i64 j1), (.int .i64 p2)] 38 (0, 0)) :: Pt b2 (.cells #[(.int .i64 x1), (.int .i64 j1), (.int .i64 p2)] 38 (0, 0)) :: Pt b1 (.cells #[(.int .i64 p0.kind), (.int .i64 p0.most), (.int .i64 p0.pause), (.int .i64 p0.keep)] 23 (0, 0)) :: L) w := hp
                have hp : Hp Z ρ (OwnSl 38 v8 x5 :: Pt b9 (.cells #[(.int .i64 x1), (.int .i64 j1), (.int .i64 p2)] 38 (0, 0)) :: Pt b2 (.cells #[(.int .i64 x1), (.int .i64 j1), (.int .i64 p2)] 38 (0, 0)) :: Pt b1 (.cells #[(.int .i64 p0.kind), (.int .i64 p0.most), (.int .i64 p0.pause), (.int .i64 p0.keep)] 23 (0, 0)) :: L) w := hp
                refine s_nil ⟨(((hp.get 1 rfl).drop).drop), ?_⟩
                have hS := (((hp.get 1 rfl).drop).drop)
                refine h_take 8 (wk0 rfl) rfl rfl rfl hE (by kernel_rfl) (by kernel_rfl) (by kernel_rfl) hS (v := (.tuple #[(.int .i64 x6.1), (.int .i64 x6.2)])) (ex_move rfl hE rfl) ?_
                intro a hE
                refine h_take 9 (wk0 rfl) rfl rfl rfl hE (by kernel_rfl) (by kernel_rfl) (by kernel_rfl) hS (v := (.int .i64 x6.1)) (ex_extract rfl hE rfl rfl) ?_
                intro a hE
                refine h_take 10 (wk0 rfl) rfl rfl rfl hE (by kernel_rfl) (by kernel_rfl) (by kernel_rfl) hS (v := (.int .i64 x6.2)) (ex_extract rfl hE rfl rfl) ?_
                intro a hE
                refine h_take 11 (wk0 rfl) rfl rfl rfl hE (by kernel_rfl) (by kernel_rfl) (by kernel_rfl) hS (v := (.int .i64 x6.1)) (ex_asn rfl hE rfl) ?_
                intro a hE
                refine h_take 12 (wk0 rfl) rfl rfl rfl hE (by kernel_rfl) (by kernel_rfl) (by kernel_rfl) hS (v := (.int .i64 x6.2)) (ex_asn rfl hE rfl) ?_
                intro a hE
                exact h_done (by kernel_rfl) ⟨_, _, hE.cut ⟨rfl, trivial⟩, hp⟩
    · rintro a w ⟨y3, y4, hE, hp⟩
      refine k_seq ?_
      refine k_region ?_
      refine s_val (wk0 rfl) rfl rfl hE hp (v := (.int .i64 x6.1)) (ex_move rfl hE rfl) ?_
      intro a hE
      refine s_val (wk0 rfl) rfl rfl hE hp (v := (.int .i64 x6.1)) (ex_asn rfl hE rfl) ?_
      intro a hE
      refine s_nil ?_
      refine k_ret ?_
      obtain rfl := Option.some.inj hm
      exact ret1 hE rfl rfl ⟨_, rfl, rfl, (((((((hp.get 3 rfl).drop).get 2 rfl).drop).get 1 rfl).drop).drop)⟩
/- assessor/assessorref52.Needed -/
set_option maxRecDepth 100000 in
set_option maxHeartbeats 4000000 in
theorem c_assessorref52_Needed {Z : World} {ρ : PH} {L : List Atom} {w : World} (p0 : Rule) (p1 : (List Att)) (vp1 : Value) (hp1 : RoSl ρ vp1 p1) (p2 : Int) (hp : Hp Z ρ (L) w) (r : (Int × Bool)) (hm : m_assessorref52_Needed p0 p1 p2 = some r) :
    Calls Try.prog 14 #[(.agg #[(.int .i64 p0.kind), (.int .i64 p0.most), (.int .i64 p0.pause), (.int .i64 p0.keep)]), vp1, (.int .i64 p2)] w (Ret fun v w' => v = .tuple #[(.int .i64 r.1), (.bool r.2)] ∧ Hp Z ρ (L) w') := by
  refine enter (N := 46) Try.func14 rfl rfl [(0, (.agg #[(.int .i64 p0.kind), (.int .i64 p0.most), (.int .i64 p0.pause), (.int .i64 p0.keep)])), (1, vp1), (2, (.int .i64 p2))] rfl (argsIn_mem ⟨rfl, rfl, rfl, trivial⟩) fun a hE => ?_
  unfold m_assessorref52_Needed at hm
  refine k_seq ?_
  refine k_region ?_
  refine s_box (wk0 rfl) rfl rfl hE hp rfl (v := (.agg #[(.int .i64 p0.kind), (.int .i64 p0.most), (.int .i64 p0.pause), (.int .i64 p0.keep)])) rfl ?_
  intro a w b1 hE hp
  have hp : Hp Z ρ (Pt b1 (.cells #[(.int .i64 p0.kind), (.int .i64 p0.most), (.int .i64 p0.pause), (.int .i64 p0.keep)] 23 (0, 0)) :: L) w := hp
  refine s_val (wk0 rfl) rfl rfl hE hp (v := (.int .i64 0)) (ex_asn rfl hE rfl) ?_
  intro a hE
  refine s_val (wk0 rfl) rfl rfl hE hp (v := (.bool false)) (ex_asn rfl hE rfl) ?_
  intro a hE
  refine s_nil ?_
  refine k_seq ?_
  refine k_seq ?_
  refine k_region ?_
  refine s_val (wk0 rfl) rfl rfl hE hp (v := (.agg #[(.int .i64 p0.kind), (.int .i64 p0.most), (.int .i64 p0.pause), (.int .i64 p0.keep)])) (ex_load rfl hE rfl (fun w hw => run_ldN (cs := [(.int .i64 p0.kind), (.int .i64 p0.most), (.int .i64 p0.pause), (.int .i64 p0.keep)]) varty23 (Hp.cN 0 rfl 0 _ (sub_all rfl) w hw))) ?_
  intro a hE
  refine s_val (wk0 rfl) rfl rfl hE hp (v := vp1) (ex_move rfl hE rfl) ?_
  intro a hE
  obtain ⟨x1, ex1, hm⟩ := bnd hm
  refine s_call (wk0 rfl) rfl rfl hE rfl [(.agg #[(.int .i64 p0.kind), (.int .i64 p0.most), (.int .i64 p0.pause), (.int .i64 p0.keep)]), vp1] ⟨rfl, rfl, trivial⟩ ent24 (c_assessorref52_Valid p0 p1 vp1 hp1 hp x1 ex1) Ret.ret ?_
  intro v a w hR hE
  obtain ⟨rfl, hp⟩ := Ret.of hR
  have hp : Hp Z ρ (Pt b1 (.cells #[(.int .i64 p0.kind), (.int .i64 p0.most), (.int .i64 p0.pause), (.int .i64 p0.keep)] 23 (0, 0)) :: L) w := hp
  refine s_val (wk0 rfl) rfl rfl hE hp (v := (.bool (!x1))) (ex_not rfl hE rfl) ?_
  intro a hE
  refine s_val (wk0 rfl) rfl rfl hE hp (v := (.bool (!x1))) (ex_move rfl hE rfl) ?_
  intro a hE
  refine s_cut [_, _, _, _, _, _] (fun a w => Env 46 [(21, (.bool ((!x1) || (decide ((p1.length : Int) = p0.most))))), (1, vp1), (2, (.int .i64 p2)), (3, (.pointer (some ⟨b1, 0, none⟩)))] a ∧ Hp Z ρ (Pt b1 (.cells #[(.int .i64 p0.kind), (.int .i64 p0.most), (.int .i64 p0.pause), (.int .i64 p0.keep)] 23 (0, 0)) :: L) w) ?_ ?_
  · rcases Bool.eq_false_or_eq_true (!x1) with hb1 | hb1
    ·
      refine s_skip (wk2 hE rfl rfl rfl hb1) rfl rfl hE ?_
      intro a hE
      refine s_skip (wk2 hE rfl rfl rfl hb1) rfl rfl hE ?_
      intro a hE
      refine s_skip (wk2 hE rfl rfl rfl hb1) rfl rfl hE ?_
      intro a hE
      refine s_skip (wk2 hE rfl rfl rfl hb1) rfl rfl hE ?_
      intro a hE
      refine s_skip (wk2 hE rfl rfl rfl hb1) rfl rfl hE ?_
      intro a hE
      refine s_val (wk0 rfl) rfl rfl hE hp (v := (.bool true)) (ex_pick1 rfl hE rfl hb1 rfl) ?_
      intro a hE
      have hE := hE.eqv (v' := (.bool ((!x1) || (decide ((p1.length : Int) = p0.most))))) (by rw [hb1]; rfl)
      exact s_nil ⟨hE.cut ⟨rfl, rfl, rfl, rfl, trivial⟩, hp⟩
    ·
      refine s_val (wk1 hE rfl rfl rfl hb1) rfl rfl hE hp (v := vp1) (ex_move rfl hE rfl) ?_
      intro a hE
      refine s_val (wk1 hE rfl rfl rfl hb1) rfl rfl hE hp (v := (.int .i64 (p1.length : Int))) (ex_len rfl hE rfl (RoSl.len hp1 slty24)) ?_
      intro a hE
      refine s_val (wk1 hE rfl rfl rfl hb1) rfl rfl hE hp (v := (.pointer (some ⟨b1, 1, none⟩))) (ex_field rfl hE rfl (fldty23_1 _ _)) ?_
      intro a hE
      refine s_val (wk1 hE rfl rfl rfl hb1) rfl rfl hE hp (v := (.int .i64 p0.most)) (ex_load rfl hE rfl (fun w hw => run_ld1 varty3 (Hp.c 0 rfl 1 rfl w hw))) ?_
      intro a hE
      refine s_val (wk1 hE rfl rfl rfl hb1) rfl rfl hE hp (v := (.bool (decide ((p1.length : Int) = p0.most)))) (ex_eql rfl hE rfl rfl) ?_
      intro a hE
      refine s_val (wk0 rfl) rfl rfl hE hp (v := (.bool (decide ((p1.length : Int) = p0.most)))) (ex_pick0 rfl hE rfl hb1 rfl) ?_
      intro a hE
      have hE := hE.eqv (v' := (.bool ((!x1) || (decide ((p1.length : Int) = p0.most))))) (by rw [hb1]; rfl)
      exact s_nil ⟨hE.cut ⟨rfl, rfl, rfl, rfl, trivial⟩, hp⟩
  · rintro a w ⟨hE, hp⟩
    refine s_val (wk0 rfl) rfl rfl hE hp (v := (.bool ((!x1) || (decide ((p1.length : Int) = p0.most))))) (ex_move rfl hE rfl) ?_
    intro a hE
    obtain ⟨m1, hg1, hm⟩ := bnd hm
    refine s_cut [_, _, _, _, _, _] (fun a w => Env 46 [(28, (.bool m1)), (1, vp1), (2, (.int .i64 p2)), (3, (.pointer (some ⟨b1, 0, none⟩)))] a ∧ Hp Z ρ (Pt b1 (.cells #[(.int .i64 p0.kind), (.int .i64 p0.most), (.int .i64 p0.pause), (.int .i64 p0.keep)] 23 (0, 0)) :: L) w) ?_ ?_
    · rcases Bool.eq_false_or_eq_true ((!x1) || (decide ((p1.length : Int) = p0.most))) with hb2 | hb2
      ·
        replace hg1 := (it hb2).symm.trans hg1
        refine s_skip (wk2 hE rfl rfl rfl hb2) rfl rfl hE ?_
        intro a hE
        refine s_skip (wk2 hE rfl rfl rfl hb2) rfl rfl hE ?_
        intro a hE
        refine s_skip (wk2 hE rfl rfl rfl hb2) rfl rfl hE ?_
        intro a hE
        refine s_skip (wk2 hE rfl rfl rfl hb2) rfl rfl hE ?_
        intro a hE
        refine s_skip (wk2 hE rfl rfl rfl hb2) rfl rfl hE ?_
        intro a hE
        refine s_val (wk0 rfl) rfl rfl hE hp (v := (.bool true)) (ex_pick1 rfl hE rfl hb2 rfl) ?_
        intro a hE
        obtain rfl := Option.some.inj hg1
        exact s_nil ⟨hE.cut ⟨rfl, rfl, rfl, rfl, trivial⟩, hp⟩
      ·
        replace hg1 := (ie hb2).symm.trans hg1
        refine s_val (wk1 hE rfl rfl rfl hb2) rfl rfl hE hp (v := (.agg #[(.int .i64 p0.kind), (.int .i64 p0.most), (.int .i64 p0.pause), (.int .i64 p0.keep)])) (ex_load rfl hE rfl (fun w hw => run_ldN (cs := [(.int .i64 p0.kind), (.int .i64 p0.most), (.int .i64 p0.pause), (.int .i64 p0.keep)]) varty23 (Hp.cN 0 rfl 0 _ (sub_all rfl) w hw))) ?_
        intro a hE
        refine s_val (wk1 hE rfl rfl rfl hb2) rfl rfl hE hp (v := vp1) (ex_move rfl hE rfl) ?_
        intro a hE
        obtain ⟨x2, ex2, hg1⟩ := bnd hg1
        refine s_call (wk1 hE rfl rfl rfl hb2) rfl rfl hE rfl [(.agg #[(.int .i64 p0.kind), (.int .i64 p0.most), (.int .i64 p0.pause), (.int .i64 p0.keep)]), vp1, (.int .i64 100000000)] ⟨rfl, rfl, rfl, trivial⟩ ent31 (c_assessorref52_with p0 p1 vp1 hp1 100000000 hp x2 ex2) Ret.ret ?_
        intro v a w hR hE
        obtain ⟨rfl, hp⟩ := Ret.of hR
        have hp : Hp Z ρ (Pt b1 (.cells #[(.int .i64 p0.kind), (.int .i64 p0.most), (.int .i64 p0.pause), (.int .i64 p0.keep)] 23 (0, 0)) :: L) w := hp
        refine s_val (wk1 hE rfl rfl rfl hb2) rfl rfl hE hp (v := (.int .i64 p2)) (ex_move rfl hE rfl) ?_
        intro a hE
        refine s_val (wk1 hE rfl rfl rfl hb2) rfl rfl hE hp (v := (.bool (decide (x2 < p2)))) (ex_lss rfl hE rfl rfl) ?_
        intro a hE
        refine s_val (wk0 rfl) rfl rfl hE hp (v := (.bool (decide (x2 < p2)))) (ex_pick0 rfl hE rfl hb2 rfl) ?_
        intro a hE
        obtain rfl := Option.some.inj hg1
        exact s_nil ⟨hE.cut ⟨rfl, rfl, rfl, rfl, trivial⟩, hp⟩
    · rintro a w ⟨hE, hp⟩
      refine s_nil ?_
      refine k_if hE rfl (fun hb3 => ?_) (fun hb3 => ?_)
      · replace hm := (it hb3).symm.trans hm
        refine k_seq ?_
        refine k_region ?_
        refine s_val (wk0 rfl) rfl rfl hE hp (v := (.int .i64 0)) (ex_asn rfl hE rfl) ?_
        intro a hE
        refine s_val (wk0 rfl) rfl rfl hE hp (v := (.bool false)) (ex_asn rfl hE rfl) ?_
        intro a hE
        refine s_nil ?_
        refine k_ret ?_
        obtain rfl := Option.some.inj hm
        exact ret2 hE rfl rfl rfl ⟨_, rfl, rfl, (hp.drop)⟩
      · replace hm := (ie hb3).symm.trans hm
        refine k_skip ?_
        refine k_seq ?_
        refine k_region ?_
        refine s_val (wk0 rfl) rfl rfl hE hp (v := (.int .i64 (-1))) (ex_asn rfl hE rfl) ?_
        intro a hE
        refine s_val (wk0 rfl) rfl rfl hE hp (v := (.int .i64 100000000)) (ex_asn rfl hE rfl) ?_
        intro a hE
        refine s_nil ?_
        refine k_seq ?_
        obtain ⟨b2, hb4, hm⟩ := bnd hm
        refine k_block (fun a w => Env 46 [(9, (.int .i64 b2))] a ∧ Hp Z ρ (Pt b1 (.cells #[(.int .i64 p0.kind), (.int .i64 p0.most), (.int .i64 p0.pause), (.int .i64 p0.keep)] 23 (0, 0)) :: L) w) ?_ ?_
        · refine k_loop hb4 (fun s a w => Env 46 [(1, vp1), (2, (.int .i64 p2)), (3, (.pointer (some ⟨b1, 0, none⟩))), (8, (.int .i64 s.1)), (9, (.int .i64 s.2))] a ∧ Hp Z ρ (Pt b1 (.cells #[(.int .i64 p0.kind), (.int .i64 p0.most), (.int .i64 p0.pause), (.int .i64 p0.keep)] 23 (0, 0)) :: L) w) ?_ ?_
          · exact ⟨hE.cut ⟨rfl, rfl, rfl, rfl, rfl, trivial⟩, hp⟩
          · rintro ⟨lp1_0, lp1_1⟩ st a w ⟨hE, hp⟩ hl1
            have hE : Env 46 [(1, vp1), (2, (.int .i64 p2)), (3, (.pointer (some ⟨b1, 0, none⟩))), (8, (.int .i64 lp1_0)), (9, (.int .i64 lp1_1))] a := hE
            have hp : Hp Z ρ (Pt b1 (.cells #[(.int .i64 p0.kind), (.int .i64 p0.most), (.int .i64 p0.pause), (.int .i64 p0.keep)] 23 (0, 0)) :: L) w := hp
            replace hl1 : m_assessorref52_Needed_lp1 p0 p1 p2 lp1_0 lp1_1 = some st := hl1
            unfold m_assessorref52_Needed_lp1 at hl1
            refine k_seq ?_
            refine k_seq ?_
            refine k_region ?_
            refine s_val (wk0 rfl) rfl rfl hE hp (v := (.int .i64 lp1_1)) (ex_move rfl hE rfl) ?_
            intro a hE
            refine s_val (wk0 rfl) rfl rfl hE hp (v := (.int .i64 lp1_0)) (ex_move rfl hE rfl) ?_
            intro a hE
            obtain ⟨x3, ex3, hl1⟩ := bnd hl1
            refine s_val (wk0 rfl) rfl rfl hE hp (v := (.int .i64 x3)) (ex_sub rfl hE rfl rfl (inK_some ex3)) ?_
            intro a hE
            refine s_val (wk0 rfl) rfl rfl hE hp (v := (.bool (decide (1 < x3)))) (ex_gtr rfl hE rfl rfl) ?_
            intro a hE
            refine s_nil ?_
            refine k_if hE rfl (fun hb5 => ?_) (fun hb5 => ?_)
            · replace hl1 := (it hb5).symm.trans hl1
              refine k_skip ?_
              refine k_plain ?_
              refine k_seq ?_
              refine k_region ?_
              refine s_val (wk0 rfl) rfl rfl hE hp (v := (.int .i64 lp1_0)) (ex_move rfl hE rfl) ?_
              intro a hE
              refine s_val (wk0 rfl) rfl rfl hE hp (v := (.int .i64 lp1_1)) (ex_move rfl hE rfl) ?_
              intro a hE
              obtain ⟨x4, ex4, hl1⟩ := bnd hl1
              refine s_val (wk0 rfl) rfl rfl hE hp (v := (.int .i64 x4)) (ex_add rfl hE rfl rfl (inK_some ex4)) ?_
              intro a hE
              obtain ⟨x5, ex5, hl1⟩ := bnd hl1
              refine s_val (wk0 rfl) rfl rfl hE hp (v := (.int .i64 x5)) (ex_quo rfl hE rfl rfl (quoK_some ex5).1 (quoK_some ex5).2) ?_
              intro a hE
              refine s_val (wk0 rfl) rfl rfl hE hp (v := (.int .i64 x5)) (ex_asn rfl hE rfl) ?_
              intro a hE
              refine s_nil ?_
              refine k_seq ?_
              refine k_region ?_
              refine s_val (wk0 rfl) rfl rfl hE hp (v := (.agg #[(.int .i64 p0.kind), (.int .i64 p0.most), (.int .i64 p0.pause), (.int .i64 p0.keep)])) (ex_load rfl hE rfl (fun w hw => run_ldN (cs := [(.int .i64 p0.kind), (.int .i64 p0.most), (.int .i64 p0.pause), (.int .i64 p0.keep)]) varty23 (Hp.cN 0 rfl 0 _ (sub_all rfl) w hw))) ?_
              intro a hE
              refine s_val (wk0 rfl) rfl rfl hE hp (v := vp1) (ex_move rfl hE rfl) ?_
              intro a hE
              refine s_val (wk0 rfl) rfl rfl hE hp (v := (.int .i64 x5)) (ex_move rfl hE rfl) ?_
              intro a hE
              obtain ⟨x6, ex6, hl1⟩ := bnd hl1
              refine s_call (wk0 rfl) rfl rfl hE rfl [(.agg #[(.int .i64 p0.kind), (.int .i64 p0.most), (.int .i64 p0.pause), (.int .i64 p0.keep)]), vp1, (.int .i64 x5)] ⟨rfl, rfl, rfl, trivial⟩ ent31 (c_assessorref52_with p0 p1 vp1 hp1 x5 hp x6 ex6) Ret.ret ?_
              intro v a w hR hE
              obtain ⟨rfl, hp⟩ := Ret.of hR
              have hp : Hp Z ρ (Pt b1 (.cells #[(.int .i64 p0.kind), (.int .i64 p0.most), (.int .i64 p0.pause), (.int .i64 p0.keep)] 23 (0, 0)) :: L) w := hp
              refine s_val (wk0 rfl) rfl rfl hE hp (v := (.int .i64 p2)) (ex_move rfl hE rfl) ?_
              intro a hE
              refine s_val (wk0 rfl) rfl rfl hE hp (v := (.bool (decide (p2 ≤ x6)))) (ex_geq rfl hE rfl rfl) ?_
              intro a hE
              refine s_nil ?_
              refine k_if hE rfl (fun hb6 => ?_) (fun hb6 => ?_)
              · replace hl1 := (it hb6).symm.trans hl1
                refine k_region ?_
                refine s_val (wk0 rfl) rfl rfl hE hp (v := (.int .i64 x5)) (ex_move rfl hE rfl) ?_
                intro a hE
                refine s_val (wk0 rfl) rfl rfl hE hp (v := (.int .i64 x5)) (ex_asn rfl hE rfl) ?_
                intro a hE
                refine s_nil ?_
                exact ⟨_, (Option.some.inj hl1).symm, hE.cut ⟨rfl, rfl, rfl, rfl, rfl, trivial⟩, hp⟩
              · replace hl1 := (ie hb6).symm.trans hl1
                refine k_region ?_
                refine s_val (wk0 rfl) rfl rfl hE hp (v := (.int .i64 x5)) (ex_move rfl hE rfl) ?_
                intro a hE
                refine s_val (wk0 rfl) rfl rfl hE hp (v := (.int .i64 x5)) (ex_asn rfl hE rfl) ?_
                intro a hE
                refine s_nil ?_
                have hE := hE.cut (E' := [(1, vp1), (2, (.int .i64 p2)), (3, (.pointer (some ⟨b1, 0, none⟩))), (8, (.int .i64 x5)), (9, (.int .i64 lp1_1))]) ⟨rfl, rfl, rfl, rfl, rfl, trivial⟩
                exact ⟨_, (Option.some.inj hl1).symm, hE.cut ⟨rfl, rfl, rfl, rfl, rfl, trivial⟩, hp⟩
            · replace hl1 := (ie hb5).symm.trans hl1
              refine k_exit ?_
              refine ⟨_, (Option.some.inj hl1).symm, fun hbb => ?_⟩
              subst hbb
              exact ⟨hE.cut ⟨rfl, trivial⟩, hp⟩
        · rintro a w ⟨hE, hp⟩
          refine k_seq ?_
          refine k_region ?_
          refine s_val (wk0 rfl) rfl rfl hE hp (v := (.int .i64 b2)) (ex_move rfl hE rfl) ?_
          intro a hE
          refine s_val (wk0 rfl) rfl rfl hE hp (v := (.int .i64 b2)) (ex_asn rfl hE rfl) ?_
          intro a hE
          refine s_val (wk0 rfl) rfl rfl hE hp (v := (.bool true)) (ex_asn rfl hE rfl) ?_
          intro a hE
          refine s_nil ?_
          refine k_ret ?_
          obtain rfl := Option.some.inj hm
          exact ret2 hE rfl rfl rfl ⟨_, rfl, rfl, (hp.drop)⟩
end Go.Proofs.Ytmjmoogldbejoaa
