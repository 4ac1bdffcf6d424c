/-
  The code goes as its model: assessor/attempts.Needed$1, assessor/attempts.Needed. (Printed by wip/sp/gen.py.)
-/
import Derived.Test.YtmjmoogldbejoaaNM
import Derived.Test.YtmjmoogldbejoaaFct
import Derived.Test.YtmjmoogldbejoaaCS
set_option linter.unusedVariables false
set_option linter.unusedSimpArgs false
namespace Go.Proofs.Ytmjmoogldbejoaa
open Go.RowKit

/- assessor/attempts.Needed$1 -/
set_option maxRecDepth 100000 in
set_option maxHeartbeats 4000000 in
theorem c_attempts_Needed_1 {Z : World} {ρ : PH} {L : List Atom} {w : World} (p0 : Int) (bc0 : Nat) (c0 : (List Att)) (vc0 : Value) (hc0 : RoSl ρ vc0 c0) (bc1 : Nat) (c1 : Rule) (bc2 : Nat) (c2 : Int) (hp : Hp Z ρ (Pt bc0 (.cells #[vc0] 24 (0, 0)) :: Pt bc1 (.cells #[(.int .i64 c1.kind), (.int .i64 c1.most), (.int .i64 c1.pause), (.int .i64 c1.keep)] 23 (0, 0)) :: Pt bc2 (.cells #[(.int .i64 c2)] 3 (0, 0)) :: L) w) (r : Bool) (hm : m_attempts_Needed_1 p0 c0 c1 c2 = some r) :
    Calls Try.prog 29 #[(.int .i64 p0), (.pointer (some ⟨bc0, 0, none⟩)), (.pointer (some ⟨bc1, 0, none⟩)), (.pointer (some ⟨bc2, 0, none⟩))] w (Ret fun v w' => v = (.bool r) ∧ Hp Z ρ (Pt bc0 (.cells #[vc0] 24 (0, 0)) :: Pt bc1 (.cells #[(.int .i64 c1.kind), (.int .i64 c1.most), (.int .i64 c1.pause), (.int .i64 c1.keep)] 23 (0, 0)) :: Pt bc2 (.cells #[(.int .i64 c2)] 3 (0, 0)) :: L) w') := by
  refine enter (N := 23) Try.func29 rfl rfl [(0, (.int .i64 p0)), (1, (.pointer (some ⟨bc0, 0, none⟩))), (2, (.pointer (some ⟨bc1, 0, none⟩))), (3, (.pointer (some ⟨bc2, 0, none⟩)))] rfl (argsIn_mem ⟨rfl, rfl, rfl, rfl, trivial⟩) fun a hE => ?_
  unfold m_attempts_Needed_1 at hm
  refine k_seq ?_
  refine k_region ?_
  refine s_val (wk0 rfl) rfl rfl hE hp (v := (.bool false)) (ex_asn rfl hE rfl) ?_
  intro a hE
  refine s_nil ?_
  refine k_seq ?_
  obtain ⟨x1, ex1, hm⟩ := bnd hm
  obtain ⟨x2, ex2, hm⟩ := bnd hm
  refine k_held (Z := Z) (ρ := ρ) (Pt bc0 (.cells #[vc0] 24 (0, 0)) :: Pt bc1 (.cells #[(.int .i64 c1.kind), (.int .i64 c1.most), (.int .i64 c1.pause), (.int .i64 c1.keep)] 23 (0, 0)) :: Pt bc2 (.cells #[(.int .i64 c2)] 3 (0, 0)) :: L) (fun a w => ∃ y4 : Nat, Env 23 [(1, (.pointer (some ⟨bc0, 0, none⟩))), (2, (.pointer (some ⟨bc1, 0, none⟩))), (3, (.pointer (some ⟨bc2, 0, none⟩))), (6, (.pointer (some ⟨y4, 0, none⟩)))] a ∧ Hp Z ρ (Pt y4 (.cells #[(.int .i64 x1), (.int .i64 x2), (.int .i64 p0)] 38 (0, 0)) :: Pt bc0 (.cells #[vc0] 24 (0, 0)) :: Pt bc1 (.cells #[(.int .i64 c1.kind), (.int .i64 c1.most), (.int .i64 c1.pause), (.int .i64 c1.keep)] 23 (0, 0)) :: Pt bc2 (.cells #[(.int .i64 c2)] 3 (0, 0)) :: L) w) (by kernel_rfl) ?_ ?_
  ·
    have hp := hp.drew
    have hS : Hp Z ρ (Pt bc0 (.cells #[vc0] 24 (0, 0)) :: Pt bc1 (.cells #[(.int .i64 c1.kind), (.int .i64 c1.most), (.int .i64 c1.pause), (.int .i64 c1.keep)] 23 (0, 0)) :: Pt bc2 (.cells #[(.int .i64 c2)] 3 (0, 0)) :: L) w.drew := hp
    refine h_take 0 (wk0 rfl) rfl rfl rfl hE (by kernel_rfl) (by kernel_rfl) (by kernel_rfl) hS (v := vc0) (ex_load rfl hE rfl (fun w hw => run_ld1 varty24 (Hp.c 0 rfl 0 rfl w hw))) ?_
    intro a hE
    refine h_take 1 (wk0 rfl) rfl rfl rfl hE (by kernel_rfl) (by kernel_rfl) (by kernel_rfl) hS (v := (.int .i64 (c0.length : Int))) (ex_len rfl hE rfl (RoSl.len hc0 slty24)) ?_
    intro a hE
    refine h_take 2 (wk0 rfl) rfl rfl rfl hE (by kernel_rfl) (by kernel_rfl) (by kernel_rfl) hS (v := (.int .i64 x1)) (ex_add rfl hE rfl rfl (inK_some ex1)) ?_
    intro a hE
    refine h_take 3 (wk0 rfl) rfl rfl rfl hE (by kernel_rfl) (by kernel_rfl) (by kernel_rfl) hS (v := vc0) (ex_load rfl hE rfl (fun w hw => run_ld1 varty24 (Hp.c 0 rfl 0 rfl w hw))) ?_
    intro a hE
    refine h_take 5 (wk0 rfl) rfl rfl rfl hE (by kernel_rfl) (by kernel_rfl) (by kernel_rfl) hS (v := (.int .i64 p0)) (ex_move rfl hE rfl) ?_
    intro a hE
    refine h_all [4, 7] (by kernel_rfl) rfl ?_
    refine List.forall_mem_cons.2 ⟨?_, List.forall_mem_cons.2 ⟨?_, fun _ h => absurd h (by simp)⟩⟩
    ·
      refine h_op rfl ?_
      refine s_call (wk0 rfl) rfl rfl hE rfl [vc0] ⟨rfl, trivial⟩ ent30 (c_attempts_last c0 vc0 hc0 hp x2 ex2) Ret.ret ?_
      intro v a w hR hE
      obtain ⟨rfl, hp⟩ := Ret.of hR
      have hp : Hp Z ρ (Pt bc0 (.cells #[vc0] 24 (0, 0)) :: Pt bc1 (.cells #[(.int .i64 c1.kind), (.int .i64 c1.most), (.int .i64 c1.pause), (.int .i64 c1.keep)] 23 (0, 0)) :: Pt bc2 (.cells #[(.int .i64 c2)] 3 (0, 0)) :: L) w := hp
      refine s_nil ⟨hp, ?_⟩
      have hS := hp
      refine h_take 6 (wk0 rfl) rfl rfl rfl hE (by kernel_rfl) (by kernel_rfl) (by kernel_rfl) hS (v := (.agg #[(.int .i64 x1), (.int .i64 x2), (.int .i64 p0)])) (ex_bld rfl hE [(0, (.int .i64 x1)), (1, (.int .i64 x2)), (2, (.int .i64 p0))] (by exact ⟨⟨rfl, rfl⟩, ⟨rfl, rfl⟩, ⟨rfl, rfl⟩, trivial⟩) (fun w => by simp [Instr.build, Instr.fill, Value.cells, go_sem])) ?_
      intro a hE
      refine h_all [7] (by kernel_rfl) rfl ?_
      refine List.forall_mem_cons.2 ⟨?_, fun _ h => absurd h (by simp)⟩
      ·
        refine h_op rfl ?_
        refine s_new (wk0 rfl) rfl rfl hE hp rfl [(.int .i64 0), (.int .i64 0), (.int .i64 0)] (fun w => by simp [Instr.alloc, go_sem]) ?_
        intro a w b2 hE hp
        have hp : Hp Z ρ (Pt b2 (.cells #[(.int .i64 0), (.int .i64 0), (.int .i64 0)] 38 (0, 0)) :: Pt bc0 (.cells #[vc0] 24 (0, 0)) :: Pt bc1 (.cells #[(.int .i64 c1.kind), (.int .i64 c1.most), (.int .i64 c1.pause), (.int .i64 c1.keep)] 23 (0, 0)) :: Pt bc2 (.cells #[(.int .i64 c2)] 3 (0, 0)) :: L) w := hp
        refine s_nil ⟨(hp.drop), ?_⟩
        have hS := (hp.drop)
        refine h_all [8] (by kernel_rfl) rfl ?_
        refine List.forall_mem_cons.2 ⟨?_, fun _ h => absurd h (by simp)⟩
        ·
          refine h_op rfl ?_
          refine s_store (wk0 rfl) rfl hE hp rfl rfl rfl 0 rfl varty38.size_ rfl (by simp [Value.cells, Value.oneCell']) [(.int .i64 x1), (.int .i64 x2), (.int .i64 p0)] rfl ?_
          intro w hp
          have hp : Hp Z ρ (Pt b2 (.cells #[(.int .i64 x1), (.int .i64 x2), (.int .i64 p0)] 38 (0, 0)) :: Pt bc0 (.cells #[vc0] 24 (0, 0)) :: Pt bc1 (.cells #[(.int .i64 c1.kind), (.int .i64 c1.most), (.int .i64 c1.pause), (.int .i64 c1.keep)] 23 (0, 0)) :: Pt bc2 (.cells #[(.int .i64 c2)] 3 (0, 0)) :: L) w := hp
          refine s_nil ⟨(hp.drop), ?_⟩
          have hS := (hp.drop)
          exact h_done (by kernel_rfl) ⟨_, hE.cut ⟨rfl, rfl, rfl, rfl, trivial⟩, hp⟩
    ·
      refine h_op rfl ?_
      refine s_new (wk0 rfl) rfl rfl hE hp rfl [(.int .i64 0), (.int .i64 0), (.int .i64 0)] (fun w => by simp [Instr.alloc, go_sem]) ?_
      intro a w b3 hE hp
      have hp : Hp Z ρ (Pt b3 (.cells #[(.int .i64 0), (.int .i64 0), (.int .i64 0)] 38 (0, 0)) :: Pt bc0 (.cells #[vc0] 24 (0, 0)) :: Pt bc1 (.cells #[(.int .i64 c1.kind), (.int .i64 c1.most), (.int .i64 c1.pause), (.int .i64 c1.keep)] 23 (0, 0)) :: Pt bc2 (.cells #[(.int .i64 c2)] 3 (0, 0)) :: L) w := hp
      refine s_nil ⟨(hp.drop), ?_⟩
      have hS := (hp.drop)
      refine h_all [4] (by kernel_rfl) rfl ?_
      refine List.forall_mem_cons.2 ⟨?_, fun _ h => absurd h (by simp)⟩
      ·
        refine h_op rfl ?_
        refine s_call (wk0 rfl) rfl rfl hE rfl [vc0] ⟨rfl, trivial⟩ ent30 (c_attempts_last c0 vc0 hc0 hp x2 ex2) Ret.ret ?_
        intro v a w hR hE
        obtain ⟨rfl, hp⟩ := Ret.of hR
        have hp : Hp Z ρ (Pt b3 (.cells #[(.int .i64 0), (.int .i64 0), (.int .i64 0)] 38 (0, 0)) :: Pt bc0 (.cells #[vc0] 24 (0, 0)) :: Pt bc1 (.cells #[(.int .i64 c1.kind), (.int .i64 c1.most), (.int .i64 c1.pause), (.int .i64 c1.keep)] 23 (0, 0)) :: Pt bc2 (.cells #[(.int .i64 c2)] 3 (0, 0)) :: L) w := hp
        refine s_nil ⟨(hp.drop), ?_⟩
        have hS := (hp.drop)
        refine h_take 6 (wk0 rfl) rfl rfl rfl hE (by kernel_rfl) (by kernel_rfl) (by kernel_rfl) hS (v := (.agg #[(.int .i64 x1), (.int .i64 x2), (.int .i64 p0)])) (ex_bld rfl hE [(0, (.int .i64 x1)), (1, (.int .i64 x2)), (2, (.int .i64 p0))] (by exact ⟨⟨rfl, rfl⟩, ⟨rfl, rfl⟩, ⟨rfl, rfl⟩, trivial⟩) (fun w => by simp [Instr.build, Instr.fill, Value.cells, go_sem])) ?_
        intro a hE
        refine h_all [8] (by kernel_rfl) rfl ?_
        refine List.forall_mem_cons.2 ⟨?_, fun _ h => absurd h (by simp)⟩
        ·
          refine h_op rfl ?_
          refine s_store (wk0 rfl) rfl hE hp rfl rfl rfl 0 rfl varty38.size_ rfl (by simp [Value.cells, Value.oneCell']) [(.int .i64 x1), (.int .i64 x2), (.int .i64 p0)] rfl ?_
          intro w hp
          have hp : Hp Z ρ (Pt b3 (.cells #[(.int .i64 x1), (.int .i64 x2), (.int .i64 p0)] 38 (0, 0)) :: Pt bc0 (.cells #[vc0] 24 (0, 0)) :: Pt bc1 (.cells #[(.int .i64 c1.kind), (.int .i64 c1.most), (.int .i64 c1.pause), (.int .i64 c1.keep)] 23 (0, 0)) :: Pt bc2 (.cells #[(.int .i64 c2)] 3 (0, 0)) :: L) w := hp
          refine s_nil ⟨(hp.drop), ?_⟩
          have hS := (hp.drop)
          exact h_done (by kernel_rfl) ⟨_, hE.cut ⟨rfl, rfl, rfl, rfl, trivial⟩, hp⟩
  · rintro a w ⟨y4, hE, hp⟩
    refine k_seq ?_
    obtain ⟨x3, ex3, hm⟩ := bnd hm
    obtain ⟨x4, ex4, hm⟩ := bnd hm
    obtain ⟨x5, ex5, hm⟩ := bnd hm
    refine k_held (Z := Z) (ρ := ρ) (Pt y4 (.cells #[(.int .i64 x1), (.int .i64 x2), (.int .i64 p0)] 38 (0, 0)) :: Pt bc0 (.cells #[vc0] 24 (0, 0)) :: Pt bc1 (.cells #[(.int .i64 c1.kind), (.int .i64 c1.most), (.int .i64 c1.pause), (.int .i64 c1.keep)] 23 (0, 0)) :: Pt bc2 (.cells #[(.int .i64 c2)] 3 (0, 0)) :: L) (fun a w => ∃ y5 : Value, ∃ y6 : Nat, Env 23 [(5, (.bool (decide (c2 ≤ x5))))] a ∧ Hp Z ρ (OwnSl 38 y5 x4 :: Pt y6 (.cells #[(.int .i64 x1), (.int .i64 x2), (.int .i64 p0)] 38 (0, 0)) :: Pt y4 (.cells #[(.int .i64 x1), (.int .i64 x2), (.int .i64 p0)] 38 (0, 0)) :: Pt bc0 (.cells #[vc0] 24 (0, 0)) :: Pt bc1 (.cells #[(.int .i64 c1.kind), (.int .i64 c1.most), (.int .i64 c1.pause), (.int .i64 c1.keep)] 23 (0, 0)) :: Pt bc2 (.cells #[(.int .i64 c2)] 3 (0, 0)) :: L) w) (by kernel_rfl) ?_ ?_
    ·
      have hp := hp.drew
      have hS : Hp Z ρ (Pt y4 (.cells #[(.int .i64 x1), (.int .i64 x2), (.int .i64 p0)] 38 (0, 0)) :: Pt bc0 (.cells #[vc0] 24 (0, 0)) :: Pt bc1 (.cells #[(.int .i64 c1.kind), (.int .i64 c1.most), (.int .i64 c1.pause), (.int .i64 c1.keep)] 23 (0, 0)) :: Pt bc2 (.cells #[(.int .i64 c2)] 3 (0, 0)) :: L) w.drew := hp
      refine h_take 0 (wk0 rfl) rfl rfl rfl hE (by kernel_rfl) (by kernel_rfl) (by kernel_rfl) hS (v := (.agg #[(.int .i64 c1.kind), (.int .i64 c1.most), (.int .i64 c1.pause), (.int .i64 c1.keep)])) (ex_load rfl hE rfl (fun w hw => run_ldN (cs := [(.int .i64 c1.kind), (.int .i64 c1.most), (.int .i64 c1.pause), (.int .i64 c1.keep)]) varty23 (Hp.cN 2 rfl 0 _ (sub_all rfl) w hw))) ?_
      intro a hE
      refine h_take 1 (wk0 rfl) rfl rfl rfl hE (by kernel_rfl) (by kernel_rfl) (by kernel_rfl) hS (v := vc0) (ex_load rfl hE rfl (fun w hw => run_ld1 varty24 (Hp.c 1 rfl 0 rfl w hw))) ?_
      intro a hE
      refine h_take 3 (wk0 rfl) rfl rfl rfl hE (by kernel_rfl) (by kernel_rfl) (by kernel_rfl) hS (v := (.agg #[(.int .i64 x1), (.int .i64 x2), (.int .i64 p0)])) (ex_load rfl hE rfl (fun w hw => run_ldN (cs := [(.int .i64 x1), (.int .i64 x2), (.int .i64 p0)]) varty38 (Hp.cN 0 rfl 0 _ (sub_all rfl) w hw))) ?_
      intro a hE
      refine h_take 7 (wk0 rfl) rfl rfl rfl hE (by kernel_rfl) (by kernel_rfl) (by kernel_rfl) hS (v := (.int .i64 c2)) (ex_load rfl hE rfl (fun w hw => run_ld1 varty3 (Hp.c 3 rfl 0 rfl w hw))) ?_
      intro a hE
      refine h_all [2, 4] (by kernel_rfl) rfl ?_
      refine List.forall_mem_cons.2 ⟨?_, List.forall_mem_cons.2 ⟨?_, fun _ h => absurd h (by simp)⟩⟩
      ·
        refine h_op rfl ?_
        refine s_call (wk0 rfl) rfl rfl hE rfl [vc0] ⟨rfl, trivial⟩ ent19 (c_clone19 c0 vc0 hc0 hp x3 ex3) Ret.ret ?_
        intro v3 a w hR hE
        obtain ⟨u, hu, hp⟩ := Ret.of hR
        rw [← hu] at hp
        have hp : Hp Z ρ (OwnSl 38 v3 x3 :: Pt y4 (.cells #[(.int .i64 x1), (.int .i64 x2), (.int .i64 p0)] 38 (0, 0)) :: Pt bc0 (.cells #[vc0] 24 (0, 0)) :: Pt bc1 (.cells #[(.int .i64 c1.kind), (.int .i64 c1.most), (.int .i64 c1.pause), (.int .i64 c1.keep)] 23 (0, 0)) :: Pt bc2 (.cells #[(.int .i64 c2)] 3 (0, 0)) :: L) w := hp
        refine s_nil ⟨(hp.drop), ?_⟩
        have hS := (hp.drop)
        refine h_all [4] (by kernel_rfl) rfl ?_
        refine List.forall_mem_cons.2 ⟨?_, fun _ h => absurd h (by simp)⟩
        ·
          refine h_op rfl ?_
          refine s_lit (wk0 rfl) rfl rfl hE hp rfl [(0, (.agg #[(.int .i64 x1), (.int .i64 x2), (.int .i64 p0)]))] ⟨⟨rfl, rfl⟩, trivial⟩ [(.int .i64 x1), (.int .i64 x2), (.int .i64 p0)] 38 (fun w => by simp [Instr.buildSlice, Instr.fill, Value.cells, go_sem]) ?_
          intro a w b5 hE hp
          have hp : Hp Z ρ (Pt b5 (.cells #[(.int .i64 x1), (.int .i64 x2), (.int .i64 p0)] 38 (0, 0)) :: OwnSl 38 v3 x3 :: Pt y4 (.cells #[(.int .i64 x1), (.int .i64 x2), (.int .i64 p0)] 38 (0, 0)) :: Pt bc0 (.cells #[vc0] 24 (0, 0)) :: Pt bc1 (.cells #[(.int .i64 c1.kind), (.int .i64 c1.most), (.int .i64 c1.pause), (.int .i64 c1.keep)] 23 (0, 0)) :: Pt bc2 (.cells #[(.int .i64 c2)] 3 (0, 0)) :: L) w := hp
          refine s_nil ⟨(((hp.get 1 rfl).drop).drop), ?_⟩
          have hS := (((hp.get 1 rfl).drop).drop)
          refine h_all [5] (by kernel_rfl) rfl ?_
          refine List.forall_mem_cons.2 ⟨?_, fun _ h => absurd h (by simp)⟩
          ·
            refine h_op rfl ?_
            refine s_app (wk0 rfl) rfl rfl hE hp rfl slty24 rfl rfl 1 rfl rfl (l2 := [(Att.mk x1 x2 p0)]) rfl (fun j u hj => by have := Hp.cN 0 rfl 0 _ (sub_all rfl) w hp j u hj; simpa using this) ex4 ?_
            intro v4 a w hE hp
            have hp : Hp Z ρ (Pt b5 (.cells #[(.int .i64 x1), (.int .i64 x2), (.int .i64 p0)] 38 (0, 0)) :: OwnSl 38 v4 x4 :: Pt y4 (.cells #[(.int .i64 x1), (.int .i64 x2), (.int .i64 p0)] 38 (0, 0)) :: Pt bc0 (.cells #[vc0] 24 (0, 0)) :: Pt bc1 (.cells #[(.int .i64 c1.kind), (.int .i64 c1.most), (.int .i64 c1.pause), (.int .i64 c1.keep)] 23 (0, 0)) :: Pt bc2 (.cells #[(.int .i64 c2)] 3 (0, 0)) :: L) w := hp
            refine s_nil ⟨(((hp.get 1 rfl).drop).drop), ?_⟩
            have hS := (((hp.get 1 rfl).drop).drop)
            refine h_all [6] (by kernel_rfl) rfl ?_
            refine List.forall_mem_cons.2 ⟨?_, fun _ h => absurd h (by simp)⟩
            ·
              refine h_op rfl ?_
              obtain ⟨k2, k2a, k2d, k2h⟩ := (hp.get 1 rfl).lend
              refine s_call (wk0 rfl) rfl rfl hE rfl [(.agg #[(.int .i64 c1.kind), (.int .i64 c1.most), (.int .i64 c1.pause), (.int .i64 c1.keep)]), v4] ⟨rfl, rfl, trivial⟩ ent28 (c_attempts_points c1 x4 v4 (OwnSl.ro k2d k2a) k2h x5 ex5) Ret.ret ?_
              intro v a w hR hE
              obtain ⟨rfl, hp⟩ := Ret.of hR
              have hp := Hp.back k2a k2d hp
              have hp : Hp Z ρ (OwnSl 38 v4 x4 :: Pt b5 (.cells #[(.int .i64 x1), (.int .i64 x2), (.int .i64 p0)] 38 (0, 0)) :: Pt y4 (.cells #[(.int .i64 x1), (.int .i64 x2), (.int .i64 p0)] 38 (0, 0)) :: Pt bc0 (.cells #[vc0] 24 (0, 0)) :: Pt bc1 (.cells #[(.int .i64 c1.kind), (.int .i64 c1.most), (.int .i64 c1.pause), (.int .i64 c1.keep)] 23 (0, 0)) :: Pt bc2 (.cells #[(.int .i64 c2)] 3 (0, 0)) :: L) w := hp
              have hp : Hp Z ρ (OwnSl 38 v4 x4 :: Pt b5 (.cells #[(.int .i64 x1), (.int .i64 x2), (.int .i64 p0)] 38 (0, 0)) :: Pt y4 (.cells #[(.int .i64 x1), (.int .i64 x2), (.int .i64 p0)] 38 (0, 0)) :: Pt bc0 (.cells #[vc0] 24 (0, 0)) :: Pt bc1 (.cells #[(.int .i64 c1.kind), (.int .i64 c1.most), (.int .i64 c1.pause), (.int .i64 c1.keep)] 23 (0, 0)) :: Pt bc2 (.cells #[(.int .i64 c2)] 3 (0, 0)) :: L) w := hp
              refine s_nil ⟨(((hp.get 1 rfl).drop).drop), ?_⟩
              have hS := (((hp.get 1 rfl).drop).drop)
              refine h_take 8 (wk0 rfl) rfl rfl rfl hE (by kernel_rfl) (by kernel_rfl) (by kernel_rfl) hS (v := (.bool (decide (c2 ≤ x5)))) (ex_geq rfl hE rfl rfl) ?_
              intro a hE
              refine h_take 9 (wk0 rfl) rfl rfl rfl hE (by kernel_rfl) (by kernel_rfl) (by kernel_rfl) hS (v := (.bool (decide (c2 ≤ x5)))) (ex_asn rfl hE rfl) ?_
              intro a hE
              exact h_done (by kernel_rfl) ⟨_, _, hE.cut ⟨rfl, trivial⟩, hp⟩
      ·
        refine h_op rfl ?_
        refine s_lit (wk0 rfl) rfl rfl hE hp rfl [(0, (.agg #[(.int .i64 x1), (.int .i64 x2), (.int .i64 p0)]))] ⟨⟨rfl, rfl⟩, trivial⟩ [(.int .i64 x1), (.int .i64 x2), (.int .i64 p0)] 38 (fun w => by simp [Instr.buildSlice, Instr.fill, Value.cells, go_sem]) ?_
        intro a w b6 hE hp
        have hp : Hp Z ρ (Pt b6 (.cells #[(.int .i64 x1), (.int .i64 x2), (.int .i64 p0)] 38 (0, 0)) :: Pt y4 (.cells #[(.int .i64 x1), (.int .i64 x2), (.int .i64 p0)] 38 (0, 0)) :: Pt bc0 (.cells #[vc0] 24 (0, 0)) :: Pt bc1 (.cells #[(.int .i64 c1.kind), (.int .i64 c1.most), (.int .i64 c1.pause), (.int .i64 c1.keep)] 23 (0, 0)) :: Pt bc2 (.cells #[(.int .i64 c2)] 3 (0, 0)) :: L) w := hp
        refine s_nil ⟨(hp.drop), ?_⟩
        have hS := (hp.drop)
        refine h_all [2] (by kernel_rfl) rfl ?_
        refine List.forall_mem_cons.2 ⟨?_, fun _ h => absurd h (by simp)⟩
        ·
          refine h_op rfl ?_
          refine s_call (wk0 rfl) rfl rfl hE rfl [vc0] ⟨rfl, trivial⟩ ent19 (c_clone19 c0 vc0 hc0 hp x3 ex3) Ret.ret ?_
          intro v5 a w hR hE
          obtain ⟨u, hu, hp⟩ := Ret.of hR
          rw [← hu] at hp
          have hp : Hp Z ρ (OwnSl 38 v5 x3 :: Pt b6 (.cells #[(.int .i64 x1), (.int .i64 x2), (.int .i64 p0)] 38 (0, 0)) :: Pt y4 (.cells #[(.int .i64 x1), (.int .i64 x2), (.int .i64 p0)] 38 (0, 0)) :: Pt bc0 (.cells #[vc0] 24 (0, 0)) :: Pt bc1 (.cells #[(.int .i64 c1.kind), (.int .i64 c1.most), (.int .i64 c1.pause), (.int .i64 c1.keep)] 23 (0, 0)) :: Pt bc2 (.cells #[(.int .i64 c2)] 3 (0, 0)) :: L) w := hp
          refine s_nil ⟨(((hp.get 1 rfl).drop).drop), ?_⟩
          have hS := (((hp.get 1 rfl).drop).drop)
          refine h_all [5] (by kernel_rfl) rfl ?_
          refine List.forall_mem_cons.2 ⟨?_, fun _ h => absurd h (by simp)⟩
          ·
            refine h_op rfl ?_
            refine s_app (wk0 rfl) rfl rfl hE hp rfl slty24 rfl rfl 0 rfl rfl (l2 := [(Att.mk x1 x2 p0)]) rfl (fun j u hj => by have := Hp.cN 1 rfl 0 _ (sub_all rfl) w hp j u hj; simpa using this) ex4 ?_
            intro v6 a w hE hp
            have hp : Hp Z ρ (OwnSl 38 v6 x4 :: Pt b6 (.cells #[(.int .i64 x1), (.int .i64 x2), (.int .i64 p0)] 38 (0, 0)) :: Pt y4 (.cells #[(.int .i64 x1), (.int .i64 x2), (.int .i64 p0)] 38 (0, 0)) :: Pt bc0 (.cells #[vc0] 24 (0, 0)) :: Pt bc1 (.cells #[(.int .i64 c1.kind), (.int .i64 c1.most), (.int .i64 c1.pause), (.int .i64 c1.keep)] 23 (0, 0)) :: Pt bc2 (.cells #[(.int .i64 c2)] 3 (0, 0)) :: L) w := hp
            refine s_nil ⟨(((hp.get 1 rfl).drop).drop), ?_⟩
            have hS := (((hp.get 1 rfl).drop).drop)
            refine h_all [6] (by kernel_rfl) rfl ?_
            refine List.forall_mem_cons.2 ⟨?_, fun _ h => absurd h (by simp)⟩
            ·
              refine h_op rfl ?_
              obtain ⟨k3, k3a, k3d, k3h⟩ := (hp.get 0 rfl).lend
              refine s_call (wk0 rfl) rfl rfl hE rfl [(.agg #[(.int .i64 c1.kind), (.int .i64 c1.most), (.int .i64 c1.pause), (.int .i64 c1.keep)]), v6] ⟨rfl, rfl, trivial⟩ ent28 (c_attempts_points c1 x4 v6 (OwnSl.ro k3d k3a) k3h x5 ex5) Ret.ret ?_
              intro v a w hR hE
              obtain ⟨rfl, hp⟩ := Ret.of hR
              have hp := Hp.back k3a k3d hp
              have hp : Hp Z ρ (OwnSl 38 v6 x4 :: Pt b6 (.cells #[(.int .i64 x1), (.int .i64 x2), (.int .i64 p0)] 38 (0, 0)) :: Pt y4 (.cells #[(.int .i64 x1), (.int .i64 x2), (.int .i64 p0)] 38 (0, 0)) :: Pt bc0 (.cells #[vc0] 24 (0, 0)) :: Pt bc1 (.cells #[(.int .i64 c1.kind), (.int .i64 c1.most), (.int .i64 c1.pause), (.int .i64 c1.keep)] 23 (0, 0)) :: Pt bc2 (.cells #[(.int .i64 c2)] 3 (0, 0)) :: L) w := hp
              have hp : Hp Z ρ (OwnSl 38 v6 x4 :: Pt b6 (.cells #[(.int .i64 x1), (.int .i64 x2), (.int .i64 p0)] 38 (0, 0)) :: Pt y4 (.cells #[(.int .i64 x1), (.int .i64 x2), (.int .i64 p0)] 38 (0, 0)) :: Pt bc0 (.cells #[vc0] 24 (0, 0)) :: Pt bc1 (.cells #[(.int .i64 c1.kind), (.int .i64 c1.most), (.int .i64 c1.pause), (.int .i64 c1.keep)] 23 (0, 0)) :: Pt bc2 (.cells #[(.int .i64 c2)] 3 (0, 0)) :: L) w := hp
              refine s_nil ⟨(((hp.get 1 rfl).drop).drop), ?_⟩
              have hS := (((hp.get 1 rfl).drop).drop)
              refine h_take 8 (wk0 rfl) rfl rfl rfl hE (by kernel_rfl) (by kernel_rfl) (by kernel_rfl) hS (v := (.bool (decide (c2 ≤ x5)))) (ex_geq rfl hE rfl rfl) ?_
              intro a hE
              refine h_take 9 (wk0 rfl) rfl rfl rfl hE (by kernel_rfl) (by kernel_rfl) (by kernel_rfl) hS (v := (.bool (decide (c2 ≤ x5)))) (ex_asn rfl hE rfl) ?_
              intro a hE
              exact h_done (by kernel_rfl) ⟨_, _, hE.cut ⟨rfl, trivial⟩, hp⟩
    · rintro a w ⟨y5, y6, hE, hp⟩
      refine k_ret ?_
      obtain rfl := Option.some.inj hm
      exact ret1 hE rfl rfl ⟨_, rfl, rfl, (((((hp.get 2 rfl).drop).get 1 rfl).drop).drop)⟩
/- assessor/attempts.Needed -/
set_option maxRecDepth 100000 in
set_option maxHeartbeats 4000000 in
theorem c_attempts_Needed {Z : World} {ρ : PH} {L : List Atom} {w : World} (p0 : Rule) (p1 : (List Att)) (vp1 : Value) (hp1 : RoSl ρ vp1 p1) (p2 : Int) (hp : Hp Z ρ (L) w) (r : (Int × Bool)) (hm : m_attempts_Needed p0 p1 p2 = some r) :
    Calls Try.prog 13 #[(.agg #[(.int .i64 p0.kind), (.int .i64 p0.most), (.int .i64 p0.pause), (.int .i64 p0.keep)]), vp1, (.int .i64 p2)] w (Ret fun v w' => v = .tuple #[(.int .i64 r.1), (.bool r.2)] ∧ Hp Z ρ (L) w') := by
  refine enter (N := 41) Try.func13 rfl rfl [(0, (.agg #[(.int .i64 p0.kind), (.int .i64 p0.most), (.int .i64 p0.pause), (.int .i64 p0.keep)])), (1, vp1), (2, (.int .i64 p2))] rfl (argsIn_mem ⟨rfl, rfl, rfl, trivial⟩) fun a hE => ?_
  unfold m_attempts_Needed at hm
  refine k_seq ?_
  refine k_region ?_
  refine s_box (wk0 rfl) rfl rfl hE hp rfl (v := (.agg #[(.int .i64 p0.kind), (.int .i64 p0.most), (.int .i64 p0.pause), (.int .i64 p0.keep)])) rfl ?_
  intro a w b1 hE hp
  have hp : Hp Z ρ (Pt b1 (.cells #[(.int .i64 p0.kind), (.int .i64 p0.most), (.int .i64 p0.pause), (.int .i64 p0.keep)] 23 (0, 0)) :: L) w := hp
  refine s_box (wk0 rfl) rfl rfl hE hp rfl (v := vp1) rfl ?_
  intro a w b2 hE hp
  rw [RoSl.cells hp1] at hp
  have hp : Hp Z ρ (Pt b2 (.cells #[vp1] 24 (0, 0)) :: Pt b1 (.cells #[(.int .i64 p0.kind), (.int .i64 p0.most), (.int .i64 p0.pause), (.int .i64 p0.keep)] 23 (0, 0)) :: L) w := hp
  refine s_box (wk0 rfl) rfl rfl hE hp rfl (v := (.int .i64 p2)) rfl ?_
  intro a w b3 hE hp
  have hp : Hp Z ρ (Pt b3 (.cells #[(.int .i64 p2)] 3 (0, 0)) :: Pt b2 (.cells #[vp1] 24 (0, 0)) :: Pt b1 (.cells #[(.int .i64 p0.kind), (.int .i64 p0.most), (.int .i64 p0.pause), (.int .i64 p0.keep)] 23 (0, 0)) :: L) w := hp
  refine s_val (wk0 rfl) rfl rfl hE hp (v := (.int .i64 0)) (ex_asn rfl hE rfl) ?_
  intro a hE
  refine s_val (wk0 rfl) rfl rfl hE hp (v := (.bool false)) (ex_asn rfl hE rfl) ?_
  intro a hE
  refine s_nil ?_
  refine k_seq ?_
  refine k_seq ?_
  refine k_region ?_
  refine s_val (wk0 rfl) rfl rfl hE hp (v := (.agg #[(.int .i64 p0.kind), (.int .i64 p0.most), (.int .i64 p0.pause), (.int .i64 p0.keep)])) (ex_load rfl hE rfl (fun w hw => run_ldN (cs := [(.int .i64 p0.kind), (.int .i64 p0.most), (.int .i64 p0.pause), (.int .i64 p0.keep)]) varty23 (Hp.cN 2 rfl 0 _ (sub_all rfl) w hw))) ?_
  intro a hE
  refine s_val (wk0 rfl) rfl rfl hE hp (v := vp1) (ex_load rfl hE rfl (fun w hw => run_ld1 varty24 (Hp.c 1 rfl 0 rfl w hw))) ?_
  intro a hE
  obtain ⟨x1, ex1, hm⟩ := bnd hm
  refine s_call (wk0 rfl) rfl rfl hE rfl [(.agg #[(.int .i64 p0.kind), (.int .i64 p0.most), (.int .i64 p0.pause), (.int .i64 p0.keep)]), vp1] ⟨rfl, rfl, trivial⟩ ent18 (c_attempts_Valid p0 p1 vp1 hp1 hp x1 ex1) Ret.ret ?_
  intro v a w hR hE
  obtain ⟨rfl, hp⟩ := Ret.of hR
  have hp : Hp Z ρ (Pt b3 (.cells #[(.int .i64 p2)] 3 (0, 0)) :: Pt b2 (.cells #[vp1] 24 (0, 0)) :: Pt b1 (.cells #[(.int .i64 p0.kind), (.int .i64 p0.most), (.int .i64 p0.pause), (.int .i64 p0.keep)] 23 (0, 0)) :: L) w := hp
  refine s_val (wk0 rfl) rfl rfl hE hp (v := (.bool (!x1))) (ex_not rfl hE rfl) ?_
  intro a hE
  refine s_val (wk0 rfl) rfl rfl hE hp (v := (.bool (!x1))) (ex_move rfl hE rfl) ?_
  intro a hE
  refine s_cut [_, _, _, _, _, _] (fun a w => Env 41 [(22, (.bool ((!x1) || (decide ((p1.length : Int) = p0.most))))), (3, (.pointer (some ⟨b1, 0, none⟩))), (4, (.pointer (some ⟨b2, 0, none⟩))), (5, (.pointer (some ⟨b3, 0, none⟩)))] a ∧ Hp Z ρ (Pt b3 (.cells #[(.int .i64 p2)] 3 (0, 0)) :: Pt b2 (.cells #[vp1] 24 (0, 0)) :: Pt b1 (.cells #[(.int .i64 p0.kind), (.int .i64 p0.most), (.int .i64 p0.pause), (.int .i64 p0.keep)] 23 (0, 0)) :: L) w) ?_ ?_
  · rcases Bool.eq_false_or_eq_true (!x1) with hb1 | hb1
    ·
      refine s_skip (wk2 hE rfl rfl rfl hb1) rfl rfl hE ?_
      intro a hE
      refine s_skip (wk2 hE rfl rfl rfl hb1) rfl rfl hE ?_
      intro a hE
      refine s_skip (wk2 hE rfl rfl rfl hb1) rfl rfl hE ?_
      intro a hE
      refine s_skip (wk2 hE rfl rfl rfl hb1) rfl rfl hE ?_
      intro a hE
      refine s_skip (wk2 hE rfl rfl rfl hb1) rfl rfl hE ?_
      intro a hE
      refine s_val (wk0 rfl) rfl rfl hE hp (v := (.bool true)) (ex_pick1 rfl hE rfl hb1 rfl) ?_
      intro a hE
      have hE := hE.eqv (v' := (.bool ((!x1) || (decide ((p1.length : Int) = p0.most))))) (by rw [hb1]; rfl)
      exact s_nil ⟨hE.cut ⟨rfl, rfl, rfl, rfl, trivial⟩, hp⟩
    ·
      refine s_val (wk1 hE rfl rfl rfl hb1) rfl rfl hE hp (v := vp1) (ex_load rfl hE rfl (fun w hw => run_ld1 varty24 (Hp.c 1 rfl 0 rfl w hw))) ?_
      intro a hE
      refine s_val (wk1 hE rfl rfl rfl hb1) rfl rfl hE hp (v := (.int .i64 (p1.length : Int))) (ex_len rfl hE rfl (RoSl.len hp1 slty24)) ?_
      intro a hE
      refine s_val (wk1 hE rfl rfl rfl hb1) rfl rfl hE hp (v := (.pointer (some ⟨b1, 1, none⟩))) (ex_field rfl hE rfl (fldty23_1 _ _)) ?_
      intro a hE
      refine s_val (wk1 hE rfl rfl rfl hb1) rfl rfl hE hp (v := (.int .i64 p0.most)) (ex_load rfl hE rfl (fun w hw => run_ld1 varty3 (Hp.c 2 rfl 1 rfl w hw))) ?_
      intro a hE
      refine s_val (wk1 hE rfl rfl rfl hb1) rfl rfl hE hp (v := (.bool (decide ((p1.length : Int) = p0.most)))) (ex_eql rfl hE rfl rfl) ?_
      intro a hE
      refine s_val (wk0 rfl) rfl rfl hE hp (v := (.bool (decide ((p1.length : Int) = p0.most)))) (ex_pick0 rfl hE rfl hb1 rfl) ?_
      intro a hE
      have hE := hE.eqv (v' := (.bool ((!x1) || (decide ((p1.length : Int) = p0.most))))) (by rw [hb1]; rfl)
      exact s_nil ⟨hE.cut ⟨rfl, rfl, rfl, rfl, trivial⟩, hp⟩
  · rintro a w ⟨hE, hp⟩
    refine s_nil ?_
    refine k_if hE rfl (fun hb2 => ?_) (fun hb2 => ?_)
    · replace hm := (it hb2).symm.trans hm
      refine k_seq ?_
      refine k_region ?_
      refine s_val (wk0 rfl) rfl rfl hE hp (v := (.int .i64 0)) (ex_asn rfl hE rfl) ?_
      intro a hE
      refine s_val (wk0 rfl) rfl rfl hE hp (v := (.bool false)) (ex_asn rfl hE rfl) ?_
      intro a hE
      refine s_nil ?_
      refine k_ret ?_
      obtain rfl := Option.some.inj hm
      exact ret2 hE rfl rfl rfl ⟨_, rfl, rfl, (((((hp.get 2 rfl).drop).get 1 rfl).drop).drop)⟩
    · replace hm := (ie hb2).symm.trans hm
      refine k_skip ?_
      refine k_seq ?_
      refine k_region ?_
      refine s_val (wk0 rfl) rfl rfl hE hp (v := (.func (.func 29) #[] #[(.pointer (some ⟨b2, 0, none⟩)), (.pointer (some ⟨b1, 0, none⟩)), (.pointer (some ⟨b3, 0, none⟩))])) (ex_fn rfl hE [(.pointer (some ⟨b2, 0, none⟩)), (.pointer (some ⟨b1, 0, none⟩)), (.pointer (some ⟨b3, 0, none⟩))] (by exact ⟨rfl, rfl, rfl, trivial⟩)) ?_
      intro a hE
      refine s_val (wk0 rfl) rfl rfl hE hp (v := (.func (.func 29) #[] #[(.pointer (some ⟨b2, 0, none⟩)), (.pointer (some ⟨b1, 0, none⟩)), (.pointer (some ⟨b3, 0, none⟩))])) (ex_asn rfl hE rfl) ?_
      intro a hE
      refine s_nil ?_
      refine k_seq ?_
      refine k_seq ?_
      refine k_region ?_
      refine s_val (wk0 rfl) rfl rfl hE hp (v := (.func (.func 29) #[] #[(.pointer (some ⟨b2, 0, none⟩)), (.pointer (some ⟨b1, 0, none⟩)), (.pointer (some ⟨b3, 0, none⟩))])) (ex_move rfl hE rfl) ?_
      intro a hE
      obtain ⟨x2, ex2, hm⟩ := bnd hm
      refine s_callv (wk0 rfl) rfl rfl hE rfl rfl [(.int .i64 100000000)] ⟨rfl, trivial⟩ ent29 (c_attempts_Needed_1 100000000 b2 p1 vp1 hp1 b1 p0 b3 p2 (((hp.get 0 rfl).get 2 rfl).get 2 rfl) x2 ex2) Ret.ret ?_
      intro v a w hR hE
      obtain ⟨rfl, hp⟩ := Ret.of hR
      have hp : Hp Z ρ (Pt b2 (.cells #[vp1] 24 (0, 0)) :: Pt b1 (.cells #[(.int .i64 p0.kind), (.int .i64 p0.most), (.int .i64 p0.pause), (.int .i64 p0.keep)] 23 (0, 0)) :: Pt b3 (.cells #[(.int .i64 p2)] 3 (0, 0)) :: L) w := hp
      refine s_val (wk0 rfl) rfl rfl hE hp (v := (.bool (!x2))) (ex_not rfl hE rfl) ?_
      intro a hE
      refine s_nil ?_
      refine k_if hE rfl (fun hb3 => ?_) (fun hb3 => ?_)
      · replace hm := (it hb3).symm.trans hm
        refine k_seq ?_
        refine k_region ?_
        refine s_val (wk0 rfl) rfl rfl hE hp (v := (.int .i64 0)) (ex_asn rfl hE rfl) ?_
        intro a hE
        refine s_val (wk0 rfl) rfl rfl hE hp (v := (.bool false)) (ex_asn rfl hE rfl) ?_
        intro a hE
        refine s_nil ?_
        refine k_ret ?_
        obtain rfl := Option.some.inj hm
        exact ret2 hE rfl rfl rfl ⟨_, rfl, rfl, (((((hp.get 2 rfl).drop).get 1 rfl).drop).drop)⟩
      · replace hm := (ie hb3).symm.trans hm
        refine k_skip ?_
        refine k_seq ?_
        refine k_region ?_
        refine s_val (wk0 rfl) rfl rfl hE hp (v := (.int .i64 0)) (ex_asn rfl hE rfl) ?_
        intro a hE
        refine s_val (wk0 rfl) rfl rfl hE hp (v := (.int .i64 100000000)) (ex_asn rfl hE rfl) ?_
        intro a hE
        refine s_nil ?_
        refine k_seq ?_
        obtain ⟨b4, hb4, hm⟩ := bnd hm
        refine k_block (fun a w => Env 41 [(9, (.int .i64 b4))] a ∧ Hp Z ρ (Pt b2 (.cells #[vp1] 24 (0, 0)) :: Pt b1 (.cells #[(.int .i64 p0.kind), (.int .i64 p0.most), (.int .i64 p0.pause), (.int .i64 p0.keep)] 23 (0, 0)) :: Pt b3 (.cells #[(.int .i64 p2)] 3 (0, 0)) :: L) w) ?_ ?_
        · refine k_loop hb4 (fun s a w => Env 41 [(8, (.func (.func 29) #[] #[(.pointer (some ⟨b2, 0, none⟩)), (.pointer (some ⟨b1, 0, none⟩)), (.pointer (some ⟨b3, 0, none⟩))])), (9, (.int .i64 s.1)), (10, (.int .i64 s.2))] a ∧ Hp Z ρ (Pt b2 (.cells #[vp1] 24 (0, 0)) :: Pt b1 (.cells #[(.int .i64 p0.kind), (.int .i64 p0.most), (.int .i64 p0.pause), (.int .i64 p0.keep)] 23 (0, 0)) :: Pt b3 (.cells #[(.int .i64 p2)] 3 (0, 0)) :: L) w) ?_ ?_
          · exact ⟨hE.cut ⟨rfl, rfl, rfl, trivial⟩, hp⟩
          · rintro ⟨lp1_0, lp1_1⟩ st a w ⟨hE, hp⟩ hl1
            have hE : Env 41 [(8, (.func (.func 29) #[] #[(.pointer (some ⟨b2, 0, none⟩)), (.pointer (some ⟨b1, 0, none⟩)), (.pointer (some ⟨b3, 0, none⟩))])), (9, (.int .i64 lp1_0)), (10, (.int .i64 lp1_1))] a := hE
            have hp : Hp Z ρ (Pt b2 (.cells #[vp1] 24 (0, 0)) :: Pt b1 (.cells #[(.int .i64 p0.kind), (.int .i64 p0.most), (.int .i64 p0.pause), (.int .i64 p0.keep)] 23 (0, 0)) :: Pt b3 (.cells #[(.int .i64 p2)] 3 (0, 0)) :: L) w := hp
            replace hl1 : m_attempts_Needed_lp1 p0 p1 p2 lp1_0 lp1_1 = some st := hl1
            unfold m_attempts_Needed_lp1 at hl1
            refine k_seq ?_
            refine k_seq ?_
            refine k_region ?_
            refine s_val (wk0 rfl) rfl rfl hE hp (v := (.int .i64 lp1_0)) (ex_move rfl hE rfl) ?_
            intro a hE
            refine s_val (wk0 rfl) rfl rfl hE hp (v := (.int .i64 lp1_1)) (ex_move rfl hE rfl) ?_
            intro a hE
            refine s_val (wk0 rfl) rfl rfl hE hp (v := (.bool (decide (lp1_0 < lp1_1)))) (ex_lss rfl hE rfl rfl) ?_
            intro a hE
            refine s_nil ?_
            refine k_if hE rfl (fun hb5 => ?_) (fun hb5 => ?_)
            · replace hl1 := (it hb5).symm.trans hl1
              refine k_skip ?_
              refine k_plain ?_
              refine k_seq ?_
              refine k_region ?_
              refine s_val (wk0 rfl) rfl rfl hE hp (v := (.int .i64 lp1_0)) (ex_move rfl hE rfl) ?_
              intro a hE
              refine s_val (wk0 rfl) rfl rfl hE hp (v := (.int .i64 lp1_1)) (ex_move rfl hE rfl) ?_
              intro a hE
              obtain ⟨x3, ex3, hl1⟩ := bnd hl1
              refine s_val (wk0 rfl) rfl rfl hE hp (v := (.int .i64 x3)) (ex_add rfl hE rfl rfl (inK_some ex3)) ?_
              intro a hE
              obtain ⟨x4, ex4, hl1⟩ := bnd hl1
              refine s_val (wk0 rfl) rfl rfl hE hp (v := (.int .i64 x4)) (ex_quo rfl hE rfl rfl (quoK_some ex4).1 (quoK_some ex4).2) ?_
              intro a hE
              refine s_val (wk0 rfl) rfl rfl hE hp (v := (.int .i64 x4)) (ex_asn rfl hE rfl) ?_
              intro a hE
              refine s_nil ?_
              refine k_seq ?_
              refine k_region ?_
              refine s_val (wk0 rfl) rfl rfl hE hp (v := (.func (.func 29) #[] #[(.pointer (some ⟨b2, 0, none⟩)), (.pointer (some ⟨b1, 0, none⟩)), (.pointer (some ⟨b3, 0, none⟩))])) (ex_move rfl hE rfl) ?_
              intro a hE
              refine s_val (wk0 rfl) rfl rfl hE hp (v := (.int .i64 x4)) (ex_move rfl hE rfl) ?_
              intro a hE
              obtain ⟨x5, ex5, hl1⟩ := bnd hl1
              refine s_callv (wk0 rfl) rfl rfl hE rfl rfl [(.int .i64 x4)] ⟨rfl, trivial⟩ ent29 (c_attempts_Needed_1 x4 b2 p1 vp1 hp1 b1 p0 b3 p2 (((hp.get 2 rfl).get 2 rfl).get 2 rfl) x5 ex5) Ret.ret ?_
              intro v a w hR hE
              obtain ⟨rfl, hp⟩ := Ret.of hR
              have hp : Hp Z ρ (Pt b2 (.cells #[vp1] 24 (0, 0)) :: Pt b1 (.cells #[(.int .i64 p0.kind), (.int .i64 p0.most), (.int .i64 p0.pause), (.int .i64 p0.keep)] 23 (0, 0)) :: Pt b3 (.cells #[(.int .i64 p2)] 3 (0, 0)) :: L) w := hp
              refine s_nil ?_
              refine k_if hE rfl (fun hb6 => ?_) (fun hb6 => ?_)
              · replace hl1 := (it hb6).symm.trans hl1
                refine k_region ?_
                refine s_val (wk0 rfl) rfl rfl hE hp (v := (.int .i64 x4)) (ex_move rfl hE rfl) ?_
                intro a hE
                refine s_val (wk0 rfl) rfl rfl hE hp (v := (.int .i64 x4)) (ex_asn rfl hE rfl) ?_
                intro a hE
                refine s_nil ?_
                exact ⟨_, (Option.some.inj hl1).symm, hE.cut ⟨rfl, rfl, rfl, trivial⟩, hp⟩
              · replace hl1 := (ie hb6).symm.trans hl1
                refine k_region ?_
                refine s_val (wk0 rfl) rfl rfl hE hp (v := (.int .i64 x4)) (ex_move rfl hE rfl) ?_
                intro a hE
                obtain ⟨x6, ex6, hl1⟩ := bnd hl1
                refine s_val (wk0 rfl) rfl rfl hE hp (v := (.int .i64 x6)) (ex_add rfl hE rfl rfl (inK_some ex6)) ?_
                intro a hE
                refine s_val (wk0 rfl) rfl rfl hE hp (v := (.int .i64 x6)) (ex_asn rfl hE rfl) ?_
                intro a hE
                refine s_nil ?_
                have hE := hE.cut (E' := [(8, (.func (.func 29) #[] #[(.pointer (some ⟨b2, 0, none⟩)), (.pointer (some ⟨b1, 0, none⟩)), (.pointer (some ⟨b3, 0, none⟩))])), (9, (.int .i64 x6)), (10, (.int .i64 lp1_1))]) ⟨rfl, rfl, rfl, trivial⟩
                exact ⟨_, (Option.some.inj hl1).symm, hE.cut ⟨rfl, rfl, rfl, trivial⟩, hp⟩
            · replace hl1 := (ie hb5).symm.trans hl1
              refine k_exit ?_
              refine ⟨_, (Option.some.inj hl1).symm, fun hbb => ?_⟩
              subst hbb
              exact ⟨hE.cut ⟨rfl, trivial⟩, hp⟩
        · rintro a w ⟨hE, hp⟩
          refine k_seq ?_
          refine k_region ?_
          refine s_val (wk0 rfl) rfl rfl hE hp (v := (.int .i64 b4)) (ex_move rfl hE rfl) ?_
          intro a hE
          refine s_val (wk0 rfl) rfl rfl hE hp (v := (.int .i64 b4)) (ex_asn rfl hE rfl) ?_
          intro a hE
          refine s_val (wk0 rfl) rfl rfl hE hp (v := (.bool true)) (ex_asn rfl hE rfl) ?_
          intro a hE
          refine s_nil ?_
          refine k_ret ?_
          obtain rfl := Option.some.inj hm
          exact ret2 hE rfl rfl rfl ⟨_, rfl, rfl, (((((hp.get 2 rfl).drop).get 1 rfl).drop).drop)⟩
end Go.Proofs.Ytmjmoogldbejoaa
