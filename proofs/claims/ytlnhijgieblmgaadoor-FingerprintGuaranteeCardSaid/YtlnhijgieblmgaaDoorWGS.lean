/-
  The code goes as its model: assessor/assessorlaw43.FingerprintGuarantee$1, assessor/assessorlaw43.FingerprintGuarantee. (Printed by wip/sp/gen.py.)
-/
import Derived.Test.YtlnhijgieblmgaaDoorWGM
import Derived.Test.YtlnhijgieblmgaaDoorFct
import Derived.Test.YtlnhijgieblmgaaDoorWS
set_option linter.unusedVariables false
set_option linter.unusedSimpArgs false
namespace Go.Proofs.YtlnhijgieblmgaaDoor
open Go.RowKit

/- assessor/assessorlaw43.FingerprintGuarantee$1 -/
set_option maxRecDepth 100000 in
set_option maxHeartbeats 4000000 in
theorem c_assessorlaw43_FingerprintGuarantee_1 {Z : World} {ρ : PH} {L : List Atom} {w : World} (hT : Tabs ρ) (p0 : (List Int)) (vp0 : Value) (hp0 : RoSl ρ vp0 p0) (p1 : (List Int)) (vp1 : Value) (hp1 : RoSl ρ vp1 p1) (bc0 : Nat) (c0 : (List Int)) (vc0 : Value) (hc0 : RoSl ρ vc0 c0) (bc1 : Nat) (c1 : Int) (bc2 : Nat) (c2 : Int) (hp : Hp Z ρ (Pt bc0 (.cells #[vc0] 25 (0, 0)) :: Pt bc1 (.cells #[(.int .i64 c1)] 3 (0, 0)) :: Pt bc2 (.cells #[(.int .i64 c2)] 3 (0, 0)) :: L) w) (r : (List (Mark × Bool))) (hm : m_assessorlaw43_FingerprintGuarantee_1 p0 p1 c0 c1 c2 = some r) :
    Calls Tryd.prog 28 #[vp0, vp1, (.pointer (some ⟨bc0, 0, none⟩)), (.pointer (some ⟨bc1, 0, none⟩)), (.pointer (some ⟨bc2, 0, none⟩))] w (Ret fun v w' => ∃ (b1 : Nat), v = (.map (some b1)) ∧ Hp Z ρ (MapA b1 (r : (List (Mark × Bool))) :: Pt bc0 (.cells #[vc0] 25 (0, 0)) :: Pt bc1 (.cells #[(.int .i64 c1)] 3 (0, 0)) :: Pt bc2 (.cells #[(.int .i64 c2)] 3 (0, 0)) :: L) w') := by
  refine enter (N := 70) Tryd.func28 rfl rfl [(0, vp0), (1, vp1), (2, (.pointer (some ⟨bc0, 0, none⟩))), (3, (.pointer (some ⟨bc1, 0, none⟩))), (4, (.pointer (some ⟨bc2, 0, none⟩)))] rfl (argsIn_mem ⟨rfl, rfl, rfl, rfl, rfl, trivial⟩) fun a hE => ?_
  unfold m_assessorlaw43_FingerprintGuarantee_1 at hm
  refine k_seq ?_
  refine k_region ?_
  refine s_val (wk0 rfl) rfl rfl hE hp (v := (.map none)) (ex_asn rfl hE rfl) ?_
  intro a hE
  refine s_nil ?_
  refine k_seq ?_
  obtain ⟨x1, ex1, hm⟩ := bnd hm
  obtain ⟨x2, ex2, hm⟩ := bnd hm
  obtain ⟨x3, ex3, hm⟩ := bnd hm
  obtain ⟨x4, ex4, hm⟩ := bnd hm
  refine k_held (Z := Z) (ρ := ρ) (Pt bc0 (.cells #[vc0] 25 (0, 0)) :: Pt bc1 (.cells #[(.int .i64 c1)] 3 (0, 0)) :: Pt bc2 (.cells #[(.int .i64 c2)] 3 (0, 0)) :: L) (fun a w => ∃ y4 : Value, ∃ y5 : Value, Env 70 [(0, vp0), (2, (.pointer (some ⟨bc0, 0, none⟩))), (3, (.pointer (some ⟨bc1, 0, none⟩))), (4, (.pointer (some ⟨bc2, 0, none⟩))), (8, y5), (9, (.int .i64 x4.2))] a ∧ Hp Z ρ (OwnSl 3 y4 x3 :: OwnSl 3 y5 x4.1 :: Pt bc0 (.cells #[vc0] 25 (0, 0)) :: Pt bc1 (.cells #[(.int .i64 c1)] 3 (0, 0)) :: Pt bc2 (.cells #[(.int .i64 c2)] 3 (0, 0)) :: L) w) (by kernel_rfl) ?_ ?_
  ·
    have hp := hp.drew
    have hS : Hp Z ρ (Pt bc0 (.cells #[vc0] 25 (0, 0)) :: Pt bc1 (.cells #[(.int .i64 c1)] 3 (0, 0)) :: Pt bc2 (.cells #[(.int .i64 c2)] 3 (0, 0)) :: L) w.drew := hp
    refine h_take 1 (wk0 rfl) rfl rfl rfl hE (by kernel_rfl) (by kernel_rfl) (by kernel_rfl) hS (v := vp0) (ex_move rfl hE rfl) ?_
    intro a hE
    refine h_take 3 (wk0 rfl) rfl rfl rfl hE (by kernel_rfl) (by kernel_rfl) (by kernel_rfl) hS (v := vc0) (ex_load rfl hE rfl (fun w hw => run_ld1 varty25 (Hp.c 0 rfl 0 rfl w hw))) ?_
    intro a hE
    refine h_take 5 (wk0 rfl) rfl rfl rfl hE (by kernel_rfl) (by kernel_rfl) (by kernel_rfl) hS (v := vp1) (ex_move rfl hE rfl) ?_
    intro a hE
    refine h_take 7 (wk0 rfl) rfl rfl rfl hE (by kernel_rfl) (by kernel_rfl) (by kernel_rfl) hS (v := (.int .i64 c1)) (ex_load rfl hE rfl (fun w hw => run_ld1 varty3 (Hp.c 1 rfl 0 rfl w hw))) ?_
    intro a hE
    refine h_all [0] (by kernel_rfl) rfl ?_
    refine List.forall_mem_cons.2 ⟨?_, fun _ h => absurd h (by simp)⟩
    ·
      refine h_op rfl ?_
      refine s_lit (wk0 rfl) rfl rfl hE hp rfl [] trivial [] 3 (fun w => by simp [Instr.buildSlice, Instr.fill, Value.cells, go_sem]) ?_
      intro a w b2 hE hp
      have hp : Hp Z ρ (Pt b2 (.cells #[] 3 (0, 0)) :: Pt bc0 (.cells #[vc0] 25 (0, 0)) :: Pt bc1 (.cells #[(.int .i64 c1)] 3 (0, 0)) :: Pt bc2 (.cells #[(.int .i64 c2)] 3 (0, 0)) :: L) w := hp
      refine s_nil ⟨(hp.drop), ?_⟩
      have hS := (hp.drop)
      refine h_all [2] (by kernel_rfl) rfl ?_
      refine List.forall_mem_cons.2 ⟨?_, fun _ h => absurd h (by simp)⟩
      ·
        refine h_op rfl ?_
        have hp := (hp.get 0 rfl).imp (own_of_pt (l := (([] : List Int) : List Int)) (n := 0) rfl (by decide) rfl)
        have hp : Hp Z ρ (OwnSl 3 (.slice (some ⟨b2, 0, none⟩) 0 0) ([] : List Int) :: Pt bc0 (.cells #[vc0] 25 (0, 0)) :: Pt bc1 (.cells #[(.int .i64 c1)] 3 (0, 0)) :: Pt bc2 (.cells #[(.int .i64 c2)] 3 (0, 0)) :: L) w := hp
        refine s_apps (wk0 rfl) rfl rfl hE hp rfl slty25 rfl rfl 0 rfl rfl hp0 ex1 ?_
        intro v5 a w hE hp
        have hp : Hp Z ρ (OwnSl 3 v5 x1 :: Pt bc0 (.cells #[vc0] 25 (0, 0)) :: Pt bc1 (.cells #[(.int .i64 c1)] 3 (0, 0)) :: Pt bc2 (.cells #[(.int .i64 c2)] 3 (0, 0)) :: L) w := hp
        refine s_nil ⟨(hp.drop), ?_⟩
        have hS := (hp.drop)
        refine h_all [4] (by kernel_rfl) rfl ?_
        refine List.forall_mem_cons.2 ⟨?_, fun _ h => absurd h (by simp)⟩
        ·
          refine h_op rfl ?_
          refine s_apps (wk0 rfl) rfl rfl hE hp rfl slty25 rfl rfl 0 rfl rfl hc0 ex2 ?_
          intro v6 a w hE hp
          have hp : Hp Z ρ (OwnSl 3 v6 x2 :: Pt bc0 (.cells #[vc0] 25 (0, 0)) :: Pt bc1 (.cells #[(.int .i64 c1)] 3 (0, 0)) :: Pt bc2 (.cells #[(.int .i64 c2)] 3 (0, 0)) :: L) w := hp
          refine s_nil ⟨(hp.drop), ?_⟩
          have hS := (hp.drop)
          refine h_all [6] (by kernel_rfl) rfl ?_
          refine List.forall_mem_cons.2 ⟨?_, fun _ h => absurd h (by simp)⟩
          ·
            refine h_op rfl ?_
            refine s_apps (wk0 rfl) rfl rfl hE hp rfl slty25 rfl rfl 0 rfl rfl hp1 ex3 ?_
            intro v7 a w hE hp
            have hp : Hp Z ρ (OwnSl 3 v7 x3 :: Pt bc0 (.cells #[vc0] 25 (0, 0)) :: Pt bc1 (.cells #[(.int .i64 c1)] 3 (0, 0)) :: Pt bc2 (.cells #[(.int .i64 c2)] 3 (0, 0)) :: L) w := hp
            refine s_nil ⟨(hp.drop), ?_⟩
            have hS := (hp.drop)
            refine h_all [8] (by kernel_rfl) rfl ?_
            refine List.forall_mem_cons.2 ⟨?_, fun _ h => absurd h (by simp)⟩
            ·
              refine h_op rfl ?_
              obtain ⟨k2, k2a, k2d, k2h⟩ := (hp.get 0 rfl).lend
              refine s_call (wk0 rfl) rfl rfl hE rfl [v7, (.int .i64 c1)] ⟨rfl, rfl, trivial⟩ ent20 (c_fingerprint_Hashes (Tabs.mono hT (PH.le_un _ _)) x3 v7 (OwnSl.ro k2d k2a) c1 k2h x4 ex4) Ret.ret ?_
              intro v a w hR hE
              obtain ⟨v8, rfl, hp⟩ := Ret.of hR
              have hp := Hp.back k2a k2d hp
              have hp : Hp Z ρ (OwnSl 3 v7 x3 :: OwnSl 3 v8 x4.1 :: Pt bc0 (.cells #[vc0] 25 (0, 0)) :: Pt bc1 (.cells #[(.int .i64 c1)] 3 (0, 0)) :: Pt bc2 (.cells #[(.int .i64 c2)] 3 (0, 0)) :: L) w := hp
              have hp : Hp Z ρ (OwnSl 3 v7 x3 :: OwnSl 3 v8 x4.1 :: Pt bc0 (.cells #[vc0] 25 (0, 0)) :: Pt bc1 (.cells #[(.int .i64 c1)] 3 (0, 0)) :: Pt bc2 (.cells #[(.int .i64 c2)] 3 (0, 0)) :: L) w := hp
              refine s_nil ⟨(((hp.get 1 rfl).drop).drop), ?_⟩
              have hS := (((hp.get 1 rfl).drop).drop)
              refine h_take 9 (wk0 rfl) rfl rfl rfl hE (by kernel_rfl) (by kernel_rfl) (by kernel_rfl) hS (v := (.tuple #[v8, (.int .i64 x4.2)])) (ex_move rfl hE rfl) ?_
              intro a hE
              refine h_take 10 (wk0 rfl) rfl rfl rfl hE (by kernel_rfl) (by kernel_rfl) (by kernel_rfl) hS (v := v8) (ex_extract rfl hE rfl rfl) ?_
              intro a hE
              refine h_take 11 (wk0 rfl) rfl rfl rfl hE (by kernel_rfl) (by kernel_rfl) (by kernel_rfl) hS (v := (.int .i64 x4.2)) (ex_extract rfl hE rfl rfl) ?_
              intro a hE
              refine h_take 12 (wk0 rfl) rfl rfl rfl hE (by kernel_rfl) (by kernel_rfl) (by kernel_rfl) hS (v := v8) (ex_asn rfl hE rfl) ?_
              intro a hE
              refine h_take 13 (wk0 rfl) rfl rfl rfl hE (by kernel_rfl) (by kernel_rfl) (by kernel_rfl) hS (v := (.int .i64 x4.2)) (ex_asn rfl hE rfl) ?_
              intro a hE
              exact h_done (by kernel_rfl) ⟨_, _, hE.cut ⟨rfl, rfl, rfl, rfl, rfl, rfl, trivial⟩, hp⟩
  · rintro a w ⟨y4, y5, hE, hp⟩
    refine k_seq ?_
    refine k_region ?_
    refine s_val (wk0 rfl) rfl rfl hE hp (v := y5) (ex_move rfl hE rfl) ?_
    intro a hE
    refine s_val (wk0 rfl) rfl rfl hE hp (v := (.int .i64 c2)) (ex_load rfl hE rfl (fun w hw => run_ld1 varty3 (Hp.c 4 rfl 0 rfl w hw))) ?_
    intro a hE
    obtain ⟨k3, k3a, k3d, k3h⟩ := (hp.get 1 rfl).lend
    obtain ⟨x5, ex5, hm⟩ := bnd hm
    refine s_call (wk0 rfl) rfl rfl hE rfl [y5, (.int .i64 c2)] ⟨rfl, rfl, trivial⟩ ent24 (c_fingerprint_Winnow (Tabs.mono hT (PH.le_un _ _)) x4.1 y5 (OwnSl.ro k3d k3a) c2 k3h x5 ex5) Ret.ret ?_
    intro v a w hR hE
    obtain ⟨v9, rfl, hp⟩ := Ret.of hR
    have hp := Hp.back k3a k3d hp
    have hp : Hp Z ρ (OwnSl 3 y5 x4.1 :: OwnSl 48 v9 x5.1 :: OwnSl 3 y4 x3 :: Pt bc0 (.cells #[vc0] 25 (0, 0)) :: Pt bc1 (.cells #[(.int .i64 c1)] 3 (0, 0)) :: Pt bc2 (.cells #[(.int .i64 c2)] 3 (0, 0)) :: L) w := hp
    have hp : Hp Z ρ (OwnSl 3 y5 x4.1 :: OwnSl 48 v9 x5.1 :: OwnSl 3 y4 x3 :: Pt bc0 (.cells #[vc0] 25 (0, 0)) :: Pt bc1 (.cells #[(.int .i64 c1)] 3 (0, 0)) :: Pt bc2 (.cells #[(.int .i64 c2)] 3 (0, 0)) :: L) w := hp
    refine s_val (wk0 rfl) rfl rfl hE hp (v := (.tuple #[v9, (.int .i64 x5.2)])) (ex_move rfl hE rfl) ?_
    intro a hE
    refine s_val (wk0 rfl) rfl rfl hE hp (v := v9) (ex_extract rfl hE rfl rfl) ?_
    intro a hE
    refine s_val (wk0 rfl) rfl rfl hE hp (v := (.int .i64 x5.2)) (ex_extract rfl hE rfl rfl) ?_
    intro a hE
    refine s_val (wk0 rfl) rfl rfl hE hp (v := v9) (ex_asn rfl hE rfl) ?_
    intro a hE
    refine s_val (wk0 rfl) rfl rfl hE hp (v := (.int .i64 x5.2)) (ex_asn rfl hE rfl) ?_
    intro a hE
    refine s_nil ?_
    refine k_seq ?_
    refine k_region ?_
    refine s_mkmap (κ := Mark) (β := Bool) (wk0 rfl) rfl rfl hE hp rfl ?_
    intro a w b3 hE hp
    have hp : Hp Z ρ (MapA b3 ([] : List (Mark × Bool)) :: OwnSl 3 y5 x4.1 :: OwnSl 48 v9 x5.1 :: OwnSl 3 y4 x3 :: Pt bc0 (.cells #[vc0] 25 (0, 0)) :: Pt bc1 (.cells #[(.int .i64 c1)] 3 (0, 0)) :: Pt bc2 (.cells #[(.int .i64 c2)] 3 (0, 0)) :: L) w := hp
    refine s_val (wk0 rfl) rfl rfl hE hp (v := (.map (some b3))) (ex_asn rfl hE rfl) ?_
    intro a hE
    refine s_nil ?_
    refine k_seq ?_
    refine k_seq ?_
    refine k_region ?_
    refine s_val (wk0 rfl) rfl rfl hE hp (v := v9) (ex_move rfl hE rfl) ?_
    intro a hE
    refine s_val (wk0 rfl) rfl rfl hE hp (v := (.int .i64 (x5.1.length : Int))) (ex_len rfl hE rfl (OwnSl.len hp 2 rfl slty28)) ?_
    intro a hE
    refine s_val (wk0 rfl) rfl rfl hE hp (v := (.int .i64 0)) (ex_move rfl hE rfl) ?_
    intro a hE
    refine s_nil ?_
    obtain ⟨b4, hb1, hm⟩ := bnd hm
    refine k_block (fun a w => Env 70 [(12, (.map (some b3)))] a ∧ Hp Z ρ (MapA b3 (b4 : List (Mark × Bool)) :: OwnSl 3 y5 x4.1 :: OwnSl 48 v9 x5.1 :: OwnSl 3 y4 x3 :: Pt bc0 (.cells #[vc0] 25 (0, 0)) :: Pt bc1 (.cells #[(.int .i64 c1)] 3 (0, 0)) :: Pt bc2 (.cells #[(.int .i64 c2)] 3 (0, 0)) :: L) w) ?_ ?_
    · refine k_loop hb1 (fun s a w => Env 70 [(0, vp0), (2, (.pointer (some ⟨bc0, 0, none⟩))), (3, (.pointer (some ⟨bc1, 0, none⟩))), (9, (.int .i64 x4.2)), (11, (.int .i64 x5.2)), (12, (.map (some b3))), (34, v9), (35, (.int .i64 (x5.1.length : Int))), (36, (.int .i64 s.1))] a ∧ Hp Z ρ (MapA b3 (s.2 : List (Mark × Bool)) :: OwnSl 3 y5 x4.1 :: OwnSl 48 v9 x5.1 :: OwnSl 3 y4 x3 :: Pt bc0 (.cells #[vc0] 25 (0, 0)) :: Pt bc1 (.cells #[(.int .i64 c1)] 3 (0, 0)) :: Pt bc2 (.cells #[(.int .i64 c2)] 3 (0, 0)) :: L) w) ?_ ?_
      · exact ⟨hE.cut ⟨rfl, rfl, rfl, rfl, rfl, rfl, rfl, rfl, rfl, trivial⟩, hp⟩
      · rintro ⟨lp1_0, lp1_1⟩ st a w ⟨hE, hp⟩ hl1
        have hE : Env 70 [(0, vp0), (2, (.pointer (some ⟨bc0, 0, none⟩))), (3, (.pointer (some ⟨bc1, 0, none⟩))), (9, (.int .i64 x4.2)), (11, (.int .i64 x5.2)), (12, (.map (some b3))), (34, v9), (35, (.int .i64 (x5.1.length : Int))), (36, (.int .i64 lp1_0))] a := hE
        have hp : Hp Z ρ (MapA b3 (lp1_1 : List (Mark × Bool)) :: OwnSl 3 y5 x4.1 :: OwnSl 48 v9 x5.1 :: OwnSl 3 y4 x3 :: Pt bc0 (.cells #[vc0] 25 (0, 0)) :: Pt bc1 (.cells #[(.int .i64 c1)] 3 (0, 0)) :: Pt bc2 (.cells #[(.int .i64 c2)] 3 (0, 0)) :: L) w := hp
        replace hl1 : m_assessorlaw43_FingerprintGuarantee_1_lp1 p0 c0 c1 x4 x5 lp1_0 lp1_1 = some st := hl1
        unfold m_assessorlaw43_FingerprintGuarantee_1_lp1 at hl1
        refine k_seq ?_
        refine k_region ?_
        refine s_val (wk0 rfl) rfl rfl hE hp (v := (.bool (decide (lp1_0 < (x5.1.length : Int))))) (ex_lss rfl hE rfl rfl) ?_
        intro a hE
        refine s_nil ?_
        refine k_seq ?_
        refine k_if hE rfl (fun hb2 => ?_) (fun hb2 => ?_)
        · replace hl1 := (it hb2).symm.trans hl1
          refine k_skip ?_
          refine k_seq ?_
          refine k_plain ?_
          refine k_seq ?_
          refine k_region ?_
          obtain ⟨x6, ex6, hl1⟩ := bnd hl1
          obtain ⟨b5, b5o, b5r, b5v, b5f⟩ := OwnSl.at hp 2 rfl slty28 ex6
          have b5f : ∀ (j : Nat) (u : Value), ([(.int .i64 x6.hash), (.int .i64 x6.at_)] : List Value)[j]? = some u → ∀ w, Hp Z ρ (MapA b3 (lp1_1 : List (Mark × Bool)) :: OwnSl 3 y5 x4.1 :: OwnSl 48 v9 x5.1 :: OwnSl 3 y4 x3 :: Pt bc0 (.cells #[vc0] 25 (0, 0)) :: Pt bc1 (.cells #[(.int .i64 c1)] 3 (0, 0)) :: Pt bc2 (.cells #[(.int .i64 c2)] 3 (0, 0)) :: L) w → w.cell? ⟨b5, b5o + j, none⟩ = some u := b5f
          refine s_val (wk0 rfl) rfl rfl hE hp (v := (.pointer (some ⟨b5, b5o, none⟩))) (ex_index rfl hE rfl rfl b5r) ?_
          intro a hE
          refine s_val (wk0 rfl) rfl rfl hE hp (v := (.agg #[(.int .i64 x6.hash), (.int .i64 x6.at_)])) (ex_load rfl hE rfl (fun w hw => run_ldN (cs := [(.int .i64 x6.hash), (.int .i64 x6.at_)]) varty48 (fun j u hj => b5f j u hj w hw))) ?_
          intro a hE
          refine s_new (wk0 rfl) rfl rfl hE hp rfl [(.int .i64 0), (.int .i64 0)] (fun w => by simp [Instr.alloc, go_sem] <;> rfl) ?_
          intro a w b6 hE hp
          have hp : Hp Z ρ (Pt b6 (.cells #[(.int .i64 0), (.int .i64 0)] 48 (0, 0)) :: MapA b3 (lp1_1 : List (Mark × Bool)) :: OwnSl 3 y5 x4.1 :: OwnSl 48 v9 x5.1 :: OwnSl 3 y4 x3 :: Pt bc0 (.cells #[vc0] 25 (0, 0)) :: Pt bc1 (.cells #[(.int .i64 c1)] 3 (0, 0)) :: Pt bc2 (.cells #[(.int .i64 c2)] 3 (0, 0)) :: L) w := hp
          refine s_store (wk0 rfl) rfl hE hp rfl rfl rfl 0 rfl varty48.size_ rfl (allOne_mem ⟨rfl, rfl, trivial⟩) [(.int .i64 x6.hash), (.int .i64 x6.at_)] rfl ?_
          intro w hp
          have hp : Hp Z ρ (Pt b6 (.cells #[(.int .i64 x6.hash), (.int .i64 x6.at_)] 48 (0, 0)) :: MapA b3 (lp1_1 : List (Mark × Bool)) :: OwnSl 3 y5 x4.1 :: OwnSl 48 v9 x5.1 :: OwnSl 3 y4 x3 :: Pt bc0 (.cells #[vc0] 25 (0, 0)) :: Pt bc1 (.cells #[(.int .i64 c1)] 3 (0, 0)) :: Pt bc2 (.cells #[(.int .i64 c2)] 3 (0, 0)) :: L) w := hp
          refine s_nil ?_
          refine k_seq ?_
          refine k_region ?_
          refine s_val (wk0 rfl) rfl rfl hE hp (v := (.pointer (some ⟨b6, 1, none⟩))) (ex_field rfl hE rfl (fldty48_1 _ _)) ?_
          intro a hE
          refine s_val (wk0 rfl) rfl rfl hE hp (v := (.int .i64 x6.at_)) (ex_load rfl hE rfl (fun w hw => run_ld1 varty3 (Hp.c 0 rfl 1 rfl w hw))) ?_
          intro a hE
          refine s_val (wk0 rfl) rfl rfl hE hp (v := vp0) (ex_move rfl hE rfl) ?_
          intro a hE
          refine s_val (wk0 rfl) rfl rfl hE hp (v := (.int .i64 (p0.length : Int))) (ex_len rfl hE rfl (RoSl.len hp0 slty25)) ?_
          intro a hE
          obtain ⟨x7, ex7, hl1⟩ := bnd hl1
          refine s_val (wk0 rfl) rfl rfl hE hp (v := (.int .i64 x7)) (ex_sub rfl hE rfl rfl (inK_some ex7)) ?_
          intro a hE
          refine s_val (wk0 rfl) rfl rfl hE hp (v := (.pointer (some ⟨b6, 1, none⟩))) (ex_field rfl hE rfl (fldty48_1 _ _)) ?_
          intro a hE
          refine s_store (wk0 rfl) rfl hE hp rfl rfl rfl 0 rfl varty3.size_ rfl (allOne_mem ⟨rfl, trivial⟩) [(.int .i64 x6.hash), (.int .i64 x7)] rfl ?_
          intro w hp
          have hp : Hp Z ρ (Pt b6 (.cells #[(.int .i64 x6.hash), (.int .i64 x7)] 48 (0, 0)) :: MapA b3 (lp1_1 : List (Mark × Bool)) :: OwnSl 3 y5 x4.1 :: OwnSl 48 v9 x5.1 :: OwnSl 3 y4 x3 :: Pt bc0 (.cells #[vc0] 25 (0, 0)) :: Pt bc1 (.cells #[(.int .i64 c1)] 3 (0, 0)) :: Pt bc2 (.cells #[(.int .i64 c2)] 3 (0, 0)) :: L) w := hp
          refine s_nil ?_
          have hE := hE.cut (E' := [(0, vp0), (2, (.pointer (some ⟨bc0, 0, none⟩))), (3, (.pointer (some ⟨bc1, 0, none⟩))), (9, (.int .i64 x4.2)), (11, (.int .i64 x5.2)), (12, (.map (some b3))), (14, (.pointer (some ⟨b6, 0, none⟩))), (34, v9), (35, (.int .i64 (x5.1.length : Int))), (36, (.int .i64 lp1_0))]) ⟨rfl, rfl, rfl, rfl, rfl, rfl, rfl, rfl, rfl, rfl, trivial⟩
          refine k_seq ?_
          refine k_region ?_
          refine s_val (wk0 rfl) rfl rfl hE hp (v := (.int .i64 x4.2)) (ex_move rfl hE rfl) ?_
          intro a hE
          refine s_val (wk0 rfl) rfl rfl hE hp (v := (.bool (decide (x4.2 = 0)))) (ex_eql rfl hE rfl rfl) ?_
          intro a hE
          refine s_val (wk0 rfl) rfl rfl hE hp (v := (.bool (decide (x4.2 = 0)))) (ex_move rfl hE rfl) ?_
          intro a hE
          refine s_cut [_, _, _] (fun a w => Env 70 [(51, (.bool ((decide (x4.2 = 0)) && (decide (x5.2 = 0))))), (0, vp0), (2, (.pointer (some ⟨bc0, 0, none⟩))), (3, (.pointer (some ⟨bc1, 0, none⟩))), (9, (.int .i64 x4.2)), (11, (.int .i64 x5.2)), (12, (.map (some b3))), (14, (.pointer (some ⟨b6, 0, none⟩))), (34, v9), (35, (.int .i64 (x5.1.length : Int))), (36, (.int .i64 lp1_0))] a ∧ Hp Z ρ (Pt b6 (.cells #[(.int .i64 x6.hash), (.int .i64 x7)] 48 (0, 0)) :: MapA b3 (lp1_1 : List (Mark × Bool)) :: OwnSl 3 y5 x4.1 :: OwnSl 48 v9 x5.1 :: OwnSl 3 y4 x3 :: Pt bc0 (.cells #[vc0] 25 (0, 0)) :: Pt bc1 (.cells #[(.int .i64 c1)] 3 (0, 0)) :: Pt bc2 (.cells #[(.int .i64 c2)] 3 (0, 0)) :: L) w) ?_ ?_
          · rcases Bool.eq_false_or_eq_true (decide (x4.2 = 0)) with hb3 | hb3
            ·
              refine s_val (wk1 hE rfl rfl rfl hb3) rfl rfl hE hp (v := (.int .i64 x5.2)) (ex_move rfl hE rfl) ?_
              intro a hE
              refine s_val (wk1 hE rfl rfl rfl hb3) rfl rfl hE hp (v := (.bool (decide (x5.2 = 0)))) (ex_eql rfl hE rfl rfl) ?_
              intro a hE
              refine s_val (wk0 rfl) rfl rfl hE hp (v := (.bool (decide (x5.2 = 0)))) (ex_pick1 rfl hE rfl hb3 rfl) ?_
              intro a hE
              have hE := hE.eqv (v' := (.bool ((decide (x4.2 = 0)) && (decide (x5.2 = 0))))) (by rw [hb3]; rfl)
              exact s_nil ⟨hE.cut ⟨rfl, rfl, rfl, rfl, rfl, rfl, rfl, rfl, rfl, rfl, rfl, trivial⟩, hp⟩
            ·
              refine s_skip (wk2 hE rfl rfl rfl hb3) rfl rfl hE ?_
              intro a hE
              refine s_skip (wk2 hE rfl rfl rfl hb3) rfl rfl hE ?_
              intro a hE
              refine s_val (wk0 rfl) rfl rfl hE hp (v := (.bool false)) (ex_pick0 rfl hE rfl hb3 rfl) ?_
              intro a hE
              have hE := hE.eqv (v' := (.bool ((decide (x4.2 = 0)) && (decide (x5.2 = 0))))) (by rw [hb3]; rfl)
              exact s_nil ⟨hE.cut ⟨rfl, rfl, rfl, rfl, rfl, rfl, rfl, rfl, rfl, rfl, rfl, trivial⟩, hp⟩
          · rintro a w ⟨hE, hp⟩
            refine s_val (wk0 rfl) rfl rfl hE hp (v := (.bool ((decide (x4.2 = 0)) && (decide (x5.2 = 0))))) (ex_move rfl hE rfl) ?_
            intro a hE
            refine s_cut [_, _, _, _] (fun a w => Env 70 [(56, (.bool (((decide (x4.2 = 0)) && (decide (x5.2 = 0))) && (decide (0 ≤ x7))))), (0, vp0), (2, (.pointer (some ⟨bc0, 0, none⟩))), (3, (.pointer (some ⟨bc1, 0, none⟩))), (9, (.int .i64 x4.2)), (11, (.int .i64 x5.2)), (12, (.map (some b3))), (14, (.pointer (some ⟨b6, 0, none⟩))), (34, v9), (35, (.int .i64 (x5.1.length : Int))), (36, (.int .i64 lp1_0))] a ∧ Hp Z ρ (Pt b6 (.cells #[(.int .i64 x6.hash), (.int .i64 x7)] 48 (0, 0)) :: MapA b3 (lp1_1 : List (Mark × Bool)) :: OwnSl 3 y5 x4.1 :: OwnSl 48 v9 x5.1 :: OwnSl 3 y4 x3 :: Pt bc0 (.cells #[vc0] 25 (0, 0)) :: Pt bc1 (.cells #[(.int .i64 c1)] 3 (0, 0)) :: Pt bc2 (.cells #[(.int .i64 c2)] 3 (0, 0)) :: L) w) ?_ ?_
            · rcases Bool.eq_false_or_eq_true ((decide (x4.2 = 0)) && (decide (x5.2 = 0))) with hb4 | hb4
              ·
                refine s_val (wk1 hE rfl rfl rfl hb4) rfl rfl hE hp (v := (.pointer (some ⟨b6, 1, none⟩))) (ex_field rfl hE rfl (fldty48_1 _ _)) ?_
                intro a hE
                refine s_val (wk1 hE rfl rfl rfl hb4) rfl rfl hE hp (v := (.int .i64 x7)) (ex_load rfl hE rfl (fun w hw => run_ld1 varty3 (Hp.c 0 rfl 1 rfl w hw))) ?_
                intro a hE
                refine s_val (wk1 hE rfl rfl rfl hb4) rfl rfl hE hp (v := (.bool (decide (0 ≤ x7)))) (ex_geq rfl hE rfl rfl) ?_
                intro a hE
                refine s_val (wk0 rfl) rfl rfl hE hp (v := (.bool (decide (0 ≤ x7)))) (ex_pick1 rfl hE rfl hb4 rfl) ?_
                intro a hE
                have hE := hE.eqv (v' := (.bool (((decide (x4.2 = 0)) && (decide (x5.2 = 0))) && (decide (0 ≤ x7))))) (by rw [hb4]; rfl)
                exact s_nil ⟨hE.cut ⟨rfl, rfl, rfl, rfl, rfl, rfl, rfl, rfl, rfl, rfl, rfl, trivial⟩, hp⟩
              ·
                refine s_skip (wk2 hE rfl rfl rfl hb4) rfl rfl hE ?_
                intro a hE
                refine s_skip (wk2 hE rfl rfl rfl hb4) rfl rfl hE ?_
                intro a hE
                refine s_skip (wk2 hE rfl rfl rfl hb4) rfl rfl hE ?_
                intro a hE
                refine s_val (wk0 rfl) rfl rfl hE hp (v := (.bool false)) (ex_pick0 rfl hE rfl hb4 rfl) ?_
                intro a hE
                have hE := hE.eqv (v' := (.bool (((decide (x4.2 = 0)) && (decide (x5.2 = 0))) && (decide (0 ≤ x7))))) (by rw [hb4]; rfl)
                exact s_nil ⟨hE.cut ⟨rfl, rfl, rfl, rfl, rfl, rfl, rfl, rfl, rfl, rfl, rfl, trivial⟩, hp⟩
            · rintro a w ⟨hE, hp⟩
              refine s_val (wk0 rfl) rfl rfl hE hp (v := (.bool (((decide (x4.2 = 0)) && (decide (x5.2 = 0))) && (decide (0 ≤ x7))))) (ex_move rfl hE rfl) ?_
              intro a hE
              obtain ⟨m1, hg1, hl1⟩ := bnd hl1
              refine s_cut [_, _, _, _, _, _, _, _] (fun a w => Env 70 [(65, (.bool m1)), (0, vp0), (2, (.pointer (some ⟨bc0, 0, none⟩))), (3, (.pointer (some ⟨bc1, 0, none⟩))), (9, (.int .i64 x4.2)), (11, (.int .i64 x5.2)), (12, (.map (some b3))), (14, (.pointer (some ⟨b6, 0, none⟩))), (34, v9), (35, (.int .i64 (x5.1.length : Int))), (36, (.int .i64 lp1_0))] a ∧ Hp Z ρ (Pt b6 (.cells #[(.int .i64 x6.hash), (.int .i64 x7)] 48 (0, 0)) :: MapA b3 (lp1_1 : List (Mark × Bool)) :: OwnSl 3 y5 x4.1 :: OwnSl 48 v9 x5.1 :: OwnSl 3 y4 x3 :: Pt bc0 (.cells #[vc0] 25 (0, 0)) :: Pt bc1 (.cells #[(.int .i64 c1)] 3 (0, 0)) :: Pt bc2 (.cells #[(.int .i64 c2)] 3 (0, 0)) :: L) w) ?_ ?_
              · rcases Bool.eq_false_or_eq_true (((decide (x4.2 = 0)) && (decide (x5.2 = 0))) && (decide (0 ≤ x7))) with hb5 | hb5
                ·
                  replace hg1 := (it hb5).symm.trans hg1
                  refine s_val (wk1 hE rfl rfl rfl hb5) rfl rfl hE hp (v := (.pointer (some ⟨b6, 1, none⟩))) (ex_field rfl hE rfl (fldty48_1 _ _)) ?_
                  intro a hE
                  refine s_val (wk1 hE rfl rfl rfl hb5) rfl rfl hE hp (v := (.int .i64 x7)) (ex_load rfl hE rfl (fun w hw => run_ld1 varty3 (Hp.c 0 rfl 1 rfl w hw))) ?_
                  intro a hE
                  refine s_val (wk1 hE rfl rfl rfl hb5) rfl rfl hE hp (v := vc0) (ex_load rfl hE rfl (fun w hw => run_ld1 varty25 (Hp.c 5 rfl 0 rfl w hw))) ?_
                  intro a hE
                  refine s_val (wk1 hE rfl rfl rfl hb5) rfl rfl hE hp (v := (.int .i64 (c0.length : Int))) (ex_len rfl hE rfl (RoSl.len hc0 slty25)) ?_
                  intro a hE
                  refine s_val (wk1 hE rfl rfl rfl hb5) rfl rfl hE hp (v := (.int .i64 c1)) (ex_load rfl hE rfl (fun w hw => run_ld1 varty3 (Hp.c 6 rfl 0 rfl w hw))) ?_
                  intro a hE
                  obtain ⟨x8, ex8, hg1⟩ := bnd hg1
                  refine s_val (wk1 hE rfl rfl rfl hb5) rfl rfl hE hp (v := (.int .i64 x8)) (ex_sub rfl hE rfl rfl (inK_some ex8)) ?_
                  intro a hE
                  refine s_val (wk1 hE rfl rfl rfl hb5) rfl rfl hE hp (v := (.bool (decide (x7 ≤ x8)))) (ex_leq rfl hE rfl rfl) ?_
                  intro a hE
                  refine s_val (wk0 rfl) rfl rfl hE hp (v := (.bool (decide (x7 ≤ x8)))) (ex_pick1 rfl hE rfl hb5 rfl) ?_
                  intro a hE
                  obtain rfl := Option.some.inj hg1
                  exact s_nil ⟨hE.cut ⟨rfl, rfl, rfl, rfl, rfl, rfl, rfl, rfl, rfl, rfl, rfl, trivial⟩, hp⟩
                ·
                  replace hg1 := (ie hb5).symm.trans hg1
                  refine s_skip (wk2 hE rfl rfl rfl hb5) rfl rfl hE ?_
                  intro a hE
                  refine s_skip (wk2 hE rfl rfl rfl hb5) rfl rfl hE ?_
                  intro a hE
                  refine s_skip (wk2 hE rfl rfl rfl hb5) rfl rfl hE ?_
                  intro a hE
                  refine s_skip (wk2 hE rfl rfl rfl hb5) rfl rfl hE ?_
                  intro a hE
                  refine s_skip (wk2 hE rfl rfl rfl hb5) rfl rfl hE ?_
                  intro a hE
                  refine s_skip (wk2 hE rfl rfl rfl hb5) rfl rfl hE ?_
                  intro a hE
                  refine s_skip (wk2 hE rfl rfl rfl hb5) rfl rfl hE ?_
                  intro a hE
                  refine s_val (wk0 rfl) rfl rfl hE hp (v := (.bool false)) (ex_pick0 rfl hE rfl hb5 rfl) ?_
                  intro a hE
                  obtain rfl := Option.some.inj hg1
                  exact s_nil ⟨hE.cut ⟨rfl, rfl, rfl, rfl, rfl, rfl, rfl, rfl, rfl, rfl, rfl, trivial⟩, hp⟩
              · rintro a w ⟨hE, hp⟩
                refine s_nil ?_
                refine k_if hE rfl (fun hb6 => ?_) (fun hb6 => ?_)
                · replace hl1 := (it hb6).symm.trans hl1
                  refine k_region ?_
                  refine s_val (wk0 rfl) rfl rfl hE hp (v := (.map (some b3))) (ex_move rfl hE rfl) ?_
                  intro a hE
                  refine s_val (wk0 rfl) rfl rfl hE hp (v := (.agg #[(.int .i64 x6.hash), (.int .i64 x7)])) (ex_load rfl hE rfl (fun w hw => run_ldN (cs := [(.int .i64 x6.hash), (.int .i64 x7)]) varty48 (Hp.cN 0 rfl 0 _ (sub_all rfl) w hw))) ?_
                  intro a hE
                  refine s_mput kt48 mapty49 (wk0 rfl) rfl hE hp rfl 1 (k := (Mark.mk x6.hash x7)) (v := true) rfl rfl rfl rfl ?_
                  intro w hp
                  have hp : Hp Z ρ (Pt b6 (.cells #[(.int .i64 x6.hash), (.int .i64 x7)] 48 (0, 0)) :: MapA b3 (mput lp1_1 (Mark.mk x6.hash x7) true : List (Mark × Bool)) :: OwnSl 3 y5 x4.1 :: OwnSl 48 v9 x5.1 :: OwnSl 3 y4 x3 :: Pt bc0 (.cells #[vc0] 25 (0, 0)) :: Pt bc1 (.cells #[(.int .i64 c1)] 3 (0, 0)) :: Pt bc2 (.cells #[(.int .i64 c2)] 3 (0, 0)) :: L) w := hp
                  refine s_nil ?_
                  refine k_region ?_
                  obtain ⟨x9, ex9, hl1⟩ := bnd hl1
                  refine s_val (wk0 rfl) rfl rfl hE hp (v := (.int .i64 x9)) (ex_add rfl hE rfl rfl (inK_some ex9)) ?_
                  intro a hE
                  refine s_val (wk0 rfl) rfl rfl hE hp (v := (.int .i64 x9)) (ex_move rfl hE rfl) ?_
                  intro a hE
                  refine s_nil ?_
                  exact ⟨_, (Option.some.inj hl1).symm, hE.cut ⟨rfl, rfl, rfl, rfl, rfl, rfl, rfl, rfl, rfl, trivial⟩, (hp.drop)⟩
                · replace hl1 := (ie hb6).symm.trans hl1
                  refine k_skip ?_
                  refine k_region ?_
                  obtain ⟨x10, ex10, hl1⟩ := bnd hl1
                  refine s_val (wk0 rfl) rfl rfl hE hp (v := (.int .i64 x10)) (ex_add rfl hE rfl rfl (inK_some ex10)) ?_
                  intro a hE
                  refine s_val (wk0 rfl) rfl rfl hE hp (v := (.int .i64 x10)) (ex_move rfl hE rfl) ?_
                  intro a hE
                  refine s_nil ?_
                  exact ⟨_, (Option.some.inj hl1).symm, hE.cut ⟨rfl, rfl, rfl, rfl, rfl, rfl, rfl, rfl, rfl, trivial⟩, (hp.drop)⟩
        · replace hl1 := (ie hb2).symm.trans hl1
          refine k_exit ?_
          refine ⟨_, (Option.some.inj hl1).symm, fun hbb => ?_⟩
          subst hbb
          exact ⟨hE.cut ⟨rfl, trivial⟩, hp⟩
    · rintro a w ⟨hE, hp⟩
      refine k_seq ?_
      refine k_region ?_
      refine s_val (wk0 rfl) rfl rfl hE hp (v := (.map (some b3))) (ex_move rfl hE rfl) ?_
      intro a hE
      refine s_val (wk0 rfl) rfl rfl hE hp (v := (.map (some b3))) (ex_asn rfl hE rfl) ?_
      intro a hE
      refine s_nil ?_
      refine k_ret ?_
      obtain rfl := Option.some.inj hm
      exact ret1 hE rfl rfl ⟨_, rfl, _, rfl, ((((((hp.get 3 rfl).drop).get 2 rfl).drop).get 1 rfl).drop)⟩
/- assessor/assessorlaw43.FingerprintGuarantee -/
set_option maxRecDepth 100000 in
set_option maxHeartbeats 4000000 in
theorem c_assessorlaw43_FingerprintGuarantee {Z : World} {ρ : PH} {L : List Atom} {w : World} (hT : Tabs ρ) (p0 : (List Int)) (vp0 : Value) (hp0 : RoSl ρ vp0 p0) (p1 : (List Int)) (vp1 : Value) (hp1 : RoSl ρ vp1 p1) (p2 : (List Int)) (vp2 : Value) (hp2 : RoSl ρ vp2 p2) (p3 : (List Int)) (vp3 : Value) (hp3 : RoSl ρ vp3 p3) (p4 : (List Int)) (vp4 : Value) (hp4 : RoSl ρ vp4 p4) (p5 : Int) (p6 : Int) (hp : Hp Z ρ (L) w) (r : Bool) (hm : m_assessorlaw43_FingerprintGuarantee p0 p1 p2 p3 p4 p5 p6 = some r) :
    Calls Tryd.prog 8 #[vp0, vp1, vp2, vp3, vp4, (.int .i64 p5), (.int .i64 p6)] w (Ret fun v w' => v = (.bool r) ∧ Hp Z ρ (L) w') := by
  refine enter (N := 83) Tryd.func8 rfl rfl [(0, vp0), (1, vp1), (2, vp2), (3, vp3), (4, vp4), (5, (.int .i64 p5)), (6, (.int .i64 p6))] rfl (argsIn_mem ⟨rfl, rfl, rfl, rfl, rfl, rfl, rfl, trivial⟩) fun a hE => ?_
  unfold m_assessorlaw43_FingerprintGuarantee at hm
  refine k_seq ?_
  refine k_region ?_
  refine s_box (wk0 rfl) rfl rfl hE hp rfl (v := vp0) rfl ?_
  intro a w b1 hE hp
  rw [RoSl.cells hp0] at hp
  have hp : Hp Z ρ (Pt b1 (.cells #[vp0] 25 (0, 0)) :: L) w := hp
  refine s_box (wk0 rfl) rfl rfl hE hp rfl (v := (.int .i64 p5)) rfl ?_
  intro a w b2 hE hp
  have hp : Hp Z ρ (Pt b2 (.cells #[(.int .i64 p5)] 3 (0, 0)) :: Pt b1 (.cells #[vp0] 25 (0, 0)) :: L) w := hp
  refine s_box (wk0 rfl) rfl rfl hE hp rfl (v := (.int .i64 p6)) rfl ?_
  intro a w b3 hE hp
  have hp : Hp Z ρ (Pt b3 (.cells #[(.int .i64 p6)] 3 (0, 0)) :: Pt b2 (.cells #[(.int .i64 p5)] 3 (0, 0)) :: Pt b1 (.cells #[vp0] 25 (0, 0)) :: L) w := hp
  refine s_val (wk0 rfl) rfl rfl hE hp (v := (.bool false)) (ex_asn rfl hE rfl) ?_
  intro a hE
  refine s_nil ?_
  refine k_seq ?_
  refine k_seq ?_
  refine k_region ?_
  obtain ⟨x1, ex1, hm⟩ := bnd hm
  refine s_call (wk0 rfl) rfl rfl hE rfl [] trivial ent10 (c_assessorlaw43_awake hT hp x1 ex1) Ret.ret ?_
  intro v a w hR hE
  obtain ⟨rfl, hp⟩ := Ret.of hR
  have hp : Hp Z ρ (Pt b3 (.cells #[(.int .i64 p6)] 3 (0, 0)) :: Pt b2 (.cells #[(.int .i64 p5)] 3 (0, 0)) :: Pt b1 (.cells #[vp0] 25 (0, 0)) :: L) w := hp
  refine s_val (wk0 rfl) rfl rfl hE hp (v := (.bool (!x1))) (ex_not rfl hE rfl) ?_
  intro a hE
  refine s_nil ?_
  refine k_if hE rfl (fun hb1 => ?_) (fun hb1 => ?_)
  · replace hm := (it hb1).symm.trans hm
    refine k_seq ?_
    refine k_region ?_
    refine s_val (wk0 rfl) rfl rfl hE hp (v := (.bool false)) (ex_asn rfl hE rfl) ?_
    intro a hE
    refine s_nil ?_
    refine k_ret ?_
    obtain rfl := Option.some.inj hm
    exact ret1 hE rfl rfl ⟨_, rfl, rfl, (((((hp.get 2 rfl).drop).get 1 rfl).drop).drop)⟩
  · replace hm := (ie hb1).symm.trans hm
    refine k_skip ?_
    refine k_seq ?_
    refine k_seq ?_
    refine k_region ?_
    refine s_val (wk0 rfl) rfl rfl hE hp (v := (.int .i64 p5)) (ex_load rfl hE rfl (fun w hw => run_ld1 varty3 (Hp.c 1 rfl 0 rfl w hw))) ?_
    intro a hE
    refine s_val (wk0 rfl) rfl rfl hE hp (v := (.bool (decide (p5 < 1)))) (ex_lss rfl hE rfl rfl) ?_
    intro a hE
    refine s_val (wk0 rfl) rfl rfl hE hp (v := (.bool (decide (p5 < 1)))) (ex_move rfl hE rfl) ?_
    intro a hE
    refine s_cut [_, _, _] (fun a w => Env 83 [(26, (.bool ((decide (p5 < 1)) || (decide (p6 < 1))))), (1, vp1), (2, vp2), (3, vp3), (4, vp4), (7, (.pointer (some ⟨b1, 0, none⟩))), (12, (.pointer (some ⟨b2, 0, none⟩))), (13, (.pointer (some ⟨b3, 0, none⟩)))] a ∧ Hp Z ρ (Pt b3 (.cells #[(.int .i64 p6)] 3 (0, 0)) :: Pt b2 (.cells #[(.int .i64 p5)] 3 (0, 0)) :: Pt b1 (.cells #[vp0] 25 (0, 0)) :: L) w) ?_ ?_
    · rcases Bool.eq_false_or_eq_true (decide (p5 < 1)) with hb2 | hb2
      ·
        refine s_skip (wk2 hE rfl rfl rfl hb2) rfl rfl hE ?_
        intro a hE
        refine s_skip (wk2 hE rfl rfl rfl hb2) rfl rfl hE ?_
        intro a hE
        refine s_val (wk0 rfl) rfl rfl hE hp (v := (.bool true)) (ex_pick1 rfl hE rfl hb2 rfl) ?_
        intro a hE
        have hE := hE.eqv (v' := (.bool ((decide (p5 < 1)) || (decide (p6 < 1))))) (by rw [hb2]; rfl)
        exact s_nil ⟨hE.cut ⟨rfl, rfl, rfl, rfl, rfl, rfl, rfl, rfl, trivial⟩, hp⟩
      ·
        refine s_val (wk1 hE rfl rfl rfl hb2) rfl rfl hE hp (v := (.int .i64 p6)) (ex_load rfl hE rfl (fun w hw => run_ld1 varty3 (Hp.c 0 rfl 0 rfl w hw))) ?_
        intro a hE
        refine s_val (wk1 hE rfl rfl rfl hb2) rfl rfl hE hp (v := (.bool (decide (p6 < 1)))) (ex_lss rfl hE rfl rfl) ?_
        intro a hE
        refine s_val (wk0 rfl) rfl rfl hE hp (v := (.bool (decide (p6 < 1)))) (ex_pick0 rfl hE rfl hb2 rfl) ?_
        intro a hE
        have hE := hE.eqv (v' := (.bool ((decide (p5 < 1)) || (decide (p6 < 1))))) (by rw [hb2]; rfl)
        exact s_nil ⟨hE.cut ⟨rfl, rfl, rfl, rfl, rfl, rfl, rfl, rfl, trivial⟩, hp⟩
    · rintro a w ⟨hE, hp⟩
      refine s_val (wk0 rfl) rfl rfl hE hp (v := (.bool ((decide (p5 < 1)) || (decide (p6 < 1))))) (ex_move rfl hE rfl) ?_
      intro a hE
      refine s_cut [_, _, _] (fun a w => Env 83 [(30, (.bool (((decide (p5 < 1)) || (decide (p6 < 1))) || (decide (64 < p5))))), (1, vp1), (2, vp2), (3, vp3), (4, vp4), (7, (.pointer (some ⟨b1, 0, none⟩))), (12, (.pointer (some ⟨b2, 0, none⟩))), (13, (.pointer (some ⟨b3, 0, none⟩)))] a ∧ Hp Z ρ (Pt b3 (.cells #[(.int .i64 p6)] 3 (0, 0)) :: Pt b2 (.cells #[(.int .i64 p5)] 3 (0, 0)) :: Pt b1 (.cells #[vp0] 25 (0, 0)) :: L) w) ?_ ?_
      · rcases Bool.eq_false_or_eq_true ((decide (p5 < 1)) || (decide (p6 < 1))) with hb3 | hb3
        ·
          refine s_skip (wk2 hE rfl rfl rfl hb3) rfl rfl hE ?_
          intro a hE
          refine s_skip (wk2 hE rfl rfl rfl hb3) rfl rfl hE ?_
          intro a hE
          refine s_val (wk0 rfl) rfl rfl hE hp (v := (.bool true)) (ex_pick1 rfl hE rfl hb3 rfl) ?_
          intro a hE
          have hE := hE.eqv (v' := (.bool (((decide (p5 < 1)) || (decide (p6 < 1))) || (decide (64 < p5))))) (by rw [hb3]; rfl)
          exact s_nil ⟨hE.cut ⟨rfl, rfl, rfl, rfl, rfl, rfl, rfl, rfl, trivial⟩, hp⟩
        ·
          refine s_val (wk1 hE rfl rfl rfl hb3) rfl rfl hE hp (v := (.int .i64 p5)) (ex_load rfl hE rfl (fun w hw => run_ld1 varty3 (Hp.c 1 rfl 0 rfl w hw))) ?_
          intro a hE
          refine s_val (wk1 hE rfl rfl rfl hb3) rfl rfl hE hp (v := (.bool (decide (64 < p5)))) (ex_gtr rfl hE rfl rfl) ?_
          intro a hE
          refine s_val (wk0 rfl) rfl rfl hE hp (v := (.bool (decide (64 < p5)))) (ex_pick0 rfl hE rfl hb3 rfl) ?_
          intro a hE
          have hE := hE.eqv (v' := (.bool (((decide (p5 < 1)) || (decide (p6 < 1))) || (decide (64 < p5))))) (by rw [hb3]; rfl)
          exact s_nil ⟨hE.cut ⟨rfl, rfl, rfl, rfl, rfl, rfl, rfl, rfl, trivial⟩, hp⟩
      · rintro a w ⟨hE, hp⟩
        refine s_val (wk0 rfl) rfl rfl hE hp (v := (.bool (((decide (p5 < 1)) || (decide (p6 < 1))) || (decide (64 < p5))))) (ex_move rfl hE rfl) ?_
        intro a hE
        refine s_cut [_, _, _] (fun a w => Env 83 [(34, (.bool ((((decide (p5 < 1)) || (decide (p6 < 1))) || (decide (64 < p5))) || (decide (64 < p6))))), (1, vp1), (2, vp2), (3, vp3), (4, vp4), (7, (.pointer (some ⟨b1, 0, none⟩))), (12, (.pointer (some ⟨b2, 0, none⟩))), (13, (.pointer (some ⟨b3, 0, none⟩)))] a ∧ Hp Z ρ (Pt b3 (.cells #[(.int .i64 p6)] 3 (0, 0)) :: Pt b2 (.cells #[(.int .i64 p5)] 3 (0, 0)) :: Pt b1 (.cells #[vp0] 25 (0, 0)) :: L) w) ?_ ?_
        · rcases Bool.eq_false_or_eq_true (((decide (p5 < 1)) || (decide (p6 < 1))) || (decide (64 < p5))) with hb4 | hb4
          ·
            refine s_skip (wk2 hE rfl rfl rfl hb4) rfl rfl hE ?_
            intro a hE
            refine s_skip (wk2 hE rfl rfl rfl hb4) rfl rfl hE ?_
            intro a hE
            refine s_val (wk0 rfl) rfl rfl hE hp (v := (.bool true)) (ex_pick1 rfl hE rfl hb4 rfl) ?_
            intro a hE
            have hE := hE.eqv (v' := (.bool ((((decide (p5 < 1)) || (decide (p6 < 1))) || (decide (64 < p5))) || (decide (64 < p6))))) (by rw [hb4]; rfl)
            exact s_nil ⟨hE.cut ⟨rfl, rfl, rfl, rfl, rfl, rfl, rfl, rfl, trivial⟩, hp⟩
          ·
            refine s_val (wk1 hE rfl rfl rfl hb4) rfl rfl hE hp (v := (.int .i64 p6)) (ex_load rfl hE rfl (fun w hw => run_ld1 varty3 (Hp.c 0 rfl 0 rfl w hw))) ?_
            intro a hE
            refine s_val (wk1 hE rfl rfl rfl hb4) rfl rfl hE hp (v := (.bool (decide (64 < p6)))) (ex_gtr rfl hE rfl rfl) ?_
            intro a hE
            refine s_val (wk0 rfl) rfl rfl hE hp (v := (.bool (decide (64 < p6)))) (ex_pick0 rfl hE rfl hb4 rfl) ?_
            intro a hE
            have hE := hE.eqv (v' := (.bool ((((decide (p5 < 1)) || (decide (p6 < 1))) || (decide (64 < p5))) || (decide (64 < p6))))) (by rw [hb4]; rfl)
            exact s_nil ⟨hE.cut ⟨rfl, rfl, rfl, rfl, rfl, rfl, rfl, rfl, trivial⟩, hp⟩
        · rintro a w ⟨hE, hp⟩
          refine s_val (wk0 rfl) rfl rfl hE hp (v := (.bool ((((decide (p5 < 1)) || (decide (p6 < 1))) || (decide (64 < p5))) || (decide (64 < p6))))) (ex_move rfl hE rfl) ?_
          intro a hE
          refine s_cut [_, _, _, _] (fun a w => Env 83 [(39, (.bool (((((decide (p5 < 1)) || (decide (p6 < 1))) || (decide (64 < p5))) || (decide (64 < p6))) || (decide (130 < (p0.length : Int)))))), (1, vp1), (2, vp2), (3, vp3), (4, vp4), (7, (.pointer (some ⟨b1, 0, none⟩))), (12, (.pointer (some ⟨b2, 0, none⟩))), (13, (.pointer (some ⟨b3, 0, none⟩)))] a ∧ Hp Z ρ (Pt b3 (.cells #[(.int .i64 p6)] 3 (0, 0)) :: Pt b2 (.cells #[(.int .i64 p5)] 3 (0, 0)) :: Pt b1 (.cells #[vp0] 25 (0, 0)) :: L) w) ?_ ?_
          · rcases Bool.eq_false_or_eq_true ((((decide (p5 < 1)) || (decide (p6 < 1))) || (decide (64 < p5))) || (decide (64 < p6))) with hb5 | hb5
            ·
              refine s_skip (wk2 hE rfl rfl rfl hb5) rfl rfl hE ?_
              intro a hE
              refine s_skip (wk2 hE rfl rfl rfl hb5) rfl rfl hE ?_
              intro a hE
              refine s_skip (wk2 hE rfl rfl rfl hb5) rfl rfl hE ?_
              intro a hE
              refine s_val (wk0 rfl) rfl rfl hE hp (v := (.bool true)) (ex_pick1 rfl hE rfl hb5 rfl) ?_
              intro a hE
              have hE := hE.eqv (v' := (.bool (((((decide (p5 < 1)) || (decide (p6 < 1))) || (decide (64 < p5))) || (decide (64 < p6))) || (decide (130 < (p0.length : Int)))))) (by rw [hb5]; rfl)
              exact s_nil ⟨hE.cut ⟨rfl, rfl, rfl, rfl, rfl, rfl, rfl, rfl, trivial⟩, hp⟩
            ·
              refine s_val (wk1 hE rfl rfl rfl hb5) rfl rfl hE hp (v := vp0) (ex_load rfl hE rfl (fun w hw => run_ld1 varty25 (Hp.c 2 rfl 0 rfl w hw))) ?_
              intro a hE
              refine s_val (wk1 hE rfl rfl rfl hb5) rfl rfl hE hp (v := (.int .i64 (p0.length : Int))) (ex_len rfl hE rfl (RoSl.len hp0 slty25)) ?_
              intro a hE
              refine s_val (wk1 hE rfl rfl rfl hb5) rfl rfl hE hp (v := (.bool (decide (130 < (p0.length : Int))))) (ex_gtr rfl hE rfl rfl) ?_
              intro a hE
              refine s_val (wk0 rfl) rfl rfl hE hp (v := (.bool (decide (130 < (p0.length : Int))))) (ex_pick0 rfl hE rfl hb5 rfl) ?_
              intro a hE
              have hE := hE.eqv (v' := (.bool (((((decide (p5 < 1)) || (decide (p6 < 1))) || (decide (64 < p5))) || (decide (64 < p6))) || (decide (130 < (p0.length : Int)))))) (by rw [hb5]; rfl)
              exact s_nil ⟨hE.cut ⟨rfl, rfl, rfl, rfl, rfl, rfl, rfl, rfl, trivial⟩, hp⟩
          · rintro a w ⟨hE, hp⟩
            refine s_val (wk0 rfl) rfl rfl hE hp (v := (.bool (((((decide (p5 < 1)) || (decide (p6 < 1))) || (decide (64 < p5))) || (decide (64 < p6))) || (decide (130 < (p0.length : Int)))))) (ex_move rfl hE rfl) ?_
            intro a hE
            obtain ⟨m1, hg1, hm⟩ := bnd hm
            refine s_cut [_, _, _, _, _, _, _, _] (fun a w => Env 83 [(48, (.bool m1)), (1, vp1), (2, vp2), (3, vp3), (4, vp4), (7, (.pointer (some ⟨b1, 0, none⟩))), (12, (.pointer (some ⟨b2, 0, none⟩))), (13, (.pointer (some ⟨b3, 0, none⟩)))] a ∧ Hp Z ρ (Pt b3 (.cells #[(.int .i64 p6)] 3 (0, 0)) :: Pt b2 (.cells #[(.int .i64 p5)] 3 (0, 0)) :: Pt b1 (.cells #[vp0] 25 (0, 0)) :: L) w) ?_ ?_
            · rcases Bool.eq_false_or_eq_true (((((decide (p5 < 1)) || (decide (p6 < 1))) || (decide (64 < p5))) || (decide (64 < p6))) || (decide (130 < (p0.length : Int)))) with hb6 | hb6
              ·
                replace hg1 := (it hb6).symm.trans hg1
                refine s_skip (wk2 hE rfl rfl rfl hb6) rfl rfl hE ?_
                intro a hE
                refine s_skip (wk2 hE rfl rfl rfl hb6) rfl rfl hE ?_
                intro a hE
                refine s_skip (wk2 hE rfl rfl rfl hb6) rfl rfl hE ?_
                intro a hE
                refine s_skip (wk2 hE rfl rfl rfl hb6) rfl rfl hE ?_
                intro a hE
                refine s_skip (wk2 hE rfl rfl rfl hb6) rfl rfl hE ?_
                intro a hE
                refine s_skip (wk2 hE rfl rfl rfl hb6) rfl rfl hE ?_
                intro a hE
                refine s_skip (wk2 hE rfl rfl rfl hb6) rfl rfl hE ?_
                intro a hE
                refine s_val (wk0 rfl) rfl rfl hE hp (v := (.bool true)) (ex_pick1 rfl hE rfl hb6 rfl) ?_
                intro a hE
                obtain rfl := Option.some.inj hg1
                exact s_nil ⟨hE.cut ⟨rfl, rfl, rfl, rfl, rfl, rfl, rfl, rfl, trivial⟩, hp⟩
              ·
                replace hg1 := (ie hb6).symm.trans hg1
                refine s_val (wk1 hE rfl rfl rfl hb6) rfl rfl hE hp (v := vp0) (ex_load rfl hE rfl (fun w hw => run_ld1 varty25 (Hp.c 2 rfl 0 rfl w hw))) ?_
                intro a hE
                refine s_val (wk1 hE rfl rfl rfl hb6) rfl rfl hE hp (v := (.int .i64 (p0.length : Int))) (ex_len rfl hE rfl (RoSl.len hp0 slty25)) ?_
                intro a hE
                refine s_val (wk1 hE rfl rfl rfl hb6) rfl rfl hE hp (v := (.int .i64 p6)) (ex_load rfl hE rfl (fun w hw => run_ld1 varty3 (Hp.c 0 rfl 0 rfl w hw))) ?_
                intro a hE
                refine s_val (wk1 hE rfl rfl rfl hb6) rfl rfl hE hp (v := (.int .i64 p5)) (ex_load rfl hE rfl (fun w hw => run_ld1 varty3 (Hp.c 1 rfl 0 rfl w hw))) ?_
                intro a hE
                obtain ⟨x2, ex2, hg1⟩ := bnd hg1
                refine s_val (wk1 hE rfl rfl rfl hb6) rfl rfl hE hp (v := (.int .i64 x2)) (ex_add rfl hE rfl rfl (inK_some ex2)) ?_
                intro a hE
                obtain ⟨x3, ex3, hg1⟩ := bnd hg1
                refine s_val (wk1 hE rfl rfl rfl hb6) rfl rfl hE hp (v := (.int .i64 x3)) (ex_sub rfl hE rfl rfl (inK_some ex3)) ?_
                intro a hE
                refine s_val (wk1 hE rfl rfl rfl hb6) rfl rfl hE hp (v := (.bool (decide ((p0.length : Int) < x3)))) (ex_lss rfl hE rfl rfl) ?_
                intro a hE
                refine s_val (wk0 rfl) rfl rfl hE hp (v := (.bool (decide ((p0.length : Int) < x3)))) (ex_pick0 rfl hE rfl hb6 rfl) ?_
                intro a hE
                obtain rfl := Option.some.inj hg1
                exact s_nil ⟨hE.cut ⟨rfl, rfl, rfl, rfl, rfl, rfl, rfl, rfl, trivial⟩, hp⟩
            · rintro a w ⟨hE, hp⟩
              refine s_val (wk0 rfl) rfl rfl hE hp (v := (.bool m1)) (ex_move rfl hE rfl) ?_
              intro a hE
              obtain ⟨m2, hg2, hm⟩ := bnd hm
              refine s_cut [_, _, _, _, _, _, _] (fun a w => Env 83 [(56, (.bool m2)), (1, vp1), (2, vp2), (3, vp3), (4, vp4), (7, (.pointer (some ⟨b1, 0, none⟩))), (12, (.pointer (some ⟨b2, 0, none⟩))), (13, (.pointer (some ⟨b3, 0, none⟩)))] a ∧ Hp Z ρ (Pt b3 (.cells #[(.int .i64 p6)] 3 (0, 0)) :: Pt b2 (.cells #[(.int .i64 p5)] 3 (0, 0)) :: Pt b1 (.cells #[vp0] 25 (0, 0)) :: L) w) ?_ ?_
              · rcases Bool.eq_false_or_eq_true m1 with hb7 | hb7
                ·
                  replace hg2 := (it hb7).symm.trans hg2
                  refine s_skip (wk2 hE rfl rfl rfl hb7) rfl rfl hE ?_
                  intro a hE
                  refine s_skip (wk2 hE rfl rfl rfl hb7) rfl rfl hE ?_
                  intro a hE
                  refine s_skip (wk2 hE rfl rfl rfl hb7) rfl rfl hE ?_
                  intro a hE
                  refine s_skip (wk2 hE rfl rfl rfl hb7) rfl rfl hE ?_
                  intro a hE
                  refine s_skip (wk2 hE rfl rfl rfl hb7) rfl rfl hE ?_
                  intro a hE
                  refine s_skip (wk2 hE rfl rfl rfl hb7) rfl rfl hE ?_
                  intro a hE
                  refine s_val (wk0 rfl) rfl rfl hE hp (v := (.bool true)) (ex_pick1 rfl hE rfl hb7 rfl) ?_
                  intro a hE
                  obtain rfl := Option.some.inj hg2
                  exact s_nil ⟨hE.cut ⟨rfl, rfl, rfl, rfl, rfl, rfl, rfl, rfl, trivial⟩, hp⟩
                ·
                  replace hg2 := (ie hb7).symm.trans hg2
                  refine s_val (wk1 hE rfl rfl rfl hb7) rfl rfl hE hp (v := vp1) (ex_move rfl hE rfl) ?_
                  intro a hE
                  refine s_val (wk1 hE rfl rfl rfl hb7) rfl rfl hE hp (v := (.int .i64 (p1.length : Int))) (ex_len rfl hE rfl (RoSl.len hp1 slty25)) ?_
                  intro a hE
                  refine s_val (wk1 hE rfl rfl rfl hb7) rfl rfl hE hp (v := vp2) (ex_move rfl hE rfl) ?_
                  intro a hE
                  refine s_val (wk1 hE rfl rfl rfl hb7) rfl rfl hE hp (v := (.int .i64 (p2.length : Int))) (ex_len rfl hE rfl (RoSl.len hp2 slty25)) ?_
                  intro a hE
                  obtain ⟨x4, ex4, hg2⟩ := bnd hg2
                  refine s_val (wk1 hE rfl rfl rfl hb7) rfl rfl hE hp (v := (.int .i64 x4)) (ex_add rfl hE rfl rfl (inK_some ex4)) ?_
                  intro a hE
                  refine s_val (wk1 hE rfl rfl rfl hb7) rfl rfl hE hp (v := (.bool (decide (60 < x4)))) (ex_gtr rfl hE rfl rfl) ?_
                  intro a hE
                  refine s_val (wk0 rfl) rfl rfl hE hp (v := (.bool (decide (60 < x4)))) (ex_pick0 rfl hE rfl hb7 rfl) ?_
                  intro a hE
                  obtain rfl := Option.some.inj hg2
                  exact s_nil ⟨hE.cut ⟨rfl, rfl, rfl, rfl, rfl, rfl, rfl, rfl, trivial⟩, hp⟩
              · rintro a w ⟨hE, hp⟩
                refine s_val (wk0 rfl) rfl rfl hE hp (v := (.bool m2)) (ex_move rfl hE rfl) ?_
                intro a hE
                obtain ⟨m3, hg3, hm⟩ := bnd hm
                refine s_cut [_, _, _, _, _, _, _] (fun a w => Env 83 [(64, (.bool m3)), (1, vp1), (2, vp2), (3, vp3), (4, vp4), (7, (.pointer (some ⟨b1, 0, none⟩))), (12, (.pointer (some ⟨b2, 0, none⟩))), (13, (.pointer (some ⟨b3, 0, none⟩)))] a ∧ Hp Z ρ (Pt b3 (.cells #[(.int .i64 p6)] 3 (0, 0)) :: Pt b2 (.cells #[(.int .i64 p5)] 3 (0, 0)) :: Pt b1 (.cells #[vp0] 25 (0, 0)) :: L) w) ?_ ?_
                · rcases Bool.eq_false_or_eq_true m2 with hb8 | hb8
                  ·
                    replace hg3 := (it hb8).symm.trans hg3
                    refine s_skip (wk2 hE rfl rfl rfl hb8) rfl rfl hE ?_
                    intro a hE
                    refine s_skip (wk2 hE rfl rfl rfl hb8) rfl rfl hE ?_
                    intro a hE
                    refine s_skip (wk2 hE rfl rfl rfl hb8) rfl rfl hE ?_
                    intro a hE
                    refine s_skip (wk2 hE rfl rfl rfl hb8) rfl rfl hE ?_
                    intro a hE
                    refine s_skip (wk2 hE rfl rfl rfl hb8) rfl rfl hE ?_
                    intro a hE
                    refine s_skip (wk2 hE rfl rfl rfl hb8) rfl rfl hE ?_
                    intro a hE
                    refine s_val (wk0 rfl) rfl rfl hE hp (v := (.bool true)) (ex_pick1 rfl hE rfl hb8 rfl) ?_
                    intro a hE
                    obtain rfl := Option.some.inj hg3
                    exact s_nil ⟨hE.cut ⟨rfl, rfl, rfl, rfl, rfl, rfl, rfl, rfl, trivial⟩, hp⟩
                  ·
                    replace hg3 := (ie hb8).symm.trans hg3
                    refine s_val (wk1 hE rfl rfl rfl hb8) rfl rfl hE hp (v := vp3) (ex_move rfl hE rfl) ?_
                    intro a hE
                    refine s_val (wk1 hE rfl rfl rfl hb8) rfl rfl hE hp (v := (.int .i64 (p3.length : Int))) (ex_len rfl hE rfl (RoSl.len hp3 slty25)) ?_
                    intro a hE
                    refine s_val (wk1 hE rfl rfl rfl hb8) rfl rfl hE hp (v := vp4) (ex_move rfl hE rfl) ?_
                    intro a hE
                    refine s_val (wk1 hE rfl rfl rfl hb8) rfl rfl hE hp (v := (.int .i64 (p4.length : Int))) (ex_len rfl hE rfl (RoSl.len hp4 slty25)) ?_
                    intro a hE
                    obtain ⟨x5, ex5, hg3⟩ := bnd hg3
                    refine s_val (wk1 hE rfl rfl rfl hb8) rfl rfl hE hp (v := (.int .i64 x5)) (ex_add rfl hE rfl rfl (inK_some ex5)) ?_
                    intro a hE
                    refine s_val (wk1 hE rfl rfl rfl hb8) rfl rfl hE hp (v := (.bool (decide (60 < x5)))) (ex_gtr rfl hE rfl rfl) ?_
                    intro a hE
                    refine s_val (wk0 rfl) rfl rfl hE hp (v := (.bool (decide (60 < x5)))) (ex_pick0 rfl hE rfl hb8 rfl) ?_
                    intro a hE
                    obtain rfl := Option.some.inj hg3
                    exact s_nil ⟨hE.cut ⟨rfl, rfl, rfl, rfl, rfl, rfl, rfl, rfl, trivial⟩, hp⟩
                · rintro a w ⟨hE, hp⟩
                  refine s_nil ?_
                  refine k_if hE rfl (fun hb9 => ?_) (fun hb9 => ?_)
                  · replace hm := (it hb9).symm.trans hm
                    refine k_seq ?_
                    refine k_region ?_
                    refine s_val (wk0 rfl) rfl rfl hE hp (v := (.bool true)) (ex_asn rfl hE rfl) ?_
                    intro a hE
                    refine s_nil ?_
                    refine k_ret ?_
                    obtain rfl := Option.some.inj hm
                    exact ret1 hE rfl rfl ⟨_, rfl, rfl, (((((hp.get 2 rfl).drop).get 1 rfl).drop).drop)⟩
                  · replace hm := (ie hb9).symm.trans hm
                    refine k_skip ?_
                    refine k_seq ?_
                    refine k_region ?_
                    refine s_val (wk0 rfl) rfl rfl hE hp (v := (.func (.func 28) #[] #[(.pointer (some ⟨b1, 0, none⟩)), (.pointer (some ⟨b2, 0, none⟩)), (.pointer (some ⟨b3, 0, none⟩))])) (ex_fn rfl hE [(.pointer (some ⟨b1, 0, none⟩)), (.pointer (some ⟨b2, 0, none⟩)), (.pointer (some ⟨b3, 0, none⟩))] (by exact ⟨rfl, rfl, rfl, trivial⟩)) ?_
                    intro a hE
                    refine s_val (wk0 rfl) rfl rfl hE hp (v := (.func (.func 28) #[] #[(.pointer (some ⟨b1, 0, none⟩)), (.pointer (some ⟨b2, 0, none⟩)), (.pointer (some ⟨b3, 0, none⟩))])) (ex_asn rfl hE rfl) ?_
                    intro a hE
                    refine s_nil ?_
                    refine k_seq ?_
                    refine k_region ?_
                    refine s_val (wk0 rfl) rfl rfl hE hp (v := (.func (.func 28) #[] #[(.pointer (some ⟨b1, 0, none⟩)), (.pointer (some ⟨b2, 0, none⟩)), (.pointer (some ⟨b3, 0, none⟩))])) (ex_move rfl hE rfl) ?_
                    intro a hE
                    refine s_val (wk0 rfl) rfl rfl hE hp (v := vp1) (ex_move rfl hE rfl) ?_
                    intro a hE
                    refine s_val (wk0 rfl) rfl rfl hE hp (v := vp2) (ex_move rfl hE rfl) ?_
                    intro a hE
                    obtain ⟨x6, ex6, hm⟩ := bnd hm
                    refine s_callv (wk0 rfl) rfl rfl hE rfl rfl [vp1, vp2] ⟨rfl, rfl, trivial⟩ ent28 (c_assessorlaw43_FingerprintGuarantee_1 hT p1 vp1 hp1 p2 vp2 hp2 b1 p0 vp0 hp0 b2 p5 b3 p6 (((hp.get 0 rfl).get 1 rfl).get 2 rfl) x6 ex6) Ret.ret ?_
                    intro v a w hR hE
                    obtain ⟨b4, rfl, hp⟩ := Ret.of hR
                    have hp : Hp Z ρ (MapA b4 (x6 : List (Mark × Bool)) :: Pt b1 (.cells #[vp0] 25 (0, 0)) :: Pt b2 (.cells #[(.int .i64 p5)] 3 (0, 0)) :: Pt b3 (.cells #[(.int .i64 p6)] 3 (0, 0)) :: L) w := hp
                    refine s_val (wk0 rfl) rfl rfl hE hp (v := (.func (.func 28) #[] #[(.pointer (some ⟨b1, 0, none⟩)), (.pointer (some ⟨b2, 0, none⟩)), (.pointer (some ⟨b3, 0, none⟩))])) (ex_move rfl hE rfl) ?_
                    intro a hE
                    refine s_val (wk0 rfl) rfl rfl hE hp (v := vp3) (ex_move rfl hE rfl) ?_
                    intro a hE
                    refine s_val (wk0 rfl) rfl rfl hE hp (v := vp4) (ex_move rfl hE rfl) ?_
                    intro a hE
                    obtain ⟨x7, ex7, hm⟩ := bnd hm
                    refine s_callv (wk0 rfl) rfl rfl hE rfl rfl [vp3, vp4] ⟨rfl, rfl, trivial⟩ ent28 (c_assessorlaw43_FingerprintGuarantee_1 hT p3 vp3 hp3 p4 vp4 hp4 b1 p0 vp0 hp0 b2 p5 b3 p6 (((hp.get 3 rfl).get 3 rfl).get 3 rfl) x7 ex7) Ret.ret ?_
                    intro v a w hR hE
                    obtain ⟨b5, rfl, hp⟩ := Ret.of hR
                    have hp : Hp Z ρ (MapA b5 (x7 : List (Mark × Bool)) :: Pt b1 (.cells #[vp0] 25 (0, 0)) :: Pt b2 (.cells #[(.int .i64 p5)] 3 (0, 0)) :: Pt b3 (.cells #[(.int .i64 p6)] 3 (0, 0)) :: MapA b4 (x6 : List (Mark × Bool)) :: L) w := hp
                    refine s_val (wk0 rfl) rfl rfl hE hp (v := (.map (some b4))) (ex_asn rfl hE rfl) ?_
                    intro a hE
                    refine s_val (wk0 rfl) rfl rfl hE hp (v := (.map (some b5))) (ex_asn rfl hE rfl) ?_
                    intro a hE
                    refine s_nil ?_
                    refine k_seq ?_
                    refine k_seq ?_
                    refine k_region ?_
                    refine s_val (wk0 rfl) rfl rfl hE hp (v := (.map (some b4))) (ex_move rfl hE rfl) ?_
                    intro a hE
                    refine s_range mapty49 (wk0 rfl) rfl rfl hE (hp.get 4 rfl) rfl rfl ?_
                    intro a w b6 hE hp
                    have hp : Hp Z ρ (MapIt b4 b6 (x6 : List (Mark × Bool)) x6 none :: MapA b5 (x7 : List (Mark × Bool)) :: Pt b1 (.cells #[vp0] 25 (0, 0)) :: Pt b2 (.cells #[(.int .i64 p5)] 3 (0, 0)) :: Pt b3 (.cells #[(.int .i64 p6)] 3 (0, 0)) :: L) w := hp
                    refine s_nil ?_
                    obtain ⟨b7, hb10, hm⟩ := bnd hm
                    refine k_block (fun a w => ∃ s : Unit, b7 = .brk s ∧ (Env 83 [] a ∧ Hp Z ρ (MapA b4 (x6 : List (Mark × Bool)) :: MapA b5 (x7 : List (Mark × Bool)) :: Pt b1 (.cells #[vp0] 25 (0, 0)) :: Pt b2 (.cells #[(.int .i64 p5)] 3 (0, 0)) :: Pt b3 (.cells #[(.int .i64 p6)] 3 (0, 0)) :: L) w)) ?_ ?_
                    · refine k_loopP hb10 (fun rem1 s a w => Env 83 [(17, (.map (some b5))), (75, (.pointer (some ⟨b6, 0, none⟩)))] a ∧ Hp Z ρ (MapIt b4 b6 (x6 : List (Mark × Bool)) rem1 none :: MapA b5 (x7 : List (Mark × Bool)) :: Pt b1 (.cells #[vp0] 25 (0, 0)) :: Pt b2 (.cells #[(.int .i64 p5)] 3 (0, 0)) :: Pt b3 (.cells #[(.int .i64 p6)] 3 (0, 0)) :: L) w) ?_ ?_
                      · exact ⟨hE.cut ⟨rfl, rfl, trivial⟩, hp⟩
                      · rintro rem1 _ a w ⟨hE, hp⟩ hf1
                        have hE : Env 83 [(17, (.map (some b5))), (75, (.pointer (some ⟨b6, 0, none⟩)))] a := hE
                        have hp : Hp Z ρ (MapIt b4 b6 (x6 : List (Mark × Bool)) rem1 none :: MapA b5 (x7 : List (Mark × Bool)) :: Pt b1 (.cells #[vp0] 25 (0, 0)) :: Pt b2 (.cells #[(.int .i64 p5)] 3 (0, 0)) :: Pt b3 (.cells #[(.int .i64 p6)] 3 (0, 0)) :: L) w := hp
                        refine k_seq ?_
                        refine k_region ?_
                        refine s_next (wk0 rfl) rfl rfl hE (hp.get 0 rfl) rfl rfl ?_ ?_
                        · intro hrem a hE
                          subst hrem
                          have hn1 := foldP_end hf1
                          try dsimp only at hn1
                          refine s_val (wk0 rfl) rfl rfl hE hp (v := (.bool false)) (ex_extract rfl hE rfl rfl) ?_
                          intro a hE
                          refine s_nil ?_
                          refine k_seq ?_
                          refine k_if hE rfl (fun hb => absurd hb (by decide)) (fun hb => ?_)
                          refine k_exit ?_
                          obtain rfl := Option.some.inj hn1
                          have hp := MapIt.done (hp.get 0 rfl)
                          exact ⟨_, rfl, hE.cut trivial, hp⟩
                        · intro en1 rem1' hperm hl1l a w hE hp
                          have hE := hE.eqv (v' := (.tuple #[(.bool true), (.agg #[(.int .i64 en1.1.hash), (.int .i64 en1.1.at_)]), (.bool en1.2)])) rfl
                          have hp : Hp Z ρ (MapIt b4 b6 (x6 : List (Mark × Bool)) rem1' (some en1) :: MapA b5 (x7 : List (Mark × Bool)) :: Pt b1 (.cells #[vp0] 25 (0, 0)) :: Pt b2 (.cells #[(.int .i64 p5)] 3 (0, 0)) :: Pt b3 (.cells #[(.int .i64 p6)] 3 (0, 0)) :: L) w := hp
                          obtain ⟨st, hl1, hl1s⟩ := foldP_more hf1 hperm
                          replace hl1 : m_assessorlaw43_FingerprintGuarantee_lp1 x7 en1  = some st := hl1
                          unfold m_assessorlaw43_FingerprintGuarantee_lp1 at hl1
                          refine s_val (wk0 rfl) rfl rfl hE hp (v := (.bool true)) (ex_extract rfl hE rfl rfl) ?_
                          intro a hE
                          refine s_nil ?_
                          refine k_seq ?_
                          refine k_if hE rfl (fun hb => ?_) (fun hb => absurd hb (by decide))
                          refine k_skip ?_
                          refine k_plain ?_
                          refine k_seq ?_
                          refine k_region ?_
                          refine s_val (wk0 rfl) rfl rfl hE hp (v := (.tuple #[(.agg #[(.int .i64 en1.1.hash), (.int .i64 en1.1.at_)]), (.bool en1.2)])) (ex_entry (c := en1) rfl hE 0 rfl rfl) ?_
                          intro a hE
                          refine s_val (wk0 rfl) rfl rfl hE hp (v := (.agg #[(.int .i64 en1.1.hash), (.int .i64 en1.1.at_)])) (ex_extract rfl hE rfl rfl) ?_
                          intro a hE
                          refine s_new (wk0 rfl) rfl rfl hE hp rfl [(.int .i64 0), (.int .i64 0)] (fun w => by simp [Instr.alloc, go_sem] <;> rfl) ?_
                          intro a w b8 hE hp
                          have hp : Hp Z ρ (Pt b8 (.cells #[(.int .i64 0), (.int .i64 0)] 48 (0, 0)) :: MapIt b4 b6 (x6 : List (Mark × Bool)) rem1' (some en1) :: MapA b5 (x7 : List (Mark × Bool)) :: Pt b1 (.cells #[vp0] 25 (0, 0)) :: Pt b2 (.cells #[(.int .i64 p5)] 3 (0, 0)) :: Pt b3 (.cells #[(.int .i64 p6)] 3 (0, 0)) :: L) w := hp
                          refine s_store (wk0 rfl) rfl hE hp rfl rfl rfl 0 rfl varty48.size_ rfl (allOne_mem ⟨rfl, rfl, trivial⟩) [(.int .i64 en1.1.hash), (.int .i64 en1.1.at_)] rfl ?_
                          intro w hp
                          have hp : Hp Z ρ (Pt b8 (.cells #[(.int .i64 en1.1.hash), (.int .i64 en1.1.at_)] 48 (0, 0)) :: MapIt b4 b6 (x6 : List (Mark × Bool)) rem1' (some en1) :: MapA b5 (x7 : List (Mark × Bool)) :: Pt b1 (.cells #[vp0] 25 (0, 0)) :: Pt b2 (.cells #[(.int .i64 p5)] 3 (0, 0)) :: Pt b3 (.cells #[(.int .i64 p6)] 3 (0, 0)) :: L) w := hp
                          refine s_nil ?_
                          refine k_seq ?_
                          refine k_region ?_
                          refine s_val (wk0 rfl) rfl rfl hE hp (v := (.map (some b5))) (ex_move rfl hE rfl) ?_
                          intro a hE
                          refine s_val (wk0 rfl) rfl rfl hE hp (v := (.agg #[(.int .i64 en1.1.hash), (.int .i64 en1.1.at_)])) (ex_load rfl hE rfl (fun w hw => run_ldN (cs := [(.int .i64 en1.1.hash), (.int .i64 en1.1.at_)]) varty48 (Hp.cN 0 rfl 0 _ (sub_all rfl) w hw))) ?_
                          intro a hE
                          refine s_val (wk0 rfl) rfl rfl hE hp (v := (.bool ((mget (x7 : List (Mark × Bool)) en1.1).getD false))) (ex_mget0 (zd := false) kt48 mapty49 zero4 rfl hE 2 (k := en1.1) rfl rfl rfl) ?_
                          intro a hE
                          refine s_nil ?_
                          refine k_if hE rfl (fun hb11 => ?_) (fun hb11 => ?_)
                          · replace hl1 := (it hb11).symm.trans hl1
                            refine k_seq ?_
                            refine k_region ?_
                            refine s_val (wk0 rfl) rfl rfl hE hp (v := (.bool true)) (ex_asn rfl hE rfl) ?_
                            intro a hE
                            refine s_nil ?_
                            refine k_ret ?_
                            obtain rfl := Option.some.inj hl1
                            obtain rfl : _ = b7 := hl1s
                            obtain rfl := Option.some.inj hm
                            exact ret1 hE rfl rfl ⟨_, rfl, rfl, (((((((((((hp.get 5 rfl).drop).get 4 rfl).drop).get 3 rfl).drop).get 2 rfl).drop).get 1 rfl).drop).drop)⟩
                          · replace hl1 := (ie hb11).symm.trans hl1
                            refine k_skip ?_
                            obtain rfl := Option.some.inj hl1
                            have hp := MapIt.forget (hp.get 1 rfl)
                            exact ⟨_, _, hl1l, hl1s, hE.cut ⟨rfl, rfl, trivial⟩, ((hp.get 1 rfl).drop)⟩
                    · rintro a w ⟨b7s, rfl, hE, hp⟩
                      dsimp only at hm
                      refine k_seq ?_
                      refine k_region ?_
                      refine s_val (wk0 rfl) rfl rfl hE hp (v := (.bool false)) (ex_asn rfl hE rfl) ?_
                      intro a hE
                      refine s_nil ?_
                      refine k_ret ?_
                      obtain rfl := Option.some.inj hm
                      exact ret1 hE rfl rfl ⟨_, rfl, rfl, (((((((((hp.get 4 rfl).drop).get 3 rfl).drop).get 2 rfl).drop).get 1 rfl).drop).drop)⟩
end Go.Proofs.YtlnhijgieblmgaaDoor
