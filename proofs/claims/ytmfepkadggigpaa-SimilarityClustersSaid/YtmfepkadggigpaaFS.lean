/-
  The code goes as its model: assessor/similarity.set, assessor/similarity.Hashes, assessor/similarity.Compare, slices.Clone[[]assessor/api.Mark,assessor/api.Mark], slices.Index[[]int,int], slices.Contains[[]int,int], assessor/similarity.Without$1, slices.IndexFunc[[]assessor/api.Mark,assessor/api.Mark]@assessor/similarity.Without$1, slices.DeleteFunc[[]assessor/api.Mark,assessor/api.Mark]@assessor/similarity.Without$1, assessor/similarity.Without, assessor/similarity.Frequent, assessor/similarity.Pairs. (Printed by wip/sp/gen.py.)
-/
import Derived.Test.YtmfepkadggigpaaFM
import Derived.Test.YtmfepkadggigpaaFct
import Derived.Test.YtmfepkadggigpaaLibM
set_option linter.unusedVariables false
set_option linter.unusedSimpArgs false
namespace Go.Proofs.Ytmfepkadggigpaa
open Go.RowKit

/- assessor/similarity.set -/
set_option maxRecDepth 100000 in
set_option maxHeartbeats 4000000 in
theorem c_similarity_set {Z : World} {ρ : PH} {L : List Atom} {w : World} (p0 : (List Mark)) (vp0 : Value) (hp0 : RoSl ρ vp0 p0) (hp : Hp Z ρ (L) w) (r : (List (Int × Bool))) (hm : m_similarity_set p0 = some r) :
    Calls Try.prog 34 #[vp0] w (Ret fun v w' => ∃ (br1 : Nat), v = (.map (some br1)) ∧ Hp Z ρ (MapA br1 (r : List (Int × Bool)) :: L) w') := by
  refine enter (N := 18) Try.func34 rfl rfl [(0, vp0)] rfl (argsIn_mem ⟨rfl, trivial⟩) fun a hE => ?_
  unfold m_similarity_set at hm
  refine k_seq ?_
  refine k_region ?_
  refine s_val (wk0 rfl) rfl rfl hE hp (v := (.map none)) (ex_asn rfl hE rfl) ?_
  intro a hE
  refine s_nil ?_
  refine k_seq ?_
  refine k_region ?_
  refine s_mkmap (κ := Int) (β := Bool) (wk0 rfl) rfl rfl hE hp rfl ?_
  intro a w b1 hE hp
  have hp : Hp Z ρ (MapA b1 ([] : List (Int × Bool)) :: L) w := hp
  refine s_val (wk0 rfl) rfl rfl hE hp (v := (.map (some b1))) (ex_asn rfl hE rfl) ?_
  intro a hE
  refine s_nil ?_
  refine k_seq ?_
  refine k_seq ?_
  refine k_region ?_
  refine s_val (wk0 rfl) rfl rfl hE hp (v := vp0) (ex_move rfl hE rfl) ?_
  intro a hE
  refine s_val (wk0 rfl) rfl rfl hE hp (v := (.int .i64 (p0.length : Int))) (ex_len rfl hE rfl (RoSl.len hp0 slty26)) ?_
  intro a hE
  refine s_val (wk0 rfl) rfl rfl hE hp (v := (.int .i64 0)) (ex_move rfl hE rfl) ?_
  intro a hE
  refine s_nil ?_
  obtain ⟨b2, hb1, hm⟩ := bnd hm
  refine k_block (fun a w => Env 18 [(3, (.map (some b1)))] a ∧ Hp Z ρ (MapA b1 (b2 : List (Int × Bool)) :: L) w) ?_ ?_
  · refine k_loop hb1 (fun s a w => Env 18 [(3, (.map (some b1))), (7, vp0), (8, (.int .i64 (p0.length : Int))), (9, (.int .i64 s.1))] a ∧ Hp Z ρ (MapA b1 (s.2 : List (Int × Bool)) :: L) w) ?_ ?_
    · exact ⟨hE.cut ⟨rfl, rfl, rfl, rfl, trivial⟩, hp⟩
    · rintro ⟨lp1_0, lp1_1⟩ st a w ⟨hE, hp⟩ hl1
      have hE : Env 18 [(3, (.map (some b1))), (7, vp0), (8, (.int .i64 (p0.length : Int))), (9, (.int .i64 lp1_0))] a := hE
      have hp : Hp Z ρ (MapA b1 (lp1_1 : List (Int × Bool)) :: L) w := hp
      replace hl1 : m_similarity_set_lp1 p0 lp1_0 lp1_1 = some st := hl1
      unfold m_similarity_set_lp1 at hl1
      refine k_seq ?_
      refine k_region ?_
      refine s_val (wk0 rfl) rfl rfl hE hp (v := (.bool (decide (lp1_0 < (p0.length : Int))))) (ex_lss rfl hE rfl rfl) ?_
      intro a hE
      refine s_nil ?_
      refine k_seq ?_
      refine k_if hE rfl (fun hb2 => ?_) (fun hb2 => ?_)
      · replace hl1 := (it hb2).symm.trans hl1
        refine k_skip ?_
        refine k_seq ?_
        refine k_plain ?_
        refine k_seq ?_
        refine k_region ?_
        obtain ⟨x1, ex1, hl1⟩ := bnd hl1
        obtain ⟨b3, b3o, b3c, b3r, b3k, b3f⟩ := RoSl.at hp0 slty26 ex1
        obtain rfl : b3c = Enc.enc x1 := b3k
        have b3f : AtP ρ b3 b3o [(.int .i64 x1.hash), (.int .i64 x1.at_)] := b3f
        refine s_val (wk0 rfl) rfl rfl hE hp (v := (.pointer (some ⟨b3, b3o, none⟩))) (ex_index rfl hE rfl rfl b3r) ?_
        intro a hE
        refine s_val (wk0 rfl) rfl rfl hE hp (v := (.agg #[(.int .i64 x1.hash), (.int .i64 x1.at_)])) (ex_load rfl hE rfl (fun w hw => run_ldN (cs := [(.int .i64 x1.hash), (.int .i64 x1.at_)]) varty65 (fun j u hj => cell_of hw.le (b3f j u hj)))) ?_
        intro a hE
        refine s_new (wk0 rfl) rfl rfl hE hp rfl [(.int .i64 0), (.int .i64 0)] (fun w => by simp [Instr.alloc, go_sem] <;> rfl) ?_
        intro a w b4 hE hp
        have hp : Hp Z ρ (Pt b4 (.cells #[(.int .i64 0), (.int .i64 0)] 65 (0, 0)) :: _ :: L) w := hp
        refine s_store (wk0 rfl) rfl hE hp rfl rfl rfl 0 rfl varty65.size_ rfl (allOne_mem ⟨rfl, rfl, trivial⟩) [(.int .i64 x1.hash), (.int .i64 x1.at_)] rfl ?_
        intro w hp
        have hp : Hp Z ρ (Pt b4 (.cells #[(.int .i64 x1.hash), (.int .i64 x1.at_)] 65 (0, 0)) :: _ :: L) w := hp
        refine s_nil ?_
        refine k_region ?_
        refine s_val (wk0 rfl) rfl rfl hE hp (v := (.map (some b1))) (ex_move rfl hE rfl) ?_
        intro a hE
        refine s_val (wk0 rfl) rfl rfl hE hp (v := (.pointer (some ⟨b4, 0, none⟩))) (ex_field rfl hE rfl (fldty65_0 _ _)) ?_
        intro a hE
        refine s_val (wk0 rfl) rfl rfl hE hp (v := (.int .i64 x1.hash)) (ex_load rfl hE rfl (fun w hw => run_ld1 varty3 (Hp.c 0 rfl 0 rfl w hw))) ?_
        intro a hE
        refine s_mput kt3 mapty70 (wk0 rfl) rfl hE hp rfl 1 (k := x1.hash) (v := true) rfl rfl rfl rfl ?_
        intro w hp
        have hp : Hp Z ρ (_ :: MapA b1 (mput lp1_1 x1.hash true : List (Int × Bool)) :: L) w := hp
        refine s_nil ?_
        refine k_region ?_
        obtain ⟨x2, ex2, hl1⟩ := bnd hl1
        refine s_val (wk0 rfl) rfl rfl hE hp (v := (.int .i64 x2)) (ex_add rfl hE rfl rfl (inK_some ex2)) ?_
        intro a hE
        refine s_val (wk0 rfl) rfl rfl hE hp (v := (.int .i64 x2)) (ex_move rfl hE rfl) ?_
        intro a hE
        refine s_nil ?_
        exact ⟨_, (Option.some.inj hl1).symm, hE.cut ⟨rfl, rfl, rfl, rfl, trivial⟩, (hp.drop)⟩
      · replace hl1 := (ie hb2).symm.trans hl1
        refine k_exit ?_
        refine ⟨_, (Option.some.inj hl1).symm, fun hbb => ?_⟩
        subst hbb
        exact ⟨hE.cut ⟨rfl, trivial⟩, hp⟩
  · rintro a w ⟨hE, hp⟩
    refine k_seq ?_
    refine k_region ?_
    refine s_val (wk0 rfl) rfl rfl hE hp (v := (.map (some b1))) (ex_move rfl hE rfl) ?_
    intro a hE
    refine s_val (wk0 rfl) rfl rfl hE hp (v := (.map (some b1))) (ex_asn rfl hE rfl) ?_
    intro a hE
    refine s_nil ?_
    have hE := hE.cut (E' := [(2, (.map (some b1)))]) ⟨rfl, trivial⟩
    refine k_ret ?_
    obtain rfl := Option.some.inj hm
    exact ret1 hE rfl rfl ⟨_, rfl, _, rfl, hp⟩
/- assessor/similarity.Hashes -/
set_option maxRecDepth 100000 in
set_option maxHeartbeats 4000000 in
theorem c_similarity_Hashes {Z : World} {ρ : PH} {L : List Atom} {w : World} (p0 : (List Mark)) (vp0 : Value) (hp0 : RoSl ρ vp0 p0) (hp : Hp Z ρ (L) w) (r : (List Int)) (hm : m_similarity_Hashes p0 = some r) :
    Calls Try.prog 13 #[vp0] w (Ret fun v w' => ∃ (vr1 : Value), v = vr1 ∧ Hp Z ρ (OwnSl 3 vr1 r :: L) w') := by
  refine enter (N := 7) Try.func13 rfl rfl [(0, vp0)] rfl (argsIn_mem ⟨rfl, trivial⟩) fun a hE => ?_
  unfold m_similarity_Hashes at hm
  refine k_seq ?_
  refine k_region ?_
  refine s_val (wk0 rfl) rfl rfl hE hp (v := (.slice none 0 0)) (ex_asn rfl hE rfl) ?_
  intro a hE
  refine s_nil ?_
  refine k_seq ?_
  refine k_region ?_
  refine s_val (wk0 rfl) rfl rfl hE hp (v := vp0) (ex_move rfl hE rfl) ?_
  intro a hE
  obtain ⟨x1, ex1, hm⟩ := bnd hm
  refine s_call (wk0 rfl) rfl rfl hE rfl [vp0] ⟨rfl, trivial⟩ ent34 (c_similarity_set p0 vp0 hp0 hp x1 ex1) Ret.ret ?_
  intro v a w hR hE
  obtain ⟨br1, rfl, hp⟩ := Ret.of hR
  have hp : Hp Z ρ (MapA br1 (x1 : List (Int × Bool)) :: L) w := hp
  refine s_call (wk0 rfl) rfl rfl hE rfl [(.map (some br1))] ⟨rfl, trivial⟩ ent33 (c_keys_ib br1 hp) Ret.ret ?_
  intro v a w hR hE
  obtain ⟨b1, rfl, hp⟩ := Ret.of hR
  have hp : Hp Z ρ (Pt b1 (.cells #[(.map (some br1))] 70 (0, 0)) :: _ :: L) w := hp
  obtain ⟨x2, ex2, hm⟩ := bnd hm
  refine s_call (wk0 rfl) rfl rfl hE rfl [(.func (.func 60) #[] #[.pointer (some ⟨b1, 0, none⟩)])] ⟨rfl, trivial⟩ ent32 (c_sorted_ib x1 ((hp.get 1 rfl).get 1 rfl) x2 ex2) Ret.ret ?_
  intro v1 a w hR hE
  obtain ⟨u, hu, hp⟩ := Ret.of hR
  rw [← hu] at hp
  have hp : Hp Z ρ (OwnSl 3 v1 x2 :: _ :: _ :: L) w := hp
  refine s_val (wk0 rfl) rfl rfl hE hp (v := v1) (ex_asn rfl hE rfl) ?_
  intro a hE
  refine s_nil ?_
  refine k_ret ?_
  obtain rfl := Option.some.inj hm
  exact ret1 hE rfl rfl ⟨_, rfl, _, rfl, ((((hp.get 2 rfl).drop).get 1 rfl).drop)⟩
/- assessor/similarity.Compare -/
set_option maxRecDepth 100000 in
set_option maxHeartbeats 4000000 in
theorem c_similarity_Compare {Z : World} {ρ : PH} {L : List Atom} {w : World} (p0 : (List Mark)) (vp0 : Value) (hp0 : RoSl ρ vp0 p0) (p1 : (List Mark)) (vp1 : Value) (hp1 : RoSl ρ vp1 p1) (hp : Hp Z ρ (L) w) (r : (Int × Int)) (hm : m_similarity_Compare p0 p1 = some r) :
    Calls Try.prog 18 #[vp0, vp1] w (Ret fun v w' => v = .tuple #[(.int .i64 r.1), (.int .i64 r.2)] ∧ Hp Z ρ (L) w') := by
  refine enter (N := 33) Try.func18 rfl rfl [(0, vp0), (1, vp1)] rfl (argsIn_mem ⟨rfl, rfl, trivial⟩) fun a hE => ?_
  unfold m_similarity_Compare at hm
  refine k_seq ?_
  refine k_region ?_
  refine s_val (wk0 rfl) rfl rfl hE hp (v := (.int .i64 0)) (ex_asn rfl hE rfl) ?_
  intro a hE
  refine s_val (wk0 rfl) rfl rfl hE hp (v := (.int .i64 0)) (ex_asn rfl hE rfl) ?_
  intro a hE
  refine s_nil ?_
  refine k_seq ?_
  refine k_region ?_
  refine s_val (wk0 rfl) rfl rfl hE hp (v := vp0) (ex_move rfl hE rfl) ?_
  intro a hE
  obtain ⟨x1, ex1, hm⟩ := bnd hm
  refine s_call (wk0 rfl) rfl rfl hE rfl [vp0] ⟨rfl, trivial⟩ ent34 (c_similarity_set p0 vp0 hp0 hp x1 ex1) Ret.ret ?_
  intro v a w hR hE
  obtain ⟨br1, rfl, hp⟩ := Ret.of hR
  have hp : Hp Z ρ (MapA br1 (x1 : List (Int × Bool)) :: L) w := hp
  refine s_val (wk0 rfl) rfl rfl hE hp (v := vp1) (ex_move rfl hE rfl) ?_
  intro a hE
  obtain ⟨x2, ex2, hm⟩ := bnd hm
  refine s_call (wk0 rfl) rfl rfl hE rfl [vp1] ⟨rfl, trivial⟩ ent34 (c_similarity_set p1 vp1 hp1 hp x2 ex2) Ret.ret ?_
  intro v a w hR hE
  obtain ⟨br2, rfl, hp⟩ := Ret.of hR
  have hp : Hp Z ρ (MapA br2 (x2 : List (Int × Bool)) :: _ :: L) w := hp
  refine s_val (wk0 rfl) rfl rfl hE hp (v := (.map (some br1))) (ex_asn rfl hE rfl) ?_
  intro a hE
  refine s_val (wk0 rfl) rfl rfl hE hp (v := (.map (some br2))) (ex_asn rfl hE rfl) ?_
  intro a hE
  refine s_nil ?_
  refine k_seq ?_
  refine k_region ?_
  refine s_val (wk0 rfl) rfl rfl hE hp (v := (.int .i64 0)) (ex_asn rfl hE rfl) ?_
  intro a hE
  refine s_nil ?_
  refine k_seq ?_
  refine k_seq ?_
  refine k_region ?_
  refine s_val (wk0 rfl) rfl rfl hE hp (v := (.map (some br1))) (ex_move rfl hE rfl) ?_
  intro a hE
  refine s_range mapty70 (wk0 rfl) rfl rfl hE (hp.get 1 rfl) rfl rfl ?_
  intro a w b1 hE hp
  have hp : Hp Z ρ (MapIt br1 b1 (x1 : List (Int × Bool)) x1 none :: _ :: L) w := hp
  refine s_nil ?_
  obtain ⟨b2, hb1, hm⟩ := bnd hm
  refine k_block (fun a w => Env 33 [(6, (.map (some br1))), (7, (.map (some br2))), (8, (.int .i64 b2))] a ∧ Hp Z ρ (MapA br1 (x1 : List (Int × Bool)) :: MapA br2 (x2 : List (Int × Bool)) :: L) w) ?_ ?_
  · refine k_loopP hb1 (fun rem1 s a w => Env 33 [(6, (.map (some br1))), (7, (.map (some br2))), (8, (.int .i64 s)), (15, (.pointer (some ⟨b1, 0, none⟩)))] a ∧ Hp Z ρ (MapIt br1 b1 (x1 : List (Int × Bool)) rem1 none :: MapA br2 (x2 : List (Int × Bool)) :: L) w) ?_ ?_
    · exact ⟨hE.cut ⟨rfl, rfl, rfl, rfl, trivial⟩, hp⟩
    · rintro rem1 lp1_0 a w ⟨hE, hp⟩ hf1
      have hE : Env 33 [(6, (.map (some br1))), (7, (.map (some br2))), (8, (.int .i64 lp1_0)), (15, (.pointer (some ⟨b1, 0, none⟩)))] a := hE
      have hp : Hp Z ρ (MapIt br1 b1 (x1 : List (Int × Bool)) rem1 none :: _ :: L) w := hp
      refine k_seq ?_
      refine k_region ?_
      refine s_next (wk0 rfl) rfl rfl hE (hp.get 0 rfl) rfl rfl ?_ ?_
      · intro hrem a hE
        subst hrem
        have hn1 := foldP_end hf1
        try dsimp only at hn1
        refine s_val (wk0 rfl) rfl rfl hE hp (v := (.bool false)) (ex_extract rfl hE rfl rfl) ?_
        intro a hE
        refine s_nil ?_
        refine k_seq ?_
        refine k_if hE rfl (fun hb => absurd hb (by decide)) (fun hb => ?_)
        refine k_exit ?_
        obtain rfl := Option.some.inj hn1
        have hp := MapIt.done (hp.get 0 rfl)
        exact ⟨hE.cut ⟨rfl, rfl, rfl, trivial⟩, hp⟩
      · rintro en1 rem1' hperm hl1l a w hE hp
        have hE := hE.eqv (v' := (.tuple #[(.bool true), (.int .i64 en1.1), (.bool en1.2)])) rfl
        have hp : Hp Z ρ (MapIt br1 b1 (x1 : List (Int × Bool)) rem1' (some en1) :: _ :: L) w := hp
        obtain ⟨st, hl1, hl1s⟩ := foldP_more hf1 hperm
        replace hl1 : m_similarity_Compare_lp1 x2 en1 lp1_0 = some st := hl1
        unfold m_similarity_Compare_lp1 at hl1
        refine s_val (wk0 rfl) rfl rfl hE hp (v := (.bool true)) (ex_extract rfl hE rfl rfl) ?_
        intro a hE
        refine s_nil ?_
        have hE := hE.cut (E' := [(6, (.map (some br1))), (7, (.map (some br2))), (8, (.int .i64 lp1_0)), (15, (.pointer (some ⟨b1, 0, none⟩))), (17, (.bool true))]) ⟨rfl, rfl, rfl, rfl, rfl, trivial⟩
        refine k_seq ?_
        refine k_if hE rfl (fun hb => ?_) (fun hb => absurd hb (by decide))
        refine k_skip ?_
        refine k_plain ?_
        refine k_seq ?_
        refine k_region ?_
        refine s_val (wk0 rfl) rfl rfl hE hp (v := (.tuple #[(.int .i64 en1.1), (.bool en1.2)])) (ex_entry (c := en1) rfl hE 0 rfl rfl) ?_
        intro a hE
        refine s_val (wk0 rfl) rfl rfl hE hp (v := (.int .i64 en1.1)) (ex_extract rfl hE rfl rfl) ?_
        intro a hE
        refine s_val (wk0 rfl) rfl rfl hE hp (v := (.int .i64 en1.1)) (ex_asn rfl hE rfl) ?_
        intro a hE
        refine s_nil ?_
        refine k_seq ?_
        refine k_region ?_
        refine s_val (wk0 rfl) rfl rfl hE hp (v := (.map (some br2))) (ex_move rfl hE rfl) ?_
        intro a hE
        refine s_val (wk0 rfl) rfl rfl hE hp (v := (.int .i64 en1.1)) (ex_move rfl hE rfl) ?_
        intro a hE
        refine s_val (wk0 rfl) rfl rfl hE hp (v := (.bool ((mget (x2 : List (Int × Bool)) en1.1).getD false))) (ex_mget0 (zd := (false : Bool)) kt3 mapty70 zero4 rfl hE 1 (k := en1.1) rfl rfl rfl) ?_
        intro a hE
        refine s_nil ?_
        refine k_if hE rfl (fun hb2 => ?_) (fun hb2 => ?_)
        · replace hl1 := (it hb2).symm.trans hl1
          refine k_region ?_
          refine s_val (wk0 rfl) rfl rfl hE hp (v := (.int .i64 lp1_0)) (ex_move rfl hE rfl) ?_
          intro a hE
          obtain ⟨x3, ex3, hl1⟩ := bnd hl1
          refine s_val (wk0 rfl) rfl rfl hE hp (v := (.int .i64 x3)) (ex_add rfl hE rfl rfl (inK_some ex3)) ?_
          intro a hE
          refine s_val (wk0 rfl) rfl rfl hE hp (v := (.int .i64 x3)) (ex_asn rfl hE rfl) ?_
          intro a hE
          refine s_nil ?_
          obtain rfl := Option.some.inj hl1
          have hp := MapIt.forget (hp.get 0 rfl)
          exact ⟨_, _, hl1l, hl1s, hE.cut ⟨rfl, rfl, rfl, rfl, trivial⟩, hp⟩
        · replace hl1 := (ie hb2).symm.trans hl1
          refine k_skip ?_
          obtain rfl := Option.some.inj hl1
          have hp := MapIt.forget (hp.get 0 rfl)
          exact ⟨_, _, hl1l, hl1s, hE.cut ⟨rfl, rfl, rfl, rfl, trivial⟩, hp⟩
  · rintro a w ⟨hE, hp⟩
    refine k_seq ?_
    refine k_region ?_
    refine s_val (wk0 rfl) rfl rfl hE hp (v := (.int .i64 b2)) (ex_move rfl hE rfl) ?_
    intro a hE
    refine s_val (wk0 rfl) rfl rfl hE hp (v := (.map (some br1))) (ex_move rfl hE rfl) ?_
    intro a hE
    refine s_val (wk0 rfl) rfl rfl hE hp (v := (.int .i64 (x1.length : Int))) (ex_mlen mapty70 rfl hE 0 rfl rfl) ?_
    intro a hE
    refine s_val (wk0 rfl) rfl rfl hE hp (v := (.map (some br2))) (ex_move rfl hE rfl) ?_
    intro a hE
    refine s_val (wk0 rfl) rfl rfl hE hp (v := (.int .i64 (x2.length : Int))) (ex_mlen mapty70 rfl hE 1 rfl rfl) ?_
    intro a hE
    obtain ⟨x4, ex4, hm⟩ := bnd hm
    refine s_val (wk0 rfl) rfl rfl hE hp (v := (.int .i64 x4)) (ex_add rfl hE rfl rfl (inK_some ex4)) ?_
    intro a hE
    refine s_val (wk0 rfl) rfl rfl hE hp (v := (.int .i64 b2)) (ex_move rfl hE rfl) ?_
    intro a hE
    obtain ⟨x5, ex5, hm⟩ := bnd hm
    refine s_val (wk0 rfl) rfl rfl hE hp (v := (.int .i64 x5)) (ex_sub rfl hE rfl rfl (inK_some ex5)) ?_
    intro a hE
    refine s_val (wk0 rfl) rfl rfl hE hp (v := (.int .i64 b2)) (ex_asn rfl hE rfl) ?_
    intro a hE
    refine s_val (wk0 rfl) rfl rfl hE hp (v := (.int .i64 x5)) (ex_asn rfl hE rfl) ?_
    intro a hE
    refine s_nil ?_
    refine k_ret ?_
    obtain rfl := Option.some.inj hm
    exact ret2 hE rfl rfl rfl ⟨_, rfl, rfl, (((hp.get 1 rfl).drop).drop)⟩
/- slices.Clone[[]assessor/api.Mark,assessor/api.Mark] -/
set_option maxRecDepth 100000 in
theorem c_clone37 {Z : World} {ρ : PH} {L : List Atom} {w : World} (p0 : List Mark) (vp0 : Value) (hp0 : RoSl ρ vp0 p0) (hp : Hp Z ρ L w) (r : List Mark) (hm : app [] p0 = some r) :
    Calls Try.prog 37 #[vp0] w (Ret fun v w' => ∃ v1, v = v1 ∧ Hp Z ρ (OwnSl 65 v1 r :: L) w') := by
  refine enter (N := 8) Try.func37 rfl rfl [(0, vp0)] rfl (argsIn_mem ⟨rfl, trivial⟩) fun a hE => ?_
  obtain ⟨b, hb1, hb2⟩ := RoSl.nilq (P := Try.prog) hp0 slty26
  refine k_seq ?_
  refine k_region ?_
  refine s_val (wk0 rfl) rfl rfl hE hp (ex_asn rfl hE rfl) ?_
  intro a hE
  refine s_nil ?_
  refine k_seq ?_
  refine k_seq ?_
  refine k_region ?_
  refine s_val (wk0 rfl) rfl rfl hE hp (v := vp0) (ex_move rfl hE rfl) ?_
  intro a hE
  refine s_val (wk0 rfl) rfl rfl hE hp (v := .bool b) (ex_bin rfl hE rfl rfl fun w _ => hb1 w _ _) ?_
  intro a hE
  refine s_nil ?_
  refine k_if hE rfl (fun hb => ?_) (fun hb => ?_)
  · obtain rfl := hb2 hb
    obtain rfl := (app_some hm).2
    refine k_seq ?_
    refine k_region ?_
    refine s_val (wk0 rfl) rfl rfl hE hp (v := .slice none 0 0) (ex_asn rfl hE rfl) ?_
    intro a hE
    refine s_nil ?_
    refine k_ret ?_
    exact ret1 hE rfl rfl ⟨_, rfl, _, rfl, hp.emp (OwnSl.nil (α := Mark) 65)⟩
  · refine k_skip ?_
    refine k_seq ?_
    refine k_region ?_
    refine s_lit (wk0 rfl) rfl rfl hE hp rfl [] trivial [] 65 (fun w => by simp [Instr.buildSlice, Instr.fill, Value.cells, go_sem]) ?_
    intro a w b1 hE hp
    have hp := (hp.get 0 rfl).imp (own_of_pt (l := ([] : List Mark)) (n := 0) rfl (by decide) rfl)
    have hp : Hp Z ρ (OwnSl 65 (.slice (some ⟨b1, 0, none⟩) 0 0) ([] : List Mark) :: L) w := hp
    refine s_val (wk0 rfl) rfl rfl hE hp (v := vp0) (ex_move rfl hE rfl) ?_
    intro a hE
    refine s_apps (wk0 rfl) rfl rfl hE hp rfl slty26 rfl rfl 0 rfl rfl hp0 hm ?_
    intro v1 a w hE hp
    have hp : Hp Z ρ (OwnSl 65 v1 r :: L) w := hp
    refine s_val (wk0 rfl) rfl rfl hE hp (v := v1) (ex_asn rfl hE rfl) ?_
    intro a hE
    refine s_nil ?_
    refine k_ret ?_
    exact ret1 hE rfl rfl ⟨_, rfl, _, rfl, hp⟩
/- slices.Index[[]int,int] -/
set_option maxRecDepth 100000 in
set_option maxHeartbeats 4000000 in
theorem c_slices_Index_int_int_ {Z : World} {ρ : PH} {L : List Atom} {w : World} (p0 : (List Int)) (vp0 : Value) (hp0 : RoSl ρ vp0 p0) (p1 : Int) (hp : Hp Z ρ (L) w) (r : Int) (hm : m_slices_Index_int_int_ p0 p1 = some r) :
    Calls Try.prog 62 #[vp0, (.int .i64 p1)] w (Ret fun v w' => v = (.int .i64 r) ∧ Hp Z ρ (L) w') := by
  refine enter (N := 19) Try.func62 rfl rfl [(0, vp0), (1, (.int .i64 p1))] rfl (argsIn_mem ⟨rfl, rfl, trivial⟩) fun a hE => ?_
  unfold m_slices_Index_int_int_ at hm
  refine k_seq ?_
  refine k_region ?_
  refine s_val (wk0 rfl) rfl rfl hE hp (v := (.int .i64 0)) (ex_asn rfl hE rfl) ?_
  intro a hE
  refine s_nil ?_
  refine k_seq ?_
  refine k_seq ?_
  refine k_region ?_
  refine s_val (wk0 rfl) rfl rfl hE hp (v := vp0) (ex_move rfl hE rfl) ?_
  intro a hE
  refine s_val (wk0 rfl) rfl rfl hE hp (v := (.int .i64 (p0.length : Int))) (ex_len rfl hE rfl (RoSl.len hp0 slty23)) ?_
  intro a hE
  refine s_val (wk0 rfl) rfl rfl hE hp (v := (.int .i64 0)) (ex_move rfl hE rfl) ?_
  intro a hE
  refine s_nil ?_
  obtain ⟨b1, hb1, hm⟩ := bnd hm
  refine k_block (fun a w => ∃ s : Unit, b1 = .brk s ∧ (Env 19 [] a ∧ Hp Z ρ (L) w)) ?_ ?_
  · refine k_loop hb1 (fun s a w => Env 19 [(0, vp0), (1, (.int .i64 p1)), (7, (.int .i64 (p0.length : Int))), (8, (.int .i64 s))] a ∧ Hp Z ρ (L) w) ?_ ?_
    · exact ⟨hE.cut ⟨rfl, rfl, rfl, rfl, trivial⟩, hp⟩
    · rintro lp1_0 st a w ⟨hE, hp⟩ hl1
      have hE : Env 19 [(0, vp0), (1, (.int .i64 p1)), (7, (.int .i64 (p0.length : Int))), (8, (.int .i64 lp1_0))] a := hE
      have hp : Hp Z ρ (L) w := hp
      replace hl1 : m_slices_Index_int_int__lp1 p0 p1 lp1_0 = some st := hl1
      unfold m_slices_Index_int_int__lp1 at hl1
      refine k_seq ?_
      refine k_region ?_
      refine s_val (wk0 rfl) rfl rfl hE hp (v := (.bool (decide (lp1_0 < (p0.length : Int))))) (ex_lss rfl hE rfl rfl) ?_
      intro a hE
      refine s_nil ?_
      refine k_seq ?_
      refine k_if hE rfl (fun hb2 => ?_) (fun hb2 => ?_)
      · replace hl1 := (it hb2).symm.trans hl1
        refine k_skip ?_
        refine k_seq ?_
        refine k_plain ?_
        refine k_seq ?_
        refine k_region ?_
        refine s_val (wk0 rfl) rfl rfl hE hp (v := (.int .i64 lp1_0)) (ex_move rfl hE rfl) ?_
        intro a hE
        refine s_val (wk0 rfl) rfl rfl hE hp (v := (.int .i64 lp1_0)) (ex_asn rfl hE rfl) ?_
        intro a hE
        refine s_nil ?_
        refine k_seq ?_
        refine k_region ?_
        refine s_val (wk0 rfl) rfl rfl hE hp (v := (.int .i64 p1)) (ex_move rfl hE rfl) ?_
        intro a hE
        refine s_val (wk0 rfl) rfl rfl hE hp (v := vp0) (ex_move rfl hE rfl) ?_
        intro a hE
        refine s_val (wk0 rfl) rfl rfl hE hp (v := (.int .i64 lp1_0)) (ex_move rfl hE rfl) ?_
        intro a hE
        obtain ⟨x1, ex1, hl1⟩ := bnd hl1
        obtain ⟨b2, b2o, b2c, b2r, b2k, b2f⟩ := RoSl.at hp0 slty23 ex1
        obtain rfl : b2c = Enc.enc x1 := b2k
        have b2f : AtP ρ b2 b2o [(.int .i64 x1)] := b2f
        refine s_val (wk0 rfl) rfl rfl hE hp (v := (.pointer (some ⟨b2, b2o, none⟩))) (ex_index rfl hE rfl rfl b2r) ?_
        intro a hE
        refine s_val (wk0 rfl) rfl rfl hE hp (v := (.int .i64 x1)) (ex_load rfl hE rfl (fun w hw => run_ld1 varty3 (b2f.c 0 rfl w hw))) ?_
        intro a hE
        refine s_val (wk0 rfl) rfl rfl hE hp (v := (.bool (decide (p1 = x1)))) (ex_eql rfl hE rfl rfl) ?_
        intro a hE
        refine s_nil ?_
        have hE := hE.cut (E' := [(0, vp0), (1, (.int .i64 p1)), (5, (.int .i64 lp1_0)), (7, (.int .i64 (p0.length : Int))), (8, (.int .i64 lp1_0)), (16, (.bool (decide (p1 = x1))))]) ⟨rfl, rfl, rfl, rfl, rfl, rfl, trivial⟩
        refine k_if hE rfl (fun hb3 => ?_) (fun hb3 => ?_)
        · replace hl1 := (it hb3).symm.trans hl1
          refine k_seq ?_
          refine k_region ?_
          refine s_val (wk0 rfl) rfl rfl hE hp (v := (.int .i64 lp1_0)) (ex_move rfl hE rfl) ?_
          intro a hE
          refine s_val (wk0 rfl) rfl rfl hE hp (v := (.int .i64 lp1_0)) (ex_asn rfl hE rfl) ?_
          intro a hE
          refine s_nil ?_
          refine k_ret ?_
          refine ⟨_, (Option.some.inj hl1).symm, fun hb => ?_⟩
          subst hb
          obtain rfl := Option.some.inj hm
          exact ret1 hE rfl rfl ⟨_, rfl, rfl, hp⟩
        · replace hl1 := (ie hb3).symm.trans hl1
          refine k_skip ?_
          refine k_region ?_
          obtain ⟨x2, ex2, hl1⟩ := bnd hl1
          refine s_val (wk0 rfl) rfl rfl hE hp (v := (.int .i64 x2)) (ex_add rfl hE rfl rfl (inK_some ex2)) ?_
          intro a hE
          refine s_val (wk0 rfl) rfl rfl hE hp (v := (.int .i64 x2)) (ex_move rfl hE rfl) ?_
          intro a hE
          refine s_nil ?_
          exact ⟨_, (Option.some.inj hl1).symm, hE.cut ⟨rfl, rfl, rfl, rfl, trivial⟩, hp⟩
      · replace hl1 := (ie hb2).symm.trans hl1
        refine k_exit ?_
        refine ⟨_, (Option.some.inj hl1).symm, fun hbb => ?_⟩
        exact ⟨_, hbb.symm, hE.cut trivial, hp⟩
  · rintro a w ⟨b1s, rfl, hE, hp⟩
    dsimp only at hm
    refine k_seq ?_
    refine k_region ?_
    refine s_val (wk0 rfl) rfl rfl hE hp (v := (.int .i64 (-1))) (ex_asn rfl hE rfl) ?_
    intro a hE
    refine s_nil ?_
    refine k_ret ?_
    obtain rfl := Option.some.inj hm
    exact ret1 hE rfl rfl ⟨_, rfl, rfl, hp⟩
/- slices.Contains[[]int,int] -/
set_option maxRecDepth 100000 in
set_option maxHeartbeats 4000000 in
theorem c_slices_Contains_int_int_ {Z : World} {ρ : PH} {L : List Atom} {w : World} (p0 : (List Int)) (vp0 : Value) (hp0 : RoSl ρ vp0 p0) (p1 : Int) (hp : Hp Z ρ (L) w) (r : Bool) (hm : m_slices_Contains_int_int_ p0 p1 = some r) :
    Calls Try.prog 39 #[vp0, (.int .i64 p1)] w (Ret fun v w' => v = (.bool r) ∧ Hp Z ρ (L) w') := by
  refine enter (N := 9) Try.func39 rfl rfl [(0, vp0), (1, (.int .i64 p1))] rfl (argsIn_mem ⟨rfl, rfl, trivial⟩) fun a hE => ?_
  unfold m_slices_Contains_int_int_ at hm
  refine k_seq ?_
  refine k_region ?_
  refine s_val (wk0 rfl) rfl rfl hE hp (v := (.bool false)) (ex_asn rfl hE rfl) ?_
  intro a hE
  refine s_nil ?_
  refine k_seq ?_
  refine k_region ?_
  refine s_val (wk0 rfl) rfl rfl hE hp (v := vp0) (ex_move rfl hE rfl) ?_
  intro a hE
  refine s_val (wk0 rfl) rfl rfl hE hp (v := (.int .i64 p1)) (ex_move rfl hE rfl) ?_
  intro a hE
  obtain ⟨x1, ex1, hm⟩ := bnd hm
  refine s_call (wk0 rfl) rfl rfl hE rfl [vp0, (.int .i64 p1)] ⟨rfl, rfl, trivial⟩ ent62 (c_slices_Index_int_int_ p0 vp0 hp0 p1 hp x1 ex1) Ret.ret ?_
  intro v a w hR hE
  obtain ⟨rfl, hp⟩ := Ret.of hR
  have hp : Hp Z ρ (L) w := hp
  refine s_val (wk0 rfl) rfl rfl hE hp (v := (.bool (decide (0 ≤ x1)))) (ex_geq rfl hE rfl rfl) ?_
  intro a hE
  refine s_val (wk0 rfl) rfl rfl hE hp (v := (.bool (decide (0 ≤ x1)))) (ex_asn rfl hE rfl) ?_
  intro a hE
  refine s_nil ?_
  refine k_ret ?_
  obtain rfl := Option.some.inj hm
  exact ret1 hE rfl rfl ⟨_, rfl, rfl, hp⟩
/- assessor/similarity.Without$1 -/
set_option maxRecDepth 100000 in
set_option maxHeartbeats 4000000 in
theorem c_similarity_Without_1 {Z : World} {ρ : PH} {L : List Atom} {w : World} (p0 : Mark) (bc0 : Nat) (c0 : (List Int)) (vc0 : Value) (hc0 : RoSl ρ vc0 c0) (hp : Hp Z ρ (Pt bc0 (.cells #[vc0] 23 (0, 0)) :: L) w) (r : Bool) (hm : m_similarity_Without_1 p0 c0 = some r) :
    Calls Try.prog 38 #[(.agg #[(.int .i64 p0.hash), (.int .i64 p0.at_)]), (.pointer (some ⟨bc0, 0, none⟩))] w (Ret fun v w' => v = (.bool r) ∧ Hp Z ρ (Pt bc0 (.cells #[vc0] 23 (0, 0)) :: L) w') := by
  refine enter (N := 8) Try.func38 rfl rfl [(0, (.agg #[(.int .i64 p0.hash), (.int .i64 p0.at_)])), (1, (.pointer (some ⟨bc0, 0, none⟩)))] rfl (argsIn_mem ⟨rfl, rfl, trivial⟩) fun a hE => ?_
  unfold m_similarity_Without_1 at hm
  refine k_seq ?_
  refine k_region ?_
  refine s_box (wk0 rfl) rfl rfl hE hp rfl (v := (.agg #[(.int .i64 p0.hash), (.int .i64 p0.at_)])) rfl ?_
  intro a w b1 hE hp
  have hp : Hp Z ρ (Pt b1 (.cells #[(.int .i64 p0.hash), (.int .i64 p0.at_)] 65 (0, 0)) :: Pt bc0 (.cells #[vc0] 23 (0, 0)) :: L) w := hp
  refine s_val (wk0 rfl) rfl rfl hE hp (v := (.bool false)) (ex_asn rfl hE rfl) ?_
  intro a hE
  refine s_nil ?_
  refine k_seq ?_
  refine k_region ?_
  refine s_val (wk0 rfl) rfl rfl hE hp (v := vc0) (ex_load rfl hE rfl (fun w hw => run_ld1 varty23 (Hp.c 1 rfl 0 rfl w hw))) ?_
  intro a hE
  refine s_val (wk0 rfl) rfl rfl hE hp (v := (.pointer (some ⟨b1, 0, none⟩))) (ex_field rfl hE rfl (fldty65_0 _ _)) ?_
  intro a hE
  refine s_val (wk0 rfl) rfl rfl hE hp (v := (.int .i64 p0.hash)) (ex_load rfl hE rfl (fun w hw => run_ld1 varty3 (Hp.c 0 rfl 0 rfl w hw))) ?_
  intro a hE
  obtain ⟨x1, ex1, hm⟩ := bnd hm
  refine s_call (wk0 rfl) rfl rfl hE rfl [vc0, (.int .i64 p0.hash)] ⟨rfl, rfl, trivial⟩ ent39 (c_slices_Contains_int_int_ c0 vc0 hc0 p0.hash hp x1 ex1) Ret.ret ?_
  intro v a w hR hE
  obtain ⟨rfl, hp⟩ := Ret.of hR
  have hp : Hp Z ρ (_ :: _ :: L) w := hp
  refine s_val (wk0 rfl) rfl rfl hE hp (v := (.bool x1)) (ex_asn rfl hE rfl) ?_
  intro a hE
  refine s_nil ?_
  refine k_ret ?_
  obtain rfl := Option.some.inj hm
  exact ret1 hE rfl rfl ⟨_, rfl, rfl, (hp.drop)⟩
/- slices.IndexFunc[[]assessor/api.Mark,assessor/api.Mark]@assessor/similarity.Without$1 -/
set_option maxRecDepth 100000 in
set_option maxHeartbeats 4000000 in
theorem c_slices_IndexFunc_similarity_Without_1 {Z : World} {ρ : PH} {L : List Atom} {w : World} (p0 : (List Mark)) (vp0 : Value) (hp0 : RoSl ρ vp0 p0) (bp1c0 : Nat) (p1c0 : (List Int)) (vp1c0 : Value) (hp1c0 : RoSl ρ vp1c0 p1c0) (hp : Hp Z ρ (Pt bp1c0 (.cells #[vp1c0] 23 (0, 0)) :: L) w) (r : Int) (hm : m_slices_IndexFunc_similarity_Without_1 p0 p1c0 = some r) :
    Calls Try.prog 61 #[vp0, (.func (.func 38) #[] #[(.pointer (some ⟨bp1c0, 0, none⟩))])] w (Ret fun v w' => v = (.int .i64 r) ∧ Hp Z ρ (Pt bp1c0 (.cells #[vp1c0] 23 (0, 0)) :: L) w') := by
  refine enter (N := 19) Try.func61 rfl rfl [(0, vp0), (1, (.func (.func 38) #[] #[(.pointer (some ⟨bp1c0, 0, none⟩))]))] rfl (argsIn_mem ⟨rfl, rfl, trivial⟩) fun a hE => ?_
  unfold m_slices_IndexFunc_similarity_Without_1 at hm
  refine k_seq ?_
  refine k_region ?_
  refine s_val (wk0 rfl) rfl rfl hE hp (v := (.int .i64 0)) (ex_asn rfl hE rfl) ?_
  intro a hE
  refine s_nil ?_
  refine k_seq ?_
  refine k_seq ?_
  refine k_region ?_
  refine s_val (wk0 rfl) rfl rfl hE hp (v := vp0) (ex_move rfl hE rfl) ?_
  intro a hE
  refine s_val (wk0 rfl) rfl rfl hE hp (v := (.int .i64 (p0.length : Int))) (ex_len rfl hE rfl (RoSl.len hp0 slty26)) ?_
  intro a hE
  refine s_val (wk0 rfl) rfl rfl hE hp (v := (.int .i64 0)) (ex_move rfl hE rfl) ?_
  intro a hE
  refine s_nil ?_
  obtain ⟨b1, hb1, hm⟩ := bnd hm
  refine k_block (fun a w => ∃ s : Unit, b1 = .brk s ∧ (Env 19 [] a ∧ Hp Z ρ (Pt bp1c0 (.cells #[vp1c0] 23 (0, 0)) :: L) w)) ?_ ?_
  · refine k_loop hb1 (fun s a w => Env 19 [(0, vp0), (1, (.func (.func 38) #[] #[(.pointer (some ⟨bp1c0, 0, none⟩))])), (7, (.int .i64 (p0.length : Int))), (8, (.int .i64 s))] a ∧ Hp Z ρ (Pt bp1c0 (.cells #[vp1c0] 23 (0, 0)) :: L) w) ?_ ?_
    · exact ⟨hE.cut ⟨rfl, rfl, rfl, rfl, trivial⟩, hp⟩
    · rintro lp1_0 st a w ⟨hE, hp⟩ hl1
      have hE : Env 19 [(0, vp0), (1, (.func (.func 38) #[] #[(.pointer (some ⟨bp1c0, 0, none⟩))])), (7, (.int .i64 (p0.length : Int))), (8, (.int .i64 lp1_0))] a := hE
      have hp : Hp Z ρ (Pt bp1c0 (.cells #[vp1c0] 23 (0, 0)) :: L) w := hp
      replace hl1 : m_slices_IndexFunc_similarity_Without_1_lp1 p0 p1c0 lp1_0 = some st := hl1
      unfold m_slices_IndexFunc_similarity_Without_1_lp1 at hl1
      refine k_seq ?_
      refine k_region ?_
      refine s_val (wk0 rfl) rfl rfl hE hp (v := (.bool (decide (lp1_0 < (p0.length : Int))))) (ex_lss rfl hE rfl rfl) ?_
      intro a hE
      refine s_nil ?_
      refine k_seq ?_
      refine k_if hE rfl (fun hb2 => ?_) (fun hb2 => ?_)
      · replace hl1 := (it hb2).symm.trans hl1
        refine k_skip ?_
        refine k_seq ?_
        refine k_plain ?_
        refine k_seq ?_
        refine k_region ?_
        refine s_val (wk0 rfl) rfl rfl hE hp (v := (.int .i64 lp1_0)) (ex_move rfl hE rfl) ?_
        intro a hE
        refine s_val (wk0 rfl) rfl rfl hE hp (v := (.int .i64 lp1_0)) (ex_asn rfl hE rfl) ?_
        intro a hE
        refine s_nil ?_
        refine k_seq ?_
        refine k_region ?_
        refine s_val (wk0 rfl) rfl rfl hE hp (v := (.func (.func 38) #[] #[(.pointer (some ⟨bp1c0, 0, none⟩))])) (ex_move rfl hE rfl) ?_
        intro a hE
        refine s_val (wk0 rfl) rfl rfl hE hp (v := vp0) (ex_move rfl hE rfl) ?_
        intro a hE
        refine s_val (wk0 rfl) rfl rfl hE hp (v := (.int .i64 lp1_0)) (ex_move rfl hE rfl) ?_
        intro a hE
        obtain ⟨x1, ex1, hl1⟩ := bnd hl1
        obtain ⟨b2, b2o, b2c, b2r, b2k, b2f⟩ := RoSl.at hp0 slty26 ex1
        obtain rfl : b2c = Enc.enc x1 := b2k
        have b2f : AtP ρ b2 b2o [(.int .i64 x1.hash), (.int .i64 x1.at_)] := b2f
        refine s_val (wk0 rfl) rfl rfl hE hp (v := (.pointer (some ⟨b2, b2o, none⟩))) (ex_index rfl hE rfl rfl b2r) ?_
        intro a hE
        refine s_val (wk0 rfl) rfl rfl hE hp (v := (.agg #[(.int .i64 x1.hash), (.int .i64 x1.at_)])) (ex_load rfl hE rfl (fun w hw => run_ldN (cs := [(.int .i64 x1.hash), (.int .i64 x1.at_)]) varty65 (fun j u hj => cell_of hw.le (b2f j u hj)))) ?_
        intro a hE
        obtain ⟨x2, ex2, hl1⟩ := bnd hl1
        refine s_callv (wk0 rfl) rfl rfl hE rfl rfl [(.agg #[(.int .i64 x1.hash), (.int .i64 x1.at_)])] ⟨rfl, trivial⟩ ent38 (c_similarity_Without_1 x1 bp1c0 p1c0 vp1c0 hp1c0 hp x2 ex2) Ret.ret ?_
        intro v a w hR hE
        obtain ⟨rfl, hp⟩ := Ret.of hR
        have hp : Hp Z ρ (_ :: L) w := hp
        refine s_nil ?_
        have hE := hE.cut (E' := [(0, vp0), (1, (.func (.func 38) #[] #[(.pointer (some ⟨bp1c0, 0, none⟩))])), (5, (.int .i64 lp1_0)), (7, (.int .i64 (p0.length : Int))), (8, (.int .i64 lp1_0)), (16, (.bool x2))]) ⟨rfl, rfl, rfl, rfl, rfl, rfl, trivial⟩
        refine k_if hE rfl (fun hb3 => ?_) (fun hb3 => ?_)
        · replace hl1 := (it hb3).symm.trans hl1
          refine k_seq ?_
          refine k_region ?_
          refine s_val (wk0 rfl) rfl rfl hE hp (v := (.int .i64 lp1_0)) (ex_move rfl hE rfl) ?_
          intro a hE
          refine s_val (wk0 rfl) rfl rfl hE hp (v := (.int .i64 lp1_0)) (ex_asn rfl hE rfl) ?_
          intro a hE
          refine s_nil ?_
          refine k_ret ?_
          refine ⟨_, (Option.some.inj hl1).symm, fun hb => ?_⟩
          subst hb
          obtain rfl := Option.some.inj hm
          exact ret1 hE rfl rfl ⟨_, rfl, rfl, hp⟩
        · replace hl1 := (ie hb3).symm.trans hl1
          refine k_skip ?_
          refine k_region ?_
          obtain ⟨x3, ex3, hl1⟩ := bnd hl1
          refine s_val (wk0 rfl) rfl rfl hE hp (v := (.int .i64 x3)) (ex_add rfl hE rfl rfl (inK_some ex3)) ?_
          intro a hE
          refine s_val (wk0 rfl) rfl rfl hE hp (v := (.int .i64 x3)) (ex_move rfl hE rfl) ?_
          intro a hE
          refine s_nil ?_
          exact ⟨_, (Option.some.inj hl1).symm, hE.cut ⟨rfl, rfl, rfl, rfl, trivial⟩, hp⟩
      · replace hl1 := (ie hb2).symm.trans hl1
        refine k_exit ?_
        refine ⟨_, (Option.some.inj hl1).symm, fun hbb => ?_⟩
        exact ⟨_, hbb.symm, hE.cut trivial, hp⟩
  · rintro a w ⟨b1s, rfl, hE, hp⟩
    dsimp only at hm
    refine k_seq ?_
    refine k_region ?_
    refine s_val (wk0 rfl) rfl rfl hE hp (v := (.int .i64 (-1))) (ex_asn rfl hE rfl) ?_
    intro a hE
    refine s_nil ?_
    refine k_ret ?_
    obtain rfl := Option.some.inj hm
    exact ret1 hE rfl rfl ⟨_, rfl, rfl, hp⟩
/- slices.DeleteFunc[[]assessor/api.Mark,assessor/api.Mark]@assessor/similarity.Without$1 -/
set_option maxRecDepth 100000 in
set_option maxHeartbeats 4000000 in
theorem c_slices_DeleteFunc_similarity_Without_1 {Z : World} {ρ : PH} {L : List Atom} {w : World} (p0 : (List Mark)) (vp0 : Value) (bp1c0 : Nat) (p1c0 : (List Int)) (vp1c0 : Value) (hp1c0 : RoSl ρ vp1c0 p1c0) (hp : Hp Z ρ (Pt bp1c0 (.cells #[vp1c0] 23 (0, 0)) :: OwnSl 65 vp0 p0 :: L) w) (r : (List Mark)) (hm : m_slices_DeleteFunc_similarity_Without_1 p0 p1c0 = some r) :
    Calls Try.prog 36 #[vp0, (.func (.func 38) #[] #[(.pointer (some ⟨bp1c0, 0, none⟩))])] w (Ret fun v w' => ∃ (vr1 : Value), v = vr1 ∧ Hp Z ρ (OwnSl 65 vr1 r :: Pt bp1c0 (.cells #[vp1c0] 23 (0, 0)) :: L) w') := by
  refine enter (N := 42) Try.func36 rfl rfl [(0, vp0), (1, (.func (.func 38) #[] #[(.pointer (some ⟨bp1c0, 0, none⟩))]))] rfl (argsIn_mem ⟨rfl, rfl, trivial⟩) fun a hE => ?_
  unfold m_slices_DeleteFunc_similarity_Without_1 at hm
  refine k_seq ?_
  refine k_region ?_
  refine s_val (wk0 rfl) rfl rfl hE hp (v := (.slice none 0 0)) (ex_asn rfl hE rfl) ?_
  intro a hE
  refine s_nil ?_
  refine k_seq ?_
  refine k_region ?_
  refine s_val (wk0 rfl) rfl rfl hE hp (v := vp0) (ex_move rfl hE rfl) ?_
  intro a hE
  refine s_val (wk0 rfl) rfl rfl hE hp (v := (.func (.func 38) #[] #[(.pointer (some ⟨bp1c0, 0, none⟩))])) (ex_move rfl hE rfl) ?_
  intro a hE
  obtain ⟨k1, k1a, k1d, k1h⟩ := (hp.get 1 rfl).lend
  obtain ⟨x1, ex1, hm⟩ := bnd hm
  refine s_call (wk0 rfl) rfl rfl hE rfl [vp0, (.func (.func 38) #[] #[(.pointer (some ⟨bp1c0, 0, none⟩))])] ⟨rfl, rfl, trivial⟩ ent61 (c_slices_IndexFunc_similarity_Without_1 p0 vp0 (OwnSl.ro k1d k1a) bp1c0 p1c0 vp1c0 (RoSl.mono hp1c0 (PH.le_un _ _)) k1h x1 ex1) Ret.ret ?_
  intro v a w hR hE
  obtain ⟨rfl, hp⟩ := Ret.of hR
  have hp := Hp.back k1a k1d hp
  have hp : Hp Z ρ (OwnSl 65 vp0 p0 :: Pt bp1c0 (.cells #[vp1c0] 23 (0, 0)) :: L) w := hp
  refine s_val (wk0 rfl) rfl rfl hE hp (v := (.int .i64 x1)) (ex_asn rfl hE rfl) ?_
  intro a hE
  refine s_nil ?_
  refine k_seq ?_
  refine k_seq ?_
  refine k_region ?_
  refine s_val (wk0 rfl) rfl rfl hE hp (v := (.int .i64 x1)) (ex_move rfl hE rfl) ?_
  intro a hE
  refine s_val (wk0 rfl) rfl rfl hE hp (v := (.bool (decide (x1 = (-1))))) (ex_eql rfl hE rfl rfl) ?_
  intro a hE
  refine s_nil ?_
  refine k_if hE rfl (fun hb1 => ?_) (fun hb1 => ?_)
  · replace hm := (it hb1).symm.trans hm
    refine k_seq ?_
    refine k_region ?_
    refine s_val (wk0 rfl) rfl rfl hE hp (v := vp0) (ex_move rfl hE rfl) ?_
    intro a hE
    refine s_val (wk0 rfl) rfl rfl hE hp (v := vp0) (ex_asn rfl hE rfl) ?_
    intro a hE
    refine s_nil ?_
    refine k_ret ?_
    obtain rfl := Option.some.inj hm
    exact ret1 hE rfl rfl ⟨_, rfl, _, rfl, hp⟩
  · replace hm := (ie hb1).symm.trans hm
    refine k_skip ?_
    refine k_seq ?_
    refine k_seq ?_
    refine k_region ?_
    refine s_val (wk0 rfl) rfl rfl hE hp (v := (.int .i64 x1)) (ex_move rfl hE rfl) ?_
    intro a hE
    obtain ⟨x2, ex2, hm⟩ := bnd hm
    refine s_val (wk0 rfl) rfl rfl hE hp (v := (.int .i64 x2)) (ex_add rfl hE rfl rfl (inK_some ex2)) ?_
    intro a hE
    refine s_val (wk0 rfl) rfl rfl hE hp (v := (.int .i64 x2)) (ex_asn rfl hE rfl) ?_
    intro a hE
    refine s_nil ?_
    obtain ⟨b1, hb2, hm⟩ := bnd hm
    refine k_block (fun a w => ∃ (w1 : Value), Env 42 [(0, w1), (5, (.int .i64 b1.1))] a ∧ Hp Z ρ (OwnSl 65 w1 b1.2 :: Pt bp1c0 (.cells #[vp1c0] 23 (0, 0)) :: L) w) ?_ ?_
    · refine k_loop hb2 (fun s a w => ∃ (w1 : Value), Env 42 [(0, w1), (1, (.func (.func 38) #[] #[(.pointer (some ⟨bp1c0, 0, none⟩))])), (5, (.int .i64 s.1)), (6, (.int .i64 s.2.1))] a ∧ Hp Z ρ (OwnSl 65 w1 s.2.2 :: Pt bp1c0 (.cells #[vp1c0] 23 (0, 0)) :: L) w) ?_ ?_
      · exact ⟨_, hE.cut ⟨rfl, rfl, rfl, rfl, trivial⟩, hp⟩
      · rintro ⟨lp1_0, lp1_1, lp1_2⟩ st a w ⟨w1, hE, hp⟩ hl1
        have hE : Env 42 [(0, w1), (1, (.func (.func 38) #[] #[(.pointer (some ⟨bp1c0, 0, none⟩))])), (5, (.int .i64 lp1_0)), (6, (.int .i64 lp1_1))] a := hE
        have hp : Hp Z ρ (OwnSl 65 w1 lp1_2 :: _ :: L) w := hp
        replace hl1 : m_slices_DeleteFunc_similarity_Without_1_lp1 p1c0 lp1_0 lp1_1 lp1_2 = some st := hl1
        unfold m_slices_DeleteFunc_similarity_Without_1_lp1 at hl1
        refine k_seq ?_
        refine k_seq ?_
        refine k_region ?_
        refine s_val (wk0 rfl) rfl rfl hE hp (v := (.int .i64 lp1_1)) (ex_move rfl hE rfl) ?_
        intro a hE
        refine s_val (wk0 rfl) rfl rfl hE hp (v := w1) (ex_move rfl hE rfl) ?_
        intro a hE
        refine s_val (wk0 rfl) rfl rfl hE hp (v := (.int .i64 (lp1_2.length : Int))) (ex_len rfl hE rfl (OwnSl.len hp 0 rfl slty26)) ?_
        intro a hE
        refine s_val (wk0 rfl) rfl rfl hE hp (v := (.bool (decide (lp1_1 < (lp1_2.length : Int))))) (ex_lss rfl hE rfl rfl) ?_
        intro a hE
        refine s_nil ?_
        refine k_if hE rfl (fun hb3 => ?_) (fun hb3 => ?_)
        · replace hl1 := (it hb3).symm.trans hl1
          refine k_skip ?_
          refine k_seq ?_
          refine k_plain ?_
          refine k_seq ?_
          refine k_region ?_
          refine s_val (wk0 rfl) rfl rfl hE hp (v := w1) (ex_move rfl hE rfl) ?_
          intro a hE
          refine s_val (wk0 rfl) rfl rfl hE hp (v := (.int .i64 lp1_1)) (ex_move rfl hE rfl) ?_
          intro a hE
          obtain ⟨x3, ex3, hl1⟩ := bnd hl1
          obtain ⟨b2, b2o, b2r, b2v, b2f⟩ := OwnSl.at hp 0 rfl slty26 ex3
          have b2f : ∀ (j : Nat) (u : Value), ([(.int .i64 x3.hash), (.int .i64 x3.at_)] : List Value)[j]? = some u → ∀ ρ' L' w, Hp Z ρ' (OwnSl 65 w1 lp1_2 :: L') w → w.cell? ⟨b2, b2o + j, none⟩ = some u := b2f
          refine s_val (wk0 rfl) rfl rfl hE hp (v := (.pointer (some ⟨b2, b2o, none⟩))) (ex_index rfl hE rfl rfl b2r) ?_
          intro a hE
          refine s_val (wk0 rfl) rfl rfl hE hp (v := (.agg #[(.int .i64 x3.hash), (.int .i64 x3.at_)])) (ex_load rfl hE rfl (fun w hw => run_ldN (cs := [(.int .i64 x3.hash), (.int .i64 x3.at_)]) varty65 (fun j u hj => b2f j u hj _ _ w (hw.get 0 rfl)))) ?_
          intro a hE
          refine s_new (wk0 rfl) rfl rfl hE hp rfl [(.int .i64 0), (.int .i64 0)] (fun w => by simp [Instr.alloc, go_sem] <;> rfl) ?_
          intro a w b3 hE hp
          have hp : Hp Z ρ (Pt b3 (.cells #[(.int .i64 0), (.int .i64 0)] 65 (0, 0)) :: _ :: _ :: L) w := hp
          refine s_store (wk0 rfl) rfl hE hp rfl rfl rfl 0 rfl varty65.size_ rfl (allOne_mem ⟨rfl, rfl, trivial⟩) [(.int .i64 x3.hash), (.int .i64 x3.at_)] rfl ?_
          intro w hp
          have hp : Hp Z ρ (Pt b3 (.cells #[(.int .i64 x3.hash), (.int .i64 x3.at_)] 65 (0, 0)) :: _ :: _ :: L) w := hp
          refine s_nil ?_
          have hE := hE.cut (E' := [(0, w1), (1, (.func (.func 38) #[] #[(.pointer (some ⟨bp1c0, 0, none⟩))])), (5, (.int .i64 lp1_0)), (6, (.int .i64 lp1_1)), (7, (.pointer (some ⟨b3, 0, none⟩)))]) ⟨rfl, rfl, rfl, rfl, rfl, trivial⟩
          refine k_seq ?_
          refine k_region ?_
          refine s_val (wk0 rfl) rfl rfl hE hp (v := (.func (.func 38) #[] #[(.pointer (some ⟨bp1c0, 0, none⟩))])) (ex_move rfl hE rfl) ?_
          intro a hE
          refine s_val (wk0 rfl) rfl rfl hE hp (v := (.agg #[(.int .i64 x3.hash), (.int .i64 x3.at_)])) (ex_load rfl hE rfl (fun w hw => run_ldN (cs := [(.int .i64 x3.hash), (.int .i64 x3.at_)]) varty65 (Hp.cN 0 rfl 0 _ (sub_all rfl) w hw))) ?_
          intro a hE
          obtain ⟨x4, ex4, hl1⟩ := bnd hl1
          refine s_callv (wk0 rfl) rfl rfl hE rfl rfl [(.agg #[(.int .i64 x3.hash), (.int .i64 x3.at_)])] ⟨rfl, trivial⟩ ent38 (c_similarity_Without_1 x3 bp1c0 p1c0 vp1c0 hp1c0 (hp.get 2 rfl) x4 ex4) Ret.ret ?_
          intro v a w hR hE
          obtain ⟨rfl, hp⟩ := Ret.of hR
          have hp : Hp Z ρ (_ :: _ :: _ :: L) w := hp
          refine s_val (wk0 rfl) rfl rfl hE hp (v := (.bool (!x4))) (ex_not rfl hE rfl) ?_
          intro a hE
          refine s_nil ?_
          refine k_if hE rfl (fun hb4 => ?_) (fun hb4 => ?_)
          · replace hl1 := (it hb4).symm.trans hl1
            refine k_seq ?_
            refine k_region ?_
            refine s_val (wk0 rfl) rfl rfl hE hp (v := w1) (ex_move rfl hE rfl) ?_
            intro a hE
            refine s_val (wk0 rfl) rfl rfl hE hp (v := (.int .i64 lp1_0)) (ex_move rfl hE rfl) ?_
            intro a hE
            refine s_val (wk0 rfl) rfl rfl hE hp (v := (.agg #[(.int .i64 x3.hash), (.int .i64 x3.at_)])) (ex_load rfl hE rfl (fun w hw => run_ldN (cs := [(.int .i64 x3.hash), (.int .i64 x3.at_)]) varty65 (Hp.cN 1 rfl 0 _ (sub_all rfl) w hw))) ?_
            intro a hE
            obtain ⟨x5, ex5, hl1⟩ := bnd hl1
            obtain ⟨b4, b4o, b4r, b4v, b4f⟩ := OwnSl.at hp 2 rfl slty26 ex5
            have b4f : ∀ (j : Nat) (u : Value), ([(.int .i64 x5.hash), (.int .i64 x5.at_)] : List Value)[j]? = some u → ∀ ρ' L' w, Hp Z ρ' (OwnSl 65 w1 lp1_2 :: L') w → w.cell? ⟨b4, b4o + j, none⟩ = some u := b4f
            refine s_val (wk0 rfl) rfl rfl hE hp (v := (.pointer (some ⟨b4, b4o, none⟩))) (ex_index rfl hE rfl rfl b4r) ?_
            intro a hE
            refine s_stels (wk0 rfl) rfl hE hp rfl rfl rfl 2 rfl ex5 b4v (e' := x3) varty65.size_ rfl (fun q z hz => b4f q z hz _ _ w (hp.get 2 rfl)) ?_
            intro w hp
            have hp : Hp Z ρ (_ :: _ :: OwnSl 65 w1 (lp1_2.set lp1_0.toNat x3) :: L) w := hp
            refine s_nil ?_
            refine k_region ?_
            refine s_val (wk0 rfl) rfl rfl hE hp (v := (.int .i64 lp1_0)) (ex_move rfl hE rfl) ?_
            intro a hE
            obtain ⟨x6, ex6, hl1⟩ := bnd hl1
            refine s_val (wk0 rfl) rfl rfl hE hp (v := (.int .i64 x6)) (ex_add rfl hE rfl rfl (inK_some ex6)) ?_
            intro a hE
            refine s_val (wk0 rfl) rfl rfl hE hp (v := (.int .i64 x6)) (ex_asn rfl hE rfl) ?_
            intro a hE
            refine s_nil ?_
            refine k_region ?_
            refine s_val (wk0 rfl) rfl rfl hE hp (v := (.int .i64 lp1_1)) (ex_move rfl hE rfl) ?_
            intro a hE
            obtain ⟨x7, ex7, hl1⟩ := bnd hl1
            refine s_val (wk0 rfl) rfl rfl hE hp (v := (.int .i64 x7)) (ex_add rfl hE rfl rfl (inK_some ex7)) ?_
            intro a hE
            refine s_val (wk0 rfl) rfl rfl hE hp (v := (.int .i64 x7)) (ex_asn rfl hE rfl) ?_
            intro a hE
            refine s_nil ?_
            exact ⟨_, (Option.some.inj hl1).symm, _, hE.cut ⟨rfl, rfl, rfl, rfl, trivial⟩, ((((hp.get 0 rfl).get 2 rfl).get 2 rfl).drop)⟩
          · replace hl1 := (ie hb4).symm.trans hl1
            refine k_skip ?_
            refine k_region ?_
            refine s_val (wk0 rfl) rfl rfl hE hp (v := (.int .i64 lp1_1)) (ex_move rfl hE rfl) ?_
            intro a hE
            obtain ⟨x8, ex8, hl1⟩ := bnd hl1
            refine s_val (wk0 rfl) rfl rfl hE hp (v := (.int .i64 x8)) (ex_add rfl hE rfl rfl (inK_some ex8)) ?_
            intro a hE
            refine s_val (wk0 rfl) rfl rfl hE hp (v := (.int .i64 x8)) (ex_asn rfl hE rfl) ?_
            intro a hE
            refine s_nil ?_
            exact ⟨_, (Option.some.inj hl1).symm, _, hE.cut ⟨rfl, rfl, rfl, rfl, trivial⟩, ((((hp.get 0 rfl).get 2 rfl).get 2 rfl).drop)⟩
        · replace hl1 := (ie hb3).symm.trans hl1
          refine k_exit ?_
          refine ⟨_, (Option.some.inj hl1).symm, fun hbb => ?_⟩
          subst hbb
          exact ⟨_, hE.cut ⟨rfl, rfl, trivial⟩, hp⟩
    · rintro a w ⟨w1, hE, hp⟩
      refine k_seq ?_
      refine k_region ?_
      refine s_val (wk0 rfl) rfl rfl hE hp (v := w1) (ex_move rfl hE rfl) ?_
      intro a hE
      refine s_val (wk0 rfl) rfl rfl hE hp (v := (.int .i64 b1.1)) (ex_move rfl hE rfl) ?_
      intro a hE
      obtain ⟨x9, ex9, hm⟩ := bnd hm
      obtain ⟨v1, v1r⟩ := OwnSl.view hp 0 rfl slty26 (some (.i64, b1.1)) none rfl rfl ex9
      refine s_val (wk0 rfl) rfl rfl hE hp (v := v1) (ex_sl rfl hE rfl (some (.i64, b1.1)) none (by exact rfl) (by exact trivial) v1r) ?_
      intro a hE
      refine s_clear (wk0 rfl) rfl hE hp rfl slty26 zero65 rfl 0 rfl (.i64, b1.1) ex9 v1r (by kernel_rfl) ?_
      intro v2 w v2r hp
      have hp : Hp Z ρ (OwnSl 65 v2 (b1.2.take b1.1.toNat) :: _ :: L) w := hp
      refine s_nil ?_
      have hE := hE.cut (E' := [(0, w1), (5, (.int .i64 b1.1))]) ⟨rfl, rfl, trivial⟩
      refine k_seq ?_
      refine k_region ?_
      refine s_val (wk0 rfl) rfl rfl hE hp (v := w1) (ex_move rfl hE rfl) ?_
      intro a hE
      refine s_val (wk0 rfl) rfl rfl hE hp (v := (.int .i64 b1.1)) (ex_move rfl hE rfl) ?_
      intro a hE
      refine s_val (wk0 rfl) rfl rfl hE hp (v := v2) (ex_sl rfl hE rfl none (some (.i64, b1.1)) (by exact trivial) (by exact rfl) (v2r .i64)) ?_
      intro a hE
      refine s_val (wk0 rfl) rfl rfl hE hp (v := v2) (ex_asn rfl hE rfl) ?_
      intro a hE
      refine s_nil ?_
      refine k_ret ?_
      obtain rfl := Option.some.inj hm
      exact ret1 hE rfl rfl ⟨_, rfl, _, rfl, hp⟩
/- assessor/similarity.Without -/
set_option maxRecDepth 100000 in
set_option maxHeartbeats 4000000 in
theorem c_similarity_Without {Z : World} {ρ : PH} {L : List Atom} {w : World} (p0 : (List Mark)) (vp0 : Value) (hp0 : RoSl ρ vp0 p0) (p1 : (List Int)) (vp1 : Value) (hp1 : RoSl ρ vp1 p1) (hp : Hp Z ρ (L) w) (r : (List Mark)) (hm : m_similarity_Without p0 p1 = some r) :
    Calls Try.prog 16 #[vp0, vp1] w (Ret fun v w' => ∃ (vr1 : Value), v = vr1 ∧ Hp Z ρ (OwnSl 65 vr1 r :: L) w') := by
  refine enter (N := 9) Try.func16 rfl rfl [(0, vp0), (1, vp1)] rfl (argsIn_mem ⟨rfl, rfl, trivial⟩) fun a hE => ?_
  unfold m_similarity_Without at hm
  refine k_seq ?_
  refine k_region ?_
  refine s_box (wk0 rfl) rfl rfl hE hp rfl (v := vp1) rfl ?_
  intro a w b1 hE hp
  rw [RoSl.cells hp1] at hp
  have hp : Hp Z ρ (Pt b1 (.cells #[vp1] 23 (0, 0)) :: L) w := hp
  refine s_val (wk0 rfl) rfl rfl hE hp (v := (.slice none 0 0)) (ex_asn rfl hE rfl) ?_
  intro a hE
  refine s_nil ?_
  refine k_seq ?_
  refine k_region ?_
  refine s_val (wk0 rfl) rfl rfl hE hp (v := vp0) (ex_move rfl hE rfl) ?_
  intro a hE
  obtain ⟨x1, ex1, hm⟩ := bnd hm
  refine s_call (wk0 rfl) rfl rfl hE rfl [vp0] ⟨rfl, trivial⟩ ent37 (c_clone37 p0 vp0 hp0 hp x1 ex1) Ret.ret ?_
  intro v1 a w hR hE
  obtain ⟨u, hu, hp⟩ := Ret.of hR
  rw [← hu] at hp
  have hp : Hp Z ρ (OwnSl 65 v1 x1 :: _ :: L) w := hp
  refine s_val (wk0 rfl) rfl rfl hE hp (v := (.func (.func 38) #[] #[(.pointer (some ⟨b1, 0, none⟩))])) (ex_fn rfl hE [(.pointer (some ⟨b1, 0, none⟩))] (by exact ⟨rfl, trivial⟩)) ?_
  intro a hE
  obtain ⟨x2, ex2, hm⟩ := bnd hm
  refine s_call (wk0 rfl) rfl rfl hE rfl [v1, (.func (.func 38) #[] #[(.pointer (some ⟨b1, 0, none⟩))])] ⟨rfl, rfl, trivial⟩ ent36 (c_slices_DeleteFunc_similarity_Without_1 x1 v1 b1 p1 vp1 hp1 (hp.get 1 rfl) x2 ex2) Ret.ret ?_
  intro vr1 a w hR hE
  obtain ⟨u, rfl, hp⟩ := Ret.of hR
  have hp : Hp Z ρ (OwnSl 65 vr1 x2 :: _ :: L) w := hp
  refine s_val (wk0 rfl) rfl rfl hE hp (v := vr1) (ex_asn rfl hE rfl) ?_
  intro a hE
  refine s_nil ?_
  refine k_ret ?_
  obtain rfl := Option.some.inj hm
  exact ret1 hE rfl rfl ⟨_, rfl, _, rfl, ((hp.get 1 rfl).drop)⟩
/- assessor/similarity.Frequent -/
set_option maxRecDepth 100000 in
set_option maxHeartbeats 4000000 in
theorem c_similarity_Frequent {Z : World} {ρ : PH} {L : List Atom} {w : World} (p0 : Int) (p1 : (List (List Mark))) (vp1 : Value) (hp1 : RoSl ρ vp1 p1) (hp : Hp Z ρ (L) w) (r : (List Int)) (hm : m_similarity_Frequent p0 p1 = some r) :
    Calls Try.prog 20 #[(.int .i64 p0), vp1] w (Ret fun v w' => ∃ (vr1 : Value), v = vr1 ∧ Hp Z ρ (OwnSl 3 vr1 r :: L) w') := by
  refine enter (N := 34) Try.func20 rfl rfl [(0, (.int .i64 p0)), (1, vp1)] rfl (argsIn_mem ⟨rfl, rfl, trivial⟩) fun a hE => ?_
  unfold m_similarity_Frequent at hm
  refine k_seq ?_
  refine k_region ?_
  refine s_box (wk0 rfl) rfl rfl hE hp rfl (v := (.int .i64 p0)) rfl ?_
  intro a w b1 hE hp
  have hp : Hp Z ρ (Pt b1 (.cells #[(.int .i64 p0)] 3 (0, 0)) :: L) w := hp
  refine s_val (wk0 rfl) rfl rfl hE hp (v := (.slice none 0 0)) (ex_asn rfl hE rfl) ?_
  intro a hE
  refine s_nil ?_
  refine k_seq ?_
  refine k_region ?_
  refine s_mkmap (κ := Int) (β := Int) (wk0 rfl) rfl rfl hE hp rfl ?_
  intro a w b2 hE hp
  have hp := MapU.of hp
  have hp : Hp Z ρ (MapU b2 ([] : List (Int × Int)) :: _ :: L) w := hp
  refine s_val (wk0 rfl) rfl rfl hE hp (v := (.map (some b2))) (ex_asn rfl hE rfl) ?_
  intro a hE
  refine s_nil ?_
  refine k_seq ?_
  refine k_seq ?_
  refine k_region ?_
  refine s_val (wk0 rfl) rfl rfl hE hp (v := vp1) (ex_move rfl hE rfl) ?_
  intro a hE
  refine s_val (wk0 rfl) rfl rfl hE hp (v := (.int .i64 (p1.length : Int))) (ex_len rfl hE rfl (RoSl.len hp1 slty22)) ?_
  intro a hE
  refine s_val (wk0 rfl) rfl rfl hE hp (v := (.int .i64 0)) (ex_move rfl hE rfl) ?_
  intro a hE
  refine s_nil ?_
  obtain ⟨b3, hb1, hm⟩ := bnd hm
  refine k_block (fun a w => Env 34 [(2, (.pointer (some ⟨b1, 0, none⟩))), (5, (.map (some b2)))] a ∧ Hp Z ρ (MapU b2 (b3 : List (Int × Int)) :: Pt b1 (.cells #[(.int .i64 p0)] 3 (0, 0)) :: L) w) ?_ ?_
  · refine k_loop hb1 (fun s a w => Env 34 [(2, (.pointer (some ⟨b1, 0, none⟩))), (5, (.map (some b2))), (10, vp1), (11, (.int .i64 (p1.length : Int))), (12, (.int .i64 s.1))] a ∧ Hp Z ρ (MapU b2 (s.2 : List (Int × Int)) :: Pt b1 (.cells #[(.int .i64 p0)] 3 (0, 0)) :: L) w) ?_ ?_
    · exact ⟨hE.cut ⟨rfl, rfl, rfl, rfl, rfl, trivial⟩, hp⟩
    · rintro ⟨lp1_0, lp1_1⟩ st a w ⟨hE, hp⟩ hl1
      have hE : Env 34 [(2, (.pointer (some ⟨b1, 0, none⟩))), (5, (.map (some b2))), (10, vp1), (11, (.int .i64 (p1.length : Int))), (12, (.int .i64 lp1_0))] a := hE
      have hp : Hp Z ρ (MapU b2 (lp1_1 : List (Int × Int)) :: _ :: L) w := hp
      replace hl1 : m_similarity_Frequent_lp1 p1 lp1_0 lp1_1 = some st := hl1
      unfold m_similarity_Frequent_lp1 at hl1
      refine k_seq ?_
      refine k_region ?_
      refine s_val (wk0 rfl) rfl rfl hE hp (v := (.bool (decide (lp1_0 < (p1.length : Int))))) (ex_lss rfl hE rfl rfl) ?_
      intro a hE
      refine s_nil ?_
      refine k_seq ?_
      refine k_if hE rfl (fun hb2 => ?_) (fun hb2 => ?_)
      · replace hl1 := (it hb2).symm.trans hl1
        refine k_skip ?_
        refine k_seq ?_
        refine k_plain ?_
        refine k_seq ?_
        refine k_region ?_
        obtain ⟨x1, ex1, hl1⟩ := bnd hl1
        obtain ⟨b4, b4o, b4c, b4r, b4k, b4f⟩ := RoSl.at hp1 slty22 ex1
        obtain ⟨vb4, rfl, hb4⟩ := b4k
        have b4f : AtP ρ b4 b4o [vb4] := b4f
        refine s_val (wk0 rfl) rfl rfl hE hp (v := (.pointer (some ⟨b4, b4o, none⟩))) (ex_index rfl hE rfl rfl b4r) ?_
        intro a hE
        refine s_val (wk0 rfl) rfl rfl hE hp (v := vb4) (ex_load rfl hE rfl (fun w hw => run_ld1 varty26 (b4f.c 0 rfl w hw))) ?_
        intro a hE
        refine s_val (wk0 rfl) rfl rfl hE hp (v := vb4) (ex_asn rfl hE rfl) ?_
        intro a hE
        refine s_nil ?_
        refine k_seq ?_
        refine k_region ?_
        refine s_val (wk0 rfl) rfl rfl hE hp (v := vb4) (ex_move rfl hE rfl) ?_
        intro a hE
        obtain ⟨x2, ex2, hl1⟩ := bnd hl1
        refine s_call (wk0 rfl) rfl rfl hE rfl [vb4] ⟨rfl, trivial⟩ ent34 (c_similarity_set x1 vb4 hb4 hp x2 ex2) Ret.ret ?_
        intro v a w hR hE
        obtain ⟨br1, rfl, hp⟩ := Ret.of hR
        have hp : Hp Z ρ (MapA br1 (x2 : List (Int × Bool)) :: _ :: _ :: L) w := hp
        refine s_range mapty70 (wk0 rfl) rfl rfl hE (hp.get 0 rfl) rfl rfl ?_
        intro a w b5 hE hp
        have hp : Hp Z ρ (MapIt br1 b5 (x2 : List (Int × Bool)) x2 none :: _ :: _ :: L) w := hp
        refine s_nil ?_
        have hE := hE.cut (E' := [(2, (.pointer (some ⟨b1, 0, none⟩))), (5, (.map (some b2))), (10, vp1), (11, (.int .i64 (p1.length : Int))), (12, (.int .i64 lp1_0)), (18, (.pointer (some ⟨b5, 0, none⟩)))]) ⟨rfl, rfl, rfl, rfl, rfl, rfl, trivial⟩
        obtain ⟨b6, hb3, hl1⟩ := bnd hl1
        refine k_block (fun a w => Env 34 [(2, (.pointer (some ⟨b1, 0, none⟩))), (5, (.map (some b2))), (10, vp1), (11, (.int .i64 (p1.length : Int))), (12, (.int .i64 lp1_0))] a ∧ Hp Z ρ (MapA br1 (x2 : List (Int × Bool)) :: MapU b2 (b6 : List (Int × Int)) :: Pt b1 (.cells #[(.int .i64 p0)] 3 (0, 0)) :: L) w) ?_ ?_
        · refine k_loopP hb3 (fun rem1 s a w => Env 34 [(2, (.pointer (some ⟨b1, 0, none⟩))), (5, (.map (some b2))), (10, vp1), (11, (.int .i64 (p1.length : Int))), (12, (.int .i64 lp1_0)), (18, (.pointer (some ⟨b5, 0, none⟩)))] a ∧ Hp Z ρ (MapIt br1 b5 (x2 : List (Int × Bool)) rem1 none :: MapU b2 (s : List (Int × Int)) :: Pt b1 (.cells #[(.int .i64 p0)] 3 (0, 0)) :: L) w) ?_ ?_
          · exact ⟨hE.cut ⟨rfl, rfl, rfl, rfl, rfl, rfl, trivial⟩, hp⟩
          · rintro rem1 lp2_0 a w ⟨hE, hp⟩ hf1
            have hE : Env 34 [(2, (.pointer (some ⟨b1, 0, none⟩))), (5, (.map (some b2))), (10, vp1), (11, (.int .i64 (p1.length : Int))), (12, (.int .i64 lp1_0)), (18, (.pointer (some ⟨b5, 0, none⟩)))] a := hE
            have hp : Hp Z ρ (MapIt br1 b5 (x2 : List (Int × Bool)) rem1 none :: MapU b2 (lp2_0 : List (Int × Int)) :: _ :: L) w := hp
            refine k_seq ?_
            refine k_region ?_
            refine s_next (wk0 rfl) rfl rfl hE (hp.get 0 rfl) rfl rfl ?_ ?_
            · intro hrem a hE
              subst hrem
              have hn1 := foldP_end hf1
              try dsimp only at hn1
              refine s_val (wk0 rfl) rfl rfl hE hp (v := (.bool false)) (ex_extract rfl hE rfl rfl) ?_
              intro a hE
              refine s_nil ?_
              refine k_seq ?_
              refine k_if hE rfl (fun hb => absurd hb (by decide)) (fun hb => ?_)
              refine k_exit ?_
              obtain rfl := Option.some.inj hn1
              have hp := MapIt.done (hp.get 0 rfl)
              exact ⟨hE.cut ⟨rfl, rfl, rfl, rfl, rfl, trivial⟩, hp⟩
            · rintro en1 rem1' hperm hl2l a w hE hp
              have hE := hE.eqv (v' := (.tuple #[(.bool true), (.int .i64 en1.1), (.bool en1.2)])) rfl
              have hp : Hp Z ρ (MapIt br1 b5 (x2 : List (Int × Bool)) rem1' (some en1) :: _ :: _ :: L) w := hp
              obtain ⟨st, hl2, hl2s⟩ := foldP_more hf1 hperm
              replace hl2 : m_similarity_Frequent_lp2  en1 lp2_0 = some st := hl2
              unfold m_similarity_Frequent_lp2 at hl2
              refine s_val (wk0 rfl) rfl rfl hE hp (v := (.bool true)) (ex_extract rfl hE rfl rfl) ?_
              intro a hE
              refine s_nil ?_
              refine k_seq ?_
              refine k_if hE rfl (fun hb => ?_) (fun hb => absurd hb (by decide))
              refine k_skip ?_
              refine k_plain ?_
              refine k_seq ?_
              refine k_region ?_
              refine s_val (wk0 rfl) rfl rfl hE hp (v := (.tuple #[(.int .i64 en1.1), (.bool en1.2)])) (ex_entry (c := en1) rfl hE 0 rfl rfl) ?_
              intro a hE
              refine s_val (wk0 rfl) rfl rfl hE hp (v := (.int .i64 en1.1)) (ex_extract rfl hE rfl rfl) ?_
              intro a hE
              refine s_val (wk0 rfl) rfl rfl hE hp (v := (.int .i64 en1.1)) (ex_asn rfl hE rfl) ?_
              intro a hE
              refine s_nil ?_
              refine k_region ?_
              refine s_val (wk0 rfl) rfl rfl hE hp (v := (.map (some b2))) (ex_move rfl hE rfl) ?_
              intro a hE
              refine s_val (wk0 rfl) rfl rfl hE hp (v := (.int .i64 en1.1)) (ex_move rfl hE rfl) ?_
              intro a hE
              refine s_val (wk0 rfl) rfl rfl hE hp (v := (.int .i64 ((mget (lp2_0 : List (Int × Int)) en1.1).getD 0))) (ex_mget0U (zd := (0 : Int)) kt3 mapty49 zero3 rfl hE 1 (k := en1.1) rfl rfl rfl) ?_
              intro a hE
              obtain ⟨x3, ex3, hl2⟩ := bnd hl2
              refine s_val (wk0 rfl) rfl rfl hE hp (v := (.int .i64 x3)) (ex_add rfl hE rfl rfl (inK_some ex3)) ?_
              intro a hE
              refine s_mputU kt3 mapty49 (wk0 rfl) rfl hE hp rfl 1 (k := en1.1) (v := x3) rfl rfl rfl rfl ?_
              intro w hp
              have hp : Hp Z ρ (_ :: MapU b2 (sput lp2_0 en1.1 x3 : List (Int × Int)) :: _ :: L) w := hp
              refine s_nil ?_
              have hE := hE.cut (E' := [(2, (.pointer (some ⟨b1, 0, none⟩))), (5, (.map (some b2))), (10, vp1), (11, (.int .i64 (p1.length : Int))), (12, (.int .i64 lp1_0)), (18, (.pointer (some ⟨b5, 0, none⟩)))]) ⟨rfl, rfl, rfl, rfl, rfl, rfl, trivial⟩
              obtain rfl := Option.some.inj hl2
              have hp := MapIt.forget (hp.get 0 rfl)
              exact ⟨_, _, hl2l, hl2s, hE.cut ⟨rfl, rfl, rfl, rfl, rfl, rfl, trivial⟩, hp⟩
        · rintro a w ⟨hE, hp⟩
          refine k_region ?_
          obtain ⟨x4, ex4, hl1⟩ := bnd hl1
          refine s_val (wk0 rfl) rfl rfl hE hp (v := (.int .i64 x4)) (ex_add rfl hE rfl rfl (inK_some ex4)) ?_
          intro a hE
          refine s_val (wk0 rfl) rfl rfl hE hp (v := (.int .i64 x4)) (ex_move rfl hE rfl) ?_
          intro a hE
          refine s_nil ?_
          exact ⟨_, (Option.some.inj hl1).symm, hE.cut ⟨rfl, rfl, rfl, rfl, rfl, trivial⟩, (hp.drop)⟩
      · replace hl1 := (ie hb2).symm.trans hl1
        refine k_exit ?_
        refine ⟨_, (Option.some.inj hl1).symm, fun hbb => ?_⟩
        subst hbb
        exact ⟨hE.cut ⟨rfl, rfl, trivial⟩, hp⟩
  · rintro a w ⟨hE, hp⟩
    refine k_seq ?_
    refine k_region ?_
    refine s_val (wk0 rfl) rfl rfl hE hp (v := (.map (some b2))) (ex_move rfl hE rfl) ?_
    intro a hE
    refine s_val (wk0 rfl) rfl rfl hE hp (v := (.func (.func 41) #[] #[(.pointer (some ⟨b1, 0, none⟩))])) (ex_fn rfl hE [(.pointer (some ⟨b1, 0, none⟩))] (by exact ⟨rfl, trivial⟩)) ?_
    intro a hE
    obtain ⟨x5, ex5, hm⟩ := bnd hm
    refine s_call (wk0 rfl) rfl rfl hE rfl [(.map (some b2)), (.func (.func 41) #[] #[(.pointer (some ⟨b1, 0, none⟩))])] ⟨rfl, rfl, trivial⟩ ent40 (c_mdel b3 p0 (hp.get 1 rfl) x5 ex5) Ret.ret ?_
    intro v a w hR hE
    obtain ⟨rfl, hp⟩ := Ret.of hR
    have hp : Hp Z ρ (_ :: MapU b2 (x5 : List (Int × Int)) :: L) w := hp
    refine s_nil ?_
    refine k_seq ?_
    refine k_region ?_
    refine s_val (wk0 rfl) rfl rfl hE hp (v := (.map (some b2))) (ex_move rfl hE rfl) ?_
    intro a hE
    refine s_call (wk0 rfl) rfl rfl hE rfl [(.map (some b2))] ⟨rfl, trivial⟩ ent42 (c_keys_ii b2 hp) Ret.ret ?_
    intro v a w hR hE
    obtain ⟨b7, rfl, hp⟩ := Ret.of hR
    have hp : Hp Z ρ (Pt b7 (.cells #[(.map (some b2))] 49 (0, 0)) :: _ :: _ :: L) w := hp
    obtain ⟨x6, ex6, hm⟩ := bnd hm
    refine s_call (wk0 rfl) rfl rfl hE rfl [(.func (.func 63) #[] #[.pointer (some ⟨b7, 0, none⟩)])] ⟨rfl, trivial⟩ ent32 (c_sorted_iiU x5 ((hp.get 2 rfl).get 1 rfl) x6 ex6) Ret.ret ?_
    intro v1 a w hR hE
    obtain ⟨u, hu, hp⟩ := Ret.of hR
    rw [← hu] at hp
    have hp : Hp Z ρ (OwnSl 3 v1 x6 :: _ :: _ :: _ :: L) w := hp
    refine s_val (wk0 rfl) rfl rfl hE hp (v := v1) (ex_asn rfl hE rfl) ?_
    intro a hE
    refine s_nil ?_
    refine k_ret ?_
    obtain rfl := Option.some.inj hm
    exact ret1 hE rfl rfl ⟨_, rfl, _, rfl, ((((((hp.get 3 rfl).drop).get 2 rfl).drop).get 1 rfl).drop)⟩
/- assessor/similarity.Pairs -/
set_option maxRecDepth 100000 in
set_option maxHeartbeats 4000000 in
theorem c_similarity_Pairs {Z : World} {ρ : PH} {L : List Atom} {w : World} (p0 : Int) (p1 : Int) (p2 : (List (List Mark))) (vp2 : Value) (hp2 : RoSl ρ vp2 p2) (hp : Hp Z ρ (L) w) (r : ((List Pair) × Int)) (hm : m_similarity_Pairs p0 p1 p2 = some r) :
    Calls Try.prog 22 #[(.int .i64 p0), (.int .i64 p1), vp2] w (Ret fun v w' => ∃ (ρ' : PH) (vr1 : Value), ρ.le ρ' ∧ v = .tuple #[vr1, (.int .i64 r.2)] ∧ RoSl ρ' vr1 r.1 ∧ Hp Z ρ' (L) w') := by
  refine enter (N := 78) Try.func22 rfl rfl [(0, (.int .i64 p0)), (1, (.int .i64 p1)), (2, vp2)] rfl (argsIn_mem ⟨rfl, rfl, rfl, trivial⟩) fun a hE => ?_
  unfold m_similarity_Pairs at hm
  refine k_seq ?_
  refine k_region ?_
  refine s_val (wk0 rfl) rfl rfl hE hp (v := (.slice none 0 0)) (ex_asn rfl hE rfl) ?_
  intro a hE
  refine s_val (wk0 rfl) rfl rfl hE hp (v := (.int .i64 0)) (ex_asn rfl hE rfl) ?_
  intro a hE
  refine s_nil ?_
  refine k_seq ?_
  refine k_plain ?_
  refine k_seq ?_
  refine k_region ?_
  refine s_val (wk0 rfl) rfl rfl hE hp (v := (.int .i64 p1)) (ex_move rfl hE rfl) ?_
  intro a hE
  refine s_val (wk0 rfl) rfl rfl hE hp (v := (.bool (decide (p1 < 1)))) (ex_lss rfl hE rfl rfl) ?_
  intro a hE
  refine s_val (wk0 rfl) rfl rfl hE hp (v := (.bool (decide (p1 < 1)))) (ex_move rfl hE rfl) ?_
  intro a hE
  refine s_cut [_, _, _] (fun a w => Env 78 [(19, (.bool ((decide (p1 < 1)) || (decide (10000 < p1))))), (0, (.int .i64 p0)), (1, (.int .i64 p1)), (2, vp2)] a ∧ Hp Z ρ (L) w) ?_ ?_
  · rcases Bool.eq_false_or_eq_true (decide (p1 < 1)) with hb1 | hb1
    ·
      refine s_skip (wk2 hE rfl rfl rfl hb1) rfl rfl hE ?_
      intro a hE
      refine s_skip (wk2 hE rfl rfl rfl hb1) rfl rfl hE ?_
      intro a hE
      refine s_val (wk0 rfl) rfl rfl hE hp (v := (.bool true)) (ex_pick1 rfl hE rfl hb1 rfl) ?_
      intro a hE
      have hE := hE.eqv (v' := (.bool ((decide (p1 < 1)) || (decide (10000 < p1))))) (by rw [hb1]; rfl)
      exact s_nil ⟨hE.cut ⟨rfl, rfl, rfl, rfl, trivial⟩, hp⟩
    ·
      refine s_val (wk1 hE rfl rfl rfl hb1) rfl rfl hE hp (v := (.int .i64 p1)) (ex_move rfl hE rfl) ?_
      intro a hE
      refine s_val (wk1 hE rfl rfl rfl hb1) rfl rfl hE hp (v := (.bool (decide (10000 < p1)))) (ex_gtr rfl hE rfl rfl) ?_
      intro a hE
      refine s_val (wk0 rfl) rfl rfl hE hp (v := (.bool (decide (10000 < p1)))) (ex_pick0 rfl hE rfl hb1 rfl) ?_
      intro a hE
      have hE := hE.eqv (v' := (.bool ((decide (p1 < 1)) || (decide (10000 < p1))))) (by rw [hb1]; rfl)
      exact s_nil ⟨hE.cut ⟨rfl, rfl, rfl, rfl, trivial⟩, hp⟩
  · rintro a w ⟨hE, hp⟩
    refine s_val (wk0 rfl) rfl rfl hE hp (v := (.bool ((decide (p1 < 1)) || (decide (10000 < p1))))) (ex_move rfl hE rfl) ?_
    intro a hE
    refine s_cut [_, _, _] (fun a w => Env 78 [(23, (.bool (((decide (p1 < 1)) || (decide (10000 < p1))) || (decide (p0 < 0))))), (0, (.int .i64 p0)), (1, (.int .i64 p1)), (2, vp2)] a ∧ Hp Z ρ (L) w) ?_ ?_
    · rcases Bool.eq_false_or_eq_true ((decide (p1 < 1)) || (decide (10000 < p1))) with hb2 | hb2
      ·
        refine s_skip (wk2 hE rfl rfl rfl hb2) rfl rfl hE ?_
        intro a hE
        refine s_skip (wk2 hE rfl rfl rfl hb2) rfl rfl hE ?_
        intro a hE
        refine s_val (wk0 rfl) rfl rfl hE hp (v := (.bool true)) (ex_pick1 rfl hE rfl hb2 rfl) ?_
        intro a hE
        have hE := hE.eqv (v' := (.bool (((decide (p1 < 1)) || (decide (10000 < p1))) || (decide (p0 < 0))))) (by rw [hb2]; rfl)
        exact s_nil ⟨hE.cut ⟨rfl, rfl, rfl, rfl, trivial⟩, hp⟩
      ·
        refine s_val (wk1 hE rfl rfl rfl hb2) rfl rfl hE hp (v := (.int .i64 p0)) (ex_move rfl hE rfl) ?_
        intro a hE
        refine s_val (wk1 hE rfl rfl rfl hb2) rfl rfl hE hp (v := (.bool (decide (p0 < 0)))) (ex_lss rfl hE rfl rfl) ?_
        intro a hE
        refine s_val (wk0 rfl) rfl rfl hE hp (v := (.bool (decide (p0 < 0)))) (ex_pick0 rfl hE rfl hb2 rfl) ?_
        intro a hE
        have hE := hE.eqv (v' := (.bool (((decide (p1 < 1)) || (decide (10000 < p1))) || (decide (p0 < 0))))) (by rw [hb2]; rfl)
        exact s_nil ⟨hE.cut ⟨rfl, rfl, rfl, rfl, trivial⟩, hp⟩
    · rintro a w ⟨hE, hp⟩
      refine s_val (wk0 rfl) rfl rfl hE hp (v := (.bool (((decide (p1 < 1)) || (decide (10000 < p1))) || (decide (p0 < 0))))) (ex_move rfl hE rfl) ?_
      intro a hE
      refine s_cut [_, _, _, _] (fun a w => Env 78 [(28, (.bool ((((decide (p1 < 1)) || (decide (10000 < p1))) || (decide (p0 < 0))) || (decide (p1 < p0))))), (0, (.int .i64 p0)), (1, (.int .i64 p1)), (2, vp2)] a ∧ Hp Z ρ (L) w) ?_ ?_
      · rcases Bool.eq_false_or_eq_true (((decide (p1 < 1)) || (decide (10000 < p1))) || (decide (p0 < 0))) with hb3 | hb3
        ·
          refine s_skip (wk2 hE rfl rfl rfl hb3) rfl rfl hE ?_
          intro a hE
          refine s_skip (wk2 hE rfl rfl rfl hb3) rfl rfl hE ?_
          intro a hE
          refine s_skip (wk2 hE rfl rfl rfl hb3) rfl rfl hE ?_
          intro a hE
          refine s_val (wk0 rfl) rfl rfl hE hp (v := (.bool true)) (ex_pick1 rfl hE rfl hb3 rfl) ?_
          intro a hE
          have hE := hE.eqv (v' := (.bool ((((decide (p1 < 1)) || (decide (10000 < p1))) || (decide (p0 < 0))) || (decide (p1 < p0))))) (by rw [hb3]; rfl)
          exact s_nil ⟨hE.cut ⟨rfl, rfl, rfl, rfl, trivial⟩, hp⟩
        ·
          refine s_val (wk1 hE rfl rfl rfl hb3) rfl rfl hE hp (v := (.int .i64 p0)) (ex_move rfl hE rfl) ?_
          intro a hE
          refine s_val (wk1 hE rfl rfl rfl hb3) rfl rfl hE hp (v := (.int .i64 p1)) (ex_move rfl hE rfl) ?_
          intro a hE
          refine s_val (wk1 hE rfl rfl rfl hb3) rfl rfl hE hp (v := (.bool (decide (p1 < p0)))) (ex_gtr rfl hE rfl rfl) ?_
          intro a hE
          refine s_val (wk0 rfl) rfl rfl hE hp (v := (.bool (decide (p1 < p0)))) (ex_pick0 rfl hE rfl hb3 rfl) ?_
          intro a hE
          have hE := hE.eqv (v' := (.bool ((((decide (p1 < 1)) || (decide (10000 < p1))) || (decide (p0 < 0))) || (decide (p1 < p0))))) (by rw [hb3]; rfl)
          exact s_nil ⟨hE.cut ⟨rfl, rfl, rfl, rfl, trivial⟩, hp⟩
      · rintro a w ⟨hE, hp⟩
        refine s_val (wk0 rfl) rfl rfl hE hp (v := (.bool ((((decide (p1 < 1)) || (decide (10000 < p1))) || (decide (p0 < 0))) || (decide (p1 < p0))))) (ex_asn rfl hE rfl) ?_
        intro a hE
        refine s_nil ?_
        refine k_if hE rfl (fun hb4 => ?_) (fun hb4 => ?_)
        · replace hm := (it hb4).symm.trans hm
          refine k_seq ?_
          refine k_region ?_
          refine s_val (wk0 rfl) rfl rfl hE hp (v := (.slice none 0 0)) (ex_asn rfl hE rfl) ?_
          intro a hE
          refine s_val (wk0 rfl) rfl rfl hE hp (v := (.int .i64 1)) (ex_asn rfl hE rfl) ?_
          intro a hE
          refine s_nil ?_
          refine k_ret ?_
          obtain rfl := Option.some.inj hm
          exact ret2 hE rfl rfl rfl ⟨_, rfl, _, _, (PH.le.rf _), rfl, (RoSl.nil _), hp⟩
        · replace hm := (ie hb4).symm.trans hm
          refine k_seq ?_
          refine k_region ?_
          refine s_val (wk0 rfl) rfl rfl hE hp (v := vp2) (ex_move rfl hE rfl) ?_
          intro a hE
          refine s_val (wk0 rfl) rfl rfl hE hp (v := (.int .i64 (p2.length : Int))) (ex_len rfl hE rfl (RoSl.len hp2 slty22)) ?_
          intro a hE
          refine s_val (wk0 rfl) rfl rfl hE hp (v := (.bool (decide (64 < (p2.length : Int))))) (ex_gtr rfl hE rfl rfl) ?_
          intro a hE
          refine s_val (wk0 rfl) rfl rfl hE hp (v := (.bool (decide (64 < (p2.length : Int))))) (ex_asn rfl hE rfl) ?_
          intro a hE
          refine s_nil ?_
          refine k_if hE rfl (fun hb5 => ?_) (fun hb5 => ?_)
          · replace hm := (it hb5).symm.trans hm
            refine k_seq ?_
            refine k_region ?_
            refine s_val (wk0 rfl) rfl rfl hE hp (v := (.slice none 0 0)) (ex_asn rfl hE rfl) ?_
            intro a hE
            refine s_val (wk0 rfl) rfl rfl hE hp (v := (.int .i64 8)) (ex_asn rfl hE rfl) ?_
            intro a hE
            refine s_nil ?_
            refine k_ret ?_
            obtain rfl := Option.some.inj hm
            exact ret2 hE rfl rfl rfl ⟨_, rfl, _, _, (PH.le.rf _), rfl, (RoSl.nil _), hp⟩
          · replace hm := (ie hb5).symm.trans hm
            refine k_skip ?_
            refine k_seq ?_
            refine k_region ?_
            refine s_val (wk0 rfl) rfl rfl hE hp (v := (.slice none 0 0)) (ex_asn rfl hE rfl) ?_
            intro a hE
            refine s_nil ?_
            refine k_seq ?_
            refine k_seq ?_
            refine k_region ?_
            refine s_val (wk0 rfl) rfl rfl hE hp (v := vp2) (ex_move rfl hE rfl) ?_
            intro a hE
            refine s_val (wk0 rfl) rfl rfl hE hp (v := (.int .i64 (p2.length : Int))) (ex_len rfl hE rfl (RoSl.len hp2 slty22)) ?_
            intro a hE
            refine s_val (wk0 rfl) rfl rfl hE hp (v := (.int .i64 0)) (ex_move rfl hE rfl) ?_
            intro a hE
            refine s_nil ?_
            have hp := hp.emp (OwnSl.nil (α := Pair) 52)
            have hp : Hp Z ρ (OwnSl 52 (.slice none 0 0) ([] : List Pair) :: L) w := hp
            obtain ⟨b1, hb6, hm⟩ := bnd hm
            refine k_block (fun a w => ∃ (w6 : Value), Env 78 [(8, w6)] a ∧ Hp Z ρ (OwnSl 52 w6 b1 :: L) w) ?_ ?_
            · refine k_loop hb6 (fun s a w => ∃ (w6 : Value), Env 78 [(0, (.int .i64 p0)), (1, (.int .i64 p1)), (2, vp2), (8, w6), (34, (.int .i64 (p2.length : Int))), (35, (.int .i64 s.1))] a ∧ Hp Z ρ (OwnSl 52 w6 s.2 :: L) w) ?_ ?_
              · exact ⟨_, hE.cut ⟨rfl, rfl, rfl, rfl, rfl, rfl, trivial⟩, hp⟩
              · rintro ⟨lp1_0, lp1_1⟩ st a w ⟨w6, hE, hp⟩ hl1
                have hE : Env 78 [(0, (.int .i64 p0)), (1, (.int .i64 p1)), (2, vp2), (8, w6), (34, (.int .i64 (p2.length : Int))), (35, (.int .i64 lp1_0))] a := hE
                have hp : Hp Z ρ (OwnSl 52 w6 lp1_1 :: L) w := hp
                replace hl1 : m_similarity_Pairs_lp1 p0 p1 p2 lp1_0 lp1_1 = some st := hl1
                unfold m_similarity_Pairs_lp1 at hl1
                refine k_seq ?_
                refine k_region ?_
                refine s_val (wk0 rfl) rfl rfl hE hp (v := (.bool (decide (lp1_0 < (p2.length : Int))))) (ex_lss rfl hE rfl rfl) ?_
                intro a hE
                refine s_nil ?_
                refine k_seq ?_
                refine k_if hE rfl (fun hb7 => ?_) (fun hb7 => ?_)
                · replace hl1 := (it hb7).symm.trans hl1
                  refine k_skip ?_
                  refine k_seq ?_
                  refine k_plain ?_
                  refine k_seq ?_
                  refine k_region ?_
                  refine s_val (wk0 rfl) rfl rfl hE hp (v := (.int .i64 lp1_0)) (ex_move rfl hE rfl) ?_
                  intro a hE
                  refine s_val (wk0 rfl) rfl rfl hE hp (v := (.int .i64 lp1_0)) (ex_asn rfl hE rfl) ?_
                  intro a hE
                  refine s_nil ?_
                  refine k_seq ?_
                  refine k_region ?_
                  refine s_val (wk0 rfl) rfl rfl hE hp (v := (.int .i64 lp1_0)) (ex_move rfl hE rfl) ?_
                  intro a hE
                  refine s_val (wk0 rfl) rfl rfl hE hp (v := (.int .i64 0)) (ex_move rfl hE rfl) ?_
                  intro a hE
                  refine s_nil ?_
                  obtain ⟨b2, hb8, hl1⟩ := bnd hl1
                  refine k_block (fun a w => ∃ (w6 : Value), Env 78 [(0, (.int .i64 p0)), (1, (.int .i64 p1)), (2, vp2), (8, w6), (34, (.int .i64 (p2.length : Int))), (35, (.int .i64 lp1_0))] a ∧ Hp Z ρ (OwnSl 52 w6 b2 :: L) w) ?_ ?_
                  · refine k_loop hb8 (fun s a w => ∃ (w6 : Value), Env 78 [(0, (.int .i64 p0)), (1, (.int .i64 p1)), (2, vp2), (8, w6), (9, (.int .i64 lp1_0)), (34, (.int .i64 (p2.length : Int))), (35, (.int .i64 lp1_0)), (38, (.int .i64 lp1_0)), (39, (.int .i64 s.1))] a ∧ Hp Z ρ (OwnSl 52 w6 s.2 :: L) w) ?_ ?_
                    · exact ⟨_, hE.cut ⟨rfl, rfl, rfl, rfl, rfl, rfl, rfl, rfl, rfl, trivial⟩, hp⟩
                    · rintro ⟨lp2_0, lp2_1⟩ st a w ⟨w6, hE, hp⟩ hl2
                      have hE : Env 78 [(0, (.int .i64 p0)), (1, (.int .i64 p1)), (2, vp2), (8, w6), (9, (.int .i64 lp1_0)), (34, (.int .i64 (p2.length : Int))), (35, (.int .i64 lp1_0)), (38, (.int .i64 lp1_0)), (39, (.int .i64 lp2_0))] a := hE
                      have hp : Hp Z ρ (OwnSl 52 w6 lp2_1 :: L) w := hp
                      replace hl2 : m_similarity_Pairs_lp2 p0 p1 p2 lp1_0 lp2_0 lp2_1 = some st := hl2
                      unfold m_similarity_Pairs_lp2 at hl2
                      refine k_seq ?_
                      refine k_region ?_
                      refine s_val (wk0 rfl) rfl rfl hE hp (v := (.bool (decide (lp2_0 < lp1_0)))) (ex_lss rfl hE rfl rfl) ?_
                      intro a hE
                      refine s_nil ?_
                      refine k_seq ?_
                      refine k_if hE rfl (fun hb9 => ?_) (fun hb9 => ?_)
                      · replace hl2 := (it hb9).symm.trans hl2
                        refine k_skip ?_
                        refine k_seq ?_
                        refine k_plain ?_
                        refine k_seq ?_
                        refine k_region ?_
                        refine s_val (wk0 rfl) rfl rfl hE hp (v := (.int .i64 lp2_0)) (ex_move rfl hE rfl) ?_
                        intro a hE
                        refine s_val (wk0 rfl) rfl rfl hE hp (v := (.int .i64 lp2_0)) (ex_asn rfl hE rfl) ?_
                        intro a hE
                        refine s_nil ?_
                        refine k_seq ?_
                        refine k_quiet (by kernel_rfl) (by kernel_rfl) hp ?_
                        refine q_val (wk0 rfl) rfl rfl hE (v := vp2) (ex_move rfl hE rfl) ?_
                        intro a hE
                        refine q_val (wk0 rfl) rfl rfl hE (v := (.int .i64 lp2_0)) (ex_move rfl hE rfl) ?_
                        intro a hE
                        obtain ⟨x1, ex1, hl2⟩ := bnd hl2
                        obtain ⟨b3, b3o, b3c, b3r, b3k, b3f⟩ := RoSl.at hp2 slty22 ex1
                        obtain ⟨vb3, rfl, hb3⟩ := b3k
                        have b3f : AtP ρ b3 b3o [vb3] := b3f
                        refine q_val (wk0 rfl) rfl rfl hE (v := (.pointer (some ⟨b3, b3o, none⟩))) (ex_index rfl hE rfl rfl b3r) ?_
                        intro a hE
                        refine q_val (wk0 rfl) rfl rfl hE (v := vb3) (ex_load rfl hE rfl (fun w hw => run_ld1 varty26 (b3f.c 0 rfl w hw))) ?_
                        intro a hE
                        refine q_val (wk0 rfl) rfl rfl hE (v := vp2) (ex_move rfl hE rfl) ?_
                        intro a hE
                        refine q_val (wk0 rfl) rfl rfl hE (v := (.int .i64 lp1_0)) (ex_move rfl hE rfl) ?_
                        intro a hE
                        obtain ⟨x2, ex2, hl2⟩ := bnd hl2
                        obtain ⟨b4, b4o, b4c, b4r, b4k, b4f⟩ := RoSl.at hp2 slty22 ex2
                        obtain ⟨vb4, rfl, hb4⟩ := b4k
                        have b4f : AtP ρ b4 b4o [vb4] := b4f
                        refine q_val (wk0 rfl) rfl rfl hE (v := (.pointer (some ⟨b4, b4o, none⟩))) (ex_index rfl hE rfl rfl b4r) ?_
                        intro a hE
                        refine q_val (wk0 rfl) rfl rfl hE (v := vb4) (ex_load rfl hE rfl (fun w hw => run_ld1 varty26 (b4f.c 0 rfl w hw))) ?_
                        intro a hE
                        obtain ⟨x3, ex3, hl2⟩ := bnd hl2
                        refine q_call (wk0 rfl) rfl rfl hE rfl [vb3, vb4] ⟨rfl, rfl, trivial⟩ ent18 (v := (.tuple #[(.int .i64 x3.1), (.int .i64 x3.2)])) (fun w hw => Calls.mono (c_similarity_Compare x1 vb3 hb3 x2 vb4 hb4 hw x3 ex3) fun e w' ⟨v, he, hv, hh⟩ => ⟨by rw [he, hv], hh⟩) ?_
                        intro a hE
                        refine q_val (wk0 rfl) rfl rfl hE (v := (.tuple #[(.int .i64 x3.1), (.int .i64 x3.2)])) (ex_move rfl hE rfl) ?_
                        intro a hE
                        refine q_val (wk0 rfl) rfl rfl hE (v := (.int .i64 x3.1)) (ex_extract rfl hE rfl rfl) ?_
                        intro a hE
                        refine q_val (wk0 rfl) rfl rfl hE (v := (.int .i64 x3.2)) (ex_extract rfl hE rfl rfl) ?_
                        intro a hE
                        refine q_val (wk0 rfl) rfl rfl hE (v := (.int .i64 x3.1)) (ex_asn rfl hE rfl) ?_
                        intro a hE
                        refine q_val (wk0 rfl) rfl rfl hE (v := (.int .i64 x3.2)) (ex_asn rfl hE rfl) ?_
                        intro a hE
                        refine q_nil fun w hp => ?_
                        have hp : Hp Z ρ (_ :: L) w := hp
                        have hE := hE.cut (E' := [(0, (.int .i64 p0)), (1, (.int .i64 p1)), (2, vp2), (8, w6), (9, (.int .i64 lp1_0)), (10, (.int .i64 lp2_0)), (11, (.int .i64 x3.1)), (12, (.int .i64 x3.2)), (34, (.int .i64 (p2.length : Int))), (35, (.int .i64 lp1_0)), (38, (.int .i64 lp1_0)), (39, (.int .i64 lp2_0))]) ⟨rfl, rfl, rfl, rfl, rfl, rfl, rfl, rfl, rfl, rfl, rfl, rfl, trivial⟩
                        refine k_seq ?_
                        refine k_region ?_
                        refine s_val (wk0 rfl) rfl rfl hE hp (v := (.int .i64 x3.2)) (ex_move rfl hE rfl) ?_
                        intro a hE
                        refine s_val (wk0 rfl) rfl rfl hE hp (v := (.bool (decide (0 < x3.2)))) (ex_gtr rfl hE rfl rfl) ?_
                        intro a hE
                        refine s_val (wk0 rfl) rfl rfl hE hp (v := (.bool (decide (0 < x3.2)))) (ex_move rfl hE rfl) ?_
                        intro a hE
                        obtain ⟨m1, hg1, hl2⟩ := bnd hl2
                        refine s_cut [_, _, _, _, _, _, _, _] (fun a w => Env 78 [(64, (.bool m1)), (0, (.int .i64 p0)), (1, (.int .i64 p1)), (2, vp2), (8, w6), (9, (.int .i64 lp1_0)), (10, (.int .i64 lp2_0)), (11, (.int .i64 x3.1)), (12, (.int .i64 x3.2)), (34, (.int .i64 (p2.length : Int))), (35, (.int .i64 lp1_0)), (38, (.int .i64 lp1_0)), (39, (.int .i64 lp2_0))] a ∧ Hp Z ρ (OwnSl 52 w6 lp2_1 :: L) w) ?_ ?_
                        · rcases Bool.eq_false_or_eq_true (decide (0 < x3.2)) with hb10 | hb10
                          ·
                            replace hg1 := (it hb10).symm.trans hg1
                            refine s_val (wk1 hE rfl rfl rfl hb10) rfl rfl hE hp (v := (.int .i64 x3.1)) (ex_move rfl hE rfl) ?_
                            intro a hE
                            refine s_val (wk1 hE rfl rfl rfl hb10) rfl rfl hE hp (v := (.int .i64 p1)) (ex_move rfl hE rfl) ?_
                            intro a hE
                            obtain ⟨x4, ex4, hg1⟩ := bnd hg1
                            refine s_val (wk1 hE rfl rfl rfl hb10) rfl rfl hE hp (v := (.int .i64 x4)) (ex_mul rfl hE rfl rfl (inK_some ex4)) ?_
                            intro a hE
                            refine s_val (wk1 hE rfl rfl rfl hb10) rfl rfl hE hp (v := (.int .i64 p0)) (ex_move rfl hE rfl) ?_
                            intro a hE
                            refine s_val (wk1 hE rfl rfl rfl hb10) rfl rfl hE hp (v := (.int .i64 x3.2)) (ex_move rfl hE rfl) ?_
                            intro a hE
                            obtain ⟨x5, ex5, hg1⟩ := bnd hg1
                            refine s_val (wk1 hE rfl rfl rfl hb10) rfl rfl hE hp (v := (.int .i64 x5)) (ex_mul rfl hE rfl rfl (inK_some ex5)) ?_
                            intro a hE
                            refine s_val (wk1 hE rfl rfl rfl hb10) rfl rfl hE hp (v := (.bool (decide (x5 ≤ x4)))) (ex_geq rfl hE rfl rfl) ?_
                            intro a hE
                            refine s_val (wk0 rfl) rfl rfl hE hp (v := (.bool (decide (x5 ≤ x4)))) (ex_pick1 rfl hE rfl hb10 rfl) ?_
                            intro a hE
                            obtain rfl := Option.some.inj hg1
                            exact s_nil ⟨hE.cut ⟨rfl, rfl, rfl, rfl, rfl, rfl, rfl, rfl, rfl, rfl, rfl, rfl, rfl, trivial⟩, hp⟩
                          ·
                            replace hg1 := (ie hb10).symm.trans hg1
                            refine s_skip (wk2 hE rfl rfl rfl hb10) rfl rfl hE ?_
                            intro a hE
                            refine s_skip (wk2 hE rfl rfl rfl hb10) rfl rfl hE ?_
                            intro a hE
                            refine s_skip (wk2 hE rfl rfl rfl hb10) rfl rfl hE ?_
                            intro a hE
                            refine s_skip (wk2 hE rfl rfl rfl hb10) rfl rfl hE ?_
                            intro a hE
                            refine s_skip (wk2 hE rfl rfl rfl hb10) rfl rfl hE ?_
                            intro a hE
                            refine s_skip (wk2 hE rfl rfl rfl hb10) rfl rfl hE ?_
                            intro a hE
                            refine s_skip (wk2 hE rfl rfl rfl hb10) rfl rfl hE ?_
                            intro a hE
                            refine s_val (wk0 rfl) rfl rfl hE hp (v := (.bool false)) (ex_pick0 rfl hE rfl hb10 rfl) ?_
                            intro a hE
                            obtain rfl := Option.some.inj hg1
                            exact s_nil ⟨hE.cut ⟨rfl, rfl, rfl, rfl, rfl, rfl, rfl, rfl, rfl, rfl, rfl, rfl, rfl, trivial⟩, hp⟩
                        · rintro a w ⟨hE, hp⟩
                          refine s_nil ?_
                          refine k_if hE rfl (fun hb11 => ?_) (fun hb11 => ?_)
                          · replace hl2 := (it hb11).symm.trans hl2
                            refine k_region ?_
                            refine s_val (wk0 rfl) rfl rfl hE hp (v := w6) (ex_move rfl hE rfl) ?_
                            intro a hE
                            refine s_val (wk0 rfl) rfl rfl hE hp (v := (.int .i64 lp2_0)) (ex_move rfl hE rfl) ?_
                            intro a hE
                            refine s_val (wk0 rfl) rfl rfl hE hp (v := (.int .i64 lp1_0)) (ex_move rfl hE rfl) ?_
                            intro a hE
                            refine s_val (wk0 rfl) rfl rfl hE hp (v := (.int .i64 x3.1)) (ex_move rfl hE rfl) ?_
                            intro a hE
                            refine s_val (wk0 rfl) rfl rfl hE hp (v := (.int .i64 x3.2)) (ex_move rfl hE rfl) ?_
                            intro a hE
                            refine s_val (wk0 rfl) rfl rfl hE hp (v := (.agg #[(.int .i64 lp2_0), (.int .i64 lp1_0), (.int .i64 x3.1), (.int .i64 x3.2)])) (ex_bld rfl hE [(0, (.int .i64 lp2_0)), (1, (.int .i64 lp1_0)), (2, (.int .i64 x3.1)), (3, (.int .i64 x3.2))] (by exact ⟨⟨rfl, rfl⟩, ⟨rfl, rfl⟩, ⟨rfl, rfl⟩, ⟨rfl, rfl⟩, trivial⟩) (fun w => by simp [Instr.build, Instr.fill, Value.cells, go_sem])) ?_
                            intro a hE
                            refine s_lit (wk0 rfl) rfl rfl hE hp rfl [(0, (.agg #[(.int .i64 lp2_0), (.int .i64 lp1_0), (.int .i64 x3.1), (.int .i64 x3.2)]))] ⟨⟨rfl, rfl⟩, trivial⟩ [(.int .i64 lp2_0), (.int .i64 lp1_0), (.int .i64 x3.1), (.int .i64 x3.2)] 52 (fun w => by simp [Instr.buildSlice, Instr.fill, Value.cells, go_sem]) ?_
                            intro a w b5 hE hp
                            have hp : Hp Z ρ (Pt b5 (.cells #[(.int .i64 lp2_0), (.int .i64 lp1_0), (.int .i64 x3.1), (.int .i64 x3.2)] 52 (0, 0)) :: _ :: L) w := hp
                            obtain ⟨x6, ex6, hl2⟩ := bnd hl2
                            refine s_app (wk0 rfl) rfl rfl hE hp rfl slty37 rfl rfl 1 rfl rfl (l2 := [(Pair.mk lp2_0 lp1_0 x3.1 x3.2)]) rfl (fun j u hj => by have := Hp.cN 0 rfl 0 _ (sub_all rfl) w hp j u hj; simpa using this) ex6 ?_
                            intro v1 a w hE hp
                            have hp : Hp Z ρ (_ :: OwnSl 52 v1 x6 :: L) w := hp
                            refine s_val (wk0 rfl) rfl rfl hE hp (v := v1) (ex_asn rfl hE rfl) ?_
                            intro a hE
                            refine s_nil ?_
                            refine k_region ?_
                            obtain ⟨x7, ex7, hl2⟩ := bnd hl2
                            refine s_val (wk0 rfl) rfl rfl hE hp (v := (.int .i64 x7)) (ex_add rfl hE rfl rfl (inK_some ex7)) ?_
                            intro a hE
                            refine s_val (wk0 rfl) rfl rfl hE hp (v := (.int .i64 x7)) (ex_move rfl hE rfl) ?_
                            intro a hE
                            refine s_nil ?_
                            exact ⟨_, (Option.some.inj hl2).symm, _, hE.cut ⟨rfl, rfl, rfl, rfl, rfl, rfl, rfl, rfl, rfl, trivial⟩, (hp.drop)⟩
                          · replace hl2 := (ie hb11).symm.trans hl2
                            refine k_skip ?_
                            refine k_region ?_
                            obtain ⟨x8, ex8, hl2⟩ := bnd hl2
                            refine s_val (wk0 rfl) rfl rfl hE hp (v := (.int .i64 x8)) (ex_add rfl hE rfl rfl (inK_some ex8)) ?_
                            intro a hE
                            refine s_val (wk0 rfl) rfl rfl hE hp (v := (.int .i64 x8)) (ex_move rfl hE rfl) ?_
                            intro a hE
                            refine s_nil ?_
                            have hE := hE.cut (E' := [(0, (.int .i64 p0)), (1, (.int .i64 p1)), (2, vp2), (8, w6), (9, (.int .i64 lp1_0)), (34, (.int .i64 (p2.length : Int))), (35, (.int .i64 lp1_0)), (38, (.int .i64 lp1_0)), (39, (.int .i64 x8))]) ⟨rfl, rfl, rfl, rfl, rfl, rfl, rfl, rfl, rfl, trivial⟩
                            exact ⟨_, (Option.some.inj hl2).symm, _, hE.cut ⟨rfl, rfl, rfl, rfl, rfl, rfl, rfl, rfl, rfl, trivial⟩, hp⟩
                      · replace hl2 := (ie hb9).symm.trans hl2
                        refine k_exit ?_
                        refine ⟨_, (Option.some.inj hl2).symm, fun hbb => ?_⟩
                        subst hbb
                        exact ⟨_, hE.cut ⟨rfl, rfl, rfl, rfl, rfl, rfl, trivial⟩, hp⟩
                  · rintro a w ⟨w6, hE, hp⟩
                    refine k_region ?_
                    obtain ⟨x9, ex9, hl1⟩ := bnd hl1
                    refine s_val (wk0 rfl) rfl rfl hE hp (v := (.int .i64 x9)) (ex_add rfl hE rfl rfl (inK_some ex9)) ?_
                    intro a hE
                    refine s_val (wk0 rfl) rfl rfl hE hp (v := (.int .i64 x9)) (ex_move rfl hE rfl) ?_
                    intro a hE
                    refine s_nil ?_
                    exact ⟨_, (Option.some.inj hl1).symm, _, hE.cut ⟨rfl, rfl, rfl, rfl, rfl, rfl, trivial⟩, hp⟩
                · replace hl1 := (ie hb7).symm.trans hl1
                  refine k_exit ?_
                  refine ⟨_, (Option.some.inj hl1).symm, fun hbb => ?_⟩
                  subst hbb
                  exact ⟨_, hE.cut ⟨rfl, trivial⟩, hp⟩
            · rintro a w ⟨w6, hE, hp⟩
              refine k_seq ?_
              refine k_region ?_
              refine s_val (wk0 rfl) rfl rfl hE hp (v := w6) (ex_move rfl hE rfl) ?_
              intro a hE
              obtain ⟨x10, ex10, hm⟩ := bnd hm
              refine s_call (wk0 rfl) rfl rfl hE rfl [w6, (.func (.func 44) #[] #[])] ⟨rfl, rfl, trivial⟩ ent43 (c_sortP b1 w6 hp x10 ex10) Ret.ret ?_
              intro v a w hR hE
              obtain ⟨rfl, hp⟩ := Ret.of hR
              have hp : Hp Z ρ (OwnSl 52 w6 x10 :: L) w := hp
              refine s_nil ?_
              refine k_seq ?_
              refine k_region ?_
              refine s_val (wk0 rfl) rfl rfl hE hp (v := w6) (ex_move rfl hE rfl) ?_
              intro a hE
              refine s_val (wk0 rfl) rfl rfl hE hp (v := w6) (ex_asn rfl hE rfl) ?_
              intro a hE
              refine s_val (wk0 rfl) rfl rfl hE hp (v := (.int .i64 0)) (ex_asn rfl hE rfl) ?_
              intro a hE
              refine s_nil ?_
              refine k_ret ?_
              obtain ⟨k1, k1a, k1d, hp⟩ := (hp.get 0 rfl).lend
              have f1 : RoSl (ρ.un k1) w6 x10 := OwnSl.ro k1d k1a
              have hp : Hp Z (ρ.un k1) (L) w := hp
              obtain rfl := Option.some.inj hm
              exact ret2 hE rfl rfl rfl ⟨_, rfl, _, _, (PH.le_un _ k1), rfl, f1, hp⟩
end Go.Proofs.Ytmfepkadggigpaa
