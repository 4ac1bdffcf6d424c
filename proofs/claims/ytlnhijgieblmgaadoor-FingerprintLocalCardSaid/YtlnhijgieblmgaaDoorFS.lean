/-
  The code goes as its model: assessor/fingerprint.symbol, assessor/fingerprint.Symbols, assessor/fingerprint.modulo, assessor/fingerprint.Hash, assessor/fingerprint.power, assessor/fingerprint.ranged, assessor/fingerprint.roller, assessor/fingerprint.roller$1, assessor/fingerprint.Roll, assessor/fingerprint.Hashes, assessor/fingerprint.Winnow, assessor/fingerprint.Marks, assessor/fingerprint.Shared. (Printed by wip/sp/gen.py.)
-/
import Derived.Test.YtlnhijgieblmgaaDoorFM
import Derived.Test.YtlnhijgieblmgaaDoorFct
set_option linter.unusedVariables false
set_option linter.unusedSimpArgs false
namespace Go.Proofs.YtlnhijgieblmgaaDoor
open Go.RowKit

/- assessor/fingerprint.symbol -/
set_option maxRecDepth 100000 in
set_option maxHeartbeats 4000000 in
theorem c_fingerprint_symbol {Z : World} {ρ : PH} {L : List Atom} {w : World} (hT : Tabs ρ) (p0 : Node) (vp0_kids : Value) (hp0_kids : RoSl ρ vp0_kids p0.kids) (hp : Hp Z ρ (L) w) (r : Int) (hm : m_fingerprint_symbol p0 = some r) :
    Calls Tryd.prog 32 #[(.agg #[(.int .i64 p0.kind), (.string p0.text), (.int .i64 p0.at_), (.int .i64 p0.fin), vp0_kids])] w (Ret fun v w' => v = (.int .i64 r) ∧ Hp Z ρ (L) w') := by
  refine enter (N := 27) Tryd.func32 rfl rfl [(0, (.agg #[(.int .i64 p0.kind), (.string p0.text), (.int .i64 p0.at_), (.int .i64 p0.fin), vp0_kids]))] rfl (argsIn_mem ⟨rfl, trivial⟩) fun a hE => ?_
  unfold m_fingerprint_symbol at hm
  refine k_seq ?_
  refine k_region ?_
  refine s_box (wk0 rfl) rfl rfl hE hp rfl (v := (.agg #[(.int .i64 p0.kind), (.string p0.text), (.int .i64 p0.at_), (.int .i64 p0.fin), vp0_kids])) rfl ?_
  intro a w b1 hE hp
  have hp : Hp Z ρ (Pt b1 (.cells #[(.int .i64 p0.kind), (.string p0.text), (.int .i64 p0.at_), (.int .i64 p0.fin), vp0_kids] 24 (0, 0)) :: L) w := hp
  refine s_val (wk0 rfl) rfl rfl hE hp (v := (.int .i64 0)) (ex_asn rfl hE rfl) ?_
  intro a hE
  refine s_nil ?_
  refine k_seq ?_
  refine k_region ?_
  refine s_val (wk0 rfl) rfl rfl hE hp (v := (.int .u32 2166136261)) (ex_asn rfl hE rfl) ?_
  intro a hE
  refine s_nil ?_
  refine k_seq ?_
  refine k_seq ?_
  obtain ⟨x1, ex1, hm⟩ := bnd hm
  obtain ⟨x2, ex2, hm⟩ := bnd hm
  obtain ⟨x3, ex3, hm⟩ := bnd hm
  refine k_held (Z := Z) (ρ := ρ) (Pt b1 (.cells #[(.int .i64 p0.kind), (.string p0.text), (.int .i64 p0.at_), (.int .i64 p0.fin), vp0_kids] 24 (0, 0)) :: L) (fun a w => ∃ y2 : Value, Env 27 [(3, (.int .u32 2166136261)), (13, y2), (14, (.int .i64 (x3.data.toList.length : Int))), (15, (.int .i64 0))] a ∧ Hp Z ρ (RoA y2 x3.data.toList :: Pt b1 (.cells #[(.int .i64 p0.kind), (.string p0.text), (.int .i64 p0.at_), (.int .i64 p0.fin), vp0_kids] 24 (0, 0)) :: L) w) (by kernel_rfl) ?_ ?_
  ·
    have hp := hp.drew
    have hS : Hp Z ρ (Pt b1 (.cells #[(.int .i64 p0.kind), (.string p0.text), (.int .i64 p0.at_), (.int .i64 p0.fin), vp0_kids] 24 (0, 0)) :: L) w.drew := hp
    refine h_take 0 (wk0 rfl) rfl rfl rfl hE (by kernel_rfl) (by kernel_rfl) (by kernel_rfl) hS (v := (.pointer (some ⟨b1, 0, none⟩))) (ex_field rfl hE rfl (fldty24_0 _ _)) ?_
    intro a hE
    refine h_take 1 (wk0 rfl) rfl rfl rfl hE (by kernel_rfl) (by kernel_rfl) (by kernel_rfl) hS (v := (.int .i64 p0.kind)) (ex_load rfl hE rfl (fun w hw => run_ld1 varty3 (Hp.c 0 rfl 0 rfl w hw))) ?_
    intro a hE
    refine h_take 4 (wk0 rfl) rfl rfl rfl hE (by kernel_rfl) (by kernel_rfl) (by kernel_rfl) hS (v := (.pointer (some ⟨b1, 1, none⟩))) (ex_field rfl hE rfl (fldty24_1 _ _)) ?_
    intro a hE
    refine h_take 5 (wk0 rfl) rfl rfl rfl hE (by kernel_rfl) (by kernel_rfl) (by kernel_rfl) hS (v := (.string p0.text)) (ex_load rfl hE rfl (fun w hw => run_ld1 varty9 (Hp.c 0 rfl 1 rfl w hw))) ?_
    intro a hE
    refine h_take 9 (wk0 rfl) rfl rfl rfl hE (by kernel_rfl) (by kernel_rfl) (by kernel_rfl) hS (v := (.int .i64 0)) (ex_move rfl hE rfl) ?_
    intro a hE
    refine h_all [2] (by kernel_rfl) rfl ?_
    refine List.forall_mem_cons.2 ⟨?_, fun _ h => absurd h (by simp)⟩
    ·
      refine h_op rfl ?_
      refine s_call (wk0 rfl) rfl rfl hE rfl [(.int .i64 p0.kind)] ⟨rfl, trivial⟩ ent43 (c_itoa hT p0.kind hp x1 ex1) Ret.ret ?_
      intro v a w hR hE
      obtain ⟨rfl, hp⟩ := Ret.of hR
      have hp : Hp Z ρ (Pt b1 (.cells #[(.int .i64 p0.kind), (.string p0.text), (.int .i64 p0.at_), (.int .i64 p0.fin), vp0_kids] 24 (0, 0)) :: L) w := hp
      refine s_nil ⟨hp, ?_⟩
      have hS := hp
      refine h_take 3 (wk0 rfl) rfl rfl rfl hE (by kernel_rfl) (by kernel_rfl) (by kernel_rfl) hS (v := (.string x2)) (ex_cat rfl hE rfl rfl ex2) ?_
      intro a hE
      refine h_take 6 (wk0 rfl) rfl rfl rfl hE (by kernel_rfl) (by kernel_rfl) (by kernel_rfl) hS (v := (.string x3)) (ex_cat rfl hE rfl rfl ex3) ?_
      intro a hE
      refine h_all [7] (by kernel_rfl) rfl ?_
      refine List.forall_mem_cons.2 ⟨?_, fun _ h => absurd h (by simp)⟩
      ·
        refine h_op rfl ?_
        refine s_bytes (e := 5) (wk0 rfl) rfl rfl hE hp rfl (by kernel_rfl) (by kernel_rfl) (by kernel_rfl) rfl ?_
        intro v2 a w hE hp
        have hp : Hp Z ρ (RoA v2 x3.data.toList :: Pt b1 (.cells #[(.int .i64 p0.kind), (.string p0.text), (.int .i64 p0.at_), (.int .i64 p0.fin), vp0_kids] 24 (0, 0)) :: L) w := hp
        refine s_nil ⟨(hp.drop), ?_⟩
        have hS := (hp.drop)
        refine h_all [8] (by kernel_rfl) rfl ?_
        refine List.forall_mem_cons.2 ⟨?_, fun _ h => absurd h (by simp)⟩
        ·
          refine h_op rfl ?_
          refine s_val (wk0 rfl) rfl rfl hE hp (v := (.int .i64 (x3.data.toList.length : Int))) (ex_len rfl hE rfl (RoA.len hp 0 rfl slty72)) ?_
          intro a hE
          refine s_nil ⟨(hp.drop), ?_⟩
          have hS := (hp.drop)
          exact h_done (by kernel_rfl) ⟨_, hE.cut ⟨rfl, rfl, rfl, rfl, trivial⟩, hp⟩
  · rintro a w ⟨y2, hE, hp⟩
    obtain ⟨k1, k1d, f1, hp⟩ := RoA.thaw (hp.get 0 rfl)
    have hp : Hp Z (ρ.un k1) (Pt b1 (.cells #[(.int .i64 p0.kind), (.string p0.text), (.int .i64 p0.at_), (.int .i64 p0.fin), vp0_kids] 24 (0, 0)) :: L) w := hp
    obtain ⟨b2, hb1, hm⟩ := bnd hm
    refine k_block (fun a w => Env 27 [(3, (.int .u32 b2))] a ∧ Hp Z (ρ.un k1) (Pt b1 (.cells #[(.int .i64 p0.kind), (.string p0.text), (.int .i64 p0.at_), (.int .i64 p0.fin), vp0_kids] 24 (0, 0)) :: L) w) ?_ ?_
    · refine k_loop hb1 (fun s a w => Env 27 [(3, (.int .u32 s.1)), (13, y2), (14, (.int .i64 (x3.data.toList.length : Int))), (15, (.int .i64 s.2))] a ∧ Hp Z (ρ.un k1) (Pt b1 (.cells #[(.int .i64 p0.kind), (.string p0.text), (.int .i64 p0.at_), (.int .i64 p0.fin), vp0_kids] 24 (0, 0)) :: L) w) ?_ ?_
      · exact ⟨hE.cut ⟨rfl, rfl, rfl, rfl, trivial⟩, hp⟩
      · rintro ⟨lp1_0, lp1_1⟩ st a w ⟨hE, hp⟩ hl1
        have hE : Env 27 [(3, (.int .u32 lp1_0)), (13, y2), (14, (.int .i64 (x3.data.toList.length : Int))), (15, (.int .i64 lp1_1))] a := hE
        have hp : Hp Z (ρ.un k1) (Pt b1 (.cells #[(.int .i64 p0.kind), (.string p0.text), (.int .i64 p0.at_), (.int .i64 p0.fin), vp0_kids] 24 (0, 0)) :: L) w := hp
        replace hl1 : m_fingerprint_symbol_lp1 x3 lp1_0 lp1_1 = some st := hl1
        unfold m_fingerprint_symbol_lp1 at hl1
        refine k_seq ?_
        refine k_region ?_
        refine s_val (wk0 rfl) rfl rfl hE hp (v := (.bool (decide (lp1_1 < (x3.data.toList.length : Int))))) (ex_lss rfl hE rfl rfl) ?_
        intro a hE
        refine s_nil ?_
        refine k_seq ?_
        refine k_if hE rfl (fun hb2 => ?_) (fun hb2 => ?_)
        · replace hl1 := (it hb2).symm.trans hl1
          refine k_skip ?_
          refine k_seq ?_
          refine k_plain ?_
          refine k_seq ?_
          refine k_region ?_
          obtain ⟨x4, ex4, hl1⟩ := bnd hl1
          obtain ⟨b3, b3o, b3c, b3r, b3k, b3f⟩ := RoSl.at f1 slty72 ex4
          obtain rfl : b3c = Enc.enc x4 := b3k
          have b3f : AtP (ρ.un k1) b3 b3o [(.int .u8 (x4.toNat : Int))] := b3f
          refine s_val (wk0 rfl) rfl rfl hE hp (v := (.pointer (some ⟨b3, b3o, none⟩))) (ex_index rfl hE rfl rfl b3r) ?_
          intro a hE
          refine s_val (wk0 rfl) rfl rfl hE hp (v := (.int .u8 (x4.toNat : Int))) (ex_load rfl hE rfl (fun w hw => run_ld1 varty5 (b3f.c 0 rfl w hw))) ?_
          intro a hE
          refine s_val (wk0 rfl) rfl rfl hE hp (v := (.int .u8 (x4.toNat : Int))) (ex_asn rfl hE rfl) ?_
          intro a hE
          refine s_nil ?_
          refine k_region ?_
          refine s_val (wk0 rfl) rfl rfl hE hp (v := (.int .u32 lp1_0)) (ex_move rfl hE rfl) ?_
          intro a hE
          refine s_val (wk0 rfl) rfl rfl hE hp (v := (.int .u8 (x4.toNat : Int))) (ex_move rfl hE rfl) ?_
          intro a hE
          refine s_val (wk0 rfl) rfl rfl hE hp (v := (.int .u32 (IntKind.wrap .u32 (x4.toNat : Int)))) (ex_conv rfl hE rfl (fun w _ => by simp [convert, Conv.intToInt, go_sem])) ?_
          intro a hE
          refine s_val (wk0 rfl) rfl rfl hE hp (v := (.int .u32 (xorK .u32 lp1_0 (IntKind.wrap .u32 (x4.toNat : Int))))) (ex_xor rfl hE rfl rfl) ?_
          intro a hE
          refine s_val (wk0 rfl) rfl rfl hE hp (v := (.int .u32 (IntKind.wrap .u32 ((xorK .u32 lp1_0 (IntKind.wrap .u32 (x4.toNat : Int))) * 16777619)))) (ex_mul rfl hE rfl rfl rfl) ?_
          intro a hE
          refine s_val (wk0 rfl) rfl rfl hE hp (v := (.int .u32 (IntKind.wrap .u32 ((xorK .u32 lp1_0 (IntKind.wrap .u32 (x4.toNat : Int))) * 16777619)))) (ex_asn rfl hE rfl) ?_
          intro a hE
          refine s_nil ?_
          have hE := hE.cut (E' := [(3, (.int .u32 (IntKind.wrap .u32 ((xorK .u32 lp1_0 (IntKind.wrap .u32 (x4.toNat : Int))) * 16777619)))), (13, y2), (14, (.int .i64 (x3.data.toList.length : Int))), (15, (.int .i64 lp1_1))]) ⟨rfl, rfl, rfl, rfl, trivial⟩
          refine k_region ?_
          obtain ⟨x5, ex5, hl1⟩ := bnd hl1
          refine s_val (wk0 rfl) rfl rfl hE hp (v := (.int .i64 x5)) (ex_add rfl hE rfl rfl (inK_some ex5)) ?_
          intro a hE
          refine s_val (wk0 rfl) rfl rfl hE hp (v := (.int .i64 x5)) (ex_move rfl hE rfl) ?_
          intro a hE
          refine s_nil ?_
          exact ⟨_, (Option.some.inj hl1).symm, hE.cut ⟨rfl, rfl, rfl, rfl, trivial⟩, hp⟩
        · replace hl1 := (ie hb2).symm.trans hl1
          refine k_exit ?_
          refine ⟨_, (Option.some.inj hl1).symm, fun hbb => ?_⟩
          subst hbb
          exact ⟨hE.cut ⟨rfl, trivial⟩, hp⟩
    · rintro a w ⟨hE, hp⟩
      refine k_seq ?_
      refine k_region ?_
      refine s_val (wk0 rfl) rfl rfl hE hp (v := (.int .u32 b2)) (ex_move rfl hE rfl) ?_
      intro a hE
      obtain ⟨x6, ex6, hm⟩ := bnd hm
      refine s_val (wk0 rfl) rfl rfl hE hp (v := (.int .i64 x6)) (ex_conv rfl hE rfl (fun w _ => by rw [← inK_some ex6]; simp [convert, Conv.intToInt, go_sem])) ?_
      intro a hE
      refine s_val (wk0 rfl) rfl rfl hE hp (v := (.int .i64 x6)) (ex_asn rfl hE rfl) ?_
      intro a hE
      refine s_nil ?_
      refine k_ret ?_
      obtain rfl := Option.some.inj hm
      exact ret1 hE rfl rfl ⟨_, rfl, rfl, ((hp.drop).less (PH.le_un _ _))⟩
/- assessor/fingerprint.Symbols -/
set_option maxRecDepth 100000 in
set_option maxHeartbeats 4000000 in
theorem c_fingerprint_Symbols_body (self : Node → Option (List Int)) (hself : ∀ {Z : World} {ρ : PH} {L : List Atom} {w : World} (hT : Tabs ρ) (p0 : Node) (vp0_kids : Value) (hp0_kids : RoSl ρ vp0_kids p0.kids) (hp : Hp Z ρ (L) w) (r : (List Int)) (hm : self p0 = some r), Calls Tryd.prog 15 #[(.agg #[(.int .i64 p0.kind), (.string p0.text), (.int .i64 p0.at_), (.int .i64 p0.fin), vp0_kids])] w (Ret fun v w' => ∃ (v1 : Value), v = v1 ∧ Hp Z ρ (OwnSl 3 v1 r :: L) w')) {Z : World} {ρ : PH} {L : List Atom} {w : World} (hT : Tabs ρ) (p0 : Node) (vp0_kids : Value) (hp0_kids : RoSl ρ vp0_kids p0.kids) (hp : Hp Z ρ (L) w) (r : (List Int)) (hm : m_fingerprint_Symbols_body self p0 = some r) :
    Calls Tryd.prog 15 #[(.agg #[(.int .i64 p0.kind), (.string p0.text), (.int .i64 p0.at_), (.int .i64 p0.fin), vp0_kids])] w (Ret fun v w' => ∃ (v1 : Value), v = v1 ∧ Hp Z ρ (OwnSl 3 v1 r :: L) w') := by
  refine enter (N := 29) Tryd.func15 rfl rfl [(0, (.agg #[(.int .i64 p0.kind), (.string p0.text), (.int .i64 p0.at_), (.int .i64 p0.fin), vp0_kids]))] rfl (argsIn_mem ⟨rfl, trivial⟩) fun a hE => ?_
  unfold m_fingerprint_Symbols_body at hm
  refine k_seq ?_
  refine k_region ?_
  refine s_box (wk0 rfl) rfl rfl hE hp rfl (v := (.agg #[(.int .i64 p0.kind), (.string p0.text), (.int .i64 p0.at_), (.int .i64 p0.fin), vp0_kids])) rfl ?_
  intro a w b1 hE hp
  have hp : Hp Z ρ (Pt b1 (.cells #[(.int .i64 p0.kind), (.string p0.text), (.int .i64 p0.at_), (.int .i64 p0.fin), vp0_kids] 24 (0, 0)) :: L) w := hp
  refine s_val (wk0 rfl) rfl rfl hE hp (v := (.slice none 0 0)) (ex_asn rfl hE rfl) ?_
  intro a hE
  refine s_nil ?_
  refine k_seq ?_
  refine k_region ?_
  refine s_val (wk0 rfl) rfl rfl hE hp (v := (.agg #[(.int .i64 p0.kind), (.string p0.text), (.int .i64 p0.at_), (.int .i64 p0.fin), vp0_kids])) (ex_load rfl hE rfl (fun w hw => run_ldN (cs := [(.int .i64 p0.kind), (.string p0.text), (.int .i64 p0.at_), (.int .i64 p0.fin), vp0_kids]) varty24 (Hp.cN 0 rfl 0 _ (sub_all rfl) w hw))) ?_
  intro a hE
  obtain ⟨x1, ex1, hm⟩ := bnd hm
  refine s_call (wk0 rfl) rfl rfl hE rfl [(.agg #[(.int .i64 p0.kind), (.string p0.text), (.int .i64 p0.at_), (.int .i64 p0.fin), vp0_kids])] ⟨rfl, trivial⟩ ent32 (c_fingerprint_symbol hT p0 vp0_kids hp0_kids hp x1 ex1) Ret.ret ?_
  intro v a w hR hE
  obtain ⟨rfl, hp⟩ := Ret.of hR
  have hp : Hp Z ρ (Pt b1 (.cells #[(.int .i64 p0.kind), (.string p0.text), (.int .i64 p0.at_), (.int .i64 p0.fin), vp0_kids] 24 (0, 0)) :: L) w := hp
  refine s_lit (wk0 rfl) rfl rfl hE hp rfl [(0, (.int .i64 x1))] ⟨⟨rfl, rfl⟩, trivial⟩ [(.int .i64 x1)] 3 (fun w => by simp [Instr.buildSlice, Instr.fill, Value.cells, go_sem]) ?_
  intro a w b2 hE hp
  have hp : Hp Z ρ (Pt b2 (.cells #[(.int .i64 x1)] 3 (0, 0)) :: Pt b1 (.cells #[(.int .i64 p0.kind), (.string p0.text), (.int .i64 p0.at_), (.int .i64 p0.fin), vp0_kids] 24 (0, 0)) :: L) w := hp
  refine s_val (wk0 rfl) rfl rfl hE hp (v := (.slice (some ⟨b2, 0, none⟩) 1 1)) (ex_asn rfl hE rfl) ?_
  intro a hE
  refine s_nil ?_
  refine k_seq ?_
  refine k_seq ?_
  refine k_region ?_
  refine s_val (wk0 rfl) rfl rfl hE hp (v := (.pointer (some ⟨b1, 4, none⟩))) (ex_field rfl hE rfl (fldty24_4 _ _)) ?_
  intro a hE
  refine s_val (wk0 rfl) rfl rfl hE hp (v := vp0_kids) (ex_load rfl hE rfl (fun w hw => run_ld1 varty22 (Hp.c 1 rfl 4 rfl w hw))) ?_
  intro a hE
  refine s_val (wk0 rfl) rfl rfl hE hp (v := (.int .i64 (p0.kids.length : Int))) (ex_len rfl hE rfl (RoSl.len hp0_kids slty22)) ?_
  intro a hE
  refine s_val (wk0 rfl) rfl rfl hE hp (v := (.int .i64 0)) (ex_move rfl hE rfl) ?_
  intro a hE
  refine s_nil ?_
  have hp := (hp.get 0 rfl).imp (own_of_pt (l := (([x1] : List Int) : List Int)) (n := 1) rfl (by decide) rfl)
  have hp : Hp Z ρ (OwnSl 3 (.slice (some ⟨b2, 0, none⟩) 1 1) ([x1] : List Int) :: Pt b1 (.cells #[(.int .i64 p0.kind), (.string p0.text), (.int .i64 p0.at_), (.int .i64 p0.fin), vp0_kids] 24 (0, 0)) :: L) w := hp
  obtain ⟨b3, hb1, hm⟩ := bnd hm
  refine k_block (fun a w => ∃ w2 : Value, Env 29 [(1, (.pointer (some ⟨b1, 0, none⟩))), (3, w2)] a ∧ Hp Z ρ (OwnSl 3 w2 b3 :: Pt b1 (.cells #[(.int .i64 p0.kind), (.string p0.text), (.int .i64 p0.at_), (.int .i64 p0.fin), vp0_kids] 24 (0, 0)) :: L) w) ?_ ?_
  · refine k_loop hb1 (fun s a w => ∃ w2 : Value, Env 29 [(1, (.pointer (some ⟨b1, 0, none⟩))), (3, w2), (10, vp0_kids), (11, (.int .i64 (p0.kids.length : Int))), (12, (.int .i64 s.1))] a ∧ Hp Z ρ (OwnSl 3 w2 s.2 :: Pt b1 (.cells #[(.int .i64 p0.kind), (.string p0.text), (.int .i64 p0.at_), (.int .i64 p0.fin), vp0_kids] 24 (0, 0)) :: L) w) ?_ ?_
    · exact ⟨_, hE.cut ⟨rfl, rfl, rfl, rfl, rfl, trivial⟩, hp⟩
    · rintro ⟨lp1_0, lp1_1⟩ st a w ⟨w2, hE, hp⟩ hl1
      have hE : Env 29 [(1, (.pointer (some ⟨b1, 0, none⟩))), (3, w2), (10, vp0_kids), (11, (.int .i64 (p0.kids.length : Int))), (12, (.int .i64 lp1_0))] a := hE
      have hp : Hp Z ρ (OwnSl 3 w2 lp1_1 :: Pt b1 (.cells #[(.int .i64 p0.kind), (.string p0.text), (.int .i64 p0.at_), (.int .i64 p0.fin), vp0_kids] 24 (0, 0)) :: L) w := hp
      replace hl1 : m_fingerprint_Symbols_body_lp1 p0 self lp1_0 lp1_1 = some st := hl1
      unfold m_fingerprint_Symbols_body_lp1 at hl1
      refine k_seq ?_
      refine k_region ?_
      refine s_val (wk0 rfl) rfl rfl hE hp (v := (.bool (decide (lp1_0 < (p0.kids.length : Int))))) (ex_lss rfl hE rfl rfl) ?_
      intro a hE
      refine s_nil ?_
      refine k_seq ?_
      refine k_if hE rfl (fun hb2 => ?_) (fun hb2 => ?_)
      · replace hl1 := (it hb2).symm.trans hl1
        refine k_skip ?_
        refine k_seq ?_
        refine k_plain ?_
        refine k_seq ?_
        refine k_region ?_
        obtain ⟨x2, ex2, hl1⟩ := bnd hl1
        obtain ⟨b4, b4o, b4c, b4r, b4k, b4f⟩ := RoSl.at hp0_kids slty22 ex2
        obtain ⟨vb4_kids, rfl, hb4_kids⟩ := NodeAt.opens b4k
        have b4f : AtP ρ b4 b4o [(.int .i64 x2.kind), (.string x2.text), (.int .i64 x2.at_), (.int .i64 x2.fin), vb4_kids] := b4f
        refine s_val (wk0 rfl) rfl rfl hE hp (v := (.pointer (some ⟨b4, b4o, none⟩))) (ex_index rfl hE rfl rfl b4r) ?_
        intro a hE
        refine s_val (wk0 rfl) rfl rfl hE hp (v := (.agg #[(.int .i64 x2.kind), (.string x2.text), (.int .i64 x2.at_), (.int .i64 x2.fin), vb4_kids])) (ex_load rfl hE rfl (fun w hw => run_ldN (cs := [(.int .i64 x2.kind), (.string x2.text), (.int .i64 x2.at_), (.int .i64 x2.fin), vb4_kids]) varty24 (fun j u hj => cell_of hw.le (b4f j u hj)))) ?_
        intro a hE
        refine s_new (wk0 rfl) rfl rfl hE hp rfl [(.int .i64 0), (.string ByteArray.empty), (.int .i64 0), (.int .i64 0), (.slice none 0 0)] (fun w => by simp [Instr.alloc, go_sem] <;> rfl) ?_
        intro a w b5 hE hp
        have hp : Hp Z ρ (Pt b5 (.cells #[(.int .i64 0), (.string ByteArray.empty), (.int .i64 0), (.int .i64 0), (.slice none 0 0)] 24 (0, 0)) :: OwnSl 3 w2 lp1_1 :: Pt b1 (.cells #[(.int .i64 p0.kind), (.string p0.text), (.int .i64 p0.at_), (.int .i64 p0.fin), vp0_kids] 24 (0, 0)) :: L) w := hp
        refine s_store (wk0 rfl) rfl hE hp rfl rfl rfl 0 rfl varty24.size_ rfl (allOne_mem ⟨rfl, rfl, rfl, rfl, (RoSl.one hb4_kids), trivial⟩) [(.int .i64 x2.kind), (.string x2.text), (.int .i64 x2.at_), (.int .i64 x2.fin), vb4_kids] rfl ?_
        intro w hp
        have hp : Hp Z ρ (Pt b5 (.cells #[(.int .i64 x2.kind), (.string x2.text), (.int .i64 x2.at_), (.int .i64 x2.fin), vb4_kids] 24 (0, 0)) :: OwnSl 3 w2 lp1_1 :: Pt b1 (.cells #[(.int .i64 p0.kind), (.string p0.text), (.int .i64 p0.at_), (.int .i64 p0.fin), vp0_kids] 24 (0, 0)) :: L) w := hp
        refine s_nil ?_
        refine k_region ?_
        refine s_val (wk0 rfl) rfl rfl hE hp (v := w2) (ex_move rfl hE rfl) ?_
        intro a hE
        refine s_val (wk0 rfl) rfl rfl hE hp (v := (.agg #[(.int .i64 x2.kind), (.string x2.text), (.int .i64 x2.at_), (.int .i64 x2.fin), vb4_kids])) (ex_load rfl hE rfl (fun w hw => run_ldN (cs := [(.int .i64 x2.kind), (.string x2.text), (.int .i64 x2.at_), (.int .i64 x2.fin), vb4_kids]) varty24 (Hp.cN 0 rfl 0 _ (sub_all rfl) w hw))) ?_
        intro a hE
        obtain ⟨x3, ex3, hl1⟩ := bnd hl1
        refine s_call (wk0 rfl) rfl rfl hE rfl [(.agg #[(.int .i64 x2.kind), (.string x2.text), (.int .i64 x2.at_), (.int .i64 x2.fin), vb4_kids])] ⟨rfl, trivial⟩ ent15 (hself hT x2 vb4_kids hb4_kids hp x3 ex3) Ret.ret ?_
        intro v1 a w hR hE
        obtain ⟨u, hu, hp⟩ := Ret.of hR
        rw [← hu] at hp
        have hp : Hp Z ρ (OwnSl 3 v1 x3 :: Pt b5 (.cells #[(.int .i64 x2.kind), (.string x2.text), (.int .i64 x2.at_), (.int .i64 x2.fin), vb4_kids] 24 (0, 0)) :: OwnSl 3 w2 lp1_1 :: Pt b1 (.cells #[(.int .i64 p0.kind), (.string p0.text), (.int .i64 p0.at_), (.int .i64 p0.fin), vp0_kids] 24 (0, 0)) :: L) w := hp
        obtain ⟨x4, ex4, hl1⟩ := bnd hl1
        obtain ⟨k1, k1a, k1d, k1h⟩ := (hp.get 0 rfl).lend
        refine s_apps (wk0 rfl) rfl rfl hE k1h rfl slty25 rfl rfl 1 rfl rfl (OwnSl.ro k1d k1a) ex4 ?_
        intro v2 a w hE hp
        have hp := Hp.back k1a k1d hp
        have hp : Hp Z ρ (OwnSl 3 v1 x3 :: Pt b5 (.cells #[(.int .i64 x2.kind), (.string x2.text), (.int .i64 x2.at_), (.int .i64 x2.fin), vb4_kids] 24 (0, 0)) :: OwnSl 3 v2 x4 :: Pt b1 (.cells #[(.int .i64 p0.kind), (.string p0.text), (.int .i64 p0.at_), (.int .i64 p0.fin), vp0_kids] 24 (0, 0)) :: L) w := hp
        refine s_val (wk0 rfl) rfl rfl hE hp (v := v2) (ex_asn rfl hE rfl) ?_
        intro a hE
        refine s_nil ?_
        refine k_region ?_
        obtain ⟨x5, ex5, hl1⟩ := bnd hl1
        refine s_val (wk0 rfl) rfl rfl hE hp (v := (.int .i64 x5)) (ex_add rfl hE rfl rfl (inK_some ex5)) ?_
        intro a hE
        refine s_val (wk0 rfl) rfl rfl hE hp (v := (.int .i64 x5)) (ex_move rfl hE rfl) ?_
        intro a hE
        refine s_nil ?_
        exact ⟨_, (Option.some.inj hl1).symm, _, hE.cut ⟨rfl, rfl, rfl, rfl, rfl, trivial⟩, (((hp.get 1 rfl).drop).drop)⟩
      · replace hl1 := (ie hb2).symm.trans hl1
        refine k_exit ?_
        refine ⟨_, (Option.some.inj hl1).symm, fun hbb => ?_⟩
        subst hbb
        exact ⟨_, hE.cut ⟨rfl, rfl, trivial⟩, hp⟩
  · rintro a w ⟨w2, hE, hp⟩
    refine k_seq ?_
    refine k_seq ?_
    refine k_region ?_
    refine s_val (wk0 rfl) rfl rfl hE hp (v := (.pointer (some ⟨b1, 4, none⟩))) (ex_field rfl hE rfl (fldty24_4 _ _)) ?_
    intro a hE
    refine s_val (wk0 rfl) rfl rfl hE hp (v := vp0_kids) (ex_load rfl hE rfl (fun w hw => run_ld1 varty22 (Hp.c 1 rfl 4 rfl w hw))) ?_
    intro a hE
    refine s_val (wk0 rfl) rfl rfl hE hp (v := (.int .i64 (p0.kids.length : Int))) (ex_len rfl hE rfl (RoSl.len hp0_kids slty22)) ?_
    intro a hE
    refine s_val (wk0 rfl) rfl rfl hE hp (v := (.bool (decide (0 < (p0.kids.length : Int))))) (ex_gtr rfl hE rfl rfl) ?_
    intro a hE
    refine s_nil ?_
    have hE := hE.cut (E' := [(3, w2), (24, (.bool (decide (0 < (p0.kids.length : Int)))))]) ⟨rfl, rfl, trivial⟩
    obtain ⟨j1, hj1, hm⟩ := bnd hm
    refine k_cut (fun a w => ∃ w2 : Value, Env 29 [(3, w2)] a ∧ Hp Z ρ (OwnSl 3 w2 j1 :: Pt b1 (.cells #[(.int .i64 p0.kind), (.string p0.text), (.int .i64 p0.at_), (.int .i64 p0.fin), vp0_kids] 24 (0, 0)) :: L) w) ?_ ?_
    ·
      refine k_if hE rfl (fun hb3 => ?_) (fun hb3 => ?_)
      · replace hj1 := (it hb3).symm.trans hj1
        refine k_region ?_
        refine s_val (wk0 rfl) rfl rfl hE hp (v := w2) (ex_move rfl hE rfl) ?_
        intro a hE
        refine s_lit (wk0 rfl) rfl rfl hE hp rfl [(0, (.int .i64 0))] ⟨⟨rfl, rfl⟩, trivial⟩ [(.int .i64 0)] 3 (fun w => by simp [Instr.buildSlice, Instr.fill, Value.cells, go_sem]) ?_
        intro a w b6 hE hp
        have hp : Hp Z ρ (Pt b6 (.cells #[(.int .i64 0)] 3 (0, 0)) :: OwnSl 3 w2 b3 :: Pt b1 (.cells #[(.int .i64 p0.kind), (.string p0.text), (.int .i64 p0.at_), (.int .i64 p0.fin), vp0_kids] 24 (0, 0)) :: L) w := hp
        obtain ⟨x6, ex6, hj1⟩ := bnd hj1
        refine s_app (wk0 rfl) rfl rfl hE hp rfl slty25 rfl rfl 1 rfl rfl (l2 := [0]) rfl (fun j u hj => by have := Hp.cN 0 rfl 0 _ (sub_all rfl) w hp j u hj; simpa using this) ex6 ?_
        intro v3 a w hE hp
        have hp : Hp Z ρ (Pt b6 (.cells #[(.int .i64 0)] 3 (0, 0)) :: OwnSl 3 v3 x6 :: Pt b1 (.cells #[(.int .i64 p0.kind), (.string p0.text), (.int .i64 p0.at_), (.int .i64 p0.fin), vp0_kids] 24 (0, 0)) :: L) w := hp
        refine s_val (wk0 rfl) rfl rfl hE hp (v := v3) (ex_asn rfl hE rfl) ?_
        intro a hE
        refine s_nil ?_
        obtain rfl := Option.some.inj hj1
        exact ⟨_, hE.cut ⟨rfl, trivial⟩, (hp.drop)⟩
      · replace hj1 := (ie hb3).symm.trans hj1
        refine k_skip ?_
        obtain rfl := Option.some.inj hj1
        exact ⟨_, hE.cut ⟨rfl, trivial⟩, hp⟩
    · rintro a w ⟨w2, hE, hp⟩
      refine k_seq ?_
      refine k_region ?_
      refine s_val (wk0 rfl) rfl rfl hE hp (v := w2) (ex_move rfl hE rfl) ?_
      intro a hE
      refine s_val (wk0 rfl) rfl rfl hE hp (v := w2) (ex_asn rfl hE rfl) ?_
      intro a hE
      refine s_nil ?_
      refine k_ret ?_
      obtain rfl := Option.some.inj hm
      exact ret1 hE rfl rfl ⟨_, rfl, _, rfl, ((hp.get 1 rfl).drop)⟩
theorem c_fingerprint_Symbols_r : ∀ (n : Nat), ∀ {Z : World} {ρ : PH} {L : List Atom} {w : World} (hT : Tabs ρ) (p0 : Node) (vp0_kids : Value) (hp0_kids : RoSl ρ vp0_kids p0.kids) (hp : Hp Z ρ (L) w) (r : (List Int)) (hm : m_fingerprint_Symbols_r n p0 = some r), Calls Tryd.prog 15 #[(.agg #[(.int .i64 p0.kind), (.string p0.text), (.int .i64 p0.at_), (.int .i64 p0.fin), vp0_kids])] w (Ret fun v w' => ∃ (v1 : Value), v = v1 ∧ Hp Z ρ (OwnSl 3 v1 r :: L) w') := by
  intro n
  induction n with
  | zero => intro Z ρ L w hT p0 vp0_kids hp0_kids hp r hm; cases hm
  | succ n ih => intro Z ρ L w hT p0 vp0_kids hp0_kids hp r hm; exact c_fingerprint_Symbols_body (m_fingerprint_Symbols_r n) ih hT p0 vp0_kids hp0_kids hp r hm
theorem c_fingerprint_Symbols {Z : World} {ρ : PH} {L : List Atom} {w : World} (hT : Tabs ρ) (p0 : Node) (vp0_kids : Value) (hp0_kids : RoSl ρ vp0_kids p0.kids) (hp : Hp Z ρ (L) w) (r : (List Int)) (hm : m_fingerprint_Symbols p0 = some r) :
    Calls Tryd.prog 15 #[(.agg #[(.int .i64 p0.kind), (.string p0.text), (.int .i64 p0.at_), (.int .i64 p0.fin), vp0_kids])] w (Ret fun v w' => ∃ (v1 : Value), v = v1 ∧ Hp Z ρ (OwnSl 3 v1 r :: L) w') := c_fingerprint_Symbols_r _ hT p0 vp0_kids hp0_kids hp r hm
/- assessor/fingerprint.modulo -/
set_option maxRecDepth 100000 in
set_option maxHeartbeats 4000000 in
theorem c_fingerprint_modulo {Z : World} {ρ : PH} {L : List Atom} {w : World} (hT : Tabs ρ) (p0 : Int) (hp : Hp Z ρ (L) w) (r : Int) (hm : m_fingerprint_modulo p0 = some r) :
    Calls Tryd.prog 35 #[(.int .i64 p0)] w (Ret fun v w' => v = (.int .i64 r) ∧ Hp Z ρ (L) w') := by
  refine enter (N := 7) Tryd.func35 rfl rfl [(0, (.int .i64 p0))] rfl (argsIn_mem ⟨rfl, trivial⟩) fun a hE => ?_
  unfold m_fingerprint_modulo at hm
  refine k_seq ?_
  refine k_region ?_
  refine s_val (wk0 rfl) rfl rfl hE hp (v := (.int .i64 0)) (ex_asn rfl hE rfl) ?_
  intro a hE
  refine s_nil ?_
  refine k_seq ?_
  refine k_region ?_
  refine s_val (wk0 rfl) rfl rfl hE hp (v := (.int .i64 p0)) (ex_move rfl hE rfl) ?_
  intro a hE
  obtain ⟨x1, ex1, hm⟩ := bnd hm
  refine s_val (wk0 rfl) rfl rfl hE hp (v := (.int .i64 x1)) (ex_rem rfl hE rfl rfl (remK_some ex1).1 (remK_some ex1).2) ?_
  intro a hE
  obtain ⟨x2, ex2, hm⟩ := bnd hm
  refine s_val (wk0 rfl) rfl rfl hE hp (v := (.int .i64 x2)) (ex_add rfl hE rfl rfl (inK_some ex2)) ?_
  intro a hE
  obtain ⟨x3, ex3, hm⟩ := bnd hm
  refine s_val (wk0 rfl) rfl rfl hE hp (v := (.int .i64 x3)) (ex_rem rfl hE rfl rfl (remK_some ex3).1 (remK_some ex3).2) ?_
  intro a hE
  refine s_val (wk0 rfl) rfl rfl hE hp (v := (.int .i64 x3)) (ex_asn rfl hE rfl) ?_
  intro a hE
  refine s_nil ?_
  refine k_ret ?_
  obtain rfl := Option.some.inj hm
  exact ret1 hE rfl rfl ⟨_, rfl, rfl, hp⟩
/- assessor/fingerprint.Hash -/
set_option maxRecDepth 100000 in
set_option maxHeartbeats 4000000 in
theorem c_fingerprint_Hash {Z : World} {ρ : PH} {L : List Atom} {w : World} (hT : Tabs ρ) (p0 : (List Int)) (vp0 : Value) (hp0 : RoSl ρ vp0 p0) (hp : Hp Z ρ (L) w) (r : Int) (hm : m_fingerprint_Hash p0 = some r) :
    Calls Tryd.prog 17 #[vp0] w (Ret fun v w' => v = (.int .i64 r) ∧ Hp Z ρ (L) w') := by
  refine enter (N := 20) Tryd.func17 rfl rfl [(0, vp0)] rfl (argsIn_mem ⟨rfl, trivial⟩) fun a hE => ?_
  unfold m_fingerprint_Hash at hm
  refine k_seq ?_
  refine k_region ?_
  refine s_val (wk0 rfl) rfl rfl hE hp (v := (.int .i64 0)) (ex_asn rfl hE rfl) ?_
  intro a hE
  refine s_nil ?_
  refine k_seq ?_
  refine k_region ?_
  refine s_val (wk0 rfl) rfl rfl hE hp (v := (.int .i64 0)) (ex_asn rfl hE rfl) ?_
  intro a hE
  refine s_nil ?_
  refine k_seq ?_
  refine k_seq ?_
  refine k_region ?_
  refine s_val (wk0 rfl) rfl rfl hE hp (v := vp0) (ex_move rfl hE rfl) ?_
  intro a hE
  refine s_val (wk0 rfl) rfl rfl hE hp (v := (.int .i64 (p0.length : Int))) (ex_len rfl hE rfl (RoSl.len hp0 slty25)) ?_
  intro a hE
  refine s_val (wk0 rfl) rfl rfl hE hp (v := (.int .i64 0)) (ex_move rfl hE rfl) ?_
  intro a hE
  refine s_nil ?_
  obtain ⟨b1, hb1, hm⟩ := bnd hm
  refine k_block (fun a w => Env 20 [(3, (.int .i64 b1))] a ∧ Hp Z ρ (L) w) ?_ ?_
  · refine k_loop hb1 (fun s a w => Env 20 [(3, (.int .i64 s.1)), (6, vp0), (7, (.int .i64 (p0.length : Int))), (8, (.int .i64 s.2))] a ∧ Hp Z ρ (L) w) ?_ ?_
    · exact ⟨hE.cut ⟨rfl, rfl, rfl, rfl, trivial⟩, hp⟩
    · rintro ⟨lp1_0, lp1_1⟩ st a w ⟨hE, hp⟩ hl1
      have hE : Env 20 [(3, (.int .i64 lp1_0)), (6, vp0), (7, (.int .i64 (p0.length : Int))), (8, (.int .i64 lp1_1))] a := hE
      have hp : Hp Z ρ (L) w := hp
      replace hl1 : m_fingerprint_Hash_lp1 p0 lp1_0 lp1_1 = some st := hl1
      unfold m_fingerprint_Hash_lp1 at hl1
      refine k_seq ?_
      refine k_region ?_
      refine s_val (wk0 rfl) rfl rfl hE hp (v := (.bool (decide (lp1_1 < (p0.length : Int))))) (ex_lss rfl hE rfl rfl) ?_
      intro a hE
      refine s_nil ?_
      refine k_seq ?_
      refine k_if hE rfl (fun hb2 => ?_) (fun hb2 => ?_)
      · replace hl1 := (it hb2).symm.trans hl1
        refine k_skip ?_
        refine k_seq ?_
        refine k_plain ?_
        refine k_seq ?_
        refine k_region ?_
        obtain ⟨x1, ex1, hl1⟩ := bnd hl1
        obtain ⟨b2, b2o, b2c, b2r, b2k, b2f⟩ := RoSl.at hp0 slty25 ex1
        obtain rfl : b2c = Enc.enc x1 := b2k
        have b2f : AtP ρ b2 b2o [(.int .i64 x1)] := b2f
        refine s_val (wk0 rfl) rfl rfl hE hp (v := (.pointer (some ⟨b2, b2o, none⟩))) (ex_index rfl hE rfl rfl b2r) ?_
        intro a hE
        refine s_val (wk0 rfl) rfl rfl hE hp (v := (.int .i64 x1)) (ex_load rfl hE rfl (fun w hw => run_ld1 varty3 (b2f.c 0 rfl w hw))) ?_
        intro a hE
        refine s_val (wk0 rfl) rfl rfl hE hp (v := (.int .i64 x1)) (ex_asn rfl hE rfl) ?_
        intro a hE
        refine s_nil ?_
        refine k_region ?_
        refine s_val (wk0 rfl) rfl rfl hE hp (v := (.int .i64 lp1_0)) (ex_move rfl hE rfl) ?_
        intro a hE
        obtain ⟨x2, ex2, hl1⟩ := bnd hl1
        refine s_val (wk0 rfl) rfl rfl hE hp (v := (.int .i64 x2)) (ex_mul rfl hE rfl rfl (inK_some ex2)) ?_
        intro a hE
        refine s_val (wk0 rfl) rfl rfl hE hp (v := (.int .i64 x1)) (ex_move rfl hE rfl) ?_
        intro a hE
        obtain ⟨x3, ex3, hl1⟩ := bnd hl1
        refine s_call (wk0 rfl) rfl rfl hE rfl [(.int .i64 x1)] ⟨rfl, trivial⟩ ent35 (c_fingerprint_modulo hT x1 hp x3 ex3) Ret.ret ?_
        intro v a w hR hE
        obtain ⟨rfl, hp⟩ := Ret.of hR
        have hp : Hp Z ρ (L) w := hp
        obtain ⟨x4, ex4, hl1⟩ := bnd hl1
        refine s_val (wk0 rfl) rfl rfl hE hp (v := (.int .i64 x4)) (ex_add rfl hE rfl rfl (inK_some ex4)) ?_
        intro a hE
        obtain ⟨x5, ex5, hl1⟩ := bnd hl1
        refine s_val (wk0 rfl) rfl rfl hE hp (v := (.int .i64 x5)) (ex_rem rfl hE rfl rfl (remK_some ex5).1 (remK_some ex5).2) ?_
        intro a hE
        refine s_val (wk0 rfl) rfl rfl hE hp (v := (.int .i64 x5)) (ex_asn rfl hE rfl) ?_
        intro a hE
        refine s_nil ?_
        have hE := hE.cut (E' := [(3, (.int .i64 x5)), (6, vp0), (7, (.int .i64 (p0.length : Int))), (8, (.int .i64 lp1_1))]) ⟨rfl, rfl, rfl, rfl, trivial⟩
        refine k_region ?_
        obtain ⟨x6, ex6, hl1⟩ := bnd hl1
        refine s_val (wk0 rfl) rfl rfl hE hp (v := (.int .i64 x6)) (ex_add rfl hE rfl rfl (inK_some ex6)) ?_
        intro a hE
        refine s_val (wk0 rfl) rfl rfl hE hp (v := (.int .i64 x6)) (ex_move rfl hE rfl) ?_
        intro a hE
        refine s_nil ?_
        exact ⟨_, (Option.some.inj hl1).symm, hE.cut ⟨rfl, rfl, rfl, rfl, trivial⟩, hp⟩
      · replace hl1 := (ie hb2).symm.trans hl1
        refine k_exit ?_
        refine ⟨_, (Option.some.inj hl1).symm, fun hbb => ?_⟩
        subst hbb
        exact ⟨hE.cut ⟨rfl, trivial⟩, hp⟩
  · rintro a w ⟨hE, hp⟩
    refine k_seq ?_
    refine k_region ?_
    refine s_val (wk0 rfl) rfl rfl hE hp (v := (.int .i64 b1)) (ex_move rfl hE rfl) ?_
    intro a hE
    refine s_val (wk0 rfl) rfl rfl hE hp (v := (.int .i64 b1)) (ex_asn rfl hE rfl) ?_
    intro a hE
    refine s_nil ?_
    refine k_ret ?_
    obtain rfl := Option.some.inj hm
    exact ret1 hE rfl rfl ⟨_, rfl, rfl, hp⟩
/- assessor/fingerprint.power -/
set_option maxRecDepth 100000 in
set_option maxHeartbeats 4000000 in
theorem c_fingerprint_power {Z : World} {ρ : PH} {L : List Atom} {w : World} (hT : Tabs ρ) (p0 : Int) (hp : Hp Z ρ (L) w) (r : Int) (hm : m_fingerprint_power p0 = some r) :
    Calls Tryd.prog 44 #[(.int .i64 p0)] w (Ret fun v w' => v = (.int .i64 r) ∧ Hp Z ρ (L) w') := by
  refine enter (N := 12) Tryd.func44 rfl rfl [(0, (.int .i64 p0))] rfl (argsIn_mem ⟨rfl, trivial⟩) fun a hE => ?_
  unfold m_fingerprint_power at hm
  refine k_seq ?_
  refine k_region ?_
  refine s_val (wk0 rfl) rfl rfl hE hp (v := (.int .i64 0)) (ex_asn rfl hE rfl) ?_
  intro a hE
  refine s_nil ?_
  refine k_seq ?_
  refine k_region ?_
  refine s_val (wk0 rfl) rfl rfl hE hp (v := (.int .i64 1)) (ex_asn rfl hE rfl) ?_
  intro a hE
  refine s_nil ?_
  refine k_seq ?_
  refine k_seq ?_
  refine k_region ?_
  refine s_val (wk0 rfl) rfl rfl hE hp (v := (.int .i64 p0)) (ex_move rfl hE rfl) ?_
  intro a hE
  refine s_val (wk0 rfl) rfl rfl hE hp (v := (.int .i64 0)) (ex_move rfl hE rfl) ?_
  intro a hE
  refine s_nil ?_
  obtain ⟨b1, hb1, hm⟩ := bnd hm
  refine k_block (fun a w => Env 12 [(3, (.int .i64 b1))] a ∧ Hp Z ρ (L) w) ?_ ?_
  · refine k_loop hb1 (fun s a w => Env 12 [(3, (.int .i64 s.1)), (4, (.int .i64 p0)), (5, (.int .i64 s.2))] a ∧ Hp Z ρ (L) w) ?_ ?_
    · exact ⟨hE.cut ⟨rfl, rfl, rfl, trivial⟩, hp⟩
    · rintro ⟨lp1_0, lp1_1⟩ st a w ⟨hE, hp⟩ hl1
      have hE : Env 12 [(3, (.int .i64 lp1_0)), (4, (.int .i64 p0)), (5, (.int .i64 lp1_1))] a := hE
      have hp : Hp Z ρ (L) w := hp
      replace hl1 : m_fingerprint_power_lp1 p0 lp1_0 lp1_1 = some st := hl1
      unfold m_fingerprint_power_lp1 at hl1
      refine k_seq ?_
      refine k_region ?_
      refine s_val (wk0 rfl) rfl rfl hE hp (v := (.bool (decide (lp1_1 < p0)))) (ex_lss rfl hE rfl rfl) ?_
      intro a hE
      refine s_nil ?_
      refine k_seq ?_
      refine k_if hE rfl (fun hb2 => ?_) (fun hb2 => ?_)
      · replace hl1 := (it hb2).symm.trans hl1
        refine k_skip ?_
        refine k_seq ?_
        refine k_plain ?_
        refine k_region ?_
        refine s_val (wk0 rfl) rfl rfl hE hp (v := (.int .i64 lp1_0)) (ex_move rfl hE rfl) ?_
        intro a hE
        obtain ⟨x1, ex1, hl1⟩ := bnd hl1
        refine s_val (wk0 rfl) rfl rfl hE hp (v := (.int .i64 x1)) (ex_mul rfl hE rfl rfl (inK_some ex1)) ?_
        intro a hE
        obtain ⟨x2, ex2, hl1⟩ := bnd hl1
        refine s_val (wk0 rfl) rfl rfl hE hp (v := (.int .i64 x2)) (ex_rem rfl hE rfl rfl (remK_some ex2).1 (remK_some ex2).2) ?_
        intro a hE
        refine s_val (wk0 rfl) rfl rfl hE hp (v := (.int .i64 x2)) (ex_asn rfl hE rfl) ?_
        intro a hE
        refine s_nil ?_
        refine k_region ?_
        obtain ⟨x3, ex3, hl1⟩ := bnd hl1
        refine s_val (wk0 rfl) rfl rfl hE hp (v := (.int .i64 x3)) (ex_add rfl hE rfl rfl (inK_some ex3)) ?_
        intro a hE
        refine s_val (wk0 rfl) rfl rfl hE hp (v := (.int .i64 x3)) (ex_move rfl hE rfl) ?_
        intro a hE
        refine s_nil ?_
        exact ⟨_, (Option.some.inj hl1).symm, hE.cut ⟨rfl, rfl, rfl, trivial⟩, hp⟩
      · replace hl1 := (ie hb2).symm.trans hl1
        refine k_exit ?_
        refine ⟨_, (Option.some.inj hl1).symm, fun hbb => ?_⟩
        subst hbb
        exact ⟨hE.cut ⟨rfl, trivial⟩, hp⟩
  · rintro a w ⟨hE, hp⟩
    refine k_seq ?_
    refine k_region ?_
    refine s_val (wk0 rfl) rfl rfl hE hp (v := (.int .i64 b1)) (ex_move rfl hE rfl) ?_
    intro a hE
    refine s_val (wk0 rfl) rfl rfl hE hp (v := (.int .i64 b1)) (ex_asn rfl hE rfl) ?_
    intro a hE
    refine s_nil ?_
    refine k_ret ?_
    obtain rfl := Option.some.inj hm
    exact ret1 hE rfl rfl ⟨_, rfl, rfl, hp⟩
/- assessor/fingerprint.ranged -/
set_option maxRecDepth 100000 in
set_option maxHeartbeats 4000000 in
theorem c_fingerprint_ranged {Z : World} {ρ : PH} {L : List Atom} {w : World} (hT : Tabs ρ) (p0 : Int) (hp : Hp Z ρ (L) w) (r : Bool) (hm : m_fingerprint_ranged p0 = some r) :
    Calls Tryd.prog 31 #[(.int .i64 p0)] w (Ret fun v w' => v = (.bool r) ∧ Hp Z ρ (L) w') := by
  refine enter (N := 9) Tryd.func31 rfl rfl [(0, (.int .i64 p0))] rfl (argsIn_mem ⟨rfl, trivial⟩) fun a hE => ?_
  unfold m_fingerprint_ranged at hm
  refine k_seq ?_
  refine k_region ?_
  refine s_val (wk0 rfl) rfl rfl hE hp (v := (.bool false)) (ex_asn rfl hE rfl) ?_
  intro a hE
  refine s_nil ?_
  refine k_seq ?_
  refine k_region ?_
  refine s_val (wk0 rfl) rfl rfl hE hp (v := (.int .i64 p0)) (ex_move rfl hE rfl) ?_
  intro a hE
  refine s_val (wk0 rfl) rfl rfl hE hp (v := (.bool (decide (1 ≤ p0)))) (ex_geq rfl hE rfl rfl) ?_
  intro a hE
  refine s_val (wk0 rfl) rfl rfl hE hp (v := (.bool (decide (1 ≤ p0)))) (ex_move rfl hE rfl) ?_
  intro a hE
  refine s_cut [_, _, _] (fun a w => Env 9 [(8, (.bool ((decide (1 ≤ p0)) && (decide (p0 ≤ 64)))))] a ∧ Hp Z ρ (L) w) ?_ ?_
  · rcases Bool.eq_false_or_eq_true (decide (1 ≤ p0)) with hb1 | hb1
    ·
      refine s_val (wk1 hE rfl rfl rfl hb1) rfl rfl hE hp (v := (.int .i64 p0)) (ex_move rfl hE rfl) ?_
      intro a hE
      refine s_val (wk1 hE rfl rfl rfl hb1) rfl rfl hE hp (v := (.bool (decide (p0 ≤ 64)))) (ex_leq rfl hE rfl rfl) ?_
      intro a hE
      refine s_val (wk0 rfl) rfl rfl hE hp (v := (.bool (decide (p0 ≤ 64)))) (ex_pick1 rfl hE rfl hb1 rfl) ?_
      intro a hE
      have hE := hE.eqv (v' := (.bool ((decide (1 ≤ p0)) && (decide (p0 ≤ 64))))) (by rw [hb1]; rfl)
      exact s_nil ⟨hE.cut ⟨rfl, trivial⟩, hp⟩
    ·
      refine s_skip (wk2 hE rfl rfl rfl hb1) rfl rfl hE ?_
      intro a hE
      refine s_skip (wk2 hE rfl rfl rfl hb1) rfl rfl hE ?_
      intro a hE
      refine s_val (wk0 rfl) rfl rfl hE hp (v := (.bool false)) (ex_pick0 rfl hE rfl hb1 rfl) ?_
      intro a hE
      have hE := hE.eqv (v' := (.bool ((decide (1 ≤ p0)) && (decide (p0 ≤ 64))))) (by rw [hb1]; rfl)
      exact s_nil ⟨hE.cut ⟨rfl, trivial⟩, hp⟩
  · rintro a w ⟨hE, hp⟩
    refine s_val (wk0 rfl) rfl rfl hE hp (v := (.bool ((decide (1 ≤ p0)) && (decide (p0 ≤ 64))))) (ex_asn rfl hE rfl) ?_
    intro a hE
    refine s_nil ?_
    refine k_ret ?_
    obtain rfl := Option.some.inj hm
    exact ret1 hE rfl rfl ⟨_, rfl, rfl, hp⟩
/- assessor/fingerprint.roller -/
set_option maxRecDepth 100000 in
set_option maxHeartbeats 4000000 in
theorem c_fingerprint_roller {Z : World} {ρ : PH} {L : List Atom} {w : World} (hT : Tabs ρ) (p0 : Int) (hp : Hp Z ρ (L) w) (r : Int) (hm : m_fingerprint_roller p0 = some r) :
    Calls Tryd.prog 37 #[(.int .i64 p0)] w (Ret fun v w' => ∃ (b1 : Nat), v = (.func (.func 45) #[] #[.pointer (some ⟨b1, 0, none⟩)]) ∧ Hp Z ρ (Pt b1 (.cells #[(.int .i64 r)] 3 (0, 0)) :: L) w') := by
  refine enter (N := 8) Tryd.func37 rfl rfl [(0, (.int .i64 p0))] rfl (argsIn_mem ⟨rfl, trivial⟩) fun a hE => ?_
  unfold m_fingerprint_roller at hm
  refine k_seq ?_
  refine k_region ?_
  refine s_val (wk0 rfl) rfl rfl hE hp (v := .nilFunc) (ex_asn rfl hE rfl) ?_
  intro a hE
  refine s_nil ?_
  refine k_seq ?_
  refine k_region ?_
  refine s_val (wk0 rfl) rfl rfl hE hp (v := (.int .i64 p0)) (ex_move rfl hE rfl) ?_
  intro a hE
  obtain ⟨x1, ex1, hm⟩ := bnd hm
  refine s_val (wk0 rfl) rfl rfl hE hp (v := (.int .i64 x1)) (ex_sub rfl hE rfl rfl (inK_some ex1)) ?_
  intro a hE
  obtain ⟨x2, ex2, hm⟩ := bnd hm
  refine s_call (wk0 rfl) rfl rfl hE rfl [(.int .i64 x1)] ⟨rfl, trivial⟩ ent44 (c_fingerprint_power hT x1 hp x2 ex2) Ret.ret ?_
  intro v a w hR hE
  obtain ⟨rfl, hp⟩ := Ret.of hR
  have hp : Hp Z ρ (L) w := hp
  refine s_new (wk0 rfl) rfl rfl hE hp rfl [(.int .i64 0)] (fun w => by simp [Instr.alloc, go_sem] <;> rfl) ?_
  intro a w b1 hE hp
  have hp : Hp Z ρ (Pt b1 (.cells #[(.int .i64 0)] 3 (0, 0)) :: L) w := hp
  refine s_store (wk0 rfl) rfl hE hp rfl rfl rfl 0 rfl varty3.size_ rfl (allOne_mem ⟨rfl, trivial⟩) [(.int .i64 x2)] rfl ?_
  intro w hp
  have hp : Hp Z ρ (Pt b1 (.cells #[(.int .i64 x2)] 3 (0, 0)) :: L) w := hp
  refine s_nil ?_
  refine k_seq ?_
  refine k_region ?_
  refine s_val (wk0 rfl) rfl rfl hE hp (v := (.func (.func 45) #[] #[(.pointer (some ⟨b1, 0, none⟩))])) (ex_fn rfl hE [(.pointer (some ⟨b1, 0, none⟩))] (by exact ⟨rfl, trivial⟩)) ?_
  intro a hE
  refine s_val (wk0 rfl) rfl rfl hE hp (v := (.func (.func 45) #[] #[(.pointer (some ⟨b1, 0, none⟩))])) (ex_asn rfl hE rfl) ?_
  intro a hE
  refine s_nil ?_
  refine k_ret ?_
  obtain rfl := Option.some.inj hm
  exact ret1 hE rfl rfl ⟨_, rfl, _, rfl, hp⟩
/- assessor/fingerprint.roller$1 -/
set_option maxRecDepth 100000 in
set_option maxHeartbeats 4000000 in
theorem c_fingerprint_roller_1 {Z : World} {ρ : PH} {L : List Atom} {w : World} (hT : Tabs ρ) (p0 : Int) (p1 : Int) (p2 : Int) (bc0 : Nat) (c0 : Int) (hp : Hp Z ρ (Pt bc0 (.cells #[(.int .i64 c0)] 3 (0, 0)) :: L) w) (r : Int) (hm : m_fingerprint_roller_1 p0 p1 p2 c0 = some r) :
    Calls Tryd.prog 45 #[(.int .i64 p0), (.int .i64 p1), (.int .i64 p2), (.pointer (some ⟨bc0, 0, none⟩))] w (Ret fun v w' => v = (.int .i64 r) ∧ Hp Z ρ (Pt bc0 (.cells #[(.int .i64 c0)] 3 (0, 0)) :: L) w') := by
  refine enter (N := 21) Tryd.func45 rfl rfl [(0, (.int .i64 p0)), (1, (.int .i64 p1)), (2, (.int .i64 p2)), (3, (.pointer (some ⟨bc0, 0, none⟩)))] rfl (argsIn_mem ⟨rfl, rfl, rfl, rfl, trivial⟩) fun a hE => ?_
  unfold m_fingerprint_roller_1 at hm
  refine k_seq ?_
  refine k_region ?_
  refine s_val (wk0 rfl) rfl rfl hE hp (v := (.int .i64 0)) (ex_asn rfl hE rfl) ?_
  intro a hE
  refine s_nil ?_
  refine k_seq ?_
  refine k_quiet (by kernel_rfl) (by kernel_rfl) hp ?_
  refine q_val (wk0 rfl) rfl rfl hE (v := (.int .i64 p0)) (ex_move rfl hE rfl) ?_
  intro a hE
  refine q_val (wk0 rfl) rfl rfl hE (v := (.int .i64 p1)) (ex_move rfl hE rfl) ?_
  intro a hE
  obtain ⟨x1, ex1, hm⟩ := bnd hm
  refine q_call (wk0 rfl) rfl rfl hE rfl [(.int .i64 p1)] ⟨rfl, trivial⟩ ent35 (v := (.int .i64 x1)) (fun w hw => Calls.mono (c_fingerprint_modulo hT p1 hw x1 ex1) fun e w' ⟨v, he, hv, hh⟩ => ⟨by rw [he, hv], hh⟩) ?_
  intro a hE
  refine q_val (wk0 rfl) rfl rfl hE (v := (.int .i64 c0)) (ex_load rfl hE rfl (fun w hw => run_ld1 varty3 (Hp.c 0 rfl 0 rfl w hw))) ?_
  intro a hE
  obtain ⟨x2, ex2, hm⟩ := bnd hm
  refine q_val (wk0 rfl) rfl rfl hE (v := (.int .i64 x2)) (ex_mul rfl hE rfl rfl (inK_some ex2)) ?_
  intro a hE
  obtain ⟨x3, ex3, hm⟩ := bnd hm
  refine q_val (wk0 rfl) rfl rfl hE (v := (.int .i64 x3)) (ex_rem rfl hE rfl rfl (remK_some ex3).1 (remK_some ex3).2) ?_
  intro a hE
  obtain ⟨x4, ex4, hm⟩ := bnd hm
  refine q_val (wk0 rfl) rfl rfl hE (v := (.int .i64 x4)) (ex_sub rfl hE rfl rfl (inK_some ex4)) ?_
  intro a hE
  obtain ⟨x5, ex5, hm⟩ := bnd hm
  refine q_call (wk0 rfl) rfl rfl hE rfl [(.int .i64 x4)] ⟨rfl, trivial⟩ ent35 (v := (.int .i64 x5)) (fun w hw => Calls.mono (c_fingerprint_modulo hT x4 hw x5 ex5) fun e w' ⟨v, he, hv, hh⟩ => ⟨by rw [he, hv], hh⟩) ?_
  intro a hE
  obtain ⟨x6, ex6, hm⟩ := bnd hm
  refine q_val (wk0 rfl) rfl rfl hE (v := (.int .i64 x6)) (ex_mul rfl hE rfl rfl (inK_some ex6)) ?_
  intro a hE
  refine q_val (wk0 rfl) rfl rfl hE (v := (.int .i64 p2)) (ex_move rfl hE rfl) ?_
  intro a hE
  obtain ⟨x7, ex7, hm⟩ := bnd hm
  refine q_call (wk0 rfl) rfl rfl hE rfl [(.int .i64 p2)] ⟨rfl, trivial⟩ ent35 (v := (.int .i64 x7)) (fun w hw => Calls.mono (c_fingerprint_modulo hT p2 hw x7 ex7) fun e w' ⟨v, he, hv, hh⟩ => ⟨by rw [he, hv], hh⟩) ?_
  intro a hE
  obtain ⟨x8, ex8, hm⟩ := bnd hm
  refine q_val (wk0 rfl) rfl rfl hE (v := (.int .i64 x8)) (ex_add rfl hE rfl rfl (inK_some ex8)) ?_
  intro a hE
  obtain ⟨x9, ex9, hm⟩ := bnd hm
  refine q_val (wk0 rfl) rfl rfl hE (v := (.int .i64 x9)) (ex_rem rfl hE rfl rfl (remK_some ex9).1 (remK_some ex9).2) ?_
  intro a hE
  refine q_val (wk0 rfl) rfl rfl hE (v := (.int .i64 x9)) (ex_asn rfl hE rfl) ?_
  intro a hE
  refine q_nil fun w hp => ?_
  have hp : Hp Z ρ (Pt bc0 (.cells #[(.int .i64 c0)] 3 (0, 0)) :: L) w := hp
  refine k_ret ?_
  obtain rfl := Option.some.inj hm
  exact ret1 hE rfl rfl ⟨_, rfl, rfl, hp⟩
/- assessor/fingerprint.Roll -/
set_option maxRecDepth 100000 in
set_option maxHeartbeats 4000000 in
theorem c_fingerprint_Roll {Z : World} {ρ : PH} {L : List Atom} {w : World} (hT : Tabs ρ) (p0 : Int) (p1 : Int) (p2 : Int) (p3 : Int) (hp : Hp Z ρ (L) w) (r : (Int × Int)) (hm : m_fingerprint_Roll p0 p1 p2 p3 = some r) :
    Calls Tryd.prog 22 #[(.int .i64 p0), (.int .i64 p1), (.int .i64 p2), (.int .i64 p3)] w (Ret fun v w' => v = .tuple #[(.int .i64 r.1), (.int .i64 r.2)] ∧ Hp Z ρ (L) w') := by
  refine enter (N := 27) Tryd.func22 rfl rfl [(0, (.int .i64 p0)), (1, (.int .i64 p1)), (2, (.int .i64 p2)), (3, (.int .i64 p3))] rfl (argsIn_mem ⟨rfl, rfl, rfl, rfl, trivial⟩) fun a hE => ?_
  unfold m_fingerprint_Roll at hm
  refine k_seq ?_
  refine k_region ?_
  refine s_val (wk0 rfl) rfl rfl hE hp (v := (.int .i64 0)) (ex_asn rfl hE rfl) ?_
  intro a hE
  refine s_val (wk0 rfl) rfl rfl hE hp (v := (.int .i64 0)) (ex_asn rfl hE rfl) ?_
  intro a hE
  refine s_nil ?_
  refine k_seq ?_
  refine k_seq ?_
  refine k_region ?_
  refine s_val (wk0 rfl) rfl rfl hE hp (v := (.int .i64 p3)) (ex_move rfl hE rfl) ?_
  intro a hE
  obtain ⟨x1, ex1, hm⟩ := bnd hm
  refine s_call (wk0 rfl) rfl rfl hE rfl [(.int .i64 p3)] ⟨rfl, trivial⟩ ent31 (c_fingerprint_ranged hT p3 hp x1 ex1) Ret.ret ?_
  intro v a w hR hE
  obtain ⟨rfl, hp⟩ := Ret.of hR
  have hp : Hp Z ρ (L) w := hp
  refine s_val (wk0 rfl) rfl rfl hE hp (v := (.bool (!x1))) (ex_not rfl hE rfl) ?_
  intro a hE
  refine s_val (wk0 rfl) rfl rfl hE hp (v := (.bool (!x1))) (ex_move rfl hE rfl) ?_
  intro a hE
  refine s_cut [_, _, _] (fun a w => Env 27 [(16, (.bool ((!x1) || (decide (p0 < 0))))), (0, (.int .i64 p0)), (1, (.int .i64 p1)), (2, (.int .i64 p2)), (3, (.int .i64 p3))] a ∧ Hp Z ρ (L) w) ?_ ?_
  · rcases Bool.eq_false_or_eq_true (!x1) with hb1 | hb1
    ·
      refine s_skip (wk2 hE rfl rfl rfl hb1) rfl rfl hE ?_
      intro a hE
      refine s_skip (wk2 hE rfl rfl rfl hb1) rfl rfl hE ?_
      intro a hE
      refine s_val (wk0 rfl) rfl rfl hE hp (v := (.bool true)) (ex_pick1 rfl hE rfl hb1 rfl) ?_
      intro a hE
      have hE := hE.eqv (v' := (.bool ((!x1) || (decide (p0 < 0))))) (by rw [hb1]; rfl)
      exact s_nil ⟨hE.cut ⟨rfl, rfl, rfl, rfl, rfl, trivial⟩, hp⟩
    ·
      refine s_val (wk1 hE rfl rfl rfl hb1) rfl rfl hE hp (v := (.int .i64 p0)) (ex_move rfl hE rfl) ?_
      intro a hE
      refine s_val (wk1 hE rfl rfl rfl hb1) rfl rfl hE hp (v := (.bool (decide (p0 < 0)))) (ex_lss rfl hE rfl rfl) ?_
      intro a hE
      refine s_val (wk0 rfl) rfl rfl hE hp (v := (.bool (decide (p0 < 0)))) (ex_pick0 rfl hE rfl hb1 rfl) ?_
      intro a hE
      have hE := hE.eqv (v' := (.bool ((!x1) || (decide (p0 < 0))))) (by rw [hb1]; rfl)
      exact s_nil ⟨hE.cut ⟨rfl, rfl, rfl, rfl, rfl, trivial⟩, hp⟩
  · rintro a w ⟨hE, hp⟩
    refine s_val (wk0 rfl) rfl rfl hE hp (v := (.bool ((!x1) || (decide (p0 < 0))))) (ex_move rfl hE rfl) ?_
    intro a hE
    refine s_cut [_, _, _] (fun a w => Env 27 [(20, (.bool (((!x1) || (decide (p0 < 0))) || (decide (2147483647 ≤ p0))))), (0, (.int .i64 p0)), (1, (.int .i64 p1)), (2, (.int .i64 p2)), (3, (.int .i64 p3))] a ∧ Hp Z ρ (L) w) ?_ ?_
    · rcases Bool.eq_false_or_eq_true ((!x1) || (decide (p0 < 0))) with hb2 | hb2
      ·
        refine s_skip (wk2 hE rfl rfl rfl hb2) rfl rfl hE ?_
        intro a hE
        refine s_skip (wk2 hE rfl rfl rfl hb2) rfl rfl hE ?_
        intro a hE
        refine s_val (wk0 rfl) rfl rfl hE hp (v := (.bool true)) (ex_pick1 rfl hE rfl hb2 rfl) ?_
        intro a hE
        have hE := hE.eqv (v' := (.bool (((!x1) || (decide (p0 < 0))) || (decide (2147483647 ≤ p0))))) (by rw [hb2]; rfl)
        exact s_nil ⟨hE.cut ⟨rfl, rfl, rfl, rfl, rfl, trivial⟩, hp⟩
      ·
        refine s_val (wk1 hE rfl rfl rfl hb2) rfl rfl hE hp (v := (.int .i64 p0)) (ex_move rfl hE rfl) ?_
        intro a hE
        refine s_val (wk1 hE rfl rfl rfl hb2) rfl rfl hE hp (v := (.bool (decide (2147483647 ≤ p0)))) (ex_geq rfl hE rfl rfl) ?_
        intro a hE
        refine s_val (wk0 rfl) rfl rfl hE hp (v := (.bool (decide (2147483647 ≤ p0)))) (ex_pick0 rfl hE rfl hb2 rfl) ?_
        intro a hE
        have hE := hE.eqv (v' := (.bool (((!x1) || (decide (p0 < 0))) || (decide (2147483647 ≤ p0))))) (by rw [hb2]; rfl)
        exact s_nil ⟨hE.cut ⟨rfl, rfl, rfl, rfl, rfl, trivial⟩, hp⟩
    · rintro a w ⟨hE, hp⟩
      refine s_nil ?_
      refine k_if hE rfl (fun hb3 => ?_) (fun hb3 => ?_)
      · replace hm := (it hb3).symm.trans hm
        refine k_seq ?_
        refine k_region ?_
        refine s_val (wk0 rfl) rfl rfl hE hp (v := (.int .i64 0)) (ex_asn rfl hE rfl) ?_
        intro a hE
        refine s_val (wk0 rfl) rfl rfl hE hp (v := (.int .i64 2)) (ex_asn rfl hE rfl) ?_
        intro a hE
        refine s_nil ?_
        refine k_ret ?_
        obtain rfl := Option.some.inj hm
        exact ret2 hE rfl rfl rfl ⟨_, rfl, rfl, hp⟩
      · replace hm := (ie hb3).symm.trans hm
        refine k_skip ?_
        refine k_seq ?_
        refine k_region ?_
        refine s_val (wk0 rfl) rfl rfl hE hp (v := (.int .i64 p3)) (ex_move rfl hE rfl) ?_
        intro a hE
        obtain ⟨x2, ex2, hm⟩ := bnd hm
        refine s_call (wk0 rfl) rfl rfl hE rfl [(.int .i64 p3)] ⟨rfl, trivial⟩ ent37 (c_fingerprint_roller hT p3 hp x2 ex2) Ret.ret ?_
        intro v a w hR hE
        obtain ⟨b1, rfl, hp⟩ := Ret.of hR
        have hp : Hp Z ρ (Pt b1 (.cells #[(.int .i64 x2)] 3 (0, 0)) :: L) w := hp
        refine s_val (wk0 rfl) rfl rfl hE hp (v := (.int .i64 p0)) (ex_move rfl hE rfl) ?_
        intro a hE
        refine s_val (wk0 rfl) rfl rfl hE hp (v := (.int .i64 p1)) (ex_move rfl hE rfl) ?_
        intro a hE
        refine s_val (wk0 rfl) rfl rfl hE hp (v := (.int .i64 p2)) (ex_move rfl hE rfl) ?_
        intro a hE
        obtain ⟨x3, ex3, hm⟩ := bnd hm
        refine s_callv (wk0 rfl) rfl rfl hE rfl rfl [(.int .i64 p0), (.int .i64 p1), (.int .i64 p2)] ⟨rfl, rfl, rfl, trivial⟩ ent45 (c_fingerprint_roller_1 hT p0 p1 p2 b1 x2 (hp.get 0 rfl) x3 ex3) Ret.ret ?_
        intro v a w hR hE
        obtain ⟨rfl, hp⟩ := Ret.of hR
        have hp : Hp Z ρ (Pt b1 (.cells #[(.int .i64 x2)] 3 (0, 0)) :: L) w := hp
        refine s_val (wk0 rfl) rfl rfl hE hp (v := (.int .i64 x3)) (ex_asn rfl hE rfl) ?_
        intro a hE
        refine s_val (wk0 rfl) rfl rfl hE hp (v := (.int .i64 0)) (ex_asn rfl hE rfl) ?_
        intro a hE
        refine s_nil ?_
        refine k_ret ?_
        obtain rfl := Option.some.inj hm
        exact ret2 hE rfl rfl rfl ⟨_, rfl, rfl, (hp.drop)⟩
/- assessor/fingerprint.Hashes -/
set_option maxRecDepth 100000 in
set_option maxHeartbeats 4000000 in
theorem c_fingerprint_Hashes {Z : World} {ρ : PH} {L : List Atom} {w : World} (hT : Tabs ρ) (p0 : (List Int)) (vp0 : Value) (hp0 : RoSl ρ vp0 p0) (p1 : Int) (hp : Hp Z ρ (L) w) (r : ((List Int) × Int)) (hm : m_fingerprint_Hashes p0 p1 = some r) :
    Calls Tryd.prog 20 #[vp0, (.int .i64 p1)] w (Ret fun v w' => ∃ (v1 : Value), v = .tuple #[v1, (.int .i64 r.2)] ∧ Hp Z ρ (OwnSl 3 v1 r.1 :: L) w') := by
  refine enter (N := 55) Tryd.func20 rfl rfl [(0, vp0), (1, (.int .i64 p1))] rfl (argsIn_mem ⟨rfl, rfl, trivial⟩) fun a hE => ?_
  unfold m_fingerprint_Hashes at hm
  refine k_seq ?_
  refine k_region ?_
  refine s_val (wk0 rfl) rfl rfl hE hp (v := (.slice none 0 0)) (ex_asn rfl hE rfl) ?_
  intro a hE
  refine s_val (wk0 rfl) rfl rfl hE hp (v := (.int .i64 0)) (ex_asn rfl hE rfl) ?_
  intro a hE
  refine s_nil ?_
  refine k_seq ?_
  refine k_plain ?_
  refine k_seq ?_
  refine k_region ?_
  refine s_val (wk0 rfl) rfl rfl hE hp (v := (.int .i64 p1)) (ex_move rfl hE rfl) ?_
  intro a hE
  obtain ⟨x1, ex1, hm⟩ := bnd hm
  refine s_call (wk0 rfl) rfl rfl hE rfl [(.int .i64 p1)] ⟨rfl, trivial⟩ ent31 (c_fingerprint_ranged hT p1 hp x1 ex1) Ret.ret ?_
  intro v a w hR hE
  obtain ⟨rfl, hp⟩ := Ret.of hR
  have hp : Hp Z ρ (L) w := hp
  refine s_val (wk0 rfl) rfl rfl hE hp (v := (.bool (!x1))) (ex_not rfl hE rfl) ?_
  intro a hE
  refine s_val (wk0 rfl) rfl rfl hE hp (v := (.bool (!x1))) (ex_asn rfl hE rfl) ?_
  intro a hE
  refine s_nil ?_
  refine k_if hE rfl (fun hb1 => ?_) (fun hb1 => ?_)
  · replace hm := (it hb1).symm.trans hm
    refine k_seq ?_
    refine k_region ?_
    refine s_val (wk0 rfl) rfl rfl hE hp (v := (.slice none 0 0)) (ex_asn rfl hE rfl) ?_
    intro a hE
    refine s_val (wk0 rfl) rfl rfl hE hp (v := (.int .i64 2)) (ex_asn rfl hE rfl) ?_
    intro a hE
    refine s_nil ?_
    refine k_ret ?_
    have hp := hp.emp (OwnSl.nil (α := Int) 3)
    have hp : Hp Z ρ (OwnSl 3 (.slice none 0 0) ([] : List Int) :: L) w := hp
    obtain rfl := Option.some.inj hm
    exact ret2 hE rfl rfl rfl ⟨_, rfl, _, rfl, hp⟩
  · replace hm := (ie hb1).symm.trans hm
    refine k_seq ?_
    refine k_region ?_
    refine s_val (wk0 rfl) rfl rfl hE hp (v := vp0) (ex_move rfl hE rfl) ?_
    intro a hE
    refine s_val (wk0 rfl) rfl rfl hE hp (v := (.int .i64 (p0.length : Int))) (ex_len rfl hE rfl (RoSl.len hp0 slty25)) ?_
    intro a hE
    refine s_val (wk0 rfl) rfl rfl hE hp (v := (.bool (decide (2048 < (p0.length : Int))))) (ex_gtr rfl hE rfl rfl) ?_
    intro a hE
    refine s_val (wk0 rfl) rfl rfl hE hp (v := (.bool (decide (2048 < (p0.length : Int))))) (ex_asn rfl hE rfl) ?_
    intro a hE
    refine s_nil ?_
    refine k_if hE rfl (fun hb2 => ?_) (fun hb2 => ?_)
    · replace hm := (it hb2).symm.trans hm
      refine k_seq ?_
      refine k_region ?_
      refine s_val (wk0 rfl) rfl rfl hE hp (v := (.slice none 0 0)) (ex_asn rfl hE rfl) ?_
      intro a hE
      refine s_val (wk0 rfl) rfl rfl hE hp (v := (.int .i64 8)) (ex_asn rfl hE rfl) ?_
      intro a hE
      refine s_nil ?_
      refine k_ret ?_
      have hp := hp.emp (OwnSl.nil (α := Int) 3)
      have hp : Hp Z ρ (OwnSl 3 (.slice none 0 0) ([] : List Int) :: L) w := hp
      obtain rfl := Option.some.inj hm
      exact ret2 hE rfl rfl rfl ⟨_, rfl, _, rfl, hp⟩
    · replace hm := (ie hb2).symm.trans hm
      refine k_seq ?_
      refine k_region ?_
      refine s_val (wk0 rfl) rfl rfl hE hp (v := vp0) (ex_move rfl hE rfl) ?_
      intro a hE
      refine s_val (wk0 rfl) rfl rfl hE hp (v := (.int .i64 (p0.length : Int))) (ex_len rfl hE rfl (RoSl.len hp0 slty25)) ?_
      intro a hE
      refine s_val (wk0 rfl) rfl rfl hE hp (v := (.int .i64 p1)) (ex_move rfl hE rfl) ?_
      intro a hE
      refine s_val (wk0 rfl) rfl rfl hE hp (v := (.bool (decide ((p0.length : Int) < p1)))) (ex_lss rfl hE rfl rfl) ?_
      intro a hE
      refine s_val (wk0 rfl) rfl rfl hE hp (v := (.bool (decide ((p0.length : Int) < p1)))) (ex_asn rfl hE rfl) ?_
      intro a hE
      refine s_nil ?_
      refine k_if hE rfl (fun hb3 => ?_) (fun hb3 => ?_)
      · replace hm := (it hb3).symm.trans hm
        refine k_seq ?_
        refine k_region ?_
        refine s_val (wk0 rfl) rfl rfl hE hp (v := (.slice none 0 0)) (ex_asn rfl hE rfl) ?_
        intro a hE
        refine s_val (wk0 rfl) rfl rfl hE hp (v := (.int .i64 0)) (ex_asn rfl hE rfl) ?_
        intro a hE
        refine s_nil ?_
        refine k_ret ?_
        have hp := hp.emp (OwnSl.nil (α := Int) 3)
        have hp : Hp Z ρ (OwnSl 3 (.slice none 0 0) ([] : List Int) :: L) w := hp
        obtain rfl := Option.some.inj hm
        exact ret2 hE rfl rfl rfl ⟨_, rfl, _, rfl, hp⟩
      · replace hm := (ie hb3).symm.trans hm
        refine k_skip ?_
        refine k_seq ?_
        refine k_region ?_
        refine s_val (wk0 rfl) rfl rfl hE hp (v := vp0) (ex_move rfl hE rfl) ?_
        intro a hE
        refine s_val (wk0 rfl) rfl rfl hE hp (v := (.int .i64 p1)) (ex_move rfl hE rfl) ?_
        intro a hE
        obtain ⟨x2, ex2, hm⟩ := bnd hm
        obtain ⟨v1, v1r, f1⟩ := RoSl.part hp0 slty25 none (some (.i64, p1)) rfl rfl ex2
        refine s_val (wk0 rfl) rfl rfl hE hp (v := v1) (ex_sl rfl hE rfl none (some (.i64, p1)) (by exact trivial) (by exact rfl) v1r) ?_
        intro a hE
        obtain ⟨x3, ex3, hm⟩ := bnd hm
        refine s_call (wk0 rfl) rfl rfl hE rfl [v1] ⟨rfl, trivial⟩ ent17 (c_fingerprint_Hash hT x2 v1 f1 hp x3 ex3) Ret.ret ?_
        intro v a w hR hE
        obtain ⟨rfl, hp⟩ := Ret.of hR
        have hp : Hp Z ρ (L) w := hp
        refine s_lit (wk0 rfl) rfl rfl hE hp rfl [(0, (.int .i64 x3))] ⟨⟨rfl, rfl⟩, trivial⟩ [(.int .i64 x3)] 3 (fun w => by simp [Instr.buildSlice, Instr.fill, Value.cells, go_sem]) ?_
        intro a w b1 hE hp
        have hp : Hp Z ρ (Pt b1 (.cells #[(.int .i64 x3)] 3 (0, 0)) :: L) w := hp
        refine s_val (wk0 rfl) rfl rfl hE hp (v := (.slice (some ⟨b1, 0, none⟩) 1 1)) (ex_asn rfl hE rfl) ?_
        intro a hE
        refine s_nil ?_
        have hE := hE.cut (E' := [(0, vp0), (1, (.int .i64 p1)), (6, (.slice (some ⟨b1, 0, none⟩) 1 1))]) ⟨rfl, rfl, rfl, trivial⟩
        refine k_seq ?_
        refine k_region ?_
        refine s_val (wk0 rfl) rfl rfl hE hp (v := (.int .i64 p1)) (ex_move rfl hE rfl) ?_
        intro a hE
        obtain ⟨x4, ex4, hm⟩ := bnd hm
        refine s_call (wk0 rfl) rfl rfl hE rfl [(.int .i64 p1)] ⟨rfl, trivial⟩ ent37 (c_fingerprint_roller hT p1 hp x4 ex4) Ret.ret ?_
        intro v a w hR hE
        obtain ⟨b2, rfl, hp⟩ := Ret.of hR
        have hp : Hp Z ρ (Pt b2 (.cells #[(.int .i64 x4)] 3 (0, 0)) :: Pt b1 (.cells #[(.int .i64 x3)] 3 (0, 0)) :: L) w := hp
        refine s_val (wk0 rfl) rfl rfl hE hp (v := (.func (.func 45) #[] #[(.pointer (some ⟨b2, 0, none⟩))])) (ex_asn rfl hE rfl) ?_
        intro a hE
        refine s_nil ?_
        refine k_seq ?_
        refine k_seq ?_
        refine k_region ?_
        refine s_val (wk0 rfl) rfl rfl hE hp (v := vp0) (ex_move rfl hE rfl) ?_
        intro a hE
        refine s_val (wk0 rfl) rfl rfl hE hp (v := (.int .i64 p1)) (ex_move rfl hE rfl) ?_
        intro a hE
        obtain ⟨x5, ex5, hm⟩ := bnd hm
        obtain ⟨v2, v2r, f2⟩ := RoSl.part hp0 slty25 (some (.i64, p1)) none rfl rfl ex5
        refine s_val (wk0 rfl) rfl rfl hE hp (v := v2) (ex_sl rfl hE rfl (some (.i64, p1)) none (by exact rfl) (by exact trivial) v2r) ?_
        intro a hE
        refine s_val (wk0 rfl) rfl rfl hE hp (v := (.int .i64 (x5.length : Int))) (ex_len rfl hE rfl (RoSl.len f2 slty25)) ?_
        intro a hE
        refine s_val (wk0 rfl) rfl rfl hE hp (v := (.int .i64 0)) (ex_move rfl hE rfl) ?_
        intro a hE
        refine s_nil ?_
        have hp := (hp.get 1 rfl).imp (own_of_pt (l := (([x3] : List Int) : List Int)) (n := 1) rfl (by decide) rfl)
        have hp : Hp Z ρ (OwnSl 3 (.slice (some ⟨b1, 0, none⟩) 1 1) ([x3] : List Int) :: Pt b2 (.cells #[(.int .i64 x4)] 3 (0, 0)) :: L) w := hp
        obtain ⟨b3, hb4, hm⟩ := bnd hm
        refine k_block (fun a w => ∃ w4 : Value, Env 55 [(6, w4)] a ∧ Hp Z ρ (OwnSl 3 w4 b3 :: Pt b2 (.cells #[(.int .i64 x4)] 3 (0, 0)) :: L) w) ?_ ?_
        · refine k_loop hb4 (fun s a w => ∃ w4 : Value, Env 55 [(0, vp0), (6, w4), (7, (.func (.func 45) #[] #[(.pointer (some ⟨b2, 0, none⟩))])), (32, v2), (33, (.int .i64 (x5.length : Int))), (34, (.int .i64 s.1))] a ∧ Hp Z ρ (OwnSl 3 w4 s.2 :: Pt b2 (.cells #[(.int .i64 x4)] 3 (0, 0)) :: L) w) ?_ ?_
          · exact ⟨_, hE.cut ⟨rfl, rfl, rfl, rfl, rfl, rfl, trivial⟩, hp⟩
          · rintro ⟨lp1_0, lp1_1⟩ st a w ⟨w4, hE, hp⟩ hl1
            have hE : Env 55 [(0, vp0), (6, w4), (7, (.func (.func 45) #[] #[(.pointer (some ⟨b2, 0, none⟩))])), (32, v2), (33, (.int .i64 (x5.length : Int))), (34, (.int .i64 lp1_0))] a := hE
            have hp : Hp Z ρ (OwnSl 3 w4 lp1_1 :: Pt b2 (.cells #[(.int .i64 x4)] 3 (0, 0)) :: L) w := hp
            replace hl1 : m_fingerprint_Hashes_lp1 p0 x4 x5 lp1_0 lp1_1 = some st := hl1
            unfold m_fingerprint_Hashes_lp1 at hl1
            refine k_seq ?_
            refine k_region ?_
            refine s_val (wk0 rfl) rfl rfl hE hp (v := (.bool (decide (lp1_0 < (x5.length : Int))))) (ex_lss rfl hE rfl rfl) ?_
            intro a hE
            refine s_nil ?_
            refine k_seq ?_
            refine k_if hE rfl (fun hb5 => ?_) (fun hb5 => ?_)
            · replace hl1 := (it hb5).symm.trans hl1
              refine k_skip ?_
              refine k_seq ?_
              refine k_plain ?_
              refine k_seq ?_
              refine k_region ?_
              refine s_val (wk0 rfl) rfl rfl hE hp (v := (.int .i64 lp1_0)) (ex_move rfl hE rfl) ?_
              intro a hE
              obtain ⟨x6, ex6, hl1⟩ := bnd hl1
              obtain ⟨b4, b4o, b4c, b4r, b4k, b4f⟩ := RoSl.at f2 slty25 ex6
              obtain rfl : b4c = Enc.enc x6 := b4k
              have b4f : AtP ρ b4 b4o [(.int .i64 x6)] := b4f
              refine s_val (wk0 rfl) rfl rfl hE hp (v := (.pointer (some ⟨b4, b4o, none⟩))) (ex_index rfl hE rfl rfl b4r) ?_
              intro a hE
              refine s_val (wk0 rfl) rfl rfl hE hp (v := (.int .i64 x6)) (ex_load rfl hE rfl (fun w hw => run_ld1 varty3 (b4f.c 0 rfl w hw))) ?_
              intro a hE
              refine s_val (wk0 rfl) rfl rfl hE hp (v := (.int .i64 lp1_0)) (ex_asn rfl hE rfl) ?_
              intro a hE
              refine s_val (wk0 rfl) rfl rfl hE hp (v := (.int .i64 x6)) (ex_asn rfl hE rfl) ?_
              intro a hE
              refine s_nil ?_
              obtain ⟨x7, ex7, hl1⟩ := bnd hl1
              obtain ⟨x8, ex8, hl1⟩ := bnd hl1
              obtain ⟨x9, ex9, hl1⟩ := bnd hl1
              obtain ⟨x10, ex10, hl1⟩ := bnd hl1
              refine k_held (Z := Z) (ρ := ρ) (Pt b2 (.cells #[(.int .i64 x4)] 3 (0, 0)) :: L) (fun a w => ∃ y8 : Nat, ∃ y4 : Value, Env 55 [(0, vp0), (6, y4), (7, (.func (.func 45) #[] #[(.pointer (some ⟨b2, 0, none⟩))])), (32, v2), (33, (.int .i64 (x5.length : Int))), (34, (.int .i64 lp1_0))] a ∧ Hp Z ρ (Pt y8 (.cells #[(.int .i64 x9)] 3 (0, 0)) :: Pt b2 (.cells #[(.int .i64 x4)] 3 (0, 0)) :: OwnSl 3 y4 x10 :: L) w) (by kernel_rfl) ?_ ?_
              ·
                have hp := hp.drew
                have hS : Hp Z ρ (Pt b2 (.cells #[(.int .i64 x4)] 3 (0, 0)) :: L) w.drew := (hp.drop)
                refine h_take 0 (wk0 rfl) rfl rfl rfl hE (by kernel_rfl) (by kernel_rfl) (by kernel_rfl) hS (v := w4) (ex_move rfl hE rfl) ?_
                intro a hE
                refine h_take 1 (wk0 rfl) rfl rfl rfl hE (by kernel_rfl) (by kernel_rfl) (by kernel_rfl) hS (v := (.func (.func 45) #[] #[(.pointer (some ⟨b2, 0, none⟩))])) (ex_move rfl hE rfl) ?_
                intro a hE
                refine h_take 2 (wk0 rfl) rfl rfl rfl hE (by kernel_rfl) (by kernel_rfl) (by kernel_rfl) hS (v := w4) (ex_move rfl hE rfl) ?_
                intro a hE
                refine h_take 3 (wk0 rfl) rfl rfl rfl hE (by kernel_rfl) (by kernel_rfl) (by kernel_rfl) hS (v := (.int .i64 lp1_0)) (ex_move rfl hE rfl) ?_
                intro a hE
                refine h_take 6 (wk0 rfl) rfl rfl rfl hE (by kernel_rfl) (by kernel_rfl) (by kernel_rfl) hS (v := vp0) (ex_move rfl hE rfl) ?_
                intro a hE
                refine h_take 7 (wk0 rfl) rfl rfl rfl hE (by kernel_rfl) (by kernel_rfl) (by kernel_rfl) hS (v := (.int .i64 lp1_0)) (ex_move rfl hE rfl) ?_
                intro a hE
                obtain ⟨b8, b8o, b8c, b8r, b8k, b8f⟩ := RoSl.at hp0 slty25 ex8
                obtain rfl : b8c = Enc.enc x8 := b8k
                have b8f : AtP ρ b8 b8o [(.int .i64 x8)] := b8f
                refine h_take 8 (wk0 rfl) rfl rfl rfl hE (by kernel_rfl) (by kernel_rfl) (by kernel_rfl) hS (v := (.pointer (some ⟨b8, b8o, none⟩))) (ex_index rfl hE rfl rfl b8r) ?_
                intro a hE
                refine h_take 9 (wk0 rfl) rfl rfl rfl hE (by kernel_rfl) (by kernel_rfl) (by kernel_rfl) hS (v := (.int .i64 x8)) (ex_load rfl hE rfl (fun w hw => run_ld1 varty3 (b8f.c 0 rfl w hw))) ?_
                intro a hE
                refine h_take 10 (wk0 rfl) rfl rfl rfl hE (by kernel_rfl) (by kernel_rfl) (by kernel_rfl) hS (v := (.int .i64 x6)) (ex_move rfl hE rfl) ?_
                intro a hE
                refine h_all [4] (by kernel_rfl) rfl ?_
                refine List.forall_mem_cons.2 ⟨?_, fun _ h => absurd h (by simp)⟩
                ·
                  refine h_op rfl ?_
                  obtain ⟨b9, b9o, b9r, b9v, b9f⟩ := OwnSl.at hp 0 rfl slty25 ex7
                  have b9f : ∀ (j : Nat) (u : Value), ([(.int .i64 x7)] : List Value)[j]? = some u → ∀ w, Hp Z ρ (OwnSl 3 w4 lp1_1 :: Pt b2 (.cells #[(.int .i64 x4)] 3 (0, 0)) :: L) w → w.cell? ⟨b9, b9o + j, none⟩ = some u := b9f
                  refine s_val (wk0 rfl) rfl rfl hE hp (v := (.pointer (some ⟨b9, b9o, none⟩))) (ex_index rfl hE rfl rfl b9r) ?_
                  intro a hE
                  refine s_nil ⟨(hp.drop), ?_⟩
                  have hS := (hp.drop)
                  refine h_all [5] (by kernel_rfl) rfl ?_
                  refine List.forall_mem_cons.2 ⟨?_, fun _ h => absurd h (by simp)⟩
                  ·
                    refine h_op rfl ?_
                    refine s_val (wk0 rfl) rfl rfl hE hp (v := (.int .i64 x7)) (ex_load rfl hE rfl (fun w hw => run_ld1 varty3 (b9f 0 _ rfl w hw))) ?_
                    intro a hE
                    refine s_nil ⟨(hp.drop), ?_⟩
                    have hS := (hp.drop)
                    refine h_all [11] (by kernel_rfl) rfl ?_
                    refine List.forall_mem_cons.2 ⟨?_, fun _ h => absurd h (by simp)⟩
                    ·
                      refine h_op rfl ?_
                      refine s_callv (wk0 rfl) rfl rfl hE rfl rfl [(.int .i64 x7), (.int .i64 x8), (.int .i64 x6)] ⟨rfl, rfl, rfl, trivial⟩ ent45 (c_fingerprint_roller_1 hT x7 x8 x6 b2 x4 (hp.get 1 rfl) x9 ex9) Ret.ret ?_
                      intro v a w hR hE
                      obtain ⟨rfl, hp⟩ := Ret.of hR
                      have hp : Hp Z ρ (Pt b2 (.cells #[(.int .i64 x4)] 3 (0, 0)) :: OwnSl 3 w4 lp1_1 :: L) w := hp
                      refine s_nil ⟨((hp.get 1 rfl).drop), ?_⟩
                      have hS := ((hp.get 1 rfl).drop)
                      refine h_all [12] (by kernel_rfl) rfl ?_
                      refine List.forall_mem_cons.2 ⟨?_, fun _ h => absurd h (by simp)⟩
                      ·
                        refine h_op rfl ?_
                        refine s_lit (wk0 rfl) rfl rfl hE hp rfl [(0, (.int .i64 x9))] ⟨⟨rfl, rfl⟩, trivial⟩ [(.int .i64 x9)] 3 (fun w => by simp [Instr.buildSlice, Instr.fill, Value.cells, go_sem]) ?_
                        intro a w b10 hE hp
                        have hp : Hp Z ρ (Pt b10 (.cells #[(.int .i64 x9)] 3 (0, 0)) :: Pt b2 (.cells #[(.int .i64 x4)] 3 (0, 0)) :: OwnSl 3 w4 lp1_1 :: L) w := hp
                        refine s_nil ⟨(((hp.get 2 rfl).drop).drop), ?_⟩
                        have hS := (((hp.get 2 rfl).drop).drop)
                        refine h_all [13] (by kernel_rfl) rfl ?_
                        refine List.forall_mem_cons.2 ⟨?_, fun _ h => absurd h (by simp)⟩
                        ·
                          refine h_op rfl ?_
                          refine s_app (wk0 rfl) rfl rfl hE hp rfl slty25 rfl rfl 2 rfl rfl (l2 := [x9]) rfl (fun j u hj => by have := Hp.cN 0 rfl 0 _ (sub_all rfl) w hp j u hj; simpa using this) ex10 ?_
                          intro v4 a w hE hp
                          have hp : Hp Z ρ (Pt b10 (.cells #[(.int .i64 x9)] 3 (0, 0)) :: Pt b2 (.cells #[(.int .i64 x4)] 3 (0, 0)) :: OwnSl 3 v4 x10 :: L) w := hp
                          refine s_nil ⟨(((hp.get 2 rfl).drop).drop), ?_⟩
                          have hS := (((hp.get 2 rfl).drop).drop)
                          refine h_take 14 (wk0 rfl) rfl rfl rfl hE (by kernel_rfl) (by kernel_rfl) (by kernel_rfl) hS (v := v4) (ex_asn rfl hE rfl) ?_
                          intro a hE
                          exact h_done (by kernel_rfl) ⟨_, _, hE.cut ⟨rfl, rfl, rfl, rfl, rfl, rfl, trivial⟩, hp⟩
              · rintro a w ⟨y8, y4, hE, hp⟩
                refine k_region ?_
                obtain ⟨x11, ex11, hl1⟩ := bnd hl1
                refine s_val (wk0 rfl) rfl rfl hE hp (v := (.int .i64 x11)) (ex_add rfl hE rfl rfl (inK_some ex11)) ?_
                intro a hE
                refine s_val (wk0 rfl) rfl rfl hE hp (v := (.int .i64 x11)) (ex_move rfl hE rfl) ?_
                intro a hE
                refine s_nil ?_
                exact ⟨_, (Option.some.inj hl1).symm, _, hE.cut ⟨rfl, rfl, rfl, rfl, rfl, rfl, trivial⟩, ((((hp.get 1 rfl).get 2 rfl).get 2 rfl).drop)⟩
            · replace hl1 := (ie hb5).symm.trans hl1
              refine k_exit ?_
              refine ⟨_, (Option.some.inj hl1).symm, fun hbb => ?_⟩
              subst hbb
              exact ⟨_, hE.cut ⟨rfl, trivial⟩, hp⟩
        · rintro a w ⟨w4, hE, hp⟩
          refine k_seq ?_
          refine k_region ?_
          refine s_val (wk0 rfl) rfl rfl hE hp (v := w4) (ex_move rfl hE rfl) ?_
          intro a hE
          refine s_val (wk0 rfl) rfl rfl hE hp (v := w4) (ex_asn rfl hE rfl) ?_
          intro a hE
          refine s_val (wk0 rfl) rfl rfl hE hp (v := (.int .i64 0)) (ex_asn rfl hE rfl) ?_
          intro a hE
          refine s_nil ?_
          refine k_ret ?_
          obtain rfl := Option.some.inj hm
          exact ret2 hE rfl rfl rfl ⟨_, rfl, _, rfl, ((hp.get 1 rfl).drop)⟩
/- assessor/fingerprint.Winnow -/
set_option maxRecDepth 100000 in
set_option maxHeartbeats 4000000 in
theorem c_fingerprint_Winnow {Z : World} {ρ : PH} {L : List Atom} {w : World} (hT : Tabs ρ) (p0 : (List Int)) (vp0 : Value) (hp0 : RoSl ρ vp0 p0) (p1 : Int) (hp : Hp Z ρ (L) w) (r : ((List Mark) × Int)) (hm : m_fingerprint_Winnow p0 p1 = some r) :
    Calls Tryd.prog 24 #[vp0, (.int .i64 p1)] w (Ret fun v w' => ∃ (v1 : Value), v = .tuple #[v1, (.int .i64 r.2)] ∧ Hp Z ρ (OwnSl 48 v1 r.1 :: L) w') := by
  refine enter (N := 98) Tryd.func24 rfl rfl [(0, vp0), (1, (.int .i64 p1))] rfl (argsIn_mem ⟨rfl, rfl, trivial⟩) fun a hE => ?_
  unfold m_fingerprint_Winnow at hm
  refine k_seq ?_
  refine k_region ?_
  refine s_val (wk0 rfl) rfl rfl hE hp (v := (.slice none 0 0)) (ex_asn rfl hE rfl) ?_
  intro a hE
  refine s_val (wk0 rfl) rfl rfl hE hp (v := (.int .i64 0)) (ex_asn rfl hE rfl) ?_
  intro a hE
  refine s_nil ?_
  refine k_seq ?_
  refine k_plain ?_
  refine k_seq ?_
  refine k_region ?_
  refine s_val (wk0 rfl) rfl rfl hE hp (v := (.int .i64 p1)) (ex_move rfl hE rfl) ?_
  intro a hE
  obtain ⟨x1, ex1, hm⟩ := bnd hm
  refine s_call (wk0 rfl) rfl rfl hE rfl [(.int .i64 p1)] ⟨rfl, trivial⟩ ent31 (c_fingerprint_ranged hT p1 hp x1 ex1) Ret.ret ?_
  intro v a w hR hE
  obtain ⟨rfl, hp⟩ := Ret.of hR
  have hp : Hp Z ρ (L) w := hp
  refine s_val (wk0 rfl) rfl rfl hE hp (v := (.bool (!x1))) (ex_not rfl hE rfl) ?_
  intro a hE
  refine s_val (wk0 rfl) rfl rfl hE hp (v := (.bool (!x1))) (ex_asn rfl hE rfl) ?_
  intro a hE
  refine s_nil ?_
  refine k_if hE rfl (fun hb1 => ?_) (fun hb1 => ?_)
  · replace hm := (it hb1).symm.trans hm
    refine k_seq ?_
    refine k_region ?_
    refine s_val (wk0 rfl) rfl rfl hE hp (v := (.slice none 0 0)) (ex_asn rfl hE rfl) ?_
    intro a hE
    refine s_val (wk0 rfl) rfl rfl hE hp (v := (.int .i64 2)) (ex_asn rfl hE rfl) ?_
    intro a hE
    refine s_nil ?_
    refine k_ret ?_
    have hp := hp.emp (OwnSl.nil (α := Mark) 48)
    have hp : Hp Z ρ (OwnSl 48 (.slice none 0 0) ([] : List Mark) :: L) w := hp
    obtain rfl := Option.some.inj hm
    exact ret2 hE rfl rfl rfl ⟨_, rfl, _, rfl, hp⟩
  · replace hm := (ie hb1).symm.trans hm
    refine k_seq ?_
    refine k_region ?_
    refine s_val (wk0 rfl) rfl rfl hE hp (v := vp0) (ex_move rfl hE rfl) ?_
    intro a hE
    refine s_val (wk0 rfl) rfl rfl hE hp (v := (.int .i64 (p0.length : Int))) (ex_len rfl hE rfl (RoSl.len hp0 slty25)) ?_
    intro a hE
    refine s_val (wk0 rfl) rfl rfl hE hp (v := (.bool (decide (2048 < (p0.length : Int))))) (ex_gtr rfl hE rfl rfl) ?_
    intro a hE
    refine s_val (wk0 rfl) rfl rfl hE hp (v := (.bool (decide (2048 < (p0.length : Int))))) (ex_asn rfl hE rfl) ?_
    intro a hE
    refine s_nil ?_
    refine k_if hE rfl (fun hb2 => ?_) (fun hb2 => ?_)
    · replace hm := (it hb2).symm.trans hm
      refine k_seq ?_
      refine k_region ?_
      refine s_val (wk0 rfl) rfl rfl hE hp (v := (.slice none 0 0)) (ex_asn rfl hE rfl) ?_
      intro a hE
      refine s_val (wk0 rfl) rfl rfl hE hp (v := (.int .i64 8)) (ex_asn rfl hE rfl) ?_
      intro a hE
      refine s_nil ?_
      refine k_ret ?_
      have hp := hp.emp (OwnSl.nil (α := Mark) 48)
      have hp : Hp Z ρ (OwnSl 48 (.slice none 0 0) ([] : List Mark) :: L) w := hp
      obtain rfl := Option.some.inj hm
      exact ret2 hE rfl rfl rfl ⟨_, rfl, _, rfl, hp⟩
    · replace hm := (ie hb2).symm.trans hm
      refine k_skip ?_
      refine k_seq ?_
      refine k_region ?_
      refine s_val (wk0 rfl) rfl rfl hE hp (v := (.int .i64 p1)) (ex_move rfl hE rfl) ?_
      intro a hE
      refine s_val (wk0 rfl) rfl rfl hE hp (v := vp0) (ex_move rfl hE rfl) ?_
      intro a hE
      refine s_val (wk0 rfl) rfl rfl hE hp (v := (.int .i64 (p0.length : Int))) (ex_len rfl hE rfl (RoSl.len hp0 slty25)) ?_
      intro a hE
      refine s_val (wk0 rfl) rfl rfl hE hp (v := (.int .i64 (min p1 (p0.length : Int)))) (ex_min rfl hE rfl rfl) ?_
      intro a hE
      refine s_val (wk0 rfl) rfl rfl hE hp (v := (.int .i64 (min p1 (p0.length : Int)))) (ex_asn rfl hE rfl) ?_
      intro a hE
      refine s_nil ?_
      refine k_seq ?_
      refine k_region ?_
      refine s_val (wk0 rfl) rfl rfl hE hp (v := (.slice none 0 0)) (ex_asn rfl hE rfl) ?_
      intro a hE
      refine s_nil ?_
      refine k_seq ?_
      refine k_region ?_
      refine s_val (wk0 rfl) rfl rfl hE hp (v := (.slice none 0 0)) (ex_asn rfl hE rfl) ?_
      intro a hE
      refine s_nil ?_
      refine k_seq ?_
      refine k_seq ?_
      refine k_region ?_
      refine s_val (wk0 rfl) rfl rfl hE hp (v := vp0) (ex_move rfl hE rfl) ?_
      intro a hE
      refine s_val (wk0 rfl) rfl rfl hE hp (v := (.int .i64 (p0.length : Int))) (ex_len rfl hE rfl (RoSl.len hp0 slty25)) ?_
      intro a hE
      refine s_val (wk0 rfl) rfl rfl hE hp (v := (.int .i64 0)) (ex_move rfl hE rfl) ?_
      intro a hE
      refine s_nil ?_
      have hp := hp.emp (OwnSl.nil (α := Mark) 48)
      have hp : Hp Z ρ (OwnSl 48 (.slice none 0 0) ([] : List Mark) :: L) w := hp
      have hp := hp.emp (OwnSl.nil (α := Int) 3)
      have hp : Hp Z ρ (OwnSl 3 (.slice none 0 0) ([] : List Int) :: OwnSl 48 (.slice none 0 0) ([] : List Mark) :: L) w := hp
      obtain ⟨b1, hb3, hm⟩ := bnd hm
      refine k_block (fun a w => ∃ w15 w14 : Value, Env 98 [(6, w14)] a ∧ Hp Z ρ (OwnSl 3 w15 b1.1 :: OwnSl 48 w14 b1.2 :: L) w) ?_ ?_
      · refine k_loop hb3 (fun s a w => ∃ w15 w14 : Value, Env 98 [(0, vp0), (1, (.int .i64 (min p1 (p0.length : Int)))), (6, w14), (7, w15), (23, vp0), (24, (.int .i64 (p0.length : Int))), (25, (.int .i64 s.1))] a ∧ Hp Z ρ (OwnSl 3 w15 s.2.1 :: OwnSl 48 w14 s.2.2 :: L) w) ?_ ?_
        · exact ⟨_, _, hE.cut ⟨rfl, rfl, rfl, rfl, rfl, rfl, rfl, trivial⟩, hp⟩
        · rintro ⟨lp1_0, lp1_1, lp1_2⟩ st a w ⟨w15, w14, hE, hp⟩ hl1
          have hE : Env 98 [(0, vp0), (1, (.int .i64 (min p1 (p0.length : Int)))), (6, w14), (7, w15), (23, vp0), (24, (.int .i64 (p0.length : Int))), (25, (.int .i64 lp1_0))] a := hE
          have hp : Hp Z ρ (OwnSl 3 w15 lp1_1 :: OwnSl 48 w14 lp1_2 :: L) w := hp
          replace hl1 : m_fingerprint_Winnow_lp1 p0 p1 lp1_0 lp1_1 lp1_2 = some st := hl1
          unfold m_fingerprint_Winnow_lp1 at hl1
          refine k_seq ?_
          refine k_region ?_
          refine s_val (wk0 rfl) rfl rfl hE hp (v := (.bool (decide (lp1_0 < (p0.length : Int))))) (ex_lss rfl hE rfl rfl) ?_
          intro a hE
          refine s_nil ?_
          refine k_seq ?_
          refine k_if hE rfl (fun hb4 => ?_) (fun hb4 => ?_)
          · replace hl1 := (it hb4).symm.trans hl1
            refine k_skip ?_
            refine k_seq ?_
            refine k_plain ?_
            refine k_seq ?_
            refine k_region ?_
            refine s_val (wk0 rfl) rfl rfl hE hp (v := (.int .i64 lp1_0)) (ex_move rfl hE rfl) ?_
            intro a hE
            obtain ⟨x2, ex2, hl1⟩ := bnd hl1
            obtain ⟨b2, b2o, b2c, b2r, b2k, b2f⟩ := RoSl.at hp0 slty25 ex2
            obtain rfl : b2c = Enc.enc x2 := b2k
            have b2f : AtP ρ b2 b2o [(.int .i64 x2)] := b2f
            refine s_val (wk0 rfl) rfl rfl hE hp (v := (.pointer (some ⟨b2, b2o, none⟩))) (ex_index rfl hE rfl rfl b2r) ?_
            intro a hE
            refine s_val (wk0 rfl) rfl rfl hE hp (v := (.int .i64 x2)) (ex_load rfl hE rfl (fun w hw => run_ld1 varty3 (b2f.c 0 rfl w hw))) ?_
            intro a hE
            refine s_val (wk0 rfl) rfl rfl hE hp (v := (.int .i64 lp1_0)) (ex_asn rfl hE rfl) ?_
            intro a hE
            refine s_val (wk0 rfl) rfl rfl hE hp (v := (.int .i64 x2)) (ex_asn rfl hE rfl) ?_
            intro a hE
            refine s_nil ?_
            have hE := hE.cut (E' := [(0, vp0), (1, (.int .i64 (min p1 (p0.length : Int)))), (6, w14), (7, w15), (8, (.int .i64 lp1_0)), (9, (.int .i64 x2)), (23, vp0), (24, (.int .i64 (p0.length : Int))), (25, (.int .i64 lp1_0))]) ⟨rfl, rfl, rfl, rfl, rfl, rfl, rfl, rfl, rfl, trivial⟩
            refine k_seq ?_
            obtain ⟨b3, hb5, hl1⟩ := bnd hl1
            refine k_block (fun a w => ∃ w15 : Value, Env 98 [(0, vp0), (1, (.int .i64 (min p1 (p0.length : Int)))), (6, w14), (7, w15), (8, (.int .i64 lp1_0)), (23, vp0), (24, (.int .i64 (p0.length : Int))), (25, (.int .i64 lp1_0))] a ∧ Hp Z ρ (OwnSl 3 w15 b3 :: OwnSl 48 w14 lp1_2 :: L) w) ?_ ?_
            · refine k_loop hb5 (fun s a w => ∃ w15 : Value, Env 98 [(0, vp0), (1, (.int .i64 (min p1 (p0.length : Int)))), (6, w14), (7, w15), (8, (.int .i64 lp1_0)), (9, (.int .i64 x2)), (23, vp0), (24, (.int .i64 (p0.length : Int))), (25, (.int .i64 lp1_0))] a ∧ Hp Z ρ (OwnSl 3 w15 s :: OwnSl 48 w14 lp1_2 :: L) w) ?_ ?_
              · exact ⟨_, hE.cut ⟨rfl, rfl, rfl, rfl, rfl, rfl, rfl, rfl, rfl, trivial⟩, hp⟩
              · rintro lp2_0 st a w ⟨w15, hE, hp⟩ hl2
                have hE : Env 98 [(0, vp0), (1, (.int .i64 (min p1 (p0.length : Int)))), (6, w14), (7, w15), (8, (.int .i64 lp1_0)), (9, (.int .i64 x2)), (23, vp0), (24, (.int .i64 (p0.length : Int))), (25, (.int .i64 lp1_0))] a := hE
                have hp : Hp Z ρ (OwnSl 3 w15 lp2_0 :: OwnSl 48 w14 lp1_2 :: L) w := hp
                replace hl2 : m_fingerprint_Winnow_lp2 p0 x2 lp2_0 = some st := hl2
                unfold m_fingerprint_Winnow_lp2 at hl2
                refine k_seq ?_
                refine k_seq ?_
                refine k_region ?_
                refine s_val (wk0 rfl) rfl rfl hE hp (v := w15) (ex_move rfl hE rfl) ?_
                intro a hE
                refine s_val (wk0 rfl) rfl rfl hE hp (v := (.int .i64 (lp2_0.length : Int))) (ex_len rfl hE rfl (OwnSl.len hp 0 rfl slty25)) ?_
                intro a hE
                refine s_val (wk0 rfl) rfl rfl hE hp (v := (.bool (decide (0 < (lp2_0.length : Int))))) (ex_gtr rfl hE rfl rfl) ?_
                intro a hE
                refine s_val (wk0 rfl) rfl rfl hE hp (v := (.bool (decide (0 < (lp2_0.length : Int))))) (ex_move rfl hE rfl) ?_
                intro a hE
                obtain ⟨m1, hg1, hl2⟩ := bnd hl2
                refine s_cut [_, _, _, _, _, _, _, _, _, _, _, _] (fun a w => Env 98 [(45, (.bool m1)), (0, vp0), (1, (.int .i64 (min p1 (p0.length : Int)))), (6, w14), (7, w15), (8, (.int .i64 lp1_0)), (9, (.int .i64 x2)), (23, vp0), (24, (.int .i64 (p0.length : Int))), (25, (.int .i64 lp1_0))] a ∧ Hp Z ρ (OwnSl 3 w15 lp2_0 :: OwnSl 48 w14 lp1_2 :: L) w) ?_ ?_
                · rcases Bool.eq_false_or_eq_true (decide (0 < (lp2_0.length : Int))) with hb6 | hb6
                  ·
                    replace hg1 := (it hb6).symm.trans hg1
                    refine s_val (wk1 hE rfl rfl rfl hb6) rfl rfl hE hp (v := vp0) (ex_move rfl hE rfl) ?_
                    intro a hE
                    refine s_val (wk1 hE rfl rfl rfl hb6) rfl rfl hE hp (v := w15) (ex_move rfl hE rfl) ?_
                    intro a hE
                    refine s_val (wk1 hE rfl rfl rfl hb6) rfl rfl hE hp (v := w15) (ex_move rfl hE rfl) ?_
                    intro a hE
                    refine s_val (wk1 hE rfl rfl rfl hb6) rfl rfl hE hp (v := (.int .i64 (lp2_0.length : Int))) (ex_len rfl hE rfl (OwnSl.len hp 0 rfl slty25)) ?_
                    intro a hE
                    obtain ⟨x3, ex3, hg1⟩ := bnd hg1
                    refine s_val (wk1 hE rfl rfl rfl hb6) rfl rfl hE hp (v := (.int .i64 x3)) (ex_sub rfl hE rfl rfl (inK_some ex3)) ?_
                    intro a hE
                    obtain ⟨x4, ex4, hg1⟩ := bnd hg1
                    obtain ⟨b4, b4o, b4r, b4v, b4f⟩ := OwnSl.at hp 0 rfl slty25 ex4
                    have b4f : ∀ (j : Nat) (u : Value), ([(.int .i64 x4)] : List Value)[j]? = some u → ∀ w, Hp Z ρ (OwnSl 3 w15 lp2_0 :: OwnSl 48 w14 lp1_2 :: L) w → w.cell? ⟨b4, b4o + j, none⟩ = some u := b4f
                    refine s_val (wk1 hE rfl rfl rfl hb6) rfl rfl hE hp (v := (.pointer (some ⟨b4, b4o, none⟩))) (ex_index rfl hE rfl rfl b4r) ?_
                    intro a hE
                    refine s_val (wk1 hE rfl rfl rfl hb6) rfl rfl hE hp (v := (.int .i64 x4)) (ex_load rfl hE rfl (fun w hw => run_ld1 varty3 (b4f 0 _ rfl w hw))) ?_
                    intro a hE
                    obtain ⟨x5, ex5, hg1⟩ := bnd hg1
                    obtain ⟨b5, b5o, b5c, b5r, b5k, b5f⟩ := RoSl.at hp0 slty25 ex5
                    obtain rfl : b5c = Enc.enc x5 := b5k
                    have b5f : AtP ρ b5 b5o [(.int .i64 x5)] := b5f
                    refine s_val (wk1 hE rfl rfl rfl hb6) rfl rfl hE hp (v := (.pointer (some ⟨b5, b5o, none⟩))) (ex_index rfl hE rfl rfl b5r) ?_
                    intro a hE
                    refine s_val (wk1 hE rfl rfl rfl hb6) rfl rfl hE hp (v := (.int .i64 x5)) (ex_load rfl hE rfl (fun w hw => run_ld1 varty3 (b5f.c 0 rfl w hw))) ?_
                    intro a hE
                    refine s_val (wk1 hE rfl rfl rfl hb6) rfl rfl hE hp (v := (.int .i64 x2)) (ex_move rfl hE rfl) ?_
                    intro a hE
                    refine s_val (wk1 hE rfl rfl rfl hb6) rfl rfl hE hp (v := (.bool (decide (x2 ≤ x5)))) (ex_geq rfl hE rfl rfl) ?_
                    intro a hE
                    refine s_val (wk0 rfl) rfl rfl hE hp (v := (.bool (decide (x2 ≤ x5)))) (ex_pick1 rfl hE rfl hb6 rfl) ?_
                    intro a hE
                    obtain rfl := Option.some.inj hg1
                    exact s_nil ⟨hE.cut ⟨rfl, rfl, rfl, rfl, rfl, rfl, rfl, rfl, rfl, rfl, trivial⟩, hp⟩
                  ·
                    replace hg1 := (ie hb6).symm.trans hg1
                    refine s_skip (wk2 hE rfl rfl rfl hb6) rfl rfl hE ?_
                    intro a hE
                    refine s_skip (wk2 hE rfl rfl rfl hb6) rfl rfl hE ?_
                    intro a hE
                    refine s_skip (wk2 hE rfl rfl rfl hb6) rfl rfl hE ?_
                    intro a hE
                    refine s_skip (wk2 hE rfl rfl rfl hb6) rfl rfl hE ?_
                    intro a hE
                    refine s_skip (wk2 hE rfl rfl rfl hb6) rfl rfl hE ?_
                    intro a hE
                    refine s_skip (wk2 hE rfl rfl rfl hb6) rfl rfl hE ?_
                    intro a hE
                    refine s_skip (wk2 hE rfl rfl rfl hb6) rfl rfl hE ?_
                    intro a hE
                    refine s_skip (wk2 hE rfl rfl rfl hb6) rfl rfl hE ?_
                    intro a hE
                    refine s_skip (wk2 hE rfl rfl rfl hb6) rfl rfl hE ?_
                    intro a hE
                    refine s_skip (wk2 hE rfl rfl rfl hb6) rfl rfl hE ?_
                    intro a hE
                    refine s_skip (wk2 hE rfl rfl rfl hb6) rfl rfl hE ?_
                    intro a hE
                    refine s_val (wk0 rfl) rfl rfl hE hp (v := (.bool false)) (ex_pick0 rfl hE rfl hb6 rfl) ?_
                    intro a hE
                    obtain rfl := Option.some.inj hg1
                    exact s_nil ⟨hE.cut ⟨rfl, rfl, rfl, rfl, rfl, rfl, rfl, rfl, rfl, rfl, trivial⟩, hp⟩
                · rintro a w ⟨hE, hp⟩
                  refine s_nil ?_
                  refine k_if hE rfl (fun hb7 => ?_) (fun hb7 => ?_)
                  · replace hl2 := (it hb7).symm.trans hl2
                    refine k_skip ?_
                    refine k_plain ?_
                    refine k_region ?_
                    refine s_val (wk0 rfl) rfl rfl hE hp (v := w15) (ex_move rfl hE rfl) ?_
                    intro a hE
                    refine s_val (wk0 rfl) rfl rfl hE hp (v := w15) (ex_move rfl hE rfl) ?_
                    intro a hE
                    refine s_val (wk0 rfl) rfl rfl hE hp (v := (.int .i64 (lp2_0.length : Int))) (ex_len rfl hE rfl (OwnSl.len hp 0 rfl slty25)) ?_
                    intro a hE
                    obtain ⟨x6, ex6, hl2⟩ := bnd hl2
                    refine s_val (wk0 rfl) rfl rfl hE hp (v := (.int .i64 x6)) (ex_sub rfl hE rfl rfl (inK_some ex6)) ?_
                    intro a hE
                    obtain ⟨x7, ex7, hl2⟩ := bnd hl2
                    obtain ⟨v1, v1r, hp⟩ := OwnSl.head (hp.get 0 rfl) slty25 (some (.i64, x6)) rfl ex7
                    have hp : Hp Z ρ (OwnSl 3 v1 x7 :: OwnSl 48 w14 lp1_2 :: L) w := hp
                    refine s_val (wk0 rfl) rfl rfl hE hp (v := v1) (ex_sl rfl hE rfl none (some (.i64, x6)) (by exact trivial) (by exact rfl) v1r) ?_
                    intro a hE
                    refine s_val (wk0 rfl) rfl rfl hE hp (v := v1) (ex_asn rfl hE rfl) ?_
                    intro a hE
                    refine s_nil ?_
                    exact ⟨_, (Option.some.inj hl2).symm, _, hE.cut ⟨rfl, rfl, rfl, rfl, rfl, rfl, rfl, rfl, rfl, trivial⟩, hp⟩
                  · replace hl2 := (ie hb7).symm.trans hl2
                    refine k_exit ?_
                    refine ⟨_, (Option.some.inj hl2).symm, fun hbb => ?_⟩
                    subst hbb
                    exact ⟨_, hE.cut ⟨rfl, rfl, rfl, rfl, rfl, rfl, rfl, rfl, trivial⟩, hp⟩
            · rintro a w ⟨w15, hE, hp⟩
              refine k_seq ?_
              refine k_seq ?_
              refine k_region ?_
              refine s_val (wk0 rfl) rfl rfl hE hp (v := w15) (ex_move rfl hE rfl) ?_
              intro a hE
              refine s_val (wk0 rfl) rfl rfl hE hp (v := (.int .i64 lp1_0)) (ex_move rfl hE rfl) ?_
              intro a hE
              refine s_lit (wk0 rfl) rfl rfl hE hp rfl [(0, (.int .i64 lp1_0))] ⟨⟨rfl, rfl⟩, trivial⟩ [(.int .i64 lp1_0)] 3 (fun w => by simp [Instr.buildSlice, Instr.fill, Value.cells, go_sem]) ?_
              intro a w b6 hE hp
              have hp : Hp Z ρ (Pt b6 (.cells #[(.int .i64 lp1_0)] 3 (0, 0)) :: OwnSl 3 w15 b3 :: OwnSl 48 w14 lp1_2 :: L) w := hp
              obtain ⟨x8, ex8, hl1⟩ := bnd hl1
              refine s_app (wk0 rfl) rfl rfl hE hp rfl slty25 rfl rfl 1 rfl rfl (l2 := [lp1_0]) rfl (fun j u hj => by have := Hp.cN 0 rfl 0 _ (sub_all rfl) w hp j u hj; simpa using this) ex8 ?_
              intro v2 a w hE hp
              have hp : Hp Z ρ (Pt b6 (.cells #[(.int .i64 lp1_0)] 3 (0, 0)) :: OwnSl 3 v2 x8 :: OwnSl 48 w14 lp1_2 :: L) w := hp
              refine s_val (wk0 rfl) rfl rfl hE hp (v := v2) (ex_asn rfl hE rfl) ?_
              intro a hE
              refine s_nil ?_
              refine k_seq ?_
              refine k_region ?_
              refine s_val (wk0 rfl) rfl rfl hE hp (v := v2) (ex_move rfl hE rfl) ?_
              intro a hE
              obtain ⟨x9, ex9, hl1⟩ := bnd hl1
              obtain ⟨b7, b7o, b7r, b7v, b7f⟩ := OwnSl.at hp 1 rfl slty25 ex9
              have b7f : ∀ (j : Nat) (u : Value), ([(.int .i64 x9)] : List Value)[j]? = some u → ∀ w, Hp Z ρ (Pt b6 (.cells #[(.int .i64 lp1_0)] 3 (0, 0)) :: OwnSl 3 v2 x8 :: OwnSl 48 w14 lp1_2 :: L) w → w.cell? ⟨b7, b7o + j, none⟩ = some u := b7f
              refine s_val (wk0 rfl) rfl rfl hE hp (v := (.pointer (some ⟨b7, b7o, none⟩))) (ex_index rfl hE rfl rfl b7r) ?_
              intro a hE
              refine s_val (wk0 rfl) rfl rfl hE hp (v := (.int .i64 x9)) (ex_load rfl hE rfl (fun w hw => run_ld1 varty3 (b7f 0 _ rfl w hw))) ?_
              intro a hE
              refine s_val (wk0 rfl) rfl rfl hE hp (v := (.int .i64 lp1_0)) (ex_move rfl hE rfl) ?_
              intro a hE
              refine s_val (wk0 rfl) rfl rfl hE hp (v := (.int .i64 (min p1 (p0.length : Int)))) (ex_move rfl hE rfl) ?_
              intro a hE
              obtain ⟨x10, ex10, hl1⟩ := bnd hl1
              refine s_val (wk0 rfl) rfl rfl hE hp (v := (.int .i64 x10)) (ex_sub rfl hE rfl rfl (inK_some ex10)) ?_
              intro a hE
              refine s_val (wk0 rfl) rfl rfl hE hp (v := (.bool (decide (x9 ≤ x10)))) (ex_leq rfl hE rfl rfl) ?_
              intro a hE
              refine s_nil ?_
              have hE := hE.cut (E' := [(0, vp0), (1, (.int .i64 (min p1 (p0.length : Int)))), (6, w14), (7, v2), (8, (.int .i64 lp1_0)), (23, vp0), (24, (.int .i64 (p0.length : Int))), (25, (.int .i64 lp1_0)), (61, (.bool (decide (x9 ≤ x10))))]) ⟨rfl, rfl, rfl, rfl, rfl, rfl, rfl, rfl, rfl, trivial⟩
              obtain ⟨j1, hj1, hl1⟩ := bnd hl1
              refine k_cut (fun a w => ∃ w15 : Value, Env 98 [(0, vp0), (1, (.int .i64 (min p1 (p0.length : Int)))), (6, w14), (7, w15), (8, (.int .i64 lp1_0)), (23, vp0), (24, (.int .i64 (p0.length : Int))), (25, (.int .i64 lp1_0))] a ∧ Hp Z ρ (Pt b6 (.cells #[(.int .i64 lp1_0)] 3 (0, 0)) :: OwnSl 3 w15 j1 :: OwnSl 48 w14 lp1_2 :: L) w) ?_ ?_
              ·
                refine k_if hE rfl (fun hb8 => ?_) (fun hb8 => ?_)
                · replace hj1 := (it hb8).symm.trans hj1
                  refine k_region ?_
                  refine s_val (wk0 rfl) rfl rfl hE hp (v := v2) (ex_move rfl hE rfl) ?_
                  intro a hE
                  obtain ⟨x11, ex11, hj1⟩ := bnd hj1
                  obtain ⟨v3, v3r, hp⟩ := OwnSl.part (hp.get 1 rfl) slty25 (some (.i64, 1)) none rfl rfl ex11
                  have hp : Hp Z ρ (OwnSl 3 v3 x11 :: Pt b6 (.cells #[(.int .i64 lp1_0)] 3 (0, 0)) :: OwnSl 48 w14 lp1_2 :: L) w := hp
                  refine s_val (wk0 rfl) rfl rfl hE hp (v := v3) (ex_sl rfl hE rfl (some (.i64, 1)) none (by exact rfl) (by exact trivial) v3r) ?_
                  intro a hE
                  refine s_val (wk0 rfl) rfl rfl hE hp (v := v3) (ex_asn rfl hE rfl) ?_
                  intro a hE
                  refine s_nil ?_
                  obtain rfl := Option.some.inj hj1
                  exact ⟨_, hE.cut ⟨rfl, rfl, rfl, rfl, rfl, rfl, rfl, rfl, trivial⟩, (((hp.get 2 rfl).get 1 rfl).get 2 rfl)⟩
                · replace hj1 := (ie hb8).symm.trans hj1
                  refine k_skip ?_
                  obtain rfl := Option.some.inj hj1
                  exact ⟨_, hE.cut ⟨rfl, rfl, rfl, rfl, rfl, rfl, rfl, rfl, trivial⟩, hp⟩
              · rintro a w ⟨w15, hE, hp⟩
                refine k_seq ?_
                refine k_region ?_
                refine s_val (wk0 rfl) rfl rfl hE hp (v := w15) (ex_move rfl hE rfl) ?_
                intro a hE
                obtain ⟨x12, ex12, hl1⟩ := bnd hl1
                obtain ⟨b8, b8o, b8r, b8v, b8f⟩ := OwnSl.at hp 1 rfl slty25 ex12
                have b8f : ∀ (j : Nat) (u : Value), ([(.int .i64 x12)] : List Value)[j]? = some u → ∀ w, Hp Z ρ (Pt b6 (.cells #[(.int .i64 lp1_0)] 3 (0, 0)) :: OwnSl 3 w15 j1 :: OwnSl 48 w14 lp1_2 :: L) w → w.cell? ⟨b8, b8o + j, none⟩ = some u := b8f
                refine s_val (wk0 rfl) rfl rfl hE hp (v := (.pointer (some ⟨b8, b8o, none⟩))) (ex_index rfl hE rfl rfl b8r) ?_
                intro a hE
                refine s_val (wk0 rfl) rfl rfl hE hp (v := (.int .i64 x12)) (ex_load rfl hE rfl (fun w hw => run_ld1 varty3 (b8f 0 _ rfl w hw))) ?_
                intro a hE
                refine s_val (wk0 rfl) rfl rfl hE hp (v := (.int .i64 x12)) (ex_asn rfl hE rfl) ?_
                intro a hE
                refine s_nil ?_
                refine k_seq ?_
                refine k_region ?_
                refine s_val (wk0 rfl) rfl rfl hE hp (v := (.int .i64 lp1_0)) (ex_move rfl hE rfl) ?_
                intro a hE
                refine s_val (wk0 rfl) rfl rfl hE hp (v := (.int .i64 (min p1 (p0.length : Int)))) (ex_move rfl hE rfl) ?_
                intro a hE
                obtain ⟨x13, ex13, hl1⟩ := bnd hl1
                refine s_val (wk0 rfl) rfl rfl hE hp (v := (.int .i64 x13)) (ex_sub rfl hE rfl rfl (inK_some ex13)) ?_
                intro a hE
                refine s_val (wk0 rfl) rfl rfl hE hp (v := (.bool (decide (x13 ≤ lp1_0)))) (ex_geq rfl hE rfl rfl) ?_
                intro a hE
                refine s_val (wk0 rfl) rfl rfl hE hp (v := (.bool (decide (x13 ≤ lp1_0)))) (ex_move rfl hE rfl) ?_
                intro a hE
                obtain ⟨m2, hg2, hl1⟩ := bnd hl1
                refine s_cut [_, _, _, _, _, _, _, _, _, _, _, _, _, _, _] (fun a w => Env 98 [(86, (.bool m2)), (0, vp0), (1, (.int .i64 (min p1 (p0.length : Int)))), (6, w14), (7, w15), (10, (.int .i64 x12)), (23, vp0), (24, (.int .i64 (p0.length : Int))), (25, (.int .i64 lp1_0))] a ∧ Hp Z ρ (Pt b6 (.cells #[(.int .i64 lp1_0)] 3 (0, 0)) :: OwnSl 3 w15 j1 :: OwnSl 48 w14 lp1_2 :: L) w) ?_ ?_
                · rcases Bool.eq_false_or_eq_true (decide (x13 ≤ lp1_0)) with hb9 | hb9
                  ·
                    replace hg2 := (it hb9).symm.trans hg2
                    refine s_val (wk1 hE rfl rfl rfl hb9) rfl rfl hE hp (v := w14) (ex_move rfl hE rfl) ?_
                    intro a hE
                    refine s_val (wk1 hE rfl rfl rfl hb9) rfl rfl hE hp (v := (.int .i64 (lp1_2.length : Int))) (ex_len rfl hE rfl (OwnSl.len hp 2 rfl slty28)) ?_
                    intro a hE
                    refine s_val (wk1 hE rfl rfl rfl hb9) rfl rfl hE hp (v := (.bool (decide ((lp1_2.length : Int) = 0)))) (ex_eql rfl hE rfl rfl) ?_
                    intro a hE
                    refine s_val (wk1 hE rfl rfl rfl hb9) rfl rfl hE hp (v := (.bool (decide ((lp1_2.length : Int) = 0)))) (ex_move rfl hE rfl) ?_
                    intro a hE
                    obtain ⟨m3, hg3, hg2⟩ := bnd hg2
                    refine s_cut [_, _, _, _, _, _, _, _, _, _] (fun a w => Env 98 [(85, (.bool m3)), (0, vp0), (1, (.int .i64 (min p1 (p0.length : Int)))), (6, w14), (7, w15), (10, (.int .i64 x12)), (23, vp0), (24, (.int .i64 (p0.length : Int))), (25, (.int .i64 lp1_0)), (71, (.bool (decide (x13 ≤ lp1_0)))), (72, w14), (73, (.int .i64 (lp1_2.length : Int))), (74, (.bool (decide ((lp1_2.length : Int) = 0)))), (75, (.bool (decide ((lp1_2.length : Int) = 0))))] a ∧ Hp Z ρ (Pt b6 (.cells #[(.int .i64 lp1_0)] 3 (0, 0)) :: OwnSl 3 w15 j1 :: OwnSl 48 w14 lp1_2 :: L) w) ?_ ?_
                    · rcases Bool.eq_false_or_eq_true (decide ((lp1_2.length : Int) = 0)) with hb10 | hb10
                      ·
                        replace hg3 := (it hb10).symm.trans hg3
                        refine s_skip (wk2 hE rfl rfl rfl hb10) rfl rfl hE ?_
                        intro a hE
                        refine s_skip (wk2 hE rfl rfl rfl hb10) rfl rfl hE ?_
                        intro a hE
                        refine s_skip (wk2 hE rfl rfl rfl hb10) rfl rfl hE ?_
                        intro a hE
                        refine s_skip (wk2 hE rfl rfl rfl hb10) rfl rfl hE ?_
                        intro a hE
                        refine s_skip (wk2 hE rfl rfl rfl hb10) rfl rfl hE ?_
                        intro a hE
                        refine s_skip (wk2 hE rfl rfl rfl hb10) rfl rfl hE ?_
                        intro a hE
                        refine s_skip (wk2 hE rfl rfl rfl hb10) rfl rfl hE ?_
                        intro a hE
                        refine s_skip (wk2 hE rfl rfl rfl hb10) rfl rfl hE ?_
                        intro a hE
                        refine s_skip (wk2 hE rfl rfl rfl hb10) rfl rfl hE ?_
                        intro a hE
                        refine s_val (wk1 hE rfl rfl rfl hb9) rfl rfl hE hp (v := (.bool true)) (ex_pick1 rfl hE rfl hb10 rfl) ?_
                        intro a hE
                        obtain rfl := Option.some.inj hg3
                        exact s_nil ⟨hE.cut ⟨rfl, rfl, rfl, rfl, rfl, rfl, rfl, rfl, rfl, rfl, rfl, rfl, rfl, rfl, trivial⟩, hp⟩
                      ·
                        replace hg3 := (ie hb10).symm.trans hg3
                        refine s_val (wk1 hE rfl rfl rfl hb10) rfl rfl hE hp (v := w14) (ex_move rfl hE rfl) ?_
                        intro a hE
                        refine s_val (wk1 hE rfl rfl rfl hb10) rfl rfl hE hp (v := w14) (ex_move rfl hE rfl) ?_
                        intro a hE
                        refine s_val (wk1 hE rfl rfl rfl hb10) rfl rfl hE hp (v := (.int .i64 (lp1_2.length : Int))) (ex_len rfl hE rfl (OwnSl.len hp 2 rfl slty28)) ?_
                        intro a hE
                        obtain ⟨x14, ex14, hg3⟩ := bnd hg3
                        refine s_val (wk1 hE rfl rfl rfl hb10) rfl rfl hE hp (v := (.int .i64 x14)) (ex_sub rfl hE rfl rfl (inK_some ex14)) ?_
                        intro a hE
                        obtain ⟨x15, ex15, hg3⟩ := bnd hg3
                        obtain ⟨b9, b9o, b9r, b9v, b9f⟩ := OwnSl.at hp 2 rfl slty28 ex15
                        have b9f : ∀ (j : Nat) (u : Value), ([(.int .i64 x15.hash), (.int .i64 x15.at_)] : List Value)[j]? = some u → ∀ w, Hp Z ρ (Pt b6 (.cells #[(.int .i64 lp1_0)] 3 (0, 0)) :: OwnSl 3 w15 j1 :: OwnSl 48 w14 lp1_2 :: L) w → w.cell? ⟨b9, b9o + j, none⟩ = some u := b9f
                        refine s_val (wk1 hE rfl rfl rfl hb10) rfl rfl hE hp (v := (.pointer (some ⟨b9, b9o, none⟩))) (ex_index rfl hE rfl rfl b9r) ?_
                        intro a hE
                        refine s_val (wk1 hE rfl rfl rfl hb10) rfl rfl hE hp (v := (.pointer (some ⟨b9, b9o + 1, none⟩))) (ex_field rfl hE rfl (fldty48_1 _ _)) ?_
                        intro a hE
                        refine s_val (wk1 hE rfl rfl rfl hb10) rfl rfl hE hp (v := (.int .i64 x15.at_)) (ex_load rfl hE rfl (fun w hw => run_ld1 varty3 (b9f 1 _ rfl w hw))) ?_
                        intro a hE
                        refine s_val (wk1 hE rfl rfl rfl hb10) rfl rfl hE hp (v := (.int .i64 x12)) (ex_move rfl hE rfl) ?_
                        intro a hE
                        refine s_val (wk1 hE rfl rfl rfl hb10) rfl rfl hE hp (v := (.bool (!decide (x15.at_ = x12)))) (ex_neq rfl hE rfl rfl) ?_
                        intro a hE
                        refine s_val (wk1 hE rfl rfl rfl hb9) rfl rfl hE hp (v := (.bool (!decide (x15.at_ = x12)))) (ex_pick0 rfl hE rfl hb10 rfl) ?_
                        intro a hE
                        obtain rfl := Option.some.inj hg3
                        exact s_nil ⟨hE.cut ⟨rfl, rfl, rfl, rfl, rfl, rfl, rfl, rfl, rfl, rfl, rfl, rfl, rfl, rfl, trivial⟩, hp⟩
                    · rintro a w ⟨hE, hp⟩
                      refine s_val (wk0 rfl) rfl rfl hE hp (v := (.bool m3)) (ex_pick1 rfl hE rfl hb9 rfl) ?_
                      intro a hE
                      obtain rfl := Option.some.inj hg2
                      exact s_nil ⟨hE.cut ⟨rfl, rfl, rfl, rfl, rfl, rfl, rfl, rfl, rfl, trivial⟩, hp⟩
                  ·
                    replace hg2 := (ie hb9).symm.trans hg2
                    refine s_skip (wk2 hE rfl rfl rfl hb9) rfl rfl hE ?_
                    intro a hE
                    refine s_skip (wk2 hE rfl rfl rfl hb9) rfl rfl hE ?_
                    intro a hE
                    refine s_skip (wk2 hE rfl rfl rfl hb9) rfl rfl hE ?_
                    intro a hE
                    refine s_skip (wk2 hE rfl rfl rfl hb9) rfl rfl hE ?_
                    intro a hE
                    refine s_skip (wk3 hE rfl rfl rfl) rfl rfl hE ?_
                    intro a hE
                    refine s_skip (wk3 hE rfl rfl rfl) rfl rfl hE ?_
                    intro a hE
                    refine s_skip (wk3 hE rfl rfl rfl) rfl rfl hE ?_
                    intro a hE
                    refine s_skip (wk3 hE rfl rfl rfl) rfl rfl hE ?_
                    intro a hE
                    refine s_skip (wk3 hE rfl rfl rfl) rfl rfl hE ?_
                    intro a hE
                    refine s_skip (wk3 hE rfl rfl rfl) rfl rfl hE ?_
                    intro a hE
                    refine s_skip (wk3 hE rfl rfl rfl) rfl rfl hE ?_
                    intro a hE
                    refine s_skip (wk3 hE rfl rfl rfl) rfl rfl hE ?_
                    intro a hE
                    refine s_skip (wk3 hE rfl rfl rfl) rfl rfl hE ?_
                    intro a hE
                    refine s_skip (wk2 hE rfl rfl rfl hb9) rfl rfl hE ?_
                    intro a hE
                    refine s_val (wk0 rfl) rfl rfl hE hp (v := (.bool false)) (ex_pick0 rfl hE rfl hb9 rfl) ?_
                    intro a hE
                    obtain rfl := Option.some.inj hg2
                    exact s_nil ⟨hE.cut ⟨rfl, rfl, rfl, rfl, rfl, rfl, rfl, rfl, rfl, trivial⟩, hp⟩
                · rintro a w ⟨hE, hp⟩
                  refine s_nil ?_
                  refine k_if hE rfl (fun hb11 => ?_) (fun hb11 => ?_)
                  · replace hl1 := (it hb11).symm.trans hl1
                    refine k_region ?_
                    refine s_val (wk0 rfl) rfl rfl hE hp (v := w14) (ex_move rfl hE rfl) ?_
                    intro a hE
                    refine s_val (wk0 rfl) rfl rfl hE hp (v := vp0) (ex_move rfl hE rfl) ?_
                    intro a hE
                    refine s_val (wk0 rfl) rfl rfl hE hp (v := (.int .i64 x12)) (ex_move rfl hE rfl) ?_
                    intro a hE
                    obtain ⟨x16, ex16, hl1⟩ := bnd hl1
                    obtain ⟨b10, b10o, b10c, b10r, b10k, b10f⟩ := RoSl.at hp0 slty25 ex16
                    obtain rfl : b10c = Enc.enc x16 := b10k
                    have b10f : AtP ρ b10 b10o [(.int .i64 x16)] := b10f
                    refine s_val (wk0 rfl) rfl rfl hE hp (v := (.pointer (some ⟨b10, b10o, none⟩))) (ex_index rfl hE rfl rfl b10r) ?_
                    intro a hE
                    refine s_val (wk0 rfl) rfl rfl hE hp (v := (.int .i64 x16)) (ex_load rfl hE rfl (fun w hw => run_ld1 varty3 (b10f.c 0 rfl w hw))) ?_
                    intro a hE
                    refine s_val (wk0 rfl) rfl rfl hE hp (v := (.int .i64 x12)) (ex_move rfl hE rfl) ?_
                    intro a hE
                    refine s_val (wk0 rfl) rfl rfl hE hp (v := (.agg #[(.int .i64 x16), (.int .i64 x12)])) (ex_bld rfl hE [(0, (.int .i64 x16)), (1, (.int .i64 x12))] (by exact ⟨⟨rfl, rfl⟩, ⟨rfl, rfl⟩, trivial⟩) (fun w => by simp [Instr.build, Instr.fill, Value.cells, go_sem])) ?_
                    intro a hE
                    refine s_lit (wk0 rfl) rfl rfl hE hp rfl [(0, (.agg #[(.int .i64 x16), (.int .i64 x12)]))] ⟨⟨rfl, rfl⟩, trivial⟩ [(.int .i64 x16), (.int .i64 x12)] 48 (fun w => by simp [Instr.buildSlice, Instr.fill, Value.cells, go_sem]) ?_
                    intro a w b11 hE hp
                    have hp : Hp Z ρ (Pt b11 (.cells #[(.int .i64 x16), (.int .i64 x12)] 48 (0, 0)) :: Pt b6 (.cells #[(.int .i64 lp1_0)] 3 (0, 0)) :: OwnSl 3 w15 j1 :: OwnSl 48 w14 lp1_2 :: L) w := hp
                    obtain ⟨x17, ex17, hl1⟩ := bnd hl1
                    refine s_app (wk0 rfl) rfl rfl hE hp rfl slty28 rfl rfl 3 rfl rfl (l2 := [(Mark.mk x16 x12)]) rfl (fun j u hj => by have := Hp.cN 0 rfl 0 _ (sub_all rfl) w hp j u hj; simpa using this) ex17 ?_
                    intro v4 a w hE hp
                    have hp : Hp Z ρ (Pt b11 (.cells #[(.int .i64 x16), (.int .i64 x12)] 48 (0, 0)) :: Pt b6 (.cells #[(.int .i64 lp1_0)] 3 (0, 0)) :: OwnSl 3 w15 j1 :: OwnSl 48 v4 x17 :: L) w := hp
                    refine s_val (wk0 rfl) rfl rfl hE hp (v := v4) (ex_asn rfl hE rfl) ?_
                    intro a hE
                    refine s_nil ?_
                    refine k_region ?_
                    obtain ⟨x18, ex18, hl1⟩ := bnd hl1
                    refine s_val (wk0 rfl) rfl rfl hE hp (v := (.int .i64 x18)) (ex_add rfl hE rfl rfl (inK_some ex18)) ?_
                    intro a hE
                    refine s_val (wk0 rfl) rfl rfl hE hp (v := (.int .i64 x18)) (ex_move rfl hE rfl) ?_
                    intro a hE
                    refine s_nil ?_
                    exact ⟨_, (Option.some.inj hl1).symm, _, _, hE.cut ⟨rfl, rfl, rfl, rfl, rfl, rfl, rfl, trivial⟩, (((hp.get 1 rfl).drop).drop)⟩
                  · replace hl1 := (ie hb11).symm.trans hl1
                    refine k_skip ?_
                    refine k_region ?_
                    obtain ⟨x19, ex19, hl1⟩ := bnd hl1
                    refine s_val (wk0 rfl) rfl rfl hE hp (v := (.int .i64 x19)) (ex_add rfl hE rfl rfl (inK_some ex19)) ?_
                    intro a hE
                    refine s_val (wk0 rfl) rfl rfl hE hp (v := (.int .i64 x19)) (ex_move rfl hE rfl) ?_
                    intro a hE
                    refine s_nil ?_
                    exact ⟨_, (Option.some.inj hl1).symm, _, _, hE.cut ⟨rfl, rfl, rfl, rfl, rfl, rfl, rfl, trivial⟩, (hp.drop)⟩
          · replace hl1 := (ie hb4).symm.trans hl1
            refine k_exit ?_
            refine ⟨_, (Option.some.inj hl1).symm, fun hbb => ?_⟩
            subst hbb
            exact ⟨_, _, hE.cut ⟨rfl, trivial⟩, hp⟩
      · rintro a w ⟨w15, w14, hE, hp⟩
        refine k_seq ?_
        refine k_region ?_
        refine s_val (wk0 rfl) rfl rfl hE hp (v := w14) (ex_move rfl hE rfl) ?_
        intro a hE
        refine s_val (wk0 rfl) rfl rfl hE hp (v := w14) (ex_asn rfl hE rfl) ?_
        intro a hE
        refine s_val (wk0 rfl) rfl rfl hE hp (v := (.int .i64 0)) (ex_asn rfl hE rfl) ?_
        intro a hE
        refine s_nil ?_
        have hE := hE.cut (E' := [(4, w14), (5, (.int .i64 0))]) ⟨rfl, rfl, trivial⟩
        refine k_ret ?_
        obtain rfl := Option.some.inj hm
        exact ret2 hE rfl rfl rfl ⟨_, rfl, _, rfl, (hp.drop)⟩
/- assessor/fingerprint.Marks -/
set_option maxRecDepth 100000 in
set_option maxHeartbeats 4000000 in
theorem c_fingerprint_Marks {Z : World} {ρ : PH} {L : List Atom} {w : World} (hT : Tabs ρ) (p0 : Node) (vp0_kids : Value) (hp0_kids : RoSl ρ vp0_kids p0.kids) (p1 : Int) (p2 : Int) (hp : Hp Z ρ (L) w) (r : ((List Mark) × Int)) (hm : m_fingerprint_Marks p0 p1 p2 = some r) :
    Calls Tryd.prog 12 #[(.agg #[(.int .i64 p0.kind), (.string p0.text), (.int .i64 p0.at_), (.int .i64 p0.fin), vp0_kids]), (.int .i64 p1), (.int .i64 p2)] w (Ret fun v w' => ∃ (v1 : Value), v = .tuple #[v1, (.int .i64 r.2)] ∧ Hp Z ρ (OwnSl 48 v1 r.1 :: L) w') := by
  refine enter (N := 33) Tryd.func12 rfl rfl [(0, (.agg #[(.int .i64 p0.kind), (.string p0.text), (.int .i64 p0.at_), (.int .i64 p0.fin), vp0_kids])), (1, (.int .i64 p1)), (2, (.int .i64 p2))] rfl (argsIn_mem ⟨rfl, rfl, rfl, trivial⟩) fun a hE => ?_
  unfold m_fingerprint_Marks at hm
  refine k_seq ?_
  refine k_region ?_
  refine s_box (wk0 rfl) rfl rfl hE hp rfl (v := (.agg #[(.int .i64 p0.kind), (.string p0.text), (.int .i64 p0.at_), (.int .i64 p0.fin), vp0_kids])) rfl ?_
  intro a w b1 hE hp
  have hp : Hp Z ρ (Pt b1 (.cells #[(.int .i64 p0.kind), (.string p0.text), (.int .i64 p0.at_), (.int .i64 p0.fin), vp0_kids] 24 (0, 0)) :: L) w := hp
  refine s_val (wk0 rfl) rfl rfl hE hp (v := (.slice none 0 0)) (ex_asn rfl hE rfl) ?_
  intro a hE
  refine s_val (wk0 rfl) rfl rfl hE hp (v := (.int .i64 0)) (ex_asn rfl hE rfl) ?_
  intro a hE
  refine s_nil ?_
  refine k_seq ?_
  refine k_seq ?_
  refine k_region ?_
  refine s_val (wk0 rfl) rfl rfl hE hp (v := (.int .i64 p1)) (ex_move rfl hE rfl) ?_
  intro a hE
  obtain ⟨x1, ex1, hm⟩ := bnd hm
  refine s_call (wk0 rfl) rfl rfl hE rfl [(.int .i64 p1)] ⟨rfl, trivial⟩ ent31 (c_fingerprint_ranged hT p1 hp x1 ex1) Ret.ret ?_
  intro v a w hR hE
  obtain ⟨rfl, hp⟩ := Ret.of hR
  have hp : Hp Z ρ (Pt b1 (.cells #[(.int .i64 p0.kind), (.string p0.text), (.int .i64 p0.at_), (.int .i64 p0.fin), vp0_kids] 24 (0, 0)) :: L) w := hp
  refine s_val (wk0 rfl) rfl rfl hE hp (v := (.bool (!x1))) (ex_not rfl hE rfl) ?_
  intro a hE
  refine s_val (wk0 rfl) rfl rfl hE hp (v := (.bool (!x1))) (ex_move rfl hE rfl) ?_
  intro a hE
  obtain ⟨m1, hg1, hm⟩ := bnd hm
  refine s_cut [_, _, _, _] (fun a w => Env 33 [(17, (.bool m1)), (1, (.int .i64 p1)), (2, (.int .i64 p2)), (3, (.pointer (some ⟨b1, 0, none⟩)))] a ∧ Hp Z ρ (Pt b1 (.cells #[(.int .i64 p0.kind), (.string p0.text), (.int .i64 p0.at_), (.int .i64 p0.fin), vp0_kids] 24 (0, 0)) :: L) w) ?_ ?_
  · rcases Bool.eq_false_or_eq_true (!x1) with hb1 | hb1
    ·
      replace hg1 := (it hb1).symm.trans hg1
      refine s_skip (wk2 hE rfl rfl rfl hb1) rfl rfl hE ?_
      intro a hE
      refine s_skip (wk2 hE rfl rfl rfl hb1) rfl rfl hE ?_
      intro a hE
      refine s_skip (wk2 hE rfl rfl rfl hb1) rfl rfl hE ?_
      intro a hE
      refine s_val (wk0 rfl) rfl rfl hE hp (v := (.bool true)) (ex_pick1 rfl hE rfl hb1 rfl) ?_
      intro a hE
      obtain rfl := Option.some.inj hg1
      exact s_nil ⟨hE.cut ⟨rfl, rfl, rfl, rfl, trivial⟩, hp⟩
    ·
      replace hg1 := (ie hb1).symm.trans hg1
      refine s_val (wk1 hE rfl rfl rfl hb1) rfl rfl hE hp (v := (.int .i64 p2)) (ex_move rfl hE rfl) ?_
      intro a hE
      obtain ⟨x2, ex2, hg1⟩ := bnd hg1
      refine s_call (wk1 hE rfl rfl rfl hb1) rfl rfl hE rfl [(.int .i64 p2)] ⟨rfl, trivial⟩ ent31 (c_fingerprint_ranged hT p2 hp x2 ex2) Ret.ret ?_
      intro v a w hR hE
      obtain ⟨rfl, hp⟩ := Ret.of hR
      have hp : Hp Z ρ (Pt b1 (.cells #[(.int .i64 p0.kind), (.string p0.text), (.int .i64 p0.at_), (.int .i64 p0.fin), vp0_kids] 24 (0, 0)) :: L) w := hp
      refine s_val (wk1 hE rfl rfl rfl hb1) rfl rfl hE hp (v := (.bool (!x2))) (ex_not rfl hE rfl) ?_
      intro a hE
      refine s_val (wk0 rfl) rfl rfl hE hp (v := (.bool (!x2))) (ex_pick0 rfl hE rfl hb1 rfl) ?_
      intro a hE
      obtain rfl := Option.some.inj hg1
      exact s_nil ⟨hE.cut ⟨rfl, rfl, rfl, rfl, trivial⟩, hp⟩
  · rintro a w ⟨hE, hp⟩
    refine s_nil ?_
    refine k_if hE rfl (fun hb2 => ?_) (fun hb2 => ?_)
    · replace hm := (it hb2).symm.trans hm
      refine k_seq ?_
      refine k_region ?_
      refine s_val (wk0 rfl) rfl rfl hE hp (v := (.slice none 0 0)) (ex_asn rfl hE rfl) ?_
      intro a hE
      refine s_val (wk0 rfl) rfl rfl hE hp (v := (.int .i64 2)) (ex_asn rfl hE rfl) ?_
      intro a hE
      refine s_nil ?_
      refine k_ret ?_
      have hp := hp.emp (OwnSl.nil (α := Mark) 48)
      have hp : Hp Z ρ (OwnSl 48 (.slice none 0 0) ([] : List Mark) :: Pt b1 (.cells #[(.int .i64 p0.kind), (.string p0.text), (.int .i64 p0.at_), (.int .i64 p0.fin), vp0_kids] 24 (0, 0)) :: L) w := hp
      obtain rfl := Option.some.inj hm
      exact ret2 hE rfl rfl rfl ⟨_, rfl, _, rfl, ((hp.get 1 rfl).drop)⟩
    · replace hm := (ie hb2).symm.trans hm
      refine k_skip ?_
      refine k_seq ?_
      refine k_region ?_
      refine s_val (wk0 rfl) rfl rfl hE hp (v := (.agg #[(.int .i64 p0.kind), (.string p0.text), (.int .i64 p0.at_), (.int .i64 p0.fin), vp0_kids])) (ex_load rfl hE rfl (fun w hw => run_ldN (cs := [(.int .i64 p0.kind), (.string p0.text), (.int .i64 p0.at_), (.int .i64 p0.fin), vp0_kids]) varty24 (Hp.cN 0 rfl 0 _ (sub_all rfl) w hw))) ?_
      intro a hE
      obtain ⟨x3, ex3, hm⟩ := bnd hm
      refine s_call (wk0 rfl) rfl rfl hE rfl [(.agg #[(.int .i64 p0.kind), (.string p0.text), (.int .i64 p0.at_), (.int .i64 p0.fin), vp0_kids])] ⟨rfl, trivial⟩ ent15 (c_fingerprint_Symbols hT p0 vp0_kids hp0_kids hp x3 ex3) Ret.ret ?_
      intro v1 a w hR hE
      obtain ⟨u, hu, hp⟩ := Ret.of hR
      rw [← hu] at hp
      have hp : Hp Z ρ (OwnSl 3 v1 x3 :: Pt b1 (.cells #[(.int .i64 p0.kind), (.string p0.text), (.int .i64 p0.at_), (.int .i64 p0.fin), vp0_kids] 24 (0, 0)) :: L) w := hp
      refine s_val (wk0 rfl) rfl rfl hE hp (v := (.int .i64 p1)) (ex_move rfl hE rfl) ?_
      intro a hE
      obtain ⟨k1, k1a, k1d, k1h⟩ := (hp.get 0 rfl).lend
      obtain ⟨x4, ex4, hm⟩ := bnd hm
      refine s_call (wk0 rfl) rfl rfl hE rfl [v1, (.int .i64 p1)] ⟨rfl, rfl, trivial⟩ ent20 (c_fingerprint_Hashes (Tabs.mono hT (PH.le_un _ _)) x3 v1 (OwnSl.ro k1d k1a) p1 k1h x4 ex4) Ret.ret ?_
      intro v a w hR hE
      obtain ⟨v2, rfl, hp⟩ := Ret.of hR
      have hp := Hp.back k1a k1d hp
      have hp : Hp Z ρ (OwnSl 3 v1 x3 :: OwnSl 3 v2 x4.1 :: Pt b1 (.cells #[(.int .i64 p0.kind), (.string p0.text), (.int .i64 p0.at_), (.int .i64 p0.fin), vp0_kids] 24 (0, 0)) :: L) w := hp
      have hp : Hp Z ρ (OwnSl 3 v1 x3 :: OwnSl 3 v2 x4.1 :: Pt b1 (.cells #[(.int .i64 p0.kind), (.string p0.text), (.int .i64 p0.at_), (.int .i64 p0.fin), vp0_kids] 24 (0, 0)) :: L) w := hp
      refine s_val (wk0 rfl) rfl rfl hE hp (v := (.tuple #[v2, (.int .i64 x4.2)])) (ex_move rfl hE rfl) ?_
      intro a hE
      refine s_val (wk0 rfl) rfl rfl hE hp (v := v2) (ex_extract rfl hE rfl rfl) ?_
      intro a hE
      refine s_val (wk0 rfl) rfl rfl hE hp (v := (.int .i64 x4.2)) (ex_extract rfl hE rfl rfl) ?_
      intro a hE
      refine s_val (wk0 rfl) rfl rfl hE hp (v := v2) (ex_asn rfl hE rfl) ?_
      intro a hE
      refine s_val (wk0 rfl) rfl rfl hE hp (v := (.int .i64 x4.2)) (ex_asn rfl hE rfl) ?_
      intro a hE
      refine s_nil ?_
      refine k_seq ?_
      refine k_seq ?_
      refine k_region ?_
      refine s_val (wk0 rfl) rfl rfl hE hp (v := (.int .i64 x4.2)) (ex_move rfl hE rfl) ?_
      intro a hE
      refine s_val (wk0 rfl) rfl rfl hE hp (v := (.bool (!decide (x4.2 = 0)))) (ex_neq rfl hE rfl rfl) ?_
      intro a hE
      refine s_nil ?_
      refine k_if hE rfl (fun hb3 => ?_) (fun hb3 => ?_)
      · replace hm := (it hb3).symm.trans hm
        refine k_seq ?_
        refine k_region ?_
        refine s_val (wk0 rfl) rfl rfl hE hp (v := (.int .i64 x4.2)) (ex_move rfl hE rfl) ?_
        intro a hE
        refine s_val (wk0 rfl) rfl rfl hE hp (v := (.slice none 0 0)) (ex_asn rfl hE rfl) ?_
        intro a hE
        refine s_val (wk0 rfl) rfl rfl hE hp (v := (.int .i64 x4.2)) (ex_asn rfl hE rfl) ?_
        intro a hE
        refine s_nil ?_
        refine k_ret ?_
        have hp := hp.emp (OwnSl.nil (α := Mark) 48)
        have hp : Hp Z ρ (OwnSl 48 (.slice none 0 0) ([] : List Mark) :: OwnSl 3 v1 x3 :: OwnSl 3 v2 x4.1 :: Pt b1 (.cells #[(.int .i64 p0.kind), (.string p0.text), (.int .i64 p0.at_), (.int .i64 p0.fin), vp0_kids] 24 (0, 0)) :: L) w := hp
        obtain rfl := Option.some.inj hm
        exact ret2 hE rfl rfl rfl ⟨_, rfl, _, rfl, ((((((hp.get 3 rfl).drop).get 2 rfl).drop).get 1 rfl).drop)⟩
      · replace hm := (ie hb3).symm.trans hm
        refine k_skip ?_
        refine k_seq ?_
        refine k_region ?_
        refine s_val (wk0 rfl) rfl rfl hE hp (v := v2) (ex_move rfl hE rfl) ?_
        intro a hE
        refine s_val (wk0 rfl) rfl rfl hE hp (v := (.int .i64 p2)) (ex_move rfl hE rfl) ?_
        intro a hE
        obtain ⟨k2, k2a, k2d, k2h⟩ := (hp.get 1 rfl).lend
        obtain ⟨x5, ex5, hm⟩ := bnd hm
        refine s_call (wk0 rfl) rfl rfl hE rfl [v2, (.int .i64 p2)] ⟨rfl, rfl, trivial⟩ ent24 (c_fingerprint_Winnow (Tabs.mono hT (PH.le_un _ _)) x4.1 v2 (OwnSl.ro k2d k2a) p2 k2h x5 ex5) Ret.ret ?_
        intro v a w hR hE
        obtain ⟨v3, rfl, hp⟩ := Ret.of hR
        have hp := Hp.back k2a k2d hp
        have hp : Hp Z ρ (OwnSl 3 v2 x4.1 :: OwnSl 48 v3 x5.1 :: OwnSl 3 v1 x3 :: Pt b1 (.cells #[(.int .i64 p0.kind), (.string p0.text), (.int .i64 p0.at_), (.int .i64 p0.fin), vp0_kids] 24 (0, 0)) :: L) w := hp
        have hp : Hp Z ρ (OwnSl 3 v2 x4.1 :: OwnSl 48 v3 x5.1 :: OwnSl 3 v1 x3 :: Pt b1 (.cells #[(.int .i64 p0.kind), (.string p0.text), (.int .i64 p0.at_), (.int .i64 p0.fin), vp0_kids] 24 (0, 0)) :: L) w := hp
        refine s_val (wk0 rfl) rfl rfl hE hp (v := v3) (ex_extract rfl hE rfl rfl) ?_
        intro a hE
        refine s_val (wk0 rfl) rfl rfl hE hp (v := (.int .i64 x5.2)) (ex_extract rfl hE rfl rfl) ?_
        intro a hE
        refine s_val (wk0 rfl) rfl rfl hE hp (v := v3) (ex_asn rfl hE rfl) ?_
        intro a hE
        refine s_val (wk0 rfl) rfl rfl hE hp (v := (.int .i64 x5.2)) (ex_asn rfl hE rfl) ?_
        intro a hE
        refine s_nil ?_
        have hE := hE.cut (E' := [(6, v3), (7, (.int .i64 x5.2))]) ⟨rfl, rfl, trivial⟩
        refine k_ret ?_
        obtain rfl := Option.some.inj hm
        exact ret2 hE rfl rfl rfl ⟨_, rfl, _, rfl, (((((hp.get 3 rfl).drop).get 2 rfl).drop).drop)⟩
/- assessor/fingerprint.Shared -/
set_option maxRecDepth 100000 in
set_option maxHeartbeats 4000000 in
theorem c_fingerprint_Shared {Z : World} {ρ : PH} {L : List Atom} {w : World} (hT : Tabs ρ) (p0 : (List Mark)) (vp0 : Value) (hp0 : RoSl ρ vp0 p0) (p1 : (List Mark)) (vp1 : Value) (hp1 : RoSl ρ vp1 p1) (hp : Hp Z ρ (L) w) (r : (List Int)) (hm : m_fingerprint_Shared p0 p1 = some r) :
    Calls Tryd.prog 26 #[vp0, vp1] w (Ret fun v w' => ∃ (v1 : Value), v = v1 ∧ Hp Z ρ (OwnSl 3 v1 r :: L) w') := by
  refine enter (N := 40) Tryd.func26 rfl rfl [(0, vp0), (1, vp1)] rfl (argsIn_mem ⟨rfl, rfl, trivial⟩) fun a hE => ?_
  unfold m_fingerprint_Shared at hm
  refine k_seq ?_
  refine k_region ?_
  refine s_val (wk0 rfl) rfl rfl hE hp (v := (.slice none 0 0)) (ex_asn rfl hE rfl) ?_
  intro a hE
  refine s_nil ?_
  refine k_seq ?_
  refine k_region ?_
  refine s_mkmap (κ := Int) (β := Bool) (wk0 rfl) rfl rfl hE hp rfl ?_
  intro a w b1 hE hp
  have hp : Hp Z ρ (MapA b1 ([] : List (Int × Bool)) :: L) w := hp
  refine s_mkmap (κ := Int) (β := Bool) (wk0 rfl) rfl rfl hE hp rfl ?_
  intro a w b2 hE hp
  have hp : Hp Z ρ (MapA b2 ([] : List (Int × Bool)) :: MapA b1 ([] : List (Int × Bool)) :: L) w := hp
  refine s_val (wk0 rfl) rfl rfl hE hp (v := (.map (some b1))) (ex_asn rfl hE rfl) ?_
  intro a hE
  refine s_val (wk0 rfl) rfl rfl hE hp (v := (.map (some b2))) (ex_asn rfl hE rfl) ?_
  intro a hE
  refine s_nil ?_
  refine k_seq ?_
  refine k_seq ?_
  refine k_region ?_
  refine s_val (wk0 rfl) rfl rfl hE hp (v := vp0) (ex_move rfl hE rfl) ?_
  intro a hE
  refine s_val (wk0 rfl) rfl rfl hE hp (v := (.int .i64 (p0.length : Int))) (ex_len rfl hE rfl (RoSl.len hp0 slty28)) ?_
  intro a hE
  refine s_val (wk0 rfl) rfl rfl hE hp (v := (.int .i64 0)) (ex_move rfl hE rfl) ?_
  intro a hE
  refine s_nil ?_
  obtain ⟨b3, hb1, hm⟩ := bnd hm
  refine k_block (fun a w => Env 40 [(1, vp1), (5, (.map (some b1))), (6, (.map (some b2)))] a ∧ Hp Z ρ (MapA b2 ([] : List (Int × Bool)) :: MapA b1 (b3 : List (Int × Bool)) :: L) w) ?_ ?_
  · refine k_loop hb1 (fun s a w => Env 40 [(1, vp1), (5, (.map (some b1))), (6, (.map (some b2))), (13, vp0), (14, (.int .i64 (p0.length : Int))), (15, (.int .i64 s.1))] a ∧ Hp Z ρ (MapA b2 ([] : List (Int × Bool)) :: MapA b1 (s.2 : List (Int × Bool)) :: L) w) ?_ ?_
    · exact ⟨hE.cut ⟨rfl, rfl, rfl, rfl, rfl, rfl, trivial⟩, hp⟩
    · rintro ⟨lp1_0, lp1_1⟩ st a w ⟨hE, hp⟩ hl1
      have hE : Env 40 [(1, vp1), (5, (.map (some b1))), (6, (.map (some b2))), (13, vp0), (14, (.int .i64 (p0.length : Int))), (15, (.int .i64 lp1_0))] a := hE
      have hp : Hp Z ρ (MapA b2 ([] : List (Int × Bool)) :: MapA b1 (lp1_1 : List (Int × Bool)) :: L) w := hp
      replace hl1 : m_fingerprint_Shared_lp1 p0 lp1_0 lp1_1 = some st := hl1
      unfold m_fingerprint_Shared_lp1 at hl1
      refine k_seq ?_
      refine k_region ?_
      refine s_val (wk0 rfl) rfl rfl hE hp (v := (.bool (decide (lp1_0 < (p0.length : Int))))) (ex_lss rfl hE rfl rfl) ?_
      intro a hE
      refine s_nil ?_
      refine k_seq ?_
      refine k_if hE rfl (fun hb2 => ?_) (fun hb2 => ?_)
      · replace hl1 := (it hb2).symm.trans hl1
        refine k_skip ?_
        refine k_seq ?_
        refine k_plain ?_
        refine k_seq ?_
        refine k_region ?_
        obtain ⟨x1, ex1, hl1⟩ := bnd hl1
        obtain ⟨b4, b4o, b4c, b4r, b4k, b4f⟩ := RoSl.at hp0 slty28 ex1
        obtain rfl : b4c = Enc.enc x1 := b4k
        have b4f : AtP ρ b4 b4o [(.int .i64 x1.hash), (.int .i64 x1.at_)] := b4f
        refine s_val (wk0 rfl) rfl rfl hE hp (v := (.pointer (some ⟨b4, b4o, none⟩))) (ex_index rfl hE rfl rfl b4r) ?_
        intro a hE
        refine s_val (wk0 rfl) rfl rfl hE hp (v := (.agg #[(.int .i64 x1.hash), (.int .i64 x1.at_)])) (ex_load rfl hE rfl (fun w hw => run_ldN (cs := [(.int .i64 x1.hash), (.int .i64 x1.at_)]) varty48 (fun j u hj => cell_of hw.le (b4f j u hj)))) ?_
        intro a hE
        refine s_new (wk0 rfl) rfl rfl hE hp rfl [(.int .i64 0), (.int .i64 0)] (fun w => by simp [Instr.alloc, go_sem] <;> rfl) ?_
        intro a w b5 hE hp
        have hp : Hp Z ρ (Pt b5 (.cells #[(.int .i64 0), (.int .i64 0)] 48 (0, 0)) :: MapA b2 ([] : List (Int × Bool)) :: MapA b1 (lp1_1 : List (Int × Bool)) :: L) w := hp
        refine s_store (wk0 rfl) rfl hE hp rfl rfl rfl 0 rfl varty48.size_ rfl (allOne_mem ⟨rfl, rfl, trivial⟩) [(.int .i64 x1.hash), (.int .i64 x1.at_)] rfl ?_
        intro w hp
        have hp : Hp Z ρ (Pt b5 (.cells #[(.int .i64 x1.hash), (.int .i64 x1.at_)] 48 (0, 0)) :: MapA b2 ([] : List (Int × Bool)) :: MapA b1 (lp1_1 : List (Int × Bool)) :: L) w := hp
        refine s_nil ?_
        refine k_region ?_
        refine s_val (wk0 rfl) rfl rfl hE hp (v := (.map (some b1))) (ex_move rfl hE rfl) ?_
        intro a hE
        refine s_val (wk0 rfl) rfl rfl hE hp (v := (.pointer (some ⟨b5, 0, none⟩))) (ex_field rfl hE rfl (fldty48_0 _ _)) ?_
        intro a hE
        refine s_val (wk0 rfl) rfl rfl hE hp (v := (.int .i64 x1.hash)) (ex_load rfl hE rfl (fun w hw => run_ld1 varty3 (Hp.c 0 rfl 0 rfl w hw))) ?_
        intro a hE
        refine s_mput kt3 mapty64 (wk0 rfl) rfl hE hp rfl 2 (k := x1.hash) (v := true) rfl rfl rfl rfl ?_
        intro w hp
        have hp : Hp Z ρ (Pt b5 (.cells #[(.int .i64 x1.hash), (.int .i64 x1.at_)] 48 (0, 0)) :: MapA b2 ([] : List (Int × Bool)) :: MapA b1 (mput lp1_1 x1.hash true : List (Int × Bool)) :: L) w := hp
        refine s_nil ?_
        refine k_region ?_
        obtain ⟨x2, ex2, hl1⟩ := bnd hl1
        refine s_val (wk0 rfl) rfl rfl hE hp (v := (.int .i64 x2)) (ex_add rfl hE rfl rfl (inK_some ex2)) ?_
        intro a hE
        refine s_val (wk0 rfl) rfl rfl hE hp (v := (.int .i64 x2)) (ex_move rfl hE rfl) ?_
        intro a hE
        refine s_nil ?_
        have hE := hE.cut (E' := [(1, vp1), (5, (.map (some b1))), (6, (.map (some b2))), (13, vp0), (14, (.int .i64 (p0.length : Int))), (15, (.int .i64 x2))]) ⟨rfl, rfl, rfl, rfl, rfl, rfl, trivial⟩
        exact ⟨_, (Option.some.inj hl1).symm, hE.cut ⟨rfl, rfl, rfl, rfl, rfl, rfl, trivial⟩, (hp.drop)⟩
      · replace hl1 := (ie hb2).symm.trans hl1
        refine k_exit ?_
        refine ⟨_, (Option.some.inj hl1).symm, fun hbb => ?_⟩
        subst hbb
        exact ⟨hE.cut ⟨rfl, rfl, rfl, trivial⟩, hp⟩
  · rintro a w ⟨hE, hp⟩
    refine k_seq ?_
    refine k_seq ?_
    refine k_region ?_
    refine s_val (wk0 rfl) rfl rfl hE hp (v := vp1) (ex_move rfl hE rfl) ?_
    intro a hE
    refine s_val (wk0 rfl) rfl rfl hE hp (v := (.int .i64 (p1.length : Int))) (ex_len rfl hE rfl (RoSl.len hp1 slty28)) ?_
    intro a hE
    refine s_val (wk0 rfl) rfl rfl hE hp (v := (.int .i64 0)) (ex_move rfl hE rfl) ?_
    intro a hE
    refine s_nil ?_
    obtain ⟨b6, hb3, hm⟩ := bnd hm
    refine k_block (fun a w => Env 40 [(6, (.map (some b2)))] a ∧ Hp Z ρ (MapA b2 (b6 : List (Int × Bool)) :: MapA b1 (b3 : List (Int × Bool)) :: L) w) ?_ ?_
    · refine k_loop hb3 (fun s a w => Env 40 [(5, (.map (some b1))), (6, (.map (some b2))), (23, vp1), (24, (.int .i64 (p1.length : Int))), (25, (.int .i64 s.1))] a ∧ Hp Z ρ (MapA b2 (s.2 : List (Int × Bool)) :: MapA b1 (b3 : List (Int × Bool)) :: L) w) ?_ ?_
      · exact ⟨hE.cut ⟨rfl, rfl, rfl, rfl, rfl, trivial⟩, hp⟩
      · rintro ⟨lp2_0, lp2_1⟩ st a w ⟨hE, hp⟩ hl2
        have hE : Env 40 [(5, (.map (some b1))), (6, (.map (some b2))), (23, vp1), (24, (.int .i64 (p1.length : Int))), (25, (.int .i64 lp2_0))] a := hE
        have hp : Hp Z ρ (MapA b2 (lp2_1 : List (Int × Bool)) :: MapA b1 (b3 : List (Int × Bool)) :: L) w := hp
        replace hl2 : m_fingerprint_Shared_lp2 p1 b3 lp2_0 lp2_1 = some st := hl2
        unfold m_fingerprint_Shared_lp2 at hl2
        refine k_seq ?_
        refine k_region ?_
        refine s_val (wk0 rfl) rfl rfl hE hp (v := (.bool (decide (lp2_0 < (p1.length : Int))))) (ex_lss rfl hE rfl rfl) ?_
        intro a hE
        refine s_nil ?_
        have hE := hE.cut (E' := [(5, (.map (some b1))), (6, (.map (some b2))), (23, vp1), (24, (.int .i64 (p1.length : Int))), (25, (.int .i64 lp2_0)), (26, (.bool (decide (lp2_0 < (p1.length : Int)))))]) ⟨rfl, rfl, rfl, rfl, rfl, rfl, trivial⟩
        refine k_seq ?_
        refine k_if hE rfl (fun hb4 => ?_) (fun hb4 => ?_)
        · replace hl2 := (it hb4).symm.trans hl2
          refine k_skip ?_
          refine k_seq ?_
          refine k_plain ?_
          refine k_seq ?_
          refine k_region ?_
          obtain ⟨x3, ex3, hl2⟩ := bnd hl2
          obtain ⟨b7, b7o, b7c, b7r, b7k, b7f⟩ := RoSl.at hp1 slty28 ex3
          obtain rfl : b7c = Enc.enc x3 := b7k
          have b7f : AtP ρ b7 b7o [(.int .i64 x3.hash), (.int .i64 x3.at_)] := b7f
          refine s_val (wk0 rfl) rfl rfl hE hp (v := (.pointer (some ⟨b7, b7o, none⟩))) (ex_index rfl hE rfl rfl b7r) ?_
          intro a hE
          refine s_val (wk0 rfl) rfl rfl hE hp (v := (.agg #[(.int .i64 x3.hash), (.int .i64 x3.at_)])) (ex_load rfl hE rfl (fun w hw => run_ldN (cs := [(.int .i64 x3.hash), (.int .i64 x3.at_)]) varty48 (fun j u hj => cell_of hw.le (b7f j u hj)))) ?_
          intro a hE
          refine s_new (wk0 rfl) rfl rfl hE hp rfl [(.int .i64 0), (.int .i64 0)] (fun w => by simp [Instr.alloc, go_sem] <;> rfl) ?_
          intro a w b8 hE hp
          have hp : Hp Z ρ (Pt b8 (.cells #[(.int .i64 0), (.int .i64 0)] 48 (0, 0)) :: MapA b2 (lp2_1 : List (Int × Bool)) :: MapA b1 (b3 : List (Int × Bool)) :: L) w := hp
          refine s_store (wk0 rfl) rfl hE hp rfl rfl rfl 0 rfl varty48.size_ rfl (allOne_mem ⟨rfl, rfl, trivial⟩) [(.int .i64 x3.hash), (.int .i64 x3.at_)] rfl ?_
          intro w hp
          have hp : Hp Z ρ (Pt b8 (.cells #[(.int .i64 x3.hash), (.int .i64 x3.at_)] 48 (0, 0)) :: MapA b2 (lp2_1 : List (Int × Bool)) :: MapA b1 (b3 : List (Int × Bool)) :: L) w := hp
          refine s_nil ?_
          refine k_seq ?_
          refine k_region ?_
          refine s_val (wk0 rfl) rfl rfl hE hp (v := (.map (some b1))) (ex_move rfl hE rfl) ?_
          intro a hE
          refine s_val (wk0 rfl) rfl rfl hE hp (v := (.pointer (some ⟨b8, 0, none⟩))) (ex_field rfl hE rfl (fldty48_0 _ _)) ?_
          intro a hE
          refine s_val (wk0 rfl) rfl rfl hE hp (v := (.int .i64 x3.hash)) (ex_load rfl hE rfl (fun w hw => run_ld1 varty3 (Hp.c 0 rfl 0 rfl w hw))) ?_
          intro a hE
          refine s_val (wk0 rfl) rfl rfl hE hp (v := (.bool ((mget (b3 : List (Int × Bool)) x3.hash).getD false))) (ex_mget0 (zd := false) kt3 mapty64 zero4 rfl hE 2 (k := x3.hash) rfl rfl rfl) ?_
          intro a hE
          refine s_nil ?_
          refine k_if hE rfl (fun hb5 => ?_) (fun hb5 => ?_)
          · replace hl2 := (it hb5).symm.trans hl2
            refine k_region ?_
            refine s_val (wk0 rfl) rfl rfl hE hp (v := (.map (some b2))) (ex_move rfl hE rfl) ?_
            intro a hE
            refine s_val (wk0 rfl) rfl rfl hE hp (v := (.pointer (some ⟨b8, 0, none⟩))) (ex_field rfl hE rfl (fldty48_0 _ _)) ?_
            intro a hE
            refine s_val (wk0 rfl) rfl rfl hE hp (v := (.int .i64 x3.hash)) (ex_load rfl hE rfl (fun w hw => run_ld1 varty3 (Hp.c 0 rfl 0 rfl w hw))) ?_
            intro a hE
            refine s_mput kt3 mapty64 (wk0 rfl) rfl hE hp rfl 1 (k := x3.hash) (v := true) rfl rfl rfl rfl ?_
            intro w hp
            have hp : Hp Z ρ (Pt b8 (.cells #[(.int .i64 x3.hash), (.int .i64 x3.at_)] 48 (0, 0)) :: MapA b2 (mput lp2_1 x3.hash true : List (Int × Bool)) :: MapA b1 (b3 : List (Int × Bool)) :: L) w := hp
            refine s_nil ?_
            refine k_region ?_
            obtain ⟨x4, ex4, hl2⟩ := bnd hl2
            refine s_val (wk0 rfl) rfl rfl hE hp (v := (.int .i64 x4)) (ex_add rfl hE rfl rfl (inK_some ex4)) ?_
            intro a hE
            refine s_val (wk0 rfl) rfl rfl hE hp (v := (.int .i64 x4)) (ex_move rfl hE rfl) ?_
            intro a hE
            refine s_nil ?_
            exact ⟨_, (Option.some.inj hl2).symm, hE.cut ⟨rfl, rfl, rfl, rfl, rfl, trivial⟩, (hp.drop)⟩
          · replace hl2 := (ie hb5).symm.trans hl2
            refine k_skip ?_
            refine k_region ?_
            obtain ⟨x5, ex5, hl2⟩ := bnd hl2
            refine s_val (wk0 rfl) rfl rfl hE hp (v := (.int .i64 x5)) (ex_add rfl hE rfl rfl (inK_some ex5)) ?_
            intro a hE
            refine s_val (wk0 rfl) rfl rfl hE hp (v := (.int .i64 x5)) (ex_move rfl hE rfl) ?_
            intro a hE
            refine s_nil ?_
            exact ⟨_, (Option.some.inj hl2).symm, hE.cut ⟨rfl, rfl, rfl, rfl, rfl, trivial⟩, (hp.drop)⟩
        · replace hl2 := (ie hb4).symm.trans hl2
          refine k_exit ?_
          refine ⟨_, (Option.some.inj hl2).symm, fun hbb => ?_⟩
          subst hbb
          exact ⟨hE.cut ⟨rfl, trivial⟩, hp⟩
    · rintro a w ⟨hE, hp⟩
      refine k_seq ?_
      refine k_region ?_
      refine s_val (wk0 rfl) rfl rfl hE hp (v := (.map (some b2))) (ex_move rfl hE rfl) ?_
      intro a hE
      refine s_call (wk0 rfl) rfl rfl hE rfl [(.map (some b2))] ⟨rfl, trivial⟩ ent40 (c_keys_ib b2 hp) Ret.ret ?_
      intro v a w hR hE
      obtain ⟨b9, rfl, hp⟩ := Ret.of hR
      have hp : Hp Z ρ (Pt b9 (.cells #[(.map (some b2))] 64 (0, 0)) :: MapA b2 (b6 : List (Int × Bool)) :: MapA b1 (b3 : List (Int × Bool)) :: L) w := hp
      obtain ⟨x6, ex6, hm⟩ := bnd hm
      refine s_call (wk0 rfl) rfl rfl hE rfl [(.func (.func 48) #[] #[.pointer (some ⟨b9, 0, none⟩)])] ⟨rfl, trivial⟩ ent39 (c_sorted_ib b6 ((hp.get 1 rfl).get 1 rfl) x6 ex6) Ret.ret ?_
      intro v1 a w hR hE
      obtain ⟨u, hu, hp⟩ := Ret.of hR
      rw [← hu] at hp
      have hp : Hp Z ρ (OwnSl 3 v1 x6 :: Pt b9 (.cells #[(.map (some b2))] 64 (0, 0)) :: MapA b2 (b6 : List (Int × Bool)) :: MapA b1 (b3 : List (Int × Bool)) :: L) w := hp
      refine s_val (wk0 rfl) rfl rfl hE hp (v := v1) (ex_asn rfl hE rfl) ?_
      intro a hE
      refine s_nil ?_
      refine k_ret ?_
      obtain rfl := Option.some.inj hm
      exact ret1 hE rfl rfl ⟨_, rfl, _, rfl, ((((((hp.get 3 rfl).drop).get 2 rfl).drop).get 1 rfl).drop)⟩
end Go.Proofs.YtlnhijgieblmgaaDoor
