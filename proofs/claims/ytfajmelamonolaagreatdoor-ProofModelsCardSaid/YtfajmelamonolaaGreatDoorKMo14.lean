/- The engine of proofs: clauses are added, and what follows is told. -/
import Derived.Test.YtfajmelamonolaaGreatDoorKMo13
import Derived.Test.YtfajmelamonolaaGreatDoorKMo4
import Derived.Test.YtfajmelamonolaaGreatDoorKMo3
import Derived.Lib.SplitLaws
import Derived.Lib.IndexLaws
import Derived.Lib.CutLaws
set_option linter.unusedVariables false
set_option linter.unusedSimpArgs false
namespace Go.Proofs.YtfajmelamonolaaGreatDoor
open Go.RowKit
def ClOk (n : Int) (q : List Int) : Prop := (∀ y ∈ q, y ≠ 0 ∧ vr y ≤ n) ∧ q.Nodup
theorem clF_nodup {v : Int} : ∀ {t : Int} {c : List Int}, 0 ≤ t → clF v t c = true → c.Nodup
  | _, [], _, _ => List.nodup_nil
  | t, x :: c, ht, hc => by
    unfold clF at hc
    simp only [Bool.and_eq_true, decide_eq_true_eq] at hc
    refine List.nodup_cons.2 ⟨fun hx => ?_, clF_nodup (vr_nn x) hc.2⟩
    have := (clF_mem (vr_nn x) hc.2 x hx).2.2
    omega
theorem clF_ok {n : Int} {q : List Int} (h : clF n 0 q = true) : ClOk n q := by
  refine ⟨fun y hy => ?_, clF_nodup (Int.le_refl 0) h⟩
  have := clF_mem (Int.le_refl 0) h y hy
  exact ⟨fun e => by rw [e] at this; simp [vr] at this, vr_le.2 ⟨this.1, this.2.1⟩⟩
theorem ClOk.len {n : Int} {q : List Int} (h : ClOk n q) (hn : 0 ≤ n ∧ n ≤ 65536) : q.length ≤ 131074 := by
  have h1 := nodup_lt 131074 (q.map ixL) (by
    unfold List.Nodup
    rw [List.pairwise_map]
    exact List.Pairwise.imp (fun {a b} hne he => hne (ixL_inj he)) h.2) (fun x hx => by
    obtain ⟨y, hy, rfl⟩ := List.mem_map.1 hx
    have := ixL_bnd (h.1 y hy).2
    omega)
  rwa [List.length_map] at h1
structure EngB (n : Int) (F : List (List Int)) (e : PEng) : Prop where
  len : e.watches.2.length ≤ F.length
  st : (e.fails = true ∧ Fails F []) ∨ (e.fails = false ∧ e.head = (e.trail.length : Int) ∧ Eng n F [] e.trail.length e.trail.length (fun _ w => -w ∈ e.trail) e.value e.trail e.watches.1 e.watches.2)
section
variable {n : Int} {F : List (List Int)} {S : List Int} {np nc : Nat} {D : Nat → Int → Prop} {val trail : List Int} {ws : List (List Nat)} {cl : List (List Int)}
theorem open_loop (h : Eng n F S np nc D val trail ws cl) {q : List Int} (hq : ClOk n q) (hn : 0 ≤ n ∧ n ≤ 65536) {e : PEng} (he : e.value = val) :
    ∃ b, loopM (fun s : Int × List Int => m_proof_engine_add_lp1 e q s.1 s.2) (0, []) = some b ∧
      (match b with | .ret r => r = e ∧ ∃ y ∈ q, y ∈ trail | .brk c => c = q.filter (fun y => decide (gv val y = some 0)) ∧ ∀ y ∈ q, y ∉ trail) := by
  have hql := hq.len hn
  obtain ⟨tr, hd, W, fl, rfl⟩ : ∃ tr hd W fl, e = PEng.mk val tr hd W fl := ⟨e.trail, e.head, e.watches, e.fails, by rw [← he]⟩
  refine loopN (body := fun s : Int × List Int => m_proof_engine_add_lp1 (PEng.mk val tr hd W fl) q s.1 s.2) q.length (fun k t => ((k : Int), t))
    (fun k c => c = (q.take k).filter (fun y => decide (gv val y = some 0)) ∧ ∀ y ∈ q.take k, y ∉ trail) _ (t0 := []) rfl ⟨by simp, by simp⟩ ?_ ?_
  · rintro k c hk ⟨h1, h2⟩
    obtain ⟨y, hy⟩ := get_of_lt hk
    obtain ⟨r, hr, hcase⟩ := of_ok h (hq.1 y (mem_get hy)).1 (hq.1 y (mem_get hy)).2 hn.2 (tr := tr) (hd := hd) (W := W) (fl := fl)
    have htk := take_snoc_of hy
    have hup := inK_up hk (show q.length ≤ 9223372036854775807 by omega)
    simp only [m_proof_engine_add_lp1, ltB hk, if_true, idx_nat hy, bsm, hr]
    rcases hcase with ⟨rfl, hm⟩ | ⟨rfl, hm⟩ | ⟨rfl, hz, hm, hm'⟩
    · exact Or.inr ⟨.ret (PEng.mk val tr hd W fl), by rw [if_pos (by decide)], rfl, y, mem_get hy, hm⟩
    · rw [if_neg (by decide), if_neg (by decide), hup, bsm]
      refine Or.inl ⟨c, rfl, ?_, fun z hz => ?_⟩
      · have hg : ¬ gv val y = some 0 := fun e => by
          have := (h.tr (-y)).1 hm
          rw [gv_neg, e] at this
          exact this.1 (Option.some.inj this.2).symm
        rw [htk, List.filter_append, ← h1]
        simp [hg]
      · rw [htk, List.mem_append, List.mem_singleton] at hz
        rcases hz with hz | rfl
        · exact h2 z hz
        · exact fun hp => h.opp hp hm
    · have hcl : c.length ≤ q.length := by rw [h1]; exact Nat.le_trans (List.length_filter_le _ _) (by rw [List.length_take]; omega)
      rw [if_neg (by decide), if_pos (by decide), app_ok (by simp; omega), bsm, hup, bsm]
      refine Or.inl ⟨c ++ [y], rfl, ?_, fun z hz' => ?_⟩
      · rw [htk, List.filter_append, ← h1]
        simp [hz]
      · rw [htk, List.mem_append, List.mem_singleton] at hz'
        rcases hz' with hz' | rfl
        · exact h2 z hz'
        · exact hm
  · rintro c ⟨h1, h2⟩
    rw [List.take_length] at h1 h2
    refine ⟨.brk c, ?_, h1, h2⟩
    simp only [m_proof_engine_add_lp1, ltB', if_false, Bool.false_eq_true]
theorem Eng.ids (h : Eng n F S np nc D val trail ws cl) : idsOk cl.length ws = true := by
  unfold idsOk
  simp only [List.all_eq_true, decide_eq_true_eq]
  intro ids hids id hid
  obtain ⟨r, hr⟩ := List.getElem?_of_mem hids
  obtain ⟨c, _, _, hc, _⟩ := ((h.row r ids hr).2 id).1 hid
  exact len_lt hc
theorem lp2_round {p0 : PEng} {x10 : List Int} {k : Nat} {l : Int} {W : List (List Nat) × List (List Int)} {R : List Nat} (hk : x10[k]? = some l) (hkl : x10.length ≤ 1000) (hl : -1099511627776 ≤ l ∧ l ≤ 1099511627776) (hR : W.1[ixL l]? = some R) (hRl : R.length ≤ 1000000000) :
    m_proof_engine_add_lp2 p0 x10 (k : Int) W = some (.next (((k + 1 : Nat) : Int), (W.1.set (ixL l) (R ++ [p0.watches.2.length]), W.2))) := by
  have hlt := len_lt hk
  unfold m_proof_engine_add_lp2
  rw [if_pos (ltB hlt), idx_nat hk, bsm, index_ok hl, bsm, bsm, idx_nat hR, bsm, app_ok (by simp; omega), bsm, guardEq_self, bsm, inK_up hlt (by omega), bsm]
  rfl
theorem add_ok (hn : 0 ≤ n ∧ n ≤ 65536) (hF : F.length ≤ 1000000) {e : PEng} (he : EngB n F e) {q : List Int} (hq : ClOk n q) : ∃ e', m_proof_engine_add e q = some e' ∧ EngB n (F ++ [q]) e' := by
  have hFm : ∀ c ∈ F, c ∈ F ++ [q] := fun c hc => List.mem_append_left _ hc
  have hqm : q ∈ F ++ [q] := List.mem_append_right _ (List.mem_singleton.2 rfl)
  have hlen := he.len
  unfold m_proof_engine_add
  rcases he.st with ⟨hf, hfail⟩ | ⟨hf, hh, hE⟩
  · rw [if_pos hf]
    exact ⟨e, rfl, by rw [List.length_append]; omega, Or.inl ⟨hf, hfail.mono hFm (fun _ h => h)⟩⟩
  · rw [if_neg (by rw [hf]; decide)]
    have e3 : e.trail.take e.trail.length = e.trail := List.take_length
    obtain ⟨b, hb, hp⟩ := open_loop hE hq hn (e := e) rfl
    rw [hb, bsm]
    cases b with
    | ret r =>
      obtain ⟨rfl, y, hy, hm⟩ := hp
      exact ⟨r, rfl, by rw [List.length_append]; omega, Or.inr ⟨hf, hh, hE.addSat hy (by rw [e3]; exact hm)⟩⟩
    | brk c =>
      obtain ⟨hc, hno⟩ := hp
      have hcm : ∀ y, y ∈ c ↔ y ∈ q ∧ gv e.value y = some 0 := fun y => by rw [hc, List.mem_filter]; simp
      have hex : ∀ y ∈ q, y ∉ c → -y ∈ e.trail := fun y hy hn2 => by
        rcases hE.cases (hq.1 y hy).1 (hq.1 y hy).2 with ⟨_, h1⟩ | ⟨_, h1⟩ | ⟨h1, _⟩
        · exact absurd h1 (hno y hy)
        · exact h1
        · exact absurd ((hcm y).2 ⟨hy, h1⟩) hn2
      have hcn : c.Nodup := by rw [hc]; exact hq.2.sublist List.filter_sublist
      have hopen : ∀ y ∈ c, -y ∉ e.trail := fun y hy hm => by
        have h1 := ((hcm y).1 hy).2
        have h2 := (hE.tr (-y)).1 hm
        rw [gv_neg, h1] at h2
        exact h2.1 (Option.some.inj h2.2).symm
      have hcl : c.length ≤ 131074 := by
        have := hq.len hn
        have : c.length ≤ q.length := by rw [hc]; exact List.length_filter_le _ _
        omega
      simp only
      match c, hcm, hex, hcn, hopen, hcl with
      | [], hcm, hex, _, _, _ =>
        rw [if_pos (by simp)]
        refine ⟨_, rfl, by rw [List.length_append]; show e.watches.2.length ≤ _; omega, Or.inl ⟨rfl, Or.inr ⟨q, hqm, fun y hy => ?_⟩⟩⟩
        exact (hE.up (hex y hy (by simp))).mono hFm (fun _ h => h)
      | [x], hcm, hex, _, _, _ =>
        rw [if_neg (by simp), if_pos (by simp), show idx [x] 0 = some x from rfl, bsm]
        obtain ⟨hx1, hx2⟩ := (hcm x).1 (by simp)
        obtain ⟨hx0, hxn⟩ := hq.1 x hx1
        have hhold := hold_ok hE hxn hn.2 hn.1 (hd := e.head) (W := e.watches) (fl := e.fails)
        rw [show (PEng.mk e.value e.trail e.head e.watches e.fails) = e from rfl] at hhold
        rw [hhold, bsm]
        have hU := hE.addUnit hx1 hx0 hxn hx2 (fun y hy hne => hex y hy (by simp [hne]))
        have htk : (e.trail ++ [x]).take e.trail.length = e.trail := List.take_left' rfl
        have hU2 : Eng n (F ++ [q]) [] e.trail.length (e.trail.length + 1) (fun _ w => -w ∈ (e.trail ++ [x]).take e.trail.length) (e.value.set (vr x).toNat x) (e.trail ++ [x]) e.watches.1 e.watches.2 := by rw [htk]; exact hU
        obtain ⟨ok, val', ext, W', h', hpr, hWl, hres⟩ := propagate_ok hn (by omega) hU2 (by simp) (fl := e.fails)
        simp only
        rw [hh, hpr, bsm]
        refine ⟨_, rfl, by rw [List.length_append]; show W'.2.length ≤ _; omega, ?_⟩
        rcases hres with ⟨rfl, rfl, hE'⟩ | ⟨rfl, hfail, _⟩
        · refine Or.inr ⟨rfl, rfl, hE'.rebase (fun id w hw => hw)⟩
        · exact Or.inl ⟨rfl, hfail⟩
      | a :: b :: c', hcm, hex, hcn, hopen, hcl =>
        rw [if_neg (by simp; omega), if_neg (by simp; omega)]
        have haq := (hcm a).1 (by simp)
        have hbq := (hcm b).1 (by simp)
        have hab : a ≠ b := fun e => by subst e; have := nodup_ix hcn (i := 0) (j := 1) rfl rfl; omega
        obtain ⟨Ra, hRa⟩ := hE.rowAt (hq.1 a haq.1).2
        obtain ⟨Rb, hRb⟩ := hE.rowAt (hq.1 b hbq.1).2
        have hRal := hE.rowLen hRa
        have hRbl := hE.rowLen hRb
        have hva := vr_le.1 (hq.1 a haq.1).2
        have hvb := vr_le.1 (hq.1 b hbq.1).2
        have hix : ixL b ≠ ixL a := fun e => hab (ixL_inj e).symm
        have e1 : arPut e.watches.2 e.watches.1 (a :: b :: c') = some (e.watches.2 ++ [a :: b :: c']) := by unfold arPut; rw [if_pos hE.ids]
        have e2 : sub (a :: b :: c') 0 2 = some [a, b] := by rw [sub_ok (by decide) (by decide) (by simp; omega)]; rfl
        rw [e1, bsm, e2, bsm]
        have r0 := lp2_round (p0 := e) (x10 := [a, b]) (k := 0) (W := (e.watches.1, e.watches.2 ++ [a :: b :: c'])) rfl (by simp) (by omega) hRa (by omega)
        have r1 := lp2_round (p0 := e) (x10 := [a, b]) (k := 1) (W := (e.watches.1.set (ixL a) (Ra ++ [e.watches.2.length]), e.watches.2 ++ [a :: b :: c'])) rfl (by simp) (by omega) (by show (e.watches.1.set _ _)[ixL b]? = _; rw [get_set_ne hix]; exact hRb) (by omega)
        rw [loopM_next r0, loopM_next r1, loopM_done (b := ((e.watches.1.set (ixL a) (Ra ++ [e.watches.2.length])).set (ixL b) (Rb ++ [e.watches.2.length]), e.watches.2 ++ [a :: b :: c'])) (by simp [m_proof_engine_add_lp2]), bsm]
        have hset : (e.watches.2 ++ [a :: b :: c']).set e.watches.2.length (a :: b :: c') = e.watches.2 ++ [a :: b :: c'] := set_self (by simp)
        simp only [hset]
        refine ⟨_, rfl, by simp; omega, Or.inr ⟨hf, hh, ?_⟩⟩
        exact hE.addCl (q := q) (d := a :: b :: c') (a := a) (b := b) rfl rfl hcn (fun y hy => hq.1 y ((hcm y).1 hy).1) (fun y hy => ((hcm y).1 hy).1) (fun y hy hm => by rw [e3]; exact hex y hy hm)
          (hopen a (by simp)) (hopen b (by simp)) (fun i w hw => hw) hRa hRb
end
theorem newEngine_ok {f : Formula} (hn : 0 ≤ f.vars ∧ f.vars ≤ 65536) (hF : f.clauses.length ≤ 1000000) (hq : ∀ c ∈ f.clauses, ClOk f.vars c) : ∃ e, m_proof_newEngine f = some e ∧ EngB f.vars f.clauses e := by
  unfold m_proof_newEngine
  rw [inK_eq ⟨by omega, by omega⟩, bsm, mkc_ok ⟨by omega, by omega, by omega⟩, bsm, inK_eq ⟨by omega, by omega⟩, bsm, inK_eq ⟨by omega, by omega⟩, bsm, mkc_ok ⟨by omega, by omega, by omega⟩, bsm]
  obtain ⟨b, hb, hp⟩ := loopN (body := fun s : Int × List Int × Int × Bool × (List (List Nat) × List (List Int)) × List Int => m_proof_newEngine_lp1 f s.1 s.2.1 s.2.2.1 s.2.2.2.1 s.2.2.2.2.1 s.2.2.2.2.2) (s0 := (0, [], 0, false, (List.replicate (2 * f.vars + 2).toNat [], []), List.replicate (f.vars + 1).toNat 0)) f.clauses.length
    (fun k (e : PEng) => ((k : Int), e.trail, e.head, e.fails, e.watches, e.value)) (fun k e => EngB f.vars (f.clauses.take k) e) (fun b => EngB f.vars f.clauses (PEng.mk b.2.2.2.2 b.1 b.2.1 b.2.2.2.1 b.2.2.1)) (t0 := PEng.mk (List.replicate (f.vars + 1).toNat 0) [] 0 (List.replicate (2 * f.vars + 2).toNat [], []) false) rfl
    ⟨by simp, Or.inr ⟨rfl, rfl, by rw [List.take_zero]; exact Eng.start hn.1⟩⟩ (by
      intro k e hk he
      obtain ⟨c, hc⟩ := get_of_lt hk
      obtain ⟨e', h1, h2⟩ := add_ok hn (by rw [List.length_take]; omega) he (hq c (mem_get hc))
      rw [← take_snoc_of hc] at h2
      refine Or.inl ⟨e', ?_, h2⟩
      simp only [m_proof_newEngine_lp1, ltB hk, if_true, idx_nat hc, bsm]
      rw [show (PEng.mk e.value e.trail e.head e.watches e.fails) = e from rfl, h1, bsm, inK_up hk (by omega), bsm]) (by
      intro e he
      rw [List.take_length] at he
      exact ⟨(e.trail, e.head, e.fails, e.watches, e.value), by simp only [m_proof_newEngine_lp1, ltB', if_false, Bool.false_eq_true], he⟩)
  rw [hb, bsm]
  exact ⟨_, rfl, hp⟩
end Go.Proofs.YtfajmelamonolaaGreatDoor

/- The checker of proofs: what follows, what is a proof, what is accepted. -/
set_option linter.unusedVariables false
set_option linter.unusedSimpArgs false
namespace Go.Proofs.YtfajmelamonolaaGreatDoor
open Go.RowKit
def negs (q : List Int) : List Int := q.map fun y => -y
theorem mem_negs {q : List Int} {y : Int} : -y ∈ negs q ↔ y ∈ q := by
  unfold negs
  rw [List.mem_map]
  exact ⟨fun ⟨z, hz, e⟩ => by rwa [show y = z by omega], fun h => ⟨y, h, rfl⟩⟩
theorem mem_negs' {q : List Int} {y : Int} (h : y ∈ negs q) : -y ∈ q := by
  rw [← mem_negs, Int.neg_neg]; exact h
theorem lits_of {n : Int} {F : List (List Int)} {q : List Int} (hn : 0 ≤ n ∧ n ≤ 65536) (hF : ∀ c ∈ F, ClOk n c) (hq : ClOk n q) : Lits n F (negs q) :=
  ⟨hn, fun c hc y hy => (hF c hc).1 y hy, fun y hy => by
    have h1 := hq.1 _ (mem_negs' hy)
    rw [vr_neg] at h1
    exact ⟨by omega, h1.2⟩, fun c hc => (hF c hc).2⟩
section
variable {n : Int} {F : List (List Int)}
theorem follows_loop (hn : 0 ≤ n ∧ n ≤ 65536) {e : PEng} {q : List Int} (hq : ClOk n q) (hE : Eng n F (negs q) e.trail.length e.trail.length (fun _ w => -w ∈ e.trail) e.value e.trail e.watches.1 e.watches.2) :
    ∃ b, loopM (fun s : Bool × Int × Int × Bool × List Int × List Int => m_proof_engine_follows_lp1 e q s.1 s.2.1 s.2.2.1 s.2.2.2.1 s.2.2.2.2.1 s.2.2.2.2.2) (true, 0, e.head, e.fails, e.value, e.trail) = some b ∧
      ∃ ok val ext, b = (ok, e.head, e.fails, val, e.trail ++ ext) ∧ Eng n F (negs q) e.trail.length e.trail.length (fun _ w => -w ∈ e.trail) val (e.trail ++ ext) e.watches.1 e.watches.2 ∧
        ((ok = true ∧ ∀ y ∈ q, -y ∈ e.trail ++ ext) ∨ (ok = false ∧ Fails F (negs q))) := by
  have hql := hq.len hn
  refine loopN (body := fun s : Bool × Int × Int × Bool × List Int × List Int => m_proof_engine_follows_lp1 e q s.1 s.2.1 s.2.2.1 s.2.2.2.1 s.2.2.2.2.1 s.2.2.2.2.2) q.length
    (fun k (t : List Int × List Int) => (true, (k : Int), e.head, e.fails, t.1, e.trail ++ t.2))
    (fun k t => Eng n F (negs q) e.trail.length e.trail.length (fun _ w => -w ∈ e.trail) t.1 (e.trail ++ t.2) e.watches.1 e.watches.2 ∧ ∀ j y, j < k → q[j]? = some y → -y ∈ e.trail ++ t.2) _ (t0 := (e.value, [])) (by simp) ⟨by simpa using hE, fun j y hj => by omega⟩ ?_ ?_
  · rintro k ⟨val, ext⟩ hk ⟨h, h2⟩
    simp only at h h2
    obtain ⟨y, hy⟩ := get_of_lt hk
    have hyq := hq.1 y (mem_get hy)
    have hyb := vr_le.1 hyq.2
    obtain ⟨r, hr, hcase⟩ := of_ok h hyq.1 hyq.2 hn.2 (tr := e.trail ++ ext) (hd := e.head) (W := e.watches) (fl := e.fails)
    have hup := inK_up hk (show q.length ≤ 9223372036854775807 by omega)
    simp only [m_proof_engine_follows_lp1, ltB hk, if_true, idx_nat hy, bsm, hr]
    have hs : UP F (negs q) (-y) := .start (mem_negs.2 (mem_get hy))
    rcases hcase with ⟨rfl, hm⟩ | ⟨rfl, hm⟩ | ⟨rfl, hz, hm, hm'⟩
    · exact Or.inr ⟨(false, e.head, e.fails, val, e.trail ++ ext), by rw [if_pos (by decide)], false, val, ext, rfl, h, Or.inr ⟨rfl, Or.inl ⟨y, h.up hm, hs⟩⟩⟩
    · rw [if_neg (by decide), if_neg (by decide), hup, bsm]
      refine Or.inl ⟨(val, ext), rfl, h, fun j z hj hz => ?_⟩
      by_cases ej : j = k
      · subst ej; rw [hy] at hz; exact Option.some.inj hz ▸ hm
      · exact h2 j z (by omega) hz
    · have hvn : vr (-y) ≤ n := by rw [vr_neg]; exact hyq.2
      have i1 : inK .i64 (0 - y) = some (-y) := inK_at (by omega) ⟨by omega, by omega⟩
      have hh := hold_ok h hvn hn.2 hn.1 (hd := e.head) (W := e.watches) (fl := e.fails)
      rw [if_neg (by decide), if_pos (by decide), i1, bsm, hh, bsm, hup, bsm]
      have h3 := h.hold (x := -y) (by omega) hvn (by rw [gv_neg]; exact hz) hs
      refine Or.inl ⟨(val.set (vr (-y)).toNat (-y), ext ++ [-y]), by simp, by simpa using h3, fun j z hj hz => ?_⟩
      by_cases ej : j = k
      · subst ej; rw [hy] at hz; rw [← Option.some.inj hz]; simp
      · have := h2 j z (by omega) hz
        rw [← List.append_assoc]; exact List.mem_append_left _ this
  · rintro ⟨val, ext⟩ ⟨h, h2⟩
    refine ⟨(true, e.head, e.fails, val, e.trail ++ ext), ?_, true, val, ext, rfl, h, Or.inl ⟨rfl, fun y hy => ?_⟩⟩
    · simp only [m_proof_engine_follows_lp1, ltB', if_false, Bool.false_eq_true]
    · obtain ⟨j, hj⟩ := List.getElem?_of_mem hy
      exact h2 j y (len_lt hj) hj
theorem clear_loop {val dr : List Int} (hd : ∀ x ∈ dr, vr x ≤ n ∧ x ≠ 0) (hn : n ≤ 65536) (hv : (val.length : Int) = n + 1) (hl : dr.length ≤ 1000000) :
    ∃ v', loopM (fun s : Int × List Int => m_proof_engine_follows_lp2 dr s.1 s.2) (0, val) = some v' ∧ v'.length = val.length ∧
      (∀ (v : Nat), (∃ x ∈ dr, (vr x).toNat = v) → v'[v]? = some 0 ∨ val.length ≤ v) ∧ (∀ (v : Nat), (∀ x ∈ dr, (vr x).toNat ≠ v) → v'[v]? = val[v]?) := by
  refine loopN (body := fun s : Int × List Int => m_proof_engine_follows_lp2 dr s.1 s.2) dr.length (fun k t => ((k : Int), t))
    (fun k v' => v'.length = val.length ∧ (∀ (v : Nat), (∃ x ∈ dr.take k, (vr x).toNat = v) → v'[v]? = some 0 ∨ val.length ≤ v) ∧ (∀ (v : Nat), (∀ x ∈ dr.take k, (vr x).toNat ≠ v) → v'[v]? = val[v]?)) _ (t0 := val) rfl
    ⟨rfl, fun v ⟨x, hx, _⟩ => by simp at hx, fun v _ => rfl⟩ ?_ ?_
  · rintro k v' hk ⟨h1, h2, h3⟩
    obtain ⟨x, hx⟩ := get_of_lt hk
    obtain ⟨hxn, hx0⟩ := hd x (mem_get hx)
    have hxb := vr_le.1 hxn
    have hx1 := vr_nn x
    obtain ⟨y, hy⟩ := get_of_lt (show (vr x).toNat < v'.length by omega)
    have em : max x (-x) = vr x := by unfold vr; omega
    have hi : idx v' (max x (-x)) = some y := by rw [em]; exact idx_of hx1 hy
    have i1 : inK .i64 (0 - x) = some (-x) := inK_at (by omega) ⟨by omega, by omega⟩
    refine Or.inl ⟨v'.set (vr x).toNat 0, ?_, by rw [List.length_set]; exact h1, fun v hv' => ?_, fun v hv' => ?_⟩
    · simp only [m_proof_engine_follows_lp2, ltB hk, if_true, idx_nat hx, bsm, i1, hi, inK_up hk (show dr.length ≤ 9223372036854775807 by omega)]
      rw [em]
    · rw [take_snoc_of hx] at hv'
      obtain ⟨z, hz, rfl⟩ := hv'
      by_cases e : (vr z).toNat = (vr x).toNat
      · rw [e]; exact Or.inl (get_set_eq hy)
      · rw [get_set_ne e]
        rw [List.mem_append, List.mem_singleton] at hz
        rcases hz with hz | rfl
        · exact h2 _ ⟨z, hz, rfl⟩
        · exact absurd rfl e
    · rw [take_snoc_of hx] at hv'
      rw [get_set_ne (fun e => hv' x (by simp) e.symm)]
      exact h3 v fun z hz => hv' z (List.mem_append_left _ hz)
  · rintro v' ⟨h1, h2, h3⟩
    rw [List.take_length] at h2 h3
    exact ⟨v', by simp only [m_proof_engine_follows_lp2, ltB', if_false, Bool.false_eq_true], h1, h2, h3⟩
theorem follows_ok (hn : 0 ≤ n ∧ n ≤ 65536) (hF : F.length ≤ 1000000) (hFc : ∀ c ∈ F, ClOk n c) {e : PEng} (he : EngB n F e) {q : List Int} (hq : ClOk n q) :
    ∃ r e', m_proof_engine_follows e q = some (r, e') ∧ EngB n F e' ∧ (r = true ↔ Fails F (negs q)) := by
  have hlen := he.len
  unfold m_proof_engine_follows
  rcases he.st with ⟨hf, hfail⟩ | ⟨hf, hh, hE0⟩
  · rw [if_pos hf]
    exact ⟨true, e, rfl, he, fun _ => hfail.mono (fun _ h => h) (by simp), fun _ => rfl⟩
  · rw [if_neg (by rw [hf]; decide)]
    have hE := hE0.assume (negs q)
    obtain ⟨b, hb, ok, val, ext, rfl, h1, h2⟩ := follows_loop hn hq hE
    rw [hb, bsm]
    have htk : (e.trail ++ ext).take e.trail.length = e.trail := List.take_left' rfl
    have hL := lits_of hn hFc hq
    obtain ⟨ok2, hd2, val2, tr2, W2, hm, ⟨ext2, rfl⟩, hWl, ⟨D2, h3⟩, h4⟩ : ∃ ok2 hd2 val2 tr2 W2, (if ok = true then
        (m_proof_engine_propagate (PEng.mk val (e.trail ++ ext) e.head e.watches e.fails)).bind fun x8 =>
        some (x8.1, x8.2.head, x8.2.fails, x8.2.value, x8.2.trail, x8.2.watches)
      else
        some (false, e.head, e.fails, val, e.trail ++ ext, e.watches)) = some (ok2, hd2, e.fails, val2, tr2, W2) ∧ (∃ x, tr2 = e.trail ++ x) ∧ W2.2.length = e.watches.2.length ∧ (∃ D, Eng n F (negs q) e.trail.length e.trail.length D val2 tr2 W2.1 W2.2) ∧ (ok2 = true ↔ ¬ Fails F (negs q)) := by
      rcases h2 with ⟨rfl, h2⟩ | ⟨rfl, h2⟩
      · have h1' : Eng n F (negs q) e.trail.length e.trail.length (fun _ w => -w ∈ (e.trail ++ ext).take e.trail.length) val (e.trail ++ ext) e.watches.1 e.watches.2 := by rw [htk]; exact h1
        obtain ⟨ok2, val2, ext2, W2, hd2, hpr, hWl, hres⟩ := propagate_ok hn (by omega) h1' (by simp) (fl := e.fails)
        rw [if_pos rfl, hh, hpr, bsm]
        refine ⟨ok2, hd2, val2, _, W2, rfl, ⟨ext ++ ext2, by rw [List.append_assoc]⟩, hWl, ?_⟩
        rcases hres with ⟨rfl, _, h5⟩ | ⟨rfl, h5, D, h6⟩
        · refine ⟨⟨_, h5⟩, fun _ => ?_, fun _ => rfl⟩
          refine closed_ok hL h5.vo (fun l hl => ?_) (h5.closed fun id w hw => hw)
          have h7 := h2 _ (mem_negs' hl)
          rw [Int.neg_neg] at h7
          exact ((h5.tr l).1 (List.mem_append_left _ h7)).2
        · exact ⟨⟨D, h6⟩, fun h => (by cases h), fun h => absurd h5 h⟩
      · rw [if_neg (by decide)]
        exact ⟨false, _, val, _, e.watches, rfl, ⟨ext, rfl⟩, rfl, ⟨_, h1⟩, fun h => (by cases h), fun h => absurd h2 h⟩
    rw [hm, bsm]
    simp only
    have htl := h3.trailLen hn.1
    rw [List.length_append] at htl
    have hdrop : (e.trail ++ ext2).drop e.trail.length = ext2 := List.drop_left' rfl
    have htake : (e.trail ++ ext2).take e.trail.length = e.trail := List.take_left' rfl
    have s1 : sub (e.trail ++ ext2) (e.trail.length : Int) ((e.trail ++ ext2).length : Int) = some ext2 := by
      rw [sub_ok (by omega) (by rw [List.length_append]; omega) (by omega)]
      rw [Int.toNat_natCast, Int.toNat_natCast, List.take_length, hdrop]
    have s2 : sub (e.trail ++ ext2) 0 (e.trail.length : Int) = some e.trail := by
      rw [sub_ok (by decide) (by omega) (by rw [List.length_append]; omega)]
      rw [Int.toNat_natCast, htake]; rfl
    obtain ⟨v', hv, c1, c2, c3⟩ := clear_loop (n := n) (val := val2) (dr := ext2) (fun x hx => by
      have := h3.lit (List.mem_append_right e.trail hx); exact ⟨this.2, this.1⟩) hn.2 h3.vo.len (by omega)
    rw [s1, bsm, hv, bsm, s2, bsm]
    refine ⟨_, _, rfl, ⟨by show W2.2.length ≤ _; omega, Or.inr ⟨hf, rfl, ?_⟩⟩, ?_⟩
    · have h6 := h3.reset c1 (by rw [hdrop]; exact c2) (by rw [hdrop]; exact c3) []
      rw [htake] at h6
      exact h6
    · cases ok2 with
      | true => exact ⟨fun h => (by cases h), fun h => absurd h (h4.1 rfl)⟩
      | false => exact ⟨fun _ => Classical.byContradiction fun h => (by cases h4.2 h), fun _ => rfl⟩
end
def accP (F : List (List Int)) : List (List Int) → Prop
  | [] => True
  | c :: p => Fails F (negs c) ∧ accP (F ++ [c]) p
noncomputable def accB (F p : List (List Int)) : Bool := @decide (p.getLast? = some [] ∧ accP F p) (Classical.propDecidable _)
theorem accB_iff {F p : List (List Int)} : accB F p = true ↔ p.getLast? = some [] ∧ accP F p := by unfold accB; exact @decide_eq_true_iff _ (Classical.propDecidable _)
theorem accepted_ok {f : Formula} {p : List (List Int)} (hn : 0 ≤ f.vars ∧ f.vars ≤ 65536) (hl : f.clauses.length + p.length ≤ 1000000) (hF : ∀ c ∈ f.clauses, ClOk f.vars c) (hp : ∀ c ∈ p, ClOk f.vars c) :
    m_proof_accepted f p = some (accB f.clauses p) := by
  unfold m_proof_accepted
  have hlast : ∀ b : Bool, p.getLast? ≠ some [] → accB f.clauses p = false := fun b h => by
    cases hb : accB f.clauses p with
    | true => exact absurd (accB_iff.1 hb).1 h
    | false => rfl
  by_cases h0 : p.length = 0
  · rw [if_pos (by simpa using h0), bsm, if_pos rfl]
    have : p = [] := List.eq_nil_of_length_eq_zero h0
    rw [hlast true (by rw [this]; simp)]
  · obtain ⟨c, hc⟩ := get_of_lt (show p.length - 1 < p.length by omega)
    have hg : p.getLast? = some c := by rw [List.getLast?_eq_getElem?]; exact hc
    rw [if_neg (by simpa using h0), inK_at (m := ((p.length - 1 : Nat) : Int)) (by omega) ⟨by omega, by omega⟩, bsm, idx_nat hc, bsm, bsm]
    by_cases hcl : 0 < c.length
    · rw [if_pos (by simpa using hcl), hlast true (by rw [hg]; intro e; rw [Option.some.inj e] at hcl; simp at hcl)]
    · rw [if_neg (by simpa using hcl)]
      have hnil : c = [] := List.eq_nil_of_length_eq_zero (by omega)
      subst hnil
      unfold m_proof_steps m_proof_steps_1_yield
      obtain ⟨e0, he0, hE0⟩ := newEngine_ok hn (by omega) hF
      rw [bsm, he0, bsm]
      obtain ⟨b, hb, hpost⟩ := loopN (body := fun s : Int × Int × Bool × List Int × List Int × (List (List Nat) × List (List Int)) × Step Unit Bool => m_proof_steps_1_yield_lp1 (fun x _ => m_proof_accepted_lp1 x) p s.1 s.2.1 s.2.2.1 s.2.2.2.1 s.2.2.2.2.1 s.2.2.2.2.2.1 s.2.2.2.2.2.2)
        (s0 := (0, e0.head, e0.fails, e0.value, e0.trail, e0.watches, .next ())) p.length (fun k (e : PEng) => ((k : Int), e.head, e.fails, e.value, e.trail, e.watches, Step.next ()))
        (fun k e => EngB f.vars (f.clauses ++ p.take k) e ∧ (accP f.clauses p ↔ accP (f.clauses ++ p.take k) (p.drop k)))
        (fun b => match b with | .brk s => s.2.2.2.2.2 = Step.next () ∧ accP f.clauses p | .ret st => st = Step.done false ∧ ¬ accP f.clauses p) (t0 := e0) rfl ⟨by simpa using hE0, by simp⟩ (by
          rintro k e hk ⟨h1, h2⟩
          obtain ⟨c, hc⟩ := get_of_lt hk
          have hcm := hp c (mem_get hc)
          have hFk : ∀ d ∈ f.clauses ++ p.take k, ClOk f.vars d := fun d hd => by
            rcases List.mem_append.1 hd with hd | hd
            · exact hF d hd
            · exact hp d (List.mem_of_mem_take hd)
          have hlk : (f.clauses ++ p.take k).length ≤ 1000000 := by rw [List.length_append, List.length_take]; omega
          obtain ⟨r, e', hr, he', hiff⟩ := follows_ok hn hlk hFk h1 hcm
          have hacc : accP f.clauses p ↔ Fails (f.clauses ++ p.take k) (negs c) ∧ accP (f.clauses ++ p.take (k + 1)) (p.drop (k + 1)) := by
            rw [h2, drop_cons_of hc, take_snoc_of hc, ← List.append_assoc]; exact Iff.rfl
          simp only [m_proof_steps_1_yield_lp1, ltB hk, if_true, idx_nat hc, bsm]
          rw [show (PEng.mk e.value e.trail e.head e.watches e.fails) = e from rfl, hr, bsm]
          cases r with
          | false =>
            refine Or.inr ⟨.ret (Step.done false), ?_, rfl, fun h => ?_⟩
            · simp only [yieldM, m_proof_accepted_lp1, Bool.not_false, if_true, bsm, Step.more, Bool.or_true]
            · have := hiff.2 (hacc.1 h).1
              cases this
          | true =>
            obtain ⟨e'', h3, h4⟩ := add_ok hn hlk he' hcm
            rw [List.append_assoc, ← take_snoc_of hc] at h4
            refine Or.inl ⟨e'', ?_, h4, ?_⟩
            · simp only [yieldM, m_proof_accepted_lp1, Bool.not_true, if_false, Bool.false_eq_true, bsm, Step.more, Bool.or_false, h3, inK_up hk (show p.length ≤ 9223372036854775807 by omega)]
            · rw [hacc]; exact ⟨fun h => h.2, fun h => ⟨hiff.1 rfl, h⟩⟩) (by
          rintro e ⟨h1, h2⟩
          refine ⟨.brk (e.head, e.fails, e.value, e.trail, e.watches, Step.next ()), ?_, rfl, h2.2 (by rw [List.drop_length]; trivial)⟩
          simp only [m_proof_steps_1_yield_lp1, ltB', if_false, Bool.false_eq_true])
      rw [hb, bsm]
      cases b with
      | brk s =>
        obtain ⟨h1, h2⟩ := hpost
        simp only
        rw [bsm, h1, accB_iff.2 ⟨hg, h2⟩]
      | ret st =>
        obtain ⟨rfl, h2⟩ := hpost
        simp only
        rw [bsm]
        cases hb : accB f.clauses p with
        | true => exact absurd (accB_iff.1 hb).2 h2
        | false => rfl
end Go.Proofs.YtfajmelamonolaaGreatDoor

/- Check, Follows, Trim and Core, of the program and of the reference: both are what is said here. -/
set_option linter.unusedVariables false
set_option linter.unusedSimpArgs false
namespace Go.Proofs.YtfajmelamonolaaGreatDoor
open Go.RowKit
theorem normal_ok {c : List Int} {v : Int} (hv : 0 ≤ v ∧ v ≤ 1099511627776) (hc : c.length ≤ 9223372036854775807) : m_proof_normal c v = some (clF v 0 c) := by
  unfold m_proof_normal
  have w : ∀ x : Int, -1099511627776 ≤ x ∧ x ≤ 1099511627776 → IntKind.wrap .i64 (0 - x) = -x := fun x hx => by rw [IntKind.wrap_i64]; omega
  have h := loopL (body := fun s : Int × Int => m_proof_normal_lp1 c v s.1 s.2) (s0 := ((0 : Int), (0 : Int))) c (fun k t => (t, (k : Int)))
    (stCl v) (fun _ => Out.brk ()) (fun _ _ => True) (t0 := (0 : Int)) rfl trivial ?_ ?_
  · rw [h, bsm, ← runL_clF (Int.le_refl 0)]
    generalize runL (stCl v) (fun _ => Out.brk ()) c 0 = o
    cases o <;> rfl
  · intro k a t hk _
    refine ⟨?_, fun _ _ => trivial⟩
    simp only [m_proof_normal_lp1, stCl]
    rw [if_pos (ltB (len_lt hk)), idx_nat hk, bsm, w v (by omega)]
    by_cases h1 : (decide (a < -v) || decide (v < a)) = true
    · simp [h1]
    · have h1' : (decide (a < -v) || decide (v < a)) = false := by simpa using h1
      simp only [Bool.or_eq_true, decide_eq_true_eq, not_or] at h1
      rw [w a (by omega), show max a (-a) = vr a by unfold vr; omega]
      simp only [h1', Bool.false_or]
      by_cases h2 : vr a ≤ t
      · simp [h2]
      · simp [h2, inK_up (len_lt hk) hc]
  · intro t _
    simp only [m_proof_normal_lp1]
    rw [if_neg ltB']
def litN (p : List (List Int)) : Nat := (p.map List.length).sum
theorem litN_take {p : List (List Int)} {k : Nat} {c : List Int} (h : p[k]? = some c) : litN (p.take (k + 1)) = litN (p.take k) + c.length := by
  unfold litN; rw [take_snoc_of h]; simp
theorem litN_app (p q : List (List Int)) : litN (p ++ q) = litN p + litN q := by unfold litN; simp
theorem litN_mono (p : List (List Int)) (k : Nat) : litN (p.take k) ≤ litN p := by
  have := litN_app (p.take k) (p.drop k)
  rw [List.take_append_drop] at this; omega
theorem litN_sub {q p : List (List Int)} (h : q.Sublist p) : litN q ≤ litN p := by
  unfold litN
  induction h with
  | slnil => simp
  | cons a _ ih => simp; omega
  | cons_cons a _ ih => simp; omega
def provB (v : Int) (p : List (List Int)) : Bool := p.all (clF v 0) && decide (litN p ≤ 1048576)
theorem provB_iff {v : Int} {p : List (List Int)} : provB v p = true ↔ (∀ c ∈ p, clF v 0 c = true) ∧ litN p ≤ 1048576 := by
  unfold provB; rw [Bool.and_eq_true, List.all_eq_true, decide_eq_true_eq]
def PLen (p : List (List Int)) : Prop := p.length ≤ 400000 ∧ ∀ c ∈ p, c.length ≤ 400000
theorem PLen.lit {p : List (List Int)} (h : PLen p) (k : Nat) : litN (p.take k) ≤ k * 400000 := by
  induction k with
  | zero => simp [litN]
  | succ k ih =>
    by_cases hk : k < p.length
    · obtain ⟨c, hc⟩ := get_of_lt hk
      have := h.2 c (mem_get hc)
      rw [litN_take hc]; omega
    · have e1 : p.take k = p := List.take_of_length_le (by omega)
      have e2 : p.take (k + 1) = p := List.take_of_length_le (by omega)
      have e3 := congrArg litN e1
      have e4 := congrArg litN e2
      omega
theorem PLen.all {p : List (List Int)} (h : PLen p) : litN p ≤ 160000000000 := by
  have h1 := h.lit p.length
  rw [List.take_length] at h1
  have h2 : p.length * 400000 ≤ 400000 * 400000 := Nat.mul_le_mul_right _ h.1
  omega
theorem valid_ok {p : List (List Int)} {v : Int} (hv : 0 ≤ v ∧ v ≤ 1099511627776) (hp : PLen p) : m_proof_valid p v = some (provB v p) := by
  unfold m_proof_valid
  obtain ⟨b, hb, h⟩ := loopN (body := fun s : Int × Int => m_proof_valid_lp1 p v s.1 s.2) (s0 := ((0 : Int), (0 : Int))) p.length (fun k (t : Nat) => ((t : Int), (k : Int)))
    (fun k t => t = litN (p.take k) ∧ t ≤ 1048576 ∧ ∀ c ∈ p.take k, clF v 0 c = true) (fun b => match b with | .brk _ => provB v p = true | .ret r => r = false ∧ provB v p = false) (t0 := 0) rfl ⟨by simp [litN], by omega, by simp⟩ (by
      rintro k t hk ⟨rfl, h1, h2⟩
      obtain ⟨c, hc⟩ := get_of_lt hk
      have hcl := hp.2 c (mem_get hc)
      have hlt := litN_take hc
      have e1 : inK .i64 ((litN (p.take k) : Int) + (c.length : Int)) = some ((litN (p.take (k + 1)) : Nat) : Int) := inK_at (by omega) ⟨by omega, by omega⟩
      simp only [m_proof_valid_lp1, ltB hk, if_true, idx_nat hc, bsm, e1, normal_ok hv (show c.length ≤ 9223372036854775807 by omega)]
      by_cases h3 : ((!clF v 0 c) || decide (1048576 < ((litN (p.take (k + 1)) : Nat) : Int))) = true
      · refine Or.inr ⟨.ret false, by rw [if_pos h3], rfl, ?_⟩
        cases hpb : provB v p with
        | false => rfl
        | true =>
          have := provB_iff.1 hpb
          have h4 := this.1 c (mem_get hc)
          have h5 := litN_mono p (k + 1)
          rw [h4] at h3
          simp at h3
          omega
      · rw [if_neg h3, inK_up hk (by have := hp.1; omega), bsm]
        simp only [Bool.or_eq_true, Bool.not_eq_true', decide_eq_true_eq, not_or, Bool.not_eq_false] at h3
        refine Or.inl ⟨litN (p.take (k + 1)), rfl, rfl, by omega, fun d hd => ?_⟩
        rw [take_snoc_of hc, List.mem_append, List.mem_singleton] at hd
        rcases hd with hd | rfl
        · exact h2 d hd
        · exact h3.1) (by
      rintro t ⟨rfl, h1, h2⟩
      rw [List.take_length] at h1 h2
      exact ⟨.brk (), by simp only [m_proof_valid_lp1, ltB', if_false, Bool.false_eq_true], provB_iff.2 ⟨h2, h1⟩⟩)
  rw [hb, bsm]
  cases b with
  | brk _ => simp only; rw [h]
  | ret r => simp only; rw [h.1, h.2]
noncomputable def chkB (f : Formula) (p : List (List Int)) : Bool := validB f && provB f.vars p && accB f.clauses p
theorem valid_cl {f : Formula} (h : validB f = true) : ∀ c ∈ f.clauses, ClOk f.vars c := fun c hc => clF_ok ((valid_bnd h).2.2.2 c hc)
theorem prov_cl {v : Int} {p : List (List Int)} (h : provB v p = true) : ∀ c ∈ p, ClOk v c := fun c hc => clF_ok ((provB_iff.1 h).1 c hc)
theorem check_ok {f : Formula} {p : List (List Int)} (hf : FLen f.clauses) (hp : PLen p) : m_proof_Check f p = some (chkB f p) := by
  unfold m_proof_Check chkB
  rw [cnf_valid hf, bsm]
  cases hv : validB f with
  | false => simp
  | true =>
    have hb := valid_bnd hv
    rw [if_pos rfl, valid_ok (by omega) hp, bsm, bsm]
    cases hpr : provB f.vars p with
    | false => simp
    | true =>
      rw [if_pos rfl, accepted_ok ⟨hb.1, hb.2.1⟩ (by have := hp.1; omega) (valid_cl hv) (prov_cl hpr), bsm, bsm]
      simp
theorem follows_prog {f : Formula} {q : List Int} (hf : FLen f.clauses) (hq : q.length ≤ 9223372036854775807) :
    ∃ r, m_proof_Follows f q = some r ∧ (if validB f = true ∧ clF f.vars 0 q = true then r.2 = 0 ∧ (r.1 = true ↔ Fails f.clauses (negs q)) else r = (false, 1)) := by
  unfold m_proof_Follows
  rw [cnf_valid hf, bsm]
  cases hv : validB f with
  | false => exact ⟨(false, 1), by simp, by simp⟩
  | true =>
    have hb := valid_bnd hv
    rw [if_neg (by simp), normal_ok (by omega) hq, bsm, bsm]
    cases hc : clF f.vars 0 q with
    | false => exact ⟨(false, 1), by simp, by simp⟩
    | true =>
      rw [if_neg (by simp)]
      obtain ⟨e, he, hE⟩ := newEngine_ok ⟨hb.1, hb.2.1⟩ (by omega) (valid_cl hv)
      obtain ⟨r, e', hr, _, hiff⟩ := follows_ok ⟨hb.1, hb.2.1⟩ (by omega) (valid_cl hv) hE (clF_ok hc)
      rw [he, bsm, hr, bsm]
      exact ⟨(r, 0), rfl, by rw [if_pos ⟨rfl, rfl⟩]; exact ⟨rfl, hiff⟩⟩
def trimF (g : List (List Int) → Bool) : Nat → List (List Int) → List (List Int)
  | 0, p => p
  | i + 1, p => trimF g i (if g (p.eraseIdx i) = true then p.eraseIdx i else p)
theorem without_prog {p : List (List Int)} {i : Nat} (h : i < p.length) (hl : p.length ≤ 4294967296) : m_proof_without p (i : Int) = some (p.eraseIdx i) := by
  have s1 : sub p 0 (i : Int) = some (p.take i) := by rw [sub_ok (by decide) (by omega) (by omega)]; simp
  have s2 : sub p ((i + 1 : Nat) : Int) (p.length : Int) = some (p.drop (i + 1)) := by rw [sub_ok (by omega) (by omega) (by omega)]; simp
  have e := List.eraseIdx_eq_take_drop_succ p i
  unfold m_proof_without
  rw [s1, bsm, app_ok (by simp; omega), bsm, inK_up h (by omega), bsm, s2, bsm, app_ok (by simp; omega), bsm, e]; rfl
theorem trim_loop {body : List (List Int) × Int → Option (Step (List (List Int) × Int) (List (List Int)))} {g : List (List Int) → Bool} {P : List (List Int) → Prop} (hP : ∀ p i, P p → P (p.eraseIdx i))
    (step : ∀ p (i : Nat), P p → i < p.length → body (p, (i : Int)) = some (.next (if g (p.eraseIdx i) = true then p.eraseIdx i else p, (i : Int) - 1))) (fin : ∀ p, body (p, -1) = some (.done p)) :
    ∀ (i : Nat) (p : List (List Int)), P p → i ≤ p.length → loopM body (p, (i : Int) - 1) = some (trimF g i p)
  | 0, p, _, _ => loopM_done (fin p)
  | i + 1, p, hp, hi => by
    rw [show (((i + 1 : Nat) : Int) - 1) = (i : Int) by omega, loopM_next (step p i hp (by omega))]
    unfold trimF
    refine trim_loop hP step fin i _ ?_ ?_
    · split
      · exact hP p i hp
      · exact hp
    · split
      · rw [List.length_eraseIdx_of_lt (by omega)]; omega
      · omega
theorem PLen.erase {p : List (List Int)} (h : PLen p) (i : Nat) : PLen (p.eraseIdx i) :=
  ⟨Nat.le_trans (List.length_eraseIdx_le ..) h.1, fun c hc => h.2 c (List.mem_of_mem_eraseIdx hc)⟩
theorem provB_sub {v : Int} {q p : List (List Int)} (h : q.Sublist p) (hp : provB v p = true) : provB v q = true := by
  have := provB_iff.1 hp
  exact provB_iff.2 ⟨fun c hc => this.1 c (h.subset hc), by have := litN_sub h; omega⟩
theorem provB_erase {v : Int} {p : List (List Int)} (hp : provB v p = true) (i : Nat) : provB v (p.eraseIdx i) = true := provB_sub (List.eraseIdx_sublist ..) hp
theorem clone_rows {b : List (List Int)} (hb : PLen b) : loopM (fun s : Int × List (List Int) => m_proof_Trim_lp2 b s.1 s.2) (0, []) = some b := by
  obtain ⟨r, hr, rfl⟩ := loopN (body := fun s : Int × List (List Int) => m_proof_Trim_lp2 b s.1 s.2) (s0 := ((0 : Int), ([] : List (List Int)))) b.length (fun k t => ((k : Int), t)) (fun k t => t = b.take k) (fun r => r = b) (t0 := []) rfl (by simp) (by
      rintro k t hk rfl
      obtain ⟨c, hc⟩ := get_of_lt hk
      have h1 := hb.2 c (mem_get hc)
      have h2 := hb.1
      refine Or.inl ⟨b.take (k + 1), ?_, rfl⟩
      simp only [m_proof_Trim_lp2, ltB hk, if_true, idx_nat hc, bsm]
      first | rw [app_ok (by simp; omega), bsm] | rw [cloneI_ok (by omega), bsm]
      rw [app_ok (by simp; omega), bsm, inK_up hk (by omega), bsm, take_snoc_of hc] <;> rfl) (by
      rintro t rfl
      exact ⟨b.take b.length, by simp only [m_proof_Trim_lp2, ltB', if_false, Bool.false_eq_true], by simp⟩)
  exact hr
noncomputable def trimR (f : Formula) (p : List (List Int)) : List (List Int) × Int := if chkB f p = true then (trimF (accB f.clauses) (p.length - 1) p, 0) else ([], 1)
theorem chk_parts {f : Formula} {p : List (List Int)} (h : chkB f p = true) : validB f = true ∧ provB f.vars p = true ∧ p.getLast? = some [] ∧ accP f.clauses p := by
  unfold chkB at h
  simp only [Bool.and_eq_true] at h
  exact ⟨h.1.1, h.1.2, accB_iff.1 h.2⟩
theorem chk_acc {f : Formula} {p : List (List Int)} (hv : validB f = true) (hp : provB f.vars p = true) : chkB f p = accB f.clauses p := by unfold chkB; rw [hv, hp]; simp
theorem last_pos {p : List (List Int)} (h : p.getLast? = some []) : 0 < p.length := by
  cases p with
  | nil => simp at h
  | cons a p => simp
theorem trimF_len {g : List (List Int) → Bool} {P : List (List Int) → Prop} (hP : ∀ p i, P p → P (p.eraseIdx i)) : ∀ (i : Nat) (p : List (List Int)), P p → P (trimF g i p)
  | 0, p, hp => hp
  | i + 1, p, hp => by
    unfold trimF
    refine trimF_len hP i _ ?_
    split
    · exact hP p i hp
    · exact hp
theorem trim_prog {f : Formula} {p : List (List Int)} (hf : FLen f.clauses) (hp : PLen p) : m_proof_Trim f p = some (trimR f p) := by
  unfold m_proof_Trim trimR
  rw [check_ok hf hp, bsm]
  cases hc : chkB f p with
  | false => simp
  | true =>
    obtain ⟨hv, hpr, hg, _⟩ := chk_parts hc
    have hb := valid_bnd hv
    have hpos := last_pos hg
    have hpl := hp.1
    have hl := trim_loop (body := fun s : List (List Int) × Int => m_proof_Trim_lp1 f s.1 s.2) (g := accB f.clauses) (P := fun q => PLen q ∧ provB f.vars q = true) (fun q i h => ⟨h.1.erase i, provB_erase h.2 i⟩) (fun q i h hi => by
        have hql := h.1.1
        have hw := without_prog hi (by omega)
        have ha := accepted_ok (f := f) (p := q.eraseIdx i) ⟨hb.1, hb.2.1⟩ (by have := (h.1.erase i).1; omega) (valid_cl hv) (prov_cl (provB_erase h.2 i))
        have e1 : inK .i64 ((i : Int) - 1) = some ((i : Int) - 1) := inK_eq ⟨by omega, by omega⟩
        simp only [m_proof_Trim_lp1, show (decide (0 ≤ (i : Int))) = true by simp, if_true, hw, bsm, ha, e1]
        cases accB f.clauses (q.eraseIdx i) <;> simp) (fun q => by simp [m_proof_Trim_lp1]) (p.length - 1) p ⟨hp, hpr⟩ (by omega)
    have e2 : inK .i64 ((p.length : Int) - 2) = some (((p.length - 1 : Nat) : Int) - 1) := inK_at (by omega) ⟨by omega, by omega⟩
    have hq := trimF_len (g := accB f.clauses) (P := fun q => PLen q) (fun q i h => h.erase i) (p.length - 1) p hp
    rw [if_neg (by simp), e2, bsm, hl, bsm, clone_rows hq, bsm, if_pos rfl]
def coreF (g : List (List Int) → Bool) : Nat → List Int → List (List Int) → List Int
  | 0, o, F => o
  | i + 1, o, F => if g (F.eraseIdx i) = true then coreF g i o (F.eraseIdx i) else coreF g i ((i : Int) :: o) F
noncomputable def coreR (f : Formula) (p : List (List Int)) : List Int × Int := if chkB f p = true then (coreF (fun F => accB F p) f.clauses.length [] f.clauses, 0) else ([], 1)
theorem valid_erase {f : Formula} (h : validB f = true) (i : Nat) : validB ⟨f.vars, f.clauses.eraseIdx i⟩ = true := by
  have hb := valid_bnd h
  unfold validB
  simp only [Bool.and_eq_true, decide_eq_true_eq, List.all_eq_true]
  exact ⟨⟨⟨hb.1, hb.2.1⟩, Nat.le_trans (List.length_eraseIdx_le ..) hb.2.2.1⟩, fun c hc => hb.2.2.2 c (List.mem_of_mem_eraseIdx hc)⟩
theorem core_loop {body : Int × List Int × List (List Int) → Option (Step (Int × List Int × List (List Int)) (List Int × List (List Int)))} {g : List (List Int) → Bool} {P : List (List Int) → Prop} (fw : List Int → List Int) (hP : ∀ F i, P F → P (F.eraseIdx i))
    (step : ∀ F (i : Nat) o, P F → i < F.length → o.length + i < 1000000 → body ((i : Int), fw o, F) = some (.next (if g (F.eraseIdx i) = true then ((i : Int) - 1, fw o, F.eraseIdx i) else ((i : Int) - 1, fw ((i : Int) :: o), F)))) (fin : ∀ o F, body (-1, o, F) = some (.done (o, F))) :
    ∀ (i : Nat) (o : List Int) (F : List (List Int)), P F → i ≤ F.length → o.length + i ≤ 1000000 → ∃ F', loopM body ((i : Int) - 1, fw o, F) = some (fw (coreF g i o F), F') ∧ (coreF g i o F).length ≤ 1000000
  | 0, o, F, _, _, hl => ⟨F, loopM_done (fin _ F), by unfold coreF; omega⟩
  | i + 1, o, F, hp, hi, hl => by
    rw [show (((i + 1 : Nat) : Int) - 1) = (i : Int) by omega, loopM_next (step F i o hp (by omega) (by omega))]
    unfold coreF
    split
    · exact core_loop fw hP step fin i o _ (hP F i hp) (by rw [List.length_eraseIdx_of_lt (by omega)]; omega) (by omega)
    · exact core_loop fw hP step fin i _ F hp (by omega) (by simp; omega)
theorem core_prog {f : Formula} {p : List (List Int)} (hf : FLen f.clauses) (hp : PLen p) : m_proof_Core f p = some (coreR f p) := by
  unfold m_proof_Core coreR
  rw [check_ok hf hp, bsm]
  cases hc : chkB f p with
  | false => simp
  | true =>
    obtain ⟨hv, hpr, hg, _⟩ := chk_parts hc
    have hb := valid_bnd hv
    have hpl := hp.1
    obtain ⟨F', hl, hcl⟩ := core_loop (body := fun s : Int × List Int × List (List Int) => m_proof_Core_lp1 f p s.1 s.2.1 s.2.2) (g := fun F => accB F p) (P := fun F => validB ⟨f.vars, F⟩ = true) List.reverse (fun F i h => valid_erase (f := ⟨f.vars, F⟩) h i) (fun F i o h hi ho => by
        have hvF := valid_bnd h
        have hFl : F.length ≤ 262144 := hvF.2.2.1
        have hw := without_prog hi (by omega)
        have h2 := valid_erase (f := ⟨f.vars, F⟩) h i
        have ha := accepted_ok (f := ⟨f.vars, F.eraseIdx i⟩) (p := p) ⟨hb.1, hb.2.1⟩ (by have : (F.eraseIdx i).length ≤ 262144 := (valid_bnd h2).2.2.1; show (F.eraseIdx i).length + _ ≤ _; omega) (valid_cl h2) (prov_cl hpr)
        have e1 : inK .i64 ((i : Int) - 1) = some ((i : Int) - 1) := inK_eq ⟨by omega, by omega⟩
        have e2 : app o.reverse [(i : Int)] = some (o.reverse ++ [(i : Int)]) := app_ok (by simp; omega)
        simp only [m_proof_Core_lp1, show (decide (0 ≤ (i : Int))) = true by simp, if_true, hw, bsm, ha, e1]
        cases accB (F.eraseIdx i) p with
        | true => simp
        | false => simp only [Bool.false_eq_true, if_false, e2, bsm, List.reverse_cons]) (fun o F => by simp [m_proof_Core_lp1]) f.clauses.length [] f.clauses hv (by omega) (by simp; omega)
    have e2 : inK .i64 ((f.clauses.length : Int) - 1) = some ((f.clauses.length : Int) - 1) := inK_eq ⟨by omega, by omega⟩
    rw [List.reverse_nil] at hl
    rw [if_neg (by simp), e2, bsm, hl, bsm, if_pos rfl]
    have : m_revI (coreF (fun F => accB F p) f.clauses.length [] f.clauses).reverse = some (coreF (fun F => accB F p) f.clauses.length [] f.clauses) := by
      unfold m_revI
      rw [if_pos (by rw [List.length_reverse]; omega), List.reverse_reverse]
    rw [this, bsm]
end Go.Proofs.YtfajmelamonolaaGreatDoor

/- Numerals, and Format: the text of a formula. -/
set_option linter.unusedVariables false
set_option linter.unusedSimpArgs false
namespace Go.Proofs.YtfajmelamonolaaGreatDoor
open Go.RowKit
def bs (l : List UInt8) : ByteArray := ⟨l.toArray⟩
theorem bs_data (l : List UInt8) : (bs l).data.toList = l := by simp [bs]
theorem bs_size (l : List UInt8) : (bs l).size = l.length := by simp [bs, ByteArray.size]
theorem bs_of (s : ByteArray) : bs s.data.toList = s := by obtain ⟨⟨l⟩⟩ := s; rfl
theorem bs_inj {l m : List UInt8} (h : bs l = bs m) : l = m := by rw [← bs_data l, h, bs_data]
theorem bs_app (l m : List UInt8) : bs l ++ bs m = bs (l ++ m) := by
  rw [← bs_of (bs l ++ bs m)]
  congr 1
theorem catK_bs {l m : List UInt8} (h : l.length + m.length ≤ 4294967296) : catK (bs l) (bs m) = some (bs (l ++ m)) := by
  rw [catK_ok (by rw [bs_size, bs_size]; exact h), bs_app]
theorem wstr_bs {l m : List UInt8} (h : l.length + m.length ≤ 4294967296) : m_WStr (bs l) (bs m) = some (bs (l ++ m)) := by
  unfold m_WStr
  rw [if_pos (by rw [bs_size, bs_size]; omega), bs_app]
open Go.Lib
theorem dd_small {u : Nat} (h : u < 10) : decDigits u = [UInt8.ofNat (48 + u)] := by rw [decDigits, dif_pos h]
theorem dd_big {u : Nat} (h : ¬ u < 10) : decDigits u = decDigits (u / 10) ++ [UInt8.ofNat (48 + u % 10)] := by rw [decDigits, dif_neg h]
theorem dig_nat {d : Nat} (h : d < 10) : (UInt8.ofNat (48 + d)).toNat = 48 + d := by
  rw [UInt8.toNat_ofNat']; omega
theorem dd_ind {p : Nat → Prop} (h1 : ∀ u, u < 10 → p u) (h2 : ∀ u, ¬ u < 10 → p (u / 10) → p u) : ∀ u, p u := by
  intro u
  induction u using Nat.strongRecOn with
  | _ u ih =>
    by_cases h : u < 10
    · exact h1 u h
    · exact h2 u h (ih _ (by omega))
theorem dd_digit : ∀ (u : Nat), ∀ b ∈ decDigits u, 48 ≤ b.toNat ∧ b.toNat ≤ 57 :=
  dd_ind (fun u h b hb => by
    rw [dd_small h, List.mem_singleton] at hb
    rw [hb, dig_nat h]; omega) (fun u h ih b hb => by
    rw [dd_big h, List.mem_append, List.mem_singleton] at hb
    rcases hb with hb | rfl
    · exact ih b hb
    · rw [dig_nat (by omega)]; omega)
theorem dd_ne (u : Nat) : decDigits u ≠ [] := by
  by_cases h : u < 10
  · rw [dd_small h]; simp
  · rw [dd_big h]; simp
def valD (n : Nat) (l : List UInt8) : Nat := l.foldl (fun n b => 10 * n + (b.toNat - 48)) n
theorem dd_val : ∀ u, valD 0 (decDigits u) = u :=
  dd_ind (fun u h => by rw [dd_small h]; simp only [valD, List.foldl_cons, List.foldl_nil, dig_nat h]; omega)
    (fun u h ih => by
      rw [dd_big h]
      unfold valD at *
      rw [List.foldl_append, ih]
      simp only [List.foldl_cons, List.foldl_nil, dig_nat (show u % 10 < 10 by omega)]
      omega)
theorem dd_len : ∀ (k u : Nat), u < 10 ^ (k + 1) → (decDigits u).length ≤ k + 1
  | 0, u, h => by rw [dd_small (by simpa using h)]; simp
  | k + 1, u, h => by
    by_cases h1 : u < 10
    · rw [dd_small h1]; simp
    · rw [dd_big h1, List.length_append]
      have := dd_len k (u / 10) (by rw [Nat.pow_succ] at h; omega)
      simp only [List.length_singleton]; omega
theorem itoa_len {n : Int} (h : -9223372036854775808 ≤ n ∧ n ≤ 9223372036854775807) : (itoa n).length ≤ 20 := by
  unfold itoa
  split
  · have := dd_len 18 n.natAbs (by omega)
    simp only [List.length_cons]; omega
  · have := dd_len 18 n.toNat (by omega)
    omega
theorem itoa_ok {n : Int} (h : -9223372036854775808 ≤ n ∧ n ≤ 9223372036854775807) : m_itoa n = some (bs (itoa n)) := by
  unfold m_itoa; rw [if_pos h]; rfl
def litL (l : Int) : List UInt8 := itoa l ++ [32]
def lineL (c : List Int) : List UInt8 := c.flatMap litL ++ [48, 10]
def headL (f : Formula) : List UInt8 := [112, 32, 99, 110, 102, 32] ++ itoa f.vars ++ [32] ++ itoa (f.clauses.length : Int) ++ [10]
def fmtL (f : Formula) : List UInt8 := headL f ++ f.clauses.flatMap lineL
def Fits (cs : List (List Int)) : Prop := cs.length ≤ 10000 ∧ ∀ c ∈ cs, c.length ≤ 10000
theorem litL_len {l : Int} (h : -9223372036854775808 ≤ l ∧ l ≤ 9223372036854775807) : (litL l).length ≤ 21 := by
  have := itoa_len h
  unfold litL; simp only [List.length_append, List.length_singleton]; omega
theorem lits_len {c : List Int} (h : ∀ l ∈ c, -9223372036854775808 ≤ l ∧ l ≤ 9223372036854775807) : (c.flatMap litL).length ≤ 21 * c.length := by
  induction c with
  | nil => simp
  | cons x c ih =>
    rw [List.flatMap_cons, List.length_append, List.length_cons]
    have := litL_len (h x (List.mem_cons_self ..))
    have := ih fun l hl => h l (List.mem_cons_of_mem _ hl)
    omega
theorem lineL_len {c : List Int} (h : ∀ l ∈ c, -9223372036854775808 ≤ l ∧ l ≤ 9223372036854775807) (hc : c.length ≤ 10000) : (lineL c).length ≤ 210002 := by
  have := lits_len h
  unfold lineL; simp only [List.length_append, List.length_cons, List.length_nil]; omega
theorem lines_len : ∀ {cs : List (List Int)}, (∀ c ∈ cs, c.length ≤ 10000 ∧ ∀ l ∈ c, -9223372036854775808 ≤ l ∧ l ≤ 9223372036854775807) → (cs.flatMap lineL).length ≤ 210002 * cs.length
  | [], _ => by simp
  | c :: cs, h => by
    rw [List.flatMap_cons, List.length_append, List.length_cons]
    have h1 := h c (List.mem_cons_self ..)
    have := lineL_len h1.2 h1.1
    have := lines_len (cs := cs) fun d hd => h d (List.mem_cons_of_mem _ hd)
    omega
theorem flatMap_take {α β : Type} (g : α → List β) {l : List α} {k : Nat} {a : α} (h : l[k]? = some a) : (l.take (k + 1)).flatMap g = (l.take k).flatMap g ++ g a := by
  rw [take_snoc_of h, List.flatMap_append]; simp
end Go.Proofs.YtfajmelamonolaaGreatDoor

/- The program's Parse: lines, words, numbers; it inverts Format. -/
set_option linter.unusedVariables false
set_option linter.unusedSimpArgs false
namespace Go.Proofs.YtfajmelamonolaaGreatDoor
open Go.RowKit Go.Lib
def preC (c : UInt8) (l : List UInt8) : List UInt8 := l.takeWhile (· != c)
def rstC (c : UInt8) (l : List UInt8) : List UInt8 := (l.dropWhile (· != c)).drop 1
theorem preC_app {c : UInt8} : ∀ {x r : List UInt8}, c ∉ x → preC c (x ++ c :: r) = x ∧ rstC c (x ++ c :: r) = r
  | [], r, _ => by simp [preC, rstC]
  | b :: x, r, h => by
    have hb : (b != c) = true := by simp; intro e; exact h (by rw [e]; exact List.mem_cons_self ..)
    have := preC_app (c := c) (x := x) (r := r) (fun hm => h (List.mem_cons_of_mem _ hm))
    unfold preC rstC at *
    rw [List.cons_append, List.takeWhile_cons, List.dropWhile_cons, if_pos hb, if_pos hb, this.1, this.2]
    exact ⟨rfl, rfl⟩
theorem preC_none {c : UInt8} : ∀ {x : List UInt8}, c ∉ x → preC c x = x ∧ rstC c x = []
  | [], _ => by simp [preC, rstC]
  | b :: x, h => by
    have hb : (b != c) = true := by simp; intro e; exact h (by rw [e]; exact List.mem_cons_self ..)
    have := preC_none (c := c) (x := x) (fun hm => h (List.mem_cons_of_mem _ hm))
    unfold preC rstC at *
    rw [List.takeWhile_cons, List.dropWhile_cons, if_pos hb, if_pos hb, this.1, this.2]
    exact ⟨rfl, rfl⟩
theorem split_at (c : UInt8) : ∀ (l : List UInt8), c ∈ l → ∃ x r, l = x ++ c :: r ∧ c ∉ x
  | [], h => by simp at h
  | b :: l, h => by
    by_cases hb : b = c
    · exact ⟨[], l, by rw [hb]; rfl, by simp⟩
    · obtain ⟨x, r, h1, h2⟩ := split_at c l (by rcases List.mem_cons.1 h with h | h; exact absurd h.symm hb; exact h)
      exact ⟨b :: x, r, by rw [h1]; rfl, by simp [h2]; exact fun e => hb e.symm⟩
theorem index_app {c : UInt8} {x r : List UInt8} (h : c ∉ x) : index (x ++ c :: r) [c] = x.length := by
  refine index_first (by simp) ?_ fun j hj => ?_
  · simp [occAt, List.isPrefixOf]
  · unfold occAt
    have hlt : j < (x ++ c :: r).length := by simp; omega
    rw [List.drop_eq_getElem_cons hlt]
    have : (x ++ c :: r)[j] = x[j] := List.getElem_append_left hj
    rw [this]
    have hne : ¬ c = x[j] := fun e => h (e ▸ List.getElem_mem hj)
    simp [List.isPrefixOf, hne]
theorem index_no {c : UInt8} {x : List UInt8} (h : c ∉ x) : index x [c] = -1 := by
  refine index_none fun j hj => ?_
  unfold occAt
  by_cases hlt : j < x.length
  · rw [List.drop_eq_getElem_cons hlt]
    have hne : ¬ c = x[j] := fun e => h (e ▸ List.getElem_mem hlt)
    simp [List.isPrefixOf, hne]
  · rw [List.drop_eq_nil_of_le (by omega)]; rfl
theorem cut_eq (c : UInt8) (l : List UInt8) : (Lib.cut l [c]).1 = preC c l ∧ (Lib.cut l [c]).2.1 = rstC c l := by
  unfold Lib.cut
  by_cases h : c ∈ l
  · obtain ⟨x, r, rfl, hx⟩ := split_at c l h
    rw [index_app hx, if_pos (by omega), (preC_app hx).1, (preC_app hx).2]
    simp
  · rw [index_no h, if_neg (by decide), (preC_none h).1, (preC_none h).2]
    exact ⟨rfl, rfl⟩
def splitC (c : UInt8) : List UInt8 → List (List UInt8)
  | [] => [[]]
  | b :: r => if b = c then [] :: splitC c r else match splitC c r with
    | [] => [[b]]
    | w :: ws => (b :: w) :: ws
theorem splitC_none {c : UInt8} : ∀ {x : List UInt8}, c ∉ x → splitC c x = [x]
  | [], _ => rfl
  | b :: x, h => by
    have hb : ¬ b = c := fun e => h (by rw [e]; exact List.mem_cons_self ..)
    unfold splitC
    rw [if_neg hb, splitC_none (fun hm => h (List.mem_cons_of_mem _ hm))]
theorem splitC_app {c : UInt8} : ∀ {x r : List UInt8}, c ∉ x → splitC c (x ++ c :: r) = x :: splitC c r
  | [], r, _ => by rw [List.nil_append, splitC, if_pos rfl]
  | b :: x, r, h => by
    have hb : ¬ b = c := fun e => h (by rw [e]; exact List.mem_cons_self ..)
    rw [List.cons_append, splitC, if_neg hb, splitC_app (fun hm => h (List.mem_cons_of_mem _ hm))]
theorem splitC_len (c : UInt8) : ∀ (l : List UInt8), 1 ≤ (splitC c l).length ∧ (splitC c l).length ≤ l.length + 1
  | [] => by simp [splitC]
  | b :: r => by
    have := splitC_len c r
    unfold splitC
    by_cases hb : b = c
    · rw [if_pos hb]; simp only [List.length_cons]; omega
    · rw [if_neg hb]
      cases h : splitC c r with
      | nil => rw [h] at this; simp at this
      | cons w ws => rw [h] at this; simp only [List.length_cons] at *; omega
theorem splitC_word (c : UInt8) : ∀ (l : List UInt8), ∀ w ∈ splitC c l, w.length ≤ l.length
  | [], w, h => by simp [splitC] at h; simp [h]
  | b :: r, w, h => by
    have ih := splitC_word c r
    unfold splitC at h
    by_cases hb : b = c
    · rw [if_pos hb] at h
      rcases List.mem_cons.1 h with rfl | h
      · simp
      · have := ih w h; simp only [List.length_cons]; omega
    · rw [if_neg hb] at h
      cases hs : splitC c r with
      | nil => have := splitC_len c r; rw [hs] at this; simp at this
      | cons v vs =>
        rw [hs] at h ih
        simp only at h
        rcases List.mem_cons.1 h with rfl | h
        · have := ih v (List.mem_cons_self ..); simp only [List.length_cons]; omega
        · have := ih w (List.mem_cons_of_mem _ h); simp only [List.length_cons]; omega
theorem splitK_eq (c : UInt8) : ∀ (n : Nat) (l : List UInt8), l.length ≤ n → splitK [c] 0 (l.count c) l = splitC c l := by
  intro n
  induction n with
  | zero => intro l hl; have : l = [] := List.eq_nil_of_length_eq_zero (by omega); subst this; rfl
  | succ n ih =>
    intro l hl
    by_cases h : c ∈ l
    · obtain ⟨x, r, rfl, hx⟩ := split_at c l h
      have hc : (x ++ c :: r).count c = r.count c + 1 := by
        rw [List.count_append, List.count_cons_self, List.count_eq_zero.2 hx]; omega
      rw [hc, splitC_app hx]
      unfold splitK
      rw [index_app hx, if_neg (by simp)]
      simp only [Nat.add_zero, Int.toNat_natCast, List.length_singleton]
      rw [List.take_left' rfl, show List.drop (x.length + 1) (x ++ c :: r) = r by simp]
      simp only [List.length_append, List.length_cons] at hl
      rw [ih r (by omega)]
    · rw [List.count_eq_zero.2 h, splitC_none h]; rfl
theorem split_ok {l : List UInt8} (h : l.length ≤ 1000000) : m_split (bs l) (ByteArray.mk #[32]) = some ((splitC 32 l).map bs) := by
  have hc : countB (bs l) (ByteArray.mk #[32]) = l.count 32 := by
    rw [← count_one]
    show Lib.count (bs l).data.toList _ = _
    rw [bs_data]
  have hle : l.count 32 ≤ l.length := List.count_le_length
  unfold m_split
  rw [if_pos ⟨by rw [bs_size]; omega, by decide, by rw [hc]; omega⟩, hc]
  congr 1
  have h1 := splitB_data (ByteArray.mk #[32]) 0 (l.count 32) (bs l)
  rw [bs_data, show (ByteArray.mk #[32]).data.toList = [32] from rfl, splitK_eq 32 l.length l (Nat.le_refl _)] at h1
  rw [← h1, List.map_map]
  have : (bs ∘ fun x : ByteArray => x.data.toList) = id := by funext x; exact bs_of x
  rw [this, List.map_id]
theorem cut_ok {l : List UInt8} (h : l.length ≤ 1000000) : ∃ b, m_cut (bs l) (ByteArray.mk #[10]) = some (bs (preC 10 l), bs (rstC 10 l), b) := by
  unfold m_cut
  rw [if_pos (by rw [bs_size]; omega), bs_data]
  have h1 := cut_eq 10 l
  exact ⟨_, by rw [show (ByteArray.mk #[10]).data.toList = [10] from rfl, h1.1, h1.2]; rfl⟩
theorem rst_len {c : UInt8} {l : List UInt8} (h : l ≠ []) : (rstC c l).length < l.length := by
  by_cases hm : c ∈ l
  · obtain ⟨x, r, rfl, hx⟩ := split_at c l hm
    rw [(preC_app hx).2]; simp; omega
  · rw [(preC_none hm).2]
    cases l with
    | nil => exact absurd rfl h
    | cons b l => simp
theorem pre_len (c : UInt8) (l : List UInt8) : (preC c l).length ≤ l.length := by
  unfold preC
  exact (List.takeWhile_sublist _).length_le
def pfold {σ ε : Type} (step : List UInt8 → σ → Step σ ε) : Nat → List UInt8 → σ → Step σ ε
  | 0, _, s => .next s
  | n + 1, l, s => if l = [] then .next s else match step (preC 10 l) s with
    | .next s' => pfold step n (rstC 10 l) s'
    | .done r => .done r
theorem bs_nil {l : List UInt8} : bs l = ByteArray.mk #[] ↔ l = [] := by
  constructor
  · intro h; exact bs_inj (h.trans rfl)
  · rintro rfl; rfl
def atoiV (w : List UInt8) : Int := match Lib.atoiAll w with | .ok v => v | .range => Lib.atoiSat w | _ => 0
theorem atoi_ok {w : List UInt8} (h : w.length ≤ 1000000) : m_atoi (bs w) = some (atoiV w) := by
  unfold m_atoi atoiV
  rw [if_pos (by rw [bs_size]; omega), bs_data]
  rfl
theorem valD_ge : ∀ (l : List UInt8) (acc : Nat), acc ≤ valD acc l
  | [], acc => Nat.le_refl _
  | b :: l, acc => by
    have := valD_ge l (10 * acc + (b.toNat - 48))
    show acc ≤ valD (10 * acc + (b.toNat - 48)) l
    omega
theorem parse_digits : ∀ (l : List UInt8) (acc : Nat), (∀ b ∈ l, 48 ≤ b.toNat ∧ b.toNat ≤ 57) → valD acc l ≤ 1000000000000000000 → parseUint10 acc l = .ok (valD acc l)
  | [], acc, _, _ => rfl
  | b :: l, acc, hd, hv => by
    have hb := hd b (List.mem_cons_self ..)
    have hv' : valD (10 * acc + (b.toNat - 48)) l ≤ 1000000000000000000 := hv
    have hge := valD_ge l (10 * acc + (b.toNat - 48))
    unfold parseUint10
    rw [if_pos hb, if_neg (by omega), if_neg (by omega), show acc * 10 + (b.toNat - 48) = 10 * acc + (b.toNat - 48) by omega, parse_digits l _ (fun c hc => hd c (List.mem_cons_of_mem _ hc)) hv']
    rfl
theorem dd_cons (u : Nat) : ∃ b r, decDigits u = b :: r ∧ 48 ≤ b.toNat ∧ b.toNat ≤ 57 := by
  cases h : decDigits u with
  | nil => exact absurd h (dd_ne u)
  | cons b r => exact ⟨b, r, rfl, dd_digit u b (by rw [h]; exact List.mem_cons_self ..)⟩
theorem atoi_itoa {n : Int} (h : -1000000000000000000 ≤ n ∧ n ≤ 1000000000000000000) : atoiV (itoa n) = n := by
  unfold atoiV itoa
  by_cases h0 : n < 0
  · rw [if_pos h0]
    have hp : parseMag (decDigits n.natAbs) = .ok n.natAbs := by
      unfold parseMag
      rw [if_neg (dd_ne _), parse_digits _ 0 (dd_digit _) (by rw [dd_val]; omega), dd_val]
    have h1 : atoiAll (45 :: decDigits n.natAbs) = .ok n := by
      unfold atoiAll
      have e : (45 : UInt8).toNat = 45 := rfl
      simp only [e, or_true, if_true, hp, not_true_eq_false, false_and, if_false, true_and]
      rw [if_neg (by omega)]
      congr 1
      omega
    rw [h1]
  · rw [if_neg h0]
    obtain ⟨b, r, hb, h1, h2⟩ := dd_cons n.toNat
    have hp : parseMag (decDigits n.toNat) = .ok n.toNat := by
      unfold parseMag
      rw [if_neg (dd_ne _), parse_digits _ 0 (dd_digit _) (by rw [dd_val]; omega), dd_val]
    have h3 : atoiAll (decDigits n.toNat) = .ok n := by
      rw [hb] at hp ⊢
      unfold atoiAll
      have e1 : ¬ b.toNat = 43 := by omega
      have e2 : ¬ b.toNat = 45 := by omega
      simp only [e1, e2, or_self, if_false, hp, not_false_eq_true, true_and, false_and]
      rw [if_neg (by omega)]
      congr 1
      omega
    rw [h3]
abbrev PS := List (List Int) × Bool × Int
def pstep (line : List UInt8) (s : PS) : Step PS (Formula × Int) :=
  if s.2.1 = true then (if (splitC 32 line).length ≠ 4 then .done (⟨0, []⟩, 3) else .next (s.1, false, atoiV ((splitC 32 line).getD 2 [])))
  else .next (s.1 ++ [(splitC 32 line).dropLast.map atoiV], s.2.1, s.2.2)
theorem itoa_mem {n : Int} : ∀ b ∈ itoa n, b ≠ 32 ∧ b ≠ 10 := by
  intro b hb
  have hd : ∀ u, b ∈ decDigits u → b ≠ 32 ∧ b ≠ 10 := fun u hu => by
    have := dd_digit u b hu
    refine ⟨fun e => ?_, fun e => ?_⟩
    · rw [e] at this; exact absurd this.1 (by decide)
    · rw [e] at this; exact absurd this.1 (by decide)
  unfold itoa at hb
  split at hb
  · rcases List.mem_cons.1 hb with rfl | hb
    · exact ⟨by decide, by decide⟩
    · exact hd _ hb
  · exact hd _ hb
theorem split_lits : ∀ (c : List Int) (r : List UInt8), splitC 32 (c.flatMap litL ++ r) = c.map itoa ++ splitC 32 r
  | [], r => rfl
  | l :: c, r => by
    rw [List.flatMap_cons, List.append_assoc]
    rw [show litL l ++ (c.flatMap litL ++ r) = itoa l ++ 32 :: (c.flatMap litL ++ r) by unfold litL; simp, splitC_app (fun hm => (itoa_mem _ hm).1 rfl), split_lits c r]
    rfl
theorem lits_no {c : List Int} : (10 : UInt8) ∉ c.flatMap litL := by
  intro h
  obtain ⟨l, _, hl⟩ := List.mem_flatMap.1 h
  unfold litL at hl
  rcases List.mem_append.1 hl with hl | hl
  · exact (itoa_mem _ hl).2 rfl
  · simp at hl
theorem pfold_next {σ ε : Type} {step : List UInt8 → σ → Step σ ε} {x r : List UInt8} {s s' : σ} {n : Nat} (hx : (10 : UInt8) ∉ x) (hn : (x ++ 10 :: r).length ≤ n) (hs : step x s = .next s') :
    ∃ m, r.length ≤ m ∧ pfold step n (x ++ 10 :: r) s = pfold step m r s' := by
  cases n with
  | zero => simp at hn
  | succ n =>
    refine ⟨n, by simp only [List.length_append, List.length_cons] at hn; omega, ?_⟩
    rw [pfold, if_neg (by simp), (preC_app hx).1, (preC_app hx).2, hs]
theorem pfold_nil {σ ε : Type} {step : List UInt8 → σ → Step σ ε} {s : σ} : ∀ {n : Nat}, pfold step n [] s = .next s
  | 0 => rfl
  | n + 1 => by rw [pfold, if_pos rfl]
def Wide (c : List Int) : Prop := ∀ l ∈ c, -1000000000000000000 ≤ l ∧ l ≤ 1000000000000000000
theorem map_back : ∀ {c : List Int}, Wide c → (c.map itoa).map atoiV = c
  | [], _ => rfl
  | l :: c, h => by
    rw [List.map_cons, List.map_cons, atoi_itoa (h l (List.mem_cons_self ..)), map_back fun m hm => h m (List.mem_cons_of_mem _ hm)]
theorem pfold_lines : ∀ (cs acc : List (List Int)) (v : Int) (n : Nat), (∀ c ∈ cs, Wide c) → (cs.flatMap lineL).length ≤ n → pfold pstep n (cs.flatMap lineL) (acc, false, v) = .next (acc ++ cs, false, v)
  | [], acc, v, n, _, _ => by rw [List.flatMap_nil, pfold_nil, List.append_nil]
  | c :: cs, acc, v, n, h, hn => by
    have e : (c :: cs).flatMap lineL = (c.flatMap litL ++ [48]) ++ 10 :: cs.flatMap lineL := by
      rw [List.flatMap_cons]; unfold lineL; simp
    have h10 : (10 : UInt8) ∉ c.flatMap litL ++ [48] := by
      intro hm
      rcases List.mem_append.1 hm with hm | hm
      · exact lits_no hm
      · simp at hm
    have hs : pstep (c.flatMap litL ++ [48]) (acc, false, v) = .next (acc ++ [c], false, v) := by
      unfold pstep
      rw [if_neg (by simp), split_lits, splitC_none (by decide)]
      simp only [List.dropLast_concat]
      rw [map_back (h c (List.mem_cons_self ..))]
    rw [e] at hn ⊢
    obtain ⟨m, hm, he⟩ := pfold_next h10 hn hs
    rw [he, pfold_lines cs (acc ++ [c]) v m (fun d hd => h d (List.mem_cons_of_mem _ hd)) hm]
    simp
theorem valid_wide {f : Formula} (hv : validB f = true) : ∀ c ∈ f.clauses, Wide c := fun c hc l hl => by
  have := valid_lit hv hc hl
  have := valid_bnd hv
  omega
theorem pfold_fmt {f : Formula} (hv : validB f = true) {n : Nat} (hn : (fmtL f).length ≤ n) : pfold pstep n (fmtL f) ([], true, 0) = .next (f.clauses, false, f.vars) := by
  have hb := valid_bnd hv
  have e : fmtL f = ([112, 32, 99, 110, 102, 32] ++ itoa f.vars ++ [32] ++ itoa (f.clauses.length : Int)) ++ 10 :: f.clauses.flatMap lineL := by
    unfold fmtL headL; simp
  have h10 : (10 : UInt8) ∉ ([112, 32, 99, 110, 102, 32] ++ itoa f.vars ++ [32] ++ itoa (f.clauses.length : Int)) := by
    intro hm
    simp only [List.mem_append] at hm
    rcases hm with ((hm | hm) | hm) | hm
    · revert hm; decide
    · exact (itoa_mem _ hm).2 rfl
    · revert hm; decide
    · exact (itoa_mem _ hm).2 rfl
  have hsp : splitC 32 ([112, 32, 99, 110, 102, 32] ++ itoa f.vars ++ [32] ++ itoa (f.clauses.length : Int)) = [[112], [99, 110, 102], itoa f.vars, itoa (f.clauses.length : Int)] := by
    have e1 : ([112, 32, 99, 110, 102, 32] ++ itoa f.vars ++ [32] ++ itoa (f.clauses.length : Int)) = [112] ++ 32 :: ([99, 110, 102] ++ 32 :: (itoa f.vars ++ 32 :: itoa (f.clauses.length : Int))) := by simp
    rw [e1, splitC_app (by decide), splitC_app (by decide), splitC_app (fun hm => (itoa_mem _ hm).1 rfl), splitC_none (fun hm => (itoa_mem _ hm).1 rfl)]
  have hs : pstep ([112, 32, 99, 110, 102, 32] ++ itoa f.vars ++ [32] ++ itoa (f.clauses.length : Int)) ([], true, 0) = .next ([], false, f.vars) := by
    unfold pstep
    rw [if_pos rfl, hsp, if_neg (by simp)]
    show Step.next (_, _, atoiV (itoa f.vars)) = _
    rw [atoi_itoa (by omega)]
  rw [e] at hn ⊢
  obtain ⟨m, hm, he⟩ := pfold_next h10 hn hs
  rw [he, pfold_lines f.clauses [] f.vars m (valid_wide hv) hm]
  rfl
def ParseSpec (l : List UInt8) (r : Formula × Int) : Prop :=
  (∃ f, validB f = true ∧ Fits f.clauses ∧ l = fmtL f ∧ r = (f, 0)) ∨ ((∀ f, validB f = true → Fits f.clauses → l ≠ fmtL f) ∧ r = (⟨0, []⟩, 3))
theorem fmtL_inj {f g : Formula} (hf : validB f = true) (hg : validB g = true) (h : fmtL f = fmtL g) : f = g := by
  have h1 := pfold_fmt hf (Nat.le_refl _)
  have h2 := pfold_fmt hg (Nat.le_refl _)
  rw [h, h2] at h1
  simp only [Step.next.injEq, Prod.mk.injEq] at h1
  obtain ⟨fv, fc⟩ := f
  obtain ⟨gv, gc⟩ := g
  simp only at h1
  rw [h1.1, h1.2.2]
theorem ParseSpec.eq {l : List UInt8} {r r' : Formula × Int} (h : ParseSpec l r) (h' : ParseSpec l r') : r = r' := by
  rcases h with ⟨f, hv, hf, rfl, rfl⟩ | ⟨h, rfl⟩
  · rcases h' with ⟨g, hv', hg, he, rfl⟩ | ⟨h', rfl⟩
    · rw [fmtL_inj hv hv' he]
    · exact absurd rfl (h' f hv hf)
  · rcases h' with ⟨g, hv', hg, rfl, rfl⟩ | ⟨h', rfl⟩
    · exact absurd rfl (h g hv' hg)
    · rfl
def PInv (s : PS) (n : Nat) : Prop := s.1.length + n ≤ 10000 ∧ ∀ c ∈ s.1, c.length ≤ 10000
theorem PInv.step {line : List UInt8} {s s' : PS} {n : Nat} (h : PInv s (n + 1)) (hl : line.length ≤ n + 1) (hs : pstep line s = .next s') : PInv s' n := by
  obtain ⟨h1, h2⟩ := h
  unfold pstep at hs
  split at hs
  · split at hs
    · cases hs
    · simp only [Step.next.injEq] at hs
      subst hs
      exact ⟨by simp only; omega, h2⟩
  · simp only [Step.next.injEq] at hs
    subst hs
    refine ⟨by simp only [List.length_append, List.length_singleton]; omega, fun c hc => ?_⟩
    rcases List.mem_append.1 hc with hc | hc
    · exact h2 c hc
    · rw [List.mem_singleton] at hc
      subst hc
      have := splitC_len 32 line
      rw [List.length_map, List.length_dropLast]; omega
end Go.Proofs.YtfajmelamonolaaGreatDoor

/- The reference's Parse: it reads what Format writes, and nothing else. -/
set_option linter.unusedVariables false
set_option linter.unusedSimpArgs false
namespace Go.Proofs.YtfajmelamonolaaGreatDoor
open Go.RowKit Go.Lib
def Sm (v : Int) : Prop := -999999999 ≤ v ∧ v ≤ 999999999
def NL (c : List Int) : Prop := ∀ l ∈ c, Sm l ∧ l ≠ 0
theorem NL.wide {c : List Int} (h : NL c) : Wide c := fun l hl => by
  have := (h l hl).1; unfold Sm at this; omega
end Go.Proofs.YtfajmelamonolaaGreatDoor

/- Proofs as texts: Format and Parse, of the program and of the reference. -/
set_option linter.unusedVariables false
set_option linter.unusedSimpArgs false
namespace Go.Proofs.YtfajmelamonolaaGreatDoor
open Go.RowKit Go.Lib
def fmtP (p : List (List Int)) : List UInt8 := if provB 65536 p = true then p.flatMap lineL else []
theorem Fits.plen {p : List (List Int)} (h : Fits p) : PLen p := ⟨by have := h.1; omega, fun c hc => by have := h.2 c hc; omega⟩
theorem prov_lit {p : List (List Int)} (h : provB 65536 p = true) {c : List Int} (hc : c ∈ p) {l : Int} (hl : l ∈ c) : -65536 ≤ l ∧ l ≤ 65536 ∧ l ≠ 0 := by
  have h1 := clF_mem (Int.le_refl 0) ((provB_iff.1 h).1 c hc) l hl
  exact ⟨h1.1, h1.2.1, fun e => by rw [e] at h1; simp [vr] at h1⟩
theorem prov_nl {p : List (List Int)} (h : provB 65536 p = true) : ∀ c ∈ p, NL c := fun c hc l hl => by
  have := prov_lit h hc hl
  exact ⟨by unfold Sm; omega, this.2.2⟩
theorem fmt_line {x : List Int} (hc : x.length ≤ 10000) (h : ∀ l ∈ x, -9223372036854775808 ≤ l ∧ l ≤ 9223372036854775807) {acc : List UInt8} (ha : acc.length ≤ 2200000000) :
    loopM (fun s : Int × ByteArray => m_proof_Format_lp2 x s.1 s.2) (0, bs acc) = some (bs (acc ++ x.flatMap litL)) := by
  have htl : ∀ k, ((x.take k).flatMap litL).length ≤ 210000 := fun k => by
    have := lits_len (c := x.take k) fun l hl => h l (List.mem_of_mem_take hl)
    have : (x.take k).length ≤ x.length := by rw [List.length_take]; omega
    omega
  have hloop : ∃ b, loopM (fun s : Int × ByteArray => m_proof_Format_lp2 x s.1 s.2) (0, bs acc) = some b ∧ b = bs (acc ++ x.flatMap litL) := by
    refine loopN (body := fun s : Int × ByteArray => m_proof_Format_lp2 x s.1 s.2) x.length (fun k t => ((k : Int), t)) (fun k t => t = bs (acc ++ (x.take k).flatMap litL)) _ (t0 := bs acc) rfl (by simp) ?_ ?_
    · rintro k t hk rfl
      obtain ⟨l, hx⟩ := get_of_lt hk
      have hb := h l (mem_get hx)
      have hl := itoa_len hb
      have := htl k
      refine Or.inl ⟨_, ?_, rfl⟩
      have e1 : catK (bs (itoa l)) (ByteArray.mk #[32]) = some (bs (litL l)) := by
        rw [show (ByteArray.mk #[32]) = bs [32] from rfl, catK_bs (by simp only [List.length_singleton]; omega)]; rfl
      have hll := litL_len hb
      have e2 : m_WStr (bs (acc ++ (x.take k).flatMap litL)) (bs (litL l)) = some (bs (acc ++ (x.take (k + 1)).flatMap litL)) := by
        rw [wstr_bs (by simp only [List.length_append]; omega), flatMap_take litL hx, List.append_assoc]
      simp only [m_proof_Format_lp2, ltB hk, if_true, idx_nat hx, bsm, itoa_ok hb, e1, e2, inK_up hk (show x.length ≤ 9223372036854775807 by omega)]
    · rintro t rfl
      refine ⟨_, ?_, rfl⟩
      simp only [m_proof_Format_lp2, ltB', if_false, Bool.false_eq_true, List.take_length]
  obtain ⟨b, hb, rfl⟩ := hloop
  exact hb
theorem fmt_prog {p : List (List Int)} (hf : Fits p) : m_proof_Format p = some (bs (fmtP p)) := by
  unfold m_proof_Format fmtP
  rw [valid_ok ⟨by decide, by decide⟩ hf.plen, bsm]
  cases hv : provB 65536 p with
  | false => rw [if_pos (by simp), if_neg (by simp)]; rfl
  | true =>
    rw [if_neg (by simp), if_pos rfl]
    have hcl : ∀ c ∈ p, c.length ≤ 10000 ∧ ∀ l ∈ c, -9223372036854775808 ≤ l ∧ l ≤ 9223372036854775807 := fun c hc => ⟨hf.2 c hc, fun l hl => by have := prov_lit hv hc hl; omega⟩
    have htl : ∀ k, ((p.take k).flatMap lineL).length ≤ 2100020000 := fun k => by
      have := lines_len (cs := p.take k) fun c hc => hcl c (List.mem_of_mem_take hc)
      have : (p.take k).length ≤ p.length := by rw [List.length_take]; omega
      have := hf.1
      omega
    have hloop : ∃ b, loopM (fun s : Int × ByteArray => m_proof_Format_lp1 p s.1 s.2) (0, ByteArray.empty) = some b ∧ b = bs (p.flatMap lineL) := by
      refine loopN (body := fun s : Int × ByteArray => m_proof_Format_lp1 p s.1 s.2) p.length (fun k t => ((k : Int), t)) (fun k t => t = bs ((p.take k).flatMap lineL)) _ (t0 := ByteArray.empty) rfl rfl ?_ ?_
      · rintro k t hk rfl
        obtain ⟨x, hx⟩ := get_of_lt hk
        have hx2 := hcl x (mem_get hx)
        have hl := lits_len hx2.2
        have := htl k
        refine Or.inl ⟨_, ?_, rfl⟩
        have e5 : m_WStr (bs ((p.take k).flatMap lineL ++ x.flatMap litL)) (ByteArray.mk #[48, 10]) = some (bs ((p.take (k + 1)).flatMap lineL)) := by
          rw [show (ByteArray.mk #[48, 10]) = bs [48, 10] from rfl, wstr_bs (by simp only [List.length_append, List.length_cons, List.length_nil]; omega), flatMap_take lineL hx]
          unfold lineL
          simp only [List.append_assoc]
        simp only [m_proof_Format_lp1, ltB hk, if_true, idx_nat hx, bsm, fmt_line hx2.1 hx2.2 (acc := (p.take k).flatMap lineL) (by omega), e5, inK_up hk (show p.length ≤ 9223372036854775807 by have := hf.1; omega)]
      · rintro t rfl
        refine ⟨_, ?_, rfl⟩
        simp only [m_proof_Format_lp1, ltB', if_false, Bool.false_eq_true, List.take_length]
    obtain ⟨b, hb2, rfl⟩ := hloop
    rw [hb2, bsm]
    rfl
def parseF : Nat → List UInt8 → List (List Int)
  | 0, _ => []
  | n + 1, l => if l = [] then [] else (splitC 32 (preC 10 l)).dropLast.map atoiV :: parseF n (rstC 10 l)
theorem words_ok {ws : List (List UInt8)} (hw : ∀ w ∈ ws, w.length ≤ 1000000) (hl : ws.length ≤ 1000000) : loopM (fun s : Int × List Int => m_proof_Parse_lp2 (ws.map bs) s.1 s.2) (0, []) = some (ws.map atoiV) := by
  have h : ∃ b, loopM (fun s : Int × List Int => m_proof_Parse_lp2 (ws.map bs) s.1 s.2) (0, []) = some b ∧ b = ws.map atoiV := by
    refine loopN (body := fun s : Int × List Int => m_proof_Parse_lp2 (ws.map bs) s.1 s.2) ws.length (fun k t => ((k : Int), t)) (fun k t => t = (ws.take k).map atoiV) _ (t0 := []) rfl rfl ?_ ?_
    · rintro k t hk rfl
      obtain ⟨w, hw1⟩ := get_of_lt hk
      have hw2 : (ws.map bs)[k]? = some (bs w) := by rw [List.getElem?_map, hw1]; rfl
      refine Or.inl ⟨_, ?_, rfl⟩
      have e1 : app ((ws.take k).map atoiV) [atoiV w] = some ((ws.take (k + 1)).map atoiV) := by
        rw [app_ok (by simp only [List.length_map, List.length_take, List.length_singleton]; omega), take_snoc_of hw1, List.map_append]; rfl
      have e2 : (decide ((k : Int) < ((ws.map bs).length : Int))) = true := by simpa using hk
      simp only [m_proof_Parse_lp2, e2, if_true, idx_nat hw2, bsm, atoi_ok (hw w (mem_get hw1)), e1, inK_up hk (show ws.length ≤ 9223372036854775807 by omega)]
    · rintro t rfl
      have e2 : ¬ (decide ((ws.length : Int) < ((ws.map bs).length : Int))) = true := by simp
      exact ⟨_, by simp only [m_proof_Parse_lp2, e2, if_false, Bool.false_eq_true, List.take_length], rfl⟩
  obtain ⟨b, hb, rfl⟩ := h
  exact hb
theorem parse_prog_loop : ∀ (n : Nat) (l : List UInt8) (acc : List (List Int)), l.length ≤ n → acc.length + n ≤ 10000 →
    loopM (fun s : ByteArray × List (List Int) => m_proof_Parse_lp1 s.1 s.2) (bs l, acc) = some (acc ++ parseF n l)
  | 0, l, acc, hn, _ => by
    have : l = [] := List.eq_nil_of_length_eq_zero (by omega)
    subst this
    rw [parseF, List.append_nil]
    exact loopM_done (by simp [m_proof_Parse_lp1, show bs [] = ByteArray.mk #[] from rfl])
  | n + 1, l, acc, hn, ha => by
    by_cases h0 : l = []
    · subst h0
      rw [parseF, if_pos rfl, List.append_nil]
      exact loopM_done (by simp [m_proof_Parse_lp1, show bs [] = ByteArray.mk #[] from rfl])
    · have hne : ¬ bs l = ByteArray.mk #[] := fun e => h0 (bs_nil.1 e)
      have hrl := rst_len (c := 10) h0
      have hpl := pre_len 10 l
      obtain ⟨b, hcut⟩ := cut_ok (l := l) (by omega)
      have hsl := splitC_len 32 (preC 10 l)
      have hsw := splitC_word 32 (preC 10 l)
      have e1 : inK .i64 (((splitC 32 (preC 10 l)).length : Int) - 1) = some (((splitC 32 (preC 10 l)).length - 1 : Nat) : Int) := inK_at (by omega) ⟨by omega, by omega⟩
      have e2 : sub ((splitC 32 (preC 10 l)).map bs) 0 (((splitC 32 (preC 10 l)).length - 1 : Nat) : Int) = some ((splitC 32 (preC 10 l)).dropLast.map bs) := by
        rw [sub_ok (by omega) (by omega) (by rw [List.length_map]; omega)]
        simp only [Int.toNat_natCast, Int.toNat_zero, List.drop_zero, List.dropLast_eq_take, List.map_take, List.length_map]
      have e3 := words_ok (ws := (splitC 32 (preC 10 l)).dropLast) (fun w hw => by have := hsw w (List.dropLast_subset _ hw); omega) (by rw [List.length_dropLast]; omega)
      rw [loopM_next (body := fun s : ByteArray × List (List Int) => m_proof_Parse_lp1 s.1 s.2) (s := (bs l, acc)) (s' := (bs (rstC 10 l), acc ++ [(splitC 32 (preC 10 l)).dropLast.map atoiV])) ?_, parse_prog_loop n _ _ (by omega) (by simp; omega), parseF, if_neg h0, List.append_assoc, List.singleton_append]
      simp only [m_proof_Parse_lp1, hne, decide_false, Bool.not_false, if_true, hcut, bsm, split_ok (show (preC 10 l).length ≤ 1000000 by omega), List.length_map, e1, e2, e3, app_ok (show acc.length + [(splitC 32 (preC 10 l)).dropLast.map atoiV].length ≤ 4294967296 by simp; omega)]
theorem parseF_fits : ∀ (n : Nat) (l : List UInt8), l.length ≤ n → (parseF n l).length ≤ n ∧ ∀ c ∈ parseF n l, c.length ≤ n
  | 0, l, _ => by simp [parseF]
  | n + 1, l, hn => by
    unfold parseF
    split
    · simp
    · rename_i h0
      have hrl := rst_len (c := 10) h0
      have hpl := pre_len 10 l
      have hsl := splitC_len 32 (preC 10 l)
      have ih := parseF_fits n (rstC 10 l) (by omega)
      refine ⟨by simp; omega, fun c hc => ?_⟩
      rcases List.mem_cons.1 hc with rfl | hc
      · rw [List.length_map, List.length_dropLast]; omega
      · have := ih.2 c hc; omega
theorem parseF_lines : ∀ (cs : List (List Int)) (n : Nat), (∀ c ∈ cs, Wide c) → (cs.flatMap lineL).length ≤ n → parseF n (cs.flatMap lineL) = cs
  | [], n, _, _ => by cases n <;> simp [parseF]
  | c :: cs, n, h, hn => by
    have e : (c :: cs).flatMap lineL = (c.flatMap litL ++ [48]) ++ 10 :: cs.flatMap lineL := by
      rw [List.flatMap_cons]; unfold lineL; simp
    have h10 : (10 : UInt8) ∉ c.flatMap litL ++ [48] := by
      intro hm
      rcases List.mem_append.1 hm with hm | hm
      · exact lits_no hm
      · simp at hm
    rw [e] at hn ⊢
    cases n with
    | zero => simp at hn
    | succ n =>
      unfold parseF
      rw [if_neg (by simp), (preC_app h10).1, (preC_app h10).2, split_lits, splitC_none (by decide), parseF_lines cs n (fun d hd => h d (List.mem_cons_of_mem _ hd)) (by simp only [List.length_append, List.length_cons] at hn; omega)]
      simp only [List.dropLast_concat]
      rw [map_back (h c (List.mem_cons_self ..))]
def TSpec (l : List UInt8) (r : List (List Int) × Int) : Prop :=
  (∃ p, provB 65536 p = true ∧ l = p.flatMap lineL ∧ r = (p, 0)) ∨ ((∀ p, provB 65536 p = true → l ≠ p.flatMap lineL) ∧ r = ([], 3))
theorem lines_inj {p q : List (List Int)} (hp : ∀ c ∈ p, Wide c) (hq : ∀ c ∈ q, Wide c) (e : p.flatMap lineL = q.flatMap lineL) : p = q := by
  have h1 := parseF_lines p _ hp (Nat.le_refl _)
  have h2 := parseF_lines q (p.flatMap lineL).length hq (by rw [e]; exact Nat.le_refl _)
  rw [← e] at h2
  exact h1.symm.trans h2
theorem TSpec.eq {l : List UInt8} {r r' : List (List Int) × Int} (h : TSpec l r) (h' : TSpec l r') : r = r' := by
  rcases h with ⟨p, h1, h2, rfl⟩ | ⟨h1, rfl⟩ <;> rcases h' with ⟨q, k1, k2, rfl⟩ | ⟨k1, rfl⟩
  · rw [lines_inj (fun c hc => (prov_nl h1 c hc).wide) (fun c hc => (prov_nl k1 c hc).wide) (h2.symm.trans k2)]
  · exact absurd h2 (k1 p h1)
  · exact absurd k2 (h1 q k1)
  · rfl
theorem parse_prog {l : List UInt8} (hl : l.length ≤ 10000) : ∃ r, m_proof_Parse (bs l) = some r ∧ TSpec l r := by
  unfold m_proof_Parse
  rw [parse_prog_loop l.length l [] (Nat.le_refl _) (by simp; omega), bsm, List.nil_append]
  have hfit := parseF_fits l.length l (Nat.le_refl _)
  rw [fmt_prog (p := parseF l.length l) ⟨by omega, fun c hc => by have := hfit.2 c hc; omega⟩, bsm]
  by_cases he : bs (fmtP (parseF l.length l)) = bs l
  · rw [if_neg (by simp [he])]
    refine ⟨_, rfl, Or.inl ⟨parseF l.length l, ?_, ?_, rfl⟩⟩
    · have h1 := bs_inj he
      unfold fmtP at h1
      split at h1
      · assumption
      · rw [← h1]; rfl
    · have h1 := bs_inj he
      unfold fmtP at h1
      split at h1
      · exact h1.symm
      · rw [← h1]; rfl
  · rw [if_pos (by simp [he])]
    refine ⟨_, rfl, Or.inr ⟨fun p hp e => he ?_, rfl⟩⟩
    rw [e, parseF_lines p _ (fun c hc => (prov_nl hp c hc).wide) (Nat.le_refl _)]
    unfold fmtP
    rw [if_pos hp]
end Go.Proofs.YtfajmelamonolaaGreatDoor
